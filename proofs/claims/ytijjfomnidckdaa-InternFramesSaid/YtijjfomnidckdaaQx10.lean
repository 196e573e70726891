-- printed by a program of this session (NOTES: hprint); not the kit's print
-- minified3
-- minified2
-- minified
-- halved
import Derived.Test.YtijjfomnidckdaaQh10
import Derived.Test.YtijjfomnidckdaaOg
import Derived.Test.YtijjfomnidckdaaAl
import Derived.Test.YtijjfomnidckdaaQx0
import Derived.Test.YtijjfomnidckdaaQx3
import Derived.Test.YtijjfomnidckdaaQx5
import Derived.Test.YtijjfomnidckdaaQx7
import Derived.Test.YtijjfomnidckdaaQx8
import Derived.Test.YtijjfomnidckdaaQx9
namespace Go.Proofs.Ytijjfomnidckdaa.Q
open Go.RowKit Go.Proofs.YtijjfomnidckdaaW.PrintWords Go.Proofs.YtijjfomnidckdaaW.PrintLast Go.Proofs.YtijjfomnidckdaaW.PrintMore
attribute [local go_sem] max2_int min2_int max_two min_two max_three min_three max_four min_four   -- for this text's walks alone
set_option linter.unusedVariables false
set_option linter.unusedSimpArgs false
set_option maxHeartbeats 8000000 in
set_option maxRecDepth 100000 in
theorem shuttlecocklaw06_InternFrames.calls (k : Nat) (A0_0 : Option Addr) (c0_0 : Nat) (l0_0 : List ByteArray) (A0_1 : Option Addr) (c0_1 : Nat) (l0_1 : List (List (S50))) (a1_0 : ByteArray) (A1_1 : Option Addr) (c1_1 : Nat) (l1_1 : List (S45)) (a1_2 : Int) (r : Bool) (w : World) (hr0_0 : Kd.C Kd.string w A0_0 l0_0.length l0_0) (hc0_0 : l0_0.length ≤ c0_0) (hr0_1 : Kd.C (Kd.slice 50 k50) w A0_1 l0_1.length l0_1) (hc0_1 : l0_1.length ≤ c0_1) (hr1_1 : Kd.C k45 w A1_1 l1_1.length l1_1) (hc1_1 : l1_1.length ≤ c1_1) (h : shuttlecocklaw06_InternFrames.f k l0_0 l0_1 a1_0 l1_1 a1_2 = some r) :
  Calls Try.prog 7 #[.agg #[.slice A0_0 l0_0.length c0_0, .slice A0_1 l0_1.length c0_1], .agg #[.string a1_0, .slice A1_1 l1_1.length c1_1, .int .i64 a1_2]] w fun e w' => e = .returned (.bool r) ∧ Below w.heap.size w w' := by
 have hu25 := Try.underlying25
 have hu28 := Try.underlying28
 have hu45 := Try.underlying45
 have HR0_0 := Am hr0_0
 have HC0_0 := Am hc0_0
 clear hr0_0 hc0_0
 have HR0_1 := Am hr0_1
 have HC0_1 := Am hc0_1
 clear hr0_1 hc0_1
 have HR1_1 := Am hr1_1
 have HC1_1 := Am hc1_1
 clear hr1_1 hc1_1
 have HB := Am (Below.refl w.heap.size w)
 have H : ((shuttlecocklaw06_fixed.f k).bind fun t216 => (if t216 = true then ((shuttlecockref06_Small.f k l0_0 l0_1).bind fun t217 => (if t217 = true then ((shuttlecockref06_May.f k l0_0 l0_1).bind fun t218 => (if t218 = true then ((shuttlecockref06_Few.f k l1_1).bind fun t219 => (if t219 = true then (shuttlecocklaw06_InternFrames.j0 k (decide ((l1_1.length : Int) > 20)) l0_0 l0_1 a1_0 l1_1 a1_2) else (shuttlecocklaw06_InternFrames.j0 k true l0_0 l0_1 a1_0 l1_1 a1_2))) else (shuttlecocklaw06_InternFrames.j0 k true l0_0 l0_1 a1_0 l1_1 a1_2))) else (shuttlecocklaw06_InternFrames.j0 k true l0_0 l0_1 a1_0 l1_1 a1_2))) else (shuttlecocklaw06_InternFrames.j0 k true l0_0 l0_1 a1_0 l1_1 a1_2))) = some r := h
 clear h
 have HC3 := Am H
 clear H
 go_enter Try.func7, Try.ntmps7
 go_upto_region 1 with (first | ((with_reducible refine gate_dst (N := 2) rfl ?_); (try (refine gate_guard (by rfl) ?_; dsimp only)); refine box_event ?hg (N := 2) ?hd (cs := #[.slice A0_0 l0_0.length c0_0, .slice A0_1 l0_1.length c0_1]) (t := 25) ?hr ?_; (case hd => rfl); (case hg => rfl); (case hr => first | (go_simp; done) | (go_simp; rfl)); intro gb214 hg w4 hbox hb; have BK214 := Am (hbox); have GW214 := Am ((by rw [hg]; exact (below_size (by repeat (first | (with_reducible first | exact HB.out | apply bl | apply pN | apply b1) | exact HB.out | exact HBo.out))) : w.heap.size ≤ gb214)); have GE214 := GW214; replace HB := Am (below_step (by repeat (first | (with_reducible first | exact HB.out | apply bl | apply pN | apply b1) | exact HB.out | exact HBo.out)) hb); clear hb hbox hg) | ((with_reducible refine gate_dst (N := 3) rfl ?_); (try (refine gate_guard (by rfl) ?_; dsimp only)); refine box_event ?hg (N := 3) ?hd (cs := #[.string a1_0, .slice A1_1 l1_1.length c1_1, .int .i64 a1_2]) (t := 28) ?hr ?_; (case hd => rfl); (case hg => rfl); (case hr => first | (go_simp; done) | (go_simp; rfl)); intro gb215 hg w5 hbox hb; have BK215 := Am (hbox); have GW215 := Am ((by rw [hg]; exact (below_size (by repeat (first | (with_reducible first | exact HB.out | apply bl | apply pN | apply b1 | refine bs ?_ GE214.out) | exact HB.out | exact HBo.out))) : w.heap.size ≤ gb215)); have GE215 := GW215; have NB214_215 := Am ((by rw [hg]; exact Nat.ne_of_lt (blk_lt (g := gb214) (o := .cells #[.slice A0_0 l0_0.length c0_0, .slice A0_1 l0_1.length c0_1] 25 (0, 0)) (by (with_reducible repeat (first|apply bn|apply bd|apply ba)); exact BK214.out)) : gb214 ≠ gb215)); have NB215_214 := Am NB214_215.out.symm; replace BK214 := Am (blk_below (g := gb214) (o := .cells #[.slice A0_0 l0_0.length c0_0, .slice A0_1 l0_1.length c0_1] 25 (0, 0)) (by (with_reducible repeat (first|apply bn|apply bd|apply ba)); exact BK214.out) hb); replace HB := Am (below_step (by repeat (first | (with_reducible first | exact HB.out | apply bl | apply pN | apply b1 | refine bs ?_ GE214.out) | exact HB.out | exact HBo.out)) hb); clear hb hbox hg))
 (try simp only [Act.put, sI, sZ, sS])
 go_cut [35] (fun v35 wc => ∃ (kq : Nat) (x35_2 : Bool), v35 = .bool x35_2 ∧ Aside0 (shuttlecocklaw06_InternFrames.j0 kq x35_2 l0_0 l0_1 a1_0 l1_1 a1_2 = some r) ∧ Aside0 (kq ≤ k) ∧ Aside0 (wc.heap[gb214]? = some (.cells #[(.slice A0_0 l0_0.length c0_0), (.slice A0_1 l0_1.length c0_1)] 25 (0, 0))) ∧ Aside0 (wc.heap[gb215]? = some (.cells #[.string a1_0, (.slice A1_1 l1_1.length c1_1), .int .i64 a1_2] 28 (0, 0))) ∧ Aside0 (Below w.heap.size w wc))
 case first =>
  have H := HC3.out
  clear HC3
  replace H := ob H
  obtain ⟨t216, A60, H⟩ := H
  (try dsimp only at H)
  have A6 := Am A60
  clear A60
  by_cases c7 : t216 = true
  ·
   subst c7
   rw [if_pos rfl] at H
   replace H := ob H
   obtain ⟨t217, A80, H⟩ := H
   (try dsimp only at H)
   have A8 := Am A80
   clear A80
   by_cases c9 : t217 = true
   ·
    subst c9
    rw [if_pos rfl] at H
    replace H := ob H
    obtain ⟨t218, A100, H⟩ := H
    (try dsimp only at H)
    have A10 := Am A100
    clear A100
    by_cases c11 : t218 = true
    ·
     subst c11
     rw [if_pos rfl] at H
     replace H := ob H
     obtain ⟨t219, A120, H⟩ := H
     (try dsimp only at H)
     have A12 := Am A120
     clear A120
     by_cases c13 : t219 = true
     ·
      subst c13
      rw [if_pos rfl] at H
      have H' := Am H
      clear H
      go_wp2_with (first | ((with_reducible refine gate_callee (f := 10) rfl ?_); refine Own.gL_ (some 12) Try.func10 (#[]) (h := ?_); (with_reducible refine (shuttlecocklaw06_fixed.calls k  true _ A6.out).mono ?_); rintro e w14 ⟨rfl, hb⟩; refine ⟨_, rfl, ?_⟩; replace BK214 := Am (blk_below (g := gb214) (o := .cells #[.slice A0_0 l0_0.length c0_0, .slice A0_1 l0_1.length c0_1] 25 (0, 0)) (by (with_reducible repeat (first|apply bn|apply bd|apply ba)); exact BK214.out) hb); replace BK215 := Am (blk_below (g := gb215) (o := .cells #[.string a1_0, .slice A1_1 l1_1.length c1_1, .int .i64 a1_2] 28 (0, 0)) (by (with_reducible repeat (first|apply bn|apply bd|apply ba)); exact BK215.out) hb); replace HB := Am (below_step (by repeat (first | (with_reducible first | exact HB.out | apply bl | apply pN | apply b1 | refine bs ?_ GE214.out | refine bs ?_ GE215.out) | exact HB.out | exact HBo.out)) hb); clear hb; have hnb15 := NB214_215.out; have hnc15 := NB215_214.out; have hcz16_0 := Own.bc2 BK214.out 0; have hcz16_1 := Own.bc2 BK214.out 1; have hfz16_0 := bf BK214.out 0; have hfz16_1 := bf BK214.out 1) | (go_at_call 8; (with_reducible refine (shuttlecockref06_Small.calls k _ _ l0_0 _ _ l0_1 true _ ?side1 ?side2 ?side3 ?side4 A8.out).mono ?_); (case side1 => repeat (first | exact (Kd.C_below HR0_0.out HB.out) | (with_reducible refine Kd.C_alloc ?_ _) | (with_reducible refine Kd.C_drewN ?_ _) | (with_reducible refine Kd.C_drew ?_))); (case side2 => exact HC0_0.out); (case side3 => repeat (first | exact (Kd.C_below HR0_1.out HB.out) | (with_reducible refine Kd.C_alloc ?_ _) | (with_reducible refine Kd.C_drewN ?_ _) | (with_reducible refine Kd.C_drew ?_))); (case side4 => exact HC0_1.out); rintro e w17 ⟨rfl, hb⟩; replace BK214 := Am (blk_below (g := gb214) (o := .cells #[.slice A0_0 l0_0.length c0_0, .slice A0_1 l0_1.length c0_1] 25 (0, 0)) (by (with_reducible repeat (first|apply bn|apply bd|apply ba)); exact BK214.out) hb); replace BK215 := Am (blk_below (g := gb215) (o := .cells #[.string a1_0, .slice A1_1 l1_1.length c1_1, .int .i64 a1_2] 28 (0, 0)) (by (with_reducible repeat (first|apply bn|apply bd|apply ba)); exact BK215.out) hb); replace HB := Am (below_step (by repeat (first | (with_reducible first | exact HB.out | apply bl | apply pN | apply b1 | refine bs ?_ GE214.out | refine bs ?_ GE215.out) | exact HB.out | exact HBo.out)) hb); clear hb; have hcz18_0 := Own.bc2 BK214.out 0; have hcz18_1 := Own.bc2 BK214.out 1; have hfz18_0 := bf BK214.out 0; have hfz18_1 := bf BK214.out 1) | (go_at_call 20; (with_reducible refine (shuttlecockref06_May.calls k _ _ l0_0 _ _ l0_1 true _ ?side1 ?side2 ?side3 ?side4 A10.out).mono ?_); (case side1 => repeat (first | exact (Kd.C_below HR0_0.out HB.out) | (with_reducible refine Kd.C_alloc ?_ _) | (with_reducible refine Kd.C_drewN ?_ _) | (with_reducible refine Kd.C_drew ?_))); (case side2 => exact HC0_0.out); (case side3 => repeat (first | exact (Kd.C_below HR0_1.out HB.out) | (with_reducible refine Kd.C_alloc ?_ _) | (with_reducible refine Kd.C_drewN ?_ _) | (with_reducible refine Kd.C_drew ?_))); (case side4 => exact HC0_1.out); rintro e w19 ⟨rfl, hb⟩; replace BK214 := Am (blk_below (g := gb214) (o := .cells #[.slice A0_0 l0_0.length c0_0, .slice A0_1 l0_1.length c0_1] 25 (0, 0)) (by (with_reducible repeat (first|apply bn|apply bd|apply ba)); exact BK214.out) hb); replace BK215 := Am (blk_below (g := gb215) (o := .cells #[.string a1_0, .slice A1_1 l1_1.length c1_1, .int .i64 a1_2] 28 (0, 0)) (by (with_reducible repeat (first|apply bn|apply bd|apply ba)); exact BK215.out) hb); replace HB := Am (below_step (by repeat (first | (with_reducible first | exact HB.out | apply bl | apply pN | apply b1 | refine bs ?_ GE214.out | refine bs ?_ GE215.out) | exact HB.out | exact HBo.out)) hb); clear hb; have hcz20_0 := Own.bc2 BK215.out 0; have hcz20_1 := Own.bc2 BK215.out 1; have hcz20_2 := Own.bc2 BK215.out 2; have hfz20_0 := bf BK215.out 0; have hfz20_1 := bf BK215.out 1; have hfz20_2 := bf BK215.out 2) | (go_at_call 9; (with_reducible refine (shuttlecockref06_Few.calls k _ _ l1_1 true _ ?side1 ?side2 A12.out).mono ?_); (case side1 => repeat (first | exact (Kd.C_below HR1_1.out HB.out) | (with_reducible refine Kd.C_alloc ?_ _) | (with_reducible refine Kd.C_drewN ?_ _) | (with_reducible refine Kd.C_drew ?_))); (case side2 => exact HC1_1.out); rintro e w' ⟨rfl, ⟨nd, rfl⟩⟩))
      go_meet
      case rel => exact ⟨_, (decide ((l1_1.length : Int) > 20)), (by first | rfl | (simp; done) | (simp [*]; done)), H', ⟨by first | omega | exact Nat.le_refl _⟩, ⟨by (with_reducible repeat (first|apply bn|apply bd|apply ba)); exact BK214.out⟩, ⟨by (with_reducible repeat (first|apply bn|apply bd|apply ba)); exact BK215.out⟩, ⟨by repeat (first | (with_reducible first | exact HB.out | apply bl | apply pN | apply b1 | refine bs ?_ GE214.out | refine bs ?_ GE215.out) | exact HB.out | exact HBo.out)⟩⟩
     ·
      replace c13 := Bool.eq_false_iff.mpr c13
      subst c13
      rw [if_neg (show ¬ (false = true) by decide)] at H
      have H' := Am H
      clear H
      go_wp2_with (first | ((with_reducible refine gate_callee (f := 10) rfl ?_); refine Own.gL_ (some 12) Try.func10 (#[]) (h := ?_); (with_reducible refine (shuttlecocklaw06_fixed.calls k  true _ A6.out).mono ?_); rintro e w21 ⟨rfl, hb⟩; refine ⟨_, rfl, ?_⟩; replace BK214 := Am (blk_below (g := gb214) (o := .cells #[.slice A0_0 l0_0.length c0_0, .slice A0_1 l0_1.length c0_1] 25 (0, 0)) (by (with_reducible repeat (first|apply bn|apply bd|apply ba)); exact BK214.out) hb); replace BK215 := Am (blk_below (g := gb215) (o := .cells #[.string a1_0, .slice A1_1 l1_1.length c1_1, .int .i64 a1_2] 28 (0, 0)) (by (with_reducible repeat (first|apply bn|apply bd|apply ba)); exact BK215.out) hb); replace HB := Am (below_step (by repeat (first | (with_reducible first | exact HB.out | apply bl | apply pN | apply b1 | refine bs ?_ GE214.out | refine bs ?_ GE215.out) | exact HB.out | exact HBo.out)) hb); clear hb; have hnb22 := NB214_215.out; have hnc22 := NB215_214.out; have hcz23_0 := Own.bc2 BK214.out 0; have hcz23_1 := Own.bc2 BK214.out 1; have hfz23_0 := bf BK214.out 0; have hfz23_1 := bf BK214.out 1) | (go_at_call 8; (with_reducible refine (shuttlecockref06_Small.calls k _ _ l0_0 _ _ l0_1 true _ ?side1 ?side2 ?side3 ?side4 A8.out).mono ?_); (case side1 => repeat (first | exact (Kd.C_below HR0_0.out HB.out) | (with_reducible refine Kd.C_alloc ?_ _) | (with_reducible refine Kd.C_drewN ?_ _) | (with_reducible refine Kd.C_drew ?_))); (case side2 => exact HC0_0.out); (case side3 => repeat (first | exact (Kd.C_below HR0_1.out HB.out) | (with_reducible refine Kd.C_alloc ?_ _) | (with_reducible refine Kd.C_drewN ?_ _) | (with_reducible refine Kd.C_drew ?_))); (case side4 => exact HC0_1.out); rintro e w24 ⟨rfl, hb⟩; replace BK214 := Am (blk_below (g := gb214) (o := .cells #[.slice A0_0 l0_0.length c0_0, .slice A0_1 l0_1.length c0_1] 25 (0, 0)) (by (with_reducible repeat (first|apply bn|apply bd|apply ba)); exact BK214.out) hb); replace BK215 := Am (blk_below (g := gb215) (o := .cells #[.string a1_0, .slice A1_1 l1_1.length c1_1, .int .i64 a1_2] 28 (0, 0)) (by (with_reducible repeat (first|apply bn|apply bd|apply ba)); exact BK215.out) hb); replace HB := Am (below_step (by repeat (first | (with_reducible first | exact HB.out | apply bl | apply pN | apply b1 | refine bs ?_ GE214.out | refine bs ?_ GE215.out) | exact HB.out | exact HBo.out)) hb); clear hb; have hcz25_0 := Own.bc2 BK214.out 0; have hcz25_1 := Own.bc2 BK214.out 1; have hfz25_0 := bf BK214.out 0; have hfz25_1 := bf BK214.out 1) | (go_at_call 20; (with_reducible refine (shuttlecockref06_May.calls k _ _ l0_0 _ _ l0_1 true _ ?side1 ?side2 ?side3 ?side4 A10.out).mono ?_); (case side1 => repeat (first | exact (Kd.C_below HR0_0.out HB.out) | (with_reducible refine Kd.C_alloc ?_ _) | (with_reducible refine Kd.C_drewN ?_ _) | (with_reducible refine Kd.C_drew ?_))); (case side2 => exact HC0_0.out); (case side3 => repeat (first | exact (Kd.C_below HR0_1.out HB.out) | (with_reducible refine Kd.C_alloc ?_ _) | (with_reducible refine Kd.C_drewN ?_ _) | (with_reducible refine Kd.C_drew ?_))); (case side4 => exact HC0_1.out); rintro e w26 ⟨rfl, hb⟩; replace BK214 := Am (blk_below (g := gb214) (o := .cells #[.slice A0_0 l0_0.length c0_0, .slice A0_1 l0_1.length c0_1] 25 (0, 0)) (by (with_reducible repeat (first|apply bn|apply bd|apply ba)); exact BK214.out) hb); replace BK215 := Am (blk_below (g := gb215) (o := .cells #[.string a1_0, .slice A1_1 l1_1.length c1_1, .int .i64 a1_2] 28 (0, 0)) (by (with_reducible repeat (first|apply bn|apply bd|apply ba)); exact BK215.out) hb); replace HB := Am (below_step (by repeat (first | (with_reducible first | exact HB.out | apply bl | apply pN | apply b1 | refine bs ?_ GE214.out | refine bs ?_ GE215.out) | exact HB.out | exact HBo.out)) hb); clear hb; have hcz27_0 := Own.bc2 BK215.out 0; have hcz27_1 := Own.bc2 BK215.out 1; have hcz27_2 := Own.bc2 BK215.out 2; have hfz27_0 := bf BK215.out 0; have hfz27_1 := bf BK215.out 1; have hfz27_2 := bf BK215.out 2) | (go_at_call 9; (with_reducible refine (shuttlecockref06_Few.calls k _ _ l1_1 false _ ?side1 ?side2 A12.out).mono ?_); (case side1 => repeat (first | exact (Kd.C_below HR1_1.out HB.out) | (with_reducible refine Kd.C_alloc ?_ _) | (with_reducible refine Kd.C_drewN ?_ _) | (with_reducible refine Kd.C_drew ?_))); (case side2 => exact HC1_1.out); rintro e w' ⟨rfl, ⟨nd, rfl⟩⟩))
      go_meet
      case rel => exact ⟨_, (true), (by first | rfl | (simp; done) | (simp [*]; done)), H', ⟨by first | omega | exact Nat.le_refl _⟩, ⟨by (with_reducible repeat (first|apply bn|apply bd|apply ba)); exact BK214.out⟩, ⟨by (with_reducible repeat (first|apply bn|apply bd|apply ba)); exact BK215.out⟩, ⟨by repeat (first | (with_reducible first | exact HB.out | apply bl | apply pN | apply b1 | refine bs ?_ GE214.out | refine bs ?_ GE215.out) | exact HB.out | exact HBo.out)⟩⟩
    ·
     replace c11 := Bool.eq_false_iff.mpr c11
     subst c11
     rw [if_neg (show ¬ (false = true) by decide)] at H
     have H' := Am H
     clear H
     go_wp2_with (first | ((with_reducible refine gate_callee (f := 10) rfl ?_); refine Own.gL_ (some 12) Try.func10 (#[]) (h := ?_); (with_reducible refine (shuttlecocklaw06_fixed.calls k  true _ A6.out).mono ?_); rintro e w28 ⟨rfl, hb⟩; refine ⟨_, rfl, ?_⟩; replace BK214 := Am (blk_below (g := gb214) (o := .cells #[.slice A0_0 l0_0.length c0_0, .slice A0_1 l0_1.length c0_1] 25 (0, 0)) (by (with_reducible repeat (first|apply bn|apply bd|apply ba)); exact BK214.out) hb); replace BK215 := Am (blk_below (g := gb215) (o := .cells #[.string a1_0, .slice A1_1 l1_1.length c1_1, .int .i64 a1_2] 28 (0, 0)) (by (with_reducible repeat (first|apply bn|apply bd|apply ba)); exact BK215.out) hb); replace HB := Am (below_step (by repeat (first | (with_reducible first | exact HB.out | apply bl | apply pN | apply b1 | refine bs ?_ GE214.out | refine bs ?_ GE215.out) | exact HB.out | exact HBo.out)) hb); clear hb; have hnb29 := NB214_215.out; have hnc29 := NB215_214.out; have hcz30_0 := Own.bc2 BK214.out 0; have hcz30_1 := Own.bc2 BK214.out 1; have hfz30_0 := bf BK214.out 0; have hfz30_1 := bf BK214.out 1) | (go_at_call 8; (with_reducible refine (shuttlecockref06_Small.calls k _ _ l0_0 _ _ l0_1 true _ ?side1 ?side2 ?side3 ?side4 A8.out).mono ?_); (case side1 => repeat (first | exact (Kd.C_below HR0_0.out HB.out) | (with_reducible refine Kd.C_alloc ?_ _) | (with_reducible refine Kd.C_drewN ?_ _) | (with_reducible refine Kd.C_drew ?_))); (case side2 => exact HC0_0.out); (case side3 => repeat (first | exact (Kd.C_below HR0_1.out HB.out) | (with_reducible refine Kd.C_alloc ?_ _) | (with_reducible refine Kd.C_drewN ?_ _) | (with_reducible refine Kd.C_drew ?_))); (case side4 => exact HC0_1.out); rintro e w31 ⟨rfl, hb⟩; replace BK214 := Am (blk_below (g := gb214) (o := .cells #[.slice A0_0 l0_0.length c0_0, .slice A0_1 l0_1.length c0_1] 25 (0, 0)) (by (with_reducible repeat (first|apply bn|apply bd|apply ba)); exact BK214.out) hb); replace BK215 := Am (blk_below (g := gb215) (o := .cells #[.string a1_0, .slice A1_1 l1_1.length c1_1, .int .i64 a1_2] 28 (0, 0)) (by (with_reducible repeat (first|apply bn|apply bd|apply ba)); exact BK215.out) hb); replace HB := Am (below_step (by repeat (first | (with_reducible first | exact HB.out | apply bl | apply pN | apply b1 | refine bs ?_ GE214.out | refine bs ?_ GE215.out) | exact HB.out | exact HBo.out)) hb); clear hb; have hcz32_0 := Own.bc2 BK214.out 0; have hcz32_1 := Own.bc2 BK214.out 1; have hfz32_0 := bf BK214.out 0; have hfz32_1 := bf BK214.out 1) | (go_at_call 20; (with_reducible refine (shuttlecockref06_May.calls k _ _ l0_0 _ _ l0_1 false _ ?side1 ?side2 ?side3 ?side4 A10.out).mono ?_); (case side1 => repeat (first | exact (Kd.C_below HR0_0.out HB.out) | (with_reducible refine Kd.C_alloc ?_ _) | (with_reducible refine Kd.C_drewN ?_ _) | (with_reducible refine Kd.C_drew ?_))); (case side2 => exact HC0_0.out); (case side3 => repeat (first | exact (Kd.C_below HR0_1.out HB.out) | (with_reducible refine Kd.C_alloc ?_ _) | (with_reducible refine Kd.C_drewN ?_ _) | (with_reducible refine Kd.C_drew ?_))); (case side4 => exact HC0_1.out); rintro e w33 ⟨rfl, hb⟩; replace BK214 := Am (blk_below (g := gb214) (o := .cells #[.slice A0_0 l0_0.length c0_0, .slice A0_1 l0_1.length c0_1] 25 (0, 0)) (by (with_reducible repeat (first|apply bn|apply bd|apply ba)); exact BK214.out) hb); replace BK215 := Am (blk_below (g := gb215) (o := .cells #[.string a1_0, .slice A1_1 l1_1.length c1_1, .int .i64 a1_2] 28 (0, 0)) (by (with_reducible repeat (first|apply bn|apply bd|apply ba)); exact BK215.out) hb); replace HB := Am (below_step (by repeat (first | (with_reducible first | exact HB.out | apply bl | apply pN | apply b1 | refine bs ?_ GE214.out | refine bs ?_ GE215.out) | exact HB.out | exact HBo.out)) hb); clear hb))
     go_meet
     case rel => exact ⟨_, (true), (by first | rfl | (simp; done) | (simp [*]; done)), H', ⟨by first | omega | exact Nat.le_refl _⟩, ⟨by (with_reducible repeat (first|apply bn|apply bd|apply ba)); exact BK214.out⟩, ⟨by (with_reducible repeat (first|apply bn|apply bd|apply ba)); exact BK215.out⟩, ⟨by repeat (first | (with_reducible first | exact HB.out | apply bl | apply pN | apply b1 | refine bs ?_ GE214.out | refine bs ?_ GE215.out) | exact HB.out | exact HBo.out)⟩⟩
   ·
    replace c9 := Bool.eq_false_iff.mpr c9
    subst c9
    rw [if_neg (show ¬ (false = true) by decide)] at H
    have H' := Am H
    clear H
    go_wp2_with (first | ((with_reducible refine gate_callee (f := 10) rfl ?_); refine Own.gL_ (some 12) Try.func10 (#[]) (h := ?_); (with_reducible refine (shuttlecocklaw06_fixed.calls k  true _ A6.out).mono ?_); rintro e w34 ⟨rfl, hb⟩; refine ⟨_, rfl, ?_⟩; replace BK214 := Am (blk_below (g := gb214) (o := .cells #[.slice A0_0 l0_0.length c0_0, .slice A0_1 l0_1.length c0_1] 25 (0, 0)) (by (with_reducible repeat (first|apply bn|apply bd|apply ba)); exact BK214.out) hb); replace BK215 := Am (blk_below (g := gb215) (o := .cells #[.string a1_0, .slice A1_1 l1_1.length c1_1, .int .i64 a1_2] 28 (0, 0)) (by (with_reducible repeat (first|apply bn|apply bd|apply ba)); exact BK215.out) hb); replace HB := Am (below_step (by repeat (first | (with_reducible first | exact HB.out | apply bl | apply pN | apply b1 | refine bs ?_ GE214.out | refine bs ?_ GE215.out) | exact HB.out | exact HBo.out)) hb); clear hb; have hnb35 := NB214_215.out; have hnc35 := NB215_214.out; have hcz36_0 := Own.bc2 BK214.out 0; have hcz36_1 := Own.bc2 BK214.out 1; have hfz36_0 := bf BK214.out 0; have hfz36_1 := bf BK214.out 1) | (go_at_call 8; (with_reducible refine (shuttlecockref06_Small.calls k _ _ l0_0 _ _ l0_1 false _ ?side1 ?side2 ?side3 ?side4 A8.out).mono ?_); (case side1 => repeat (first | exact (Kd.C_below HR0_0.out HB.out) | (with_reducible refine Kd.C_alloc ?_ _) | (with_reducible refine Kd.C_drewN ?_ _) | (with_reducible refine Kd.C_drew ?_))); (case side2 => exact HC0_0.out); (case side3 => repeat (first | exact (Kd.C_below HR0_1.out HB.out) | (with_reducible refine Kd.C_alloc ?_ _) | (with_reducible refine Kd.C_drewN ?_ _) | (with_reducible refine Kd.C_drew ?_))); (case side4 => exact HC0_1.out); rintro e w37 ⟨rfl, hb⟩; replace BK214 := Am (blk_below (g := gb214) (o := .cells #[.slice A0_0 l0_0.length c0_0, .slice A0_1 l0_1.length c0_1] 25 (0, 0)) (by (with_reducible repeat (first|apply bn|apply bd|apply ba)); exact BK214.out) hb); replace BK215 := Am (blk_below (g := gb215) (o := .cells #[.string a1_0, .slice A1_1 l1_1.length c1_1, .int .i64 a1_2] 28 (0, 0)) (by (with_reducible repeat (first|apply bn|apply bd|apply ba)); exact BK215.out) hb); replace HB := Am (below_step (by repeat (first | (with_reducible first | exact HB.out | apply bl | apply pN | apply b1 | refine bs ?_ GE214.out | refine bs ?_ GE215.out) | exact HB.out | exact HBo.out)) hb); clear hb))
    go_meet
    case rel => exact ⟨_, (true), (by first | rfl | (simp; done) | (simp [*]; done)), H', ⟨by first | omega | exact Nat.le_refl _⟩, ⟨by (with_reducible repeat (first|apply bn|apply bd|apply ba)); exact BK214.out⟩, ⟨by (with_reducible repeat (first|apply bn|apply bd|apply ba)); exact BK215.out⟩, ⟨by repeat (first | (with_reducible first | exact HB.out | apply bl | apply pN | apply b1 | refine bs ?_ GE214.out | refine bs ?_ GE215.out) | exact HB.out | exact HBo.out)⟩⟩
  ·
   replace c7 := Bool.eq_false_iff.mpr c7
   subst c7
   rw [if_neg (show ¬ (false = true) by decide)] at H
   have H' := Am H
   clear H
   go_wp2_with (first | ((with_reducible refine gate_callee (f := 10) rfl ?_); refine Own.gL_ (some 12) Try.func10 (#[]) (h := ?_); (with_reducible refine (shuttlecocklaw06_fixed.calls k  false _ A6.out).mono ?_); rintro e w38 ⟨rfl, hb⟩; refine ⟨_, rfl, ?_⟩; replace BK214 := Am (blk_below (g := gb214) (o := .cells #[.slice A0_0 l0_0.length c0_0, .slice A0_1 l0_1.length c0_1] 25 (0, 0)) (by (with_reducible repeat (first|apply bn|apply bd|apply ba)); exact BK214.out) hb); replace BK215 := Am (blk_below (g := gb215) (o := .cells #[.string a1_0, .slice A1_1 l1_1.length c1_1, .int .i64 a1_2] 28 (0, 0)) (by (with_reducible repeat (first|apply bn|apply bd|apply ba)); exact BK215.out) hb); replace HB := Am (below_step (by repeat (first | (with_reducible first | exact HB.out | apply bl | apply pN | apply b1 | refine bs ?_ GE214.out | refine bs ?_ GE215.out) | exact HB.out | exact HBo.out)) hb); clear hb))
   go_meet
   case rel => exact ⟨_, (true), (by first | rfl | (simp; done) | (simp [*]; done)), H', ⟨by first | omega | exact Nat.le_refl _⟩, ⟨by (with_reducible repeat (first|apply bn|apply bd|apply ba)); exact BK214.out⟩, ⟨by (with_reducible repeat (first|apply bn|apply bd|apply ba)); exact BK215.out⟩, ⟨by repeat (first | (with_reducible first | exact HB.out | apply bl | apply pN | apply b1 | refine bs ?_ GE214.out | refine bs ?_ GE215.out) | exact HB.out | exact HBo.out)⟩⟩
 case rest =>
  clear HC3
  try clear c1
  try clear c2
  try clear p2
  try clear c3
  try clear c7
  try clear c9
  try clear c10
  try clear c11
  try clear c13
  try clear c15
  try clear c22
  try clear c29
  try clear c35
  try clear hcz16_0
  try clear hcz16_1
  try clear hcz18_0
  try clear hcz18_1
  try clear hcz20_0
  try clear hcz20_1
  try clear hcz20_2
  try clear hcz23_0
  try clear hcz23_1
  try clear hcz25_0
  try clear hcz25_1
  try clear hcz27_0
  try clear hcz27_1
  try clear hcz27_2
  try clear hcz30_0
  try clear hcz30_1
  try clear hcz32_0
  try clear hcz32_1
  try clear hcz36_0
  try clear hcz36_1
  try clear hfz16_0
  try clear hfz16_1
  try clear hfz18_0
  try clear hfz18_1
  try clear hfz20_0
  try clear hfz20_1
  try clear hfz20_2
  try clear hfz23_0
  try clear hfz23_1
  try clear hfz25_0
  try clear hfz25_1
  try clear hfz27_0
  try clear hfz27_1
  try clear hfz27_2
  try clear hfz30_0
  try clear hfz30_1
  try clear hfz32_0
  try clear hfz32_1
  try clear hfz36_0
  try clear hfz36_1
  obtain ⟨kq, x35_2, rfl, HA, HJ2, BK214, BK215, HB⟩ := hcut
  cases kq with
  | zero => exact absurd HA.out (by simp [shuttlecocklaw06_InternFrames.j0])
  | succ kj2 =>
   have H := HA.out
   clear HA
   simp only [shuttlecocklaw06_InternFrames.j0] at H
   by_cases c39 : x35_2 = true
   ·
    subst c39
    rw [if_pos rfl] at H
    replace H := ob H
    obtain ⟨t220, A400, H⟩ := H
    (try dsimp only at H)
    have A40 := Am A400
    clear A400
    obtain rfl := Option.some.inj H
    go_wp2_with (first | ((with_reducible refine gate_callee (f := 10) rfl ?_); refine Own.gL_ (some 36) Try.func10 (#[]) (h := ?_); (with_reducible refine (shuttlecocklaw06_fixed.calls kj2  t220 _ A40.out).mono ?_); rintro e w41 ⟨rfl, hb⟩; refine ⟨_, rfl, ?_⟩; replace BK214 := Am (blk_below (g := gb214) (o := .cells #[.slice A0_0 l0_0.length c0_0, .slice A0_1 l0_1.length c0_1] 25 (0, 0)) (by (with_reducible repeat (first|apply bn|apply bd|apply ba)); exact BK214.out) hb); replace BK215 := Am (blk_below (g := gb215) (o := .cells #[.string a1_0, .slice A1_1 l1_1.length c1_1, .int .i64 a1_2] 28 (0, 0)) (by (with_reducible repeat (first|apply bn|apply bd|apply ba)); exact BK215.out) hb); replace HB := Am (below_step (by repeat (first | (with_reducible first | exact HB.out | apply bl | apply pN | apply b1 | refine bs ?_ GE214.out | refine bs ?_ GE215.out) | exact HB.out | exact HBo.out)) hb); clear hb))
    go_ret
    exact ⟨by first | rfl | (simp <;> rfl) | (simp [*] <;> rfl) | (simp [Aid.ne_nil, Aid.eq_nil]; done), by repeat (first | (with_reducible first | exact HB.out | apply bl | apply pN | apply b1 | refine bs ?_ GE214.out | refine bs ?_ GE215.out) | exact HB.out | exact HBo.out)⟩
   ·
    replace c39 := Bool.eq_false_iff.mpr c39
    subst c39
    rw [if_neg (show ¬ (false = true) by decide)] at H
    replace H := ob H
    obtain ⟨⟨t221, t224, t227⟩, A420, H⟩ := H
    (try dsimp only at H)
    have A42 := Am A420
    clear A420
    by_cases c43 : t227 = 0
    ·
     rw [if_pos c43] at H
     have c43b0 : (t227 == 0) = true := beq_iff_eq.mpr c43
     have c43b1 : (t227 != 0) = false := bne_eq_false_iff_eq.mpr c43
     clear c43
     obtain rfl := Option.some.inj H
     have hnb44 := NB214_215.out
     have hnc44 := NB215_214.out
     have hcz45_0 := Own.bc2 BK214.out 0
     have hcz45_1 := Own.bc2 BK214.out 1
     have hfz45_0 := bf BK214.out 0
     have hfz45_1 := bf BK214.out 1
     have hcz46_0 := Own.bc2 BK215.out 0
     have hcz46_1 := Own.bc2 BK215.out 1
     have hcz46_2 := Own.bc2 BK215.out 2
     have hfz46_0 := bf BK215.out 0
     have hfz46_1 := bf BK215.out 1
     have hfz46_2 := bf BK215.out 2
     go_wp2_with (first | ((with_reducible refine gate_callee (f := 13) rfl ?_); refine Own.gL_ (some 41) Try.func13 (#[.agg #[.slice A0_0 l0_0.length c0_0, .slice A0_1 l0_1.length c0_1], .slice A1_1 l1_1.length c1_1]) (h := ?_); (with_reducible refine (intern_Stack.calls kj2 _ _ l0_0 _ _ l0_1 _ _ l1_1 t221 t224 t227 _ ?side1 ?side2 ?side3 ?side4 ?side5 ?side6 A42.out).mono ?_); (case side1 => repeat (first | exact (Kd.C_below HR0_0.out HB.out) | (with_reducible refine Kd.C_alloc ?_ _) | (with_reducible refine Kd.C_drewN ?_ _) | (with_reducible refine Kd.C_drew ?_))); (case side2 => exact HC0_0.out); (case side3 => repeat (first | exact (Kd.C_below HR0_1.out HB.out) | (with_reducible refine Kd.C_alloc ?_ _) | (with_reducible refine Kd.C_drewN ?_ _) | (with_reducible refine Kd.C_drew ?_))); (case side4 => exact HC0_1.out); (case side5 => repeat (first | exact (Kd.C_below HR1_1.out HB.out) | (with_reducible refine Kd.C_alloc ?_ _) | (with_reducible refine Kd.C_drewN ?_ _) | (with_reducible refine Kd.C_drew ?_))); (case side6 => exact HC1_1.out); rintro e w47 ⟨v222, v225, rfl, ho0, ho1, hb⟩; refine ⟨_, rfl, ?_⟩; have HO223 := Am (Kd.R_lower ho0 (below_size (by repeat (first | (with_reducible first | exact HB.out | apply bl | apply pN | apply b1 | refine bs ?_ GE214.out | refine bs ?_ GE215.out) | exact HB.out | exact HBo.out)))); have HO226 := Am (Kd.S_lower ho1 (below_size (by repeat (first | (with_reducible first | exact HB.out | apply bl | apply pN | apply b1 | refine bs ?_ GE214.out | refine bs ?_ GE215.out) | exact HB.out | exact HBo.out)))); replace BK214 := Am (blk_below (g := gb214) (o := .cells #[.slice A0_0 l0_0.length c0_0, .slice A0_1 l0_1.length c0_1] 25 (0, 0)) (by (with_reducible repeat (first|apply bn|apply bd|apply ba)); exact BK214.out) hb); replace BK215 := Am (blk_below (g := gb215) (o := .cells #[.string a1_0, .slice A1_1 l1_1.length c1_1, .int .i64 a1_2] 28 (0, 0)) (by (with_reducible repeat (first|apply bn|apply bd|apply ba)); exact BK215.out) hb); replace HB := Am (below_step (by repeat (first | (with_reducible first | exact HB.out | apply bl | apply pN | apply b1 | refine bs ?_ GE214.out | refine bs ?_ GE215.out) | exact HB.out | exact HBo.out)) hb); (try clear hb); (try clear hb2); (try clear hk); (try clear hi); (try clear ho0); (try clear ho1)) | ((with_reducible refine gate_dst (N := 5) rfl ?_); (try (refine gate_guard (by rfl) ?_; dsimp only)); refine box_event ?hg (N := 5) ?hd (cs := #[.slice none 0 0, .slice none 0 0]) (t := 25) ?hr ?_; (case hd => rfl); (case hg => rfl); (case hr => first | (go_simp; done) | (go_simp; rfl)); intro gb228 hg w48 hbox hb; have BK228 := Am (hbox); have GW228 := Am ((by rw [hg]; exact (below_size (by repeat (first | (with_reducible first | exact HB.out | apply bl | apply pN | apply b1 | refine bs ?_ GE214.out | refine bs ?_ GE215.out) | exact HB.out | exact HBo.out))) : w.heap.size ≤ gb228)); have GE228 := GW228; have NB214_228 := Am ((by rw [hg]; exact Nat.ne_of_lt (blk_lt (g := gb214) (o := .cells #[.slice A0_0 l0_0.length c0_0, .slice A0_1 l0_1.length c0_1] 25 (0, 0)) (by (with_reducible repeat (first|apply bn|apply bd|apply ba)); exact BK214.out)) : gb214 ≠ gb228)); have NB228_214 := Am NB214_228.out.symm; have NB215_228 := Am ((by rw [hg]; exact Nat.ne_of_lt (blk_lt (g := gb215) (o := .cells #[.string a1_0, .slice A1_1 l1_1.length c1_1, .int .i64 a1_2] 28 (0, 0)) (by (with_reducible repeat (first|apply bn|apply bd|apply ba)); exact BK215.out)) : gb215 ≠ gb228)); have NB228_215 := Am NB215_228.out.symm; replace HO223 := Am (Kd.R_below (by (with_reducible repeat (first|apply rA|apply rN|apply rD)); exact HO223.out) hb); replace HO226 := Am (Kd.S_below (by (with_reducible repeat (first|apply sA|apply sN|apply sD)); exact HO226.out) hb); replace BK214 := Am (blk_below (g := gb214) (o := .cells #[.slice A0_0 l0_0.length c0_0, .slice A0_1 l0_1.length c0_1] 25 (0, 0)) (by (with_reducible repeat (first|apply bn|apply bd|apply ba)); exact BK214.out) hb); replace BK215 := Am (blk_below (g := gb215) (o := .cells #[.string a1_0, .slice A1_1 l1_1.length c1_1, .int .i64 a1_2] 28 (0, 0)) (by (with_reducible repeat (first|apply bn|apply bd|apply ba)); exact BK215.out) hb); replace HB := Am (below_step (by repeat (first | (with_reducible first | exact HB.out | apply bl | apply pN | apply b1 | refine bs ?_ GE214.out | refine bs ?_ GE215.out) | exact HB.out | exact HBo.out)) hb); clear hb hbox hg; obtain ⟨Ao49, co49, eo49⟩ := Kd.R_slice HO223.out; subst eo49; have hnb50 := NB228_214.out; have hnc50 := NB214_228.out; have hnb51 := NB228_215.out; have hnc51 := NB215_228.out; have hcz52_0 := Own.bc2 BK228.out 0; have hcz52_1 := Own.bc2 BK228.out 1; have hfz52_0 := bf BK228.out 0; have hfz52_1 := bf BK228.out 1; obtain ⟨Ao53, co53, eo53⟩ := Kd.S_slice HO226.out; subst eo53))
     go_ret
     exact ⟨by first | rfl | (simp <;> rfl) | (simp [*] <;> rfl) | (simp [Aid.ne_nil, Aid.eq_nil]; done), by repeat (first | (with_reducible first | exact HB.out | apply bl | apply pN | apply b1 | refine bs ?_ GE214.out | refine bs ?_ GE215.out | refine bs ?_ GE228.out) | exact HB.out | exact HBo.out)⟩
    ·
     rw [if_neg c43] at H
     have c43b0 : (t227 == 0) = false := beq_eq_false_iff_ne.mpr c43
     have c43b1 : (t227 != 0) = true := bne_iff_ne.mpr c43
     have H' := Am H
     clear H
     have hnb54 := NB214_215.out
     have hnc54 := NB215_214.out
     have hcz55_0 := Own.bc2 BK214.out 0
     have hcz55_1 := Own.bc2 BK214.out 1
     have hfz55_0 := bf BK214.out 0
     have hfz55_1 := bf BK214.out 1
     have hcz56_0 := Own.bc2 BK215.out 0
     have hcz56_1 := Own.bc2 BK215.out 1
     have hcz56_2 := Own.bc2 BK215.out 2
     have hfz56_0 := bf BK215.out 0
     have hfz56_1 := bf BK215.out 1
     have hfz56_2 := bf BK215.out 2
     go_wp2_with (first | ((with_reducible refine gate_callee (f := 13) rfl ?_); refine Own.gL_ (some 41) Try.func13 (#[.agg #[.slice A0_0 l0_0.length c0_0, .slice A0_1 l0_1.length c0_1], .slice A1_1 l1_1.length c1_1]) (h := ?_); (with_reducible refine (intern_Stack.calls kj2 _ _ l0_0 _ _ l0_1 _ _ l1_1 t221 t224 t227 _ ?side1 ?side2 ?side3 ?side4 ?side5 ?side6 A42.out).mono ?_); (case side1 => repeat (first | exact (Kd.C_below HR0_0.out HB.out) | (with_reducible refine Kd.C_alloc ?_ _) | (with_reducible refine Kd.C_drewN ?_ _) | (with_reducible refine Kd.C_drew ?_))); (case side2 => exact HC0_0.out); (case side3 => repeat (first | exact (Kd.C_below HR0_1.out HB.out) | (with_reducible refine Kd.C_alloc ?_ _) | (with_reducible refine Kd.C_drewN ?_ _) | (with_reducible refine Kd.C_drew ?_))); (case side4 => exact HC0_1.out); (case side5 => repeat (first | exact (Kd.C_below HR1_1.out HB.out) | (with_reducible refine Kd.C_alloc ?_ _) | (with_reducible refine Kd.C_drewN ?_ _) | (with_reducible refine Kd.C_drew ?_))); (case side6 => exact HC1_1.out); rintro e w57 ⟨v222, v225, rfl, ho0, ho1, hb⟩; refine ⟨_, rfl, ?_⟩; have HO223 := Am (Kd.R_lower ho0 (below_size (by repeat (first | (with_reducible first | exact HB.out | apply bl | apply pN | apply b1 | refine bs ?_ GE214.out | refine bs ?_ GE215.out) | exact HB.out | exact HBo.out)))); have HO226 := Am (Kd.S_lower ho1 (below_size (by repeat (first | (with_reducible first | exact HB.out | apply bl | apply pN | apply b1 | refine bs ?_ GE214.out | refine bs ?_ GE215.out) | exact HB.out | exact HBo.out)))); replace BK214 := Am (blk_below (g := gb214) (o := .cells #[.slice A0_0 l0_0.length c0_0, .slice A0_1 l0_1.length c0_1] 25 (0, 0)) (by (with_reducible repeat (first|apply bn|apply bd|apply ba)); exact BK214.out) hb); replace BK215 := Am (blk_below (g := gb215) (o := .cells #[.string a1_0, .slice A1_1 l1_1.length c1_1, .int .i64 a1_2] 28 (0, 0)) (by (with_reducible repeat (first|apply bn|apply bd|apply ba)); exact BK215.out) hb); replace HB := Am (below_step (by repeat (first | (with_reducible first | exact HB.out | apply bl | apply pN | apply b1 | refine bs ?_ GE214.out | refine bs ?_ GE215.out) | exact HB.out | exact HBo.out)) hb); (try clear hb); (try clear hb2); (try clear hk); (try clear hi); (try clear ho0); (try clear ho1)) | ((with_reducible refine gate_dst (N := 5) rfl ?_); (try (refine gate_guard (by rfl) ?_; dsimp only)); refine box_event ?hg (N := 5) ?hd (cs := #[.slice none 0 0, .slice none 0 0]) (t := 25) ?hr ?_; (case hd => rfl); (case hg => rfl); (case hr => first | (go_simp; done) | (go_simp; rfl)); intro gb228 hg w58 hbox hb; have BK228 := Am (hbox); have GW228 := Am ((by rw [hg]; exact (below_size (by repeat (first | (with_reducible first | exact HB.out | apply bl | apply pN | apply b1 | refine bs ?_ GE214.out | refine bs ?_ GE215.out) | exact HB.out | exact HBo.out))) : w.heap.size ≤ gb228)); have GE228 := GW228; have NB214_228 := Am ((by rw [hg]; exact Nat.ne_of_lt (blk_lt (g := gb214) (o := .cells #[.slice A0_0 l0_0.length c0_0, .slice A0_1 l0_1.length c0_1] 25 (0, 0)) (by (with_reducible repeat (first|apply bn|apply bd|apply ba)); exact BK214.out)) : gb214 ≠ gb228)); have NB228_214 := Am NB214_228.out.symm; have NB215_228 := Am ((by rw [hg]; exact Nat.ne_of_lt (blk_lt (g := gb215) (o := .cells #[.string a1_0, .slice A1_1 l1_1.length c1_1, .int .i64 a1_2] 28 (0, 0)) (by (with_reducible repeat (first|apply bn|apply bd|apply ba)); exact BK215.out)) : gb215 ≠ gb228)); have NB228_215 := Am NB215_228.out.symm; replace HO223 := Am (Kd.R_below (by (with_reducible repeat (first|apply rA|apply rN|apply rD)); exact HO223.out) hb); replace HO226 := Am (Kd.S_below (by (with_reducible repeat (first|apply sA|apply sN|apply sD)); exact HO226.out) hb); replace BK214 := Am (blk_below (g := gb214) (o := .cells #[.slice A0_0 l0_0.length c0_0, .slice A0_1 l0_1.length c0_1] 25 (0, 0)) (by (with_reducible repeat (first|apply bn|apply bd|apply ba)); exact BK214.out) hb); replace BK215 := Am (blk_below (g := gb215) (o := .cells #[.string a1_0, .slice A1_1 l1_1.length c1_1, .int .i64 a1_2] 28 (0, 0)) (by (with_reducible repeat (first|apply bn|apply bd|apply ba)); exact BK215.out) hb); replace HB := Am (below_step (by repeat (first | (with_reducible first | exact HB.out | apply bl | apply pN | apply b1 | refine bs ?_ GE214.out | refine bs ?_ GE215.out) | exact HB.out | exact HBo.out)) hb); clear hb hbox hg; obtain ⟨Ao59, co59, eo59⟩ := Kd.R_slice HO223.out; subst eo59; have hnb60 := NB228_214.out; have hnc60 := NB214_228.out; have hnb61 := NB228_215.out; have hnc61 := NB215_228.out; have hcz62_0 := Own.bc2 BK228.out 0; have hcz62_1 := Own.bc2 BK228.out 1; have hfz62_0 := bf BK228.out 0; have hfz62_1 := bf BK228.out 1; obtain ⟨Ao63, co63, eo63⟩ := Kd.S_slice HO226.out; subst eo63))
     go_loopg [7] kj2 (fun kq v7 w' => ∃ (x7_2 : Int), v7 = .int .i64 x7_2 ∧ Aside0 (shuttlecocklaw06_InternFrames.l0 kq t227 x7_2 a1_0 l1_1 a1_2 t221 t224 = some r) ∧ Aside0 (kq ≤ kj2) ∧ Aside0 (Kd.R Kd.string 9 w' w.heap.size (fun _ => True) (.slice Ao59 t221.length co59) t221) ∧ Aside0 (Kd.S (Kd.slice 50 k50) 46 w' w.heap.size (fun _ => True) (.slice Ao63 t224.length co63) t224) ∧ Aside0 (w'.heap[gb214]? = some (.cells #[(.slice A0_0 l0_0.length c0_0), (.slice A0_1 l0_1.length c0_1)] 25 (0, 0))) ∧ Aside0 (w'.heap[gb215]? = some (.cells #[.string a1_0, (.slice A1_1 l1_1.length c1_1), .int .i64 a1_2] 28 (0, 0))) ∧ Aside0 (w'.heap[gb228]? = some (.cells #[(.slice Ao59 t221.length co59), (.slice Ao63 t224.length co63)] 25 (0, 0))) ∧ Aside0 (Below w.heap.size w w'))
     case atStart => exact ⟨(0), (by first | rfl | (simp; done) | (simp [*]; done)), H', ⟨Nat.le_refl _⟩, ⟨by (with_reducible repeat (first|apply rA|apply rN|apply rD)); exact Kd.R_mono (Kd.R_far (p := ⟨gb228, 1, none⟩) (Kd.R_far (p := ⟨gb228, 0, none⟩) (Kd.R_types HO223.out BK228.out (by decide)) (fun _ hk => hk.2) (.slice Ao59 t221.length co59)) (fun _ hk => hk.2) (.slice Ao63 t224.length co63)) (fun _ hk => trivial)⟩, ⟨by (with_reducible repeat (first|apply sA|apply sN|apply sD)); exact Kd.S_mono (Kd.S_far (p := ⟨gb228, 1, none⟩) (Kd.S_far (p := ⟨gb228, 0, none⟩) (Kd.S_types HO226.out BK228.out (by decide)) (fun _ hk => hk.2) (.slice Ao59 t221.length co59)) (fun _ hk => hk.2) (.slice Ao63 t224.length co63)) (fun _ hk => trivial)⟩, ⟨by (with_reducible repeat (first|apply bn|apply bd|apply ba)); refine blk_far ?_ NB214_228.out _; (with_reducible repeat (first|apply bn|apply bd|apply ba)); refine blk_far ?_ NB214_228.out _; (with_reducible repeat (first|apply bn|apply bd|apply ba)); exact BK214.out⟩, ⟨by (with_reducible repeat (first|apply bn|apply bd|apply ba)); refine blk_far ?_ NB215_228.out _; (with_reducible repeat (first|apply bn|apply bd|apply ba)); refine blk_far ?_ NB215_228.out _; (with_reducible repeat (first|apply bn|apply bd|apply ba)); exact BK215.out⟩, ⟨by (with_reducible repeat (first|apply bn|apply bd|apply ba)); refine blk_put (cs := #[.slice Ao59 t221.length co59, .slice none 0 0]) ?_ 1 _ rfl; (with_reducible repeat (first|apply bn|apply bd|apply ba)); refine blk_put (cs := #[.slice none 0 0, .slice none 0 0]) ?_ 0 _ rfl; (with_reducible repeat (first|apply bn|apply bd|apply ba)); exact BK228.out⟩, ⟨by repeat (first | (with_reducible first | exact HB.out | apply bl | apply pN | apply b1 | refine bs ?_ GE214.out | refine bs ?_ GE215.out | refine bs ?_ GE228.out) | exact HB.out | exact HBo.out)⟩⟩
     case round =>
      clear H'
      try clear c1
      try clear c2
      try clear p2
      try clear c3
      try clear c4
      try clear c5
      try clear c6
      try clear c7
      try clear c9
      try clear c10
      try clear c11
      try clear c13
      try clear c15
      try clear c22
      try clear c29
      try clear c35
      try clear c39
      try clear c43
      try clear c43b0
      try clear c43b1
      try clear c44
      try clear c50
      try clear c51
      try clear c54
      try clear c60
      try clear c61
      try clear hcz16_0
      try clear hcz16_1
      try clear hcz18_0
      try clear hcz18_1
      try clear hcz20_0
      try clear hcz20_1
      try clear hcz20_2
      try clear hcz23_0
      try clear hcz23_1
      try clear hcz25_0
      try clear hcz25_1
      try clear hcz27_0
      try clear hcz27_1
      try clear hcz27_2
      try clear hcz30_0
      try clear hcz30_1
      try clear hcz32_0
      try clear hcz32_1
      try clear hcz36_0
      try clear hcz36_1
      try clear hcz45_0
      try clear hcz45_1
      try clear hcz46_0
      try clear hcz46_1
      try clear hcz46_2
      try clear hcz52_0
      try clear hcz52_1
      try clear hcz55_0
      try clear hcz55_1
      try clear hcz56_0
      try clear hcz56_1
      try clear hcz56_2
      try clear hcz62_0
      try clear hcz62_1
      try clear hfz16_0
      try clear hfz16_1
      try clear hfz18_0
      try clear hfz18_1
      try clear hfz20_0
      try clear hfz20_1
      try clear hfz20_2
      try clear hfz23_0
      try clear hfz23_1
      try clear hfz25_0
      try clear hfz25_1
      try clear hfz27_0
      try clear hfz27_1
      try clear hfz27_2
      try clear hfz30_0
      try clear hfz30_1
      try clear hfz32_0
      try clear hfz32_1
      try clear hfz36_0
      try clear hfz36_1
      try clear hfz45_0
      try clear hfz45_1
      try clear hfz46_0
      try clear hfz46_1
      try clear hfz46_2
      try clear hfz52_0
      try clear hfz52_1
      try clear hfz55_0
      try clear hfz55_1
      try clear hfz56_0
      try clear hfz56_1
      try clear hfz56_2
      try clear hfz62_0
      try clear hfz62_1
      try clear p2
      obtain ⟨x7_2, rfl, HA, HK2, HO_229000, HO_229001, BK214, BK215, BK228, HB⟩ := hrel
      cases gk with
      | zero => exact absurd HA.out (by simp [shuttlecocklaw06_InternFrames.l0])
      | succ k2 =>
       have H := HA.out
       clear HA
       simp only [shuttlecocklaw06_InternFrames.l0] at H
       by_cases c64 : x7_2 < (l1_1.length : Int)
       ·
        rw [if_pos c64] at H
        have c64b0 : decide (x7_2 < (l1_1.length : Int)) = true := decide_eq_true c64
        clear c64
        by_cases c65 : 0 ≤ x7_2
        ·
         rw [if_pos c65] at H
         have c65b0 : decide (0 ≤ x7_2) = true := decide_eq_true c65
         clear c65
         replace H := ob H
         obtain ⟨⟨t250, t253, t256⟩, A660, H⟩ := H
         (try dsimp only at H)
         have A66 := Am A660
         clear A660
         by_cases c67 : t256 < 1
         ·
          rw [if_pos c67] at H
          exact absurd H (by simp)
         ·
          rw [if_neg c67] at H
          have c67b0 : decide (t256 < 1) = false := decide_eq_false c67
          clear c67
          replace H := ob H
          obtain ⟨t258, A680, H⟩ := H
          (try dsimp only at H)
          have A68 := Am A680
          clear A680
          by_cases c69 : t258 = true
          ·
           subst c69
           rw [if_pos rfl] at H
           have H' := Am H
           clear H
           have hnb70 := NB215_214.out
           have hnc70 := NB214_215.out
           have hnb71 := NB215_228.out
           have hnc71 := NB228_215.out
           have hcz72_0 := Own.bc2 BK215.out 0
           have hcz72_1 := Own.bc2 BK215.out 1
           have hcz72_2 := Own.bc2 BK215.out 2
           have hfz72_0 := bf BK215.out 0
           have hfz72_1 := bf BK215.out 1
           have hfz72_2 := bf BK215.out 2
           try go_wp2
           replace HO_229000 := Am (Kd.R_drew HO_229000.out)
           replace HO_229001 := Am (Kd.S_drew HO_229001.out)
           replace BK214 := Am (bd BK214.out)
           replace BK215 := Am (bd BK215.out)
           replace BK228 := Am (bd BK228.out)
           replace HB := Am (b1 HB.out)
           have p249 : 0 ≤ (x7_2 : Int) := of_decide_eq_true (by first | (with_reducible assumption) | assumption)
           have q249 : x7_2 < (l1_1.length : Int) := of_decide_eq_true (by first | (with_reducible assumption) | assumption)
           obtain ⟨ad249, e249, hx249_0, hx249_1⟩ := at_T45 HR1_1.out x7_2 p249 q249
           have hw249_1 := hx249_1
           have hw249_0 := hx249_0
           cases e249
           replace hx249_0 := (HB.out.cell (World.block_lt_of_cell? w _ hx249_0)).trans hx249_0
           replace hx249_1 := (HB.out.cell (World.block_lt_of_cell? w _ hx249_1)).trans hx249_1
           replace p249 := eq_true p249
           replace q249 := eq_true q249
           refine start_ (n := 14) (S := fun w' => w'.cell? ⟨gb228, 0, none⟩ = some (.slice Ao59 t221.length co59) ∧ w'.cell? ⟨gb228, 1, none⟩ = some (.slice Ao63 t224.length co63) ∧ w'.cell? ⟨gb215, 0, none⟩ = some (.string a1_0) ∧ w'.cell? ⟨gb215, 1, none⟩ = some (.slice (some ad249) l1_1.length c1_1) ∧ w'.cell? ⟨gb215, 2, none⟩ = some (.int .i64 a1_2) ∧ w'.cell? (ad249.add ((x7_2).toNat * 2)) = some (.string ((rd_T45 l1_1 x7_2).f0)) ∧ w'.cell? ⟨(ad249.add ((x7_2).toNat * 2)).block, (ad249.add ((x7_2).toNat * 2)).off + 1, none⟩ = some (.int .i64 ((rd_T45 l1_1 x7_2).f1))) (ds := []) q10_0 (by kernel_rfl) rfl rfl ⟨(bc BK228.out 0).trans rfl, (bc BK228.out 1).trans rfl, (bc BK215.out 0).trans rfl, (bc BK215.out 1).trans rfl, (bc BK215.out 2).trans rfl, ((HB.out.cell (World.block_lt_of_cell? w _ hw249_0)).trans hw249_0), ((HB.out.cell (World.block_lt_of_cell? w _ hw249_1)).trans hw249_1)⟩ (fun hHeld => ?_); refine with_tabW shuttlecocklaw06_InternFrames.tab9 shuttlecocklaw06_InternFrames.bits9 (fun HT_ HW_ => ?_)
           generalize wr.drew = w73 at HO_229000 HO_229001 BK214 BK215 BK228 HB hx249_0 hx249_1 hHeld ⊢
           refine Own.pr_ 1 (some 55) q10_1 HT_ (h := ?_)
           refine Own.pr_ 3 (some 57) q10_2 HT_ (h := ?_)
           refine Own.tk_ 0 (some 54) q10_3 HT_ HW_ hHeld (hy := by rintro w' ⟨s0, s1, s2, s3, s4, s5, s6⟩; go_simp; with_reducible rfl) (h := ?_)
           refine Own.tk_ 2 (some 56) q10_4 HT_ HW_ hHeld (hy := by rintro w' ⟨s0, s1, s2, s3, s4, s5, s6⟩; go_simp; with_reducible rfl) (h := ?_)
           refine Own.pr_ 4 (some 58) q10_5 HT_ (h := ?_)
           refine Own.pr_ 5 (some 59) q10_6 HT_ (h := ?_)
           refine Own.tk_ 6 (some 60) q10_7 HT_ HW_ hHeld (hy := by rintro w' ⟨s0, s1, s2, s3, s4, s5, s6⟩; go_simp; with_reducible rfl) (h := ?_)
           refine join_ (σ := Value × Value × Nat) 2 q10_8 (fun s_ => [(61, .tuple #[.agg #[s_.1, s_.2.1], .int .i64 t256]), (8, .pointer (some ⟨s_.2.2, 0, none⟩)), (53, .tuple #[.agg #[s_.1, s_.2.1], .int .i64 t256]), (62, .agg #[s_.1, s_.2.1]), (63, .int .i64 t256)]) (fun s_ w' => (w'.cell? ⟨gb228, 0, none⟩ = some (.slice Ao59 t221.length co59) ∧ w'.cell? ⟨gb228, 1, none⟩ = some (.slice Ao63 t224.length co63) ∧ w'.cell? ⟨gb215, 0, none⟩ = some (.string a1_0) ∧ w'.cell? ⟨gb215, 1, none⟩ = some (.slice (some ad249) l1_1.length c1_1) ∧ w'.cell? ⟨gb215, 2, none⟩ = some (.int .i64 a1_2) ∧ w'.cell? (ad249.add ((x7_2).toNat * 2)) = some (.string ((rd_T45 l1_1 x7_2).f0)) ∧ w'.cell? ⟨(ad249.add ((x7_2).toNat * 2)).block, (ad249.add ((x7_2).toNat * 2)).off + 1, none⟩ = some (.int .i64 ((rd_T45 l1_1 x7_2).f1))) ∧ (Kd.R Kd.string 9 w' w.heap.size (fun k_ => some k_ ≠ (.slice Ao59 t221.length co59 : Value).ownBlock) s_.1 t250) ∧ (Kd.S (Kd.slice 50 k50) 46 w' w.heap.size (fun k_ => some k_ ≠ (.slice Ao63 t224.length co63 : Value).ownBlock) s_.2.1 t253) ∧ (Kd.R Kd.string 9 w' w.heap.size (fun k_ => some k_ ≠ (s_.1 : Value).ownBlock) (.slice Ao59 t221.length co59) t221) ∧ (Kd.S (Kd.slice 50 k50) 46 w' w.heap.size (fun k_ => some k_ ≠ (s_.2.1 : Value).ownBlock) (.slice Ao63 t224.length co63) t224) ∧ (w'.heap[gb214]? = some (.cells #[.slice A0_0 l0_0.length c0_0, .slice A0_1 l0_1.length c0_1] 25 (0, 0))) ∧ (w'.heap[gb215]? = some (.cells #[.string a1_0, .slice (some ad249) l1_1.length c1_1, .int .i64 a1_2] 28 (0, 0))) ∧ (w'.heap[gb228]? = some (.cells #[.slice Ao59 t221.length co59, .slice Ao63 t224.length co63] 25 (0, 0))) ∧ (w'.heap[s_.2.2]? = some (.cells #[.slice none 0 0, .slice none 0 0] 25 (0, 0))) ∧ (w.heap.size ≤ s_.2.2) ∧ (w.heap.size ≤ s_.2.2) ∧ (gb214 ≠ s_.2.2) ∧ (s_.2.2 ≠ gb214) ∧ (gb215 ≠ s_.2.2) ∧ (s_.2.2 ≠ gb215) ∧ (gb228 ≠ s_.2.2) ∧ (s_.2.2 ≠ gb228) ∧ (Below w.heap.size w w')) ?_ ?_
           rotate_left
           ·
            intro hCont
            refine two_ (i := 7) (j := 11) (Ni := some 61) (Nj := some 8) q10_9 q10_10 rfl rfl rfl rfl (two_of HT_.out (by kernel_rfl)) (by decide) (by decide) (fun K hK => ?_) (fun K hK => ?_)
            ·
             skip
             refine goes_ Try.func11 (by kernel_rfl) rfl #[.agg #[.slice Ao59 t221.length co59, .slice Ao63 t224.length co63], .string ((rd_T45 l1_1 x7_2).f0)] (by rfl) rfl rfl (by (try simp only [List.map_toArray, List.map_cons, List.map_nil]); first | done | rfl | (simp only [List.length_drop, List.length_take]; rfl)) ?_
             with_reducible refine (intern_String.calls k2 _ _ t221 _ _ t224 ((rd_T45 l1_1 x7_2).f0) t250 t253 t256 _ ?side1 ?side2 ?side3 ?side4 A66.out).mono ?_
             (case side1 => repeat (first | exact (Kd.R_reads' HO_229000.out).2.2 | (with_reducible refine Kd.C_alloc ?_ _) | (with_reducible refine Kd.C_drewN ?_ _) | (with_reducible refine Kd.C_drew ?_)))
             (case side2 => exact (Kd.R_reads' HO_229000.out).2.1)
             (case side3 => repeat (first | exact (Kd.S_reads' HO_229001.out).2.2 | (with_reducible refine Kd.C_alloc ?_ _) | (with_reducible refine Kd.C_drewN ?_ _) | (with_reducible refine Kd.C_drew ?_)))
             (case side4 => exact (Kd.S_reads' HO_229001.out).2.1)
             rintro e w74 ⟨v251, v254, rfl, ho0, ho1, hb⟩
             refine ⟨_, rfl, ?_⟩
             have HO252 := Am (Kd.R_lower (Kd.R_new' ho0 (Kd.R_lt (by (with_reducible repeat (first|apply rA|apply rN|apply rD)); exact HO_229000.out))) (below_size (by repeat (first | (with_reducible first | exact HB.out | apply bl | apply pN | apply b1 | refine bs ?_ GE214.out | refine bs ?_ GE215.out | refine bs ?_ GE228.out) | exact HB.out | exact HBo.out))))
             have HO255 := Am (Kd.S_lower (Kd.S_new' ho1 (Kd.S_lt (by (with_reducible repeat (first|apply sA|apply sN|apply sD)); exact HO_229001.out))) (below_size (by repeat (first | (with_reducible first | exact HB.out | apply bl | apply pN | apply b1 | refine bs ?_ GE214.out | refine bs ?_ GE215.out | refine bs ?_ GE228.out) | exact HB.out | exact HBo.out))))
             replace HO_229000 := Am (Kd.R_elder' (by (with_reducible repeat (first|apply rA|apply rN|apply rD)); exact HO_229000.out) (Kd.R_base ho0) hb)
             replace HO_229001 := Am (Kd.S_elder' (by (with_reducible repeat (first|apply sA|apply sN|apply sD)); exact HO_229001.out) (Kd.S_base ho1) hb)
             replace BK214 := Am (blk_below (g := gb214) (o := .cells #[.slice A0_0 l0_0.length c0_0, .slice A0_1 l0_1.length c0_1] 25 (0, 0)) (by (with_reducible repeat (first|apply bn|apply bd|apply ba)); exact BK214.out) hb)
             replace BK215 := Am (blk_below (g := gb215) (o := .cells #[.string a1_0, .slice (some ad249) l1_1.length c1_1, .int .i64 a1_2] 28 (0, 0)) (by (with_reducible repeat (first|apply bn|apply bd|apply ba)); exact BK215.out) hb)
             replace BK228 := Am (blk_below (g := gb228) (o := .cells #[.slice Ao59 t221.length co59, .slice Ao63 t224.length co63] 25 (0, 0)) (by (with_reducible repeat (first|apply bn|apply bd|apply ba)); exact BK228.out) hb)
             replace HB := Am (below_step (by repeat (first | (with_reducible first | exact HB.out | apply bl | apply pN | apply b1 | refine bs ?_ GE214.out | refine bs ?_ GE215.out | refine bs ?_ GE228.out) | exact HB.out | exact HBo.out)) hb)
             (try clear hb)
             (try clear hb2)
             (try clear hk)
             (try clear hi)
             (try clear ho0)
             (try clear ho1)
             refine hK.out _ _ ⟨(bc BK228.out 0).trans rfl, (bc BK228.out 1).trans rfl, (bc BK215.out 0).trans rfl, (bc BK215.out 1).trans rfl, (bc BK215.out 2).trans rfl, ((HB.out.cell (World.block_lt_of_cell? w _ hw249_0)).trans hw249_0), ((HB.out.cell (World.block_lt_of_cell? w _ hw249_1)).trans hw249_1)⟩ (fun hHeld => ?_)
             clear hK K
             refine norm_ (a' := ?_) ?_ ?_
             rotate_left
             ·
              show Act.put _ (some 61) _ = _
              simp only [Act.put, sI, sZ, sS, i64_w, i32_w]
              rfl
             refine Own.pr_ 8 (some 53) q10_11 HT_ (h := ?_)
             refine Own.pr_ 9 (some 62) q10_12 HT_ (h := ?_)
             refine Own.pr_ 10 (some 63) q10_13 HT_ (h := ?_)
             refine one_ (i := 11) (N := some 8) q10_8 rfl rfl (one_of HT_.out (by kernel_rfl)) (by decide) (fun K hK => ?_)
             refine box_step ?hg (N := 8) ?hd (cs := #[.slice none 0 0, .slice none 0 0]) (t := 25) ?hr ?_; (case hd => rfl); (case hg => rfl); (case hr => first | (go_simp; done) | (go_simp; rfl))
             intro gb257 hg w75 hbox hb
             have BK257 := Am (hbox)
             have GW257 := Am ((by rw [hg]; exact (below_size (by repeat (first | (with_reducible first | exact HB.out | apply bl | apply pN | apply b1 | refine bs ?_ GE214.out | refine bs ?_ GE215.out | refine bs ?_ GE228.out) | exact HB.out | exact HBo.out))) : w.heap.size ≤ gb257))
             have GE257 := GW257
             have NB214_257 := Am ((by rw [hg]; exact Nat.ne_of_lt (blk_lt (g := gb214) (o := .cells #[.slice A0_0 l0_0.length c0_0, .slice A0_1 l0_1.length c0_1] 25 (0, 0)) (by (with_reducible repeat (first|apply bn|apply bd|apply ba)); exact BK214.out)) : gb214 ≠ gb257))
             have NB257_214 := Am NB214_257.out.symm
             have NB215_257 := Am ((by rw [hg]; exact Nat.ne_of_lt (blk_lt (g := gb215) (o := .cells #[.string a1_0, .slice (some ad249) l1_1.length c1_1, .int .i64 a1_2] 28 (0, 0)) (by (with_reducible repeat (first|apply bn|apply bd|apply ba)); exact BK215.out)) : gb215 ≠ gb257))
             have NB257_215 := Am NB215_257.out.symm
             have NB228_257 := Am ((by rw [hg]; exact Nat.ne_of_lt (blk_lt (g := gb228) (o := .cells #[.slice Ao59 t221.length co59, .slice Ao63 t224.length co63] 25 (0, 0)) (by (with_reducible repeat (first|apply bn|apply bd|apply ba)); exact BK228.out)) : gb228 ≠ gb257))
             have NB257_228 := Am NB228_257.out.symm
             replace HO_229000 := Am (Kd.R_below (by (with_reducible repeat (first|apply rA|apply rN|apply rD)); exact HO_229000.out) hb)
             replace HO_229001 := Am (Kd.S_below (by (with_reducible repeat (first|apply sA|apply sN|apply sD)); exact HO_229001.out) hb)
             replace HO252 := Am (Kd.R_below (by (with_reducible repeat (first|apply rA|apply rN|apply rD)); exact HO252.out) hb)
             replace HO255 := Am (Kd.S_below (by (with_reducible repeat (first|apply sA|apply sN|apply sD)); exact HO255.out) hb)
             replace BK214 := Am (blk_below (g := gb214) (o := .cells #[.slice A0_0 l0_0.length c0_0, .slice A0_1 l0_1.length c0_1] 25 (0, 0)) (by (with_reducible repeat (first|apply bn|apply bd|apply ba)); exact BK214.out) hb)
             replace BK215 := Am (blk_below (g := gb215) (o := .cells #[.string a1_0, .slice (some ad249) l1_1.length c1_1, .int .i64 a1_2] 28 (0, 0)) (by (with_reducible repeat (first|apply bn|apply bd|apply ba)); exact BK215.out) hb)
             replace BK228 := Am (blk_below (g := gb228) (o := .cells #[.slice Ao59 t221.length co59, .slice Ao63 t224.length co63] 25 (0, 0)) (by (with_reducible repeat (first|apply bn|apply bd|apply ba)); exact BK228.out) hb)
             replace HB := Am (below_step (by repeat (first | (with_reducible first | exact HB.out | apply bl | apply pN | apply b1 | refine bs ?_ GE214.out | refine bs ?_ GE215.out | refine bs ?_ GE228.out) | exact HB.out | exact HBo.out)) hb)
             clear hb hbox hg
             refine hK.out _ _ ⟨(bc BK228.out 0).trans rfl, (bc BK228.out 1).trans rfl, (bc BK215.out 0).trans rfl, (bc BK215.out 1).trans rfl, (bc BK215.out 2).trans rfl, ((HB.out.cell (World.block_lt_of_cell? w _ hw249_0)).trans hw249_0), ((HB.out.cell (World.block_lt_of_cell? w _ hw249_1)).trans hw249_1)⟩ (fun hHeld => ?_)
             clear hK K
             refine norm_ (a' := ?_) ?_ ?_
             rotate_left
             ·
              show Act.put _ (some 8) _ = _
              simp only [Act.put, sI, sZ, sS, i64_w, i32_w]
              rfl
             exact norm_ (by simp only [putAll, Act.put, sI, sZ, sS]) (hCont (v251, v254, gb257) _ ⟨hHeld, (by (with_reducible repeat (first|apply rA|apply rN|apply rD)); exact Kd.R_mono HO252.out (fun _ hk => hk.2)), (by (with_reducible repeat (first|apply sA|apply sN|apply sD)); exact Kd.S_mono HO255.out (fun _ hk => hk.2)), (by (with_reducible repeat (first|apply rA|apply rN|apply rD)); exact Kd.R_mono HO_229000.out (fun _ hk => hk.2)), (by (with_reducible repeat (first|apply sA|apply sN|apply sD)); exact Kd.S_mono HO_229001.out (fun _ hk => hk.2)), (by (with_reducible repeat (first|apply bn|apply bd|apply ba)); exact BK214.out), (by (with_reducible repeat (first|apply bn|apply bd|apply ba)); exact BK215.out), (by (with_reducible repeat (first|apply bn|apply bd|apply ba)); exact BK228.out), (by (with_reducible repeat (first|apply bn|apply bd|apply ba)); exact BK257.out), GW257.out, GE257.out, NB214_257.out, NB257_214.out, NB215_257.out, NB257_215.out, NB228_257.out, NB257_228.out, (by repeat (first | (with_reducible first | exact HB.out | apply bl | apply pN | apply b1 | refine bs ?_ GE214.out | refine bs ?_ GE215.out | refine bs ?_ GE228.out | refine bs ?_ GE257.out) | exact HB.out | exact HBo.out))⟩)
            ·
             skip
             refine box_step ?hg (N := 8) ?hd (cs := #[.slice none 0 0, .slice none 0 0]) (t := 25) ?hr ?_; (case hd => rfl); (case hg => rfl); (case hr => first | (go_simp; done) | (go_simp; rfl))
             intro gb257 hg w74 hbox hb
             have BK257 := Am (hbox)
             have GW257 := Am ((by rw [hg]; exact (below_size (by repeat (first | (with_reducible first | exact HB.out | apply bl | apply pN | apply b1 | refine bs ?_ GE214.out | refine bs ?_ GE215.out | refine bs ?_ GE228.out) | exact HB.out | exact HBo.out))) : w.heap.size ≤ gb257))
             have GE257 := GW257
             have NB214_257 := Am ((by rw [hg]; exact Nat.ne_of_lt (blk_lt (g := gb214) (o := .cells #[.slice A0_0 l0_0.length c0_0, .slice A0_1 l0_1.length c0_1] 25 (0, 0)) (by (with_reducible repeat (first|apply bn|apply bd|apply ba)); exact BK214.out)) : gb214 ≠ gb257))
             have NB257_214 := Am NB214_257.out.symm
             have NB215_257 := Am ((by rw [hg]; exact Nat.ne_of_lt (blk_lt (g := gb215) (o := .cells #[.string a1_0, .slice (some ad249) l1_1.length c1_1, .int .i64 a1_2] 28 (0, 0)) (by (with_reducible repeat (first|apply bn|apply bd|apply ba)); exact BK215.out)) : gb215 ≠ gb257))
             have NB257_215 := Am NB215_257.out.symm
             have NB228_257 := Am ((by rw [hg]; exact Nat.ne_of_lt (blk_lt (g := gb228) (o := .cells #[.slice Ao59 t221.length co59, .slice Ao63 t224.length co63] 25 (0, 0)) (by (with_reducible repeat (first|apply bn|apply bd|apply ba)); exact BK228.out)) : gb228 ≠ gb257))
             have NB257_228 := Am NB228_257.out.symm
             replace HO_229000 := Am (Kd.R_below (by (with_reducible repeat (first|apply rA|apply rN|apply rD)); exact HO_229000.out) hb)
             replace HO_229001 := Am (Kd.S_below (by (with_reducible repeat (first|apply sA|apply sN|apply sD)); exact HO_229001.out) hb)
             replace BK214 := Am (blk_below (g := gb214) (o := .cells #[.slice A0_0 l0_0.length c0_0, .slice A0_1 l0_1.length c0_1] 25 (0, 0)) (by (with_reducible repeat (first|apply bn|apply bd|apply ba)); exact BK214.out) hb)
             replace BK215 := Am (blk_below (g := gb215) (o := .cells #[.string a1_0, .slice (some ad249) l1_1.length c1_1, .int .i64 a1_2] 28 (0, 0)) (by (with_reducible repeat (first|apply bn|apply bd|apply ba)); exact BK215.out) hb)
             replace BK228 := Am (blk_below (g := gb228) (o := .cells #[.slice Ao59 t221.length co59, .slice Ao63 t224.length co63] 25 (0, 0)) (by (with_reducible repeat (first|apply bn|apply bd|apply ba)); exact BK228.out) hb)
             replace HB := Am (below_step (by repeat (first | (with_reducible first | exact HB.out | apply bl | apply pN | apply b1 | refine bs ?_ GE214.out | refine bs ?_ GE215.out | refine bs ?_ GE228.out) | exact HB.out | exact HBo.out)) hb)
             clear hb hbox hg
             refine hK.out _ _ ⟨(bc BK228.out 0).trans rfl, (bc BK228.out 1).trans rfl, (bc BK215.out 0).trans rfl, (bc BK215.out 1).trans rfl, (bc BK215.out 2).trans rfl, ((HB.out.cell (World.block_lt_of_cell? w _ hw249_0)).trans hw249_0), ((HB.out.cell (World.block_lt_of_cell? w _ hw249_1)).trans hw249_1)⟩ (fun hHeld => ?_)
             clear hK K
             refine norm_ (a' := ?_) ?_ ?_
             rotate_left
             ·
              show Act.put _ (some 8) _ = _
              simp only [Act.put, sI, sZ, sS, i64_w, i32_w]
              rfl
             refine one_ (i := 7) (N := some 61) q10_14 rfl rfl (one_of HT_.out (by kernel_rfl)) (by decide) (fun K hK => ?_)
             refine goes_ Try.func11 (by kernel_rfl) rfl #[.agg #[.slice Ao59 t221.length co59, .slice Ao63 t224.length co63], .string ((rd_T45 l1_1 x7_2).f0)] (by rfl) rfl rfl (by (try simp only [List.map_toArray, List.map_cons, List.map_nil]); first | done | rfl | (simp only [List.length_drop, List.length_take]; rfl)) ?_
             with_reducible refine (intern_String.calls k2 _ _ t221 _ _ t224 ((rd_T45 l1_1 x7_2).f0) t250 t253 t256 _ ?side1 ?side2 ?side3 ?side4 A66.out).mono ?_
             (case side1 => repeat (first | exact (Kd.R_reads' HO_229000.out).2.2 | (with_reducible refine Kd.C_alloc ?_ _) | (with_reducible refine Kd.C_drewN ?_ _) | (with_reducible refine Kd.C_drew ?_)))
             (case side2 => exact (Kd.R_reads' HO_229000.out).2.1)
             (case side3 => repeat (first | exact (Kd.S_reads' HO_229001.out).2.2 | (with_reducible refine Kd.C_alloc ?_ _) | (with_reducible refine Kd.C_drewN ?_ _) | (with_reducible refine Kd.C_drew ?_)))
             (case side4 => exact (Kd.S_reads' HO_229001.out).2.1)
             rintro e w75 ⟨v251, v254, rfl, ho0, ho1, hb⟩
             refine ⟨_, rfl, ?_⟩
             have HO252 := Am (Kd.R_lower (Kd.R_new' ho0 (Kd.R_lt (by (with_reducible repeat (first|apply rA|apply rN|apply rD)); exact HO_229000.out))) (below_size (by repeat (first | (with_reducible first | exact HB.out | apply bl | apply pN | apply b1 | refine bs ?_ GE214.out | refine bs ?_ GE215.out | refine bs ?_ GE228.out | refine bs ?_ GE257.out) | exact HB.out | exact HBo.out))))
             have HO255 := Am (Kd.S_lower (Kd.S_new' ho1 (Kd.S_lt (by (with_reducible repeat (first|apply sA|apply sN|apply sD)); exact HO_229001.out))) (below_size (by repeat (first | (with_reducible first | exact HB.out | apply bl | apply pN | apply b1 | refine bs ?_ GE214.out | refine bs ?_ GE215.out | refine bs ?_ GE228.out | refine bs ?_ GE257.out) | exact HB.out | exact HBo.out))))
             replace HO_229000 := Am (Kd.R_elder' (by (with_reducible repeat (first|apply rA|apply rN|apply rD)); exact HO_229000.out) (Kd.R_base ho0) hb)
             replace HO_229001 := Am (Kd.S_elder' (by (with_reducible repeat (first|apply sA|apply sN|apply sD)); exact HO_229001.out) (Kd.S_base ho1) hb)
             replace BK214 := Am (blk_below (g := gb214) (o := .cells #[.slice A0_0 l0_0.length c0_0, .slice A0_1 l0_1.length c0_1] 25 (0, 0)) (by (with_reducible repeat (first|apply bn|apply bd|apply ba)); exact BK214.out) hb)
             replace BK215 := Am (blk_below (g := gb215) (o := .cells #[.string a1_0, .slice (some ad249) l1_1.length c1_1, .int .i64 a1_2] 28 (0, 0)) (by (with_reducible repeat (first|apply bn|apply bd|apply ba)); exact BK215.out) hb)
             replace BK228 := Am (blk_below (g := gb228) (o := .cells #[.slice Ao59 t221.length co59, .slice Ao63 t224.length co63] 25 (0, 0)) (by (with_reducible repeat (first|apply bn|apply bd|apply ba)); exact BK228.out) hb)
             replace BK257 := Am (blk_below (g := gb257) (o := .cells #[.slice none 0 0, .slice none 0 0] 25 (0, 0)) (by (with_reducible repeat (first|apply bn|apply bd|apply ba)); exact BK257.out) hb)
             replace HB := Am (below_step (by repeat (first | (with_reducible first | exact HB.out | apply bl | apply pN | apply b1 | refine bs ?_ GE214.out | refine bs ?_ GE215.out | refine bs ?_ GE228.out | refine bs ?_ GE257.out) | exact HB.out | exact HBo.out)) hb)
             (try clear hb)
             (try clear hb2)
             (try clear hk)
             (try clear hi)
             (try clear ho0)
             (try clear ho1)
             refine hK.out _ _ ⟨(bc BK228.out 0).trans rfl, (bc BK228.out 1).trans rfl, (bc BK215.out 0).trans rfl, (bc BK215.out 1).trans rfl, (bc BK215.out 2).trans rfl, ((HB.out.cell (World.block_lt_of_cell? w _ hw249_0)).trans hw249_0), ((HB.out.cell (World.block_lt_of_cell? w _ hw249_1)).trans hw249_1)⟩ (fun hHeld => ?_)
             clear hK K
             refine norm_ (a' := ?_) ?_ ?_
             rotate_left
             ·
              show Act.put _ (some 61) _ = _
              simp only [Act.put, sI, sZ, sS, i64_w, i32_w]
              rfl
             refine Own.pr_ 8 (some 53) q10_15 HT_ (h := ?_)
             refine Own.pr_ 9 (some 62) q10_16 HT_ (h := ?_)
             refine Own.pr_ 10 (some 63) q10_8 HT_ (h := ?_)
             exact norm_ (by simp only [putAll, Act.put, sI, sZ, sS]) (hCont (v251, v254, gb257) _ ⟨hHeld, (by (with_reducible repeat (first|apply rA|apply rN|apply rD)); exact Kd.R_mono HO252.out (fun _ hk => hk.2)), (by (with_reducible repeat (first|apply sA|apply sN|apply sD)); exact Kd.S_mono HO255.out (fun _ hk => hk.2)), (by (with_reducible repeat (first|apply rA|apply rN|apply rD)); exact Kd.R_mono HO_229000.out (fun _ hk => hk.2)), (by (with_reducible repeat (first|apply sA|apply sN|apply sD)); exact Kd.S_mono HO_229001.out (fun _ hk => hk.2)), (by (with_reducible repeat (first|apply bn|apply bd|apply ba)); exact BK214.out), (by (with_reducible repeat (first|apply bn|apply bd|apply ba)); exact BK215.out), (by (with_reducible repeat (first|apply bn|apply bd|apply ba)); exact BK228.out), (by (with_reducible repeat (first|apply bn|apply bd|apply ba)); exact BK257.out), GW257.out, GE257.out, NB214_257.out, NB257_214.out, NB215_257.out, NB257_215.out, NB228_257.out, NB257_228.out, (by repeat (first | (with_reducible first | exact HB.out | apply bl | apply pN | apply b1 | refine bs ?_ GE214.out | refine bs ?_ GE215.out | refine bs ?_ GE228.out | refine bs ?_ GE257.out) | exact HB.out | exact HBo.out))⟩)
           rintro ⟨v251, v254, gb257⟩ w76 ⟨hS_, h0_, h1_, h2_, h3_, h4_, h5_, h6_, h7_, h8_, h9_, h10_, h11_, h12_, h13_, h14_, h15_, h16_⟩
           have n0_ : Aside0 (Kd.R Kd.string 9 w76 w.heap.size (fun k_ => some k_ ≠ (.slice Ao59 t221.length co59 : Value).ownBlock) v251 t250) := ⟨h0_⟩
           have n1_ : Aside0 (Kd.S (Kd.slice 50 k50) 46 w76 w.heap.size (fun k_ => some k_ ≠ (.slice Ao63 t224.length co63 : Value).ownBlock) v254 t253) := ⟨h1_⟩
           have n2_ : Aside0 (Kd.R Kd.string 9 w76 w.heap.size (fun k_ => some k_ ≠ (v251 : Value).ownBlock) (.slice Ao59 t221.length co59) t221) := ⟨h2_⟩
           have n3_ : Aside0 (Kd.S (Kd.slice 50 k50) 46 w76 w.heap.size (fun k_ => some k_ ≠ (v254 : Value).ownBlock) (.slice Ao63 t224.length co63) t224) := ⟨h3_⟩
           have n4_ : Aside0 (w76.heap[gb214]? = some (.cells #[.slice A0_0 l0_0.length c0_0, .slice A0_1 l0_1.length c0_1] 25 (0, 0))) := ⟨h4_⟩
           have n5_ : Aside0 (w76.heap[gb215]? = some (.cells #[.string a1_0, .slice (some ad249) l1_1.length c1_1, .int .i64 a1_2] 28 (0, 0))) := ⟨h5_⟩
           have n6_ : Aside0 (w76.heap[gb228]? = some (.cells #[.slice Ao59 t221.length co59, .slice Ao63 t224.length co63] 25 (0, 0))) := ⟨h6_⟩
           have n7_ : Aside0 (w76.heap[gb257]? = some (.cells #[.slice none 0 0, .slice none 0 0] 25 (0, 0))) := ⟨h7_⟩
           have n8_ : Aside0 (w.heap.size ≤ gb257) := ⟨h8_⟩
           have n9_ : Aside0 (w.heap.size ≤ gb257) := ⟨h9_⟩
           have n10_ : Aside0 (gb214 ≠ gb257) := ⟨h10_⟩
           have n11_ : Aside0 (gb257 ≠ gb214) := ⟨h11_⟩
           have n12_ : Aside0 (gb215 ≠ gb257) := ⟨h12_⟩
           have n13_ : Aside0 (gb257 ≠ gb215) := ⟨h13_⟩
           have n14_ : Aside0 (gb228 ≠ gb257) := ⟨h14_⟩
           have n15_ : Aside0 (gb257 ≠ gb228) := ⟨h15_⟩
           have n16_ : Aside0 (Below w.heap.size w w76) := ⟨h16_⟩
           clear HO_229000
           clear HO_229001
           clear BK214
           clear BK215
           clear BK228
           clear HB
           clear h0_ h1_ h2_ h3_ h4_ h5_ h6_ h7_ h8_ h9_ h10_ h11_ h12_ h13_ h14_ h15_ h16_
           have HO252 := n0_
           have HO255 := n1_
           have HO_229000 := n2_
           have HO_229001 := n3_
           have BK214 := n4_
           have BK215 := n5_
           have BK228 := n6_
           have BK257 := n7_
           have GW257 := n8_
           have GE257 := n9_
           have NB214_257 := n10_
           have NB257_214 := n11_
           have NB215_257 := n12_
           have NB257_215 := n13_
           have NB228_257 := n14_
           have NB257_228 := n15_
           have HB := n16_
           clear n0_ n1_ n2_ n3_ n4_ n5_ n6_ n7_ n8_ n9_ n10_ n11_ n12_ n13_ n14_ n15_ n16_
           have hHeld : w76.cell? ⟨gb228, 0, none⟩ = some (.slice Ao59 t221.length co59) ∧ w76.cell? ⟨gb228, 1, none⟩ = some (.slice Ao63 t224.length co63) ∧ w76.cell? ⟨gb215, 0, none⟩ = some (.string a1_0) ∧ w76.cell? ⟨gb215, 1, none⟩ = some (.slice (some ad249) l1_1.length c1_1) ∧ w76.cell? ⟨gb215, 2, none⟩ = some (.int .i64 a1_2) ∧ w76.cell? (ad249.add ((x7_2).toNat * 2)) = some (.string ((rd_T45 l1_1 x7_2).f0)) ∧ w76.cell? ⟨(ad249.add ((x7_2).toNat * 2)).block, (ad249.add ((x7_2).toNat * 2)).off + 1, none⟩ = some (.int .i64 ((rd_T45 l1_1 x7_2).f1)) := hS_
           obtain ⟨Ao77, co77, eo77⟩ := Kd.R_slice HO252.out
           (first | subst eo77 | (injection eo77 with f1_ f2_ f3_; have f4_ := f1_.symm; have f5_ := f3_.symm; clear f1_ f2_ f3_; subst f4_; subst f5_))
           obtain ⟨Ao79, co79, eo79⟩ := Kd.S_slice HO255.out
           (first | subst eo79 | (injection eo79 with f1_ f2_ f3_; have f4_ := f1_.symm; have f5_ := f3_.symm; clear f1_ f2_ f3_; subst f4_; subst f5_))
           refine norm_ (a' := ?_) ?_ ?_
           rotate_left
           ·
            simp only [putAll, Act.put, sI, sZ, sS]
            rfl
           refine one_ (i := 12) (N := none) q10_17 rfl rfl (one_of HT_.out (by kernel_rfl)) (by decide) (fun K hK => ?_)
           have hs78 : w76.cell? ⟨gb257, 0, none⟩ = some (.slice none 0 0) := (bc BK257.out 0).trans rfl
           have hfs78 := bf BK257.out 0
           have hns78_0 := NB214_257.out
           have hns78_1 := NB215_257.out
           have hns78_2 := NB228_257.out
           have hms78_0 := NB257_214.out
           have hms78_1 := NB257_215.out
           have hms78_2 := NB257_228.out
           have hs80 : w76.cell? ⟨gb257, 1, none⟩ = some (.slice none 0 0) := (bc BK257.out 1).trans rfl
           have hfs80 := bf BK257.out 1
           have hns80_0 := NB214_257.out
           have hns80_1 := NB215_257.out
           have hns80_2 := NB228_257.out
           have hms80_0 := NB257_214.out
           have hms80_1 := NB257_215.out
           have hms80_2 := NB257_228.out
           refine skip_ (w1 := ?_) (by rfl) rfl ?_ ?_
           rotate_left
           ·
            go_simp
            rfl
           refine hK.out _ _ ⟨((cell_far (p := ⟨gb257, _, none⟩) NB228_257.out _).trans (((cell_far (p := ⟨gb257, _, none⟩) NB228_257.out _).trans (hHeld.1)))), ((cell_far (p := ⟨gb257, _, none⟩) NB228_257.out _).trans (((cell_far (p := ⟨gb257, _, none⟩) NB228_257.out _).trans (hHeld.2.1)))), ((cell_far (p := ⟨gb257, _, none⟩) NB215_257.out _).trans (((cell_far (p := ⟨gb257, _, none⟩) NB215_257.out _).trans (hHeld.2.2.1)))), ((cell_far (p := ⟨gb257, _, none⟩) NB215_257.out _).trans (((cell_far (p := ⟨gb257, _, none⟩) NB215_257.out _).trans (hHeld.2.2.2.1)))), ((cell_far (p := ⟨gb257, _, none⟩) NB215_257.out _).trans (((cell_far (p := ⟨gb257, _, none⟩) NB215_257.out _).trans (hHeld.2.2.2.2.1)))), ((cell_far (p := ⟨gb257, _, none⟩) (by first | exact Nat.ne_of_lt (Nat.lt_of_lt_of_le (by have := World.block_lt_of_cell? _ _ hw249_0; first | rwa [add_block] at this | exact this) GW257.out) | (rw [add_block]; exact Nat.ne_of_lt (Nat.lt_of_lt_of_le (by have := World.block_lt_of_cell? _ _ hw249_0; first | rwa [add_block] at this | exact this) GW257.out)) | (show (Addr.add _ _).block ≠ _; rw [add_block]; exact Nat.ne_of_lt (Nat.lt_of_lt_of_le (by have := World.block_lt_of_cell? _ _ hw249_0; first | rwa [add_block] at this | exact this) GW257.out)) | (dsimp only; exact Nat.ne_of_lt (Nat.lt_of_lt_of_le (by have := World.block_lt_of_cell? _ _ hw249_0; first | rwa [add_block] at this | exact this) GW257.out))) _).trans (((cell_far (p := ⟨gb257, _, none⟩) (by first | exact Nat.ne_of_lt (Nat.lt_of_lt_of_le (by have := World.block_lt_of_cell? _ _ hw249_0; first | rwa [add_block] at this | exact this) GW257.out) | (rw [add_block]; exact Nat.ne_of_lt (Nat.lt_of_lt_of_le (by have := World.block_lt_of_cell? _ _ hw249_0; first | rwa [add_block] at this | exact this) GW257.out)) | (show (Addr.add _ _).block ≠ _; rw [add_block]; exact Nat.ne_of_lt (Nat.lt_of_lt_of_le (by have := World.block_lt_of_cell? _ _ hw249_0; first | rwa [add_block] at this | exact this) GW257.out)) | (dsimp only; exact Nat.ne_of_lt (Nat.lt_of_lt_of_le (by have := World.block_lt_of_cell? _ _ hw249_0; first | rwa [add_block] at this | exact this) GW257.out))) _).trans (hHeld.2.2.2.2.2.1)))), ((cell_far (p := ⟨gb257, _, none⟩) (by first | exact Nat.ne_of_lt (Nat.lt_of_lt_of_le (by have := World.block_lt_of_cell? _ _ hw249_1; first | rwa [add_block] at this | exact this) GW257.out) | (rw [add_block]; exact Nat.ne_of_lt (Nat.lt_of_lt_of_le (by have := World.block_lt_of_cell? _ _ hw249_1; first | rwa [add_block] at this | exact this) GW257.out)) | (show (Addr.add _ _).block ≠ _; rw [add_block]; exact Nat.ne_of_lt (Nat.lt_of_lt_of_le (by have := World.block_lt_of_cell? _ _ hw249_1; first | rwa [add_block] at this | exact this) GW257.out)) | (dsimp only; exact Nat.ne_of_lt (Nat.lt_of_lt_of_le (by have := World.block_lt_of_cell? _ _ hw249_1; first | rwa [add_block] at this | exact this) GW257.out))) _).trans (((cell_far (p := ⟨gb257, _, none⟩) (by first | exact Nat.ne_of_lt (Nat.lt_of_lt_of_le (by have := World.block_lt_of_cell? _ _ hw249_1; first | rwa [add_block] at this | exact this) GW257.out) | (rw [add_block]; exact Nat.ne_of_lt (Nat.lt_of_lt_of_le (by have := World.block_lt_of_cell? _ _ hw249_1; first | rwa [add_block] at this | exact this) GW257.out)) | (show (Addr.add _ _).block ≠ _; rw [add_block]; exact Nat.ne_of_lt (Nat.lt_of_lt_of_le (by have := World.block_lt_of_cell? _ _ hw249_1; first | rwa [add_block] at this | exact this) GW257.out)) | (dsimp only; exact Nat.ne_of_lt (Nat.lt_of_lt_of_le (by have := World.block_lt_of_cell? _ _ hw249_1; first | rwa [add_block] at this | exact this) GW257.out))) _).trans (hHeld.2.2.2.2.2.2))))⟩ (fun hHeld => ?_)
           clear hK K
           refine Own.pr_ 13 (some 9) q10_18 HT_ (h := ?_)
           refine done_ (done_of HT_.out (by kernel_rfl)) ?_
           have hnb81 := NB228_214.out
           have hnc81 := NB214_228.out
           have hnb82 := NB228_257.out
           have hnc82 := NB257_228.out
           have hcz83_0 := Own.bc2 BK228.out 0
           have hcz83_1 := Own.bc2 BK228.out 1
           have hfz83_0 := bf BK228.out 0
           have hfz83_1 := bf BK228.out 1
           have hnb84 := NB257_214.out
           have hnc84 := NB214_257.out
           have hnb85 := NB257_215.out
           have hnc85 := NB215_257.out
           have hcz86_0 := Own.bc2 BK257.out 0
           have hcz86_1 := Own.bc2 BK257.out 1
           have hfz86_0 := bf BK257.out 0
           have hfz86_1 := bf BK257.out 1
           try go_wp2_with (first | (go_at_call 21; (with_reducible refine (shuttlecockref06_Same.calls k2 _ _ t221 _ _ t224 _ _ t250 _ _ t253 true _ ?side1 ?side2 ?side3 ?side4 ?side5 ?side6 ?side7 ?side8 A68.out).mono ?_); (case side1 => refine (Kd.R_reads' (e := 9) (base := w.heap.size) (ok := fun k_ => some k_ ≠ (.slice Ao77 t250.length co77 : Value).ownBlock) (n := t221.length) (c := co59) ?_).2.2; exact (by (with_reducible repeat (first|apply rA|apply rN|apply rD)); exact (Kd.R_mono (Kd.R_far (p := ⟨gb257, 1, none⟩) (Kd.R_far (p := ⟨gb257, 0, none⟩) (Kd.R_types HO_229000.out BK257.out (by decide)) (fun _ hk => hk.2) (.slice Ao77 t250.length co77)) (fun _ hk => hk.2) (.slice Ao79 t253.length co79)) (fun _ h_ => h_.1)))); (case side2 => exact (Kd.R_reads' HO_229000.out).2.1); (case side3 => refine (Kd.S_reads' (e := 46) (base := w.heap.size) (ok := fun k_ => some k_ ≠ (.slice Ao79 t253.length co79 : Value).ownBlock) (n := t224.length) (c := co63) ?_).2.2; exact (by (with_reducible repeat (first|apply sA|apply sN|apply sD)); exact (Kd.S_mono (Kd.S_far (p := ⟨gb257, 1, none⟩) (Kd.S_far (p := ⟨gb257, 0, none⟩) (Kd.S_types HO_229001.out BK257.out (by decide)) (fun _ hk => hk.2) (.slice Ao77 t250.length co77)) (fun _ hk => hk.2) (.slice Ao79 t253.length co79)) (fun _ h_ => h_.1)))); (case side4 => exact (Kd.S_reads' HO_229001.out).2.1); (case side5 => refine (Kd.R_reads' (e := 9) (base := w.heap.size) (ok := fun k_ => some k_ ≠ (.slice Ao59 t221.length co59 : Value).ownBlock) (n := t250.length) (c := co77) ?_).2.2; exact (by (with_reducible repeat (first|apply rA|apply rN|apply rD)); exact (Kd.R_mono (Kd.R_far (p := ⟨gb257, 1, none⟩) (Kd.R_far (p := ⟨gb257, 0, none⟩) (Kd.R_types HO252.out BK257.out (by decide)) (fun _ hk => hk.2) (.slice Ao77 t250.length co77)) (fun _ hk => hk.2) (.slice Ao79 t253.length co79)) (fun _ h_ => h_.1)))); (case side6 => exact (Kd.R_reads' HO252.out).2.1); (case side7 => refine (Kd.S_reads' (e := 46) (base := w.heap.size) (ok := fun k_ => some k_ ≠ (.slice Ao63 t224.length co63 : Value).ownBlock) (n := t253.length) (c := co79) ?_).2.2; exact (by (with_reducible repeat (first|apply sA|apply sN|apply sD)); exact (Kd.S_mono (Kd.S_far (p := ⟨gb257, 1, none⟩) (Kd.S_far (p := ⟨gb257, 0, none⟩) (Kd.S_types HO255.out BK257.out (by decide)) (fun _ hk => hk.2) (.slice Ao77 t250.length co77)) (fun _ hk => hk.2) (.slice Ao79 t253.length co79)) (fun _ h_ => h_.1)))); (case side8 => exact (Kd.S_reads' HO255.out).2.1); rintro e w87 ⟨rfl, hb⟩; replace HO_229000 := Am (Kd.R_below (by (with_reducible repeat (first|apply rA|apply rN|apply rD)); exact (Kd.R_mono (Kd.R_far (p := ⟨gb257, 1, none⟩) (Kd.R_far (p := ⟨gb257, 0, none⟩) (Kd.R_types HO_229000.out BK257.out (by decide)) (fun _ hk => hk.2) (.slice Ao77 t250.length co77)) (fun _ hk => hk.2) (.slice Ao79 t253.length co79)) (fun _ h_ => h_.1))) hb); replace HO_229001 := Am (Kd.S_below (by (with_reducible repeat (first|apply sA|apply sN|apply sD)); exact (Kd.S_mono (Kd.S_far (p := ⟨gb257, 1, none⟩) (Kd.S_far (p := ⟨gb257, 0, none⟩) (Kd.S_types HO_229001.out BK257.out (by decide)) (fun _ hk => hk.2) (.slice Ao77 t250.length co77)) (fun _ hk => hk.2) (.slice Ao79 t253.length co79)) (fun _ h_ => h_.1))) hb); replace HO252 := Am (Kd.R_below (by (with_reducible repeat (first|apply rA|apply rN|apply rD)); exact (Kd.R_mono (Kd.R_far (p := ⟨gb257, 1, none⟩) (Kd.R_far (p := ⟨gb257, 0, none⟩) (Kd.R_types HO252.out BK257.out (by decide)) (fun _ hk => hk.2) (.slice Ao77 t250.length co77)) (fun _ hk => hk.2) (.slice Ao79 t253.length co79)) (fun _ h_ => h_.1))) hb); replace HO255 := Am (Kd.S_below (by (with_reducible repeat (first|apply sA|apply sN|apply sD)); exact (Kd.S_mono (Kd.S_far (p := ⟨gb257, 1, none⟩) (Kd.S_far (p := ⟨gb257, 0, none⟩) (Kd.S_types HO255.out BK257.out (by decide)) (fun _ hk => hk.2) (.slice Ao77 t250.length co77)) (fun _ hk => hk.2) (.slice Ao79 t253.length co79)) (fun _ h_ => h_.1))) hb); replace BK214 := Am (blk_below (g := gb214) (o := .cells #[.slice A0_0 l0_0.length c0_0, .slice A0_1 l0_1.length c0_1] 25 (0, 0)) (by (with_reducible repeat (first|apply bn|apply bd|apply ba)); refine blk_far ?_ NB214_257.out _; (with_reducible repeat (first|apply bn|apply bd|apply ba)); refine blk_far ?_ NB214_257.out _; (with_reducible repeat (first|apply bn|apply bd|apply ba)); exact BK214.out) hb); replace BK215 := Am (blk_below (g := gb215) (o := .cells #[.string a1_0, .slice (some ad249) l1_1.length c1_1, .int .i64 a1_2] 28 (0, 0)) (by (with_reducible repeat (first|apply bn|apply bd|apply ba)); refine blk_far ?_ NB215_257.out _; (with_reducible repeat (first|apply bn|apply bd|apply ba)); refine blk_far ?_ NB215_257.out _; (with_reducible repeat (first|apply bn|apply bd|apply ba)); exact BK215.out) hb); replace BK228 := Am (blk_below (g := gb228) (o := .cells #[.slice Ao59 t221.length co59, .slice Ao63 t224.length co63] 25 (0, 0)) (by (with_reducible repeat (first|apply bn|apply bd|apply ba)); refine blk_far ?_ NB228_257.out _; (with_reducible repeat (first|apply bn|apply bd|apply ba)); refine blk_far ?_ NB228_257.out _; (with_reducible repeat (first|apply bn|apply bd|apply ba)); exact BK228.out) hb); replace BK257 := Am (blk_below (g := gb257) (o := .cells #[.slice Ao77 t250.length co77, .slice Ao79 t253.length co79] 25 (0, 0)) (by (with_reducible repeat (first|apply bn|apply bd|apply ba)); refine blk_put (cs := #[.slice Ao77 t250.length co77, .slice none 0 0]) ?_ 1 _ rfl; (with_reducible repeat (first|apply bn|apply bd|apply ba)); refine blk_put (cs := #[.slice none 0 0, .slice none 0 0]) ?_ 0 _ rfl; (with_reducible repeat (first|apply bn|apply bd|apply ba)); exact BK257.out) hb); replace HB := Am (below_step (by repeat (first | (with_reducible first | exact HB.out | apply bl | apply pN | apply b1 | refine bs ?_ GE214.out | refine bs ?_ GE215.out | refine bs ?_ GE228.out | refine bs ?_ GE257.out) | exact HB.out | exact HBo.out)) hb); clear hb))
           go_roundg k2
           case measure => have := HJ2.out; have := HK2.out; omega
           case rel => exact ⟨(wrap64 (x7_2 + 1)), (by first | rfl | (simp; done) | (simp [*]; done)), H', ⟨by have := HJ2.out; have := HK2.out; omega⟩, ⟨by (with_reducible repeat (first|apply rA|apply rN|apply rD)); exact Kd.R_mono HO_229000.out (fun _ hk => trivial)⟩, ⟨by (with_reducible repeat (first|apply sA|apply sN|apply sD)); exact Kd.S_mono HO_229001.out (fun _ hk => trivial)⟩, ⟨by (with_reducible repeat (first|apply bn|apply bd|apply ba)); exact BK214.out⟩, ⟨by (with_reducible repeat (first|apply bn|apply bd|apply ba)); exact BK215.out⟩, ⟨by (with_reducible repeat (first|apply bn|apply bd|apply ba)); exact BK228.out⟩, ⟨by repeat (first | (with_reducible first | exact HB.out | apply bl | apply pN | apply b1 | refine bs ?_ GE214.out | refine bs ?_ GE215.out | refine bs ?_ GE228.out | refine bs ?_ GE257.out) | exact HB.out | exact HBo.out)⟩⟩
          ·
           replace c69 := Bool.eq_false_iff.mpr c69
           subst c69
           rw [if_neg (show ¬ (false = true) by decide)] at H
           exact absurd H (by simp)
        ·
         rw [if_neg c65] at H
         exact absurd H (by simp)
       ·
        rw [if_neg c64] at H
        have c64b0 : decide (x7_2 < (l1_1.length : Int)) = false := decide_eq_false c64
        clear c64
        obtain ⟨y229, hy229⟩ : ∃ y_ : List (S45), y_ = (([] : List (S45))) := ⟨_, rfl⟩
        replace H : (if y229.length + l1_1.length < 5864062014805 then ((some (y229 ++ l1_1 : List (S45))).bind fun y232 => ((some (([(⟨(⟨#[109, 111, 114, 101]⟩ : ByteArray), 1⟩ : S45)] : List (S45)) : List (S45))).bind fun y235 => (if y232.length + y235.length < 5864062014805 then ((intern_Stack.f k2 t221 t224 (y232 ++ y235)).bind fun bt241 => (if bt241.2.2 = t227 then (none) else (some (decide (bt241.2.2 > 0))))) else (none)))) else (none)) = some r := by first | (rw [hy229]; with_reducible exact H) | (have H2_ := (Option.bind_some _ _).symm.trans H; rw [hy229]; with_reducible exact H2_) | (have H2_ := (Option.bind_some _ _).symm.trans H; with_reducible exact H2_) | with_reducible exact H | (rw [hy229]; exact H) | exact H
        have Ny229 := Am hy229
        clear hy229
        by_cases c88 : y229.length + l1_1.length < 5864062014805
        ·
         rw [if_pos c88] at H
         have LMc88 := Am c88
         clear c88
         obtain ⟨y232, hy232⟩ : ∃ y_ : List (S45), y_ = (y229 ++ l1_1) := ⟨_, rfl⟩
         replace H : ((some (([(⟨(⟨#[109, 111, 114, 101]⟩ : ByteArray), 1⟩ : S45)] : List (S45)) : List (S45))).bind fun y235 => (if y232.length + y235.length < 5864062014805 then ((intern_Stack.f k2 t221 t224 (y232 ++ y235)).bind fun bt241 => (if bt241.2.2 = t227 then (none) else (some (decide (bt241.2.2 > 0))))) else (none))) = some r := by first | (rw [hy232]; with_reducible exact H) | (have H2_ := (Option.bind_some _ _).symm.trans H; rw [hy232]; with_reducible exact H2_) | (have H2_ := (Option.bind_some _ _).symm.trans H; with_reducible exact H2_) | with_reducible exact H | (rw [hy232]; exact H) | exact H
         have Ny232 := Am hy232
         clear hy232
         obtain ⟨y235, hy235⟩ : ∃ y_ : List (S45), y_ = (([(⟨(⟨#[109, 111, 114, 101]⟩ : ByteArray), 1⟩ : S45)] : List (S45))) := ⟨_, rfl⟩
         replace H : (if y232.length + y235.length < 5864062014805 then ((intern_Stack.f k2 t221 t224 (y232 ++ y235)).bind fun bt241 => (if bt241.2.2 = t227 then (none) else (some (decide (bt241.2.2 > 0))))) else (none)) = some r := by first | (rw [hy235]; with_reducible exact H) | (have H2_ := (Option.bind_some _ _).symm.trans H; rw [hy235]; with_reducible exact H2_) | (have H2_ := (Option.bind_some _ _).symm.trans H; with_reducible exact H2_) | with_reducible exact H | (rw [hy235]; exact H) | exact H
         have Ny235 := Am hy235
         clear hy235
         by_cases c89 : y232.length + y235.length < 5864062014805
         ·
          rw [if_pos c89] at H
          have LMc89 := Am c89
          clear c89
          obtain ⟨y238, hy238⟩ : ∃ y_ : List (S45), y_ = (y232 ++ y235) := ⟨_, rfl⟩
          replace H : ((intern_Stack.f k2 t221 t224 y238).bind fun bt241 => (if bt241.2.2 = t227 then (none) else (some (decide (bt241.2.2 > 0))))) = some r := by first | (rw [hy238]; with_reducible exact H) | (have H2_ := (Option.bind_some _ _).symm.trans H; rw [hy238]; with_reducible exact H2_) | (have H2_ := (Option.bind_some _ _).symm.trans H; with_reducible exact H2_) | with_reducible exact H | (rw [hy238]; exact H) | exact H
          have Ny238 := Am hy238
          clear hy238
          replace H := ob H
          obtain ⟨⟨t241, t244, t247⟩, A900, H⟩ := H
          (try dsimp only at H)
          have A90 := Am A900
          clear A900
          by_cases c91 : t247 = t227
          ·
           rw [if_pos c91] at H
           exact absurd H (by simp)
          ·
           rw [if_neg c91] at H
           have c91b0 : (t247 == t227) = false := beq_eq_false_iff_ne.mpr c91
           have c91b1 : (t247 != t227) = true := bne_iff_ne.mpr c91
           obtain rfl := Option.some.inj H
           have hnb92 := NB215_214.out
           have hnc92 := NB214_215.out
           have hnb93 := NB215_228.out
           have hnc93 := NB228_215.out
           have hcz94_0 := Own.bc2 BK215.out 0
           have hcz94_1 := Own.bc2 BK215.out 1
           have hcz94_2 := Own.bc2 BK215.out 2
           have hfz94_0 := bf BK215.out 0
           have hfz94_1 := bf BK215.out 1
           have hfz94_2 := bf BK215.out 2
           try go_wp2
           replace HO_229000 := Am (Kd.R_drew HO_229000.out)
           replace HO_229001 := Am (Kd.S_drew HO_229001.out)
           replace BK214 := Am (bd BK214.out)
           replace BK215 := Am (bd BK215.out)
           replace BK228 := Am (bd BK228.out)
           replace HB := Am (b1 HB.out)
           refine start_ (n := 15) (S := fun w' => w'.cell? ⟨gb228, 0, none⟩ = some (.slice Ao59 t221.length co59) ∧ w'.cell? ⟨gb228, 1, none⟩ = some (.slice Ao63 t224.length co63) ∧ w'.cell? ⟨gb215, 0, none⟩ = some (.string a1_0) ∧ w'.cell? ⟨gb215, 1, none⟩ = some (.slice A1_1 l1_1.length c1_1) ∧ w'.cell? ⟨gb215, 2, none⟩ = some (.int .i64 a1_2)) (ds := []) q10_19 (by kernel_rfl) rfl rfl ⟨(bc BK228.out 0).trans rfl, (bc BK228.out 1).trans rfl, (bc BK215.out 0).trans rfl, (bc BK215.out 1).trans rfl, (bc BK215.out 2).trans rfl⟩ (fun hHeld => ?_); refine with_tabW shuttlecocklaw06_InternFrames.tab12 shuttlecocklaw06_InternFrames.bits12 (fun HT_ HW_ => ?_)
           generalize wr.drew = w95 at HO_229000 HO_229001 BK214 BK215 BK228 HB hHeld ⊢
           refine Own.pr_ 2 (some 75) q10_20 HT_ (h := ?_)
           refine Own.pr_ 5 (some 78) q10_21 HT_ (h := ?_)
           refine Own.tk_ 0 (some 73) q10_22 HT_ HW_ hHeld (hy := by rintro w' ⟨s0, s1, s2, s3, s4⟩; go_simp; with_reducible rfl) (h := ?_)
           refine Own.tk_ 3 (some 76) q10_23 HT_ HW_ hHeld (hy := by rintro w' ⟨s0, s1, s2, s3, s4⟩; go_simp; with_reducible rfl) (h := ?_)
           refine join_ (σ := Value × Value × Value × Value × Value × Value × Nat) 2 q10_24 (fun s_ => [(74, s_.1), (77, s_.2.1), (79, s_.2.2.1), (80, s_.2.2.2.1), (81, .tuple #[.agg #[s_.2.2.2.2.1, s_.2.2.2.2.2.1], .int .i64 t247]), (10, .pointer (some ⟨s_.2.2.2.2.2.2, 0, none⟩)), (72, .tuple #[.agg #[s_.2.2.2.2.1, s_.2.2.2.2.2.1], .int .i64 t247]), (82, .agg #[s_.2.2.2.2.1, s_.2.2.2.2.2.1]), (83, .int .i64 t247)]) (fun s_ w' => (w'.cell? ⟨gb228, 0, none⟩ = some (.slice Ao59 t221.length co59) ∧ w'.cell? ⟨gb228, 1, none⟩ = some (.slice Ao63 t224.length co63) ∧ w'.cell? ⟨gb215, 0, none⟩ = some (.string a1_0) ∧ w'.cell? ⟨gb215, 1, none⟩ = some (.slice A1_1 l1_1.length c1_1) ∧ w'.cell? ⟨gb215, 2, none⟩ = some (.int .i64 a1_2)) ∧ (Kd.R k45 45 w' w.heap.size (fun k_ => some k_ ≠ (s_.2.2.2.1 : Value).ownBlock) s_.2.2.1 y235) ∧ (Kd.R k45 45 w' w.heap.size (fun k_ => some k_ ≠ (s_.2.2.1 : Value).ownBlock) s_.2.2.2.1 y238) ∧ (Kd.R Kd.string 9 w' w.heap.size (fun k_ => some k_ ≠ (.slice Ao59 t221.length co59 : Value).ownBlock) s_.2.2.2.2.1 t241) ∧ (Kd.S (Kd.slice 50 k50) 46 w' w.heap.size (fun k_ => some k_ ≠ (.slice Ao63 t224.length co63 : Value).ownBlock) s_.2.2.2.2.2.1 t244) ∧ (Kd.R Kd.string 9 w' w.heap.size (fun k_ => some k_ ≠ (s_.2.2.2.2.1 : Value).ownBlock) (.slice Ao59 t221.length co59) t221) ∧ (Kd.S (Kd.slice 50 k50) 46 w' w.heap.size (fun k_ => some k_ ≠ (s_.2.2.2.2.2.1 : Value).ownBlock) (.slice Ao63 t224.length co63) t224) ∧ (w'.heap[gb214]? = some (.cells #[.slice A0_0 l0_0.length c0_0, .slice A0_1 l0_1.length c0_1] 25 (0, 0))) ∧ (w'.heap[gb215]? = some (.cells #[.string a1_0, .slice A1_1 l1_1.length c1_1, .int .i64 a1_2] 28 (0, 0))) ∧ (w'.heap[gb228]? = some (.cells #[.slice Ao59 t221.length co59, .slice Ao63 t224.length co63] 25 (0, 0))) ∧ (w'.heap[s_.2.2.2.2.2.2]? = some (.cells #[.slice none 0 0, .slice none 0 0] 25 (0, 0))) ∧ (w.heap.size ≤ s_.2.2.2.2.2.2) ∧ (w.heap.size ≤ s_.2.2.2.2.2.2) ∧ (gb214 ≠ s_.2.2.2.2.2.2) ∧ (s_.2.2.2.2.2.2 ≠ gb214) ∧ (gb215 ≠ s_.2.2.2.2.2.2) ∧ (s_.2.2.2.2.2.2 ≠ gb215) ∧ (gb228 ≠ s_.2.2.2.2.2.2) ∧ (s_.2.2.2.2.2.2 ≠ gb228) ∧ (Below w.heap.size w w')) ?_ ?_
           rotate_left
           ·
            intro hJ1_4_6_7_8_12
            refine join_ (σ := Value × Value × Value × Value × Value × Value) 3 q10_25 (fun s_ => [(74, s_.1), (77, s_.2.1), (79, s_.2.2.1), (80, s_.2.2.2.1), (81, .tuple #[.agg #[s_.2.2.2.2.1, s_.2.2.2.2.2], .int .i64 t247]), (72, .tuple #[.agg #[s_.2.2.2.2.1, s_.2.2.2.2.2], .int .i64 t247]), (82, .agg #[s_.2.2.2.2.1, s_.2.2.2.2.2]), (83, .int .i64 t247)]) (fun s_ w' => (w'.cell? ⟨gb228, 0, none⟩ = some (.slice Ao59 t221.length co59) ∧ w'.cell? ⟨gb228, 1, none⟩ = some (.slice Ao63 t224.length co63) ∧ w'.cell? ⟨gb215, 0, none⟩ = some (.string a1_0) ∧ w'.cell? ⟨gb215, 1, none⟩ = some (.slice A1_1 l1_1.length c1_1) ∧ w'.cell? ⟨gb215, 2, none⟩ = some (.int .i64 a1_2)) ∧ (Kd.R k45 45 w' w.heap.size (fun k_ => some k_ ≠ (s_.2.2.2.1 : Value).ownBlock) s_.2.2.1 y235) ∧ (Kd.R k45 45 w' w.heap.size (fun k_ => some k_ ≠ (s_.2.2.1 : Value).ownBlock) s_.2.2.2.1 y238) ∧ (Kd.R Kd.string 9 w' w.heap.size (fun k_ => some k_ ≠ (.slice Ao59 t221.length co59 : Value).ownBlock) s_.2.2.2.2.1 t241) ∧ (Kd.S (Kd.slice 50 k50) 46 w' w.heap.size (fun k_ => some k_ ≠ (.slice Ao63 t224.length co63 : Value).ownBlock) s_.2.2.2.2.2 t244) ∧ (Kd.R Kd.string 9 w' w.heap.size (fun k_ => some k_ ≠ (s_.2.2.2.2.1 : Value).ownBlock) (.slice Ao59 t221.length co59) t221) ∧ (Kd.S (Kd.slice 50 k50) 46 w' w.heap.size (fun k_ => some k_ ≠ (s_.2.2.2.2.2 : Value).ownBlock) (.slice Ao63 t224.length co63) t224) ∧ (w'.heap[gb214]? = some (.cells #[.slice A0_0 l0_0.length c0_0, .slice A0_1 l0_1.length c0_1] 25 (0, 0))) ∧ (w'.heap[gb215]? = some (.cells #[.string a1_0, .slice A1_1 l1_1.length c1_1, .int .i64 a1_2] 28 (0, 0))) ∧ (w'.heap[gb228]? = some (.cells #[.slice Ao59 t221.length co59, .slice Ao63 t224.length co63] 25 (0, 0))) ∧ (Below w.heap.size w w')) ?_ ?_
            rotate_left
            ·
             intro hJ1_4_6_7_8
             refine join_ (σ := Value × Value × Value × Value × Nat) 6 q10_26 (fun s_ => [(74, s_.1), (77, s_.2.1), (79, s_.2.2.1), (80, s_.2.2.2.1), (10, .pointer (some ⟨s_.2.2.2.2, 0, none⟩))]) (fun s_ w' => (w'.cell? ⟨gb228, 0, none⟩ = some (.slice Ao59 t221.length co59) ∧ w'.cell? ⟨gb228, 1, none⟩ = some (.slice Ao63 t224.length co63) ∧ w'.cell? ⟨gb215, 0, none⟩ = some (.string a1_0) ∧ w'.cell? ⟨gb215, 1, none⟩ = some (.slice A1_1 l1_1.length c1_1) ∧ w'.cell? ⟨gb215, 2, none⟩ = some (.int .i64 a1_2)) ∧ (Kd.R k45 45 w' w.heap.size (fun k_ => some k_ ≠ (s_.2.2.2.1 : Value).ownBlock) s_.2.2.1 y235) ∧ (Kd.R k45 45 w' w.heap.size (fun k_ => some k_ ≠ (s_.2.2.1 : Value).ownBlock) s_.2.2.2.1 y238) ∧ (Kd.R Kd.string 9 w' w.heap.size (fun _ => True) (.slice Ao59 t221.length co59) t221) ∧ (Kd.S (Kd.slice 50 k50) 46 w' w.heap.size (fun _ => True) (.slice Ao63 t224.length co63) t224) ∧ (w'.heap[gb214]? = some (.cells #[.slice A0_0 l0_0.length c0_0, .slice A0_1 l0_1.length c0_1] 25 (0, 0))) ∧ (w'.heap[gb215]? = some (.cells #[.string a1_0, .slice A1_1 l1_1.length c1_1, .int .i64 a1_2] 28 (0, 0))) ∧ (w'.heap[gb228]? = some (.cells #[.slice Ao59 t221.length co59, .slice Ao63 t224.length co63] 25 (0, 0))) ∧ (w'.heap[s_.2.2.2.2]? = some (.cells #[.slice none 0 0, .slice none 0 0] 25 (0, 0))) ∧ (w.heap.size ≤ s_.2.2.2.2) ∧ (w.heap.size ≤ s_.2.2.2.2) ∧ (gb214 ≠ s_.2.2.2.2) ∧ (s_.2.2.2.2 ≠ gb214) ∧ (gb215 ≠ s_.2.2.2.2) ∧ (s_.2.2.2.2 ≠ gb215) ∧ (gb228 ≠ s_.2.2.2.2) ∧ (s_.2.2.2.2 ≠ gb228) ∧ (Below w.heap.size w w')) ?_ ?_
             rotate_left
             ·
              intro hJ1_4_6_7_12
              refine join_ (σ := Value × Value × Value × Value) 7 q10_27 (fun s_ => [(74, s_.1), (77, s_.2.1), (79, s_.2.2.1), (80, s_.2.2.2)]) (fun s_ w' => (w'.cell? ⟨gb228, 0, none⟩ = some (.slice Ao59 t221.length co59) ∧ w'.cell? ⟨gb228, 1, none⟩ = some (.slice Ao63 t224.length co63) ∧ w'.cell? ⟨gb215, 0, none⟩ = some (.string a1_0) ∧ w'.cell? ⟨gb215, 1, none⟩ = some (.slice A1_1 l1_1.length c1_1) ∧ w'.cell? ⟨gb215, 2, none⟩ = some (.int .i64 a1_2)) ∧ (Kd.R k45 45 w' w.heap.size (fun k_ => some k_ ≠ (s_.2.2.2 : Value).ownBlock) s_.2.2.1 y235) ∧ (Kd.R k45 45 w' w.heap.size (fun k_ => some k_ ≠ (s_.2.2.1 : Value).ownBlock) s_.2.2.2 y238) ∧ (Kd.R Kd.string 9 w' w.heap.size (fun _ => True) (.slice Ao59 t221.length co59) t221) ∧ (Kd.S (Kd.slice 50 k50) 46 w' w.heap.size (fun _ => True) (.slice Ao63 t224.length co63) t224) ∧ (w'.heap[gb214]? = some (.cells #[.slice A0_0 l0_0.length c0_0, .slice A0_1 l0_1.length c0_1] 25 (0, 0))) ∧ (w'.heap[gb215]? = some (.cells #[.string a1_0, .slice A1_1 l1_1.length c1_1, .int .i64 a1_2] 28 (0, 0))) ∧ (w'.heap[gb228]? = some (.cells #[.slice Ao59 t221.length co59, .slice Ao63 t224.length co63] 25 (0, 0))) ∧ (Below w.heap.size w w')) ?_ ?_
              rotate_left
              ·
               intro hJ1_4_6_7
               refine join_ (σ := Value × Value × Value × Nat) 7 q10_28 (fun s_ => [(74, s_.1), (77, s_.2.1), (79, s_.2.2.1), (10, .pointer (some ⟨s_.2.2.2, 0, none⟩))]) (fun s_ w' => (w'.cell? ⟨gb228, 0, none⟩ = some (.slice Ao59 t221.length co59) ∧ w'.cell? ⟨gb228, 1, none⟩ = some (.slice Ao63 t224.length co63) ∧ w'.cell? ⟨gb215, 0, none⟩ = some (.string a1_0) ∧ w'.cell? ⟨gb215, 1, none⟩ = some (.slice A1_1 l1_1.length c1_1) ∧ w'.cell? ⟨gb215, 2, none⟩ = some (.int .i64 a1_2)) ∧ (Kd.R k45 45 w' w.heap.size (fun k_ => some k_ ≠ (s_.2.2.1 : Value).ownBlock) s_.2.1 y232) ∧ (Kd.R k45 45 w' w.heap.size (fun k_ => some k_ ≠ (s_.2.1 : Value).ownBlock) s_.2.2.1 y235) ∧ (Kd.R Kd.string 9 w' w.heap.size (fun _ => True) (.slice Ao59 t221.length co59) t221) ∧ (Kd.S (Kd.slice 50 k50) 46 w' w.heap.size (fun _ => True) (.slice Ao63 t224.length co63) t224) ∧ (w'.heap[gb214]? = some (.cells #[.slice A0_0 l0_0.length c0_0, .slice A0_1 l0_1.length c0_1] 25 (0, 0))) ∧ (w'.heap[gb215]? = some (.cells #[.string a1_0, .slice A1_1 l1_1.length c1_1, .int .i64 a1_2] 28 (0, 0))) ∧ (w'.heap[gb228]? = some (.cells #[.slice Ao59 t221.length co59, .slice Ao63 t224.length co63] 25 (0, 0))) ∧ (w'.heap[s_.2.2.2]? = some (.cells #[.slice none 0 0, .slice none 0 0] 25 (0, 0))) ∧ (w.heap.size ≤ s_.2.2.2) ∧ (w.heap.size ≤ s_.2.2.2) ∧ (gb214 ≠ s_.2.2.2) ∧ (s_.2.2.2 ≠ gb214) ∧ (gb215 ≠ s_.2.2.2) ∧ (s_.2.2.2 ≠ gb215) ∧ (gb228 ≠ s_.2.2.2) ∧ (s_.2.2.2 ≠ gb228) ∧ (Below w.heap.size w w')) ?_ ?_
               rotate_left
               ·
                intro hJ1_4_6_12
                refine join_ (σ := Value × Value × Value) 8 q10_29 (fun s_ => [(74, s_.1), (77, s_.2.1), (79, s_.2.2)]) (fun s_ w' => (w'.cell? ⟨gb228, 0, none⟩ = some (.slice Ao59 t221.length co59) ∧ w'.cell? ⟨gb228, 1, none⟩ = some (.slice Ao63 t224.length co63) ∧ w'.cell? ⟨gb215, 0, none⟩ = some (.string a1_0) ∧ w'.cell? ⟨gb215, 1, none⟩ = some (.slice A1_1 l1_1.length c1_1) ∧ w'.cell? ⟨gb215, 2, none⟩ = some (.int .i64 a1_2)) ∧ (Kd.R k45 45 w' w.heap.size (fun k_ => some k_ ≠ (s_.2.2 : Value).ownBlock) s_.2.1 y232) ∧ (Kd.R k45 45 w' w.heap.size (fun k_ => some k_ ≠ (s_.2.1 : Value).ownBlock) s_.2.2 y235) ∧ (Kd.R Kd.string 9 w' w.heap.size (fun _ => True) (.slice Ao59 t221.length co59) t221) ∧ (Kd.S (Kd.slice 50 k50) 46 w' w.heap.size (fun _ => True) (.slice Ao63 t224.length co63) t224) ∧ (w'.heap[gb214]? = some (.cells #[.slice A0_0 l0_0.length c0_0, .slice A0_1 l0_1.length c0_1] 25 (0, 0))) ∧ (w'.heap[gb215]? = some (.cells #[.string a1_0, .slice A1_1 l1_1.length c1_1, .int .i64 a1_2] 28 (0, 0))) ∧ (w'.heap[gb228]? = some (.cells #[.slice Ao59 t221.length co59, .slice Ao63 t224.length co63] 25 (0, 0))) ∧ (Below w.heap.size w w')) ?_ ?_
                rotate_left
                ·
                 intro hJ1_4_6
                 refine join_ (σ := Value × Value × Nat) 8 q10_30 (fun s_ => [(74, s_.1), (77, s_.2.1), (10, .pointer (some ⟨s_.2.2, 0, none⟩))]) (fun s_ w' => (w'.cell? ⟨gb228, 0, none⟩ = some (.slice Ao59 t221.length co59) ∧ w'.cell? ⟨gb228, 1, none⟩ = some (.slice Ao63 t224.length co63) ∧ w'.cell? ⟨gb215, 0, none⟩ = some (.string a1_0) ∧ w'.cell? ⟨gb215, 1, none⟩ = some (.slice A1_1 l1_1.length c1_1) ∧ w'.cell? ⟨gb215, 2, none⟩ = some (.int .i64 a1_2)) ∧ (Kd.R k45 45 w' w.heap.size (fun _ => True) s_.2.1 y232) ∧ (Kd.R Kd.string 9 w' w.heap.size (fun _ => True) (.slice Ao59 t221.length co59) t221) ∧ (Kd.S (Kd.slice 50 k50) 46 w' w.heap.size (fun _ => True) (.slice Ao63 t224.length co63) t224) ∧ (w'.heap[gb214]? = some (.cells #[.slice A0_0 l0_0.length c0_0, .slice A0_1 l0_1.length c0_1] 25 (0, 0))) ∧ (w'.heap[gb215]? = some (.cells #[.string a1_0, .slice A1_1 l1_1.length c1_1, .int .i64 a1_2] 28 (0, 0))) ∧ (w'.heap[gb228]? = some (.cells #[.slice Ao59 t221.length co59, .slice Ao63 t224.length co63] 25 (0, 0))) ∧ (w'.heap[s_.2.2]? = some (.cells #[.slice none 0 0, .slice none 0 0] 25 (0, 0))) ∧ (w.heap.size ≤ s_.2.2) ∧ (w.heap.size ≤ s_.2.2) ∧ (gb214 ≠ s_.2.2) ∧ (s_.2.2 ≠ gb214) ∧ (gb215 ≠ s_.2.2) ∧ (s_.2.2 ≠ gb215) ∧ (gb228 ≠ s_.2.2) ∧ (s_.2.2 ≠ gb228) ∧ (Below w.heap.size w w')) ?_ ?_
                 rotate_left
                 ·
                  intro hJ1_4_12
                  refine join_ (σ := Value × Value × Nat) 8 q10_31 (fun s_ => [(74, s_.1), (79, s_.2.1), (10, .pointer (some ⟨s_.2.2, 0, none⟩))]) (fun s_ w' => (w'.cell? ⟨gb228, 0, none⟩ = some (.slice Ao59 t221.length co59) ∧ w'.cell? ⟨gb228, 1, none⟩ = some (.slice Ao63 t224.length co63) ∧ w'.cell? ⟨gb215, 0, none⟩ = some (.string a1_0) ∧ w'.cell? ⟨gb215, 1, none⟩ = some (.slice A1_1 l1_1.length c1_1) ∧ w'.cell? ⟨gb215, 2, none⟩ = some (.int .i64 a1_2)) ∧ (Kd.R k45 45 w' w.heap.size (fun k_ => some k_ ≠ (s_.2.1 : Value).ownBlock) s_.1 y229) ∧ (Kd.R k45 45 w' w.heap.size (fun k_ => some k_ ≠ (s_.1 : Value).ownBlock) s_.2.1 y235) ∧ (Kd.R Kd.string 9 w' w.heap.size (fun _ => True) (.slice Ao59 t221.length co59) t221) ∧ (Kd.S (Kd.slice 50 k50) 46 w' w.heap.size (fun _ => True) (.slice Ao63 t224.length co63) t224) ∧ (w'.heap[gb214]? = some (.cells #[.slice A0_0 l0_0.length c0_0, .slice A0_1 l0_1.length c0_1] 25 (0, 0))) ∧ (w'.heap[gb215]? = some (.cells #[.string a1_0, .slice A1_1 l1_1.length c1_1, .int .i64 a1_2] 28 (0, 0))) ∧ (w'.heap[gb228]? = some (.cells #[.slice Ao59 t221.length co59, .slice Ao63 t224.length co63] 25 (0, 0))) ∧ (w'.heap[s_.2.2]? = some (.cells #[.slice none 0 0, .slice none 0 0] 25 (0, 0))) ∧ (w.heap.size ≤ s_.2.2) ∧ (w.heap.size ≤ s_.2.2) ∧ (gb214 ≠ s_.2.2) ∧ (s_.2.2 ≠ gb214) ∧ (gb215 ≠ s_.2.2) ∧ (s_.2.2 ≠ gb215) ∧ (gb228 ≠ s_.2.2) ∧ (s_.2.2 ≠ gb228) ∧ (Below w.heap.size w w')) ?_ ?_
                  rotate_left
                  ·
                   intro hJ1_6_12
                   refine join_ (σ := Value × Value) 9 q10_32 (fun s_ => [(74, s_.1), (77, s_.2)]) (fun s_ w' => (w'.cell? ⟨gb228, 0, none⟩ = some (.slice Ao59 t221.length co59) ∧ w'.cell? ⟨gb228, 1, none⟩ = some (.slice Ao63 t224.length co63) ∧ w'.cell? ⟨gb215, 0, none⟩ = some (.string a1_0) ∧ w'.cell? ⟨gb215, 1, none⟩ = some (.slice A1_1 l1_1.length c1_1) ∧ w'.cell? ⟨gb215, 2, none⟩ = some (.int .i64 a1_2)) ∧ (Kd.R k45 45 w' w.heap.size (fun _ => True) s_.2 y232) ∧ (Kd.R Kd.string 9 w' w.heap.size (fun _ => True) (.slice Ao59 t221.length co59) t221) ∧ (Kd.S (Kd.slice 50 k50) 46 w' w.heap.size (fun _ => True) (.slice Ao63 t224.length co63) t224) ∧ (w'.heap[gb214]? = some (.cells #[.slice A0_0 l0_0.length c0_0, .slice A0_1 l0_1.length c0_1] 25 (0, 0))) ∧ (w'.heap[gb215]? = some (.cells #[.string a1_0, .slice A1_1 l1_1.length c1_1, .int .i64 a1_2] 28 (0, 0))) ∧ (w'.heap[gb228]? = some (.cells #[.slice Ao59 t221.length co59, .slice Ao63 t224.length co63] 25 (0, 0))) ∧ (Below w.heap.size w w')) ?_ ?_
                   rotate_left
                   ·
                    intro hJ1_4
                    refine join_ (σ := Value × Value) 9 q10_33 (fun s_ => [(74, s_.1), (79, s_.2)]) (fun s_ w' => (w'.cell? ⟨gb228, 0, none⟩ = some (.slice Ao59 t221.length co59) ∧ w'.cell? ⟨gb228, 1, none⟩ = some (.slice Ao63 t224.length co63) ∧ w'.cell? ⟨gb215, 0, none⟩ = some (.string a1_0) ∧ w'.cell? ⟨gb215, 1, none⟩ = some (.slice A1_1 l1_1.length c1_1) ∧ w'.cell? ⟨gb215, 2, none⟩ = some (.int .i64 a1_2)) ∧ (Kd.R k45 45 w' w.heap.size (fun k_ => some k_ ≠ (s_.2 : Value).ownBlock) s_.1 y229) ∧ (Kd.R k45 45 w' w.heap.size (fun k_ => some k_ ≠ (s_.1 : Value).ownBlock) s_.2 y235) ∧ (Kd.R Kd.string 9 w' w.heap.size (fun _ => True) (.slice Ao59 t221.length co59) t221) ∧ (Kd.S (Kd.slice 50 k50) 46 w' w.heap.size (fun _ => True) (.slice Ao63 t224.length co63) t224) ∧ (w'.heap[gb214]? = some (.cells #[.slice A0_0 l0_0.length c0_0, .slice A0_1 l0_1.length c0_1] 25 (0, 0))) ∧ (w'.heap[gb215]? = some (.cells #[.string a1_0, .slice A1_1 l1_1.length c1_1, .int .i64 a1_2] 28 (0, 0))) ∧ (w'.heap[gb228]? = some (.cells #[.slice Ao59 t221.length co59, .slice Ao63 t224.length co63] 25 (0, 0))) ∧ (Below w.heap.size w w')) ?_ ?_
                    rotate_left
                    ·
                     intro hJ1_6
                     refine join_ (σ := Value × Nat) 9 q10_34 (fun s_ => [(74, s_.1), (10, .pointer (some ⟨s_.2, 0, none⟩))]) (fun s_ w' => (w'.cell? ⟨gb228, 0, none⟩ = some (.slice Ao59 t221.length co59) ∧ w'.cell? ⟨gb228, 1, none⟩ = some (.slice Ao63 t224.length co63) ∧ w'.cell? ⟨gb215, 0, none⟩ = some (.string a1_0) ∧ w'.cell? ⟨gb215, 1, none⟩ = some (.slice A1_1 l1_1.length c1_1) ∧ w'.cell? ⟨gb215, 2, none⟩ = some (.int .i64 a1_2)) ∧ (Kd.R k45 45 w' w.heap.size (fun _ => True) s_.1 y229) ∧ (Kd.R Kd.string 9 w' w.heap.size (fun _ => True) (.slice Ao59 t221.length co59) t221) ∧ (Kd.S (Kd.slice 50 k50) 46 w' w.heap.size (fun _ => True) (.slice Ao63 t224.length co63) t224) ∧ (w'.heap[gb214]? = some (.cells #[.slice A0_0 l0_0.length c0_0, .slice A0_1 l0_1.length c0_1] 25 (0, 0))) ∧ (w'.heap[gb215]? = some (.cells #[.string a1_0, .slice A1_1 l1_1.length c1_1, .int .i64 a1_2] 28 (0, 0))) ∧ (w'.heap[gb228]? = some (.cells #[.slice Ao59 t221.length co59, .slice Ao63 t224.length co63] 25 (0, 0))) ∧ (w'.heap[s_.2]? = some (.cells #[.slice none 0 0, .slice none 0 0] 25 (0, 0))) ∧ (w.heap.size ≤ s_.2) ∧ (w.heap.size ≤ s_.2) ∧ (gb214 ≠ s_.2) ∧ (s_.2 ≠ gb214) ∧ (gb215 ≠ s_.2) ∧ (s_.2 ≠ gb215) ∧ (gb228 ≠ s_.2) ∧ (s_.2 ≠ gb228) ∧ (Below w.heap.size w w')) ?_ ?_
                     rotate_left
                     ·
                      intro hJ1_12
                      refine join_ (σ := Value × Nat) 9 q10_35 (fun s_ => [(79, s_.1), (10, .pointer (some ⟨s_.2, 0, none⟩))]) (fun s_ w' => (w'.cell? ⟨gb228, 0, none⟩ = some (.slice Ao59 t221.length co59) ∧ w'.cell? ⟨gb228, 1, none⟩ = some (.slice Ao63 t224.length co63) ∧ w'.cell? ⟨gb215, 0, none⟩ = some (.string a1_0) ∧ w'.cell? ⟨gb215, 1, none⟩ = some (.slice A1_1 l1_1.length c1_1) ∧ w'.cell? ⟨gb215, 2, none⟩ = some (.int .i64 a1_2)) ∧ (Kd.R k45 45 w' w.heap.size (fun _ => True) s_.1 y235) ∧ (Kd.R Kd.string 9 w' w.heap.size (fun _ => True) (.slice Ao59 t221.length co59) t221) ∧ (Kd.S (Kd.slice 50 k50) 46 w' w.heap.size (fun _ => True) (.slice Ao63 t224.length co63) t224) ∧ (w'.heap[gb214]? = some (.cells #[.slice A0_0 l0_0.length c0_0, .slice A0_1 l0_1.length c0_1] 25 (0, 0))) ∧ (w'.heap[gb215]? = some (.cells #[.string a1_0, .slice A1_1 l1_1.length c1_1, .int .i64 a1_2] 28 (0, 0))) ∧ (w'.heap[gb228]? = some (.cells #[.slice Ao59 t221.length co59, .slice Ao63 t224.length co63] 25 (0, 0))) ∧ (w'.heap[s_.2]? = some (.cells #[.slice none 0 0, .slice none 0 0] 25 (0, 0))) ∧ (w.heap.size ≤ s_.2) ∧ (w.heap.size ≤ s_.2) ∧ (gb214 ≠ s_.2) ∧ (s_.2 ≠ gb214) ∧ (gb215 ≠ s_.2) ∧ (s_.2 ≠ gb215) ∧ (gb228 ≠ s_.2) ∧ (s_.2 ≠ gb228) ∧ (Below w.heap.size w w')) ?_ ?_
                      rotate_left
                      ·
                       intro hJ6_12
                       refine join_ (σ := Value) 10 q10_36 (fun s_ => [(74, s_)]) (fun s_ w' => (w'.cell? ⟨gb228, 0, none⟩ = some (.slice Ao59 t221.length co59) ∧ w'.cell? ⟨gb228, 1, none⟩ = some (.slice Ao63 t224.length co63) ∧ w'.cell? ⟨gb215, 0, none⟩ = some (.string a1_0) ∧ w'.cell? ⟨gb215, 1, none⟩ = some (.slice A1_1 l1_1.length c1_1) ∧ w'.cell? ⟨gb215, 2, none⟩ = some (.int .i64 a1_2)) ∧ (Kd.R k45 45 w' w.heap.size (fun _ => True) s_ y229) ∧ (Kd.R Kd.string 9 w' w.heap.size (fun _ => True) (.slice Ao59 t221.length co59) t221) ∧ (Kd.S (Kd.slice 50 k50) 46 w' w.heap.size (fun _ => True) (.slice Ao63 t224.length co63) t224) ∧ (w'.heap[gb214]? = some (.cells #[.slice A0_0 l0_0.length c0_0, .slice A0_1 l0_1.length c0_1] 25 (0, 0))) ∧ (w'.heap[gb215]? = some (.cells #[.string a1_0, .slice A1_1 l1_1.length c1_1, .int .i64 a1_2] 28 (0, 0))) ∧ (w'.heap[gb228]? = some (.cells #[.slice Ao59 t221.length co59, .slice Ao63 t224.length co63] 25 (0, 0))) ∧ (Below w.heap.size w w')) ?_ ?_
                       rotate_left
                       ·
                        intro hJ1
                        refine join_ (σ := Value) 10 q10_37 (fun s_ => [(79, s_)]) (fun s_ w' => (w'.cell? ⟨gb228, 0, none⟩ = some (.slice Ao59 t221.length co59) ∧ w'.cell? ⟨gb228, 1, none⟩ = some (.slice Ao63 t224.length co63) ∧ w'.cell? ⟨gb215, 0, none⟩ = some (.string a1_0) ∧ w'.cell? ⟨gb215, 1, none⟩ = some (.slice A1_1 l1_1.length c1_1) ∧ w'.cell? ⟨gb215, 2, none⟩ = some (.int .i64 a1_2)) ∧ (Kd.R k45 45 w' w.heap.size (fun _ => True) s_ y235) ∧ (Kd.R Kd.string 9 w' w.heap.size (fun _ => True) (.slice Ao59 t221.length co59) t221) ∧ (Kd.S (Kd.slice 50 k50) 46 w' w.heap.size (fun _ => True) (.slice Ao63 t224.length co63) t224) ∧ (w'.heap[gb214]? = some (.cells #[.slice A0_0 l0_0.length c0_0, .slice A0_1 l0_1.length c0_1] 25 (0, 0))) ∧ (w'.heap[gb215]? = some (.cells #[.string a1_0, .slice A1_1 l1_1.length c1_1, .int .i64 a1_2] 28 (0, 0))) ∧ (w'.heap[gb228]? = some (.cells #[.slice Ao59 t221.length co59, .slice Ao63 t224.length co63] 25 (0, 0))) ∧ (Below w.heap.size w w')) ?_ ?_
                        rotate_left
                        ·
                         intro hJ6
                         refine join_ (σ := Nat) 10 q10_38 (fun s_ => [(10, .pointer (some ⟨s_, 0, none⟩))]) (fun s_ w' => (w'.cell? ⟨gb228, 0, none⟩ = some (.slice Ao59 t221.length co59) ∧ w'.cell? ⟨gb228, 1, none⟩ = some (.slice Ao63 t224.length co63) ∧ w'.cell? ⟨gb215, 0, none⟩ = some (.string a1_0) ∧ w'.cell? ⟨gb215, 1, none⟩ = some (.slice A1_1 l1_1.length c1_1) ∧ w'.cell? ⟨gb215, 2, none⟩ = some (.int .i64 a1_2)) ∧ (Kd.R Kd.string 9 w' w.heap.size (fun _ => True) (.slice Ao59 t221.length co59) t221) ∧ (Kd.S (Kd.slice 50 k50) 46 w' w.heap.size (fun _ => True) (.slice Ao63 t224.length co63) t224) ∧ (w'.heap[gb214]? = some (.cells #[.slice A0_0 l0_0.length c0_0, .slice A0_1 l0_1.length c0_1] 25 (0, 0))) ∧ (w'.heap[gb215]? = some (.cells #[.string a1_0, .slice A1_1 l1_1.length c1_1, .int .i64 a1_2] 28 (0, 0))) ∧ (w'.heap[gb228]? = some (.cells #[.slice Ao59 t221.length co59, .slice Ao63 t224.length co63] 25 (0, 0))) ∧ (w'.heap[s_]? = some (.cells #[.slice none 0 0, .slice none 0 0] 25 (0, 0))) ∧ (w.heap.size ≤ s_) ∧ (w.heap.size ≤ s_) ∧ (gb214 ≠ s_) ∧ (s_ ≠ gb214) ∧ (gb215 ≠ s_) ∧ (s_ ≠ gb215) ∧ (gb228 ≠ s_) ∧ (s_ ≠ gb228) ∧ (Below w.heap.size w w')) ?_ ?_
                         rotate_left
                         ·
                          intro hJ12
                          refine three_ (i := 1) (j := 6) (k := 12) (Ni := some 74) (Nj := some 79) (Nk := some 10) q10_36 q10_37 q10_38 rfl rfl rfl rfl rfl rfl (three_of HT_.out (by kernel_rfl)) (by decide) (by decide) (by decide) (fun K hK => ?_) (fun K hK => ?_) (fun K hK => ?_)
                          ·
                           skip
                           refine Kd.R_lit_step k45 _ 45 ?hg (N := 74) ?hd (xs := ([] : List (S45))) (inner := []) (ok := fun _ => True) (okp := fun _ => True) ?hr ?hp (fun _ hk => hk) trivial (Below.refl _ _) (Nat.le_refl _) (by simp) ?_; (case hd => rfl); (case hg => rfl); (case hr => first | (go_simp; done) | (go_simp; rfl)); (case hp => exact (Reps.none _ _))
                           intro v230 w96 ho97 hb hg_ hnew_
                           clear hg_ hnew_
                           (first | rw [← Ny229.out] at ho97 | (simp only [Int.reduceToNat] at ho97; rw [← Ny229.out] at ho97))
                           have HO231 := Am (Kd.R_lower ho97 (below_size (by repeat (first | (with_reducible first | exact HB.out | apply bl | apply pN | apply b1 | refine bs ?_ GE214.out | refine bs ?_ GE215.out | refine bs ?_ GE228.out) | exact HB.out | exact HBo.out))))
                           replace HO_229000 := Am (Kd.R_below (by (with_reducible repeat (first|apply rA|apply rN|apply rD)); exact HO_229000.out) hb)
                           replace HO_229001 := Am (Kd.S_below (by (with_reducible repeat (first|apply sA|apply sN|apply sD)); exact HO_229001.out) hb)
                           replace BK214 := Am (blk_below (g := gb214) (o := .cells #[.slice A0_0 l0_0.length c0_0, .slice A0_1 l0_1.length c0_1] 25 (0, 0)) (by (with_reducible repeat (first|apply bn|apply bd|apply ba)); exact BK214.out) hb)
                           replace BK215 := Am (blk_below (g := gb215) (o := .cells #[.string a1_0, .slice A1_1 l1_1.length c1_1, .int .i64 a1_2] 28 (0, 0)) (by (with_reducible repeat (first|apply bn|apply bd|apply ba)); exact BK215.out) hb)
                           replace BK228 := Am (blk_below (g := gb228) (o := .cells #[.slice Ao59 t221.length co59, .slice Ao63 t224.length co63] 25 (0, 0)) (by (with_reducible repeat (first|apply bn|apply bd|apply ba)); exact BK228.out) hb)
                           replace HB := Am (below_step (by repeat (first | (with_reducible first | exact HB.out | apply bl | apply pN | apply b1 | refine bs ?_ GE214.out | refine bs ?_ GE215.out | refine bs ?_ GE228.out) | exact HB.out | exact HBo.out)) hb)
                           clear hb ho97
                           refine hK.out _ _ ⟨(bc BK228.out 0).trans rfl, (bc BK228.out 1).trans rfl, (bc BK215.out 0).trans rfl, (bc BK215.out 1).trans rfl, (bc BK215.out 2).trans rfl⟩ (fun hHeld => ?_)
                           clear hK K
                           refine norm_ (a' := ?_) ?_ ?_
                           rotate_left
                           ·
                            show Act.put _ (some 74) _ = _
                            simp only [Act.put, sI, sZ, sS, i64_w, i32_w]
                            rfl
                           exact norm_ (by first | (simp only [putAll, Act.put, sI, sZ, sS]; done) | (simp only [putAll, Act.put, sI, sZ, sS]; rfl)) (hJ1 (v230) _ ⟨hHeld, (by (with_reducible repeat (first|apply rA|apply rN|apply rD)); exact HO231.out), (by (with_reducible repeat (first|apply rA|apply rN|apply rD)); exact HO_229000.out), (by (with_reducible repeat (first|apply sA|apply sN|apply sD)); exact HO_229001.out), (by (with_reducible repeat (first|apply bn|apply bd|apply ba)); exact BK214.out), (by (with_reducible repeat (first|apply bn|apply bd|apply ba)); exact BK215.out), (by (with_reducible repeat (first|apply bn|apply bd|apply ba)); exact BK228.out), (by repeat (first | (with_reducible first | exact HB.out | apply bl | apply pN | apply b1 | refine bs ?_ GE214.out | refine bs ?_ GE215.out | refine bs ?_ GE228.out) | exact HB.out | exact HBo.out))⟩)
                          ·
                           skip
                           refine Kd.R_lit_step k45 _ 45 ?hg (N := 79) ?hd (xs := ([(⟨(⟨#[109, 111, 114, 101]⟩ : ByteArray), 1⟩ : S45)] : List (S45))) (inner := [.string (⟨#[109, 111, 114, 101]⟩ : ByteArray), .int .i64 1]) (ok := fun _ => True) (okp := fun _ => True) ?hr ?hp (fun _ hk => hk) trivial (Below.refl _ _) (Nat.le_refl _) (by simp) ?_; (case hd => rfl); (case hg => rfl); (case hr => first | (go_simp; done) | (go_simp; rfl)); (case hp => exact (Reps.c2 (show Kd.M k45 _ _ _ (⟨(⟨#[109, 111, 114, 101]⟩ : ByteArray), 1⟩ : S45) [.string (⟨#[109, 111, 114, 101]⟩ : ByteArray), .int .i64 1] from (k45_mkM _ _ _ (⟨(⟨#[109, 111, 114, 101]⟩ : ByteArray), 1⟩ : S45) )) (Reps.none _ _)))
                           intro v236 w96 ho97 hb hg_ hnew_
                           clear hg_ hnew_
                           (first | rw [← Ny235.out] at ho97 | (simp only [Int.reduceToNat] at ho97; rw [← Ny235.out] at ho97))
                           have HO237 := Am (Kd.R_lower ho97 (below_size (by repeat (first | (with_reducible first | exact HB.out | apply bl | apply pN | apply b1 | refine bs ?_ GE214.out | refine bs ?_ GE215.out | refine bs ?_ GE228.out) | exact HB.out | exact HBo.out))))
                           replace HO_229000 := Am (Kd.R_below (by (with_reducible repeat (first|apply rA|apply rN|apply rD)); exact HO_229000.out) hb)
                           replace HO_229001 := Am (Kd.S_below (by (with_reducible repeat (first|apply sA|apply sN|apply sD)); exact HO_229001.out) hb)
                           replace BK214 := Am (blk_below (g := gb214) (o := .cells #[.slice A0_0 l0_0.length c0_0, .slice A0_1 l0_1.length c0_1] 25 (0, 0)) (by (with_reducible repeat (first|apply bn|apply bd|apply ba)); exact BK214.out) hb)
                           replace BK215 := Am (blk_below (g := gb215) (o := .cells #[.string a1_0, .slice A1_1 l1_1.length c1_1, .int .i64 a1_2] 28 (0, 0)) (by (with_reducible repeat (first|apply bn|apply bd|apply ba)); exact BK215.out) hb)
                           replace BK228 := Am (blk_below (g := gb228) (o := .cells #[.slice Ao59 t221.length co59, .slice Ao63 t224.length co63] 25 (0, 0)) (by (with_reducible repeat (first|apply bn|apply bd|apply ba)); exact BK228.out) hb)
                           replace HB := Am (below_step (by repeat (first | (with_reducible first | exact HB.out | apply bl | apply pN | apply b1 | refine bs ?_ GE214.out | refine bs ?_ GE215.out | refine bs ?_ GE228.out) | exact HB.out | exact HBo.out)) hb)
                           clear hb ho97
                           refine hK.out _ _ ⟨(bc BK228.out 0).trans rfl, (bc BK228.out 1).trans rfl, (bc BK215.out 0).trans rfl, (bc BK215.out 1).trans rfl, (bc BK215.out 2).trans rfl⟩ (fun hHeld => ?_)
                           clear hK K
                           refine norm_ (a' := ?_) ?_ ?_
                           rotate_left
                           ·
                            show Act.put _ (some 79) _ = _
                            simp only [Act.put, sI, sZ, sS, i64_w, i32_w]
                            rfl
                           exact norm_ (by first | (simp only [putAll, Act.put, sI, sZ, sS]; done) | (simp only [putAll, Act.put, sI, sZ, sS]; rfl)) (hJ6 (v236) _ ⟨hHeld, (by (with_reducible repeat (first|apply rA|apply rN|apply rD)); exact HO237.out), (by (with_reducible repeat (first|apply rA|apply rN|apply rD)); exact HO_229000.out), (by (with_reducible repeat (first|apply sA|apply sN|apply sD)); exact HO_229001.out), (by (with_reducible repeat (first|apply bn|apply bd|apply ba)); exact BK214.out), (by (with_reducible repeat (first|apply bn|apply bd|apply ba)); exact BK215.out), (by (with_reducible repeat (first|apply bn|apply bd|apply ba)); exact BK228.out), (by repeat (first | (with_reducible first | exact HB.out | apply bl | apply pN | apply b1 | refine bs ?_ GE214.out | refine bs ?_ GE215.out | refine bs ?_ GE228.out) | exact HB.out | exact HBo.out))⟩)
                          ·
                           skip
                           refine box_step ?hg (N := 10) ?hd (cs := #[.slice none 0 0, .slice none 0 0]) (t := 25) ?hr ?_; (case hd => rfl); (case hg => rfl); (case hr => first | (go_simp; done) | (go_simp; rfl))
                           intro gb248 hg w96 hbox hb
                           have BK248 := Am (hbox)
                           have GW248 := Am ((by rw [hg]; exact (below_size (by repeat (first | (with_reducible first | exact HB.out | apply bl | apply pN | apply b1 | refine bs ?_ GE214.out | refine bs ?_ GE215.out | refine bs ?_ GE228.out) | exact HB.out | exact HBo.out))) : w.heap.size ≤ gb248))
                           have GE248 := GW248
                           have NB214_248 := Am ((by rw [hg]; exact Nat.ne_of_lt (blk_lt (g := gb214) (o := .cells #[.slice A0_0 l0_0.length c0_0, .slice A0_1 l0_1.length c0_1] 25 (0, 0)) (by (with_reducible repeat (first|apply bn|apply bd|apply ba)); exact BK214.out)) : gb214 ≠ gb248))
                           have NB248_214 := Am NB214_248.out.symm
                           have NB215_248 := Am ((by rw [hg]; exact Nat.ne_of_lt (blk_lt (g := gb215) (o := .cells #[.string a1_0, .slice A1_1 l1_1.length c1_1, .int .i64 a1_2] 28 (0, 0)) (by (with_reducible repeat (first|apply bn|apply bd|apply ba)); exact BK215.out)) : gb215 ≠ gb248))
                           have NB248_215 := Am NB215_248.out.symm
                           have NB228_248 := Am ((by rw [hg]; exact Nat.ne_of_lt (blk_lt (g := gb228) (o := .cells #[.slice Ao59 t221.length co59, .slice Ao63 t224.length co63] 25 (0, 0)) (by (with_reducible repeat (first|apply bn|apply bd|apply ba)); exact BK228.out)) : gb228 ≠ gb248))
                           have NB248_228 := Am NB228_248.out.symm
                           replace HO_229000 := Am (Kd.R_below (by (with_reducible repeat (first|apply rA|apply rN|apply rD)); exact HO_229000.out) hb)
                           replace HO_229001 := Am (Kd.S_below (by (with_reducible repeat (first|apply sA|apply sN|apply sD)); exact HO_229001.out) hb)
                           replace BK214 := Am (blk_below (g := gb214) (o := .cells #[.slice A0_0 l0_0.length c0_0, .slice A0_1 l0_1.length c0_1] 25 (0, 0)) (by (with_reducible repeat (first|apply bn|apply bd|apply ba)); exact BK214.out) hb)
                           replace BK215 := Am (blk_below (g := gb215) (o := .cells #[.string a1_0, .slice A1_1 l1_1.length c1_1, .int .i64 a1_2] 28 (0, 0)) (by (with_reducible repeat (first|apply bn|apply bd|apply ba)); exact BK215.out) hb)
                           replace BK228 := Am (blk_below (g := gb228) (o := .cells #[.slice Ao59 t221.length co59, .slice Ao63 t224.length co63] 25 (0, 0)) (by (with_reducible repeat (first|apply bn|apply bd|apply ba)); exact BK228.out) hb)
                           replace HB := Am (below_step (by repeat (first | (with_reducible first | exact HB.out | apply bl | apply pN | apply b1 | refine bs ?_ GE214.out | refine bs ?_ GE215.out | refine bs ?_ GE228.out) | exact HB.out | exact HBo.out)) hb)
                           clear hb hbox hg
                           refine hK.out _ _ ⟨(bc BK228.out 0).trans rfl, (bc BK228.out 1).trans rfl, (bc BK215.out 0).trans rfl, (bc BK215.out 1).trans rfl, (bc BK215.out 2).trans rfl⟩ (fun hHeld => ?_)
                           clear hK K
                           refine norm_ (a' := ?_) ?_ ?_
                           rotate_left
                           ·
                            show Act.put _ (some 10) _ = _
                            simp only [Act.put, sI, sZ, sS, i64_w, i32_w]
                            rfl
                           exact norm_ (by first | (simp only [putAll, Act.put, sI, sZ, sS]; done) | (simp only [putAll, Act.put, sI, sZ, sS]; rfl)) (hJ12 (gb248) _ ⟨hHeld, (by (with_reducible repeat (first|apply rA|apply rN|apply rD)); exact HO_229000.out), (by (with_reducible repeat (first|apply sA|apply sN|apply sD)); exact HO_229001.out), (by (with_reducible repeat (first|apply bn|apply bd|apply ba)); exact BK214.out), (by (with_reducible repeat (first|apply bn|apply bd|apply ba)); exact BK215.out), (by (with_reducible repeat (first|apply bn|apply bd|apply ba)); exact BK228.out), (by (with_reducible repeat (first|apply bn|apply bd|apply ba)); exact BK248.out), GW248.out, GE248.out, NB214_248.out, NB248_214.out, NB215_248.out, NB248_215.out, NB228_248.out, NB248_228.out, (by repeat (first | (with_reducible first | exact HB.out | apply bl | apply pN | apply b1 | refine bs ?_ GE214.out | refine bs ?_ GE215.out | refine bs ?_ GE228.out | refine bs ?_ GE248.out) | exact HB.out | exact HBo.out))⟩)
                         ·
                          skip
                          rintro gb248 w97 ⟨hS_, h0_, h1_, h2_, h3_, h4_, h5_, h6_, h7_, h8_, h9_, h10_, h11_, h12_, h13_, h14_⟩
                          have n0_ : Aside0 (Kd.R Kd.string 9 w97 w.heap.size (fun _ => True) (.slice Ao59 t221.length co59) t221) := ⟨h0_⟩
                          have n1_ : Aside0 (Kd.S (Kd.slice 50 k50) 46 w97 w.heap.size (fun _ => True) (.slice Ao63 t224.length co63) t224) := ⟨h1_⟩
                          have n2_ : Aside0 (w97.heap[gb214]? = some (.cells #[.slice A0_0 l0_0.length c0_0, .slice A0_1 l0_1.length c0_1] 25 (0, 0))) := ⟨h2_⟩
                          have n3_ : Aside0 (w97.heap[gb215]? = some (.cells #[.string a1_0, .slice A1_1 l1_1.length c1_1, .int .i64 a1_2] 28 (0, 0))) := ⟨h3_⟩
                          have n4_ : Aside0 (w97.heap[gb228]? = some (.cells #[.slice Ao59 t221.length co59, .slice Ao63 t224.length co63] 25 (0, 0))) := ⟨h4_⟩
                          have n5_ : Aside0 (w97.heap[gb248]? = some (.cells #[.slice none 0 0, .slice none 0 0] 25 (0, 0))) := ⟨h5_⟩
                          have n6_ : Aside0 (w.heap.size ≤ gb248) := ⟨h6_⟩
                          have n7_ : Aside0 (w.heap.size ≤ gb248) := ⟨h7_⟩
                          have n8_ : Aside0 (gb214 ≠ gb248) := ⟨h8_⟩
                          have n9_ : Aside0 (gb248 ≠ gb214) := ⟨h9_⟩
                          have n10_ : Aside0 (gb215 ≠ gb248) := ⟨h10_⟩
                          have n11_ : Aside0 (gb248 ≠ gb215) := ⟨h11_⟩
                          have n12_ : Aside0 (gb228 ≠ gb248) := ⟨h12_⟩
                          have n13_ : Aside0 (gb248 ≠ gb228) := ⟨h13_⟩
                          have n14_ : Aside0 (Below w.heap.size w w97) := ⟨h14_⟩
                          clear HO_229000
                          clear HO_229001
                          clear BK214
                          clear BK215
                          clear BK228
                          clear HB
                          clear h0_ h1_ h2_ h3_ h4_ h5_ h6_ h7_ h8_ h9_ h10_ h11_ h12_ h13_ h14_
                          have HO_229000 := n0_
                          have HO_229001 := n1_
                          have BK214 := n2_
                          have BK215 := n3_
                          have BK228 := n4_
                          have BK248 := n5_
                          have GW248 := n6_
                          have GE248 := n7_
                          have NB214_248 := n8_
                          have NB248_214 := n9_
                          have NB215_248 := n10_
                          have NB248_215 := n11_
                          have NB228_248 := n12_
                          have NB248_228 := n13_
                          have HB := n14_
                          clear n0_ n1_ n2_ n3_ n4_ n5_ n6_ n7_ n8_ n9_ n10_ n11_ n12_ n13_ n14_
                          have hHeld : w97.cell? ⟨gb228, 0, none⟩ = some (.slice Ao59 t221.length co59) ∧ w97.cell? ⟨gb228, 1, none⟩ = some (.slice Ao63 t224.length co63) ∧ w97.cell? ⟨gb215, 0, none⟩ = some (.string a1_0) ∧ w97.cell? ⟨gb215, 1, none⟩ = some (.slice A1_1 l1_1.length c1_1) ∧ w97.cell? ⟨gb215, 2, none⟩ = some (.int .i64 a1_2) := hS_
                          refine norm_ (a' := ?_) ?_ ?_
                          rotate_left
                          ·
                           simp only [putAll, Act.put, sI, sZ, sS]
                           rfl
                          refine two_ (i := 1) (j := 6) (Ni := some 74) (Nj := some 79) q10_34 q10_35 rfl rfl rfl rfl (two_of HT_.out (by kernel_rfl)) (by decide) (by decide) (fun K hK => ?_) (fun K hK => ?_)
                          ·
                           skip
                           refine Kd.R_lit_step k45 _ 45 ?hg (N := 74) ?hd (xs := ([] : List (S45))) (inner := []) (ok := fun _ => True) (okp := fun _ => True) ?hr ?hp (fun _ hk => hk) trivial (Below.refl _ _) (Nat.le_refl _) (by simp) ?_; (case hd => rfl); (case hg => rfl); (case hr => first | (go_simp; done) | (go_simp; rfl)); (case hp => exact (Reps.none _ _))
                           intro v230 w98 ho99 hb hg_ hnew_
                           clear hg_ hnew_
                           (first | rw [← Ny229.out] at ho99 | (simp only [Int.reduceToNat] at ho99; rw [← Ny229.out] at ho99))
                           have HO231 := Am (Kd.R_lower ho99 (below_size (by repeat (first | (with_reducible first | exact HB.out | apply bl | apply pN | apply b1 | refine bs ?_ GE214.out | refine bs ?_ GE215.out | refine bs ?_ GE228.out | refine bs ?_ GE248.out) | exact HB.out | exact HBo.out))))
                           replace HO_229000 := Am (Kd.R_below (by (with_reducible repeat (first|apply rA|apply rN|apply rD)); exact HO_229000.out) hb)
                           replace HO_229001 := Am (Kd.S_below (by (with_reducible repeat (first|apply sA|apply sN|apply sD)); exact HO_229001.out) hb)
                           replace BK214 := Am (blk_below (g := gb214) (o := .cells #[.slice A0_0 l0_0.length c0_0, .slice A0_1 l0_1.length c0_1] 25 (0, 0)) (by (with_reducible repeat (first|apply bn|apply bd|apply ba)); exact BK214.out) hb)
                           replace BK215 := Am (blk_below (g := gb215) (o := .cells #[.string a1_0, .slice A1_1 l1_1.length c1_1, .int .i64 a1_2] 28 (0, 0)) (by (with_reducible repeat (first|apply bn|apply bd|apply ba)); exact BK215.out) hb)
                           replace BK228 := Am (blk_below (g := gb228) (o := .cells #[.slice Ao59 t221.length co59, .slice Ao63 t224.length co63] 25 (0, 0)) (by (with_reducible repeat (first|apply bn|apply bd|apply ba)); exact BK228.out) hb)
                           replace BK248 := Am (blk_below (g := gb248) (o := .cells #[.slice none 0 0, .slice none 0 0] 25 (0, 0)) (by (with_reducible repeat (first|apply bn|apply bd|apply ba)); exact BK248.out) hb)
                           replace HB := Am (below_step (by repeat (first | (with_reducible first | exact HB.out | apply bl | apply pN | apply b1 | refine bs ?_ GE214.out | refine bs ?_ GE215.out | refine bs ?_ GE228.out | refine bs ?_ GE248.out) | exact HB.out | exact HBo.out)) hb)
                           clear hb ho99
                           refine hK.out _ _ ⟨(bc BK228.out 0).trans rfl, (bc BK228.out 1).trans rfl, (bc BK215.out 0).trans rfl, (bc BK215.out 1).trans rfl, (bc BK215.out 2).trans rfl⟩ (fun hHeld => ?_)
                           clear hK K
                           refine norm_ (a' := ?_) ?_ ?_
                           rotate_left
                           ·
                            show Act.put _ (some 74) _ = _
                            simp only [Act.put, sI, sZ, sS, i64_w, i32_w]
                            rfl
                           exact norm_ (by first | (simp only [putAll, Act.put, sI, sZ, sS]; done) | (simp only [putAll, Act.put, sI, sZ, sS]; rfl)) (hJ1_12 (v230, gb248) _ ⟨hHeld, (by (with_reducible repeat (first|apply rA|apply rN|apply rD)); exact HO231.out), (by (with_reducible repeat (first|apply rA|apply rN|apply rD)); exact HO_229000.out), (by (with_reducible repeat (first|apply sA|apply sN|apply sD)); exact HO_229001.out), (by (with_reducible repeat (first|apply bn|apply bd|apply ba)); exact BK214.out), (by (with_reducible repeat (first|apply bn|apply bd|apply ba)); exact BK215.out), (by (with_reducible repeat (first|apply bn|apply bd|apply ba)); exact BK228.out), (by (with_reducible repeat (first|apply bn|apply bd|apply ba)); exact BK248.out), GW248.out, GE248.out, NB214_248.out, NB248_214.out, NB215_248.out, NB248_215.out, NB228_248.out, NB248_228.out, (by repeat (first | (with_reducible first | exact HB.out | apply bl | apply pN | apply b1 | refine bs ?_ GE214.out | refine bs ?_ GE215.out | refine bs ?_ GE228.out | refine bs ?_ GE248.out) | exact HB.out | exact HBo.out))⟩)
                          ·
                           skip
                           refine Kd.R_lit_step k45 _ 45 ?hg (N := 79) ?hd (xs := ([(⟨(⟨#[109, 111, 114, 101]⟩ : ByteArray), 1⟩ : S45)] : List (S45))) (inner := [.string (⟨#[109, 111, 114, 101]⟩ : ByteArray), .int .i64 1]) (ok := fun _ => True) (okp := fun _ => True) ?hr ?hp (fun _ hk => hk) trivial (Below.refl _ _) (Nat.le_refl _) (by simp) ?_; (case hd => rfl); (case hg => rfl); (case hr => first | (go_simp; done) | (go_simp; rfl)); (case hp => exact (Reps.c2 (show Kd.M k45 _ _ _ (⟨(⟨#[109, 111, 114, 101]⟩ : ByteArray), 1⟩ : S45) [.string (⟨#[109, 111, 114, 101]⟩ : ByteArray), .int .i64 1] from (k45_mkM _ _ _ (⟨(⟨#[109, 111, 114, 101]⟩ : ByteArray), 1⟩ : S45) )) (Reps.none _ _)))
                           intro v236 w98 ho99 hb hg_ hnew_
                           clear hg_ hnew_
                           (first | rw [← Ny235.out] at ho99 | (simp only [Int.reduceToNat] at ho99; rw [← Ny235.out] at ho99))
                           have HO237 := Am (Kd.R_lower ho99 (below_size (by repeat (first | (with_reducible first | exact HB.out | apply bl | apply pN | apply b1 | refine bs ?_ GE214.out | refine bs ?_ GE215.out | refine bs ?_ GE228.out | refine bs ?_ GE248.out) | exact HB.out | exact HBo.out))))
                           replace HO_229000 := Am (Kd.R_below (by (with_reducible repeat (first|apply rA|apply rN|apply rD)); exact HO_229000.out) hb)
                           replace HO_229001 := Am (Kd.S_below (by (with_reducible repeat (first|apply sA|apply sN|apply sD)); exact HO_229001.out) hb)
                           replace BK214 := Am (blk_below (g := gb214) (o := .cells #[.slice A0_0 l0_0.length c0_0, .slice A0_1 l0_1.length c0_1] 25 (0, 0)) (by (with_reducible repeat (first|apply bn|apply bd|apply ba)); exact BK214.out) hb)
                           replace BK215 := Am (blk_below (g := gb215) (o := .cells #[.string a1_0, .slice A1_1 l1_1.length c1_1, .int .i64 a1_2] 28 (0, 0)) (by (with_reducible repeat (first|apply bn|apply bd|apply ba)); exact BK215.out) hb)
                           replace BK228 := Am (blk_below (g := gb228) (o := .cells #[.slice Ao59 t221.length co59, .slice Ao63 t224.length co63] 25 (0, 0)) (by (with_reducible repeat (first|apply bn|apply bd|apply ba)); exact BK228.out) hb)
                           replace BK248 := Am (blk_below (g := gb248) (o := .cells #[.slice none 0 0, .slice none 0 0] 25 (0, 0)) (by (with_reducible repeat (first|apply bn|apply bd|apply ba)); exact BK248.out) hb)
                           replace HB := Am (below_step (by repeat (first | (with_reducible first | exact HB.out | apply bl | apply pN | apply b1 | refine bs ?_ GE214.out | refine bs ?_ GE215.out | refine bs ?_ GE228.out | refine bs ?_ GE248.out) | exact HB.out | exact HBo.out)) hb)
                           clear hb ho99
                           refine hK.out _ _ ⟨(bc BK228.out 0).trans rfl, (bc BK228.out 1).trans rfl, (bc BK215.out 0).trans rfl, (bc BK215.out 1).trans rfl, (bc BK215.out 2).trans rfl⟩ (fun hHeld => ?_)
                           clear hK K
                           refine norm_ (a' := ?_) ?_ ?_
                           rotate_left
                           ·
                            show Act.put _ (some 79) _ = _
                            simp only [Act.put, sI, sZ, sS, i64_w, i32_w]
                            rfl
                           exact norm_ (by first | (simp only [putAll, Act.put, sI, sZ, sS]; done) | (simp only [putAll, Act.put, sI, sZ, sS]; rfl)) (hJ6_12 (v236, gb248) _ ⟨hHeld, (by (with_reducible repeat (first|apply rA|apply rN|apply rD)); exact HO237.out), (by (with_reducible repeat (first|apply rA|apply rN|apply rD)); exact HO_229000.out), (by (with_reducible repeat (first|apply sA|apply sN|apply sD)); exact HO_229001.out), (by (with_reducible repeat (first|apply bn|apply bd|apply ba)); exact BK214.out), (by (with_reducible repeat (first|apply bn|apply bd|apply ba)); exact BK215.out), (by (with_reducible repeat (first|apply bn|apply bd|apply ba)); exact BK228.out), (by (with_reducible repeat (first|apply bn|apply bd|apply ba)); exact BK248.out), GW248.out, GE248.out, NB214_248.out, NB248_214.out, NB215_248.out, NB248_215.out, NB228_248.out, NB248_228.out, (by repeat (first | (with_reducible first | exact HB.out | apply bl | apply pN | apply b1 | refine bs ?_ GE214.out | refine bs ?_ GE215.out | refine bs ?_ GE228.out | refine bs ?_ GE248.out) | exact HB.out | exact HBo.out))⟩)
                        ·
                         skip
                         rintro v236 w98 ⟨hS_, h0_, h1_, h2_, h3_, h4_, h5_, h6_⟩
                         have n0_ : Aside0 (Kd.R k45 45 w98 w.heap.size (fun _ => True) v236 y235) := ⟨h0_⟩
                         have n1_ : Aside0 (Kd.R Kd.string 9 w98 w.heap.size (fun _ => True) (.slice Ao59 t221.length co59) t221) := ⟨h1_⟩
                         have n2_ : Aside0 (Kd.S (Kd.slice 50 k50) 46 w98 w.heap.size (fun _ => True) (.slice Ao63 t224.length co63) t224) := ⟨h2_⟩
                         have n3_ : Aside0 (w98.heap[gb214]? = some (.cells #[.slice A0_0 l0_0.length c0_0, .slice A0_1 l0_1.length c0_1] 25 (0, 0))) := ⟨h3_⟩
                         have n4_ : Aside0 (w98.heap[gb215]? = some (.cells #[.string a1_0, .slice A1_1 l1_1.length c1_1, .int .i64 a1_2] 28 (0, 0))) := ⟨h4_⟩
                         have n5_ : Aside0 (w98.heap[gb228]? = some (.cells #[.slice Ao59 t221.length co59, .slice Ao63 t224.length co63] 25 (0, 0))) := ⟨h5_⟩
                         have n6_ : Aside0 (Below w.heap.size w w98) := ⟨h6_⟩
                         clear HO_229000
                         clear HO_229001
                         clear BK214
                         clear BK215
                         clear BK228
                         clear HB
                         clear h0_ h1_ h2_ h3_ h4_ h5_ h6_
                         have HO237 := n0_
                         have HO_229000 := n1_
                         have HO_229001 := n2_
                         have BK214 := n3_
                         have BK215 := n4_
                         have BK228 := n5_
                         have HB := n6_
                         clear n0_ n1_ n2_ n3_ n4_ n5_ n6_
                         have hHeld : w98.cell? ⟨gb228, 0, none⟩ = some (.slice Ao59 t221.length co59) ∧ w98.cell? ⟨gb228, 1, none⟩ = some (.slice Ao63 t224.length co63) ∧ w98.cell? ⟨gb215, 0, none⟩ = some (.string a1_0) ∧ w98.cell? ⟨gb215, 1, none⟩ = some (.slice A1_1 l1_1.length c1_1) ∧ w98.cell? ⟨gb215, 2, none⟩ = some (.int .i64 a1_2) := hS_
                         refine norm_ (a' := ?_) ?_ ?_
                         rotate_left
                         ·
                          simp only [putAll, Act.put, sI, sZ, sS]
                          rfl
                         refine two_ (i := 1) (j := 12) (Ni := some 74) (Nj := some 10) q10_33 q10_35 rfl rfl rfl rfl (two_of HT_.out (by kernel_rfl)) (by decide) (by decide) (fun K hK => ?_) (fun K hK => ?_)
                         ·
                          skip
                          refine Kd.R_lit_step k45 _ 45 ?hg (N := 74) ?hd (xs := ([] : List (S45))) (inner := []) (ok := fun _ => True) (okp := fun _ => True) ?hr ?hp (fun _ hk => hk) trivial (Below.refl _ _) (Nat.le_refl _) (by simp) ?_; (case hd => rfl); (case hg => rfl); (case hr => first | (go_simp; done) | (go_simp; rfl)); (case hp => exact (Reps.none _ _))
                          intro v230 w99 ho100 hb hg_ hnew_
                          clear hg_ hnew_
                          (first | rw [← Ny229.out] at ho100 | (simp only [Int.reduceToNat] at ho100; rw [← Ny229.out] at ho100))
                          have HO231 := Am (Kd.R_lower (Kd.R_new' ho100 (Kd.R_lt (by (with_reducible repeat (first|apply rA|apply rN|apply rD)); exact HO237.out))) (below_size (by repeat (first | (with_reducible first | exact HB.out | apply bl | apply pN | apply b1 | refine bs ?_ GE214.out | refine bs ?_ GE215.out | refine bs ?_ GE228.out) | exact HB.out | exact HBo.out))))
                          replace HO_229000 := Am (Kd.R_below (by (with_reducible repeat (first|apply rA|apply rN|apply rD)); exact HO_229000.out) hb)
                          replace HO_229001 := Am (Kd.S_below (by (with_reducible repeat (first|apply sA|apply sN|apply sD)); exact HO_229001.out) hb)
                          replace HO237 := Am (Kd.R_elder' (by (with_reducible repeat (first|apply rA|apply rN|apply rD)); exact HO237.out) (Kd.R_base ho100) hb)
                          replace BK214 := Am (blk_below (g := gb214) (o := .cells #[.slice A0_0 l0_0.length c0_0, .slice A0_1 l0_1.length c0_1] 25 (0, 0)) (by (with_reducible repeat (first|apply bn|apply bd|apply ba)); exact BK214.out) hb)
                          replace BK215 := Am (blk_below (g := gb215) (o := .cells #[.string a1_0, .slice A1_1 l1_1.length c1_1, .int .i64 a1_2] 28 (0, 0)) (by (with_reducible repeat (first|apply bn|apply bd|apply ba)); exact BK215.out) hb)
                          replace BK228 := Am (blk_below (g := gb228) (o := .cells #[.slice Ao59 t221.length co59, .slice Ao63 t224.length co63] 25 (0, 0)) (by (with_reducible repeat (first|apply bn|apply bd|apply ba)); exact BK228.out) hb)
                          replace HB := Am (below_step (by repeat (first | (with_reducible first | exact HB.out | apply bl | apply pN | apply b1 | refine bs ?_ GE214.out | refine bs ?_ GE215.out | refine bs ?_ GE228.out) | exact HB.out | exact HBo.out)) hb)
                          clear hb ho100
                          refine hK.out _ _ ⟨(bc BK228.out 0).trans rfl, (bc BK228.out 1).trans rfl, (bc BK215.out 0).trans rfl, (bc BK215.out 1).trans rfl, (bc BK215.out 2).trans rfl⟩ (fun hHeld => ?_)
                          clear hK K
                          refine norm_ (a' := ?_) ?_ ?_
                          rotate_left
                          ·
                           show Act.put _ (some 74) _ = _
                           simp only [Act.put, sI, sZ, sS, i64_w, i32_w]
                           rfl
                          exact norm_ (by first | (simp only [putAll, Act.put, sI, sZ, sS]; done) | (simp only [putAll, Act.put, sI, sZ, sS]; rfl)) (hJ1_6 (v230, v236) _ ⟨hHeld, (by (with_reducible repeat (first|apply rA|apply rN|apply rD)); exact Kd.R_mono HO231.out (fun _ hk => hk.2)), (by (with_reducible repeat (first|apply rA|apply rN|apply rD)); exact Kd.R_mono HO237.out (fun _ hk => hk.2)), (by (with_reducible repeat (first|apply rA|apply rN|apply rD)); exact HO_229000.out), (by (with_reducible repeat (first|apply sA|apply sN|apply sD)); exact HO_229001.out), (by (with_reducible repeat (first|apply bn|apply bd|apply ba)); exact BK214.out), (by (with_reducible repeat (first|apply bn|apply bd|apply ba)); exact BK215.out), (by (with_reducible repeat (first|apply bn|apply bd|apply ba)); exact BK228.out), (by repeat (first | (with_reducible first | exact HB.out | apply bl | apply pN | apply b1 | refine bs ?_ GE214.out | refine bs ?_ GE215.out | refine bs ?_ GE228.out) | exact HB.out | exact HBo.out))⟩)
                         ·
                          skip
                          refine box_step ?hg (N := 10) ?hd (cs := #[.slice none 0 0, .slice none 0 0]) (t := 25) ?hr ?_; (case hd => rfl); (case hg => rfl); (case hr => first | (go_simp; done) | (go_simp; rfl))
                          intro gb248 hg w99 hbox hb
                          have BK248 := Am (hbox)
                          have GW248 := Am ((by rw [hg]; exact (below_size (by repeat (first | (with_reducible first | exact HB.out | apply bl | apply pN | apply b1 | refine bs ?_ GE214.out | refine bs ?_ GE215.out | refine bs ?_ GE228.out) | exact HB.out | exact HBo.out))) : w.heap.size ≤ gb248))
                          have GE248 := GW248
                          have NB214_248 := Am ((by rw [hg]; exact Nat.ne_of_lt (blk_lt (g := gb214) (o := .cells #[.slice A0_0 l0_0.length c0_0, .slice A0_1 l0_1.length c0_1] 25 (0, 0)) (by (with_reducible repeat (first|apply bn|apply bd|apply ba)); exact BK214.out)) : gb214 ≠ gb248))
                          have NB248_214 := Am NB214_248.out.symm
                          have NB215_248 := Am ((by rw [hg]; exact Nat.ne_of_lt (blk_lt (g := gb215) (o := .cells #[.string a1_0, .slice A1_1 l1_1.length c1_1, .int .i64 a1_2] 28 (0, 0)) (by (with_reducible repeat (first|apply bn|apply bd|apply ba)); exact BK215.out)) : gb215 ≠ gb248))
                          have NB248_215 := Am NB215_248.out.symm
                          have NB228_248 := Am ((by rw [hg]; exact Nat.ne_of_lt (blk_lt (g := gb228) (o := .cells #[.slice Ao59 t221.length co59, .slice Ao63 t224.length co63] 25 (0, 0)) (by (with_reducible repeat (first|apply bn|apply bd|apply ba)); exact BK228.out)) : gb228 ≠ gb248))
                          have NB248_228 := Am NB228_248.out.symm
                          replace HO_229000 := Am (Kd.R_below (by (with_reducible repeat (first|apply rA|apply rN|apply rD)); exact HO_229000.out) hb)
                          replace HO_229001 := Am (Kd.S_below (by (with_reducible repeat (first|apply sA|apply sN|apply sD)); exact HO_229001.out) hb)
                          replace HO237 := Am (Kd.R_below (by (with_reducible repeat (first|apply rA|apply rN|apply rD)); exact HO237.out) hb)
                          replace BK214 := Am (blk_below (g := gb214) (o := .cells #[.slice A0_0 l0_0.length c0_0, .slice A0_1 l0_1.length c0_1] 25 (0, 0)) (by (with_reducible repeat (first|apply bn|apply bd|apply ba)); exact BK214.out) hb)
                          replace BK215 := Am (blk_below (g := gb215) (o := .cells #[.string a1_0, .slice A1_1 l1_1.length c1_1, .int .i64 a1_2] 28 (0, 0)) (by (with_reducible repeat (first|apply bn|apply bd|apply ba)); exact BK215.out) hb)
                          replace BK228 := Am (blk_below (g := gb228) (o := .cells #[.slice Ao59 t221.length co59, .slice Ao63 t224.length co63] 25 (0, 0)) (by (with_reducible repeat (first|apply bn|apply bd|apply ba)); exact BK228.out) hb)
                          replace HB := Am (below_step (by repeat (first | (with_reducible first | exact HB.out | apply bl | apply pN | apply b1 | refine bs ?_ GE214.out | refine bs ?_ GE215.out | refine bs ?_ GE228.out) | exact HB.out | exact HBo.out)) hb)
                          clear hb hbox hg
                          refine hK.out _ _ ⟨(bc BK228.out 0).trans rfl, (bc BK228.out 1).trans rfl, (bc BK215.out 0).trans rfl, (bc BK215.out 1).trans rfl, (bc BK215.out 2).trans rfl⟩ (fun hHeld => ?_)
                          clear hK K
                          refine norm_ (a' := ?_) ?_ ?_
                          rotate_left
                          ·
                           show Act.put _ (some 10) _ = _
                           simp only [Act.put, sI, sZ, sS, i64_w, i32_w]
                           rfl
                          exact norm_ (by first | (simp only [putAll, Act.put, sI, sZ, sS]; done) | (simp only [putAll, Act.put, sI, sZ, sS]; rfl)) (hJ6_12 (v236, gb248) _ ⟨hHeld, (by (with_reducible repeat (first|apply rA|apply rN|apply rD)); exact HO237.out), (by (with_reducible repeat (first|apply rA|apply rN|apply rD)); exact HO_229000.out), (by (with_reducible repeat (first|apply sA|apply sN|apply sD)); exact HO_229001.out), (by (with_reducible repeat (first|apply bn|apply bd|apply ba)); exact BK214.out), (by (with_reducible repeat (first|apply bn|apply bd|apply ba)); exact BK215.out), (by (with_reducible repeat (first|apply bn|apply bd|apply ba)); exact BK228.out), (by (with_reducible repeat (first|apply bn|apply bd|apply ba)); exact BK248.out), GW248.out, GE248.out, NB214_248.out, NB248_214.out, NB215_248.out, NB248_215.out, NB228_248.out, NB248_228.out, (by repeat (first | (with_reducible first | exact HB.out | apply bl | apply pN | apply b1 | refine bs ?_ GE214.out | refine bs ?_ GE215.out | refine bs ?_ GE228.out | refine bs ?_ GE248.out) | exact HB.out | exact HBo.out))⟩)
                       ·
                        skip
                        rintro v230 w98 ⟨hS_, h0_, h1_, h2_, h3_, h4_, h5_, h6_⟩
                        have n0_ : Aside0 (Kd.R k45 45 w98 w.heap.size (fun _ => True) v230 y229) := ⟨h0_⟩
                        have n1_ : Aside0 (Kd.R Kd.string 9 w98 w.heap.size (fun _ => True) (.slice Ao59 t221.length co59) t221) := ⟨h1_⟩
                        have n2_ : Aside0 (Kd.S (Kd.slice 50 k50) 46 w98 w.heap.size (fun _ => True) (.slice Ao63 t224.length co63) t224) := ⟨h2_⟩
                        have n3_ : Aside0 (w98.heap[gb214]? = some (.cells #[.slice A0_0 l0_0.length c0_0, .slice A0_1 l0_1.length c0_1] 25 (0, 0))) := ⟨h3_⟩
                        have n4_ : Aside0 (w98.heap[gb215]? = some (.cells #[.string a1_0, .slice A1_1 l1_1.length c1_1, .int .i64 a1_2] 28 (0, 0))) := ⟨h4_⟩
                        have n5_ : Aside0 (w98.heap[gb228]? = some (.cells #[.slice Ao59 t221.length co59, .slice Ao63 t224.length co63] 25 (0, 0))) := ⟨h5_⟩
                        have n6_ : Aside0 (Below w.heap.size w w98) := ⟨h6_⟩
                        clear HO_229000
                        clear HO_229001
                        clear BK214
                        clear BK215
                        clear BK228
                        clear HB
                        clear h0_ h1_ h2_ h3_ h4_ h5_ h6_
                        have HO231 := n0_
                        have HO_229000 := n1_
                        have HO_229001 := n2_
                        have BK214 := n3_
                        have BK215 := n4_
                        have BK228 := n5_
                        have HB := n6_
                        clear n0_ n1_ n2_ n3_ n4_ n5_ n6_
                        have hHeld : w98.cell? ⟨gb228, 0, none⟩ = some (.slice Ao59 t221.length co59) ∧ w98.cell? ⟨gb228, 1, none⟩ = some (.slice Ao63 t224.length co63) ∧ w98.cell? ⟨gb215, 0, none⟩ = some (.string a1_0) ∧ w98.cell? ⟨gb215, 1, none⟩ = some (.slice A1_1 l1_1.length c1_1) ∧ w98.cell? ⟨gb215, 2, none⟩ = some (.int .i64 a1_2) := hS_
                        refine norm_ (a' := ?_) ?_ ?_
                        rotate_left
                        ·
                         simp only [putAll, Act.put, sI, sZ, sS]
                         rfl
                        refine three_ (i := 4) (j := 6) (k := 12) (Ni := some 77) (Nj := some 79) (Nk := some 10) q10_32 q10_33 q10_34 rfl rfl rfl rfl rfl rfl (three_of HT_.out (by kernel_rfl)) (by decide) (by decide) (by decide) (fun K hK => ?_) (fun K hK => ?_) (fun K hK => ?_)
                        ·
                         skip
                         refine Kd.R_append_rows_step k45 (w0 := w) w.heap.size (by rfl) (.tmp 74) (.tmp 76) 26 45 (.agg #[(.string ⟨#[]⟩), (.int .i64 0)]) 24 rfl Try.underlying26 info45 rfl (by decide) (by omega) v230 y229 l1_1 _ _ _ (fun _ => True) (fun _ => False) rfl rfl ?aO ?aR (fun _ _ h => h) (fun _ h => h.elim) ?aF ?aB ?aS ?aL ?_
                         (case aR => repeat (first | exact (Kd.C_below HR1_1.out HB.out) | (with_reducible refine Kd.C_alloc ?_ _) | (with_reducible refine Kd.C_drewN ?_ _) | (with_reducible refine Kd.C_drew ?_)))
                         (case aB => exact (by repeat (first | (with_reducible first | exact HB.out | apply bl | apply pN | apply b1 | refine bs ?_ GE214.out | refine bs ?_ GE215.out | refine bs ?_ GE228.out) | exact HB.out | exact HBo.out)))
                         (case aF => exact (fun _ _ => trivial))
                         (case aO => exact (by (with_reducible repeat (first|apply rA|apply rN|apply rD)); exact HO231.out))
                         (case aS => exact (below_size (by repeat (first | (with_reducible first | exact HB.out | apply bl | apply pN | apply b1 | refine bs ?_ GE214.out | refine bs ?_ GE215.out | refine bs ?_ GE228.out) | exact HB.out | exact HBo.out))))
                         (case aL => have := LMc88.out; omega)
                         intro v233 w99 ho hb hg hat
                         rw [← Ny232.out] at ho
                         have n0_ := Am (Kd.R_over' (by (with_reducible repeat (first|apply rA|apply rN|apply rD)); exact HO_229000.out) (Kd.R_typed (by (with_reducible repeat (first|apply rA|apply rN|apply rD)); exact HO231.out)) (by decide) hg)
                         have n1_ := Am (Kd.S_over' (by (with_reducible repeat (first|apply sA|apply sN|apply sD)); exact HO_229001.out) (Kd.R_typed (by (with_reducible repeat (first|apply rA|apply rN|apply rD)); exact HO231.out)) (by decide) hg)
                         have n2_ := Am (blk_grown (g := gb214) (o := .cells #[.slice A0_0 l0_0.length c0_0, .slice A0_1 l0_1.length c0_1] 25 (0, 0)) (by (with_reducible repeat (first|apply bn|apply bd|apply ba)); exact BK214.out) hg (Kd.R_ne HO231.out BK214.out (by decide)))
                         have n3_ := Am (blk_grown (g := gb215) (o := .cells #[.string a1_0, .slice A1_1 l1_1.length c1_1, .int .i64 a1_2] 28 (0, 0)) (by (with_reducible repeat (first|apply bn|apply bd|apply ba)); exact BK215.out) hg (Kd.R_ne HO231.out BK215.out (by decide)))
                         have n4_ := Am (blk_grown (g := gb228) (o := .cells #[.slice Ao59 t221.length co59, .slice Ao63 t224.length co63] 25 (0, 0)) (by (with_reducible repeat (first|apply bn|apply bd|apply ba)); exact BK228.out) hg (Kd.R_ne HO231.out BK228.out (by decide)))
                         have n5_ := Am (hb)
                         have n6_ := Am (ho)
                         clear HO_229000
                         clear HO_229001
                         clear BK214
                         clear BK215
                         clear BK228
                         clear HB
                         clear HO231
                         have HO_229000 := n0_
                         have HO_229001 := n1_
                         have BK214 := n2_
                         have BK215 := n3_
                         have BK228 := n4_
                         have HB := n5_
                         have HO234 := n6_
                         clear n0_ n1_ n2_ n3_ n4_ n5_ n6_
                         clear ho hb hg hat
                         refine hK.out _ _ ⟨(bc BK228.out 0).trans rfl, (bc BK228.out 1).trans rfl, (bc BK215.out 0).trans rfl, (bc BK215.out 1).trans rfl, (bc BK215.out 2).trans rfl⟩ (fun hHeld => ?_)
                         clear hK K
                         refine norm_ (a' := ?_) ?_ ?_
                         rotate_left
                         ·
                          show Act.put _ (some 77) _ = _
                          simp only [Act.put, sI, sZ, sS, i64_w, i32_w]
                          rfl
                         exact norm_ (by first | (simp only [putAll, Act.put, sI, sZ, sS]; done) | (simp only [putAll, Act.put, sI, sZ, sS]; rfl)) (hJ1_4 (v230, v233) _ ⟨hHeld, (by (with_reducible repeat (first|apply rA|apply rN|apply rD)); exact HO234.out), (by (with_reducible repeat (first|apply rA|apply rN|apply rD)); exact HO_229000.out), (by (with_reducible repeat (first|apply sA|apply sN|apply sD)); exact HO_229001.out), (by (with_reducible repeat (first|apply bn|apply bd|apply ba)); exact BK214.out), (by (with_reducible repeat (first|apply bn|apply bd|apply ba)); exact BK215.out), (by (with_reducible repeat (first|apply bn|apply bd|apply ba)); exact BK228.out), (by repeat (first | (with_reducible first | exact HB.out | apply bl | apply pN | apply b1 | refine bs ?_ GE214.out | refine bs ?_ GE215.out | refine bs ?_ GE228.out) | exact HB.out | exact HBo.out))⟩)
                        ·
                         skip
                         refine Kd.R_lit_step k45 _ 45 ?hg (N := 79) ?hd (xs := ([(⟨(⟨#[109, 111, 114, 101]⟩ : ByteArray), 1⟩ : S45)] : List (S45))) (inner := [.string (⟨#[109, 111, 114, 101]⟩ : ByteArray), .int .i64 1]) (ok := fun _ => True) (okp := fun _ => True) ?hr ?hp (fun _ hk => hk) trivial (Below.refl _ _) (Nat.le_refl _) (by simp) ?_; (case hd => rfl); (case hg => rfl); (case hr => first | (go_simp; done) | (go_simp; rfl)); (case hp => exact (Reps.c2 (show Kd.M k45 _ _ _ (⟨(⟨#[109, 111, 114, 101]⟩ : ByteArray), 1⟩ : S45) [.string (⟨#[109, 111, 114, 101]⟩ : ByteArray), .int .i64 1] from (k45_mkM _ _ _ (⟨(⟨#[109, 111, 114, 101]⟩ : ByteArray), 1⟩ : S45) )) (Reps.none _ _)))
                         intro v236 w99 ho100 hb hg_ hnew_
                         clear hg_ hnew_
                         (first | rw [← Ny235.out] at ho100 | (simp only [Int.reduceToNat] at ho100; rw [← Ny235.out] at ho100))
                         have HO237 := Am (Kd.R_lower (Kd.R_new' ho100 (Kd.R_lt (by (with_reducible repeat (first|apply rA|apply rN|apply rD)); exact HO231.out))) (below_size (by repeat (first | (with_reducible first | exact HB.out | apply bl | apply pN | apply b1 | refine bs ?_ GE214.out | refine bs ?_ GE215.out | refine bs ?_ GE228.out) | exact HB.out | exact HBo.out))))
                         replace HO_229000 := Am (Kd.R_below (by (with_reducible repeat (first|apply rA|apply rN|apply rD)); exact HO_229000.out) hb)
                         replace HO_229001 := Am (Kd.S_below (by (with_reducible repeat (first|apply sA|apply sN|apply sD)); exact HO_229001.out) hb)
                         replace HO231 := Am (Kd.R_elder' (by (with_reducible repeat (first|apply rA|apply rN|apply rD)); exact HO231.out) (Kd.R_base ho100) hb)
                         replace BK214 := Am (blk_below (g := gb214) (o := .cells #[.slice A0_0 l0_0.length c0_0, .slice A0_1 l0_1.length c0_1] 25 (0, 0)) (by (with_reducible repeat (first|apply bn|apply bd|apply ba)); exact BK214.out) hb)
                         replace BK215 := Am (blk_below (g := gb215) (o := .cells #[.string a1_0, .slice A1_1 l1_1.length c1_1, .int .i64 a1_2] 28 (0, 0)) (by (with_reducible repeat (first|apply bn|apply bd|apply ba)); exact BK215.out) hb)
                         replace BK228 := Am (blk_below (g := gb228) (o := .cells #[.slice Ao59 t221.length co59, .slice Ao63 t224.length co63] 25 (0, 0)) (by (with_reducible repeat (first|apply bn|apply bd|apply ba)); exact BK228.out) hb)
                         replace HB := Am (below_step (by repeat (first | (with_reducible first | exact HB.out | apply bl | apply pN | apply b1 | refine bs ?_ GE214.out | refine bs ?_ GE215.out | refine bs ?_ GE228.out) | exact HB.out | exact HBo.out)) hb)
                         clear hb ho100
                         refine hK.out _ _ ⟨(bc BK228.out 0).trans rfl, (bc BK228.out 1).trans rfl, (bc BK215.out 0).trans rfl, (bc BK215.out 1).trans rfl, (bc BK215.out 2).trans rfl⟩ (fun hHeld => ?_)
                         clear hK K
                         refine norm_ (a' := ?_) ?_ ?_
                         rotate_left
                         ·
                          show Act.put _ (some 79) _ = _
                          simp only [Act.put, sI, sZ, sS, i64_w, i32_w]
                          rfl
                         exact norm_ (by first | (simp only [putAll, Act.put, sI, sZ, sS]; done) | (simp only [putAll, Act.put, sI, sZ, sS]; rfl)) (hJ1_6 (v230, v236) _ ⟨hHeld, (by (with_reducible repeat (first|apply rA|apply rN|apply rD)); exact Kd.R_mono HO231.out (fun _ hk => hk.2)), (by (with_reducible repeat (first|apply rA|apply rN|apply rD)); exact Kd.R_mono HO237.out (fun _ hk => hk.2)), (by (with_reducible repeat (first|apply rA|apply rN|apply rD)); exact HO_229000.out), (by (with_reducible repeat (first|apply sA|apply sN|apply sD)); exact HO_229001.out), (by (with_reducible repeat (first|apply bn|apply bd|apply ba)); exact BK214.out), (by (with_reducible repeat (first|apply bn|apply bd|apply ba)); exact BK215.out), (by (with_reducible repeat (first|apply bn|apply bd|apply ba)); exact BK228.out), (by repeat (first | (with_reducible first | exact HB.out | apply bl | apply pN | apply b1 | refine bs ?_ GE214.out | refine bs ?_ GE215.out | refine bs ?_ GE228.out) | exact HB.out | exact HBo.out))⟩)
                        ·
                         skip
                         refine box_step ?hg (N := 10) ?hd (cs := #[.slice none 0 0, .slice none 0 0]) (t := 25) ?hr ?_; (case hd => rfl); (case hg => rfl); (case hr => first | (go_simp; done) | (go_simp; rfl))
                         intro gb248 hg w99 hbox hb
                         have BK248 := Am (hbox)
                         have GW248 := Am ((by rw [hg]; exact (below_size (by repeat (first | (with_reducible first | exact HB.out | apply bl | apply pN | apply b1 | refine bs ?_ GE214.out | refine bs ?_ GE215.out | refine bs ?_ GE228.out) | exact HB.out | exact HBo.out))) : w.heap.size ≤ gb248))
                         have GE248 := GW248
                         have NB214_248 := Am ((by rw [hg]; exact Nat.ne_of_lt (blk_lt (g := gb214) (o := .cells #[.slice A0_0 l0_0.length c0_0, .slice A0_1 l0_1.length c0_1] 25 (0, 0)) (by (with_reducible repeat (first|apply bn|apply bd|apply ba)); exact BK214.out)) : gb214 ≠ gb248))
                         have NB248_214 := Am NB214_248.out.symm
                         have NB215_248 := Am ((by rw [hg]; exact Nat.ne_of_lt (blk_lt (g := gb215) (o := .cells #[.string a1_0, .slice A1_1 l1_1.length c1_1, .int .i64 a1_2] 28 (0, 0)) (by (with_reducible repeat (first|apply bn|apply bd|apply ba)); exact BK215.out)) : gb215 ≠ gb248))
                         have NB248_215 := Am NB215_248.out.symm
                         have NB228_248 := Am ((by rw [hg]; exact Nat.ne_of_lt (blk_lt (g := gb228) (o := .cells #[.slice Ao59 t221.length co59, .slice Ao63 t224.length co63] 25 (0, 0)) (by (with_reducible repeat (first|apply bn|apply bd|apply ba)); exact BK228.out)) : gb228 ≠ gb248))
                         have NB248_228 := Am NB228_248.out.symm
                         replace HO_229000 := Am (Kd.R_below (by (with_reducible repeat (first|apply rA|apply rN|apply rD)); exact HO_229000.out) hb)
                         replace HO_229001 := Am (Kd.S_below (by (with_reducible repeat (first|apply sA|apply sN|apply sD)); exact HO_229001.out) hb)
                         replace HO231 := Am (Kd.R_below (by (with_reducible repeat (first|apply rA|apply rN|apply rD)); exact HO231.out) hb)
                         replace BK214 := Am (blk_below (g := gb214) (o := .cells #[.slice A0_0 l0_0.length c0_0, .slice A0_1 l0_1.length c0_1] 25 (0, 0)) (by (with_reducible repeat (first|apply bn|apply bd|apply ba)); exact BK214.out) hb)
                         replace BK215 := Am (blk_below (g := gb215) (o := .cells #[.string a1_0, .slice A1_1 l1_1.length c1_1, .int .i64 a1_2] 28 (0, 0)) (by (with_reducible repeat (first|apply bn|apply bd|apply ba)); exact BK215.out) hb)
                         replace BK228 := Am (blk_below (g := gb228) (o := .cells #[.slice Ao59 t221.length co59, .slice Ao63 t224.length co63] 25 (0, 0)) (by (with_reducible repeat (first|apply bn|apply bd|apply ba)); exact BK228.out) hb)
                         replace HB := Am (below_step (by repeat (first | (with_reducible first | exact HB.out | apply bl | apply pN | apply b1 | refine bs ?_ GE214.out | refine bs ?_ GE215.out | refine bs ?_ GE228.out) | exact HB.out | exact HBo.out)) hb)
                         clear hb hbox hg
                         refine hK.out _ _ ⟨(bc BK228.out 0).trans rfl, (bc BK228.out 1).trans rfl, (bc BK215.out 0).trans rfl, (bc BK215.out 1).trans rfl, (bc BK215.out 2).trans rfl⟩ (fun hHeld => ?_)
                         clear hK K
                         refine norm_ (a' := ?_) ?_ ?_
                         rotate_left
                         ·
                          show Act.put _ (some 10) _ = _
                          simp only [Act.put, sI, sZ, sS, i64_w, i32_w]
                          rfl
                         exact norm_ (by first | (simp only [putAll, Act.put, sI, sZ, sS]; done) | (simp only [putAll, Act.put, sI, sZ, sS]; rfl)) (hJ1_12 (v230, gb248) _ ⟨hHeld, (by (with_reducible repeat (first|apply rA|apply rN|apply rD)); exact HO231.out), (by (with_reducible repeat (first|apply rA|apply rN|apply rD)); exact HO_229000.out), (by (with_reducible repeat (first|apply sA|apply sN|apply sD)); exact HO_229001.out), (by (with_reducible repeat (first|apply bn|apply bd|apply ba)); exact BK214.out), (by (with_reducible repeat (first|apply bn|apply bd|apply ba)); exact BK215.out), (by (with_reducible repeat (first|apply bn|apply bd|apply ba)); exact BK228.out), (by (with_reducible repeat (first|apply bn|apply bd|apply ba)); exact BK248.out), GW248.out, GE248.out, NB214_248.out, NB248_214.out, NB215_248.out, NB248_215.out, NB228_248.out, NB248_228.out, (by repeat (first | (with_reducible first | exact HB.out | apply bl | apply pN | apply b1 | refine bs ?_ GE214.out | refine bs ?_ GE215.out | refine bs ?_ GE228.out | refine bs ?_ GE248.out) | exact HB.out | exact HBo.out))⟩)
                      ·
                       skip
                       rintro ⟨v236, gb248⟩ w99 ⟨hS_, h0_, h1_, h2_, h3_, h4_, h5_, h6_, h7_, h8_, h9_, h10_, h11_, h12_, h13_, h14_, h15_⟩
                       have n0_ : Aside0 (Kd.R k45 45 w99 w.heap.size (fun _ => True) v236 y235) := ⟨h0_⟩
                       have n1_ : Aside0 (Kd.R Kd.string 9 w99 w.heap.size (fun _ => True) (.slice Ao59 t221.length co59) t221) := ⟨h1_⟩
                       have n2_ : Aside0 (Kd.S (Kd.slice 50 k50) 46 w99 w.heap.size (fun _ => True) (.slice Ao63 t224.length co63) t224) := ⟨h2_⟩
                       have n3_ : Aside0 (w99.heap[gb214]? = some (.cells #[.slice A0_0 l0_0.length c0_0, .slice A0_1 l0_1.length c0_1] 25 (0, 0))) := ⟨h3_⟩
                       have n4_ : Aside0 (w99.heap[gb215]? = some (.cells #[.string a1_0, .slice A1_1 l1_1.length c1_1, .int .i64 a1_2] 28 (0, 0))) := ⟨h4_⟩
                       have n5_ : Aside0 (w99.heap[gb228]? = some (.cells #[.slice Ao59 t221.length co59, .slice Ao63 t224.length co63] 25 (0, 0))) := ⟨h5_⟩
                       have n6_ : Aside0 (w99.heap[gb248]? = some (.cells #[.slice none 0 0, .slice none 0 0] 25 (0, 0))) := ⟨h6_⟩
                       have n7_ : Aside0 (w.heap.size ≤ gb248) := ⟨h7_⟩
                       have n8_ : Aside0 (w.heap.size ≤ gb248) := ⟨h8_⟩
                       have n9_ : Aside0 (gb214 ≠ gb248) := ⟨h9_⟩
                       have n10_ : Aside0 (gb248 ≠ gb214) := ⟨h10_⟩
                       have n11_ : Aside0 (gb215 ≠ gb248) := ⟨h11_⟩
                       have n12_ : Aside0 (gb248 ≠ gb215) := ⟨h12_⟩
                       have n13_ : Aside0 (gb228 ≠ gb248) := ⟨h13_⟩
                       have n14_ : Aside0 (gb248 ≠ gb228) := ⟨h14_⟩
                       have n15_ : Aside0 (Below w.heap.size w w99) := ⟨h15_⟩
                       clear HO_229000
                       clear HO_229001
                       clear BK214
                       clear BK215
                       clear BK228
                       clear HB
                       clear h0_ h1_ h2_ h3_ h4_ h5_ h6_ h7_ h8_ h9_ h10_ h11_ h12_ h13_ h14_ h15_
                       have HO237 := n0_
                       have HO_229000 := n1_
                       have HO_229001 := n2_
                       have BK214 := n3_
                       have BK215 := n4_
                       have BK228 := n5_
                       have BK248 := n6_
                       have GW248 := n7_
                       have GE248 := n8_
                       have NB214_248 := n9_
                       have NB248_214 := n10_
                       have NB215_248 := n11_
                       have NB248_215 := n12_
                       have NB228_248 := n13_
                       have NB248_228 := n14_
                       have HB := n15_
                       clear n0_ n1_ n2_ n3_ n4_ n5_ n6_ n7_ n8_ n9_ n10_ n11_ n12_ n13_ n14_ n15_
                       have hHeld : w99.cell? ⟨gb228, 0, none⟩ = some (.slice Ao59 t221.length co59) ∧ w99.cell? ⟨gb228, 1, none⟩ = some (.slice Ao63 t224.length co63) ∧ w99.cell? ⟨gb215, 0, none⟩ = some (.string a1_0) ∧ w99.cell? ⟨gb215, 1, none⟩ = some (.slice A1_1 l1_1.length c1_1) ∧ w99.cell? ⟨gb215, 2, none⟩ = some (.int .i64 a1_2) := hS_
                       refine norm_ (a' := ?_) ?_ ?_
                       rotate_left
                       ·
                        simp only [putAll, Act.put, sI, sZ, sS]
                        rfl
                       refine one_ (i := 1) (N := some 74) q10_31 rfl rfl (one_of HT_.out (by kernel_rfl)) (by decide) (fun K hK => ?_)
                       refine Kd.R_lit_step k45 _ 45 ?hg (N := 74) ?hd (xs := ([] : List (S45))) (inner := []) (ok := fun _ => True) (okp := fun _ => True) ?hr ?hp (fun _ hk => hk) trivial (Below.refl _ _) (Nat.le_refl _) (by simp) ?_; (case hd => rfl); (case hg => rfl); (case hr => first | (go_simp; done) | (go_simp; rfl)); (case hp => exact (Reps.none _ _))
                       intro v230 w100 ho101 hb hg_ hnew_
                       clear hg_ hnew_
                       (first | rw [← Ny229.out] at ho101 | (simp only [Int.reduceToNat] at ho101; rw [← Ny229.out] at ho101))
                       have HO231 := Am (Kd.R_lower (Kd.R_new' ho101 (Kd.R_lt (by (with_reducible repeat (first|apply rA|apply rN|apply rD)); exact HO237.out))) (below_size (by repeat (first | (with_reducible first | exact HB.out | apply bl | apply pN | apply b1 | refine bs ?_ GE214.out | refine bs ?_ GE215.out | refine bs ?_ GE228.out | refine bs ?_ GE248.out) | exact HB.out | exact HBo.out))))
                       replace HO_229000 := Am (Kd.R_below (by (with_reducible repeat (first|apply rA|apply rN|apply rD)); exact HO_229000.out) hb)
                       replace HO_229001 := Am (Kd.S_below (by (with_reducible repeat (first|apply sA|apply sN|apply sD)); exact HO_229001.out) hb)
                       replace HO237 := Am (Kd.R_elder' (by (with_reducible repeat (first|apply rA|apply rN|apply rD)); exact HO237.out) (Kd.R_base ho101) hb)
                       replace BK214 := Am (blk_below (g := gb214) (o := .cells #[.slice A0_0 l0_0.length c0_0, .slice A0_1 l0_1.length c0_1] 25 (0, 0)) (by (with_reducible repeat (first|apply bn|apply bd|apply ba)); exact BK214.out) hb)
                       replace BK215 := Am (blk_below (g := gb215) (o := .cells #[.string a1_0, .slice A1_1 l1_1.length c1_1, .int .i64 a1_2] 28 (0, 0)) (by (with_reducible repeat (first|apply bn|apply bd|apply ba)); exact BK215.out) hb)
                       replace BK228 := Am (blk_below (g := gb228) (o := .cells #[.slice Ao59 t221.length co59, .slice Ao63 t224.length co63] 25 (0, 0)) (by (with_reducible repeat (first|apply bn|apply bd|apply ba)); exact BK228.out) hb)
                       replace BK248 := Am (blk_below (g := gb248) (o := .cells #[.slice none 0 0, .slice none 0 0] 25 (0, 0)) (by (with_reducible repeat (first|apply bn|apply bd|apply ba)); exact BK248.out) hb)
                       replace HB := Am (below_step (by repeat (first | (with_reducible first | exact HB.out | apply bl | apply pN | apply b1 | refine bs ?_ GE214.out | refine bs ?_ GE215.out | refine bs ?_ GE228.out | refine bs ?_ GE248.out) | exact HB.out | exact HBo.out)) hb)
                       clear hb ho101
                       refine hK.out _ _ ⟨(bc BK228.out 0).trans rfl, (bc BK228.out 1).trans rfl, (bc BK215.out 0).trans rfl, (bc BK215.out 1).trans rfl, (bc BK215.out 2).trans rfl⟩ (fun hHeld => ?_)
                       clear hK K
                       refine norm_ (a' := ?_) ?_ ?_
                       rotate_left
                       ·
                        show Act.put _ (some 74) _ = _
                        simp only [Act.put, sI, sZ, sS, i64_w, i32_w]
                        rfl
                       exact norm_ (by first | (simp only [putAll, Act.put, sI, sZ, sS]; done) | (simp only [putAll, Act.put, sI, sZ, sS]; rfl)) (hJ1_6_12 (v230, v236, gb248) _ ⟨hHeld, (by (with_reducible repeat (first|apply rA|apply rN|apply rD)); exact Kd.R_mono HO231.out (fun _ hk => hk.2)), (by (with_reducible repeat (first|apply rA|apply rN|apply rD)); exact Kd.R_mono HO237.out (fun _ hk => hk.2)), (by (with_reducible repeat (first|apply rA|apply rN|apply rD)); exact HO_229000.out), (by (with_reducible repeat (first|apply sA|apply sN|apply sD)); exact HO_229001.out), (by (with_reducible repeat (first|apply bn|apply bd|apply ba)); exact BK214.out), (by (with_reducible repeat (first|apply bn|apply bd|apply ba)); exact BK215.out), (by (with_reducible repeat (first|apply bn|apply bd|apply ba)); exact BK228.out), (by (with_reducible repeat (first|apply bn|apply bd|apply ba)); exact BK248.out), GW248.out, GE248.out, NB214_248.out, NB248_214.out, NB215_248.out, NB248_215.out, NB228_248.out, NB248_228.out, (by repeat (first | (with_reducible first | exact HB.out | apply bl | apply pN | apply b1 | refine bs ?_ GE214.out | refine bs ?_ GE215.out | refine bs ?_ GE228.out | refine bs ?_ GE248.out) | exact HB.out | exact HBo.out))⟩)
                     ·
                      skip
                      rintro ⟨v230, gb248⟩ w99 ⟨hS_, h0_, h1_, h2_, h3_, h4_, h5_, h6_, h7_, h8_, h9_, h10_, h11_, h12_, h13_, h14_, h15_⟩
                      have n0_ : Aside0 (Kd.R k45 45 w99 w.heap.size (fun _ => True) v230 y229) := ⟨h0_⟩
                      have n1_ : Aside0 (Kd.R Kd.string 9 w99 w.heap.size (fun _ => True) (.slice Ao59 t221.length co59) t221) := ⟨h1_⟩
                      have n2_ : Aside0 (Kd.S (Kd.slice 50 k50) 46 w99 w.heap.size (fun _ => True) (.slice Ao63 t224.length co63) t224) := ⟨h2_⟩
                      have n3_ : Aside0 (w99.heap[gb214]? = some (.cells #[.slice A0_0 l0_0.length c0_0, .slice A0_1 l0_1.length c0_1] 25 (0, 0))) := ⟨h3_⟩
                      have n4_ : Aside0 (w99.heap[gb215]? = some (.cells #[.string a1_0, .slice A1_1 l1_1.length c1_1, .int .i64 a1_2] 28 (0, 0))) := ⟨h4_⟩
                      have n5_ : Aside0 (w99.heap[gb228]? = some (.cells #[.slice Ao59 t221.length co59, .slice Ao63 t224.length co63] 25 (0, 0))) := ⟨h5_⟩
                      have n6_ : Aside0 (w99.heap[gb248]? = some (.cells #[.slice none 0 0, .slice none 0 0] 25 (0, 0))) := ⟨h6_⟩
                      have n7_ : Aside0 (w.heap.size ≤ gb248) := ⟨h7_⟩
                      have n8_ : Aside0 (w.heap.size ≤ gb248) := ⟨h8_⟩
                      have n9_ : Aside0 (gb214 ≠ gb248) := ⟨h9_⟩
                      have n10_ : Aside0 (gb248 ≠ gb214) := ⟨h10_⟩
                      have n11_ : Aside0 (gb215 ≠ gb248) := ⟨h11_⟩
                      have n12_ : Aside0 (gb248 ≠ gb215) := ⟨h12_⟩
                      have n13_ : Aside0 (gb228 ≠ gb248) := ⟨h13_⟩
                      have n14_ : Aside0 (gb248 ≠ gb228) := ⟨h14_⟩
                      have n15_ : Aside0 (Below w.heap.size w w99) := ⟨h15_⟩
                      clear HO_229000
                      clear HO_229001
                      clear BK214
                      clear BK215
                      clear BK228
                      clear HB
                      clear h0_ h1_ h2_ h3_ h4_ h5_ h6_ h7_ h8_ h9_ h10_ h11_ h12_ h13_ h14_ h15_
                      have HO231 := n0_
                      have HO_229000 := n1_
                      have HO_229001 := n2_
                      have BK214 := n3_
                      have BK215 := n4_
                      have BK228 := n5_
                      have BK248 := n6_
                      have GW248 := n7_
                      have GE248 := n8_
                      have NB214_248 := n9_
                      have NB248_214 := n10_
                      have NB215_248 := n11_
                      have NB248_215 := n12_
                      have NB228_248 := n13_
                      have NB248_228 := n14_
                      have HB := n15_
                      clear n0_ n1_ n2_ n3_ n4_ n5_ n6_ n7_ n8_ n9_ n10_ n11_ n12_ n13_ n14_ n15_
                      have hHeld : w99.cell? ⟨gb228, 0, none⟩ = some (.slice Ao59 t221.length co59) ∧ w99.cell? ⟨gb228, 1, none⟩ = some (.slice Ao63 t224.length co63) ∧ w99.cell? ⟨gb215, 0, none⟩ = some (.string a1_0) ∧ w99.cell? ⟨gb215, 1, none⟩ = some (.slice A1_1 l1_1.length c1_1) ∧ w99.cell? ⟨gb215, 2, none⟩ = some (.int .i64 a1_2) := hS_
                      refine norm_ (a' := ?_) ?_ ?_
                      rotate_left
                      ·
                       simp only [putAll, Act.put, sI, sZ, sS]
                       rfl
                      refine two_ (i := 4) (j := 6) (Ni := some 77) (Nj := some 79) q10_30 q10_31 rfl rfl rfl rfl (two_of HT_.out (by kernel_rfl)) (by decide) (by decide) (fun K hK => ?_) (fun K hK => ?_)
                      ·
                       skip
                       refine Kd.R_append_rows_step k45 (w0 := w) w.heap.size (by rfl) (.tmp 74) (.tmp 76) 26 45 (.agg #[(.string ⟨#[]⟩), (.int .i64 0)]) 24 rfl Try.underlying26 info45 rfl (by decide) (by omega) v230 y229 l1_1 _ _ _ (fun _ => True) (fun _ => False) rfl rfl ?aO ?aR (fun _ _ h => h) (fun _ h => h.elim) ?aF ?aB ?aS ?aL ?_
                       (case aR => repeat (first | exact (Kd.C_below HR1_1.out HB.out) | (with_reducible refine Kd.C_alloc ?_ _) | (with_reducible refine Kd.C_drewN ?_ _) | (with_reducible refine Kd.C_drew ?_)))
                       (case aB => exact (by repeat (first | (with_reducible first | exact HB.out | apply bl | apply pN | apply b1 | refine bs ?_ GE214.out | refine bs ?_ GE215.out | refine bs ?_ GE228.out | refine bs ?_ GE248.out) | exact HB.out | exact HBo.out)))
                       (case aF => exact (fun _ _ => trivial))
                       (case aO => exact (by (with_reducible repeat (first|apply rA|apply rN|apply rD)); exact HO231.out))
                       (case aS => exact (below_size (by repeat (first | (with_reducible first | exact HB.out | apply bl | apply pN | apply b1 | refine bs ?_ GE214.out | refine bs ?_ GE215.out | refine bs ?_ GE228.out | refine bs ?_ GE248.out) | exact HB.out | exact HBo.out))))
                       (case aL => have := LMc88.out; omega)
                       intro v233 w100 ho hb hg hat
                       rw [← Ny232.out] at ho
                       have n0_ := Am (Kd.R_over' (by (with_reducible repeat (first|apply rA|apply rN|apply rD)); exact HO_229000.out) (Kd.R_typed (by (with_reducible repeat (first|apply rA|apply rN|apply rD)); exact HO231.out)) (by decide) hg)
                       have n1_ := Am (Kd.S_over' (by (with_reducible repeat (first|apply sA|apply sN|apply sD)); exact HO_229001.out) (Kd.R_typed (by (with_reducible repeat (first|apply rA|apply rN|apply rD)); exact HO231.out)) (by decide) hg)
                       have n2_ := Am (blk_grown (g := gb214) (o := .cells #[.slice A0_0 l0_0.length c0_0, .slice A0_1 l0_1.length c0_1] 25 (0, 0)) (by (with_reducible repeat (first|apply bn|apply bd|apply ba)); exact BK214.out) hg (Kd.R_ne HO231.out BK214.out (by decide)))
                       have n3_ := Am (blk_grown (g := gb215) (o := .cells #[.string a1_0, .slice A1_1 l1_1.length c1_1, .int .i64 a1_2] 28 (0, 0)) (by (with_reducible repeat (first|apply bn|apply bd|apply ba)); exact BK215.out) hg (Kd.R_ne HO231.out BK215.out (by decide)))
                       have n4_ := Am (blk_grown (g := gb228) (o := .cells #[.slice Ao59 t221.length co59, .slice Ao63 t224.length co63] 25 (0, 0)) (by (with_reducible repeat (first|apply bn|apply bd|apply ba)); exact BK228.out) hg (Kd.R_ne HO231.out BK228.out (by decide)))
                       have n5_ := Am (blk_grown (g := gb248) (o := .cells #[.slice none 0 0, .slice none 0 0] 25 (0, 0)) (by (with_reducible repeat (first|apply bn|apply bd|apply ba)); exact BK248.out) hg (Kd.R_ne HO231.out BK248.out (by decide)))
                       have n6_ := Am (hb)
                       have n7_ := Am (ho)
                       clear HO_229000
                       clear HO_229001
                       clear BK214
                       clear BK215
                       clear BK228
                       clear BK248
                       clear HB
                       clear HO231
                       have HO_229000 := n0_
                       have HO_229001 := n1_
                       have BK214 := n2_
                       have BK215 := n3_
                       have BK228 := n4_
                       have BK248 := n5_
                       have HB := n6_
                       have HO234 := n7_
                       clear n0_ n1_ n2_ n3_ n4_ n5_ n6_ n7_
                       clear ho hb hg hat
                       refine hK.out _ _ ⟨(bc BK228.out 0).trans rfl, (bc BK228.out 1).trans rfl, (bc BK215.out 0).trans rfl, (bc BK215.out 1).trans rfl, (bc BK215.out 2).trans rfl⟩ (fun hHeld => ?_)
                       clear hK K
                       refine norm_ (a' := ?_) ?_ ?_
                       rotate_left
                       ·
                        show Act.put _ (some 77) _ = _
                        simp only [Act.put, sI, sZ, sS, i64_w, i32_w]
                        rfl
                       exact norm_ (by first | (simp only [putAll, Act.put, sI, sZ, sS]; done) | (simp only [putAll, Act.put, sI, sZ, sS]; rfl)) (hJ1_4_12 (v230, v233, gb248) _ ⟨hHeld, (by (with_reducible repeat (first|apply rA|apply rN|apply rD)); exact HO234.out), (by (with_reducible repeat (first|apply rA|apply rN|apply rD)); exact HO_229000.out), (by (with_reducible repeat (first|apply sA|apply sN|apply sD)); exact HO_229001.out), (by (with_reducible repeat (first|apply bn|apply bd|apply ba)); exact BK214.out), (by (with_reducible repeat (first|apply bn|apply bd|apply ba)); exact BK215.out), (by (with_reducible repeat (first|apply bn|apply bd|apply ba)); exact BK228.out), (by (with_reducible repeat (first|apply bn|apply bd|apply ba)); exact BK248.out), GW248.out, GE248.out, NB214_248.out, NB248_214.out, NB215_248.out, NB248_215.out, NB228_248.out, NB248_228.out, (by repeat (first | (with_reducible first | exact HB.out | apply bl | apply pN | apply b1 | refine bs ?_ GE214.out | refine bs ?_ GE215.out | refine bs ?_ GE228.out | refine bs ?_ GE248.out) | exact HB.out | exact HBo.out))⟩)
                      ·
                       skip
                       refine Kd.R_lit_step k45 _ 45 ?hg (N := 79) ?hd (xs := ([(⟨(⟨#[109, 111, 114, 101]⟩ : ByteArray), 1⟩ : S45)] : List (S45))) (inner := [.string (⟨#[109, 111, 114, 101]⟩ : ByteArray), .int .i64 1]) (ok := fun _ => True) (okp := fun _ => True) ?hr ?hp (fun _ hk => hk) trivial (Below.refl _ _) (Nat.le_refl _) (by simp) ?_; (case hd => rfl); (case hg => rfl); (case hr => first | (go_simp; done) | (go_simp; rfl)); (case hp => exact (Reps.c2 (show Kd.M k45 _ _ _ (⟨(⟨#[109, 111, 114, 101]⟩ : ByteArray), 1⟩ : S45) [.string (⟨#[109, 111, 114, 101]⟩ : ByteArray), .int .i64 1] from (k45_mkM _ _ _ (⟨(⟨#[109, 111, 114, 101]⟩ : ByteArray), 1⟩ : S45) )) (Reps.none _ _)))
                       intro v236 w100 ho101 hb hg_ hnew_
                       clear hg_ hnew_
                       (first | rw [← Ny235.out] at ho101 | (simp only [Int.reduceToNat] at ho101; rw [← Ny235.out] at ho101))
                       have HO237 := Am (Kd.R_lower (Kd.R_new' ho101 (Kd.R_lt (by (with_reducible repeat (first|apply rA|apply rN|apply rD)); exact HO231.out))) (below_size (by repeat (first | (with_reducible first | exact HB.out | apply bl | apply pN | apply b1 | refine bs ?_ GE214.out | refine bs ?_ GE215.out | refine bs ?_ GE228.out | refine bs ?_ GE248.out) | exact HB.out | exact HBo.out))))
                       replace HO_229000 := Am (Kd.R_below (by (with_reducible repeat (first|apply rA|apply rN|apply rD)); exact HO_229000.out) hb)
                       replace HO_229001 := Am (Kd.S_below (by (with_reducible repeat (first|apply sA|apply sN|apply sD)); exact HO_229001.out) hb)
                       replace HO231 := Am (Kd.R_elder' (by (with_reducible repeat (first|apply rA|apply rN|apply rD)); exact HO231.out) (Kd.R_base ho101) hb)
                       replace BK214 := Am (blk_below (g := gb214) (o := .cells #[.slice A0_0 l0_0.length c0_0, .slice A0_1 l0_1.length c0_1] 25 (0, 0)) (by (with_reducible repeat (first|apply bn|apply bd|apply ba)); exact BK214.out) hb)
                       replace BK215 := Am (blk_below (g := gb215) (o := .cells #[.string a1_0, .slice A1_1 l1_1.length c1_1, .int .i64 a1_2] 28 (0, 0)) (by (with_reducible repeat (first|apply bn|apply bd|apply ba)); exact BK215.out) hb)
                       replace BK228 := Am (blk_below (g := gb228) (o := .cells #[.slice Ao59 t221.length co59, .slice Ao63 t224.length co63] 25 (0, 0)) (by (with_reducible repeat (first|apply bn|apply bd|apply ba)); exact BK228.out) hb)
                       replace BK248 := Am (blk_below (g := gb248) (o := .cells #[.slice none 0 0, .slice none 0 0] 25 (0, 0)) (by (with_reducible repeat (first|apply bn|apply bd|apply ba)); exact BK248.out) hb)
                       replace HB := Am (below_step (by repeat (first | (with_reducible first | exact HB.out | apply bl | apply pN | apply b1 | refine bs ?_ GE214.out | refine bs ?_ GE215.out | refine bs ?_ GE228.out | refine bs ?_ GE248.out) | exact HB.out | exact HBo.out)) hb)
                       clear hb ho101
                       refine hK.out _ _ ⟨(bc BK228.out 0).trans rfl, (bc BK228.out 1).trans rfl, (bc BK215.out 0).trans rfl, (bc BK215.out 1).trans rfl, (bc BK215.out 2).trans rfl⟩ (fun hHeld => ?_)
                       clear hK K
                       refine norm_ (a' := ?_) ?_ ?_
                       rotate_left
                       ·
                        show Act.put _ (some 79) _ = _
                        simp only [Act.put, sI, sZ, sS, i64_w, i32_w]
                        rfl
                       exact norm_ (by first | (simp only [putAll, Act.put, sI, sZ, sS]; done) | (simp only [putAll, Act.put, sI, sZ, sS]; rfl)) (hJ1_6_12 (v230, v236, gb248) _ ⟨hHeld, (by (with_reducible repeat (first|apply rA|apply rN|apply rD)); exact Kd.R_mono HO231.out (fun _ hk => hk.2)), (by (with_reducible repeat (first|apply rA|apply rN|apply rD)); exact Kd.R_mono HO237.out (fun _ hk => hk.2)), (by (with_reducible repeat (first|apply rA|apply rN|apply rD)); exact HO_229000.out), (by (with_reducible repeat (first|apply sA|apply sN|apply sD)); exact HO_229001.out), (by (with_reducible repeat (first|apply bn|apply bd|apply ba)); exact BK214.out), (by (with_reducible repeat (first|apply bn|apply bd|apply ba)); exact BK215.out), (by (with_reducible repeat (first|apply bn|apply bd|apply ba)); exact BK228.out), (by (with_reducible repeat (first|apply bn|apply bd|apply ba)); exact BK248.out), GW248.out, GE248.out, NB214_248.out, NB248_214.out, NB215_248.out, NB248_215.out, NB228_248.out, NB248_228.out, (by repeat (first | (with_reducible first | exact HB.out | apply bl | apply pN | apply b1 | refine bs ?_ GE214.out | refine bs ?_ GE215.out | refine bs ?_ GE228.out | refine bs ?_ GE248.out) | exact HB.out | exact HBo.out))⟩)
                    ·
                     skip
                     rintro ⟨v230, v236⟩ w100 ⟨hS_, h0_, h1_, h2_, h3_, h4_, h5_, h6_, h7_⟩
                     have n0_ : Aside0 (Kd.R k45 45 w100 w.heap.size (fun k_ => some k_ ≠ (v236 : Value).ownBlock) v230 y229) := ⟨h0_⟩
                     have n1_ : Aside0 (Kd.R k45 45 w100 w.heap.size (fun k_ => some k_ ≠ (v230 : Value).ownBlock) v236 y235) := ⟨h1_⟩
                     have n2_ : Aside0 (Kd.R Kd.string 9 w100 w.heap.size (fun _ => True) (.slice Ao59 t221.length co59) t221) := ⟨h2_⟩
                     have n3_ : Aside0 (Kd.S (Kd.slice 50 k50) 46 w100 w.heap.size (fun _ => True) (.slice Ao63 t224.length co63) t224) := ⟨h3_⟩
                     have n4_ : Aside0 (w100.heap[gb214]? = some (.cells #[.slice A0_0 l0_0.length c0_0, .slice A0_1 l0_1.length c0_1] 25 (0, 0))) := ⟨h4_⟩
                     have n5_ : Aside0 (w100.heap[gb215]? = some (.cells #[.string a1_0, .slice A1_1 l1_1.length c1_1, .int .i64 a1_2] 28 (0, 0))) := ⟨h5_⟩
                     have n6_ : Aside0 (w100.heap[gb228]? = some (.cells #[.slice Ao59 t221.length co59, .slice Ao63 t224.length co63] 25 (0, 0))) := ⟨h6_⟩
                     have n7_ : Aside0 (Below w.heap.size w w100) := ⟨h7_⟩
                     clear HO_229000
                     clear HO_229001
                     clear BK214
                     clear BK215
                     clear BK228
                     clear HB
                     clear h0_ h1_ h2_ h3_ h4_ h5_ h6_ h7_
                     have HO231 := n0_
                     have HO237 := n1_
                     have HO_229000 := n2_
                     have HO_229001 := n3_
                     have BK214 := n4_
                     have BK215 := n5_
                     have BK228 := n6_
                     have HB := n7_
                     clear n0_ n1_ n2_ n3_ n4_ n5_ n6_ n7_
                     have hHeld : w100.cell? ⟨gb228, 0, none⟩ = some (.slice Ao59 t221.length co59) ∧ w100.cell? ⟨gb228, 1, none⟩ = some (.slice Ao63 t224.length co63) ∧ w100.cell? ⟨gb215, 0, none⟩ = some (.string a1_0) ∧ w100.cell? ⟨gb215, 1, none⟩ = some (.slice A1_1 l1_1.length c1_1) ∧ w100.cell? ⟨gb215, 2, none⟩ = some (.int .i64 a1_2) := hS_
                     refine norm_ (a' := ?_) ?_ ?_
                     rotate_left
                     ·
                      simp only [putAll, Act.put, sI, sZ, sS]
                      rfl
                     refine two_ (i := 4) (j := 12) (Ni := some 77) (Nj := some 10) q10_29 q10_31 rfl rfl rfl rfl (two_of HT_.out (by kernel_rfl)) (by decide) (by decide) (fun K hK => ?_) (fun K hK => ?_)
                     ·
                      skip
                      refine Kd.R_append_rows_step k45 (w0 := w) w.heap.size (by rfl) (.tmp 74) (.tmp 76) 26 45 (.agg #[(.string ⟨#[]⟩), (.int .i64 0)]) 24 rfl Try.underlying26 info45 rfl (by decide) (by omega) v230 y229 l1_1 _ _ _ (fun k_ => some k_ ≠ (v236 : Value).ownBlock) (fun _ => False) rfl rfl ?aO ?aR (fun _ _ h => h) (fun _ h => h.elim) ?aF ?aB ?aS ?aL ?_
                      (case aR => repeat (first | exact (Kd.C_below HR1_1.out HB.out) | (with_reducible refine Kd.C_alloc ?_ _) | (with_reducible refine Kd.C_drewN ?_ _) | (with_reducible refine Kd.C_drew ?_)))
                      (case aB => exact (by repeat (first | (with_reducible first | exact HB.out | apply bl | apply pN | apply b1 | refine bs ?_ GE214.out | refine bs ?_ GE215.out | refine bs ?_ GE228.out) | exact HB.out | exact HBo.out)))
                      (case aF => exact (fun k_ hk => Kd.fresh' (Kd.R_lt (by (with_reducible repeat (first|apply rA|apply rN|apply rD)); exact HO237.out)) k_ hk))
                      (case aO => exact (by (with_reducible repeat (first|apply rA|apply rN|apply rD)); exact HO231.out))
                      (case aS => exact (below_size (by repeat (first | (with_reducible first | exact HB.out | apply bl | apply pN | apply b1 | refine bs ?_ GE214.out | refine bs ?_ GE215.out | refine bs ?_ GE228.out) | exact HB.out | exact HBo.out))))
                      (case aL => have := LMc88.out; omega)
                      intro v233 w101 ho hb hg hat
                      rw [← Ny232.out] at ho
                      have n0_ := Am (Kd.R_over' (by (with_reducible repeat (first|apply rA|apply rN|apply rD)); exact HO_229000.out) (Kd.R_typed (by (with_reducible repeat (first|apply rA|apply rN|apply rD)); exact HO231.out)) (by decide) hg)
                      have n1_ := Am (Kd.S_over' (by (with_reducible repeat (first|apply sA|apply sN|apply sD)); exact HO_229001.out) (Kd.R_typed (by (with_reducible repeat (first|apply rA|apply rN|apply rD)); exact HO231.out)) (by decide) hg)
                      have n2_ := Am (blk_grown (g := gb214) (o := .cells #[.slice A0_0 l0_0.length c0_0, .slice A0_1 l0_1.length c0_1] 25 (0, 0)) (by (with_reducible repeat (first|apply bn|apply bd|apply ba)); exact BK214.out) hg (Kd.R_ne HO231.out BK214.out (by decide)))
                      have n3_ := Am (blk_grown (g := gb215) (o := .cells #[.string a1_0, .slice A1_1 l1_1.length c1_1, .int .i64 a1_2] 28 (0, 0)) (by (with_reducible repeat (first|apply bn|apply bd|apply ba)); exact BK215.out) hg (Kd.R_ne HO231.out BK215.out (by decide)))
                      have n4_ := Am (blk_grown (g := gb228) (o := .cells #[.slice Ao59 t221.length co59, .slice Ao63 t224.length co63] 25 (0, 0)) (by (with_reducible repeat (first|apply bn|apply bd|apply ba)); exact BK228.out) hg (Kd.R_ne HO231.out BK228.out (by decide)))
                      have n5_ := Am (Kd.R_after (ok := (fun _ => True)) (by (with_reducible repeat (first|apply rA|apply rN|apply rD)); exact Kd.R_mono HO237.out (fun _ hk => ⟨trivial, hk⟩)) hg hat)
                      have n6_ := Am (hb)
                      have n7_ := Am (ho)
                      clear HO_229000
                      clear HO_229001
                      clear BK214
                      clear BK215
                      clear BK228
                      clear HO237
                      clear HB
                      clear HO231
                      have HO_229000 := n0_
                      have HO_229001 := n1_
                      have BK214 := n2_
                      have BK215 := n3_
                      have BK228 := n4_
                      have HO237 := n5_
                      have HB := n6_
                      have HO234 := n7_
                      clear n0_ n1_ n2_ n3_ n4_ n5_ n6_ n7_
                      clear ho hb hg hat
                      refine hK.out _ _ ⟨(bc BK228.out 0).trans rfl, (bc BK228.out 1).trans rfl, (bc BK215.out 0).trans rfl, (bc BK215.out 1).trans rfl, (bc BK215.out 2).trans rfl⟩ (fun hHeld => ?_)
                      clear hK K
                      refine norm_ (a' := ?_) ?_ ?_
                      rotate_left
                      ·
                       show Act.put _ (some 77) _ = _
                       simp only [Act.put, sI, sZ, sS, i64_w, i32_w]
                       rfl
                      exact norm_ (by first | (simp only [putAll, Act.put, sI, sZ, sS]; done) | (simp only [putAll, Act.put, sI, sZ, sS]; rfl)) (hJ1_4_6 (v230, v233, v236) _ ⟨hHeld, (by (with_reducible repeat (first|apply rA|apply rN|apply rD)); exact HO234.out), (by (with_reducible repeat (first|apply rA|apply rN|apply rD)); exact Kd.R_mono HO237.out (fun _ hk => hk.2)), (by (with_reducible repeat (first|apply rA|apply rN|apply rD)); exact HO_229000.out), (by (with_reducible repeat (first|apply sA|apply sN|apply sD)); exact HO_229001.out), (by (with_reducible repeat (first|apply bn|apply bd|apply ba)); exact BK214.out), (by (with_reducible repeat (first|apply bn|apply bd|apply ba)); exact BK215.out), (by (with_reducible repeat (first|apply bn|apply bd|apply ba)); exact BK228.out), (by repeat (first | (with_reducible first | exact HB.out | apply bl | apply pN | apply b1 | refine bs ?_ GE214.out | refine bs ?_ GE215.out | refine bs ?_ GE228.out) | exact HB.out | exact HBo.out))⟩)
                     ·
                      skip
                      refine box_step ?hg (N := 10) ?hd (cs := #[.slice none 0 0, .slice none 0 0]) (t := 25) ?hr ?_; (case hd => rfl); (case hg => rfl); (case hr => first | (go_simp; done) | (go_simp; rfl))
                      intro gb248 hg w101 hbox hb
                      have BK248 := Am (hbox)
                      have GW248 := Am ((by rw [hg]; exact (below_size (by repeat (first | (with_reducible first | exact HB.out | apply bl | apply pN | apply b1 | refine bs ?_ GE214.out | refine bs ?_ GE215.out | refine bs ?_ GE228.out) | exact HB.out | exact HBo.out))) : w.heap.size ≤ gb248))
                      have GE248 := GW248
                      have NB214_248 := Am ((by rw [hg]; exact Nat.ne_of_lt (blk_lt (g := gb214) (o := .cells #[.slice A0_0 l0_0.length c0_0, .slice A0_1 l0_1.length c0_1] 25 (0, 0)) (by (with_reducible repeat (first|apply bn|apply bd|apply ba)); exact BK214.out)) : gb214 ≠ gb248))
                      have NB248_214 := Am NB214_248.out.symm
                      have NB215_248 := Am ((by rw [hg]; exact Nat.ne_of_lt (blk_lt (g := gb215) (o := .cells #[.string a1_0, .slice A1_1 l1_1.length c1_1, .int .i64 a1_2] 28 (0, 0)) (by (with_reducible repeat (first|apply bn|apply bd|apply ba)); exact BK215.out)) : gb215 ≠ gb248))
                      have NB248_215 := Am NB215_248.out.symm
                      have NB228_248 := Am ((by rw [hg]; exact Nat.ne_of_lt (blk_lt (g := gb228) (o := .cells #[.slice Ao59 t221.length co59, .slice Ao63 t224.length co63] 25 (0, 0)) (by (with_reducible repeat (first|apply bn|apply bd|apply ba)); exact BK228.out)) : gb228 ≠ gb248))
                      have NB248_228 := Am NB228_248.out.symm
                      replace HO_229000 := Am (Kd.R_below (by (with_reducible repeat (first|apply rA|apply rN|apply rD)); exact HO_229000.out) hb)
                      replace HO_229001 := Am (Kd.S_below (by (with_reducible repeat (first|apply sA|apply sN|apply sD)); exact HO_229001.out) hb)
                      replace HO231 := Am (Kd.R_below (by (with_reducible repeat (first|apply rA|apply rN|apply rD)); exact HO231.out) hb)
                      replace HO237 := Am (Kd.R_below (by (with_reducible repeat (first|apply rA|apply rN|apply rD)); exact HO237.out) hb)
                      replace BK214 := Am (blk_below (g := gb214) (o := .cells #[.slice A0_0 l0_0.length c0_0, .slice A0_1 l0_1.length c0_1] 25 (0, 0)) (by (with_reducible repeat (first|apply bn|apply bd|apply ba)); exact BK214.out) hb)
                      replace BK215 := Am (blk_below (g := gb215) (o := .cells #[.string a1_0, .slice A1_1 l1_1.length c1_1, .int .i64 a1_2] 28 (0, 0)) (by (with_reducible repeat (first|apply bn|apply bd|apply ba)); exact BK215.out) hb)
                      replace BK228 := Am (blk_below (g := gb228) (o := .cells #[.slice Ao59 t221.length co59, .slice Ao63 t224.length co63] 25 (0, 0)) (by (with_reducible repeat (first|apply bn|apply bd|apply ba)); exact BK228.out) hb)
                      replace HB := Am (below_step (by repeat (first | (with_reducible first | exact HB.out | apply bl | apply pN | apply b1 | refine bs ?_ GE214.out | refine bs ?_ GE215.out | refine bs ?_ GE228.out) | exact HB.out | exact HBo.out)) hb)
                      clear hb hbox hg
                      refine hK.out _ _ ⟨(bc BK228.out 0).trans rfl, (bc BK228.out 1).trans rfl, (bc BK215.out 0).trans rfl, (bc BK215.out 1).trans rfl, (bc BK215.out 2).trans rfl⟩ (fun hHeld => ?_)
                      clear hK K
                      refine norm_ (a' := ?_) ?_ ?_
                      rotate_left
                      ·
                       show Act.put _ (some 10) _ = _
                       simp only [Act.put, sI, sZ, sS, i64_w, i32_w]
                       rfl
                      exact norm_ (by first | (simp only [putAll, Act.put, sI, sZ, sS]; done) | (simp only [putAll, Act.put, sI, sZ, sS]; rfl)) (hJ1_6_12 (v230, v236, gb248) _ ⟨hHeld, (by (with_reducible repeat (first|apply rA|apply rN|apply rD)); exact HO231.out), (by (with_reducible repeat (first|apply rA|apply rN|apply rD)); exact HO237.out), (by (with_reducible repeat (first|apply rA|apply rN|apply rD)); exact HO_229000.out), (by (with_reducible repeat (first|apply sA|apply sN|apply sD)); exact HO_229001.out), (by (with_reducible repeat (first|apply bn|apply bd|apply ba)); exact BK214.out), (by (with_reducible repeat (first|apply bn|apply bd|apply ba)); exact BK215.out), (by (with_reducible repeat (first|apply bn|apply bd|apply ba)); exact BK228.out), (by (with_reducible repeat (first|apply bn|apply bd|apply ba)); exact BK248.out), GW248.out, GE248.out, NB214_248.out, NB248_214.out, NB215_248.out, NB248_215.out, NB228_248.out, NB248_228.out, (by repeat (first | (with_reducible first | exact HB.out | apply bl | apply pN | apply b1 | refine bs ?_ GE214.out | refine bs ?_ GE215.out | refine bs ?_ GE228.out | refine bs ?_ GE248.out) | exact HB.out | exact HBo.out))⟩)
                   ·
                    skip
                    rintro ⟨v230, v233⟩ w99 ⟨hS_, h0_, h1_, h2_, h3_, h4_, h5_, h6_⟩
                    have n0_ : Aside0 (Kd.R k45 45 w99 w.heap.size (fun _ => True) v233 y232) := ⟨h0_⟩
                    have n1_ : Aside0 (Kd.R Kd.string 9 w99 w.heap.size (fun _ => True) (.slice Ao59 t221.length co59) t221) := ⟨h1_⟩
                    have n2_ : Aside0 (Kd.S (Kd.slice 50 k50) 46 w99 w.heap.size (fun _ => True) (.slice Ao63 t224.length co63) t224) := ⟨h2_⟩
                    have n3_ : Aside0 (w99.heap[gb214]? = some (.cells #[.slice A0_0 l0_0.length c0_0, .slice A0_1 l0_1.length c0_1] 25 (0, 0))) := ⟨h3_⟩
                    have n4_ : Aside0 (w99.heap[gb215]? = some (.cells #[.string a1_0, .slice A1_1 l1_1.length c1_1, .int .i64 a1_2] 28 (0, 0))) := ⟨h4_⟩
                    have n5_ : Aside0 (w99.heap[gb228]? = some (.cells #[.slice Ao59 t221.length co59, .slice Ao63 t224.length co63] 25 (0, 0))) := ⟨h5_⟩
                    have n6_ : Aside0 (Below w.heap.size w w99) := ⟨h6_⟩
                    clear HO_229000
                    clear HO_229001
                    clear BK214
                    clear BK215
                    clear BK228
                    clear HB
                    clear h0_ h1_ h2_ h3_ h4_ h5_ h6_
                    have HO234 := n0_
                    have HO_229000 := n1_
                    have HO_229001 := n2_
                    have BK214 := n3_
                    have BK215 := n4_
                    have BK228 := n5_
                    have HB := n6_
                    clear n0_ n1_ n2_ n3_ n4_ n5_ n6_
                    have hHeld : w99.cell? ⟨gb228, 0, none⟩ = some (.slice Ao59 t221.length co59) ∧ w99.cell? ⟨gb228, 1, none⟩ = some (.slice Ao63 t224.length co63) ∧ w99.cell? ⟨gb215, 0, none⟩ = some (.string a1_0) ∧ w99.cell? ⟨gb215, 1, none⟩ = some (.slice A1_1 l1_1.length c1_1) ∧ w99.cell? ⟨gb215, 2, none⟩ = some (.int .i64 a1_2) := hS_
                    refine norm_ (a' := ?_) ?_ ?_
                    rotate_left
                    ·
                     simp only [putAll, Act.put, sI, sZ, sS]
                     rfl
                    refine two_ (i := 6) (j := 12) (Ni := some 79) (Nj := some 10) q10_29 q10_30 rfl rfl rfl rfl (two_of HT_.out (by kernel_rfl)) (by decide) (by decide) (fun K hK => ?_) (fun K hK => ?_)
                    ·
                     skip
                     refine Kd.R_lit_step k45 _ 45 ?hg (N := 79) ?hd (xs := ([(⟨(⟨#[109, 111, 114, 101]⟩ : ByteArray), 1⟩ : S45)] : List (S45))) (inner := [.string (⟨#[109, 111, 114, 101]⟩ : ByteArray), .int .i64 1]) (ok := fun _ => True) (okp := fun _ => True) ?hr ?hp (fun _ hk => hk) trivial (Below.refl _ _) (Nat.le_refl _) (by simp) ?_; (case hd => rfl); (case hg => rfl); (case hr => first | (go_simp; done) | (go_simp; rfl)); (case hp => exact (Reps.c2 (show Kd.M k45 _ _ _ (⟨(⟨#[109, 111, 114, 101]⟩ : ByteArray), 1⟩ : S45) [.string (⟨#[109, 111, 114, 101]⟩ : ByteArray), .int .i64 1] from (k45_mkM _ _ _ (⟨(⟨#[109, 111, 114, 101]⟩ : ByteArray), 1⟩ : S45) )) (Reps.none _ _)))
                     intro v236 w100 ho101 hb hg_ hnew_
                     clear hg_ hnew_
                     (first | rw [← Ny235.out] at ho101 | (simp only [Int.reduceToNat] at ho101; rw [← Ny235.out] at ho101))
                     have HO237 := Am (Kd.R_lower (Kd.R_new' ho101 (Kd.R_lt (by (with_reducible repeat (first|apply rA|apply rN|apply rD)); exact HO234.out))) (below_size (by repeat (first | (with_reducible first | exact HB.out | apply bl | apply pN | apply b1 | refine bs ?_ GE214.out | refine bs ?_ GE215.out | refine bs ?_ GE228.out) | exact HB.out | exact HBo.out))))
                     replace HO_229000 := Am (Kd.R_below (by (with_reducible repeat (first|apply rA|apply rN|apply rD)); exact HO_229000.out) hb)
                     replace HO_229001 := Am (Kd.S_below (by (with_reducible repeat (first|apply sA|apply sN|apply sD)); exact HO_229001.out) hb)
                     replace HO234 := Am (Kd.R_elder' (by (with_reducible repeat (first|apply rA|apply rN|apply rD)); exact HO234.out) (Kd.R_base ho101) hb)
                     replace BK214 := Am (blk_below (g := gb214) (o := .cells #[.slice A0_0 l0_0.length c0_0, .slice A0_1 l0_1.length c0_1] 25 (0, 0)) (by (with_reducible repeat (first|apply bn|apply bd|apply ba)); exact BK214.out) hb)
                     replace BK215 := Am (blk_below (g := gb215) (o := .cells #[.string a1_0, .slice A1_1 l1_1.length c1_1, .int .i64 a1_2] 28 (0, 0)) (by (with_reducible repeat (first|apply bn|apply bd|apply ba)); exact BK215.out) hb)
                     replace BK228 := Am (blk_below (g := gb228) (o := .cells #[.slice Ao59 t221.length co59, .slice Ao63 t224.length co63] 25 (0, 0)) (by (with_reducible repeat (first|apply bn|apply bd|apply ba)); exact BK228.out) hb)
                     replace HB := Am (below_step (by repeat (first | (with_reducible first | exact HB.out | apply bl | apply pN | apply b1 | refine bs ?_ GE214.out | refine bs ?_ GE215.out | refine bs ?_ GE228.out) | exact HB.out | exact HBo.out)) hb)
                     clear hb ho101
                     refine hK.out _ _ ⟨(bc BK228.out 0).trans rfl, (bc BK228.out 1).trans rfl, (bc BK215.out 0).trans rfl, (bc BK215.out 1).trans rfl, (bc BK215.out 2).trans rfl⟩ (fun hHeld => ?_)
                     clear hK K
                     refine norm_ (a' := ?_) ?_ ?_
                     rotate_left
                     ·
                      show Act.put _ (some 79) _ = _
                      simp only [Act.put, sI, sZ, sS, i64_w, i32_w]
                      rfl
                     exact norm_ (by first | (simp only [putAll, Act.put, sI, sZ, sS]; done) | (simp only [putAll, Act.put, sI, sZ, sS]; rfl)) (hJ1_4_6 (v230, v233, v236) _ ⟨hHeld, (by (with_reducible repeat (first|apply rA|apply rN|apply rD)); exact Kd.R_mono HO234.out (fun _ hk => hk.2)), (by (with_reducible repeat (first|apply rA|apply rN|apply rD)); exact Kd.R_mono HO237.out (fun _ hk => hk.2)), (by (with_reducible repeat (first|apply rA|apply rN|apply rD)); exact HO_229000.out), (by (with_reducible repeat (first|apply sA|apply sN|apply sD)); exact HO_229001.out), (by (with_reducible repeat (first|apply bn|apply bd|apply ba)); exact BK214.out), (by (with_reducible repeat (first|apply bn|apply bd|apply ba)); exact BK215.out), (by (with_reducible repeat (first|apply bn|apply bd|apply ba)); exact BK228.out), (by repeat (first | (with_reducible first | exact HB.out | apply bl | apply pN | apply b1 | refine bs ?_ GE214.out | refine bs ?_ GE215.out | refine bs ?_ GE228.out) | exact HB.out | exact HBo.out))⟩)
                    ·
                     skip
                     refine box_step ?hg (N := 10) ?hd (cs := #[.slice none 0 0, .slice none 0 0]) (t := 25) ?hr ?_; (case hd => rfl); (case hg => rfl); (case hr => first | (go_simp; done) | (go_simp; rfl))
                     intro gb248 hg w100 hbox hb
                     have BK248 := Am (hbox)
                     have GW248 := Am ((by rw [hg]; exact (below_size (by repeat (first | (with_reducible first | exact HB.out | apply bl | apply pN | apply b1 | refine bs ?_ GE214.out | refine bs ?_ GE215.out | refine bs ?_ GE228.out) | exact HB.out | exact HBo.out))) : w.heap.size ≤ gb248))
                     have GE248 := GW248
                     have NB214_248 := Am ((by rw [hg]; exact Nat.ne_of_lt (blk_lt (g := gb214) (o := .cells #[.slice A0_0 l0_0.length c0_0, .slice A0_1 l0_1.length c0_1] 25 (0, 0)) (by (with_reducible repeat (first|apply bn|apply bd|apply ba)); exact BK214.out)) : gb214 ≠ gb248))
                     have NB248_214 := Am NB214_248.out.symm
                     have NB215_248 := Am ((by rw [hg]; exact Nat.ne_of_lt (blk_lt (g := gb215) (o := .cells #[.string a1_0, .slice A1_1 l1_1.length c1_1, .int .i64 a1_2] 28 (0, 0)) (by (with_reducible repeat (first|apply bn|apply bd|apply ba)); exact BK215.out)) : gb215 ≠ gb248))
                     have NB248_215 := Am NB215_248.out.symm
                     have NB228_248 := Am ((by rw [hg]; exact Nat.ne_of_lt (blk_lt (g := gb228) (o := .cells #[.slice Ao59 t221.length co59, .slice Ao63 t224.length co63] 25 (0, 0)) (by (with_reducible repeat (first|apply bn|apply bd|apply ba)); exact BK228.out)) : gb228 ≠ gb248))
                     have NB248_228 := Am NB228_248.out.symm
                     replace HO_229000 := Am (Kd.R_below (by (with_reducible repeat (first|apply rA|apply rN|apply rD)); exact HO_229000.out) hb)
                     replace HO_229001 := Am (Kd.S_below (by (with_reducible repeat (first|apply sA|apply sN|apply sD)); exact HO_229001.out) hb)
                     replace HO234 := Am (Kd.R_below (by (with_reducible repeat (first|apply rA|apply rN|apply rD)); exact HO234.out) hb)
                     replace BK214 := Am (blk_below (g := gb214) (o := .cells #[.slice A0_0 l0_0.length c0_0, .slice A0_1 l0_1.length c0_1] 25 (0, 0)) (by (with_reducible repeat (first|apply bn|apply bd|apply ba)); exact BK214.out) hb)
                     replace BK215 := Am (blk_below (g := gb215) (o := .cells #[.string a1_0, .slice A1_1 l1_1.length c1_1, .int .i64 a1_2] 28 (0, 0)) (by (with_reducible repeat (first|apply bn|apply bd|apply ba)); exact BK215.out) hb)
                     replace BK228 := Am (blk_below (g := gb228) (o := .cells #[.slice Ao59 t221.length co59, .slice Ao63 t224.length co63] 25 (0, 0)) (by (with_reducible repeat (first|apply bn|apply bd|apply ba)); exact BK228.out) hb)
                     replace HB := Am (below_step (by repeat (first | (with_reducible first | exact HB.out | apply bl | apply pN | apply b1 | refine bs ?_ GE214.out | refine bs ?_ GE215.out | refine bs ?_ GE228.out) | exact HB.out | exact HBo.out)) hb)
                     clear hb hbox hg
                     refine hK.out _ _ ⟨(bc BK228.out 0).trans rfl, (bc BK228.out 1).trans rfl, (bc BK215.out 0).trans rfl, (bc BK215.out 1).trans rfl, (bc BK215.out 2).trans rfl⟩ (fun hHeld => ?_)
                     clear hK K
                     refine norm_ (a' := ?_) ?_ ?_
                     rotate_left
                     ·
                      show Act.put _ (some 10) _ = _
                      simp only [Act.put, sI, sZ, sS, i64_w, i32_w]
                      rfl
                     exact norm_ (by first | (simp only [putAll, Act.put, sI, sZ, sS]; done) | (simp only [putAll, Act.put, sI, sZ, sS]; rfl)) (hJ1_4_12 (v230, v233, gb248) _ ⟨hHeld, (by (with_reducible repeat (first|apply rA|apply rN|apply rD)); exact HO234.out), (by (with_reducible repeat (first|apply rA|apply rN|apply rD)); exact HO_229000.out), (by (with_reducible repeat (first|apply sA|apply sN|apply sD)); exact HO_229001.out), (by (with_reducible repeat (first|apply bn|apply bd|apply ba)); exact BK214.out), (by (with_reducible repeat (first|apply bn|apply bd|apply ba)); exact BK215.out), (by (with_reducible repeat (first|apply bn|apply bd|apply ba)); exact BK228.out), (by (with_reducible repeat (first|apply bn|apply bd|apply ba)); exact BK248.out), GW248.out, GE248.out, NB214_248.out, NB248_214.out, NB215_248.out, NB248_215.out, NB228_248.out, NB248_228.out, (by repeat (first | (with_reducible first | exact HB.out | apply bl | apply pN | apply b1 | refine bs ?_ GE214.out | refine bs ?_ GE215.out | refine bs ?_ GE228.out | refine bs ?_ GE248.out) | exact HB.out | exact HBo.out))⟩)
                  ·
                   skip
                   rintro ⟨v230, v236, gb248⟩ w101 ⟨hS_, h0_, h1_, h2_, h3_, h4_, h5_, h6_, h7_, h8_, h9_, h10_, h11_, h12_, h13_, h14_, h15_, h16_⟩
                   have n0_ : Aside0 (Kd.R k45 45 w101 w.heap.size (fun k_ => some k_ ≠ (v236 : Value).ownBlock) v230 y229) := ⟨h0_⟩
                   have n1_ : Aside0 (Kd.R k45 45 w101 w.heap.size (fun k_ => some k_ ≠ (v230 : Value).ownBlock) v236 y235) := ⟨h1_⟩
                   have n2_ : Aside0 (Kd.R Kd.string 9 w101 w.heap.size (fun _ => True) (.slice Ao59 t221.length co59) t221) := ⟨h2_⟩
                   have n3_ : Aside0 (Kd.S (Kd.slice 50 k50) 46 w101 w.heap.size (fun _ => True) (.slice Ao63 t224.length co63) t224) := ⟨h3_⟩
                   have n4_ : Aside0 (w101.heap[gb214]? = some (.cells #[.slice A0_0 l0_0.length c0_0, .slice A0_1 l0_1.length c0_1] 25 (0, 0))) := ⟨h4_⟩
                   have n5_ : Aside0 (w101.heap[gb215]? = some (.cells #[.string a1_0, .slice A1_1 l1_1.length c1_1, .int .i64 a1_2] 28 (0, 0))) := ⟨h5_⟩
                   have n6_ : Aside0 (w101.heap[gb228]? = some (.cells #[.slice Ao59 t221.length co59, .slice Ao63 t224.length co63] 25 (0, 0))) := ⟨h6_⟩
                   have n7_ : Aside0 (w101.heap[gb248]? = some (.cells #[.slice none 0 0, .slice none 0 0] 25 (0, 0))) := ⟨h7_⟩
                   have n8_ : Aside0 (w.heap.size ≤ gb248) := ⟨h8_⟩
                   have n9_ : Aside0 (w.heap.size ≤ gb248) := ⟨h9_⟩
                   have n10_ : Aside0 (gb214 ≠ gb248) := ⟨h10_⟩
                   have n11_ : Aside0 (gb248 ≠ gb214) := ⟨h11_⟩
                   have n12_ : Aside0 (gb215 ≠ gb248) := ⟨h12_⟩
                   have n13_ : Aside0 (gb248 ≠ gb215) := ⟨h13_⟩
                   have n14_ : Aside0 (gb228 ≠ gb248) := ⟨h14_⟩
                   have n15_ : Aside0 (gb248 ≠ gb228) := ⟨h15_⟩
                   have n16_ : Aside0 (Below w.heap.size w w101) := ⟨h16_⟩
                   clear HO_229000
                   clear HO_229001
                   clear BK214
                   clear BK215
                   clear BK228
                   clear HB
                   clear h0_ h1_ h2_ h3_ h4_ h5_ h6_ h7_ h8_ h9_ h10_ h11_ h12_ h13_ h14_ h15_ h16_
                   have HO231 := n0_
                   have HO237 := n1_
                   have HO_229000 := n2_
                   have HO_229001 := n3_
                   have BK214 := n4_
                   have BK215 := n5_
                   have BK228 := n6_
                   have BK248 := n7_
                   have GW248 := n8_
                   have GE248 := n9_
                   have NB214_248 := n10_
                   have NB248_214 := n11_
                   have NB215_248 := n12_
                   have NB248_215 := n13_
                   have NB228_248 := n14_
                   have NB248_228 := n15_
                   have HB := n16_
                   clear n0_ n1_ n2_ n3_ n4_ n5_ n6_ n7_ n8_ n9_ n10_ n11_ n12_ n13_ n14_ n15_ n16_
                   have hHeld : w101.cell? ⟨gb228, 0, none⟩ = some (.slice Ao59 t221.length co59) ∧ w101.cell? ⟨gb228, 1, none⟩ = some (.slice Ao63 t224.length co63) ∧ w101.cell? ⟨gb215, 0, none⟩ = some (.string a1_0) ∧ w101.cell? ⟨gb215, 1, none⟩ = some (.slice A1_1 l1_1.length c1_1) ∧ w101.cell? ⟨gb215, 2, none⟩ = some (.int .i64 a1_2) := hS_
                   refine norm_ (a' := ?_) ?_ ?_
                   rotate_left
                   ·
                    simp only [putAll, Act.put, sI, sZ, sS]
                    rfl
                   refine one_ (i := 4) (N := some 77) q10_28 rfl rfl (one_of HT_.out (by kernel_rfl)) (by decide) (fun K hK => ?_)
                   refine Kd.R_append_rows_step k45 (w0 := w) w.heap.size (by rfl) (.tmp 74) (.tmp 76) 26 45 (.agg #[(.string ⟨#[]⟩), (.int .i64 0)]) 24 rfl Try.underlying26 info45 rfl (by decide) (by omega) v230 y229 l1_1 _ _ _ (fun k_ => some k_ ≠ (v236 : Value).ownBlock) (fun _ => False) rfl rfl ?aO ?aR (fun _ _ h => h) (fun _ h => h.elim) ?aF ?aB ?aS ?aL ?_
                   (case aR => repeat (first | exact (Kd.C_below HR1_1.out HB.out) | (with_reducible refine Kd.C_alloc ?_ _) | (with_reducible refine Kd.C_drewN ?_ _) | (with_reducible refine Kd.C_drew ?_)))
                   (case aB => exact (by repeat (first | (with_reducible first | exact HB.out | apply bl | apply pN | apply b1 | refine bs ?_ GE214.out | refine bs ?_ GE215.out | refine bs ?_ GE228.out | refine bs ?_ GE248.out) | exact HB.out | exact HBo.out)))
                   (case aF => exact (fun k_ hk => Kd.fresh' (Kd.R_lt (by (with_reducible repeat (first|apply rA|apply rN|apply rD)); exact HO237.out)) k_ hk))
                   (case aO => exact (by (with_reducible repeat (first|apply rA|apply rN|apply rD)); exact HO231.out))
                   (case aS => exact (below_size (by repeat (first | (with_reducible first | exact HB.out | apply bl | apply pN | apply b1 | refine bs ?_ GE214.out | refine bs ?_ GE215.out | refine bs ?_ GE228.out | refine bs ?_ GE248.out) | exact HB.out | exact HBo.out))))
                   (case aL => have := LMc88.out; omega)
                   intro v233 w102 ho hb hg hat
                   rw [← Ny232.out] at ho
                   have n0_ := Am (Kd.R_over' (by (with_reducible repeat (first|apply rA|apply rN|apply rD)); exact HO_229000.out) (Kd.R_typed (by (with_reducible repeat (first|apply rA|apply rN|apply rD)); exact HO231.out)) (by decide) hg)
                   have n1_ := Am (Kd.S_over' (by (with_reducible repeat (first|apply sA|apply sN|apply sD)); exact HO_229001.out) (Kd.R_typed (by (with_reducible repeat (first|apply rA|apply rN|apply rD)); exact HO231.out)) (by decide) hg)
                   have n2_ := Am (blk_grown (g := gb214) (o := .cells #[.slice A0_0 l0_0.length c0_0, .slice A0_1 l0_1.length c0_1] 25 (0, 0)) (by (with_reducible repeat (first|apply bn|apply bd|apply ba)); exact BK214.out) hg (Kd.R_ne HO231.out BK214.out (by decide)))
                   have n3_ := Am (blk_grown (g := gb215) (o := .cells #[.string a1_0, .slice A1_1 l1_1.length c1_1, .int .i64 a1_2] 28 (0, 0)) (by (with_reducible repeat (first|apply bn|apply bd|apply ba)); exact BK215.out) hg (Kd.R_ne HO231.out BK215.out (by decide)))
                   have n4_ := Am (blk_grown (g := gb228) (o := .cells #[.slice Ao59 t221.length co59, .slice Ao63 t224.length co63] 25 (0, 0)) (by (with_reducible repeat (first|apply bn|apply bd|apply ba)); exact BK228.out) hg (Kd.R_ne HO231.out BK228.out (by decide)))
                   have n5_ := Am (Kd.R_after (ok := (fun _ => True)) (by (with_reducible repeat (first|apply rA|apply rN|apply rD)); exact Kd.R_mono HO237.out (fun _ hk => ⟨trivial, hk⟩)) hg hat)
                   have n6_ := Am (blk_grown (g := gb248) (o := .cells #[.slice none 0 0, .slice none 0 0] 25 (0, 0)) (by (with_reducible repeat (first|apply bn|apply bd|apply ba)); exact BK248.out) hg (Kd.R_ne HO231.out BK248.out (by decide)))
                   have n7_ := Am (hb)
                   have n8_ := Am (ho)
                   clear HO_229000
                   clear HO_229001
                   clear BK214
                   clear BK215
                   clear BK228
                   clear HO237
                   clear BK248
                   clear HB
                   clear HO231
                   have HO_229000 := n0_
                   have HO_229001 := n1_
                   have BK214 := n2_
                   have BK215 := n3_
                   have BK228 := n4_
                   have HO237 := n5_
                   have BK248 := n6_
                   have HB := n7_
                   have HO234 := n8_
                   clear n0_ n1_ n2_ n3_ n4_ n5_ n6_ n7_ n8_
                   clear ho hb hg hat
                   refine hK.out _ _ ⟨(bc BK228.out 0).trans rfl, (bc BK228.out 1).trans rfl, (bc BK215.out 0).trans rfl, (bc BK215.out 1).trans rfl, (bc BK215.out 2).trans rfl⟩ (fun hHeld => ?_)
                   clear hK K
                   refine norm_ (a' := ?_) ?_ ?_
                   rotate_left
                   ·
                    show Act.put _ (some 77) _ = _
                    simp only [Act.put, sI, sZ, sS, i64_w, i32_w]
                    rfl
                   exact norm_ (by first | (simp only [putAll, Act.put, sI, sZ, sS]; done) | (simp only [putAll, Act.put, sI, sZ, sS]; rfl)) (hJ1_4_6_12 (v230, v233, v236, gb248) _ ⟨hHeld, (by (with_reducible repeat (first|apply rA|apply rN|apply rD)); exact HO234.out), (by (with_reducible repeat (first|apply rA|apply rN|apply rD)); exact Kd.R_mono HO237.out (fun _ hk => hk.2)), (by (with_reducible repeat (first|apply rA|apply rN|apply rD)); exact HO_229000.out), (by (with_reducible repeat (first|apply sA|apply sN|apply sD)); exact HO_229001.out), (by (with_reducible repeat (first|apply bn|apply bd|apply ba)); exact BK214.out), (by (with_reducible repeat (first|apply bn|apply bd|apply ba)); exact BK215.out), (by (with_reducible repeat (first|apply bn|apply bd|apply ba)); exact BK228.out), (by (with_reducible repeat (first|apply bn|apply bd|apply ba)); exact BK248.out), GW248.out, GE248.out, NB214_248.out, NB248_214.out, NB215_248.out, NB248_215.out, NB228_248.out, NB248_228.out, (by repeat (first | (with_reducible first | exact HB.out | apply bl | apply pN | apply b1 | refine bs ?_ GE214.out | refine bs ?_ GE215.out | refine bs ?_ GE228.out | refine bs ?_ GE248.out) | exact HB.out | exact HBo.out))⟩)
                 ·
                  skip
                  rintro ⟨v230, v233, gb248⟩ w100 ⟨hS_, h0_, h1_, h2_, h3_, h4_, h5_, h6_, h7_, h8_, h9_, h10_, h11_, h12_, h13_, h14_, h15_⟩
                  have n0_ : Aside0 (Kd.R k45 45 w100 w.heap.size (fun _ => True) v233 y232) := ⟨h0_⟩
                  have n1_ : Aside0 (Kd.R Kd.string 9 w100 w.heap.size (fun _ => True) (.slice Ao59 t221.length co59) t221) := ⟨h1_⟩
                  have n2_ : Aside0 (Kd.S (Kd.slice 50 k50) 46 w100 w.heap.size (fun _ => True) (.slice Ao63 t224.length co63) t224) := ⟨h2_⟩
                  have n3_ : Aside0 (w100.heap[gb214]? = some (.cells #[.slice A0_0 l0_0.length c0_0, .slice A0_1 l0_1.length c0_1] 25 (0, 0))) := ⟨h3_⟩
                  have n4_ : Aside0 (w100.heap[gb215]? = some (.cells #[.string a1_0, .slice A1_1 l1_1.length c1_1, .int .i64 a1_2] 28 (0, 0))) := ⟨h4_⟩
                  have n5_ : Aside0 (w100.heap[gb228]? = some (.cells #[.slice Ao59 t221.length co59, .slice Ao63 t224.length co63] 25 (0, 0))) := ⟨h5_⟩
                  have n6_ : Aside0 (w100.heap[gb248]? = some (.cells #[.slice none 0 0, .slice none 0 0] 25 (0, 0))) := ⟨h6_⟩
                  have n7_ : Aside0 (w.heap.size ≤ gb248) := ⟨h7_⟩
                  have n8_ : Aside0 (w.heap.size ≤ gb248) := ⟨h8_⟩
                  have n9_ : Aside0 (gb214 ≠ gb248) := ⟨h9_⟩
                  have n10_ : Aside0 (gb248 ≠ gb214) := ⟨h10_⟩
                  have n11_ : Aside0 (gb215 ≠ gb248) := ⟨h11_⟩
                  have n12_ : Aside0 (gb248 ≠ gb215) := ⟨h12_⟩
                  have n13_ : Aside0 (gb228 ≠ gb248) := ⟨h13_⟩
                  have n14_ : Aside0 (gb248 ≠ gb228) := ⟨h14_⟩
                  have n15_ : Aside0 (Below w.heap.size w w100) := ⟨h15_⟩
                  clear HO_229000
                  clear HO_229001
                  clear BK214
                  clear BK215
                  clear BK228
                  clear HB
                  clear h0_ h1_ h2_ h3_ h4_ h5_ h6_ h7_ h8_ h9_ h10_ h11_ h12_ h13_ h14_ h15_
                  have HO234 := n0_
                  have HO_229000 := n1_
                  have HO_229001 := n2_
                  have BK214 := n3_
                  have BK215 := n4_
                  have BK228 := n5_
                  have BK248 := n6_
                  have GW248 := n7_
                  have GE248 := n8_
                  have NB214_248 := n9_
                  have NB248_214 := n10_
                  have NB215_248 := n11_
                  have NB248_215 := n12_
                  have NB228_248 := n13_
                  have NB248_228 := n14_
                  have HB := n15_
                  clear n0_ n1_ n2_ n3_ n4_ n5_ n6_ n7_ n8_ n9_ n10_ n11_ n12_ n13_ n14_ n15_
                  have hHeld : w100.cell? ⟨gb228, 0, none⟩ = some (.slice Ao59 t221.length co59) ∧ w100.cell? ⟨gb228, 1, none⟩ = some (.slice Ao63 t224.length co63) ∧ w100.cell? ⟨gb215, 0, none⟩ = some (.string a1_0) ∧ w100.cell? ⟨gb215, 1, none⟩ = some (.slice A1_1 l1_1.length c1_1) ∧ w100.cell? ⟨gb215, 2, none⟩ = some (.int .i64 a1_2) := hS_
                  refine norm_ (a' := ?_) ?_ ?_
                  rotate_left
                  ·
                   simp only [putAll, Act.put, sI, sZ, sS]
                   rfl
                  refine one_ (i := 6) (N := some 79) q10_28 rfl rfl (one_of HT_.out (by kernel_rfl)) (by decide) (fun K hK => ?_)
                  refine Kd.R_lit_step k45 _ 45 ?hg (N := 79) ?hd (xs := ([(⟨(⟨#[109, 111, 114, 101]⟩ : ByteArray), 1⟩ : S45)] : List (S45))) (inner := [.string (⟨#[109, 111, 114, 101]⟩ : ByteArray), .int .i64 1]) (ok := fun _ => True) (okp := fun _ => True) ?hr ?hp (fun _ hk => hk) trivial (Below.refl _ _) (Nat.le_refl _) (by simp) ?_; (case hd => rfl); (case hg => rfl); (case hr => first | (go_simp; done) | (go_simp; rfl)); (case hp => exact (Reps.c2 (show Kd.M k45 _ _ _ (⟨(⟨#[109, 111, 114, 101]⟩ : ByteArray), 1⟩ : S45) [.string (⟨#[109, 111, 114, 101]⟩ : ByteArray), .int .i64 1] from (k45_mkM _ _ _ (⟨(⟨#[109, 111, 114, 101]⟩ : ByteArray), 1⟩ : S45) )) (Reps.none _ _)))
                  intro v236 w101 ho102 hb hg_ hnew_
                  clear hg_ hnew_
                  (first | rw [← Ny235.out] at ho102 | (simp only [Int.reduceToNat] at ho102; rw [← Ny235.out] at ho102))
                  have HO237 := Am (Kd.R_lower (Kd.R_new' ho102 (Kd.R_lt (by (with_reducible repeat (first|apply rA|apply rN|apply rD)); exact HO234.out))) (below_size (by repeat (first | (with_reducible first | exact HB.out | apply bl | apply pN | apply b1 | refine bs ?_ GE214.out | refine bs ?_ GE215.out | refine bs ?_ GE228.out | refine bs ?_ GE248.out) | exact HB.out | exact HBo.out))))
                  replace HO_229000 := Am (Kd.R_below (by (with_reducible repeat (first|apply rA|apply rN|apply rD)); exact HO_229000.out) hb)
                  replace HO_229001 := Am (Kd.S_below (by (with_reducible repeat (first|apply sA|apply sN|apply sD)); exact HO_229001.out) hb)
                  replace HO234 := Am (Kd.R_elder' (by (with_reducible repeat (first|apply rA|apply rN|apply rD)); exact HO234.out) (Kd.R_base ho102) hb)
                  replace BK214 := Am (blk_below (g := gb214) (o := .cells #[.slice A0_0 l0_0.length c0_0, .slice A0_1 l0_1.length c0_1] 25 (0, 0)) (by (with_reducible repeat (first|apply bn|apply bd|apply ba)); exact BK214.out) hb)
                  replace BK215 := Am (blk_below (g := gb215) (o := .cells #[.string a1_0, .slice A1_1 l1_1.length c1_1, .int .i64 a1_2] 28 (0, 0)) (by (with_reducible repeat (first|apply bn|apply bd|apply ba)); exact BK215.out) hb)
                  replace BK228 := Am (blk_below (g := gb228) (o := .cells #[.slice Ao59 t221.length co59, .slice Ao63 t224.length co63] 25 (0, 0)) (by (with_reducible repeat (first|apply bn|apply bd|apply ba)); exact BK228.out) hb)
                  replace BK248 := Am (blk_below (g := gb248) (o := .cells #[.slice none 0 0, .slice none 0 0] 25 (0, 0)) (by (with_reducible repeat (first|apply bn|apply bd|apply ba)); exact BK248.out) hb)
                  replace HB := Am (below_step (by repeat (first | (with_reducible first | exact HB.out | apply bl | apply pN | apply b1 | refine bs ?_ GE214.out | refine bs ?_ GE215.out | refine bs ?_ GE228.out | refine bs ?_ GE248.out) | exact HB.out | exact HBo.out)) hb)
                  clear hb ho102
                  refine hK.out _ _ ⟨(bc BK228.out 0).trans rfl, (bc BK228.out 1).trans rfl, (bc BK215.out 0).trans rfl, (bc BK215.out 1).trans rfl, (bc BK215.out 2).trans rfl⟩ (fun hHeld => ?_)
                  clear hK K
                  refine norm_ (a' := ?_) ?_ ?_
                  rotate_left
                  ·
                   show Act.put _ (some 79) _ = _
                   simp only [Act.put, sI, sZ, sS, i64_w, i32_w]
                   rfl
                  exact norm_ (by first | (simp only [putAll, Act.put, sI, sZ, sS]; done) | (simp only [putAll, Act.put, sI, sZ, sS]; rfl)) (hJ1_4_6_12 (v230, v233, v236, gb248) _ ⟨hHeld, (by (with_reducible repeat (first|apply rA|apply rN|apply rD)); exact Kd.R_mono HO234.out (fun _ hk => hk.2)), (by (with_reducible repeat (first|apply rA|apply rN|apply rD)); exact Kd.R_mono HO237.out (fun _ hk => hk.2)), (by (with_reducible repeat (first|apply rA|apply rN|apply rD)); exact HO_229000.out), (by (with_reducible repeat (first|apply sA|apply sN|apply sD)); exact HO_229001.out), (by (with_reducible repeat (first|apply bn|apply bd|apply ba)); exact BK214.out), (by (with_reducible repeat (first|apply bn|apply bd|apply ba)); exact BK215.out), (by (with_reducible repeat (first|apply bn|apply bd|apply ba)); exact BK228.out), (by (with_reducible repeat (first|apply bn|apply bd|apply ba)); exact BK248.out), GW248.out, GE248.out, NB214_248.out, NB248_214.out, NB215_248.out, NB248_215.out, NB228_248.out, NB248_228.out, (by repeat (first | (with_reducible first | exact HB.out | apply bl | apply pN | apply b1 | refine bs ?_ GE214.out | refine bs ?_ GE215.out | refine bs ?_ GE228.out | refine bs ?_ GE248.out) | exact HB.out | exact HBo.out))⟩)
                ·
                 skip
                 rintro ⟨v230, v233, v236⟩ w101 ⟨hS_, h0_, h1_, h2_, h3_, h4_, h5_, h6_, h7_⟩
                 have n0_ : Aside0 (Kd.R k45 45 w101 w.heap.size (fun k_ => some k_ ≠ (v236 : Value).ownBlock) v233 y232) := ⟨h0_⟩
                 have n1_ : Aside0 (Kd.R k45 45 w101 w.heap.size (fun k_ => some k_ ≠ (v233 : Value).ownBlock) v236 y235) := ⟨h1_⟩
                 have n2_ : Aside0 (Kd.R Kd.string 9 w101 w.heap.size (fun _ => True) (.slice Ao59 t221.length co59) t221) := ⟨h2_⟩
                 have n3_ : Aside0 (Kd.S (Kd.slice 50 k50) 46 w101 w.heap.size (fun _ => True) (.slice Ao63 t224.length co63) t224) := ⟨h3_⟩
                 have n4_ : Aside0 (w101.heap[gb214]? = some (.cells #[.slice A0_0 l0_0.length c0_0, .slice A0_1 l0_1.length c0_1] 25 (0, 0))) := ⟨h4_⟩
                 have n5_ : Aside0 (w101.heap[gb215]? = some (.cells #[.string a1_0, .slice A1_1 l1_1.length c1_1, .int .i64 a1_2] 28 (0, 0))) := ⟨h5_⟩
                 have n6_ : Aside0 (w101.heap[gb228]? = some (.cells #[.slice Ao59 t221.length co59, .slice Ao63 t224.length co63] 25 (0, 0))) := ⟨h6_⟩
                 have n7_ : Aside0 (Below w.heap.size w w101) := ⟨h7_⟩
                 clear HO_229000
                 clear HO_229001
                 clear BK214
                 clear BK215
                 clear BK228
                 clear HB
                 clear h0_ h1_ h2_ h3_ h4_ h5_ h6_ h7_
                 have HO234 := n0_
                 have HO237 := n1_
                 have HO_229000 := n2_
                 have HO_229001 := n3_
                 have BK214 := n4_
                 have BK215 := n5_
                 have BK228 := n6_
                 have HB := n7_
                 clear n0_ n1_ n2_ n3_ n4_ n5_ n6_ n7_
                 have hHeld : w101.cell? ⟨gb228, 0, none⟩ = some (.slice Ao59 t221.length co59) ∧ w101.cell? ⟨gb228, 1, none⟩ = some (.slice Ao63 t224.length co63) ∧ w101.cell? ⟨gb215, 0, none⟩ = some (.string a1_0) ∧ w101.cell? ⟨gb215, 1, none⟩ = some (.slice A1_1 l1_1.length c1_1) ∧ w101.cell? ⟨gb215, 2, none⟩ = some (.int .i64 a1_2) := hS_
                 obtain ⟨Ao103, co103, eo103⟩ := Kd.R_slice HO237.out
                 (first | subst eo103 | (injection eo103 with f1_ f2_ f3_; have f4_ := f1_.symm; have f5_ := f3_.symm; clear f1_ f2_ f3_; subst f4_; subst f5_))
                 refine norm_ (a' := ?_) ?_ ?_
                 rotate_left
                 ·
                  simp only [putAll, Act.put, sI, sZ, sS]
                  rfl
                 refine two_ (i := 7) (j := 12) (Ni := some 80) (Nj := some 10) q10_27 q10_28 rfl rfl rfl rfl (two_of HT_.out (by kernel_rfl)) (by decide) (by decide) (fun K hK => ?_) (fun K hK => ?_)
                 ·
                  skip
                  refine Kd.R_append_rows_step k45 (w0 := w) w.heap.size (by rfl) (.tmp 77) (.tmp 79) 26 45 (.agg #[(.string ⟨#[]⟩), (.int .i64 0)]) 24 rfl Try.underlying26 info45 rfl (by decide) (by omega) v233 y232 y235 _ _ _ (fun k_ => some k_ ≠ (.slice Ao103 y235.length co103 : Value).ownBlock) (fun _ => False) rfl rfl ?aO ?aR (fun _ _ h => h) (fun _ h => h.elim) ?aF ?aB ?aS ?aL ?_
                  (case aR => repeat (first | exact (Kd.R_reads' HO237.out).2.2 | (with_reducible refine Kd.C_alloc ?_ _) | (with_reducible refine Kd.C_drewN ?_ _) | (with_reducible refine Kd.C_drew ?_)))
                  (case aB => exact (by repeat (first | (with_reducible first | exact HB.out | apply bl | apply pN | apply b1 | refine bs ?_ GE214.out | refine bs ?_ GE215.out | refine bs ?_ GE228.out) | exact HB.out | exact HBo.out)))
                  (case aF => exact (fun k_ hk => Kd.fresh' (Kd.R_lt (by (with_reducible repeat (first|apply rA|apply rN|apply rD)); exact HO237.out)) k_ hk))
                  (case aO => exact (by (with_reducible repeat (first|apply rA|apply rN|apply rD)); exact HO234.out))
                  (case aS => exact (below_size (by repeat (first | (with_reducible first | exact HB.out | apply bl | apply pN | apply b1 | refine bs ?_ GE214.out | refine bs ?_ GE215.out | refine bs ?_ GE228.out) | exact HB.out | exact HBo.out))))
                  (case aL => have := LMc89.out; omega)
                  intro v239 w102 ho hb hg hat
                  rw [← Ny238.out] at ho
                  have n0_ := Am (Kd.R_over' (by (with_reducible repeat (first|apply rA|apply rN|apply rD)); exact HO_229000.out) (Kd.R_typed (by (with_reducible repeat (first|apply rA|apply rN|apply rD)); exact HO234.out)) (by decide) hg)
                  have n1_ := Am (Kd.S_over' (by (with_reducible repeat (first|apply sA|apply sN|apply sD)); exact HO_229001.out) (Kd.R_typed (by (with_reducible repeat (first|apply rA|apply rN|apply rD)); exact HO234.out)) (by decide) hg)
                  have n2_ := Am (blk_grown (g := gb214) (o := .cells #[.slice A0_0 l0_0.length c0_0, .slice A0_1 l0_1.length c0_1] 25 (0, 0)) (by (with_reducible repeat (first|apply bn|apply bd|apply ba)); exact BK214.out) hg (Kd.R_ne HO234.out BK214.out (by decide)))
                  have n3_ := Am (blk_grown (g := gb215) (o := .cells #[.string a1_0, .slice A1_1 l1_1.length c1_1, .int .i64 a1_2] 28 (0, 0)) (by (with_reducible repeat (first|apply bn|apply bd|apply ba)); exact BK215.out) hg (Kd.R_ne HO234.out BK215.out (by decide)))
                  have n4_ := Am (blk_grown (g := gb228) (o := .cells #[.slice Ao59 t221.length co59, .slice Ao63 t224.length co63] 25 (0, 0)) (by (with_reducible repeat (first|apply bn|apply bd|apply ba)); exact BK228.out) hg (Kd.R_ne HO234.out BK228.out (by decide)))
                  have n5_ := Am (Kd.R_after (ok := (fun _ => True)) (by (with_reducible repeat (first|apply rA|apply rN|apply rD)); exact Kd.R_mono HO237.out (fun _ hk => ⟨trivial, hk⟩)) hg hat)
                  have n6_ := Am (hb)
                  have n7_ := Am (ho)
                  clear HO_229000
                  clear HO_229001
                  clear BK214
                  clear BK215
                  clear BK228
                  clear HO237
                  clear HB
                  clear HO234
                  have HO_229000 := n0_
                  have HO_229001 := n1_
                  have BK214 := n2_
                  have BK215 := n3_
                  have BK228 := n4_
                  have HO237 := n5_
                  have HB := n6_
                  have HO240 := n7_
                  clear n0_ n1_ n2_ n3_ n4_ n5_ n6_ n7_
                  clear ho hb hg hat
                  refine hK.out _ _ ⟨(bc BK228.out 0).trans rfl, (bc BK228.out 1).trans rfl, (bc BK215.out 0).trans rfl, (bc BK215.out 1).trans rfl, (bc BK215.out 2).trans rfl⟩ (fun hHeld => ?_)
                  clear hK K
                  refine norm_ (a' := ?_) ?_ ?_
                  rotate_left
                  ·
                   show Act.put _ (some 80) _ = _
                   simp only [Act.put, sI, sZ, sS, i64_w, i32_w]
                   rfl
                  exact norm_ (by first | (simp only [putAll, Act.put, sI, sZ, sS]; done) | (simp only [putAll, Act.put, sI, sZ, sS]; rfl)) (hJ1_4_6_7 (v230, v233, .slice Ao103 y235.length co103, v239) _ ⟨hHeld, (by (with_reducible repeat (first|apply rA|apply rN|apply rD)); exact Kd.R_mono HO237.out (fun _ hk => hk.2)), (by (with_reducible repeat (first|apply rA|apply rN|apply rD)); exact HO240.out), (by (with_reducible repeat (first|apply rA|apply rN|apply rD)); exact HO_229000.out), (by (with_reducible repeat (first|apply sA|apply sN|apply sD)); exact HO_229001.out), (by (with_reducible repeat (first|apply bn|apply bd|apply ba)); exact BK214.out), (by (with_reducible repeat (first|apply bn|apply bd|apply ba)); exact BK215.out), (by (with_reducible repeat (first|apply bn|apply bd|apply ba)); exact BK228.out), (by repeat (first | (with_reducible first | exact HB.out | apply bl | apply pN | apply b1 | refine bs ?_ GE214.out | refine bs ?_ GE215.out | refine bs ?_ GE228.out) | exact HB.out | exact HBo.out))⟩)
                 ·
                  skip
                  refine box_step ?hg (N := 10) ?hd (cs := #[.slice none 0 0, .slice none 0 0]) (t := 25) ?hr ?_; (case hd => rfl); (case hg => rfl); (case hr => first | (go_simp; done) | (go_simp; rfl))
                  intro gb248 hg w102 hbox hb
                  have BK248 := Am (hbox)
                  have GW248 := Am ((by rw [hg]; exact (below_size (by repeat (first | (with_reducible first | exact HB.out | apply bl | apply pN | apply b1 | refine bs ?_ GE214.out | refine bs ?_ GE215.out | refine bs ?_ GE228.out) | exact HB.out | exact HBo.out))) : w.heap.size ≤ gb248))
                  have GE248 := GW248
                  have NB214_248 := Am ((by rw [hg]; exact Nat.ne_of_lt (blk_lt (g := gb214) (o := .cells #[.slice A0_0 l0_0.length c0_0, .slice A0_1 l0_1.length c0_1] 25 (0, 0)) (by (with_reducible repeat (first|apply bn|apply bd|apply ba)); exact BK214.out)) : gb214 ≠ gb248))
                  have NB248_214 := Am NB214_248.out.symm
                  have NB215_248 := Am ((by rw [hg]; exact Nat.ne_of_lt (blk_lt (g := gb215) (o := .cells #[.string a1_0, .slice A1_1 l1_1.length c1_1, .int .i64 a1_2] 28 (0, 0)) (by (with_reducible repeat (first|apply bn|apply bd|apply ba)); exact BK215.out)) : gb215 ≠ gb248))
                  have NB248_215 := Am NB215_248.out.symm
                  have NB228_248 := Am ((by rw [hg]; exact Nat.ne_of_lt (blk_lt (g := gb228) (o := .cells #[.slice Ao59 t221.length co59, .slice Ao63 t224.length co63] 25 (0, 0)) (by (with_reducible repeat (first|apply bn|apply bd|apply ba)); exact BK228.out)) : gb228 ≠ gb248))
                  have NB248_228 := Am NB228_248.out.symm
                  replace HO_229000 := Am (Kd.R_below (by (with_reducible repeat (first|apply rA|apply rN|apply rD)); exact HO_229000.out) hb)
                  replace HO_229001 := Am (Kd.S_below (by (with_reducible repeat (first|apply sA|apply sN|apply sD)); exact HO_229001.out) hb)
                  replace HO234 := Am (Kd.R_below (by (with_reducible repeat (first|apply rA|apply rN|apply rD)); exact HO234.out) hb)
                  replace HO237 := Am (Kd.R_below (by (with_reducible repeat (first|apply rA|apply rN|apply rD)); exact HO237.out) hb)
                  replace BK214 := Am (blk_below (g := gb214) (o := .cells #[.slice A0_0 l0_0.length c0_0, .slice A0_1 l0_1.length c0_1] 25 (0, 0)) (by (with_reducible repeat (first|apply bn|apply bd|apply ba)); exact BK214.out) hb)
                  replace BK215 := Am (blk_below (g := gb215) (o := .cells #[.string a1_0, .slice A1_1 l1_1.length c1_1, .int .i64 a1_2] 28 (0, 0)) (by (with_reducible repeat (first|apply bn|apply bd|apply ba)); exact BK215.out) hb)
                  replace BK228 := Am (blk_below (g := gb228) (o := .cells #[.slice Ao59 t221.length co59, .slice Ao63 t224.length co63] 25 (0, 0)) (by (with_reducible repeat (first|apply bn|apply bd|apply ba)); exact BK228.out) hb)
                  replace HB := Am (below_step (by repeat (first | (with_reducible first | exact HB.out | apply bl | apply pN | apply b1 | refine bs ?_ GE214.out | refine bs ?_ GE215.out | refine bs ?_ GE228.out) | exact HB.out | exact HBo.out)) hb)
                  clear hb hbox hg
                  refine hK.out _ _ ⟨(bc BK228.out 0).trans rfl, (bc BK228.out 1).trans rfl, (bc BK215.out 0).trans rfl, (bc BK215.out 1).trans rfl, (bc BK215.out 2).trans rfl⟩ (fun hHeld => ?_)
                  clear hK K
                  refine norm_ (a' := ?_) ?_ ?_
                  rotate_left
                  ·
                   show Act.put _ (some 10) _ = _
                   simp only [Act.put, sI, sZ, sS, i64_w, i32_w]
                   rfl
                  exact norm_ (by first | (simp only [putAll, Act.put, sI, sZ, sS]; done) | (simp only [putAll, Act.put, sI, sZ, sS]; rfl)) (hJ1_4_6_12 (v230, v233, (.slice Ao103 y235.length co103), gb248) _ ⟨hHeld, (by (with_reducible repeat (first|apply rA|apply rN|apply rD)); exact HO234.out), (by (with_reducible repeat (first|apply rA|apply rN|apply rD)); exact HO237.out), (by (with_reducible repeat (first|apply rA|apply rN|apply rD)); exact HO_229000.out), (by (with_reducible repeat (first|apply sA|apply sN|apply sD)); exact HO_229001.out), (by (with_reducible repeat (first|apply bn|apply bd|apply ba)); exact BK214.out), (by (with_reducible repeat (first|apply bn|apply bd|apply ba)); exact BK215.out), (by (with_reducible repeat (first|apply bn|apply bd|apply ba)); exact BK228.out), (by (with_reducible repeat (first|apply bn|apply bd|apply ba)); exact BK248.out), GW248.out, GE248.out, NB214_248.out, NB248_214.out, NB215_248.out, NB248_215.out, NB228_248.out, NB248_228.out, (by repeat (first | (with_reducible first | exact HB.out | apply bl | apply pN | apply b1 | refine bs ?_ GE214.out | refine bs ?_ GE215.out | refine bs ?_ GE228.out | refine bs ?_ GE248.out) | exact HB.out | exact HBo.out))⟩)
               ·
                skip
                rintro ⟨v230, v233, v236, gb248⟩ w102 ⟨hS_, h0_, h1_, h2_, h3_, h4_, h5_, h6_, h7_, h8_, h9_, h10_, h11_, h12_, h13_, h14_, h15_, h16_⟩
                have n0_ : Aside0 (Kd.R k45 45 w102 w.heap.size (fun k_ => some k_ ≠ (v236 : Value).ownBlock) v233 y232) := ⟨h0_⟩
                have n1_ : Aside0 (Kd.R k45 45 w102 w.heap.size (fun k_ => some k_ ≠ (v233 : Value).ownBlock) v236 y235) := ⟨h1_⟩
                have n2_ : Aside0 (Kd.R Kd.string 9 w102 w.heap.size (fun _ => True) (.slice Ao59 t221.length co59) t221) := ⟨h2_⟩
                have n3_ : Aside0 (Kd.S (Kd.slice 50 k50) 46 w102 w.heap.size (fun _ => True) (.slice Ao63 t224.length co63) t224) := ⟨h3_⟩
                have n4_ : Aside0 (w102.heap[gb214]? = some (.cells #[.slice A0_0 l0_0.length c0_0, .slice A0_1 l0_1.length c0_1] 25 (0, 0))) := ⟨h4_⟩
                have n5_ : Aside0 (w102.heap[gb215]? = some (.cells #[.string a1_0, .slice A1_1 l1_1.length c1_1, .int .i64 a1_2] 28 (0, 0))) := ⟨h5_⟩
                have n6_ : Aside0 (w102.heap[gb228]? = some (.cells #[.slice Ao59 t221.length co59, .slice Ao63 t224.length co63] 25 (0, 0))) := ⟨h6_⟩
                have n7_ : Aside0 (w102.heap[gb248]? = some (.cells #[.slice none 0 0, .slice none 0 0] 25 (0, 0))) := ⟨h7_⟩
                have n8_ : Aside0 (w.heap.size ≤ gb248) := ⟨h8_⟩
                have n9_ : Aside0 (w.heap.size ≤ gb248) := ⟨h9_⟩
                have n10_ : Aside0 (gb214 ≠ gb248) := ⟨h10_⟩
                have n11_ : Aside0 (gb248 ≠ gb214) := ⟨h11_⟩
                have n12_ : Aside0 (gb215 ≠ gb248) := ⟨h12_⟩
                have n13_ : Aside0 (gb248 ≠ gb215) := ⟨h13_⟩
                have n14_ : Aside0 (gb228 ≠ gb248) := ⟨h14_⟩
                have n15_ : Aside0 (gb248 ≠ gb228) := ⟨h15_⟩
                have n16_ : Aside0 (Below w.heap.size w w102) := ⟨h16_⟩
                clear HO_229000
                clear HO_229001
                clear BK214
                clear BK215
                clear BK228
                clear HB
                clear h0_ h1_ h2_ h3_ h4_ h5_ h6_ h7_ h8_ h9_ h10_ h11_ h12_ h13_ h14_ h15_ h16_
                have HO234 := n0_
                have HO237 := n1_
                have HO_229000 := n2_
                have HO_229001 := n3_
                have BK214 := n4_
                have BK215 := n5_
                have BK228 := n6_
                have BK248 := n7_
                have GW248 := n8_
                have GE248 := n9_
                have NB214_248 := n10_
                have NB248_214 := n11_
                have NB215_248 := n12_
                have NB248_215 := n13_
                have NB228_248 := n14_
                have NB248_228 := n15_
                have HB := n16_
                clear n0_ n1_ n2_ n3_ n4_ n5_ n6_ n7_ n8_ n9_ n10_ n11_ n12_ n13_ n14_ n15_ n16_
                have hHeld : w102.cell? ⟨gb228, 0, none⟩ = some (.slice Ao59 t221.length co59) ∧ w102.cell? ⟨gb228, 1, none⟩ = some (.slice Ao63 t224.length co63) ∧ w102.cell? ⟨gb215, 0, none⟩ = some (.string a1_0) ∧ w102.cell? ⟨gb215, 1, none⟩ = some (.slice A1_1 l1_1.length c1_1) ∧ w102.cell? ⟨gb215, 2, none⟩ = some (.int .i64 a1_2) := hS_
                obtain ⟨Ao104, co104, eo104⟩ := Kd.R_slice HO237.out
                (first | subst eo104 | (injection eo104 with f1_ f2_ f3_; have f4_ := f1_.symm; have f5_ := f3_.symm; clear f1_ f2_ f3_; subst f4_; subst f5_))
                refine norm_ (a' := ?_) ?_ ?_
                rotate_left
                ·
                 simp only [putAll, Act.put, sI, sZ, sS]
                 rfl
                refine one_ (i := 7) (N := some 80) q10_26 rfl rfl (one_of HT_.out (by kernel_rfl)) (by decide) (fun K hK => ?_)
                refine Kd.R_append_rows_step k45 (w0 := w) w.heap.size (by rfl) (.tmp 77) (.tmp 79) 26 45 (.agg #[(.string ⟨#[]⟩), (.int .i64 0)]) 24 rfl Try.underlying26 info45 rfl (by decide) (by omega) v233 y232 y235 _ _ _ (fun k_ => some k_ ≠ (.slice Ao104 y235.length co104 : Value).ownBlock) (fun _ => False) rfl rfl ?aO ?aR (fun _ _ h => h) (fun _ h => h.elim) ?aF ?aB ?aS ?aL ?_
                (case aR => repeat (first | exact (Kd.R_reads' HO237.out).2.2 | (with_reducible refine Kd.C_alloc ?_ _) | (with_reducible refine Kd.C_drewN ?_ _) | (with_reducible refine Kd.C_drew ?_)))
                (case aB => exact (by repeat (first | (with_reducible first | exact HB.out | apply bl | apply pN | apply b1 | refine bs ?_ GE214.out | refine bs ?_ GE215.out | refine bs ?_ GE228.out | refine bs ?_ GE248.out) | exact HB.out | exact HBo.out)))
                (case aF => exact (fun k_ hk => Kd.fresh' (Kd.R_lt (by (with_reducible repeat (first|apply rA|apply rN|apply rD)); exact HO237.out)) k_ hk))
                (case aO => exact (by (with_reducible repeat (first|apply rA|apply rN|apply rD)); exact HO234.out))
                (case aS => exact (below_size (by repeat (first | (with_reducible first | exact HB.out | apply bl | apply pN | apply b1 | refine bs ?_ GE214.out | refine bs ?_ GE215.out | refine bs ?_ GE228.out | refine bs ?_ GE248.out) | exact HB.out | exact HBo.out))))
                (case aL => have := LMc89.out; omega)
                intro v239 w103 ho hb hg hat
                rw [← Ny238.out] at ho
                have n0_ := Am (Kd.R_over' (by (with_reducible repeat (first|apply rA|apply rN|apply rD)); exact HO_229000.out) (Kd.R_typed (by (with_reducible repeat (first|apply rA|apply rN|apply rD)); exact HO234.out)) (by decide) hg)
                have n1_ := Am (Kd.S_over' (by (with_reducible repeat (first|apply sA|apply sN|apply sD)); exact HO_229001.out) (Kd.R_typed (by (with_reducible repeat (first|apply rA|apply rN|apply rD)); exact HO234.out)) (by decide) hg)
                have n2_ := Am (blk_grown (g := gb214) (o := .cells #[.slice A0_0 l0_0.length c0_0, .slice A0_1 l0_1.length c0_1] 25 (0, 0)) (by (with_reducible repeat (first|apply bn|apply bd|apply ba)); exact BK214.out) hg (Kd.R_ne HO234.out BK214.out (by decide)))
                have n3_ := Am (blk_grown (g := gb215) (o := .cells #[.string a1_0, .slice A1_1 l1_1.length c1_1, .int .i64 a1_2] 28 (0, 0)) (by (with_reducible repeat (first|apply bn|apply bd|apply ba)); exact BK215.out) hg (Kd.R_ne HO234.out BK215.out (by decide)))
                have n4_ := Am (blk_grown (g := gb228) (o := .cells #[.slice Ao59 t221.length co59, .slice Ao63 t224.length co63] 25 (0, 0)) (by (with_reducible repeat (first|apply bn|apply bd|apply ba)); exact BK228.out) hg (Kd.R_ne HO234.out BK228.out (by decide)))
                have n5_ := Am (Kd.R_after (ok := (fun _ => True)) (by (with_reducible repeat (first|apply rA|apply rN|apply rD)); exact Kd.R_mono HO237.out (fun _ hk => ⟨trivial, hk⟩)) hg hat)
                have n6_ := Am (blk_grown (g := gb248) (o := .cells #[.slice none 0 0, .slice none 0 0] 25 (0, 0)) (by (with_reducible repeat (first|apply bn|apply bd|apply ba)); exact BK248.out) hg (Kd.R_ne HO234.out BK248.out (by decide)))
                have n7_ := Am (hb)
                have n8_ := Am (ho)
                clear HO_229000
                clear HO_229001
                clear BK214
                clear BK215
                clear BK228
                clear HO237
                clear BK248
                clear HB
                clear HO234
                have HO_229000 := n0_
                have HO_229001 := n1_
                have BK214 := n2_
                have BK215 := n3_
                have BK228 := n4_
                have HO237 := n5_
                have BK248 := n6_
                have HB := n7_
                have HO240 := n8_
                clear n0_ n1_ n2_ n3_ n4_ n5_ n6_ n7_ n8_
                clear ho hb hg hat
                refine hK.out _ _ ⟨(bc BK228.out 0).trans rfl, (bc BK228.out 1).trans rfl, (bc BK215.out 0).trans rfl, (bc BK215.out 1).trans rfl, (bc BK215.out 2).trans rfl⟩ (fun hHeld => ?_)
                clear hK K
                refine norm_ (a' := ?_) ?_ ?_
                rotate_left
                ·
                 show Act.put _ (some 80) _ = _
                 simp only [Act.put, sI, sZ, sS, i64_w, i32_w]
                 rfl
                exact norm_ (by first | (simp only [putAll, Act.put, sI, sZ, sS]; done) | (simp only [putAll, Act.put, sI, sZ, sS]; rfl)) (hJ1_4_6_7_12 (v230, v233, .slice Ao104 y235.length co104, v239, gb248) _ ⟨hHeld, (by (with_reducible repeat (first|apply rA|apply rN|apply rD)); exact Kd.R_mono HO237.out (fun _ hk => hk.2)), (by (with_reducible repeat (first|apply rA|apply rN|apply rD)); exact HO240.out), (by (with_reducible repeat (first|apply rA|apply rN|apply rD)); exact HO_229000.out), (by (with_reducible repeat (first|apply sA|apply sN|apply sD)); exact HO_229001.out), (by (with_reducible repeat (first|apply bn|apply bd|apply ba)); exact BK214.out), (by (with_reducible repeat (first|apply bn|apply bd|apply ba)); exact BK215.out), (by (with_reducible repeat (first|apply bn|apply bd|apply ba)); exact BK228.out), (by (with_reducible repeat (first|apply bn|apply bd|apply ba)); exact BK248.out), GW248.out, GE248.out, NB214_248.out, NB248_214.out, NB215_248.out, NB248_215.out, NB228_248.out, NB248_228.out, (by repeat (first | (with_reducible first | exact HB.out | apply bl | apply pN | apply b1 | refine bs ?_ GE214.out | refine bs ?_ GE215.out | refine bs ?_ GE228.out | refine bs ?_ GE248.out) | exact HB.out | exact HBo.out))⟩)
              ·
               skip
               rintro ⟨v230, v233, v236, v239⟩ w103 ⟨hS_, h0_, h1_, h2_, h3_, h4_, h5_, h6_, h7_⟩
               have n0_ : Aside0 (Kd.R k45 45 w103 w.heap.size (fun k_ => some k_ ≠ (v239 : Value).ownBlock) v236 y235) := ⟨h0_⟩
               have n1_ : Aside0 (Kd.R k45 45 w103 w.heap.size (fun k_ => some k_ ≠ (v236 : Value).ownBlock) v239 y238) := ⟨h1_⟩
               have n2_ : Aside0 (Kd.R Kd.string 9 w103 w.heap.size (fun _ => True) (.slice Ao59 t221.length co59) t221) := ⟨h2_⟩
               have n3_ : Aside0 (Kd.S (Kd.slice 50 k50) 46 w103 w.heap.size (fun _ => True) (.slice Ao63 t224.length co63) t224) := ⟨h3_⟩
               have n4_ : Aside0 (w103.heap[gb214]? = some (.cells #[.slice A0_0 l0_0.length c0_0, .slice A0_1 l0_1.length c0_1] 25 (0, 0))) := ⟨h4_⟩
               have n5_ : Aside0 (w103.heap[gb215]? = some (.cells #[.string a1_0, .slice A1_1 l1_1.length c1_1, .int .i64 a1_2] 28 (0, 0))) := ⟨h5_⟩
               have n6_ : Aside0 (w103.heap[gb228]? = some (.cells #[.slice Ao59 t221.length co59, .slice Ao63 t224.length co63] 25 (0, 0))) := ⟨h6_⟩
               have n7_ : Aside0 (Below w.heap.size w w103) := ⟨h7_⟩
               clear HO_229000
               clear HO_229001
               clear BK214
               clear BK215
               clear BK228
               clear HB
               clear h0_ h1_ h2_ h3_ h4_ h5_ h6_ h7_
               have HO237 := n0_
               have HO240 := n1_
               have HO_229000 := n2_
               have HO_229001 := n3_
               have BK214 := n4_
               have BK215 := n5_
               have BK228 := n6_
               have HB := n7_
               clear n0_ n1_ n2_ n3_ n4_ n5_ n6_ n7_
               have hHeld : w103.cell? ⟨gb228, 0, none⟩ = some (.slice Ao59 t221.length co59) ∧ w103.cell? ⟨gb228, 1, none⟩ = some (.slice Ao63 t224.length co63) ∧ w103.cell? ⟨gb215, 0, none⟩ = some (.string a1_0) ∧ w103.cell? ⟨gb215, 1, none⟩ = some (.slice A1_1 l1_1.length c1_1) ∧ w103.cell? ⟨gb215, 2, none⟩ = some (.int .i64 a1_2) := hS_
               obtain ⟨Ao104, co104, eo104⟩ := Kd.R_slice HO240.out
               (first | subst eo104 | (injection eo104 with f1_ f2_ f3_; have f4_ := f1_.symm; have f5_ := f3_.symm; clear f1_ f2_ f3_; subst f4_; subst f5_))
               refine norm_ (a' := ?_) ?_ ?_
               rotate_left
               ·
                simp only [putAll, Act.put, sI, sZ, sS]
                rfl
               refine two_ (i := 8) (j := 12) (Ni := some 81) (Nj := some 10) q10_39 q10_26 rfl rfl rfl rfl (two_of HT_.out (by kernel_rfl)) (by decide) (by decide) (fun K hK => ?_) (fun K hK => ?_)
               ·
                skip
                refine goes_ Try.func13 (by kernel_rfl) rfl #[.agg #[.slice Ao59 t221.length co59, .slice Ao63 t224.length co63], .slice Ao104 y238.length co104] (by rfl) rfl rfl (by (try simp only [List.map_toArray, List.map_cons, List.map_nil]); first | done | rfl | (simp only [List.length_drop, List.length_take]; rfl)) ?_
                with_reducible refine (intern_Stack.calls k2 _ _ t221 _ _ t224 _ _ y238 t241 t244 t247 _ ?side1 ?side2 ?side3 ?side4 ?side5 ?side6 A90.out).mono ?_
                (case side1 => repeat (first | exact (Kd.R_reads' HO_229000.out).2.2 | (with_reducible refine Kd.C_alloc ?_ _) | (with_reducible refine Kd.C_drewN ?_ _) | (with_reducible refine Kd.C_drew ?_)))
                (case side2 => exact (Kd.R_reads' HO_229000.out).2.1)
                (case side3 => repeat (first | exact (Kd.S_reads' HO_229001.out).2.2 | (with_reducible refine Kd.C_alloc ?_ _) | (with_reducible refine Kd.C_drewN ?_ _) | (with_reducible refine Kd.C_drew ?_)))
                (case side4 => exact (Kd.S_reads' HO_229001.out).2.1)
                (case side5 => repeat (first | exact (Kd.R_reads' HO240.out).2.2 | (with_reducible refine Kd.C_alloc ?_ _) | (with_reducible refine Kd.C_drewN ?_ _) | (with_reducible refine Kd.C_drew ?_)))
                (case side6 => exact (Kd.R_reads' HO240.out).2.1)
                rintro e w105 ⟨v242, v245, rfl, ho0, ho1, hb⟩
                refine ⟨_, rfl, ?_⟩
                have HO243 := Am (Kd.R_lower (Kd.R_new' ho0 (Kd.R_lt (by (with_reducible repeat (first|apply rA|apply rN|apply rD)); exact HO_229000.out))) (below_size (by repeat (first | (with_reducible first | exact HB.out | apply bl | apply pN | apply b1 | refine bs ?_ GE214.out | refine bs ?_ GE215.out | refine bs ?_ GE228.out) | exact HB.out | exact HBo.out))))
                have HO246 := Am (Kd.S_lower (Kd.S_new' ho1 (Kd.S_lt (by (with_reducible repeat (first|apply sA|apply sN|apply sD)); exact HO_229001.out))) (below_size (by repeat (first | (with_reducible first | exact HB.out | apply bl | apply pN | apply b1 | refine bs ?_ GE214.out | refine bs ?_ GE215.out | refine bs ?_ GE228.out) | exact HB.out | exact HBo.out))))
                replace HO_229000 := Am (Kd.R_elder' (by (with_reducible repeat (first|apply rA|apply rN|apply rD)); exact HO_229000.out) (Kd.R_base ho0) hb)
                replace HO_229001 := Am (Kd.S_elder' (by (with_reducible repeat (first|apply sA|apply sN|apply sD)); exact HO_229001.out) (Kd.S_base ho1) hb)
                replace HO237 := Am (Kd.R_below (by (with_reducible repeat (first|apply rA|apply rN|apply rD)); exact HO237.out) hb)
                replace HO240 := Am (Kd.R_below (by (with_reducible repeat (first|apply rA|apply rN|apply rD)); exact HO240.out) hb)
                replace BK214 := Am (blk_below (g := gb214) (o := .cells #[.slice A0_0 l0_0.length c0_0, .slice A0_1 l0_1.length c0_1] 25 (0, 0)) (by (with_reducible repeat (first|apply bn|apply bd|apply ba)); exact BK214.out) hb)
                replace BK215 := Am (blk_below (g := gb215) (o := .cells #[.string a1_0, .slice A1_1 l1_1.length c1_1, .int .i64 a1_2] 28 (0, 0)) (by (with_reducible repeat (first|apply bn|apply bd|apply ba)); exact BK215.out) hb)
                replace BK228 := Am (blk_below (g := gb228) (o := .cells #[.slice Ao59 t221.length co59, .slice Ao63 t224.length co63] 25 (0, 0)) (by (with_reducible repeat (first|apply bn|apply bd|apply ba)); exact BK228.out) hb)
                replace HB := Am (below_step (by repeat (first | (with_reducible first | exact HB.out | apply bl | apply pN | apply b1 | refine bs ?_ GE214.out | refine bs ?_ GE215.out | refine bs ?_ GE228.out) | exact HB.out | exact HBo.out)) hb)
                (try clear hb)
                (try clear hb2)
                (try clear hk)
                (try clear hi)
                (try clear ho0)
                (try clear ho1)
                refine hK.out _ _ ⟨(bc BK228.out 0).trans rfl, (bc BK228.out 1).trans rfl, (bc BK215.out 0).trans rfl, (bc BK215.out 1).trans rfl, (bc BK215.out 2).trans rfl⟩ (fun hHeld => ?_)
                clear hK K
                refine norm_ (a' := ?_) ?_ ?_
                rotate_left
                ·
                 show Act.put _ (some 81) _ = _
                 simp only [Act.put, sI, sZ, sS, i64_w, i32_w]
                 rfl
                refine Own.pr_ 9 (some 72) q10_40 HT_ (h := ?_)
                refine Own.pr_ 10 (some 82) q10_41 HT_ (h := ?_)
                refine Own.pr_ 11 (some 83) q10_25 HT_ (h := ?_)
                exact norm_ (by first | (simp only [putAll, Act.put, sI, sZ, sS]; done) | (simp only [putAll, Act.put, sI, sZ, sS]; rfl)) (hJ1_4_6_7_8 (v230, v233, v236, .slice Ao104 y238.length co104, v242, v245) _ ⟨hHeld, (by (with_reducible repeat (first|apply rA|apply rN|apply rD)); exact HO237.out), (by (with_reducible repeat (first|apply rA|apply rN|apply rD)); exact HO240.out), (by (with_reducible repeat (first|apply rA|apply rN|apply rD)); exact Kd.R_mono HO243.out (fun _ hk => hk.2)), (by (with_reducible repeat (first|apply sA|apply sN|apply sD)); exact Kd.S_mono HO246.out (fun _ hk => hk.2)), (by (with_reducible repeat (first|apply rA|apply rN|apply rD)); exact Kd.R_mono HO_229000.out (fun _ hk => hk.2)), (by (with_reducible repeat (first|apply sA|apply sN|apply sD)); exact Kd.S_mono HO_229001.out (fun _ hk => hk.2)), (by (with_reducible repeat (first|apply bn|apply bd|apply ba)); exact BK214.out), (by (with_reducible repeat (first|apply bn|apply bd|apply ba)); exact BK215.out), (by (with_reducible repeat (first|apply bn|apply bd|apply ba)); exact BK228.out), (by repeat (first | (with_reducible first | exact HB.out | apply bl | apply pN | apply b1 | refine bs ?_ GE214.out | refine bs ?_ GE215.out | refine bs ?_ GE228.out) | exact HB.out | exact HBo.out))⟩)
               ·
                skip
                refine box_step ?hg (N := 10) ?hd (cs := #[.slice none 0 0, .slice none 0 0]) (t := 25) ?hr ?_; (case hd => rfl); (case hg => rfl); (case hr => first | (go_simp; done) | (go_simp; rfl))
                intro gb248 hg w104 hbox hb
                have BK248 := Am (hbox)
                have GW248 := Am ((by rw [hg]; exact (below_size (by repeat (first | (with_reducible first | exact HB.out | apply bl | apply pN | apply b1 | refine bs ?_ GE214.out | refine bs ?_ GE215.out | refine bs ?_ GE228.out) | exact HB.out | exact HBo.out))) : w.heap.size ≤ gb248))
                have GE248 := GW248
                have NB214_248 := Am ((by rw [hg]; exact Nat.ne_of_lt (blk_lt (g := gb214) (o := .cells #[.slice A0_0 l0_0.length c0_0, .slice A0_1 l0_1.length c0_1] 25 (0, 0)) (by (with_reducible repeat (first|apply bn|apply bd|apply ba)); exact BK214.out)) : gb214 ≠ gb248))
                have NB248_214 := Am NB214_248.out.symm
                have NB215_248 := Am ((by rw [hg]; exact Nat.ne_of_lt (blk_lt (g := gb215) (o := .cells #[.string a1_0, .slice A1_1 l1_1.length c1_1, .int .i64 a1_2] 28 (0, 0)) (by (with_reducible repeat (first|apply bn|apply bd|apply ba)); exact BK215.out)) : gb215 ≠ gb248))
                have NB248_215 := Am NB215_248.out.symm
                have NB228_248 := Am ((by rw [hg]; exact Nat.ne_of_lt (blk_lt (g := gb228) (o := .cells #[.slice Ao59 t221.length co59, .slice Ao63 t224.length co63] 25 (0, 0)) (by (with_reducible repeat (first|apply bn|apply bd|apply ba)); exact BK228.out)) : gb228 ≠ gb248))
                have NB248_228 := Am NB228_248.out.symm
                replace HO_229000 := Am (Kd.R_below (by (with_reducible repeat (first|apply rA|apply rN|apply rD)); exact HO_229000.out) hb)
                replace HO_229001 := Am (Kd.S_below (by (with_reducible repeat (first|apply sA|apply sN|apply sD)); exact HO_229001.out) hb)
                replace HO237 := Am (Kd.R_below (by (with_reducible repeat (first|apply rA|apply rN|apply rD)); exact HO237.out) hb)
                replace HO240 := Am (Kd.R_below (by (with_reducible repeat (first|apply rA|apply rN|apply rD)); exact HO240.out) hb)
                replace BK214 := Am (blk_below (g := gb214) (o := .cells #[.slice A0_0 l0_0.length c0_0, .slice A0_1 l0_1.length c0_1] 25 (0, 0)) (by (with_reducible repeat (first|apply bn|apply bd|apply ba)); exact BK214.out) hb)
                replace BK215 := Am (blk_below (g := gb215) (o := .cells #[.string a1_0, .slice A1_1 l1_1.length c1_1, .int .i64 a1_2] 28 (0, 0)) (by (with_reducible repeat (first|apply bn|apply bd|apply ba)); exact BK215.out) hb)
                replace BK228 := Am (blk_below (g := gb228) (o := .cells #[.slice Ao59 t221.length co59, .slice Ao63 t224.length co63] 25 (0, 0)) (by (with_reducible repeat (first|apply bn|apply bd|apply ba)); exact BK228.out) hb)
                replace HB := Am (below_step (by repeat (first | (with_reducible first | exact HB.out | apply bl | apply pN | apply b1 | refine bs ?_ GE214.out | refine bs ?_ GE215.out | refine bs ?_ GE228.out) | exact HB.out | exact HBo.out)) hb)
                clear hb hbox hg
                refine hK.out _ _ ⟨(bc BK228.out 0).trans rfl, (bc BK228.out 1).trans rfl, (bc BK215.out 0).trans rfl, (bc BK215.out 1).trans rfl, (bc BK215.out 2).trans rfl⟩ (fun hHeld => ?_)
                clear hK K
                refine norm_ (a' := ?_) ?_ ?_
                rotate_left
                ·
                 show Act.put _ (some 10) _ = _
                 simp only [Act.put, sI, sZ, sS, i64_w, i32_w]
                 rfl
                exact norm_ (by first | (simp only [putAll, Act.put, sI, sZ, sS]; done) | (simp only [putAll, Act.put, sI, sZ, sS]; rfl)) (hJ1_4_6_7_12 (v230, v233, v236, (.slice Ao104 y238.length co104), gb248) _ ⟨hHeld, (by (with_reducible repeat (first|apply rA|apply rN|apply rD)); exact HO237.out), (by (with_reducible repeat (first|apply rA|apply rN|apply rD)); exact HO240.out), (by (with_reducible repeat (first|apply rA|apply rN|apply rD)); exact HO_229000.out), (by (with_reducible repeat (first|apply sA|apply sN|apply sD)); exact HO_229001.out), (by (with_reducible repeat (first|apply bn|apply bd|apply ba)); exact BK214.out), (by (with_reducible repeat (first|apply bn|apply bd|apply ba)); exact BK215.out), (by (with_reducible repeat (first|apply bn|apply bd|apply ba)); exact BK228.out), (by (with_reducible repeat (first|apply bn|apply bd|apply ba)); exact BK248.out), GW248.out, GE248.out, NB214_248.out, NB248_214.out, NB215_248.out, NB248_215.out, NB228_248.out, NB248_228.out, (by repeat (first | (with_reducible first | exact HB.out | apply bl | apply pN | apply b1 | refine bs ?_ GE214.out | refine bs ?_ GE215.out | refine bs ?_ GE228.out | refine bs ?_ GE248.out) | exact HB.out | exact HBo.out))⟩)
             ·
              skip
              rintro ⟨v230, v233, v236, v239, gb248⟩ w104 ⟨hS_, h0_, h1_, h2_, h3_, h4_, h5_, h6_, h7_, h8_, h9_, h10_, h11_, h12_, h13_, h14_, h15_, h16_⟩
              have n0_ : Aside0 (Kd.R k45 45 w104 w.heap.size (fun k_ => some k_ ≠ (v239 : Value).ownBlock) v236 y235) := ⟨h0_⟩
              have n1_ : Aside0 (Kd.R k45 45 w104 w.heap.size (fun k_ => some k_ ≠ (v236 : Value).ownBlock) v239 y238) := ⟨h1_⟩
              have n2_ : Aside0 (Kd.R Kd.string 9 w104 w.heap.size (fun _ => True) (.slice Ao59 t221.length co59) t221) := ⟨h2_⟩
              have n3_ : Aside0 (Kd.S (Kd.slice 50 k50) 46 w104 w.heap.size (fun _ => True) (.slice Ao63 t224.length co63) t224) := ⟨h3_⟩
              have n4_ : Aside0 (w104.heap[gb214]? = some (.cells #[.slice A0_0 l0_0.length c0_0, .slice A0_1 l0_1.length c0_1] 25 (0, 0))) := ⟨h4_⟩
              have n5_ : Aside0 (w104.heap[gb215]? = some (.cells #[.string a1_0, .slice A1_1 l1_1.length c1_1, .int .i64 a1_2] 28 (0, 0))) := ⟨h5_⟩
              have n6_ : Aside0 (w104.heap[gb228]? = some (.cells #[.slice Ao59 t221.length co59, .slice Ao63 t224.length co63] 25 (0, 0))) := ⟨h6_⟩
              have n7_ : Aside0 (w104.heap[gb248]? = some (.cells #[.slice none 0 0, .slice none 0 0] 25 (0, 0))) := ⟨h7_⟩
              have n8_ : Aside0 (w.heap.size ≤ gb248) := ⟨h8_⟩
              have n9_ : Aside0 (w.heap.size ≤ gb248) := ⟨h9_⟩
              have n10_ : Aside0 (gb214 ≠ gb248) := ⟨h10_⟩
              have n11_ : Aside0 (gb248 ≠ gb214) := ⟨h11_⟩
              have n12_ : Aside0 (gb215 ≠ gb248) := ⟨h12_⟩
              have n13_ : Aside0 (gb248 ≠ gb215) := ⟨h13_⟩
              have n14_ : Aside0 (gb228 ≠ gb248) := ⟨h14_⟩
              have n15_ : Aside0 (gb248 ≠ gb228) := ⟨h15_⟩
              have n16_ : Aside0 (Below w.heap.size w w104) := ⟨h16_⟩
              clear HO_229000
              clear HO_229001
              clear BK214
              clear BK215
              clear BK228
              clear HB
              clear h0_ h1_ h2_ h3_ h4_ h5_ h6_ h7_ h8_ h9_ h10_ h11_ h12_ h13_ h14_ h15_ h16_
              have HO237 := n0_
              have HO240 := n1_
              have HO_229000 := n2_
              have HO_229001 := n3_
              have BK214 := n4_
              have BK215 := n5_
              have BK228 := n6_
              have BK248 := n7_
              have GW248 := n8_
              have GE248 := n9_
              have NB214_248 := n10_
              have NB248_214 := n11_
              have NB215_248 := n12_
              have NB248_215 := n13_
              have NB228_248 := n14_
              have NB248_228 := n15_
              have HB := n16_
              clear n0_ n1_ n2_ n3_ n4_ n5_ n6_ n7_ n8_ n9_ n10_ n11_ n12_ n13_ n14_ n15_ n16_
              have hHeld : w104.cell? ⟨gb228, 0, none⟩ = some (.slice Ao59 t221.length co59) ∧ w104.cell? ⟨gb228, 1, none⟩ = some (.slice Ao63 t224.length co63) ∧ w104.cell? ⟨gb215, 0, none⟩ = some (.string a1_0) ∧ w104.cell? ⟨gb215, 1, none⟩ = some (.slice A1_1 l1_1.length c1_1) ∧ w104.cell? ⟨gb215, 2, none⟩ = some (.int .i64 a1_2) := hS_
              obtain ⟨Ao105, co105, eo105⟩ := Kd.R_slice HO240.out
              (first | subst eo105 | (injection eo105 with f1_ f2_ f3_; have f4_ := f1_.symm; have f5_ := f3_.symm; clear f1_ f2_ f3_; subst f4_; subst f5_))
              refine norm_ (a' := ?_) ?_ ?_
              rotate_left
              ·
               simp only [putAll, Act.put, sI, sZ, sS]
               rfl
              refine one_ (i := 8) (N := some 81) q10_42 rfl rfl (one_of HT_.out (by kernel_rfl)) (by decide) (fun K hK => ?_)
              refine goes_ Try.func13 (by kernel_rfl) rfl #[.agg #[.slice Ao59 t221.length co59, .slice Ao63 t224.length co63], .slice Ao105 y238.length co105] (by rfl) rfl rfl (by (try simp only [List.map_toArray, List.map_cons, List.map_nil]); first | done | rfl | (simp only [List.length_drop, List.length_take]; rfl)) ?_
              with_reducible refine (intern_Stack.calls k2 _ _ t221 _ _ t224 _ _ y238 t241 t244 t247 _ ?side1 ?side2 ?side3 ?side4 ?side5 ?side6 A90.out).mono ?_
              (case side1 => repeat (first | exact (Kd.R_reads' HO_229000.out).2.2 | (with_reducible refine Kd.C_alloc ?_ _) | (with_reducible refine Kd.C_drewN ?_ _) | (with_reducible refine Kd.C_drew ?_)))
              (case side2 => exact (Kd.R_reads' HO_229000.out).2.1)
              (case side3 => repeat (first | exact (Kd.S_reads' HO_229001.out).2.2 | (with_reducible refine Kd.C_alloc ?_ _) | (with_reducible refine Kd.C_drewN ?_ _) | (with_reducible refine Kd.C_drew ?_)))
              (case side4 => exact (Kd.S_reads' HO_229001.out).2.1)
              (case side5 => repeat (first | exact (Kd.R_reads' HO240.out).2.2 | (with_reducible refine Kd.C_alloc ?_ _) | (with_reducible refine Kd.C_drewN ?_ _) | (with_reducible refine Kd.C_drew ?_)))
              (case side6 => exact (Kd.R_reads' HO240.out).2.1)
              rintro e w106 ⟨v242, v245, rfl, ho0, ho1, hb⟩
              refine ⟨_, rfl, ?_⟩
              have HO243 := Am (Kd.R_lower (Kd.R_new' ho0 (Kd.R_lt (by (with_reducible repeat (first|apply rA|apply rN|apply rD)); exact HO_229000.out))) (below_size (by repeat (first | (with_reducible first | exact HB.out | apply bl | apply pN | apply b1 | refine bs ?_ GE214.out | refine bs ?_ GE215.out | refine bs ?_ GE228.out | refine bs ?_ GE248.out) | exact HB.out | exact HBo.out))))
              have HO246 := Am (Kd.S_lower (Kd.S_new' ho1 (Kd.S_lt (by (with_reducible repeat (first|apply sA|apply sN|apply sD)); exact HO_229001.out))) (below_size (by repeat (first | (with_reducible first | exact HB.out | apply bl | apply pN | apply b1 | refine bs ?_ GE214.out | refine bs ?_ GE215.out | refine bs ?_ GE228.out | refine bs ?_ GE248.out) | exact HB.out | exact HBo.out))))
              replace HO_229000 := Am (Kd.R_elder' (by (with_reducible repeat (first|apply rA|apply rN|apply rD)); exact HO_229000.out) (Kd.R_base ho0) hb)
              replace HO_229001 := Am (Kd.S_elder' (by (with_reducible repeat (first|apply sA|apply sN|apply sD)); exact HO_229001.out) (Kd.S_base ho1) hb)
              replace HO237 := Am (Kd.R_below (by (with_reducible repeat (first|apply rA|apply rN|apply rD)); exact HO237.out) hb)
              replace HO240 := Am (Kd.R_below (by (with_reducible repeat (first|apply rA|apply rN|apply rD)); exact HO240.out) hb)
              replace BK214 := Am (blk_below (g := gb214) (o := .cells #[.slice A0_0 l0_0.length c0_0, .slice A0_1 l0_1.length c0_1] 25 (0, 0)) (by (with_reducible repeat (first|apply bn|apply bd|apply ba)); exact BK214.out) hb)
              replace BK215 := Am (blk_below (g := gb215) (o := .cells #[.string a1_0, .slice A1_1 l1_1.length c1_1, .int .i64 a1_2] 28 (0, 0)) (by (with_reducible repeat (first|apply bn|apply bd|apply ba)); exact BK215.out) hb)
              replace BK228 := Am (blk_below (g := gb228) (o := .cells #[.slice Ao59 t221.length co59, .slice Ao63 t224.length co63] 25 (0, 0)) (by (with_reducible repeat (first|apply bn|apply bd|apply ba)); exact BK228.out) hb)
              replace BK248 := Am (blk_below (g := gb248) (o := .cells #[.slice none 0 0, .slice none 0 0] 25 (0, 0)) (by (with_reducible repeat (first|apply bn|apply bd|apply ba)); exact BK248.out) hb)
              replace HB := Am (below_step (by repeat (first | (with_reducible first | exact HB.out | apply bl | apply pN | apply b1 | refine bs ?_ GE214.out | refine bs ?_ GE215.out | refine bs ?_ GE228.out | refine bs ?_ GE248.out) | exact HB.out | exact HBo.out)) hb)
              (try clear hb)
              (try clear hb2)
              (try clear hk)
              (try clear hi)
              (try clear ho0)
              (try clear ho1)
              refine hK.out _ _ ⟨(bc BK228.out 0).trans rfl, (bc BK228.out 1).trans rfl, (bc BK215.out 0).trans rfl, (bc BK215.out 1).trans rfl, (bc BK215.out 2).trans rfl⟩ (fun hHeld => ?_)
              clear hK K
              refine norm_ (a' := ?_) ?_ ?_
              rotate_left
              ·
               show Act.put _ (some 81) _ = _
               simp only [Act.put, sI, sZ, sS, i64_w, i32_w]
               rfl
              refine Own.pr_ 9 (some 72) q10_43 HT_ (h := ?_)
              refine Own.pr_ 10 (some 82) q10_44 HT_ (h := ?_)
              refine Own.pr_ 11 (some 83) q10_24 HT_ (h := ?_)
              exact norm_ (by first | (simp only [putAll, Act.put, sI, sZ, sS]; done) | (simp only [putAll, Act.put, sI, sZ, sS]; rfl)) (hJ1_4_6_7_8_12 (v230, v233, v236, .slice Ao105 y238.length co105, v242, v245, gb248) _ ⟨hHeld, (by (with_reducible repeat (first|apply rA|apply rN|apply rD)); exact HO237.out), (by (with_reducible repeat (first|apply rA|apply rN|apply rD)); exact HO240.out), (by (with_reducible repeat (first|apply rA|apply rN|apply rD)); exact Kd.R_mono HO243.out (fun _ hk => hk.2)), (by (with_reducible repeat (first|apply sA|apply sN|apply sD)); exact Kd.S_mono HO246.out (fun _ hk => hk.2)), (by (with_reducible repeat (first|apply rA|apply rN|apply rD)); exact Kd.R_mono HO_229000.out (fun _ hk => hk.2)), (by (with_reducible repeat (first|apply sA|apply sN|apply sD)); exact Kd.S_mono HO_229001.out (fun _ hk => hk.2)), (by (with_reducible repeat (first|apply bn|apply bd|apply ba)); exact BK214.out), (by (with_reducible repeat (first|apply bn|apply bd|apply ba)); exact BK215.out), (by (with_reducible repeat (first|apply bn|apply bd|apply ba)); exact BK228.out), (by (with_reducible repeat (first|apply bn|apply bd|apply ba)); exact BK248.out), GW248.out, GE248.out, NB214_248.out, NB248_214.out, NB215_248.out, NB248_215.out, NB228_248.out, NB248_228.out, (by repeat (first | (with_reducible first | exact HB.out | apply bl | apply pN | apply b1 | refine bs ?_ GE214.out | refine bs ?_ GE215.out | refine bs ?_ GE228.out | refine bs ?_ GE248.out) | exact HB.out | exact HBo.out))⟩)
            ·
             skip
             rintro ⟨v230, v233, v236, v239, v242, v245⟩ w105 ⟨hS_, h0_, h1_, h2_, h3_, h4_, h5_, h6_, h7_, h8_, h9_⟩
             have n0_ : Aside0 (Kd.R k45 45 w105 w.heap.size (fun k_ => some k_ ≠ (v239 : Value).ownBlock) v236 y235) := ⟨h0_⟩
             have n1_ : Aside0 (Kd.R k45 45 w105 w.heap.size (fun k_ => some k_ ≠ (v236 : Value).ownBlock) v239 y238) := ⟨h1_⟩
             have n2_ : Aside0 (Kd.R Kd.string 9 w105 w.heap.size (fun k_ => some k_ ≠ (.slice Ao59 t221.length co59 : Value).ownBlock) v242 t241) := ⟨h2_⟩
             have n3_ : Aside0 (Kd.S (Kd.slice 50 k50) 46 w105 w.heap.size (fun k_ => some k_ ≠ (.slice Ao63 t224.length co63 : Value).ownBlock) v245 t244) := ⟨h3_⟩
             have n4_ : Aside0 (Kd.R Kd.string 9 w105 w.heap.size (fun k_ => some k_ ≠ (v242 : Value).ownBlock) (.slice Ao59 t221.length co59) t221) := ⟨h4_⟩
             have n5_ : Aside0 (Kd.S (Kd.slice 50 k50) 46 w105 w.heap.size (fun k_ => some k_ ≠ (v245 : Value).ownBlock) (.slice Ao63 t224.length co63) t224) := ⟨h5_⟩
             have n6_ : Aside0 (w105.heap[gb214]? = some (.cells #[.slice A0_0 l0_0.length c0_0, .slice A0_1 l0_1.length c0_1] 25 (0, 0))) := ⟨h6_⟩
             have n7_ : Aside0 (w105.heap[gb215]? = some (.cells #[.string a1_0, .slice A1_1 l1_1.length c1_1, .int .i64 a1_2] 28 (0, 0))) := ⟨h7_⟩
             have n8_ : Aside0 (w105.heap[gb228]? = some (.cells #[.slice Ao59 t221.length co59, .slice Ao63 t224.length co63] 25 (0, 0))) := ⟨h8_⟩
             have n9_ : Aside0 (Below w.heap.size w w105) := ⟨h9_⟩
             clear HO_229000
             clear HO_229001
             clear BK214
             clear BK215
             clear BK228
             clear HB
             clear h0_ h1_ h2_ h3_ h4_ h5_ h6_ h7_ h8_ h9_
             have HO237 := n0_
             have HO240 := n1_
             have HO243 := n2_
             have HO246 := n3_
             have HO_229000 := n4_
             have HO_229001 := n5_
             have BK214 := n6_
             have BK215 := n7_
             have BK228 := n8_
             have HB := n9_
             clear n0_ n1_ n2_ n3_ n4_ n5_ n6_ n7_ n8_ n9_
             have hHeld : w105.cell? ⟨gb228, 0, none⟩ = some (.slice Ao59 t221.length co59) ∧ w105.cell? ⟨gb228, 1, none⟩ = some (.slice Ao63 t224.length co63) ∧ w105.cell? ⟨gb215, 0, none⟩ = some (.string a1_0) ∧ w105.cell? ⟨gb215, 1, none⟩ = some (.slice A1_1 l1_1.length c1_1) ∧ w105.cell? ⟨gb215, 2, none⟩ = some (.int .i64 a1_2) := hS_
             refine norm_ (a' := ?_) ?_ ?_
             rotate_left
             ·
              simp only [putAll, Act.put, sI, sZ, sS]
              rfl
             refine one_ (i := 12) (N := some 10) q10_24 rfl rfl (one_of HT_.out (by kernel_rfl)) (by decide) (fun K hK => ?_)
             refine box_step ?hg (N := 10) ?hd (cs := #[.slice none 0 0, .slice none 0 0]) (t := 25) ?hr ?_; (case hd => rfl); (case hg => rfl); (case hr => first | (go_simp; done) | (go_simp; rfl))
             intro gb248 hg w106 hbox hb
             have BK248 := Am (hbox)
             have GW248 := Am ((by rw [hg]; exact (below_size (by repeat (first | (with_reducible first | exact HB.out | apply bl | apply pN | apply b1 | refine bs ?_ GE214.out | refine bs ?_ GE215.out | refine bs ?_ GE228.out) | exact HB.out | exact HBo.out))) : w.heap.size ≤ gb248))
             have GE248 := GW248
             have NB214_248 := Am ((by rw [hg]; exact Nat.ne_of_lt (blk_lt (g := gb214) (o := .cells #[.slice A0_0 l0_0.length c0_0, .slice A0_1 l0_1.length c0_1] 25 (0, 0)) (by (with_reducible repeat (first|apply bn|apply bd|apply ba)); exact BK214.out)) : gb214 ≠ gb248))
             have NB248_214 := Am NB214_248.out.symm
             have NB215_248 := Am ((by rw [hg]; exact Nat.ne_of_lt (blk_lt (g := gb215) (o := .cells #[.string a1_0, .slice A1_1 l1_1.length c1_1, .int .i64 a1_2] 28 (0, 0)) (by (with_reducible repeat (first|apply bn|apply bd|apply ba)); exact BK215.out)) : gb215 ≠ gb248))
             have NB248_215 := Am NB215_248.out.symm
             have NB228_248 := Am ((by rw [hg]; exact Nat.ne_of_lt (blk_lt (g := gb228) (o := .cells #[.slice Ao59 t221.length co59, .slice Ao63 t224.length co63] 25 (0, 0)) (by (with_reducible repeat (first|apply bn|apply bd|apply ba)); exact BK228.out)) : gb228 ≠ gb248))
             have NB248_228 := Am NB228_248.out.symm
             replace HO_229000 := Am (Kd.R_below (by (with_reducible repeat (first|apply rA|apply rN|apply rD)); exact HO_229000.out) hb)
             replace HO_229001 := Am (Kd.S_below (by (with_reducible repeat (first|apply sA|apply sN|apply sD)); exact HO_229001.out) hb)
             replace HO237 := Am (Kd.R_below (by (with_reducible repeat (first|apply rA|apply rN|apply rD)); exact HO237.out) hb)
             replace HO240 := Am (Kd.R_below (by (with_reducible repeat (first|apply rA|apply rN|apply rD)); exact HO240.out) hb)
             replace HO243 := Am (Kd.R_below (by (with_reducible repeat (first|apply rA|apply rN|apply rD)); exact HO243.out) hb)
             replace HO246 := Am (Kd.S_below (by (with_reducible repeat (first|apply sA|apply sN|apply sD)); exact HO246.out) hb)
             replace BK214 := Am (blk_below (g := gb214) (o := .cells #[.slice A0_0 l0_0.length c0_0, .slice A0_1 l0_1.length c0_1] 25 (0, 0)) (by (with_reducible repeat (first|apply bn|apply bd|apply ba)); exact BK214.out) hb)
             replace BK215 := Am (blk_below (g := gb215) (o := .cells #[.string a1_0, .slice A1_1 l1_1.length c1_1, .int .i64 a1_2] 28 (0, 0)) (by (with_reducible repeat (first|apply bn|apply bd|apply ba)); exact BK215.out) hb)
             replace BK228 := Am (blk_below (g := gb228) (o := .cells #[.slice Ao59 t221.length co59, .slice Ao63 t224.length co63] 25 (0, 0)) (by (with_reducible repeat (first|apply bn|apply bd|apply ba)); exact BK228.out) hb)
             replace HB := Am (below_step (by repeat (first | (with_reducible first | exact HB.out | apply bl | apply pN | apply b1 | refine bs ?_ GE214.out | refine bs ?_ GE215.out | refine bs ?_ GE228.out) | exact HB.out | exact HBo.out)) hb)
             clear hb hbox hg
             refine hK.out _ _ ⟨(bc BK228.out 0).trans rfl, (bc BK228.out 1).trans rfl, (bc BK215.out 0).trans rfl, (bc BK215.out 1).trans rfl, (bc BK215.out 2).trans rfl⟩ (fun hHeld => ?_)
             clear hK K
             refine norm_ (a' := ?_) ?_ ?_
             rotate_left
             ·
              show Act.put _ (some 10) _ = _
              simp only [Act.put, sI, sZ, sS, i64_w, i32_w]
              rfl
             exact norm_ (by first | (simp only [putAll, Act.put, sI, sZ, sS]; done) | (simp only [putAll, Act.put, sI, sZ, sS]; rfl)) (hJ1_4_6_7_8_12 (v230, v233, v236, v239, v242, v245, gb248) _ ⟨hHeld, (by (with_reducible repeat (first|apply rA|apply rN|apply rD)); exact HO237.out), (by (with_reducible repeat (first|apply rA|apply rN|apply rD)); exact HO240.out), (by (with_reducible repeat (first|apply rA|apply rN|apply rD)); exact HO243.out), (by (with_reducible repeat (first|apply sA|apply sN|apply sD)); exact HO246.out), (by (with_reducible repeat (first|apply rA|apply rN|apply rD)); exact HO_229000.out), (by (with_reducible repeat (first|apply sA|apply sN|apply sD)); exact HO_229001.out), (by (with_reducible repeat (first|apply bn|apply bd|apply ba)); exact BK214.out), (by (with_reducible repeat (first|apply bn|apply bd|apply ba)); exact BK215.out), (by (with_reducible repeat (first|apply bn|apply bd|apply ba)); exact BK228.out), (by (with_reducible repeat (first|apply bn|apply bd|apply ba)); exact BK248.out), GW248.out, GE248.out, NB214_248.out, NB248_214.out, NB215_248.out, NB248_215.out, NB228_248.out, NB248_228.out, (by repeat (first | (with_reducible first | exact HB.out | apply bl | apply pN | apply b1 | refine bs ?_ GE214.out | refine bs ?_ GE215.out | refine bs ?_ GE228.out | refine bs ?_ GE248.out) | exact HB.out | exact HBo.out))⟩)
           rintro ⟨v230, v233, v236, v239, v242, v245, gb248⟩ w106 ⟨hS_, h0_, h1_, h2_, h3_, h4_, h5_, h6_, h7_, h8_, h9_, h10_, h11_, h12_, h13_, h14_, h15_, h16_, h17_, h18_⟩
           have n0_ : Aside0 (Kd.R k45 45 w106 w.heap.size (fun k_ => some k_ ≠ (v239 : Value).ownBlock) v236 y235) := ⟨h0_⟩
           have n1_ : Aside0 (Kd.R k45 45 w106 w.heap.size (fun k_ => some k_ ≠ (v236 : Value).ownBlock) v239 y238) := ⟨h1_⟩
           have n2_ : Aside0 (Kd.R Kd.string 9 w106 w.heap.size (fun k_ => some k_ ≠ (.slice Ao59 t221.length co59 : Value).ownBlock) v242 t241) := ⟨h2_⟩
           have n3_ : Aside0 (Kd.S (Kd.slice 50 k50) 46 w106 w.heap.size (fun k_ => some k_ ≠ (.slice Ao63 t224.length co63 : Value).ownBlock) v245 t244) := ⟨h3_⟩
           have n4_ : Aside0 (Kd.R Kd.string 9 w106 w.heap.size (fun k_ => some k_ ≠ (v242 : Value).ownBlock) (.slice Ao59 t221.length co59) t221) := ⟨h4_⟩
           have n5_ : Aside0 (Kd.S (Kd.slice 50 k50) 46 w106 w.heap.size (fun k_ => some k_ ≠ (v245 : Value).ownBlock) (.slice Ao63 t224.length co63) t224) := ⟨h5_⟩
           have n6_ : Aside0 (w106.heap[gb214]? = some (.cells #[.slice A0_0 l0_0.length c0_0, .slice A0_1 l0_1.length c0_1] 25 (0, 0))) := ⟨h6_⟩
           have n7_ : Aside0 (w106.heap[gb215]? = some (.cells #[.string a1_0, .slice A1_1 l1_1.length c1_1, .int .i64 a1_2] 28 (0, 0))) := ⟨h7_⟩
           have n8_ : Aside0 (w106.heap[gb228]? = some (.cells #[.slice Ao59 t221.length co59, .slice Ao63 t224.length co63] 25 (0, 0))) := ⟨h8_⟩
           have n9_ : Aside0 (w106.heap[gb248]? = some (.cells #[.slice none 0 0, .slice none 0 0] 25 (0, 0))) := ⟨h9_⟩
           have n10_ : Aside0 (w.heap.size ≤ gb248) := ⟨h10_⟩
           have n11_ : Aside0 (w.heap.size ≤ gb248) := ⟨h11_⟩
           have n12_ : Aside0 (gb214 ≠ gb248) := ⟨h12_⟩
           have n13_ : Aside0 (gb248 ≠ gb214) := ⟨h13_⟩
           have n14_ : Aside0 (gb215 ≠ gb248) := ⟨h14_⟩
           have n15_ : Aside0 (gb248 ≠ gb215) := ⟨h15_⟩
           have n16_ : Aside0 (gb228 ≠ gb248) := ⟨h16_⟩
           have n17_ : Aside0 (gb248 ≠ gb228) := ⟨h17_⟩
           have n18_ : Aside0 (Below w.heap.size w w106) := ⟨h18_⟩
           clear HO_229000
           clear HO_229001
           clear BK214
           clear BK215
           clear BK228
           clear HB
           clear h0_ h1_ h2_ h3_ h4_ h5_ h6_ h7_ h8_ h9_ h10_ h11_ h12_ h13_ h14_ h15_ h16_ h17_ h18_
           have HO237 := n0_
           have HO240 := n1_
           have HO243 := n2_
           have HO246 := n3_
           have HO_229000 := n4_
           have HO_229001 := n5_
           have BK214 := n6_
           have BK215 := n7_
           have BK228 := n8_
           have BK248 := n9_
           have GW248 := n10_
           have GE248 := n11_
           have NB214_248 := n12_
           have NB248_214 := n13_
           have NB215_248 := n14_
           have NB248_215 := n15_
           have NB228_248 := n16_
           have NB248_228 := n17_
           have HB := n18_
           clear n0_ n1_ n2_ n3_ n4_ n5_ n6_ n7_ n8_ n9_ n10_ n11_ n12_ n13_ n14_ n15_ n16_ n17_ n18_
           have hHeld : w106.cell? ⟨gb228, 0, none⟩ = some (.slice Ao59 t221.length co59) ∧ w106.cell? ⟨gb228, 1, none⟩ = some (.slice Ao63 t224.length co63) ∧ w106.cell? ⟨gb215, 0, none⟩ = some (.string a1_0) ∧ w106.cell? ⟨gb215, 1, none⟩ = some (.slice A1_1 l1_1.length c1_1) ∧ w106.cell? ⟨gb215, 2, none⟩ = some (.int .i64 a1_2) := hS_
           obtain ⟨Ao107, co107, eo107⟩ := Kd.R_slice HO243.out
           (first | subst eo107 | (injection eo107 with f1_ f2_ f3_; have f4_ := f1_.symm; have f5_ := f3_.symm; clear f1_ f2_ f3_; subst f4_; subst f5_))
           obtain ⟨Ao109, co109, eo109⟩ := Kd.S_slice HO246.out
           (first | subst eo109 | (injection eo109 with f1_ f2_ f3_; have f4_ := f1_.symm; have f5_ := f3_.symm; clear f1_ f2_ f3_; subst f4_; subst f5_))
           refine norm_ (a' := ?_) ?_ ?_
           rotate_left
           ·
            simp only [putAll, Act.put, sI, sZ, sS]
            rfl
           refine one_ (i := 13) (N := none) q10_45 rfl rfl (one_of HT_.out (by kernel_rfl)) (by decide) (fun K hK => ?_)
           have hs108 : w106.cell? ⟨gb248, 0, none⟩ = some (.slice none 0 0) := (bc BK248.out 0).trans rfl
           have hfs108 := bf BK248.out 0
           have hns108_0 := NB214_248.out
           have hns108_1 := NB215_248.out
           have hns108_2 := NB228_248.out
           have hms108_0 := NB248_214.out
           have hms108_1 := NB248_215.out
           have hms108_2 := NB248_228.out
           have hs110 : w106.cell? ⟨gb248, 1, none⟩ = some (.slice none 0 0) := (bc BK248.out 1).trans rfl
           have hfs110 := bf BK248.out 1
           have hns110_0 := NB214_248.out
           have hns110_1 := NB215_248.out
           have hns110_2 := NB228_248.out
           have hms110_0 := NB248_214.out
           have hms110_1 := NB248_215.out
           have hms110_2 := NB248_228.out
           refine skip_ (w1 := ?_) (by rfl) rfl ?_ ?_
           rotate_left
           ·
            go_simp
            rfl
           refine hK.out _ _ ⟨((cell_far (p := ⟨gb248, _, none⟩) NB228_248.out _).trans (((cell_far (p := ⟨gb248, _, none⟩) NB228_248.out _).trans (hHeld.1)))), ((cell_far (p := ⟨gb248, _, none⟩) NB228_248.out _).trans (((cell_far (p := ⟨gb248, _, none⟩) NB228_248.out _).trans (hHeld.2.1)))), ((cell_far (p := ⟨gb248, _, none⟩) NB215_248.out _).trans (((cell_far (p := ⟨gb248, _, none⟩) NB215_248.out _).trans (hHeld.2.2.1)))), ((cell_far (p := ⟨gb248, _, none⟩) NB215_248.out _).trans (((cell_far (p := ⟨gb248, _, none⟩) NB215_248.out _).trans (hHeld.2.2.2.1)))), ((cell_far (p := ⟨gb248, _, none⟩) NB215_248.out _).trans (((cell_far (p := ⟨gb248, _, none⟩) NB215_248.out _).trans (hHeld.2.2.2.2))))⟩ (fun hHeld => ?_)
           clear hK K
           refine Own.pr_ 14 (some 11) q10_46 HT_ (h := ?_)
           refine done_ (done_of HT_.out (by kernel_rfl)) ?_
           try go_wp2
           go_ret
           exact ⟨by first | rfl | (simp <;> rfl) | (simp [*] <;> rfl) | (simp [Aid.ne_nil, Aid.eq_nil]; done), by repeat (first | (with_reducible first | exact HB.out | apply bl | apply pN | apply b1 | refine bs ?_ GE214.out | refine bs ?_ GE215.out | refine bs ?_ GE228.out | refine bs ?_ GE248.out) | exact HB.out | exact HBo.out)⟩
         ·
          rw [if_neg c89] at H
          exact absurd H (by simp)
        ·
         rw [if_neg c88] at H
         exact absurd H (by simp)

/-- THE ONE PURE STATEMENT of shuttlecocklaw06_InternFrames (own row). -/
def shuttlecocklaw06_InternFrames.Pure : Prop := ∀ (y0 : S25) (y1 : S28), (((∀ e5 ∈ y0.f0, e5.size ≤ 140737488351232) ∧ y0.f0.length ≤ 140737488351232) ∧ ((∀ e5 ∈ y0.f1, ((∀ e3 ∈ e5, ((Lit.int .i64 e3.f0).wf = true ∧ (Lit.int .i64 e3.f1).wf = true)) ∧ e5.length ≤ 140737488351232)) ∧ y0.f1.length ≤ 140737488351232)) → (y1.f0.size ≤ 140737488351232 ∧ ((∀ e5 ∈ y1.f1, (e5.f0.size ≤ 140737488351232 ∧ (Lit.int .i64 e5.f1).wf = true)) ∧ y1.f1.length ≤ 140737488351232) ∧ (Lit.int .i64 y1.f2).wf = true) → ∃ k, shuttlecocklaw06_InternFrames.f k y0.f0 y0.f1 y1.f0 y1.f1 y1.f2 = some true

end Go.Proofs.Ytijjfomnidckdaa.Q
