-- printed by a program of this session (NOTES: hprint); not the kit's print
-- minified3
-- minified2
-- minified
-- halved
import Derived.Test.YtlmmlmmbnfcogaaOg
import Derived.Test.YtlmmlmmbnfcogaaAl
import Derived.Test.YtlmmlmmbnfcogaaQx0
import Derived.Test.YtlmmlmmbnfcogaaQx11
import Derived.Test.YtlmmlmmbnfcogaaQx12
import Derived.Test.YtlmmlmmbnfcogaaQx14
import Derived.Test.YtlmmlmmbnfcogaaQx15
import Derived.Test.YtlmmlmmbnfcogaaQx17
namespace Go.Proofs.Ytlmmlmmbnfcogaa.Q
open Go.RowKit Go.Proofs.YtlmmlmmbnfcogaaW.PrintWords Go.Proofs.YtlmmlmmbnfcogaaW.PrintLast Go.Proofs.YtlmmlmmbnfcogaaW.PrintMore
attribute [local go_sem] max2_int min2_int max_two min_two max_three min_three max_four min_four   -- for this text's walks alone
set_option linter.unusedVariables false
set_option linter.unusedSimpArgs false

/-! ### shuttlecockref07_Decode: function 10 -/
def shuttlecockref07_Decode.f (k : Nat) (a0 : ByteArray) : Option (List ByteArray × (List (List (S70))) × Int × Int) := (shuttlecockref07_names.f k a0 0 0 0).bind fun bt310 => (if bt310.2.2.1 = 0 then ((shuttlecockref07_stacks.f k bt310.2.2.2.1 bt310.2.2.2.2.1 bt310.2.2.2.2.2.1 bt310.2.2.2.2.2.2).bind fun bt319 => (if bt319.2.2.1 = 0 then (if bt319.2.2.2.2.1 < (a0.size : Int) then (some (([] : List ByteArray), ([] : List (List (S70))), (a0.size : Int), 70)) else ((shuttlecockref06_May.f k bt310.1 bt319.1).bind fun t329 => (if t329 = true then (some (bt310.1, bt319.1, (a0.size : Int), 0)) else (some (([] : List ByteArray), ([] : List (List (S70))), (a0.size : Int), 70))))) else (some (([] : List ByteArray), ([] : List (List (S70))), bt319.2.1, bt319.2.2.1)))) else (some (([] : List ByteArray), ([] : List (List (S70))), bt310.2.1, bt310.2.2.1)))
theorem shuttlecockref07_Decode.mono : ∀ a0 k, LeO (shuttlecockref07_Decode.f k a0) (shuttlecockref07_Decode.f (k + 1) a0) := by
 intro a0 k
 unfold shuttlecockref07_Decode.f
 repeat' first
   | (with_reducible exact shuttlecockref06_May.mono _ _ _)
   | (with_reducible exact shuttlecockref07_names.mono _ _ _ _ _)
   | (with_reducible exact shuttlecockref07_stacks.mono _ _ _ _ _)
   | (with_reducible exact LeO.refl _)
   | (with_reducible exact LeO.none _)
   | (with_reducible refine LeO.ite ?_ ?_)
   | (with_reducible refine LeO.bind ?_ (fun _ => ?_))
   | exact LeO.none _
   | refine LeO.ite ?_ ?_
   | refine LeO.bind ?_ (fun _ => ?_)
set_option maxHeartbeats 8000000 in
set_option maxRecDepth 100000 in
theorem shuttlecockref07_Decode.calls (k : Nat) (a0 : ByteArray) (r1 : List ByteArray) (r2 : List (List (S70))) (r3 : Int) (r4 : Int) (w : World) (h : shuttlecockref07_Decode.f k a0 = some (r1, r2, r3, r4)) :
  Calls Try.prog 10 #[.string a0] w fun e w' => ∃ v0_ v1_ : Value, e = .returned (.tuple #[.agg #[v0_, v1_], .int .i64 r3, .int .i64 r4]) ∧ Kd.R Kd.string 9 w' w.heap.size (fun _ => True) v0_ r1 ∧ Kd.S (Kd.slice 70 k70) 42 w' w.heap.size (fun _ => True) v1_ r2 ∧ Below w.heap.size w w' := by
 have hu25 := Try.underlying25
 have hu53 := Try.underlying53
 have HB := Am (Below.refl w.heap.size w)
 have H : ((shuttlecockref07_names.f k a0 0 0 0).bind fun bt310 => (if bt310.2.2.1 = 0 then ((shuttlecockref07_stacks.f k bt310.2.2.2.1 bt310.2.2.2.2.1 bt310.2.2.2.2.2.1 bt310.2.2.2.2.2.2).bind fun bt319 => (if bt319.2.2.1 = 0 then (if bt319.2.2.2.2.1 < (a0.size : Int) then (some (([] : List ByteArray), ([] : List (List (S70))), (a0.size : Int), 70)) else ((shuttlecockref06_May.f k bt310.1 bt319.1).bind fun t329 => (if t329 = true then (some (bt310.1, bt319.1, (a0.size : Int), 0)) else (some (([] : List ByteArray), ([] : List (List (S70))), (a0.size : Int), 70))))) else (some (([] : List ByteArray), ([] : List (List (S70))), bt319.2.1, bt319.2.2.1)))) else (some (([] : List ByteArray), ([] : List (List (S70))), bt310.2.1, bt310.2.2.1)))) = some (r1, r2, r3, r4) := h
 clear h
 replace H := ob H
 obtain ⟨⟨t310, t313, t314, t315, t316, t317, t318⟩, A20, H⟩ := H
 (try dsimp only at H)
 have A2 := Am A20
 clear A20
 by_cases c3 : t314 = 0
 ·
  rw [if_pos c3] at H
  have c3b0 : (t314 == 0) = true := beq_iff_eq.mpr c3
  have c3b1 : (t314 != 0) = false := bne_eq_false_iff_eq.mpr c3
  clear c3
  replace H := ob H
  obtain ⟨⟨t319, t322, t323, t324, t325, t326, t327⟩, A40, H⟩ := H
  (try dsimp only at H)
  have A4 := Am A40
  clear A40
  by_cases c5 : t323 = 0
  ·
   rw [if_pos c5] at H
   have c5b0 : (t323 == 0) = true := beq_iff_eq.mpr c5
   have c5b1 : (t323 != 0) = false := bne_eq_false_iff_eq.mpr c5
   clear c5
   by_cases c6 : t325 < (a0.size : Int)
   ·
    rw [if_pos c6] at H
    have c6b0 : decide (t325 < (a0.size : Int)) = true := decide_eq_true c6
    clear c6
    simp only [Option.some.injEq, Prod.mk.injEq] at H
    obtain ⟨rfl, rfl, rfl, rfl⟩ := H
    go_enter Try.func10, Try.ntmps10
    go_wp2_with (first | ((with_reducible refine gate_dst (N := 2) rfl ?_); refine box_event ?hg (N := 2) ?hd (cs := #[.slice none 0 0, .slice none 0 0]) (t := 25) ?hr ?_; (case hd => rfl); (case hg => rfl); (case hr => first | (go_simp; done) | (go_simp; rfl)); intro gb308 hg w7 hbox hb; have BK308 := Am (hbox); have GW308 := Am ((by rw [hg]; exact (below_size (z3)) : w.heap.size ≤ gb308)); have GE308 := GW308; replace HB := Am (below_step (z3) hb); clear hb hbox hg) | ((with_reducible refine gate_dst (N := 15) rfl ?_); refine box_event ?hg (N := 15) ?hd (cs := #[.string a0, .int .i64 0, .int .i64 0, .int .i64 0]) (t := 53) ?hr ?_; (case hd => rfl); (case hg => rfl); (case hr => first | (go_simp; done) | (go_simp; rfl)); intro gb309 hg w8 hbox hb; have HI309 := Am ((⟨hbox, (by rw [hg]; exact (below_size (z11)))⟩ : IsS53 w w8 gb309 a0 0 0 0)); have GW309 := Am ((by rw [hg]; exact (below_size (z11)) : w.heap.size ≤ gb309)); have GE309 := GW309; have NB308_309 := Am ((by rw [hg]; exact Nat.ne_of_lt (blk_lt (g := gb308) (o := .cells #[.slice none 0 0, .slice none 0 0] 25 (0, 0)) (by (with_reducible repeat (first|apply bn|apply bd|apply ba)); exact BK308.out)) : gb308 ≠ gb309)); have NB309_308 := Am NB308_309.out.symm; replace BK308 := Am (blk_below (g := gb308) (o := .cells #[.slice none 0 0, .slice none 0 0] 25 (0, 0)) (by (with_reducible repeat (first|apply bn|apply bd|apply ba)); exact BK308.out) hb); replace HB := Am (below_step (z11) hb); clear hb hbox hg) | ((with_reducible refine gate_callee (f := 23) rfl ?_); refine Own.gL_ (some 18) Try.func23 (#[.pointer (some ⟨gb309, 0, none⟩)]) (h := ?_); (with_reducible refine (shuttlecockref07_names.calls k gb309 a0 0 0 0 t310 t313 t314 t315 t316 t317 t318 w _ ?side1 ?side2 A2.out).mono ?_); (case side1 => exact z6); (case side2 => exact z7); rintro e w9 ⟨v311, rfl, ho0, hi, hb, hk⟩; refine ⟨_, rfl, ?_⟩; have HO312 := Am (Kd.R_lower ho0 (below_size (z7))); replace BK308 := Am (KeepBut.blk hk (g' := gb308) (o := .cells #[.slice none 0 0, .slice none 0 0] 25 (0, 0)) (by (with_reducible repeat (first|apply bn|apply bd|apply ba)); exact BK308.out) NB308_309.out (by simp)); replace HB := Am (hb); replace HI309 := Am (hi); (try clear hb); (try clear hb2); (try clear hk); (try clear hi); (try clear ho0)) | ((with_reducible refine gate_callee (f := 24) rfl ?_); refine Own.gL_ (some 29) Try.func24 (#[.pointer (some ⟨gb309, 0, none⟩)]) (h := ?_); (with_reducible refine (shuttlecockref07_stacks.calls k gb309 t315 t316 t317 t318 t319 t322 t323 t324 t325 t326 t327 w _ ?side1 ?side2 A4.out).mono ?_); (case side1 => exact z6); (case side2 => exact z7); rintro e w10 ⟨v320, rfl, ho0, hi, hb, hk⟩; refine ⟨_, rfl, ?_⟩; have HO321 := Am (Kd.S_lower ho0 (below_size (z7))); replace BK308 := Am (KeepBut.blk hk (g' := gb308) (o := .cells #[.slice none 0 0, .slice none 0 0] 25 (0, 0)) (by (with_reducible repeat (first|apply bn|apply bd|apply ba)); exact BK308.out) NB308_309.out (by simp)); replace HO312 := Am (Kd.R_mono (Kd.R_keep (IsS53.apart (show IsS53 w _ gb309 t315 t316 t317 t318 from z6) (by (with_reducible repeat (first | apply Kd.R_alloc | apply Kd.R_drewN | apply Kd.R_drew)); exact HO312.out) (by decide)) hk (fun _ h => h.2)) (fun _ h => h.1)); replace HB := Am (hb); replace HI309 := Am (hi); (try clear hb); (try clear hb2); (try clear hk); (try clear hi); (try clear ho0); obtain ⟨Ao11, co11, eo11⟩ := Kd.S_slice HO321.out; subst eo11; obtain ⟨Ao12, co12, eo12⟩ := Kd.R_slice HO312.out; subst eo12) | ((with_reducible refine gate_dst (N := 12) rfl ?_); refine box_event ?hg (N := 12) ?hd (cs := #[.slice none 0 0, .slice none 0 0]) (t := 25) ?hr ?_; (case hd => rfl); (case hg => rfl); (case hr => first | (go_simp; done) | (go_simp; rfl)); intro gb328 hg w13 hbox hb; have n0_ := Am (Kd.R_below (by (with_reducible repeat (first | apply Kd.R_alloc | apply Kd.R_drewN | apply Kd.R_drew)); exact HO312.out) hb); have n1_ := Am (Kd.S_below (by (with_reducible repeat (first | apply Kd.S_alloc | apply Kd.S_drewN | apply Kd.S_drew)); exact HO321.out) hb); have n2_ := Am (blk_below (g := gb308) (o := .cells #[.slice none 0 0, .slice none 0 0] 25 (0, 0)) (by (with_reducible repeat (first|apply bn|apply bd|apply ba)); exact BK308.out) hb); have n3_ := Am (IsS53.below (z6) hb); have n4_ := Am (below_step (z7) hb); have n5_ := Am (hbox); have n6_ := Am ((by rw [hg]; exact (below_size (z7)) : w.heap.size ≤ gb328)); have n7_ := Am ((by rw [hg]; exact (below_size (z7)) : w.heap.size ≤ gb328)); have n8_ := Am ((by rw [hg]; exact Nat.ne_of_lt (blk_lt (g := gb308) (o := .cells #[.slice none 0 0, .slice none 0 0] 25 (0, 0)) (by (with_reducible repeat (first|apply bn|apply bd|apply ba)); exact BK308.out)) : gb308 ≠ gb328)); have n9_ := Am ((by rw [hg]; exact Nat.ne_of_gt (blk_lt (g := gb308) (o := .cells #[.slice none 0 0, .slice none 0 0] 25 (0, 0)) (by (with_reducible repeat (first|apply bn|apply bd|apply ba)); exact BK308.out)) : gb328 ≠ gb308)); have n10_ := Am ((by rw [hg]; exact Nat.ne_of_lt (IsS53.lt (show IsS53 w _ gb309 t324 t325 t326 t327 from z6)) : gb309 ≠ gb328)); have n11_ := Am ((by rw [hg]; exact Nat.ne_of_gt (IsS53.lt (show IsS53 w _ gb309 t324 t325 t326 t327 from z6)) : gb328 ≠ gb309)); clear HO312; clear HO321; clear BK308; clear HI309; clear HB; have HO312 := n0_; have HO321 := n1_; have BK308 := n2_; have HI309 := n3_; have HB := n4_; have BK328 := n5_; have GW328 := n6_; have GE328 := n7_; have NB308_328 := n8_; have NB328_308 := n9_; have NB309_328 := n10_; have NB328_309 := n11_; clear n0_ n1_ n2_ n3_ n4_ n5_ n6_ n7_ n8_ n9_ n10_ n11_; clear hb hbox hg; have hnb14 := NB328_308.out; have hnc14 := NB308_328.out; have hnb15 := NB328_309.out; have hnc15 := NB309_328.out; have hcz16_0 := Own.bc2 BK328.out 0; have hcz16_1 := Own.bc2 BK328.out 1; have hfz16_0 := bf BK328.out 0; have hfz16_1 := bf BK328.out 1; obtain ⟨HGz17, hgz17⟩ := HI309.out; have hcz17_0 := cellS53_0 HGz17; have hcz17_1 := cellS53_1 HGz17; have hcz17_2 := cellS53_2 HGz17; have hcz17_3 := cellS53_3 HGz17; have hfz17_0 := bf HGz17 0; have hfz17_1 := bf HGz17 1; have hfz17_2 := bf HGz17 2; have hfz17_3 := bf HGz17 3; clear HGz17 hgz17; have hnb18 := NB308_309.out; have hnc18 := NB309_308.out; have hcz19_0 := Own.bc2 BK308.out 0; have hcz19_1 := Own.bc2 BK308.out 1; have hfz19_0 := bf BK308.out 0; have hfz19_1 := bf BK308.out 1))
    refine bodyPost_ret (results_ctt rfl _ _ gb308 25 #[.slice none 0 0, .slice none 0 0] (0, 0) _ rfl (by (with_reducible repeat (first|apply bn|apply bd|apply ba)); refine blk_put (cs := #[.slice none 0 0, .slice none 0 0]) ?_ 1 _ rfl; (with_reducible repeat (first|apply bn|apply bd|apply ba)); refine blk_put (cs := #[.slice none 0 0, .slice none 0 0]) ?_ 0 _ rfl; (with_reducible repeat (first|apply bn|apply bd|apply ba)); refine blk_far ?_ NB308_328.out _; (with_reducible repeat (first|apply bn|apply bd|apply ba)); refine blk_far ?_ NB308_328.out _; (with_reducible repeat (first|apply bn|apply bd|apply ba)); exact BK308.out) Try.underlying25 rfl (by kernel_rfl)) rfl ?_
    exact ⟨_, _, y0, by first | exact Kd.R_nil _ _ _ _ _ | exact Kd.N_nil _ _ _ _ _ | exact Kd.V_nil _ _ _ _ _ | exact Kd.Q_nil _ _ _ _ _ | exact Kd.S_nil _ _ _ _ _, by first | exact Kd.S_nil _ _ _ _ _ | exact Kd.N_nil _ _ _ _ _ | exact Kd.V_nil _ _ _ _ _ | exact Kd.Q_nil _ _ _ _ _ | exact Kd.R_nil _ _ _ _ _, z16⟩
   ·
    rw [if_neg c6] at H
    have c6b0 : decide (t325 < (a0.size : Int)) = false := decide_eq_false c6
    clear c6
    replace H := ob H
    obtain ⟨t329, A200, H⟩ := H
    (try dsimp only at H)
    have A20 := Am A200
    clear A200
    by_cases c21 : t329 = true
    ·
     subst c21
     rw [if_pos rfl] at H
     simp only [Option.some.injEq, Prod.mk.injEq] at H
     obtain ⟨rfl, rfl, rfl, rfl⟩ := H
     go_enter Try.func10, Try.ntmps10
     go_wp2_with (first | ((with_reducible refine gate_dst (N := 2) rfl ?_); refine box_event ?hg (N := 2) ?hd (cs := #[.slice none 0 0, .slice none 0 0]) (t := 25) ?hr ?_; (case hd => rfl); (case hg => rfl); (case hr => first | (go_simp; done) | (go_simp; rfl)); intro gb308 hg w22 hbox hb; have BK308 := Am (hbox); have GW308 := Am ((by rw [hg]; exact (below_size (z3)) : w.heap.size ≤ gb308)); have GE308 := GW308; replace HB := Am (below_step (z3) hb); clear hb hbox hg) | ((with_reducible refine gate_dst (N := 15) rfl ?_); refine box_event ?hg (N := 15) ?hd (cs := #[.string a0, .int .i64 0, .int .i64 0, .int .i64 0]) (t := 53) ?hr ?_; (case hd => rfl); (case hg => rfl); (case hr => first | (go_simp; done) | (go_simp; rfl)); intro gb309 hg w23 hbox hb; have HI309 := Am ((⟨hbox, (by rw [hg]; exact (below_size (z11)))⟩ : IsS53 w w23 gb309 a0 0 0 0)); have GW309 := Am ((by rw [hg]; exact (below_size (z11)) : w.heap.size ≤ gb309)); have GE309 := GW309; have NB308_309 := Am ((by rw [hg]; exact Nat.ne_of_lt (blk_lt (g := gb308) (o := .cells #[.slice none 0 0, .slice none 0 0] 25 (0, 0)) (by (with_reducible repeat (first|apply bn|apply bd|apply ba)); exact BK308.out)) : gb308 ≠ gb309)); have NB309_308 := Am NB308_309.out.symm; replace BK308 := Am (blk_below (g := gb308) (o := .cells #[.slice none 0 0, .slice none 0 0] 25 (0, 0)) (by (with_reducible repeat (first|apply bn|apply bd|apply ba)); exact BK308.out) hb); replace HB := Am (below_step (z11) hb); clear hb hbox hg) | ((with_reducible refine gate_callee (f := 23) rfl ?_); refine Own.gL_ (some 18) Try.func23 (#[.pointer (some ⟨gb309, 0, none⟩)]) (h := ?_); (with_reducible refine (shuttlecockref07_names.calls k gb309 a0 0 0 0 t310 t313 t314 t315 t316 t317 t318 w _ ?side1 ?side2 A2.out).mono ?_); (case side1 => exact z6); (case side2 => exact z7); rintro e w24 ⟨v311, rfl, ho0, hi, hb, hk⟩; refine ⟨_, rfl, ?_⟩; have HO312 := Am (Kd.R_lower ho0 (below_size (z7))); replace BK308 := Am (KeepBut.blk hk (g' := gb308) (o := .cells #[.slice none 0 0, .slice none 0 0] 25 (0, 0)) (by (with_reducible repeat (first|apply bn|apply bd|apply ba)); exact BK308.out) NB308_309.out (by simp)); replace HB := Am (hb); replace HI309 := Am (hi); (try clear hb); (try clear hb2); (try clear hk); (try clear hi); (try clear ho0)) | ((with_reducible refine gate_callee (f := 24) rfl ?_); refine Own.gL_ (some 29) Try.func24 (#[.pointer (some ⟨gb309, 0, none⟩)]) (h := ?_); (with_reducible refine (shuttlecockref07_stacks.calls k gb309 t315 t316 t317 t318 t319 t322 t323 t324 t325 t326 t327 w _ ?side1 ?side2 A4.out).mono ?_); (case side1 => exact z6); (case side2 => exact z7); rintro e w25 ⟨v320, rfl, ho0, hi, hb, hk⟩; refine ⟨_, rfl, ?_⟩; have HO321 := Am (Kd.S_lower ho0 (below_size (z7))); replace BK308 := Am (KeepBut.blk hk (g' := gb308) (o := .cells #[.slice none 0 0, .slice none 0 0] 25 (0, 0)) (by (with_reducible repeat (first|apply bn|apply bd|apply ba)); exact BK308.out) NB308_309.out (by simp)); replace HO312 := Am (Kd.R_mono (Kd.R_keep (IsS53.apart (show IsS53 w _ gb309 t315 t316 t317 t318 from z6) (by (with_reducible repeat (first | apply Kd.R_alloc | apply Kd.R_drewN | apply Kd.R_drew)); exact HO312.out) (by decide)) hk (fun _ h => h.2)) (fun _ h => h.1)); replace HB := Am (hb); replace HI309 := Am (hi); (try clear hb); (try clear hb2); (try clear hk); (try clear hi); (try clear ho0); obtain ⟨Ao26, co26, eo26⟩ := Kd.S_slice HO321.out; subst eo26; obtain ⟨Ao27, co27, eo27⟩ := Kd.R_slice HO312.out; subst eo27) | ((with_reducible refine gate_dst (N := 12) rfl ?_); refine box_event ?hg (N := 12) ?hd (cs := #[.slice none 0 0, .slice none 0 0]) (t := 25) ?hr ?_; (case hd => rfl); (case hg => rfl); (case hr => first | (go_simp; done) | (go_simp; rfl)); intro gb328 hg w28 hbox hb; have n0_ := Am (Kd.R_below (by (with_reducible repeat (first | apply Kd.R_alloc | apply Kd.R_drewN | apply Kd.R_drew)); exact HO312.out) hb); have n1_ := Am (Kd.S_below (by (with_reducible repeat (first | apply Kd.S_alloc | apply Kd.S_drewN | apply Kd.S_drew)); exact HO321.out) hb); have n2_ := Am (blk_below (g := gb308) (o := .cells #[.slice none 0 0, .slice none 0 0] 25 (0, 0)) (by (with_reducible repeat (first|apply bn|apply bd|apply ba)); exact BK308.out) hb); have n3_ := Am (IsS53.below (z6) hb); have n4_ := Am (below_step (z7) hb); have n5_ := Am (hbox); have n6_ := Am ((by rw [hg]; exact (below_size (z7)) : w.heap.size ≤ gb328)); have n7_ := Am ((by rw [hg]; exact (below_size (z7)) : w.heap.size ≤ gb328)); have n8_ := Am ((by rw [hg]; exact Nat.ne_of_lt (blk_lt (g := gb308) (o := .cells #[.slice none 0 0, .slice none 0 0] 25 (0, 0)) (by (with_reducible repeat (first|apply bn|apply bd|apply ba)); exact BK308.out)) : gb308 ≠ gb328)); have n9_ := Am ((by rw [hg]; exact Nat.ne_of_gt (blk_lt (g := gb308) (o := .cells #[.slice none 0 0, .slice none 0 0] 25 (0, 0)) (by (with_reducible repeat (first|apply bn|apply bd|apply ba)); exact BK308.out)) : gb328 ≠ gb308)); have n10_ := Am ((by rw [hg]; exact Nat.ne_of_lt (IsS53.lt (show IsS53 w _ gb309 t324 t325 t326 t327 from z6)) : gb309 ≠ gb328)); have n11_ := Am ((by rw [hg]; exact Nat.ne_of_gt (IsS53.lt (show IsS53 w _ gb309 t324 t325 t326 t327 from z6)) : gb328 ≠ gb309)); clear HO312; clear HO321; clear BK308; clear HI309; clear HB; have HO312 := n0_; have HO321 := n1_; have BK308 := n2_; have HI309 := n3_; have HB := n4_; have BK328 := n5_; have GW328 := n6_; have GE328 := n7_; have NB308_328 := n8_; have NB328_308 := n9_; have NB309_328 := n10_; have NB328_309 := n11_; clear n0_ n1_ n2_ n3_ n4_ n5_ n6_ n7_ n8_ n9_ n10_ n11_; clear hb hbox hg; have hnb29 := NB328_308.out; have hnc29 := NB308_328.out; have hnb30 := NB328_309.out; have hnc30 := NB309_328.out; have hcz31_0 := Own.bc2 BK328.out 0; have hcz31_1 := Own.bc2 BK328.out 1; have hfz31_0 := bf BK328.out 0; have hfz31_1 := bf BK328.out 1; obtain ⟨HGz32, hgz32⟩ := HI309.out; have hcz32_0 := cellS53_0 HGz32; have hcz32_1 := cellS53_1 HGz32; have hcz32_2 := cellS53_2 HGz32; have hcz32_3 := cellS53_3 HGz32; have hfz32_0 := bf HGz32 0; have hfz32_1 := bf HGz32 1; have hfz32_2 := bf HGz32 2; have hfz32_3 := bf HGz32 3; clear HGz32 hgz32) | (go_at_call 16; (with_reducible refine (shuttlecockref06_May.calls k _ _ t310 _ _ t319 true _ ?side1 ?side2 ?side3 ?side4 A20.out).mono ?_); (case side1 => refine (Kd.R_reads' (e := 9) (base := w.heap.size) (ok := fun k_ => True) (n := t310.length) (c := co27) ?_).2.2; exact (by (with_reducible repeat (first | apply Kd.R_alloc | apply Kd.R_drewN | apply Kd.R_drew)); exact (Kd.R_mono (Kd.R_far (p := ⟨gb328, 1, none⟩) (Kd.R_far (p := ⟨gb328, 0, none⟩) (Kd.R_types HO312.out BK328.out (by decide)) (fun _ hk => hk.2) (.slice Ao27 t310.length co27)) (fun _ hk => hk.2) (.slice Ao26 t319.length co26)) (fun _ h_ => h_.1)))); (case side2 => exact (Kd.R_reads' HO312.out).2.1); (case side3 => refine (Kd.S_reads' (e := 42) (base := w.heap.size) (ok := fun k_ => True) (n := t319.length) (c := co26) ?_).2.2; exact (by (with_reducible repeat (first | apply Kd.S_alloc | apply Kd.S_drewN | apply Kd.S_drew)); exact (Kd.S_mono (Kd.S_far (p := ⟨gb328, 1, none⟩) (Kd.S_far (p := ⟨gb328, 0, none⟩) (Kd.S_types HO321.out BK328.out (by decide)) (fun _ hk => hk.2) (.slice Ao27 t310.length co27)) (fun _ hk => hk.2) (.slice Ao26 t319.length co26)) (fun _ h_ => h_.1)))); (case side4 => exact (Kd.S_reads' HO321.out).2.1); rintro e w33 ⟨rfl, hb⟩; have n0_ := Am (Kd.R_below (by (with_reducible repeat (first | apply Kd.R_alloc | apply Kd.R_drewN | apply Kd.R_drew)); exact (Kd.R_mono (Kd.R_far (p := ⟨gb328, 1, none⟩) (Kd.R_far (p := ⟨gb328, 0, none⟩) (Kd.R_types HO312.out BK328.out (by decide)) (fun _ hk => hk.2) (.slice Ao27 t310.length co27)) (fun _ hk => hk.2) (.slice Ao26 t319.length co26)) (fun _ h_ => h_.1))) hb); have n1_ := Am (Kd.S_below (by (with_reducible repeat (first | apply Kd.S_alloc | apply Kd.S_drewN | apply Kd.S_drew)); exact (Kd.S_mono (Kd.S_far (p := ⟨gb328, 1, none⟩) (Kd.S_far (p := ⟨gb328, 0, none⟩) (Kd.S_types HO321.out BK328.out (by decide)) (fun _ hk => hk.2) (.slice Ao27 t310.length co27)) (fun _ hk => hk.2) (.slice Ao26 t319.length co26)) (fun _ h_ => h_.1))) hb); have n2_ := Am (blk_below (g := gb308) (o := .cells #[.slice none 0 0, .slice none 0 0] 25 (0, 0)) (by (with_reducible repeat (first|apply bn|apply bd|apply ba)); refine blk_far ?_ NB308_328.out _; (with_reducible repeat (first|apply bn|apply bd|apply ba)); refine blk_far ?_ NB308_328.out _; (with_reducible repeat (first|apply bn|apply bd|apply ba)); exact BK308.out) hb); have n3_ := Am (IsS53.below (show IsS53 w _ gb309 t324 t325 t326 t327 from z21) hb); have n4_ := Am (blk_below (g := gb328) (o := .cells #[.slice Ao27 t310.length co27, .slice Ao26 t319.length co26] 25 (0, 0)) (by (with_reducible repeat (first|apply bn|apply bd|apply ba)); refine blk_put (cs := #[.slice Ao27 t310.length co27, .slice none 0 0]) ?_ 1 _ rfl; (with_reducible repeat (first|apply bn|apply bd|apply ba)); refine blk_put (cs := #[.slice none 0 0, .slice none 0 0]) ?_ 0 _ rfl; (with_reducible repeat (first|apply bn|apply bd|apply ba)); exact BK328.out) hb); have n5_ := Am (below_step (z16) hb); clear HO312; clear HO321; clear BK308; clear HI309; clear BK328; clear HB; have HO312 := n0_; have HO321 := n1_; have BK308 := n2_; have HI309 := n3_; have BK328 := n4_; have HB := n5_; clear n0_ n1_ n2_ n3_ n4_ n5_; clear hb; have hcz34_0 := Own.bc2 BK328.out 0; have hcz34_1 := Own.bc2 BK328.out 1; have hfz34_0 := bf BK328.out 0; have hfz34_1 := bf BK328.out 1; have hnb35 := NB308_309.out; have hnc35 := NB309_308.out; have hcz36_0 := Own.bc2 BK308.out 0; have hcz36_1 := Own.bc2 BK308.out 1; have hfz36_0 := bf BK308.out 0; have hfz36_1 := bf BK308.out 1))
     refine bodyPost_ret (results_ctt rfl _ _ gb308 25 #[.slice Ao27 t310.length co27, .slice Ao26 t319.length co26] (0, 0) _ rfl (by (with_reducible repeat (first|apply bn|apply bd|apply ba)); refine blk_put (cs := #[.slice Ao27 t310.length co27, .slice none 0 0]) ?_ 1 _ rfl; (with_reducible repeat (first|apply bn|apply bd|apply ba)); refine blk_put (cs := #[.slice none 0 0, .slice none 0 0]) ?_ 0 _ rfl; (with_reducible repeat (first|apply bn|apply bd|apply ba)); exact BK308.out) Try.underlying25 rfl (by kernel_rfl)) rfl ?_
     exact ⟨_, _, y0, by (with_reducible repeat (first | apply Kd.R_alloc | apply Kd.R_drewN | apply Kd.R_drew)); exact Kd.R_mono (Kd.R_far (p := ⟨gb308, 1, none⟩) (Kd.R_far (p := ⟨gb308, 0, none⟩) (Kd.R_types HO312.out BK308.out (by decide)) (fun _ hk => hk.2) (.slice Ao27 t310.length co27)) (fun _ hk => hk.2) (.slice Ao26 t319.length co26)) (fun _ hk => trivial), by (with_reducible repeat (first | apply Kd.S_alloc | apply Kd.S_drewN | apply Kd.S_drew)); exact Kd.S_mono (Kd.S_far (p := ⟨gb308, 1, none⟩) (Kd.S_far (p := ⟨gb308, 0, none⟩) (Kd.S_types HO321.out BK308.out (by decide)) (fun _ hk => hk.2) (.slice Ao27 t310.length co27)) (fun _ hk => hk.2) (.slice Ao26 t319.length co26)) (fun _ hk => trivial), z16⟩
    ·
     replace c21 := Bool.eq_false_iff.mpr c21
     subst c21
     rw [if_neg (show ¬ (false = true) by decide)] at H
     simp only [Option.some.injEq, Prod.mk.injEq] at H
     obtain ⟨rfl, rfl, rfl, rfl⟩ := H
     go_enter Try.func10, Try.ntmps10
     go_wp2_with (first | ((with_reducible refine gate_dst (N := 2) rfl ?_); refine box_event ?hg (N := 2) ?hd (cs := #[.slice none 0 0, .slice none 0 0]) (t := 25) ?hr ?_; (case hd => rfl); (case hg => rfl); (case hr => first | (go_simp; done) | (go_simp; rfl)); intro gb308 hg w37 hbox hb; have BK308 := Am (hbox); have GW308 := Am ((by rw [hg]; exact (below_size (z3)) : w.heap.size ≤ gb308)); have GE308 := GW308; replace HB := Am (below_step (z3) hb); clear hb hbox hg) | ((with_reducible refine gate_dst (N := 15) rfl ?_); refine box_event ?hg (N := 15) ?hd (cs := #[.string a0, .int .i64 0, .int .i64 0, .int .i64 0]) (t := 53) ?hr ?_; (case hd => rfl); (case hg => rfl); (case hr => first | (go_simp; done) | (go_simp; rfl)); intro gb309 hg w38 hbox hb; have HI309 := Am ((⟨hbox, (by rw [hg]; exact (below_size (z11)))⟩ : IsS53 w w38 gb309 a0 0 0 0)); have GW309 := Am ((by rw [hg]; exact (below_size (z11)) : w.heap.size ≤ gb309)); have GE309 := GW309; have NB308_309 := Am ((by rw [hg]; exact Nat.ne_of_lt (blk_lt (g := gb308) (o := .cells #[.slice none 0 0, .slice none 0 0] 25 (0, 0)) (by (with_reducible repeat (first|apply bn|apply bd|apply ba)); exact BK308.out)) : gb308 ≠ gb309)); have NB309_308 := Am NB308_309.out.symm; replace BK308 := Am (blk_below (g := gb308) (o := .cells #[.slice none 0 0, .slice none 0 0] 25 (0, 0)) (by (with_reducible repeat (first|apply bn|apply bd|apply ba)); exact BK308.out) hb); replace HB := Am (below_step (z11) hb); clear hb hbox hg) | ((with_reducible refine gate_callee (f := 23) rfl ?_); refine Own.gL_ (some 18) Try.func23 (#[.pointer (some ⟨gb309, 0, none⟩)]) (h := ?_); (with_reducible refine (shuttlecockref07_names.calls k gb309 a0 0 0 0 t310 t313 t314 t315 t316 t317 t318 w _ ?side1 ?side2 A2.out).mono ?_); (case side1 => exact z6); (case side2 => exact z7); rintro e w39 ⟨v311, rfl, ho0, hi, hb, hk⟩; refine ⟨_, rfl, ?_⟩; have HO312 := Am (Kd.R_lower ho0 (below_size (z7))); replace BK308 := Am (KeepBut.blk hk (g' := gb308) (o := .cells #[.slice none 0 0, .slice none 0 0] 25 (0, 0)) (by (with_reducible repeat (first|apply bn|apply bd|apply ba)); exact BK308.out) NB308_309.out (by simp)); replace HB := Am (hb); replace HI309 := Am (hi); (try clear hb); (try clear hb2); (try clear hk); (try clear hi); (try clear ho0)) | ((with_reducible refine gate_callee (f := 24) rfl ?_); refine Own.gL_ (some 29) Try.func24 (#[.pointer (some ⟨gb309, 0, none⟩)]) (h := ?_); (with_reducible refine (shuttlecockref07_stacks.calls k gb309 t315 t316 t317 t318 t319 t322 t323 t324 t325 t326 t327 w _ ?side1 ?side2 A4.out).mono ?_); (case side1 => exact z6); (case side2 => exact z7); rintro e w40 ⟨v320, rfl, ho0, hi, hb, hk⟩; refine ⟨_, rfl, ?_⟩; have HO321 := Am (Kd.S_lower ho0 (below_size (z7))); replace BK308 := Am (KeepBut.blk hk (g' := gb308) (o := .cells #[.slice none 0 0, .slice none 0 0] 25 (0, 0)) (by (with_reducible repeat (first|apply bn|apply bd|apply ba)); exact BK308.out) NB308_309.out (by simp)); replace HO312 := Am (Kd.R_mono (Kd.R_keep (IsS53.apart (show IsS53 w _ gb309 t315 t316 t317 t318 from z6) (by (with_reducible repeat (first | apply Kd.R_alloc | apply Kd.R_drewN | apply Kd.R_drew)); exact HO312.out) (by decide)) hk (fun _ h => h.2)) (fun _ h => h.1)); replace HB := Am (hb); replace HI309 := Am (hi); (try clear hb); (try clear hb2); (try clear hk); (try clear hi); (try clear ho0); obtain ⟨Ao41, co41, eo41⟩ := Kd.S_slice HO321.out; subst eo41; obtain ⟨Ao42, co42, eo42⟩ := Kd.R_slice HO312.out; subst eo42) | ((with_reducible refine gate_dst (N := 12) rfl ?_); refine box_event ?hg (N := 12) ?hd (cs := #[.slice none 0 0, .slice none 0 0]) (t := 25) ?hr ?_; (case hd => rfl); (case hg => rfl); (case hr => first | (go_simp; done) | (go_simp; rfl)); intro gb328 hg w43 hbox hb; have n0_ := Am (Kd.R_below (by (with_reducible repeat (first | apply Kd.R_alloc | apply Kd.R_drewN | apply Kd.R_drew)); exact HO312.out) hb); have n1_ := Am (Kd.S_below (by (with_reducible repeat (first | apply Kd.S_alloc | apply Kd.S_drewN | apply Kd.S_drew)); exact HO321.out) hb); have n2_ := Am (blk_below (g := gb308) (o := .cells #[.slice none 0 0, .slice none 0 0] 25 (0, 0)) (by (with_reducible repeat (first|apply bn|apply bd|apply ba)); exact BK308.out) hb); have n3_ := Am (IsS53.below (z6) hb); have n4_ := Am (below_step (z7) hb); have n5_ := Am (hbox); have n6_ := Am ((by rw [hg]; exact (below_size (z7)) : w.heap.size ≤ gb328)); have n7_ := Am ((by rw [hg]; exact (below_size (z7)) : w.heap.size ≤ gb328)); have n8_ := Am ((by rw [hg]; exact Nat.ne_of_lt (blk_lt (g := gb308) (o := .cells #[.slice none 0 0, .slice none 0 0] 25 (0, 0)) (by (with_reducible repeat (first|apply bn|apply bd|apply ba)); exact BK308.out)) : gb308 ≠ gb328)); have n9_ := Am ((by rw [hg]; exact Nat.ne_of_gt (blk_lt (g := gb308) (o := .cells #[.slice none 0 0, .slice none 0 0] 25 (0, 0)) (by (with_reducible repeat (first|apply bn|apply bd|apply ba)); exact BK308.out)) : gb328 ≠ gb308)); have n10_ := Am ((by rw [hg]; exact Nat.ne_of_lt (IsS53.lt (show IsS53 w _ gb309 t324 t325 t326 t327 from z6)) : gb309 ≠ gb328)); have n11_ := Am ((by rw [hg]; exact Nat.ne_of_gt (IsS53.lt (show IsS53 w _ gb309 t324 t325 t326 t327 from z6)) : gb328 ≠ gb309)); clear HO312; clear HO321; clear BK308; clear HI309; clear HB; have HO312 := n0_; have HO321 := n1_; have BK308 := n2_; have HI309 := n3_; have HB := n4_; have BK328 := n5_; have GW328 := n6_; have GE328 := n7_; have NB308_328 := n8_; have NB328_308 := n9_; have NB309_328 := n10_; have NB328_309 := n11_; clear n0_ n1_ n2_ n3_ n4_ n5_ n6_ n7_ n8_ n9_ n10_ n11_; clear hb hbox hg; have hnb44 := NB328_308.out; have hnc44 := NB308_328.out; have hnb45 := NB328_309.out; have hnc45 := NB309_328.out; have hcz46_0 := Own.bc2 BK328.out 0; have hcz46_1 := Own.bc2 BK328.out 1; have hfz46_0 := bf BK328.out 0; have hfz46_1 := bf BK328.out 1; obtain ⟨HGz47, hgz47⟩ := HI309.out; have hcz47_0 := cellS53_0 HGz47; have hcz47_1 := cellS53_1 HGz47; have hcz47_2 := cellS53_2 HGz47; have hcz47_3 := cellS53_3 HGz47; have hfz47_0 := bf HGz47 0; have hfz47_1 := bf HGz47 1; have hfz47_2 := bf HGz47 2; have hfz47_3 := bf HGz47 3; clear HGz47 hgz47) | (go_at_call 16; (with_reducible refine (shuttlecockref06_May.calls k _ _ t310 _ _ t319 false _ ?side1 ?side2 ?side3 ?side4 A20.out).mono ?_); (case side1 => refine (Kd.R_reads' (e := 9) (base := w.heap.size) (ok := fun k_ => True) (n := t310.length) (c := co42) ?_).2.2; exact (by (with_reducible repeat (first | apply Kd.R_alloc | apply Kd.R_drewN | apply Kd.R_drew)); exact (Kd.R_mono (Kd.R_far (p := ⟨gb328, 1, none⟩) (Kd.R_far (p := ⟨gb328, 0, none⟩) (Kd.R_types HO312.out BK328.out (by decide)) (fun _ hk => hk.2) (.slice Ao42 t310.length co42)) (fun _ hk => hk.2) (.slice Ao41 t319.length co41)) (fun _ h_ => h_.1)))); (case side2 => exact (Kd.R_reads' HO312.out).2.1); (case side3 => refine (Kd.S_reads' (e := 42) (base := w.heap.size) (ok := fun k_ => True) (n := t319.length) (c := co41) ?_).2.2; exact (by (with_reducible repeat (first | apply Kd.S_alloc | apply Kd.S_drewN | apply Kd.S_drew)); exact (Kd.S_mono (Kd.S_far (p := ⟨gb328, 1, none⟩) (Kd.S_far (p := ⟨gb328, 0, none⟩) (Kd.S_types HO321.out BK328.out (by decide)) (fun _ hk => hk.2) (.slice Ao42 t310.length co42)) (fun _ hk => hk.2) (.slice Ao41 t319.length co41)) (fun _ h_ => h_.1)))); (case side4 => exact (Kd.S_reads' HO321.out).2.1); rintro e w48 ⟨rfl, hb⟩; have n0_ := Am (Kd.R_below (by (with_reducible repeat (first | apply Kd.R_alloc | apply Kd.R_drewN | apply Kd.R_drew)); exact (Kd.R_mono (Kd.R_far (p := ⟨gb328, 1, none⟩) (Kd.R_far (p := ⟨gb328, 0, none⟩) (Kd.R_types HO312.out BK328.out (by decide)) (fun _ hk => hk.2) (.slice Ao42 t310.length co42)) (fun _ hk => hk.2) (.slice Ao41 t319.length co41)) (fun _ h_ => h_.1))) hb); have n1_ := Am (Kd.S_below (by (with_reducible repeat (first | apply Kd.S_alloc | apply Kd.S_drewN | apply Kd.S_drew)); exact (Kd.S_mono (Kd.S_far (p := ⟨gb328, 1, none⟩) (Kd.S_far (p := ⟨gb328, 0, none⟩) (Kd.S_types HO321.out BK328.out (by decide)) (fun _ hk => hk.2) (.slice Ao42 t310.length co42)) (fun _ hk => hk.2) (.slice Ao41 t319.length co41)) (fun _ h_ => h_.1))) hb); have n2_ := Am (blk_below (g := gb308) (o := .cells #[.slice none 0 0, .slice none 0 0] 25 (0, 0)) (by (with_reducible repeat (first|apply bn|apply bd|apply ba)); refine blk_far ?_ NB308_328.out _; (with_reducible repeat (first|apply bn|apply bd|apply ba)); refine blk_far ?_ NB308_328.out _; (with_reducible repeat (first|apply bn|apply bd|apply ba)); exact BK308.out) hb); have n3_ := Am (IsS53.below (show IsS53 w _ gb309 t324 t325 t326 t327 from z21) hb); have n4_ := Am (blk_below (g := gb328) (o := .cells #[.slice Ao42 t310.length co42, .slice Ao41 t319.length co41] 25 (0, 0)) (by (with_reducible repeat (first|apply bn|apply bd|apply ba)); refine blk_put (cs := #[.slice Ao42 t310.length co42, .slice none 0 0]) ?_ 1 _ rfl; (with_reducible repeat (first|apply bn|apply bd|apply ba)); refine blk_put (cs := #[.slice none 0 0, .slice none 0 0]) ?_ 0 _ rfl; (with_reducible repeat (first|apply bn|apply bd|apply ba)); exact BK328.out) hb); have n5_ := Am (below_step (z16) hb); clear HO312; clear HO321; clear BK308; clear HI309; clear BK328; clear HB; have HO312 := n0_; have HO321 := n1_; have BK308 := n2_; have HI309 := n3_; have BK328 := n4_; have HB := n5_; clear n0_ n1_ n2_ n3_ n4_ n5_; clear hb; have hnb49 := NB308_309.out; have hnc49 := NB309_308.out; have hcz50_0 := Own.bc2 BK308.out 0; have hcz50_1 := Own.bc2 BK308.out 1; have hfz50_0 := bf BK308.out 0; have hfz50_1 := bf BK308.out 1))
     refine bodyPost_ret (results_ctt rfl _ _ gb308 25 #[.slice none 0 0, .slice none 0 0] (0, 0) _ rfl (by (with_reducible repeat (first|apply bn|apply bd|apply ba)); refine blk_put (cs := #[.slice none 0 0, .slice none 0 0]) ?_ 1 _ rfl; (with_reducible repeat (first|apply bn|apply bd|apply ba)); refine blk_put (cs := #[.slice none 0 0, .slice none 0 0]) ?_ 0 _ rfl; (with_reducible repeat (first|apply bn|apply bd|apply ba)); exact BK308.out) Try.underlying25 rfl (by kernel_rfl)) rfl ?_
     exact ⟨_, _, y0, by first | exact Kd.R_nil _ _ _ _ _ | exact Kd.N_nil _ _ _ _ _ | exact Kd.V_nil _ _ _ _ _ | exact Kd.Q_nil _ _ _ _ _ | exact Kd.S_nil _ _ _ _ _, by first | exact Kd.S_nil _ _ _ _ _ | exact Kd.N_nil _ _ _ _ _ | exact Kd.V_nil _ _ _ _ _ | exact Kd.Q_nil _ _ _ _ _ | exact Kd.R_nil _ _ _ _ _, z16⟩
  ·
   rw [if_neg c5] at H
   have c5b0 : (t323 == 0) = false := beq_eq_false_iff_ne.mpr c5
   have c5b1 : (t323 != 0) = true := bne_iff_ne.mpr c5
   simp only [Option.some.injEq, Prod.mk.injEq] at H
   obtain ⟨rfl, rfl, rfl, rfl⟩ := H
   go_enter Try.func10, Try.ntmps10
   go_wp2_with (first | ((with_reducible refine gate_dst (N := 2) rfl ?_); refine box_event ?hg (N := 2) ?hd (cs := #[.slice none 0 0, .slice none 0 0]) (t := 25) ?hr ?_; (case hd => rfl); (case hg => rfl); (case hr => first | (go_simp; done) | (go_simp; rfl)); intro gb308 hg w51 hbox hb; have BK308 := Am (hbox); have GW308 := Am ((by rw [hg]; exact (below_size (z3)) : w.heap.size ≤ gb308)); have GE308 := GW308; replace HB := Am (below_step (z3) hb); clear hb hbox hg) | ((with_reducible refine gate_dst (N := 15) rfl ?_); refine box_event ?hg (N := 15) ?hd (cs := #[.string a0, .int .i64 0, .int .i64 0, .int .i64 0]) (t := 53) ?hr ?_; (case hd => rfl); (case hg => rfl); (case hr => first | (go_simp; done) | (go_simp; rfl)); intro gb309 hg w52 hbox hb; have HI309 := Am ((⟨hbox, (by rw [hg]; exact (below_size (z11)))⟩ : IsS53 w w52 gb309 a0 0 0 0)); have GW309 := Am ((by rw [hg]; exact (below_size (z11)) : w.heap.size ≤ gb309)); have GE309 := GW309; have NB308_309 := Am ((by rw [hg]; exact Nat.ne_of_lt (blk_lt (g := gb308) (o := .cells #[.slice none 0 0, .slice none 0 0] 25 (0, 0)) (by (with_reducible repeat (first|apply bn|apply bd|apply ba)); exact BK308.out)) : gb308 ≠ gb309)); have NB309_308 := Am NB308_309.out.symm; replace BK308 := Am (blk_below (g := gb308) (o := .cells #[.slice none 0 0, .slice none 0 0] 25 (0, 0)) (by (with_reducible repeat (first|apply bn|apply bd|apply ba)); exact BK308.out) hb); replace HB := Am (below_step (z11) hb); clear hb hbox hg) | ((with_reducible refine gate_callee (f := 23) rfl ?_); refine Own.gL_ (some 18) Try.func23 (#[.pointer (some ⟨gb309, 0, none⟩)]) (h := ?_); (with_reducible refine (shuttlecockref07_names.calls k gb309 a0 0 0 0 t310 t313 t314 t315 t316 t317 t318 w _ ?side1 ?side2 A2.out).mono ?_); (case side1 => exact z6); (case side2 => exact z7); rintro e w53 ⟨v311, rfl, ho0, hi, hb, hk⟩; refine ⟨_, rfl, ?_⟩; have HO312 := Am (Kd.R_lower ho0 (below_size (z7))); replace BK308 := Am (KeepBut.blk hk (g' := gb308) (o := .cells #[.slice none 0 0, .slice none 0 0] 25 (0, 0)) (by (with_reducible repeat (first|apply bn|apply bd|apply ba)); exact BK308.out) NB308_309.out (by simp)); replace HB := Am (hb); replace HI309 := Am (hi); (try clear hb); (try clear hb2); (try clear hk); (try clear hi); (try clear ho0)) | ((with_reducible refine gate_callee (f := 24) rfl ?_); refine Own.gL_ (some 29) Try.func24 (#[.pointer (some ⟨gb309, 0, none⟩)]) (h := ?_); (with_reducible refine (shuttlecockref07_stacks.calls k gb309 t315 t316 t317 t318 t319 t322 t323 t324 t325 t326 t327 w _ ?side1 ?side2 A4.out).mono ?_); (case side1 => exact z6); (case side2 => exact z7); rintro e w54 ⟨v320, rfl, ho0, hi, hb, hk⟩; refine ⟨_, rfl, ?_⟩; have HO321 := Am (Kd.S_lower ho0 (below_size (z7))); replace BK308 := Am (KeepBut.blk hk (g' := gb308) (o := .cells #[.slice none 0 0, .slice none 0 0] 25 (0, 0)) (by (with_reducible repeat (first|apply bn|apply bd|apply ba)); exact BK308.out) NB308_309.out (by simp)); replace HO312 := Am (Kd.R_mono (Kd.R_keep (IsS53.apart (show IsS53 w _ gb309 t315 t316 t317 t318 from z6) (by (with_reducible repeat (first | apply Kd.R_alloc | apply Kd.R_drewN | apply Kd.R_drew)); exact HO312.out) (by decide)) hk (fun _ h => h.2)) (fun _ h => h.1)); replace HB := Am (hb); replace HI309 := Am (hi); (try clear hb); (try clear hb2); (try clear hk); (try clear hi); (try clear ho0); have hnb55 := NB308_309.out; have hnc55 := NB309_308.out; have hcz56_0 := Own.bc2 BK308.out 0; have hcz56_1 := Own.bc2 BK308.out 1; have hfz56_0 := bf BK308.out 0; have hfz56_1 := bf BK308.out 1))
   refine bodyPost_ret (results_ctt rfl _ _ gb308 25 #[.slice none 0 0, .slice none 0 0] (0, 0) _ rfl (by (with_reducible repeat (first|apply bn|apply bd|apply ba)); refine blk_put (cs := #[.slice none 0 0, .slice none 0 0]) ?_ 1 _ rfl; (with_reducible repeat (first|apply bn|apply bd|apply ba)); refine blk_put (cs := #[.slice none 0 0, .slice none 0 0]) ?_ 0 _ rfl; (with_reducible repeat (first|apply bn|apply bd|apply ba)); exact BK308.out) Try.underlying25 rfl (by kernel_rfl)) rfl ?_
   exact ⟨_, _, y0, by first | exact Kd.R_nil _ _ _ _ _ | exact Kd.N_nil _ _ _ _ _ | exact Kd.V_nil _ _ _ _ _ | exact Kd.Q_nil _ _ _ _ _ | exact Kd.S_nil _ _ _ _ _, by first | exact Kd.S_nil _ _ _ _ _ | exact Kd.N_nil _ _ _ _ _ | exact Kd.V_nil _ _ _ _ _ | exact Kd.Q_nil _ _ _ _ _ | exact Kd.R_nil _ _ _ _ _, z7⟩
 ·
  rw [if_neg c3] at H
  have c3b0 : (t314 == 0) = false := beq_eq_false_iff_ne.mpr c3
  have c3b1 : (t314 != 0) = true := bne_iff_ne.mpr c3
  simp only [Option.some.injEq, Prod.mk.injEq] at H
  obtain ⟨rfl, rfl, rfl, rfl⟩ := H
  go_enter Try.func10, Try.ntmps10
  go_wp2_with (first | ((with_reducible refine gate_dst (N := 2) rfl ?_); refine box_event ?hg (N := 2) ?hd (cs := #[.slice none 0 0, .slice none 0 0]) (t := 25) ?hr ?_; (case hd => rfl); (case hg => rfl); (case hr => first | (go_simp; done) | (go_simp; rfl)); intro gb308 hg w57 hbox hb; have BK308 := Am (hbox); have GW308 := Am ((by rw [hg]; exact (below_size (z3)) : w.heap.size ≤ gb308)); have GE308 := GW308; replace HB := Am (below_step (z3) hb); clear hb hbox hg) | ((with_reducible refine gate_dst (N := 15) rfl ?_); refine box_event ?hg (N := 15) ?hd (cs := #[.string a0, .int .i64 0, .int .i64 0, .int .i64 0]) (t := 53) ?hr ?_; (case hd => rfl); (case hg => rfl); (case hr => first | (go_simp; done) | (go_simp; rfl)); intro gb309 hg w58 hbox hb; have HI309 := Am ((⟨hbox, (by rw [hg]; exact (below_size (z11)))⟩ : IsS53 w w58 gb309 a0 0 0 0)); have GW309 := Am ((by rw [hg]; exact (below_size (z11)) : w.heap.size ≤ gb309)); have GE309 := GW309; have NB308_309 := Am ((by rw [hg]; exact Nat.ne_of_lt (blk_lt (g := gb308) (o := .cells #[.slice none 0 0, .slice none 0 0] 25 (0, 0)) (by (with_reducible repeat (first|apply bn|apply bd|apply ba)); exact BK308.out)) : gb308 ≠ gb309)); have NB309_308 := Am NB308_309.out.symm; replace BK308 := Am (blk_below (g := gb308) (o := .cells #[.slice none 0 0, .slice none 0 0] 25 (0, 0)) (by (with_reducible repeat (first|apply bn|apply bd|apply ba)); exact BK308.out) hb); replace HB := Am (below_step (z11) hb); clear hb hbox hg) | ((with_reducible refine gate_callee (f := 23) rfl ?_); refine Own.gL_ (some 18) Try.func23 (#[.pointer (some ⟨gb309, 0, none⟩)]) (h := ?_); (with_reducible refine (shuttlecockref07_names.calls k gb309 a0 0 0 0 t310 t313 t314 t315 t316 t317 t318 w _ ?side1 ?side2 A2.out).mono ?_); (case side1 => exact z6); (case side2 => exact z7); rintro e w59 ⟨v311, rfl, ho0, hi, hb, hk⟩; refine ⟨_, rfl, ?_⟩; have HO312 := Am (Kd.R_lower ho0 (below_size (z7))); replace BK308 := Am (KeepBut.blk hk (g' := gb308) (o := .cells #[.slice none 0 0, .slice none 0 0] 25 (0, 0)) (by (with_reducible repeat (first|apply bn|apply bd|apply ba)); exact BK308.out) NB308_309.out (by simp)); replace HB := Am (hb); replace HI309 := Am (hi); (try clear hb); (try clear hb2); (try clear hk); (try clear hi); (try clear ho0); have hnb60 := NB308_309.out; have hnc60 := NB309_308.out; have hcz61_0 := Own.bc2 BK308.out 0; have hcz61_1 := Own.bc2 BK308.out 1; have hfz61_0 := bf BK308.out 0; have hfz61_1 := bf BK308.out 1))
  refine bodyPost_ret (results_ctt rfl _ _ gb308 25 #[.slice none 0 0, .slice none 0 0] (0, 0) _ rfl (by (with_reducible repeat (first|apply bn|apply bd|apply ba)); refine blk_put (cs := #[.slice none 0 0, .slice none 0 0]) ?_ 1 _ rfl; (with_reducible repeat (first|apply bn|apply bd|apply ba)); refine blk_put (cs := #[.slice none 0 0, .slice none 0 0]) ?_ 0 _ rfl; (with_reducible repeat (first|apply bn|apply bd|apply ba)); exact BK308.out) Try.underlying25 rfl (by kernel_rfl)) rfl ?_
  exact ⟨_, _, y0, by first | exact Kd.R_nil _ _ _ _ _ | exact Kd.N_nil _ _ _ _ _ | exact Kd.V_nil _ _ _ _ _ | exact Kd.Q_nil _ _ _ _ _ | exact Kd.S_nil _ _ _ _ _, by first | exact Kd.S_nil _ _ _ _ _ | exact Kd.N_nil _ _ _ _ _ | exact Kd.V_nil _ _ _ _ _ | exact Kd.Q_nil _ _ _ _ _ | exact Kd.R_nil _ _ _ _ _, z7⟩

/-! ### shuttlecockref07_each: function 32 -/
mutual
def shuttlecockref07_each.l0 : Nat → List Int → Int → Int → Option (Bool)
 | 0, _, _, _ => none
 | k + 1, x0, x1, x5 => if x5 < (x0.length : Int) then (if 0 ≤ x5 then (if (rd x0 x5) < 1 then (shuttlecockref07_each.j1 k x0 x1 x5 true) else (shuttlecockref07_each.j1 k x0 x1 x5 (decide ((rd x0 x5) > x1)))) else (none)) else (some ((x0.length : Int) == x1))
def shuttlecockref07_each.j1 : Nat → List Int → Int → Int → Bool → Option (Bool)
 | 0, _, _, _, _ => none
 | k + 1, x0, x1, x5, x25 => if x25 = true then (some false) else (shuttlecockref07_each.l1 k x0 x1 x5 0)
def shuttlecockref07_each.l1 : Nat → List Int → Int → Int → Int → Option (Bool)
 | 0, _, _, _, _ => none
 | k + 1, x0, x1, x5, x6 => if x6 < x5 then (if 0 ≤ x6 then (if x6 < (x0.length : Int) then (if 0 ≤ x5 then (if x5 < (x0.length : Int) then (if (rd x0 x6) = (rd x0 x5) then (some false) else (shuttlecockref07_each.l1 k x0 x1 x5 (wrap64 (x6 + 1)))) else (none)) else (none)) else (none)) else (none)) else (shuttlecockref07_each.l0 k x0 x1 (wrap64 (x5 + 1)))
end
def shuttlecockref07_each.f (k : Nat) (l0 : List Int) (a1 : Int) : Option (Bool) := shuttlecockref07_each.l0 k l0 a1 0
theorem shuttlecockref07_each.mono_l : ∀ k, (∀ y0 y1 y2, LeO (shuttlecockref07_each.l0 k y0 y1 y2) (shuttlecockref07_each.l0 (k + 1) y0 y1 y2)) ∧ (∀ y0 y1 y2 y3, LeO (shuttlecockref07_each.j1 k y0 y1 y2 y3) (shuttlecockref07_each.j1 (k + 1) y0 y1 y2 y3)) ∧ (∀ y0 y1 y2 y3, LeO (shuttlecockref07_each.l1 k y0 y1 y2 y3) (shuttlecockref07_each.l1 (k + 1) y0 y1 y2 y3))
 | 0 => ⟨fun _ _ _ r h => by simp [shuttlecockref07_each.l0] at h, fun _ _ _ _ r h => by simp [shuttlecockref07_each.j1] at h, fun _ _ _ _ r h => by simp [shuttlecockref07_each.l1] at h⟩
 | k + 1 => by
  obtain ⟨ih0, ih1, ih2⟩ := shuttlecockref07_each.mono_l k
  refine ⟨?_, ?_, ?_⟩
  ·
   intro y0 y1 y2
   unfold shuttlecockref07_each.l0
   repeat' first
   | (with_reducible exact ih0 _ _ _)
   | (with_reducible exact ih1 _ _ _ _)
   | (with_reducible exact ih2 _ _ _ _)
   | (with_reducible exact LeO.refl _)
   | (with_reducible exact LeO.none _)
   | (with_reducible refine LeO.ite ?_ ?_)
   | (with_reducible refine LeO.bind ?_ (fun _ => ?_))
   | exact LeO.none _
   | refine LeO.ite ?_ ?_
   | refine LeO.bind ?_ (fun _ => ?_)
  ·
   intro y0 y1 y2 y3
   unfold shuttlecockref07_each.j1
   repeat' first
   | (with_reducible exact ih0 _ _ _)
   | (with_reducible exact ih1 _ _ _ _)
   | (with_reducible exact ih2 _ _ _ _)
   | (with_reducible exact LeO.refl _)
   | (with_reducible exact LeO.none _)
   | (with_reducible refine LeO.ite ?_ ?_)
   | (with_reducible refine LeO.bind ?_ (fun _ => ?_))
   | exact LeO.none _
   | refine LeO.ite ?_ ?_
   | refine LeO.bind ?_ (fun _ => ?_)
  ·
   intro y0 y1 y2 y3
   unfold shuttlecockref07_each.l1
   repeat' first
   | (with_reducible exact ih0 _ _ _)
   | (with_reducible exact ih1 _ _ _ _)
   | (with_reducible exact ih2 _ _ _ _)
   | (with_reducible exact LeO.refl _)
   | (with_reducible exact LeO.none _)
   | (with_reducible refine LeO.ite ?_ ?_)
   | (with_reducible refine LeO.bind ?_ (fun _ => ?_))
   | exact LeO.none _
   | refine LeO.ite ?_ ?_
   | refine LeO.bind ?_ (fun _ => ?_)
theorem shuttlecockref07_each.mono : ∀ a0 a1 k, LeO (shuttlecockref07_each.f k a0 a1) (shuttlecockref07_each.f (k + 1) a0 a1) := by
 intro a0 a1 k
 obtain ⟨ih0, ih1, ih2⟩ := shuttlecockref07_each.mono_l k
 unfold shuttlecockref07_each.f
 repeat' first
   | (with_reducible exact ih0 _ _ _)
   | (with_reducible exact ih1 _ _ _ _)
   | (with_reducible exact ih2 _ _ _ _)
   | (with_reducible exact LeO.refl _)
   | (with_reducible exact LeO.none _)
   | (with_reducible refine LeO.ite ?_ ?_)
   | (with_reducible refine LeO.bind ?_ (fun _ => ?_))
   | exact LeO.none _
   | refine LeO.ite ?_ ?_
   | refine LeO.bind ?_ (fun _ => ?_)
set_option maxHeartbeats 8000000 in
set_option maxRecDepth 100000 in
theorem shuttlecockref07_each.calls (k : Nat) (A0 : Option Addr) (c0 : Nat) (l0 : List Int) (a1 : Int) (r : Bool) (w : World) (hr0 : Kd.C (Kd.int .i64) w A0 l0.length l0) (hc0 : l0.length ≤ c0) (h : shuttlecockref07_each.f k l0 a1 = some r) :
  Calls Try.prog 32 #[.slice A0 l0.length c0, .int .i64 a1] w fun e w' => e = .returned (.bool r) ∧ Drawn0 w w' := by
 have HR0 := Am hr0
 have HC0 := Am hc0
 clear hr0 hc0
 have H : (shuttlecockref07_each.l0 k l0 a1 0) = some r := h
 clear h
 have H' := Am H
 clear H
 go_enter Try.func32, Try.ntmps32
 go_wp2
 repeat (go_quiet (fail); try go_wp2)
 go_loopg [5] k (fun kq v5 w' => ∃ (x5_1 : Int), v5 = .int .i64 x5_1 ∧ Aside0 (shuttlecockref07_each.l0 kq l0 a1 x5_1 = some r) ∧ Aside0 (kq ≤ k) ∧ Drawn0 w w')
 case atStart => exact ⟨(0), (by first | rfl | (simp; done) | (simp [*]; done) | (simp; generalize ByteArray.toList _ = l_; cases l_ <;> rfl)), H', ⟨Nat.le_refl _⟩, by repeat (first | exact Drawn0.refl _ | apply Drawn0.step)⟩
 case round =>
  clear H'
  try clear p2
  obtain ⟨x5_1, rfl, HA, HK1, ⟨m1, rfl⟩⟩ := hrel
  cases gk with
  | zero => exact absurd HA.out (by simp [shuttlecockref07_each.l0])
  | succ k1 =>
   have H := HA.out
   clear HA
   simp only [shuttlecockref07_each.l0] at H
   by_cases c3 : x5_1 < (l0.length : Int)
   ·
    rw [if_pos c3] at H
    have c3b0 : decide (x5_1 < (l0.length : Int)) = true := decide_eq_true c3
    clear c3
    have HC4 := Am H
    clear H
    go_upto_region 4 with (fail)
    repeat (go_quiet (fail); go_upto_region 4 with (fail))
    go_cut [25] (fun v25 wc => ∃ (kq : Nat) (x25_3 : Bool), v25 = .bool x25_3 ∧ Aside0 (shuttlecockref07_each.j1 kq l0 a1 x5_1 x25_3 = some r) ∧ Aside0 (kq ≤ k1) ∧ Drawn0 w wc)
    case first =>
     have H := HC4.out
     clear HC4
     by_cases c5 : 0 ≤ x5_1
     ·
      rw [if_pos c5] at H
      have c5b0 : decide (0 ≤ x5_1) = true := decide_eq_true c5
      clear c5
      (first | rw [c5b0] | rw [c5b9] | (simp only [i64_w, i32_w]; rw [c5b0]) | skip)
      by_cases c6 : (rd l0 x5_1) < 1
      ·
       rw [if_pos c6] at H
       have c6b0 : decide ((rd l0 x5_1) < 1) = true := decide_eq_true c6
       clear c6
       have H' := Am H
       clear H
       have p330 : 0 ≤ (x5_1 : Int) := dz
       have q330 : x5_1 < (l0.length : Int) := dz
       obtain ⟨ad330, e330, hx330_0⟩ := Kd.at_int HR0.out x5_1 p330 q330
       cases e330
       replace p330 := eq_true p330
       replace q330 := eq_true q330
       go_wp2
       repeat (go_quiet (fail); try go_wp2)
       go_meet
       case rel => exact ⟨_, (true), (by first | rfl | (simp; done) | (simp [*]; done) | (simp; generalize ByteArray.toList _ = l_; cases l_ <;> rfl)), H', ⟨by have := HK1.out; first | omega | exact Nat.le_refl _⟩, by repeat (first | exact Drawn0.refl _ | apply Drawn0.step)⟩
      ·
       rw [if_neg c6] at H
       have c6b0 : decide ((rd l0 x5_1) < 1) = false := decide_eq_false c6
       clear c6
       have H' := Am H
       clear H
       have p330 : 0 ≤ (x5_1 : Int) := dz
       have q330 : x5_1 < (l0.length : Int) := dz
       obtain ⟨ad330, e330, hx330_0⟩ := Kd.at_int HR0.out x5_1 p330 q330
       cases e330
       replace p330 := eq_true p330
       replace q330 := eq_true q330
       have p331 : 0 ≤ (x5_1 : Int) := dz
       have q331 : x5_1 < (l0.length : Int) := dz
       obtain ⟨ad331, e331, hx331_0⟩ := Kd.at_int HR0.out x5_1 p331 q331
       obtain rfl : ad330 = ad331 := (by injection e331)
       replace p331 := eq_true p331
       replace q331 := eq_true q331
       go_wp2
       repeat (go_quiet (fail); try go_wp2)
       go_meet
       case rel => exact ⟨_, (decide ((rd l0 x5_1) > a1)), (by first | rfl | (simp; done) | (simp [*]; done) | (simp; generalize ByteArray.toList _ = l_; cases l_ <;> rfl)), H', ⟨by have := HK1.out; first | omega | exact Nat.le_refl _⟩, by repeat (first | exact Drawn0.refl _ | apply Drawn0.step)⟩
     ·
      rw [if_neg c5] at H
      exact absurd H (by simp)
    case rest =>
     clear HC4
     try clear p2
     try clear c3
     try clear c3b0
     try clear p3
     try clear q3
     try clear hx3
     try clear c5
     try clear c5b0
     try clear c6
     try clear c6b0
     try clear hx330_0
     try clear hx331_0
     try clear p2
     try clear p330
     try clear p331
     try clear q330
     try clear q331
     obtain ⟨kq, x25_3, rfl, HA, HJ3, ⟨mc3, rfl⟩⟩ := hcut
     cases kq with
     | zero => exact absurd HA.out (by simp [shuttlecockref07_each.j1])
     | succ kj3 =>
      have H := HA.out
      clear HA
      simp only [shuttlecockref07_each.j1] at H
      by_cases c7 : x25_3 = true
      ·
       subst c7
       rw [if_pos rfl] at H
       obtain rfl := Option.some.inj H
       go_wp2
       repeat (go_quiet (fail); try go_wp2)
       go_ret
       exact ⟨by first | rfl | (simp; done) | (simp [*]; done), by repeat (first | exact Drawn0.refl _ | apply Drawn0.step)⟩
      ·
       replace c7 := Bool.eq_false_iff.mpr c7
       subst c7
       rw [if_neg (show ¬ (false = true) by decide)] at H
       have H' := Am H
       clear H
       go_wp2
       repeat (go_quiet (fail); try go_wp2)
       go_loopg [6] kj3 (fun kq v6 w' => ∃ (x6_3 : Int), v6 = .int .i64 x6_3 ∧ Aside0 (shuttlecockref07_each.l1 kq l0 a1 x5_1 x6_3 = some r) ∧ Aside0 (kq ≤ kj3) ∧ Drawn0 w w')
       case atStart => exact ⟨(0), (by first | rfl | (simp; done) | (simp [*]; done) | (simp; generalize ByteArray.toList _ = l_; cases l_ <;> rfl)), H', ⟨Nat.le_refl _⟩, by repeat (first | exact Drawn0.refl _ | apply Drawn0.step)⟩
       case round =>
        clear H'
        try clear p2
        try clear c3
        try clear c3b0
        try clear p3
        try clear q3
        try clear hx3
        try clear c5
        try clear c5b0
        try clear c6
        try clear c6b0
        try clear c7
        try clear hx330_0
        try clear hx331_0
        try clear p2
        try clear p3
        try clear p330
        try clear p331
        try clear q3
        try clear q330
        try clear q331
        obtain ⟨x6_3, rfl, HA, HK3, ⟨m3, rfl⟩⟩ := hrel
        cases gk with
        | zero => exact absurd HA.out (by simp [shuttlecockref07_each.l1])
        | succ k3 =>
         have H := HA.out
         clear HA
         simp only [shuttlecockref07_each.l1] at H
         by_cases c8 : x6_3 < x5_1
         ·
          rw [if_pos c8] at H
          have c8b0 : decide (x6_3 < x5_1) = true := decide_eq_true c8
          clear c8
          by_cases c9 : 0 ≤ x6_3
          ·
           rw [if_pos c9] at H
           have c9b0 : decide (0 ≤ x6_3) = true := decide_eq_true c9
           clear c9
           by_cases c10 : x6_3 < (l0.length : Int)
           ·
            rw [if_pos c10] at H
            have c10b0 : decide (x6_3 < (l0.length : Int)) = true := decide_eq_true c10
            clear c10
            by_cases c11 : 0 ≤ x5_1
            ·
             rw [if_pos c11] at H
             have c11b0 : decide (0 ≤ x5_1) = true := decide_eq_true c11
             clear c11
             by_cases c12 : x5_1 < (l0.length : Int)
             ·
              rw [if_pos c12] at H
              have c12b0 : decide (x5_1 < (l0.length : Int)) = true := decide_eq_true c12
              clear c12
              by_cases c13 : (rd l0 x6_3) = (rd l0 x5_1)
              ·
               rw [if_pos c13] at H
               have c13b0 : ((rd l0 x6_3) == (rd l0 x5_1)) = true := beq_iff_eq.mpr c13
               have c13b1 : ((rd l0 x6_3) != (rd l0 x5_1)) = false := bne_eq_false_iff_eq.mpr c13
               clear c13
               obtain rfl := Option.some.inj H
               have p332 : 0 ≤ (x6_3 : Int) := dz
               have q332 : x6_3 < (l0.length : Int) := dz
               obtain ⟨ad332, e332, hx332_0⟩ := Kd.at_int HR0.out x6_3 p332 q332
               cases e332
               replace p332 := eq_true p332
               replace q332 := eq_true q332
               have p333 : 0 ≤ (x5_1 : Int) := dz
               have q333 : x5_1 < (l0.length : Int) := dz
               obtain ⟨ad333, e333, hx333_0⟩ := Kd.at_int HR0.out x5_1 p333 q333
               obtain rfl : ad332 = ad333 := (by injection e333)
               replace p333 := eq_true p333
               replace q333 := eq_true q333
               go_wp2
               repeat (go_quiet (fail); try go_wp2)
               go_ret
               exact ⟨by first | rfl | (simp; done) | (simp [*]; done), by repeat (first | exact Drawn0.refl _ | apply Drawn0.step)⟩
              ·
               rw [if_neg c13] at H
               have c13b0 : ((rd l0 x6_3) == (rd l0 x5_1)) = false := beq_eq_false_iff_ne.mpr c13
               have c13b1 : ((rd l0 x6_3) != (rd l0 x5_1)) = true := bne_iff_ne.mpr c13
               have H' := Am H
               clear H
               have p332 : 0 ≤ (x6_3 : Int) := dz
               have q332 : x6_3 < (l0.length : Int) := dz
               obtain ⟨ad332, e332, hx332_0⟩ := Kd.at_int HR0.out x6_3 p332 q332
               cases e332
               replace p332 := eq_true p332
               replace q332 := eq_true q332
               have p333 : 0 ≤ (x5_1 : Int) := dz
               have q333 : x5_1 < (l0.length : Int) := dz
               obtain ⟨ad333, e333, hx333_0⟩ := Kd.at_int HR0.out x5_1 p333 q333
               obtain rfl : ad332 = ad333 := (by injection e333)
               replace p333 := eq_true p333
               replace q333 := eq_true q333
               go_wp2
               repeat (go_quiet (fail); try go_wp2)
               go_roundg k3
               case measure => have := HK1.out; have := HJ3.out; have := HK3.out; omega
               case rel => exact ⟨(wrap64 (x6_3 + 1)), (by first | rfl | (simp; done) | (simp [*]; done) | (simp; generalize ByteArray.toList _ = l_; cases l_ <;> rfl)), H', ⟨by have := HK1.out; have := HJ3.out; have := HK3.out; omega⟩, by repeat (first | exact Drawn0.refl _ | apply Drawn0.step)⟩
             ·
              rw [if_neg c12] at H
              exact absurd H (by simp)
            ·
             rw [if_neg c11] at H
             exact absurd H (by simp)
           ·
            rw [if_neg c10] at H
            exact absurd H (by simp)
          ·
           rw [if_neg c9] at H
           exact absurd H (by simp)
         ·
          rw [if_neg c8] at H
          have c8b0 : decide (x6_3 < x5_1) = false := decide_eq_false c8
          clear c8
          have H' := Am H
          clear H
          go_wp2
          repeat (go_quiet (fail); try go_wp2)
          go_roundg k3
          case measure => have := HK1.out; have := HJ3.out; have := HK3.out; omega
          case rel => exact ⟨(wrap64 (x5_1 + 1)), (by first | rfl | (simp; done) | (simp [*]; done) | (simp; generalize ByteArray.toList _ = l_; cases l_ <;> rfl)), H', ⟨by have := HK1.out; have := HJ3.out; have := HK3.out; omega⟩, by repeat (first | exact Drawn0.refl _ | apply Drawn0.step)⟩
   ·
    rw [if_neg c3] at H
    have c3b0 : decide (x5_1 < (l0.length : Int)) = false := decide_eq_false c3
    clear c3
    obtain rfl := Option.some.inj H
    go_wp2
    repeat (go_quiet (fail); try go_wp2)
    go_ret
    exact ⟨by first | rfl | (simp; done) | (simp [*]; done), by repeat (first | exact Drawn0.refl _ | apply Drawn0.step)⟩

/-! ### shuttlecockref02_Nums: function 33 -/
def shuttlecockref02_Nums.l0 : Nat → List Int → ByteArray → Int → Option (ByteArray)
 | 0, _, _, _ => none
 | k + 1, x0, x3, x4 => if x4 < (x0.length : Int) then (if 0 ≤ x4 then ((shuttlecockref01_Put.f k (rd x0 x4)).bind fun t335 => (if t335.toList = ([] : List UInt8) then (some (⟨#[]⟩ : ByteArray)) else ((shuttlecockref01_Put.f k (rd x0 x4)).bind fun t337 => (if x3.size + t337.size ≤ 9223372036854775807 then (shuttlecockref02_Nums.l0 k x0 (x3 ++ t337) (wrap64 (x4 + 1))) else (none))))) else (none)) else (some x3)
def shuttlecockref02_Nums.f (k : Nat) (l0 : List Int) : Option (ByteArray) := shuttlecockref02_Nums.l0 k l0 (⟨#[]⟩ : ByteArray) 0
theorem shuttlecockref02_Nums.mono_l : ∀ k, (∀ y0 y1 y2, LeO (shuttlecockref02_Nums.l0 k y0 y1 y2) (shuttlecockref02_Nums.l0 (k + 1) y0 y1 y2))
 | 0 => fun _ _ _ r h => by simp [shuttlecockref02_Nums.l0] at h
 | k + 1 => by
  have ih0 := shuttlecockref02_Nums.mono_l k
  ·
   intro y0 y1 y2
   unfold shuttlecockref02_Nums.l0
   repeat' first
   | (with_reducible exact ih0 _ _ _)
   | (with_reducible exact shuttlecockref01_Put.mono _ _)
   | (with_reducible exact LeO.refl _)
   | (with_reducible exact LeO.none _)
   | (with_reducible refine LeO.ite ?_ ?_)
   | (with_reducible refine LeO.bind ?_ (fun _ => ?_))
   | exact LeO.none _
   | refine LeO.ite ?_ ?_
   | refine LeO.bind ?_ (fun _ => ?_)
theorem shuttlecockref02_Nums.mono : ∀ a0 k, LeO (shuttlecockref02_Nums.f k a0) (shuttlecockref02_Nums.f (k + 1) a0) := by
 intro a0 k
 have ih0 := shuttlecockref02_Nums.mono_l k
 unfold shuttlecockref02_Nums.f
 repeat' first
   | (with_reducible exact ih0 _ _ _)
   | (with_reducible exact shuttlecockref01_Put.mono _ _)
   | (with_reducible exact LeO.refl _)
   | (with_reducible exact LeO.none _)
   | (with_reducible refine LeO.ite ?_ ?_)
   | (with_reducible refine LeO.bind ?_ (fun _ => ?_))
   | exact LeO.none _
   | refine LeO.ite ?_ ?_
   | refine LeO.bind ?_ (fun _ => ?_)
set_option maxHeartbeats 8000000 in
set_option maxRecDepth 100000 in
theorem shuttlecockref02_Nums.calls (k : Nat) (A0 : Option Addr) (c0 : Nat) (l0 : List Int) (r : ByteArray) (w : World) (hr0 : Kd.C (Kd.int .i64) w A0 l0.length l0) (hc0 : l0.length ≤ c0) (h : shuttlecockref02_Nums.f k l0 = some r) :
  Calls Try.prog 33 #[.slice A0 l0.length c0] w fun e w' => e = .returned (.string r) ∧ Below w.heap.size w w' := by
 have HR0 := Am hr0
 have HC0 := Am hc0
 clear hr0 hc0
 have HB := Am (Below.refl w.heap.size w)
 have H : (shuttlecockref02_Nums.l0 k l0 (⟨#[]⟩ : ByteArray) 0) = some r := h
 clear h
 have H' := Am H
 clear H
 go_enter Try.func33, Try.ntmps33
 go_wp2
 go_loopg [3, 4] k (fun kq v3 v4 w' => ∃ (x3_1 : ByteArray) (x4_1 : Int), v3 = .string x3_1 ∧ v4 = .int .i64 x4_1 ∧ Aside0 (shuttlecockref02_Nums.l0 kq l0 x3_1 x4_1 = some r) ∧ Aside0 (kq ≤ k) ∧ Aside0 (Below w.heap.size w w'))
 case atStart => exact ⟨((⟨#[]⟩ : ByteArray)), (0), (by first | rfl | (simp; done) | (simp [*]; done)), (by first | rfl | (simp; done) | (simp [*]; done) | (simp; generalize ByteArray.toList _ = l_; cases l_ <;> rfl)), H', ⟨Nat.le_refl _⟩, ⟨z3⟩⟩
 case round =>
  clear H'
  obtain ⟨x3_1, x4_1, rfl, rfl, HA, HK1, HB⟩ := hrel
  cases gk with
  | zero => exact absurd HA.out (by simp [shuttlecockref02_Nums.l0])
  | succ k1 =>
   have H := HA.out
   clear HA
   simp only [shuttlecockref02_Nums.l0] at H
   by_cases c2 : x4_1 < (l0.length : Int)
   ·
    rw [if_pos c2] at H
    have c2b0 : decide (x4_1 < (l0.length : Int)) = true := decide_eq_true c2
    clear c2
    by_cases c3 : 0 ≤ x4_1
    ·
     rw [if_pos c3] at H
     have c3b0 : decide (0 ≤ x4_1) = true := decide_eq_true c3
     clear c3
     replace H := ob H
     obtain ⟨t335, A40, H⟩ := H
     (try dsimp only at H)
     have A4 := Am A40
     clear A40
     by_cases c5 : t335.toList = ([] : List UInt8)
     ·
      rw [if_pos c5] at H
      have c5b0 : (t335.toList == ([] : List UInt8)) = true := beq_iff_eq.mpr c5
      try have c5b9 : (t335.toList).isEmpty = true := List.isEmpty_iff.2 c5
      have c5b1 : (t335.toList != ([] : List UInt8)) = false := bne_eq_false_iff_eq.mpr c5
      clear c5
      obtain rfl := Option.some.inj H
      have p334 : 0 ≤ (x4_1 : Int) := dz
      have q334 : x4_1 < (l0.length : Int) := dz
      obtain ⟨ad334, e334, hx334_0⟩ := Kd.at_int HR0.out x4_1 p334 q334
      cases e334
      replace hx334_0 := (HB.out.cell (World.block_lt_of_cell? w _ hx334_0)).trans hx334_0
      replace p334 := eq_true p334
      replace q334 := eq_true q334
      go_wp2_with (first | ((with_reducible refine gate_callee (f := 52) rfl ?_); refine Own.gL_ (some 15) Try.func52 (#[.int .i64 (rd l0 x4_1)]) (h := ?_); (with_reducible refine (shuttlecockref01_Put.calls k1 (rd l0 x4_1) t335 _ A4.out).mono ?_); rintro e w6 ⟨rfl, hb⟩; refine ⟨_, rfl, ?_⟩; replace HB := Am (below_step (z3) hb); clear hb))
      go_ret
      exact ⟨y0, z3⟩
     ·
      rw [if_neg c5] at H
      have c5b0 : (t335.toList == ([] : List UInt8)) = false := beq_eq_false_iff_ne.mpr c5
      try have c5b9 : (t335.toList).isEmpty = false := (by rw [List.isEmpty_eq_false_iff]; exact c5)
      have c5b1 : (t335.toList != ([] : List UInt8)) = true := bne_iff_ne.mpr c5
      replace H := ob H
      obtain ⟨t337, A70, H⟩ := H
      (try dsimp only at H)
      have A7 := Am A70
      clear A70
      by_cases c8 : x3_1.size + t337.size ≤ 9223372036854775807
      ·
       rw [if_pos c8] at H
       have c8b0 := eq_true c8
       have c8b1 : decide (x3_1.size + t337.size ≤ 9223372036854775807) = true := decide_eq_true c8
       try have c8b2 : (9223372036854775807 < x3_1.size + t337.size) = False := eq_false (Nat.not_lt.2 c8)
       have H' := Am H
       clear H
       have p334 : 0 ≤ (x4_1 : Int) := dz
       have q334 : x4_1 < (l0.length : Int) := dz
       obtain ⟨ad334, e334, hx334_0⟩ := Kd.at_int HR0.out x4_1 p334 q334
       cases e334
       replace hx334_0 := (HB.out.cell (World.block_lt_of_cell? w _ hx334_0)).trans hx334_0
       replace p334 := eq_true p334
       replace q334 := eq_true q334
       go_wp2_with (first | ((with_reducible refine gate_callee (f := 52) rfl ?_); refine Own.gL_ (some 15) Try.func52 (#[.int .i64 (rd l0 x4_1)]) (h := ?_); (with_reducible refine (shuttlecockref01_Put.calls k1 (rd l0 x4_1) t335 _ A4.out).mono ?_); rintro e w9 ⟨rfl, hb⟩; refine ⟨_, rfl, ?_⟩; replace HB := Am (below_step (z3) hb); clear hb; have p336 : 0 ≤ (x4_1 : Int) := dz; have q336 : x4_1 < (l0.length : Int) := dz; obtain ⟨ad336, e336, hx336_0⟩ := Kd.at_int HR0.out x4_1 p336 q336; obtain rfl : ad334 = ad336 := (by injection e336); replace hx336_0 := (HB.out.cell (World.block_lt_of_cell? w _ hx336_0)).trans hx336_0; replace p336 := eq_true p336; replace q336 := eq_true q336) | ((with_reducible refine gate_callee (f := 52) rfl ?_); refine Own.gL_ (some 22) Try.func52 (#[.int .i64 (rd l0 x4_1)]) (h := ?_); (with_reducible refine (shuttlecockref01_Put.calls k1 (rd l0 x4_1) t337 _ A7.out).mono ?_); rintro e w10 ⟨rfl, hb⟩; refine ⟨_, rfl, ?_⟩; replace HB := Am (below_step (z3) hb); clear hb))
       go_roundg k1
       case measure => have := HK1.out; omega
       case rel => exact ⟨(x3_1 ++ t337), (wrap64 (x4_1 + 1)), (by first | rfl | (simp; done) | (simp [*]; done)), (by first | rfl | (simp; done) | (simp [*]; done) | (simp; generalize ByteArray.toList _ = l_; cases l_ <;> rfl)), H', ⟨by have := HK1.out; omega⟩, ⟨z3⟩⟩
      ·
       rw [if_neg c8] at H
       exact absurd H (by simp)
    ·
     rw [if_neg c3] at H
     exact absurd H (by simp)
   ·
    rw [if_neg c2] at H
    have c2b0 : decide (x4_1 < (l0.length : Int)) = false := decide_eq_false c2
    clear c2
    obtain rfl := Option.some.inj H
    go_wp2
    go_ret
    exact ⟨y0, z3⟩

/-! ### shuttlecockref02_Text: function 34 -/
def shuttlecockref02_Text.f (k : Nat) (a0 : ByteArray) : Option (ByteArray) := (shuttlecockref01_Put.f k (a0.size : Int)).bind fun t338 => (if t338.size + a0.size ≤ 9223372036854775807 then (some (t338 ++ a0)) else (none))
theorem shuttlecockref02_Text.mono : ∀ a0 k, LeO (shuttlecockref02_Text.f k a0) (shuttlecockref02_Text.f (k + 1) a0) := by
 intro a0 k
 unfold shuttlecockref02_Text.f
 repeat' first
   | (with_reducible exact shuttlecockref01_Put.mono _ _)
   | (with_reducible exact LeO.refl _)
   | (with_reducible exact LeO.none _)
   | (with_reducible refine LeO.ite ?_ ?_)
   | (with_reducible refine LeO.bind ?_ (fun _ => ?_))
   | exact LeO.none _
   | refine LeO.ite ?_ ?_
   | refine LeO.bind ?_ (fun _ => ?_)
set_option maxHeartbeats 8000000 in
set_option maxRecDepth 100000 in
theorem shuttlecockref02_Text.calls (k : Nat) (a0 : ByteArray) (r : ByteArray) (w : World) (h : shuttlecockref02_Text.f k a0 = some r) :
  Calls Try.prog 34 #[.string a0] w fun e w' => e = .returned (.string r) ∧ Below w.heap.size w w' := by
 have HB := Am (Below.refl w.heap.size w)
 have H : ((shuttlecockref01_Put.f k (a0.size : Int)).bind fun t338 => (if t338.size + a0.size ≤ 9223372036854775807 then (some (t338 ++ a0)) else (none))) = some r := h
 clear h
 replace H := ob H
 obtain ⟨t338, A20, H⟩ := H
 (try dsimp only at H)
 have A2 := Am A20
 clear A20
 by_cases c3 : t338.size + a0.size ≤ 9223372036854775807
 ·
  rw [if_pos c3] at H
  have c3b0 := eq_true c3
  have c3b1 : decide (t338.size + a0.size ≤ 9223372036854775807) = true := decide_eq_true c3
  try have c3b2 : (9223372036854775807 < t338.size + a0.size) = False := eq_false (Nat.not_lt.2 c3)
  obtain rfl := Option.some.inj H
  go_enter Try.func34, Try.ntmps34
  go_wp2_with (first | ((with_reducible refine gate_callee (f := 52) rfl ?_); refine Own.gL_ (some 5) Try.func52 (#[.int .i64 (a0.size : Int)]) (h := ?_); (with_reducible refine (shuttlecockref01_Put.calls k (a0.size : Int) t338 _ A2.out).mono ?_); rintro e w4 ⟨rfl, hb⟩; refine ⟨_, rfl, ?_⟩; replace HB := Am (below_step (z3) hb); clear hb))
  go_ret
  exact ⟨y0, z3⟩
 ·
  rw [if_neg c3] at H
  exact absurd H (by simp)

end Go.Proofs.Ytlmmlmmbnfcogaa.Q
