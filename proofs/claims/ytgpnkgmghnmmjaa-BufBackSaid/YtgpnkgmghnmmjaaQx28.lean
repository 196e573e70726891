-- printed by a program of this session (NOTES: hprint); not the kit's print
-- minified
-- halved
import Derived.Test.YtgpnkgmghnmmjaaAl
import Derived.Test.YtgpnkgmghnmmjaaQx0
import Derived.Test.YtgpnkgmghnmmjaaQx29
namespace Go.Proofs.Ytgpnkgmghnmmjaa.Q
open Go.RowKit Go.Proofs.YtgpnkgmghnmmjaaW.PrintWords Go.Proofs.YtgpnkgmghnmmjaaW.PrintLast Go.Proofs.YtgpnkgmghnmmjaaW.PrintMore
attribute [local go_sem] max2_int min2_int max_two min_two max_three min_three max_four min_four   -- for this text's walks alone
set_option linter.unusedVariables false
set_option linter.unusedSimpArgs false

/-! ### shuttlecockref05_May: function 24 -/
def shuttlecockref05_May.f (a0_0 : Int) (a0_1 : Int) (a0_2 : Int) (a0_3 : ByteArray) : Option (Bool) := if a0_0 ≥ 1 then ((shuttlecockref04_Fits.f a0_0).bind fun t236 => (if t236 = true then ((shuttlecockref04_Fits.f a0_1).bind fun t237 => (if t237 = true then ((shuttlecockref04_Fits.f a0_2).bind fun t238 => (if t238 = true then (some (decide ((a0_3.size : Int) ≤ 65536))) else (some false))) else (some false))) else (some false))) else (some false)
set_option maxHeartbeats 8000000 in
set_option maxRecDepth 100000 in
theorem shuttlecockref05_May.calls (a0_0 : Int) (a0_1 : Int) (a0_2 : Int) (a0_3 : ByteArray) (r : Bool) (w : World) (h : shuttlecockref05_May.f a0_0 a0_1 a0_2 a0_3 = some r) :
  Calls Try.prog 24 #[.agg #[.int .i64 a0_0, .int .i64 a0_1, .int .i64 a0_2, .string a0_3]] w fun e w' => e = .returned (.bool r) ∧ Below w.heap.size w w' := by
 have hu35 := Try.underlying35
 have HB := Am (Below.refl w.heap.size w)
 have H : (if a0_0 ≥ 1 then ((shuttlecockref04_Fits.f a0_0).bind fun t236 => (if t236 = true then ((shuttlecockref04_Fits.f a0_1).bind fun t237 => (if t237 = true then ((shuttlecockref04_Fits.f a0_2).bind fun t238 => (if t238 = true then (some (decide ((a0_3.size : Int) ≤ 65536))) else (some false))) else (some false))) else (some false))) else (some false)) = some r := h
 clear h
 by_cases c2 : a0_0 ≥ 1
 ·
  rw [if_pos c2] at H
  have c2b0 : decide (1 ≤ a0_0) = true := decide_eq_true c2
  clear c2
  replace H := ob H
  obtain ⟨t236, A30, H⟩ := H
  replace H : (if t236 = true then ((shuttlecockref04_Fits.f a0_1).bind fun t237 => (if t237 = true then ((shuttlecockref04_Fits.f a0_2).bind fun t238 => (if t238 = true then (some (decide ((a0_3.size : Int) ≤ 65536))) else (some false))) else (some false))) else (some false)) = some r := H
  have A3 := Am A30
  clear A30
  by_cases c4 : t236 = true
  ·
   subst c4
   have H1 : ((shuttlecockref04_Fits.f a0_1).bind fun t237 => (if t237 = true then ((shuttlecockref04_Fits.f a0_2).bind fun t238 => (if t238 = true then (some (decide ((a0_3.size : Int) ≤ 65536))) else (some false))) else (some false))) = some r := by rw [if_pos rfl] at H; exact H
   clear H
   have H := H1
   clear H1
   replace H := ob H
   obtain ⟨t237, A50, H⟩ := H
   replace H : (if t237 = true then ((shuttlecockref04_Fits.f a0_2).bind fun t238 => (if t238 = true then (some (decide ((a0_3.size : Int) ≤ 65536))) else (some false))) else (some false)) = some r := H
   have A5 := Am A50
   clear A50
   by_cases c6 : t237 = true
   ·
    subst c6
    have H1 : ((shuttlecockref04_Fits.f a0_2).bind fun t238 => (if t238 = true then (some (decide ((a0_3.size : Int) ≤ 65536))) else (some false))) = some r := by rw [if_pos rfl] at H; exact H
    clear H
    have H := H1
    clear H1
    replace H := ob H
    obtain ⟨t238, A70, H⟩ := H
    replace H : (if t238 = true then (some (decide ((a0_3.size : Int) ≤ 65536))) else (some false)) = some r := H
    have A7 := Am A70
    clear A70
    by_cases c8 : t238 = true
    ·
     subst c8
     have H1 : (some (decide ((a0_3.size : Int) ≤ 65536))) = some r := by rw [if_pos rfl] at H; exact H
     clear H
     have H := H1
     clear H1
     obtain rfl := Option.some.inj H
     go_enter Try.func24, Try.ntmps24
     go_wp2_with (first | ((with_reducible refine gate_dst (N := 1) rfl ?_); (try (refine gate_guard (by rfl) ?_; dsimp only)); refine box_event ?hg (N := 1) ?hd (cs := #[.int .i64 a0_0, .int .i64 a0_1, .int .i64 a0_2, .string a0_3]) (t := 35) ?hr ?_; (case hd => rfl); (case hg => rfl); (case hr => first | (go_simp; done) | (go_simp; rfl)); intro gb235 hg w9 hbox hb; have n0_ := Am (below_step (by repeat (first | (with_reducible first | exact HB.out | apply bl | apply pN | apply b1) | exact HB.out | exact HBo.out)) hb); have n1_ := Am (hbox); have n2_ := Am ((by rw [hg]; exact (below_size (by repeat (first | (with_reducible first | exact HB.out | apply bl | apply pN | apply b1) | exact HB.out | exact HBo.out))) : w.heap.size ≤ gb235)); have n3_ := Am ((by rw [hg]; exact (below_size (by repeat (first | (with_reducible first | exact HB.out | apply bl | apply pN | apply b1) | exact HB.out | exact HBo.out))) : w.heap.size ≤ gb235)); clear HB; have HB := n0_; have BK235 := n1_; have GW235 := n2_; have GE235 := n3_; clear n0_ n1_ n2_ n3_; clear hb hbox hg; have hcz10_0 : w9.cell? ⟨gb235, 0, none⟩ = some (.int .i64 a0_0) := (bc BK235.out 0).trans rfl; have hcz10_1 : w9.cell? ⟨gb235, 1, none⟩ = some (.int .i64 a0_1) := (bc BK235.out 1).trans rfl; have hcz10_2 : w9.cell? ⟨gb235, 2, none⟩ = some (.int .i64 a0_2) := (bc BK235.out 2).trans rfl; have hcz10_3 : w9.cell? ⟨gb235, 3, none⟩ = some (.string a0_3) := (bc BK235.out 3).trans rfl; have hfz10_0 := bf BK235.out 0; have hfz10_1 := bf BK235.out 1; have hfz10_2 := bf BK235.out 2; have hfz10_3 := bf BK235.out 3) | (go_at_call 20; (with_reducible refine (shuttlecockref04_Fits.calls a0_0 true _ A3.out).mono ?_); rintro e w' ⟨rfl, ⟨nd, rfl⟩⟩) | (go_at_call 20; (with_reducible refine (shuttlecockref04_Fits.calls a0_1 true _ A5.out).mono ?_); rintro e w' ⟨rfl, ⟨nd, rfl⟩⟩) | (go_at_call 20; (with_reducible refine (shuttlecockref04_Fits.calls a0_2 true _ A7.out).mono ?_); rintro e w' ⟨rfl, ⟨nd, rfl⟩⟩))
     go_ret
     exact ⟨by first | rfl | (simp [errW_none, errW_some] <;> rfl) | (simp [*, errW_none, errW_some] <;> rfl) | (simp [Aid.ne_nil, Aid.eq_nil, errW_none, errW_some]; done), by repeat (first | (with_reducible first | exact HB.out | apply bl | apply pN | apply b1 | refine bs ?_ GE235.out) | exact HB.out | exact HBo.out)⟩
    ·
     replace c8 := Bool.eq_false_iff.mpr c8
     subst c8
     have H1 : (some false) = some r := by rw [if_neg (show ¬ (false = true) by decide)] at H; exact H
     clear H
     have H := H1
     clear H1
     obtain rfl := Option.some.inj H
     go_enter Try.func24, Try.ntmps24
     go_wp2_with (first | ((with_reducible refine gate_dst (N := 1) rfl ?_); (try (refine gate_guard (by rfl) ?_; dsimp only)); refine box_event ?hg (N := 1) ?hd (cs := #[.int .i64 a0_0, .int .i64 a0_1, .int .i64 a0_2, .string a0_3]) (t := 35) ?hr ?_; (case hd => rfl); (case hg => rfl); (case hr => first | (go_simp; done) | (go_simp; rfl)); intro gb235 hg w11 hbox hb; have n0_ := Am (below_step (by repeat (first | (with_reducible first | exact HB.out | apply bl | apply pN | apply b1) | exact HB.out | exact HBo.out)) hb); have n1_ := Am (hbox); have n2_ := Am ((by rw [hg]; exact (below_size (by repeat (first | (with_reducible first | exact HB.out | apply bl | apply pN | apply b1) | exact HB.out | exact HBo.out))) : w.heap.size ≤ gb235)); have n3_ := Am ((by rw [hg]; exact (below_size (by repeat (first | (with_reducible first | exact HB.out | apply bl | apply pN | apply b1) | exact HB.out | exact HBo.out))) : w.heap.size ≤ gb235)); clear HB; have HB := n0_; have BK235 := n1_; have GW235 := n2_; have GE235 := n3_; clear n0_ n1_ n2_ n3_; clear hb hbox hg; have hcz12_0 : w11.cell? ⟨gb235, 0, none⟩ = some (.int .i64 a0_0) := (bc BK235.out 0).trans rfl; have hcz12_1 : w11.cell? ⟨gb235, 1, none⟩ = some (.int .i64 a0_1) := (bc BK235.out 1).trans rfl; have hcz12_2 : w11.cell? ⟨gb235, 2, none⟩ = some (.int .i64 a0_2) := (bc BK235.out 2).trans rfl; have hcz12_3 : w11.cell? ⟨gb235, 3, none⟩ = some (.string a0_3) := (bc BK235.out 3).trans rfl; have hfz12_0 := bf BK235.out 0; have hfz12_1 := bf BK235.out 1; have hfz12_2 := bf BK235.out 2; have hfz12_3 := bf BK235.out 3) | (go_at_call 20; (with_reducible refine (shuttlecockref04_Fits.calls a0_0 true _ A3.out).mono ?_); rintro e w' ⟨rfl, ⟨nd, rfl⟩⟩) | (go_at_call 20; (with_reducible refine (shuttlecockref04_Fits.calls a0_1 true _ A5.out).mono ?_); rintro e w' ⟨rfl, ⟨nd, rfl⟩⟩) | (go_at_call 20; (with_reducible refine (shuttlecockref04_Fits.calls a0_2 false _ A7.out).mono ?_); rintro e w' ⟨rfl, ⟨nd, rfl⟩⟩))
     go_ret
     exact ⟨by first | rfl | (simp [errW_none, errW_some] <;> rfl) | (simp [*, errW_none, errW_some] <;> rfl) | (simp [Aid.ne_nil, Aid.eq_nil, errW_none, errW_some]; done), by repeat (first | (with_reducible first | exact HB.out | apply bl | apply pN | apply b1 | refine bs ?_ GE235.out) | exact HB.out | exact HBo.out)⟩
   ·
    replace c6 := Bool.eq_false_iff.mpr c6
    subst c6
    have H1 : (some false) = some r := by rw [if_neg (show ¬ (false = true) by decide)] at H; exact H
    clear H
    have H := H1
    clear H1
    obtain rfl := Option.some.inj H
    go_enter Try.func24, Try.ntmps24
    go_wp2_with (first | ((with_reducible refine gate_dst (N := 1) rfl ?_); (try (refine gate_guard (by rfl) ?_; dsimp only)); refine box_event ?hg (N := 1) ?hd (cs := #[.int .i64 a0_0, .int .i64 a0_1, .int .i64 a0_2, .string a0_3]) (t := 35) ?hr ?_; (case hd => rfl); (case hg => rfl); (case hr => first | (go_simp; done) | (go_simp; rfl)); intro gb235 hg w13 hbox hb; have n0_ := Am (below_step (by repeat (first | (with_reducible first | exact HB.out | apply bl | apply pN | apply b1) | exact HB.out | exact HBo.out)) hb); have n1_ := Am (hbox); have n2_ := Am ((by rw [hg]; exact (below_size (by repeat (first | (with_reducible first | exact HB.out | apply bl | apply pN | apply b1) | exact HB.out | exact HBo.out))) : w.heap.size ≤ gb235)); have n3_ := Am ((by rw [hg]; exact (below_size (by repeat (first | (with_reducible first | exact HB.out | apply bl | apply pN | apply b1) | exact HB.out | exact HBo.out))) : w.heap.size ≤ gb235)); clear HB; have HB := n0_; have BK235 := n1_; have GW235 := n2_; have GE235 := n3_; clear n0_ n1_ n2_ n3_; clear hb hbox hg; have hcz14_0 : w13.cell? ⟨gb235, 0, none⟩ = some (.int .i64 a0_0) := (bc BK235.out 0).trans rfl; have hcz14_1 : w13.cell? ⟨gb235, 1, none⟩ = some (.int .i64 a0_1) := (bc BK235.out 1).trans rfl; have hcz14_2 : w13.cell? ⟨gb235, 2, none⟩ = some (.int .i64 a0_2) := (bc BK235.out 2).trans rfl; have hcz14_3 : w13.cell? ⟨gb235, 3, none⟩ = some (.string a0_3) := (bc BK235.out 3).trans rfl; have hfz14_0 := bf BK235.out 0; have hfz14_1 := bf BK235.out 1; have hfz14_2 := bf BK235.out 2; have hfz14_3 := bf BK235.out 3) | (go_at_call 20; (with_reducible refine (shuttlecockref04_Fits.calls a0_0 true _ A3.out).mono ?_); rintro e w' ⟨rfl, ⟨nd, rfl⟩⟩) | (go_at_call 20; (with_reducible refine (shuttlecockref04_Fits.calls a0_1 false _ A5.out).mono ?_); rintro e w' ⟨rfl, ⟨nd, rfl⟩⟩))
    go_ret
    exact ⟨by first | rfl | (simp [errW_none, errW_some] <;> rfl) | (simp [*, errW_none, errW_some] <;> rfl) | (simp [Aid.ne_nil, Aid.eq_nil, errW_none, errW_some]; done), by repeat (first | (with_reducible first | exact HB.out | apply bl | apply pN | apply b1 | refine bs ?_ GE235.out) | exact HB.out | exact HBo.out)⟩
  ·
   replace c4 := Bool.eq_false_iff.mpr c4
   subst c4
   have H1 : (some false) = some r := by rw [if_neg (show ¬ (false = true) by decide)] at H; exact H
   clear H
   have H := H1
   clear H1
   obtain rfl := Option.some.inj H
   go_enter Try.func24, Try.ntmps24
   go_wp2_with (first | ((with_reducible refine gate_dst (N := 1) rfl ?_); (try (refine gate_guard (by rfl) ?_; dsimp only)); refine box_event ?hg (N := 1) ?hd (cs := #[.int .i64 a0_0, .int .i64 a0_1, .int .i64 a0_2, .string a0_3]) (t := 35) ?hr ?_; (case hd => rfl); (case hg => rfl); (case hr => first | (go_simp; done) | (go_simp; rfl)); intro gb235 hg w15 hbox hb; have n0_ := Am (below_step (by repeat (first | (with_reducible first | exact HB.out | apply bl | apply pN | apply b1) | exact HB.out | exact HBo.out)) hb); have n1_ := Am (hbox); have n2_ := Am ((by rw [hg]; exact (below_size (by repeat (first | (with_reducible first | exact HB.out | apply bl | apply pN | apply b1) | exact HB.out | exact HBo.out))) : w.heap.size ≤ gb235)); have n3_ := Am ((by rw [hg]; exact (below_size (by repeat (first | (with_reducible first | exact HB.out | apply bl | apply pN | apply b1) | exact HB.out | exact HBo.out))) : w.heap.size ≤ gb235)); clear HB; have HB := n0_; have BK235 := n1_; have GW235 := n2_; have GE235 := n3_; clear n0_ n1_ n2_ n3_; clear hb hbox hg; have hcz16_0 : w15.cell? ⟨gb235, 0, none⟩ = some (.int .i64 a0_0) := (bc BK235.out 0).trans rfl; have hcz16_1 : w15.cell? ⟨gb235, 1, none⟩ = some (.int .i64 a0_1) := (bc BK235.out 1).trans rfl; have hcz16_2 : w15.cell? ⟨gb235, 2, none⟩ = some (.int .i64 a0_2) := (bc BK235.out 2).trans rfl; have hcz16_3 : w15.cell? ⟨gb235, 3, none⟩ = some (.string a0_3) := (bc BK235.out 3).trans rfl; have hfz16_0 := bf BK235.out 0; have hfz16_1 := bf BK235.out 1; have hfz16_2 := bf BK235.out 2; have hfz16_3 := bf BK235.out 3) | (go_at_call 20; (with_reducible refine (shuttlecockref04_Fits.calls a0_0 false _ A3.out).mono ?_); rintro e w' ⟨rfl, ⟨nd, rfl⟩⟩))
   go_ret
   exact ⟨by first | rfl | (simp [errW_none, errW_some] <;> rfl) | (simp [*, errW_none, errW_some] <;> rfl) | (simp [Aid.ne_nil, Aid.eq_nil, errW_none, errW_some]; done), by repeat (first | (with_reducible first | exact HB.out | apply bl | apply pN | apply b1 | refine bs ?_ GE235.out) | exact HB.out | exact HBo.out)⟩
 ·
  rw [if_neg c2] at H
  have c2b0 : decide (1 ≤ a0_0) = false := decide_eq_false c2
  clear c2
  obtain rfl := Option.some.inj H
  go_enter Try.func24, Try.ntmps24
  go_wp2_with (first | ((with_reducible refine gate_dst (N := 1) rfl ?_); (try (refine gate_guard (by rfl) ?_; dsimp only)); refine box_event ?hg (N := 1) ?hd (cs := #[.int .i64 a0_0, .int .i64 a0_1, .int .i64 a0_2, .string a0_3]) (t := 35) ?hr ?_; (case hd => rfl); (case hg => rfl); (case hr => first | (go_simp; done) | (go_simp; rfl)); intro gb235 hg w17 hbox hb; have n0_ := Am (below_step (by repeat (first | (with_reducible first | exact HB.out | apply bl | apply pN | apply b1) | exact HB.out | exact HBo.out)) hb); have n1_ := Am (hbox); have n2_ := Am ((by rw [hg]; exact (below_size (by repeat (first | (with_reducible first | exact HB.out | apply bl | apply pN | apply b1) | exact HB.out | exact HBo.out))) : w.heap.size ≤ gb235)); have n3_ := Am ((by rw [hg]; exact (below_size (by repeat (first | (with_reducible first | exact HB.out | apply bl | apply pN | apply b1) | exact HB.out | exact HBo.out))) : w.heap.size ≤ gb235)); clear HB; have HB := n0_; have BK235 := n1_; have GW235 := n2_; have GE235 := n3_; clear n0_ n1_ n2_ n3_; clear hb hbox hg; have hcz18_0 : w17.cell? ⟨gb235, 0, none⟩ = some (.int .i64 a0_0) := (bc BK235.out 0).trans rfl; have hcz18_1 : w17.cell? ⟨gb235, 1, none⟩ = some (.int .i64 a0_1) := (bc BK235.out 1).trans rfl; have hcz18_2 : w17.cell? ⟨gb235, 2, none⟩ = some (.int .i64 a0_2) := (bc BK235.out 2).trans rfl; have hcz18_3 : w17.cell? ⟨gb235, 3, none⟩ = some (.string a0_3) := (bc BK235.out 3).trans rfl; have hfz18_0 := bf BK235.out 0; have hfz18_1 := bf BK235.out 1; have hfz18_2 := bf BK235.out 2; have hfz18_3 := bf BK235.out 3))
  go_ret
  exact ⟨by first | rfl | (simp [errW_none, errW_some] <;> rfl) | (simp [*, errW_none, errW_some] <;> rfl) | (simp [Aid.ne_nil, Aid.eq_nil, errW_none, errW_some]; done), by repeat (first | (with_reducible first | exact HB.out | apply bl | apply pN | apply b1 | refine bs ?_ GE235.out) | exact HB.out | exact HBo.out)⟩

end Go.Proofs.Ytgpnkgmghnmmjaa.Q
