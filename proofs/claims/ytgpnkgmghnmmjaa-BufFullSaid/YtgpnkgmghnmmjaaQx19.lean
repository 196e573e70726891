-- printed by a program of this session (NOTES: hprint); not the kit's print
-- minified
-- halved
import Derived.Test.YtgpnkgmghnmmjaaAl
import Derived.Test.YtgpnkgmghnmmjaaQx0
import Derived.Test.YtgpnkgmghnmmjaaQx25
import Derived.Test.YtgpnkgmghnmmjaaQy
import Derived.Test.YtgpnkgmghnmmjaaQx8
namespace Go.Proofs.Ytgpnkgmghnmmjaa.Q
open Go.RowKit Go.Proofs.YtgpnkgmghnmmjaaW.PrintWords Go.Proofs.YtgpnkgmghnmmjaaW.PrintLast Go.Proofs.YtgpnkgmghnmmjaaW.PrintMore
attribute [local go_sem] max2_int min2_int max_two min_two max_three min_three max_four min_four   -- for this text's walks alone
set_option linter.unusedVariables false
set_option linter.unusedSimpArgs false

/-! ### shuttlecocklaw19_BufFull: function 6 -/
def shuttlecocklaw19_BufFull.j0 : Nat → Int → Bool → Int → Int → Int → ByteArray → Option (Bool)
 | 0, _, _, _, _, _, _ => none
 | k + 1, x1, x15, x386000, x386001, x386002, x386003 => if x15 = true then ((shuttlecocklaw19_fixed.f k).bind fun t387 => (some t387)) else ((buf_Seal.f x386000 x386001 x386002 x386003 x1).bind fun bt388 => ((buf_Full.f x386000 x386001 x386002 x386003 (wrap64 ((x386003.size : Int) + 1))).bind fun t399 => (if t399 = true then (none) else ((buf_Full.f x386000 x386001 x386002 x386003 (x386003.size : Int)).bind fun t400 => (if t400 = true then (if bt388.2.2.2.2.2.2.2.2 = true then (if bt388.2.2.2.2.2.2.2.1.toList = ([] : List UInt8) then ((buf_Full.f bt388.2.2.2.2.1 bt388.2.2.2.2.2.1 bt388.2.2.2.2.2.2.1 bt388.2.2.2.2.2.2.2.1 1).bind fun t401 => (if t401 = true then (none) else (if bt388.2.2.2.1.toList = x386003.toList then (if bt388.1 = x1 then (some (bt388.2.2.1 == x386001)) else (none)) else (none)))) else (none)) else (some true)) else (none))))))
def shuttlecocklaw19_BufFull.f (k : Nat) (a0_0 : Int) (a0_1 : Int) (a0_2 : Int) (a0_3 : ByteArray) (a1 : Int) : Option (Bool) := (shuttlecocklaw19_fixed.f k).bind fun t386 => (if t386 = true then (shuttlecocklaw19_BufFull.j0 k a1 (decide ((a0_3.size : Int) > 3000)) a0_0 a0_1 a0_2 a0_3) else (shuttlecocklaw19_BufFull.j0 k a1 true a0_0 a0_1 a0_2 a0_3))
theorem shuttlecocklaw19_BufFull.mono_l : ∀ k, (∀ y0 y1 y2 y3 y4 y5, LeO (shuttlecocklaw19_BufFull.j0 k y0 y1 y2 y3 y4 y5) (shuttlecocklaw19_BufFull.j0 (k + 1) y0 y1 y2 y3 y4 y5))
 | 0 => fun _ _ _ _ _ _ r h => by simp [shuttlecocklaw19_BufFull.j0] at h
 | k + 1 => by
  have ih0 := shuttlecocklaw19_BufFull.mono_l k
  ·
   intro y0 y1 y2 y3 y4 y5
   unfold shuttlecocklaw19_BufFull.j0
   repeat' first
   | (with_reducible exact ih0 _ _ _ _ _ _)
   | (with_reducible exact shuttlecocklaw19_fixed.mono _)
   | (with_reducible exact LeO.refl _)
   | (with_reducible exact LeO.none _)
   | (with_reducible refine LeO.ite ?_ ?_)
   | (with_reducible refine LeO.bind ?_ (fun _ => ?_))
   | exact ih0 _ _ _ _ _ _
   | exact shuttlecocklaw19_fixed.mono _
   | exact LeO.none _
   | refine LeO.ite ?_ ?_
   | refine LeO.bind ?_ (fun _ => ?_)
theorem shuttlecocklaw19_BufFull.mono : ∀ a0 a1 a2 a3 a4 k, LeO (shuttlecocklaw19_BufFull.f k a0 a1 a2 a3 a4) (shuttlecocklaw19_BufFull.f (k + 1) a0 a1 a2 a3 a4) := by
 intro a0 a1 a2 a3 a4 k
 have ih0 := shuttlecocklaw19_BufFull.mono_l k
 unfold shuttlecocklaw19_BufFull.f
 repeat' first
   | (with_reducible exact ih0 _ _ _ _ _ _)
   | (with_reducible exact shuttlecocklaw19_fixed.mono _)
   | (with_reducible exact LeO.refl _)
   | (with_reducible exact LeO.none _)
   | (with_reducible refine LeO.ite ?_ ?_)
   | (with_reducible refine LeO.bind ?_ (fun _ => ?_))
   | exact ih0 _ _ _ _ _ _
   | exact shuttlecocklaw19_fixed.mono _
   | exact LeO.none _
   | refine LeO.ite ?_ ?_
   | refine LeO.bind ?_ (fun _ => ?_)
set_option maxHeartbeats 8000000 in
set_option maxRecDepth 100000 in
theorem shuttlecocklaw19_BufFull.calls (k : Nat) (a0_0 : Int) (a0_1 : Int) (a0_2 : Int) (a0_3 : ByteArray) (a1 : Int) (r : Bool) (w : World) (h : shuttlecocklaw19_BufFull.f k a0_0 a0_1 a0_2 a0_3 a1 = some r) :
  Calls Try.prog 6 #[.agg #[.int .i64 a0_0, .int .i64 a0_1, .int .i64 a0_2, .string a0_3], .int .i64 a1] w fun e w' => e = .returned (.bool r) ∧ Below w.heap.size w w' := by
 have hu23 := Try.underlying23
 have hu35 := Try.underlying35
 have HB := Am (Below.refl w.heap.size w)
 have H : ((shuttlecocklaw19_fixed.f k).bind fun t386 => (if t386 = true then (shuttlecocklaw19_BufFull.j0 k a1 (decide ((a0_3.size : Int) > 3000)) a0_0 a0_1 a0_2 a0_3) else (shuttlecocklaw19_BufFull.j0 k a1 true a0_0 a0_1 a0_2 a0_3))) = some r := h
 clear h
 have HC3 := Am H
 clear H
 go_enter Try.func6, Try.ntmps6
 go_upto_region 1 with (first | ((with_reducible refine gate_dst (N := 2) rfl ?_); (try (refine gate_guard (by rfl) ?_; dsimp only)); refine box_event ?hg (N := 2) ?hd (cs := #[.int .i64 a0_0, .int .i64 a0_1, .int .i64 a0_2, .string a0_3]) (t := 23) ?hr ?_; (case hd => rfl); (case hg => rfl); (case hr => first | (go_simp; done) | (go_simp; rfl)); intro gb385 hg w4 hbox hb; have n0_ := Am (below_step (by repeat (first | (with_reducible first | exact HB.out | apply bl | apply pN | apply b1) | exact HB.out | exact HBo.out)) hb); have n1_ := Am (hbox); have n2_ := Am ((by rw [hg]; exact (below_size (by repeat (first | (with_reducible first | exact HB.out | apply bl | apply pN | apply b1) | exact HB.out | exact HBo.out))) : w.heap.size ≤ gb385)); have n3_ := Am ((by rw [hg]; exact (below_size (by repeat (first | (with_reducible first | exact HB.out | apply bl | apply pN | apply b1) | exact HB.out | exact HBo.out))) : w.heap.size ≤ gb385)); clear HB; have HB := n0_; have BK385 := n1_; have GW385 := n2_; have GE385 := n3_; clear n0_ n1_ n2_ n3_; clear hb hbox hg))
 (try simp only [Act.put, sI, sZ, sS])
 go_cut [15] (fun v15 wc => ∃ (kq : Nat) (x15_2 : Bool), v15 = .bool x15_2 ∧ Aside0 (shuttlecocklaw19_BufFull.j0 kq a1 x15_2 a0_0 a0_1 a0_2 a0_3 = some r) ∧ Aside0 (kq ≤ k) ∧ Aside0 (wc.heap[gb385]? = some (.cells #[.int .i64 a0_0, .int .i64 a0_1, .int .i64 a0_2, .string a0_3] 23 (0, 0))) ∧ Aside0 (Below w.heap.size w wc))
 case first =>
  have H := HC3.out
  clear HC3
  replace H := ob H
  obtain ⟨t386, A50, H⟩ := H
  replace H : (if t386 = true then (shuttlecocklaw19_BufFull.j0 k a1 (decide ((a0_3.size : Int) > 3000)) a0_0 a0_1 a0_2 a0_3) else (shuttlecocklaw19_BufFull.j0 k a1 true a0_0 a0_1 a0_2 a0_3)) = some r := H
  have A5 := Am A50
  clear A50
  by_cases c6 : t386 = true
  ·
   subst c6
   have H1 : (shuttlecocklaw19_BufFull.j0 k a1 (decide ((a0_3.size : Int) > 3000)) a0_0 a0_1 a0_2 a0_3) = some r := by rw [if_pos rfl] at H; exact H
   clear H
   have H := H1
   clear H1
   have H' := Am H
   clear H
   go_wp2_with (first | ((with_reducible refine gate_callee (f := 9) rfl ?_); refine goesL_ (some 8) rfl rfl Try.func9 (by kernel_rfl) rfl #[] rfl (by (try simp only [List.map_toArray, List.map_cons, List.map_nil]); first | done | rfl | (simp only [List.length_drop, List.length_take]; rfl)) ?_; (with_reducible refine (shuttlecocklaw19_fixed.calls k  true _ A5.out).mono ?_); rintro e w7 ⟨rfl, hb⟩; refine ⟨_, rfl, ?_⟩; have n0_ := Am (blk_below (g := gb385) (o := .cells #[.int .i64 a0_0, .int .i64 a0_1, .int .i64 a0_2, .string a0_3] 23 (0, 0)) (by (with_reducible repeat (first | refine bn ?_ _ | refine bd ?_ | refine ba ?_ _)); exact BK385.out) hb); have n1_ := Am (below_step (by repeat (first | (with_reducible first | exact HB.out | apply bl | apply pN | apply b1 | refine bs ?_ GE385.out) | exact HB.out | exact HBo.out)) hb); clear BK385; clear HB; have BK385 := n0_; have HB := n1_; clear n0_ n1_; (try clear hb); (try clear hb2); (try clear hk); (try clear hi); have hcz8_0 : w7.cell? ⟨gb385, 0, none⟩ = some (.int .i64 a0_0) := (bc BK385.out 0).trans rfl; have hcz8_1 : w7.cell? ⟨gb385, 1, none⟩ = some (.int .i64 a0_1) := (bc BK385.out 1).trans rfl; have hcz8_2 : w7.cell? ⟨gb385, 2, none⟩ = some (.int .i64 a0_2) := (bc BK385.out 2).trans rfl; have hcz8_3 : w7.cell? ⟨gb385, 3, none⟩ = some (.string a0_3) := (bc BK385.out 3).trans rfl; have hfz8_0 := bf BK385.out 0; have hfz8_1 := bf BK385.out 1; have hfz8_2 := bf BK385.out 2; have hfz8_3 := bf BK385.out 3))
   go_meet
   case rel => exact ⟨_, (decide ((a0_3.size : Int) > 3000)), (by first | rfl | (simp; done) | (simp [*]; done)), H', ⟨by first | omega | exact Nat.le_refl _⟩, ⟨by (with_reducible repeat (first | refine bn ?_ _ | refine bd ?_ | refine ba ?_ _)); exact BK385.out⟩, ⟨by repeat (first | (with_reducible first | exact HB.out | apply bl | apply pN | apply b1 | refine bs ?_ GE385.out) | exact HB.out | exact HBo.out)⟩⟩
  ·
   replace c6 := Bool.eq_false_iff.mpr c6
   subst c6
   have H1 : (shuttlecocklaw19_BufFull.j0 k a1 true a0_0 a0_1 a0_2 a0_3) = some r := by rw [if_neg (show ¬ (false = true) by decide)] at H; exact H
   clear H
   have H := H1
   clear H1
   have H' := Am H
   clear H
   go_wp2_with (first | ((with_reducible refine gate_callee (f := 9) rfl ?_); refine goesL_ (some 8) rfl rfl Try.func9 (by kernel_rfl) rfl #[] rfl (by (try simp only [List.map_toArray, List.map_cons, List.map_nil]); first | done | rfl | (simp only [List.length_drop, List.length_take]; rfl)) ?_; (with_reducible refine (shuttlecocklaw19_fixed.calls k  false _ A5.out).mono ?_); rintro e w9 ⟨rfl, hb⟩; refine ⟨_, rfl, ?_⟩; have n0_ := Am (blk_below (g := gb385) (o := .cells #[.int .i64 a0_0, .int .i64 a0_1, .int .i64 a0_2, .string a0_3] 23 (0, 0)) (by (with_reducible repeat (first | refine bn ?_ _ | refine bd ?_ | refine ba ?_ _)); exact BK385.out) hb); have n1_ := Am (below_step (by repeat (first | (with_reducible first | exact HB.out | apply bl | apply pN | apply b1 | refine bs ?_ GE385.out) | exact HB.out | exact HBo.out)) hb); clear BK385; clear HB; have BK385 := n0_; have HB := n1_; clear n0_ n1_; (try clear hb); (try clear hb2); (try clear hk); (try clear hi)))
   go_meet
   case rel => exact ⟨_, (true), (by first | rfl | (simp; done) | (simp [*]; done)), H', ⟨by first | omega | exact Nat.le_refl _⟩, ⟨by (with_reducible repeat (first | refine bn ?_ _ | refine bd ?_ | refine ba ?_ _)); exact BK385.out⟩, ⟨by repeat (first | (with_reducible first | exact HB.out | apply bl | apply pN | apply b1 | refine bs ?_ GE385.out) | exact HB.out | exact HBo.out)⟩⟩
 case rest =>
  clear HC3
  try clear p2
  try clear c6
  try clear c9
  try clear hcz8_0
  try clear hcz8_1
  try clear hcz8_2
  try clear hcz8_3
  try clear hfz8_0
  try clear hfz8_1
  try clear hfz8_2
  try clear hfz8_3
  obtain ⟨kq, x15_2, rfl, HA, HJ2, BK385, HB⟩ := hcut
  cases kq with
  | zero => exact absurd HA.out (by simp [shuttlecocklaw19_BufFull.j0])
  | succ kj2 =>
   have H := HA.out
   clear HA
   simp only [shuttlecocklaw19_BufFull.j0] at H
   by_cases c10 : x15_2 = true
   ·
    subst c10
    have H1 : ((shuttlecocklaw19_fixed.f kj2).bind fun t387 => (some t387)) = some r := by rw [if_pos rfl] at H; exact H
    clear H
    have H := H1
    clear H1
    replace H := ob H
    obtain ⟨t387, A110, H⟩ := H
    replace H : (some t387) = some r := H
    have A11 := Am A110
    clear A110
    obtain rfl := Option.some.inj H
    go_wp2_with (first | ((with_reducible refine gate_callee (f := 9) rfl ?_); refine goesL_ (some 16) rfl rfl Try.func9 (by kernel_rfl) rfl #[] rfl (by (try simp only [List.map_toArray, List.map_cons, List.map_nil]); first | done | rfl | (simp only [List.length_drop, List.length_take]; rfl)) ?_; (with_reducible refine (shuttlecocklaw19_fixed.calls kj2  t387 _ A11.out).mono ?_); rintro e w12 ⟨rfl, hb⟩; refine ⟨_, rfl, ?_⟩; have n0_ := Am (blk_below (g := gb385) (o := .cells #[.int .i64 a0_0, .int .i64 a0_1, .int .i64 a0_2, .string a0_3] 23 (0, 0)) (by (with_reducible repeat (first | refine bn ?_ _ | refine bd ?_ | refine ba ?_ _)); exact BK385.out) hb); have n1_ := Am (below_step (by repeat (first | (with_reducible first | exact HB.out | apply bl | apply pN | apply b1 | refine bs ?_ GE385.out) | exact HB.out | exact HBo.out)) hb); clear BK385; clear HB; have BK385 := n0_; have HB := n1_; clear n0_ n1_; (try clear hb); (try clear hb2); (try clear hk); (try clear hi)))
    go_ret
    exact ⟨by first | rfl | (simp [errW_none, errW_some] <;> rfl) | (simp [*, errW_none, errW_some] <;> rfl) | (simp [Aid.ne_nil, Aid.eq_nil, errW_none, errW_some]; done), by repeat (first | (with_reducible first | exact HB.out | apply bl | apply pN | apply b1 | refine bs ?_ GE385.out) | exact HB.out | exact HBo.out)⟩
   ·
    replace c10 := Bool.eq_false_iff.mpr c10
    subst c10
    have H1 : ((buf_Seal.f a0_0 a0_1 a0_2 a0_3 a1).bind fun bt388 => ((buf_Full.f a0_0 a0_1 a0_2 a0_3 (wrap64 ((a0_3.size : Int) + 1))).bind fun t399 => (if t399 = true then (none) else ((buf_Full.f a0_0 a0_1 a0_2 a0_3 (a0_3.size : Int)).bind fun t400 => (if t400 = true then (if bt388.2.2.2.2.2.2.2.2 = true then (if bt388.2.2.2.2.2.2.2.1.toList = ([] : List UInt8) then ((buf_Full.f bt388.2.2.2.2.1 bt388.2.2.2.2.2.1 bt388.2.2.2.2.2.2.1 bt388.2.2.2.2.2.2.2.1 1).bind fun t401 => (if t401 = true then (none) else (if bt388.2.2.2.1.toList = a0_3.toList then (if bt388.1 = a1 then (some (bt388.2.2.1 == a0_1)) else (none)) else (none)))) else (none)) else (some true)) else (none)))))) = some r := by rw [if_neg (show ¬ (false = true) by decide)] at H; exact H
    clear H
    have H := H1
    clear H1
    replace H := ob H
    obtain ⟨⟨t388, t389, t390, t391, t392, t393, t394, t395, t396⟩, A130, H⟩ := H
    replace H : ((buf_Full.f a0_0 a0_1 a0_2 a0_3 (wrap64 ((a0_3.size : Int) + 1))).bind fun t399 => (if t399 = true then (none) else ((buf_Full.f a0_0 a0_1 a0_2 a0_3 (a0_3.size : Int)).bind fun t400 => (if t400 = true then (if t396 = true then (if t395.toList = ([] : List UInt8) then ((buf_Full.f t392 t393 t394 t395 1).bind fun t401 => (if t401 = true then (none) else (if t391.toList = a0_3.toList then (if t388 = a1 then (some (t390 == a0_1)) else (none)) else (none)))) else (none)) else (some true)) else (none))))) = some r := H
    have A13 := Am A130
    clear A130
    replace H := ob H
    obtain ⟨t399, A140, H⟩ := H
    replace H : (if t399 = true then (none) else ((buf_Full.f a0_0 a0_1 a0_2 a0_3 (a0_3.size : Int)).bind fun t400 => (if t400 = true then (if t396 = true then (if t395.toList = ([] : List UInt8) then ((buf_Full.f t392 t393 t394 t395 1).bind fun t401 => (if t401 = true then (none) else (if t391.toList = a0_3.toList then (if t388 = a1 then (some (t390 == a0_1)) else (none)) else (none)))) else (none)) else (some true)) else (none)))) = some r := H
    have A14 := Am A140
    clear A140
    by_cases c15 : t399 = true
    ·
     subst c15
     have H1 : (none) = some r := by rw [if_pos rfl] at H; exact H
     clear H
     have H := H1
     clear H1
     exact absurd H (by simp)
    ·
     replace c15 := Bool.eq_false_iff.mpr c15
     subst c15
     have H1 : ((buf_Full.f a0_0 a0_1 a0_2 a0_3 (a0_3.size : Int)).bind fun t400 => (if t400 = true then (if t396 = true then (if t395.toList = ([] : List UInt8) then ((buf_Full.f t392 t393 t394 t395 1).bind fun t401 => (if t401 = true then (none) else (if t391.toList = a0_3.toList then (if t388 = a1 then (some (t390 == a0_1)) else (none)) else (none)))) else (none)) else (some true)) else (none))) = some r := by rw [if_neg (show ¬ (false = true) by decide)] at H; exact H
     clear H
     have H := H1
     clear H1
     replace H := ob H
     obtain ⟨t400, A160, H⟩ := H
     replace H : (if t400 = true then (if t396 = true then (if t395.toList = ([] : List UInt8) then ((buf_Full.f t392 t393 t394 t395 1).bind fun t401 => (if t401 = true then (none) else (if t391.toList = a0_3.toList then (if t388 = a1 then (some (t390 == a0_1)) else (none)) else (none)))) else (none)) else (some true)) else (none)) = some r := H
     have A16 := Am A160
     clear A160
     by_cases c17 : t400 = true
     ·
      subst c17
      have H1 : (if t396 = true then (if t395.toList = ([] : List UInt8) then ((buf_Full.f t392 t393 t394 t395 1).bind fun t401 => (if t401 = true then (none) else (if t391.toList = a0_3.toList then (if t388 = a1 then (some (t390 == a0_1)) else (none)) else (none)))) else (none)) else (some true)) = some r := by rw [if_pos rfl] at H; exact H
      clear H
      have H := H1
      clear H1
      by_cases c18 : t396 = true
      ·
       subst c18
       have H1 : (if t395.toList = ([] : List UInt8) then ((buf_Full.f t392 t393 t394 t395 1).bind fun t401 => (if t401 = true then (none) else (if t391.toList = a0_3.toList then (if t388 = a1 then (some (t390 == a0_1)) else (none)) else (none)))) else (none)) = some r := by rw [if_pos rfl] at H; exact H
       clear H
       have H := H1
       clear H1
       by_cases c19 : t395.toList = ([] : List UInt8)
       ·
        rw [if_pos c19] at H
        have c19b0 : (t395.toList == ([] : List UInt8)) = true := beq_iff_eq.mpr c19
        try have c19b9 : (t395.toList).isEmpty = true := List.isEmpty_iff.2 c19
        have c19b1 : (t395.toList != ([] : List UInt8)) = false := bne_eq_false_iff_eq.mpr c19
        clear c19
        replace H := ob H
        obtain ⟨t401, A200, H⟩ := H
        replace H : (if t401 = true then (none) else (if t391.toList = a0_3.toList then (if t388 = a1 then (some (t390 == a0_1)) else (none)) else (none))) = some r := H
        have A20 := Am A200
        clear A200
        by_cases c21 : t401 = true
        ·
         subst c21
         have H1 : (none) = some r := by rw [if_pos rfl] at H; exact H
         clear H
         have H := H1
         clear H1
         exact absurd H (by simp)
        ·
         replace c21 := Bool.eq_false_iff.mpr c21
         subst c21
         have H1 : (if t391.toList = a0_3.toList then (if t388 = a1 then (some (t390 == a0_1)) else (none)) else (none)) = some r := by rw [if_neg (show ¬ (false = true) by decide)] at H; exact H
         clear H
         have H := H1
         clear H1
         by_cases c22 : t391.toList = a0_3.toList
         ·
          rw [if_pos c22] at H
          have c22b0 : (t391.toList == a0_3.toList) = true := beq_iff_eq.mpr c22
          have c22b1 : (t391.toList != a0_3.toList) = false := bne_eq_false_iff_eq.mpr c22
          clear c22
          by_cases c23 : t388 = a1
          ·
           rw [if_pos c23] at H
           have c23b0 : (t388 == a1) = true := beq_iff_eq.mpr c23
           have c23b1 : (t388 != a1) = false := bne_eq_false_iff_eq.mpr c23
           clear c23
           obtain rfl := Option.some.inj H
           have hcz24_0 : wc.cell? ⟨gb385, 0, none⟩ = some (.int .i64 a0_0) := (bc BK385.out 0).trans rfl
           have hcz24_1 : wc.cell? ⟨gb385, 1, none⟩ = some (.int .i64 a0_1) := (bc BK385.out 1).trans rfl
           have hcz24_2 : wc.cell? ⟨gb385, 2, none⟩ = some (.int .i64 a0_2) := (bc BK385.out 2).trans rfl
           have hcz24_3 : wc.cell? ⟨gb385, 3, none⟩ = some (.string a0_3) := (bc BK385.out 3).trans rfl
           have hfz24_0 := bf BK385.out 0
           have hfz24_1 := bf BK385.out 1
           have hfz24_2 := bf BK385.out 2
           have hfz24_3 := bf BK385.out 3
           go_wp2_with (first | ((with_reducible refine gate_callee (f := 12) rfl ?_); refine goesL_ (some 20) rfl rfl Try.func12 (by kernel_rfl) rfl #[.agg #[.int .i64 a0_0, .int .i64 a0_1, .int .i64 a0_2, .string a0_3], .int .i64 a1] rfl (by (try simp only [List.map_toArray, List.map_cons, List.map_nil]); first | done | rfl | (simp only [List.length_drop, List.length_take]; rfl)) ?_; (with_reducible refine (buf_Seal.calls a0_0 a0_1 a0_2 a0_3 a1 t388 t389 t390 t391 t392 t393 t394 t395 true _ A13.out).mono ?_); rintro e w25 ⟨rfl, hb⟩; refine ⟨_, rfl, ?_⟩; have n0_ := Am (blk_below (g := gb385) (o := .cells #[.int .i64 a0_0, .int .i64 a0_1, .int .i64 a0_2, .string a0_3] 23 (0, 0)) (by (with_reducible repeat (first | refine bn ?_ _ | refine bd ?_ | refine ba ?_ _)); exact BK385.out) hb); have n1_ := Am (below_step (by repeat (first | (with_reducible first | exact HB.out | apply bl | apply pN | apply b1 | refine bs ?_ GE385.out) | exact HB.out | exact HBo.out)) hb); clear BK385; clear HB; have BK385 := n0_; have HB := n1_; clear n0_ n1_; (try clear hb); (try clear hb2); (try clear hk); (try clear hi)) | ((with_reducible refine gate_dst (N := 5) rfl ?_); (try (refine gate_guard (by rfl) ?_; dsimp only)); refine box_event ?hg (N := 5) ?hd (cs := #[.int .i64 0, .int .i64 0, .int .i64 0, .string (⟨#[]⟩ : ByteArray)]) (t := 35) ?hr ?_; (case hd => rfl); (case hg => rfl); (case hr => first | (go_simp; done) | (go_simp; rfl)); intro gb397 hg w26 hbox hb; have n0_ := Am (blk_below (g := gb385) (o := .cells #[.int .i64 a0_0, .int .i64 a0_1, .int .i64 a0_2, .string a0_3] 23 (0, 0)) (by (with_reducible repeat (first | refine bn ?_ _ | refine bd ?_ | refine ba ?_ _)); exact BK385.out) hb); have n1_ := Am (below_step (by repeat (first | (with_reducible first | exact HB.out | apply bl | apply pN | apply b1 | refine bs ?_ GE385.out) | exact HB.out | exact HBo.out)) hb); have n2_ := Am (hbox); have n3_ := Am ((by rw [hg]; exact (below_size (by repeat (first | (with_reducible first | exact HB.out | apply bl | apply pN | apply b1 | refine bs ?_ GE385.out) | exact HB.out | exact HBo.out))) : w.heap.size ≤ gb397)); have n4_ := Am ((by rw [hg]; exact (below_size (by repeat (first | (with_reducible first | exact HB.out | apply bl | apply pN | apply b1 | refine bs ?_ GE385.out) | exact HB.out | exact HBo.out))) : w.heap.size ≤ gb397)); have n5_ := Am ((by rw [hg]; exact Nat.ne_of_lt (blk_lt (g := gb385) (o := .cells #[.int .i64 a0_0, .int .i64 a0_1, .int .i64 a0_2, .string a0_3] 23 (0, 0)) (by (with_reducible repeat (first | refine bn ?_ _ | refine bd ?_ | refine ba ?_ _)); exact BK385.out)) : gb385 ≠ gb397)); have n6_ := Am ((by rw [hg]; exact Nat.ne_of_gt (blk_lt (g := gb385) (o := .cells #[.int .i64 a0_0, .int .i64 a0_1, .int .i64 a0_2, .string a0_3] 23 (0, 0)) (by (with_reducible repeat (first | refine bn ?_ _ | refine bd ?_ | refine ba ?_ _)); exact BK385.out)) : gb397 ≠ gb385)); clear BK385; clear HB; have BK385 := n0_; have HB := n1_; have BK397 := n2_; have GW397 := n3_; have GE397 := n4_; have NB385_397 := n5_; have NB397_385 := n6_; clear n0_ n1_ n2_ n3_ n4_ n5_ n6_; clear hb hbox hg) | ((with_reducible refine gate_dst (N := 6) rfl ?_); (try (refine gate_guard (by rfl) ?_; dsimp only)); refine box_event ?hg (N := 6) ?hd (cs := #[.int .i64 0, .int .i64 0, .int .i64 0, .string (⟨#[]⟩ : ByteArray)]) (t := 23) ?hr ?_; (case hd => rfl); (case hg => rfl); (case hr => first | (go_simp; done) | (go_simp; rfl)); intro gb398 hg w27 hbox hb; have n0_ := Am (blk_below (g := gb385) (o := .cells #[.int .i64 a0_0, .int .i64 a0_1, .int .i64 a0_2, .string a0_3] 23 (0, 0)) (by (with_reducible repeat (first | refine bn ?_ _ | refine bd ?_ | refine ba ?_ _)); exact BK385.out) hb); have n1_ := Am (blk_below (g := gb397) (o := .cells #[.int .i64 0, .int .i64 0, .int .i64 0, .string (⟨#[]⟩ : ByteArray)] 35 (0, 0)) (by (with_reducible repeat (first | refine bn ?_ _ | refine bd ?_ | refine ba ?_ _)); exact BK397.out) hb); have n2_ := Am (below_step (by repeat (first | (with_reducible first | exact HB.out | apply bl | apply pN | apply b1 | refine bs ?_ GE385.out | refine bs ?_ GE397.out) | exact HB.out | exact HBo.out)) hb); have n3_ := Am (hbox); have n4_ := Am ((by rw [hg]; exact (below_size (by repeat (first | (with_reducible first | exact HB.out | apply bl | apply pN | apply b1 | refine bs ?_ GE385.out | refine bs ?_ GE397.out) | exact HB.out | exact HBo.out))) : w.heap.size ≤ gb398)); have n5_ := Am ((by rw [hg]; exact (below_size (by repeat (first | (with_reducible first | exact HB.out | apply bl | apply pN | apply b1 | refine bs ?_ GE385.out | refine bs ?_ GE397.out) | exact HB.out | exact HBo.out))) : w.heap.size ≤ gb398)); have n6_ := Am ((by rw [hg]; exact Nat.ne_of_lt (blk_lt (g := gb385) (o := .cells #[.int .i64 a0_0, .int .i64 a0_1, .int .i64 a0_2, .string a0_3] 23 (0, 0)) (by (with_reducible repeat (first | refine bn ?_ _ | refine bd ?_ | refine ba ?_ _)); exact BK385.out)) : gb385 ≠ gb398)); have n7_ := Am ((by rw [hg]; exact Nat.ne_of_gt (blk_lt (g := gb385) (o := .cells #[.int .i64 a0_0, .int .i64 a0_1, .int .i64 a0_2, .string a0_3] 23 (0, 0)) (by (with_reducible repeat (first | refine bn ?_ _ | refine bd ?_ | refine ba ?_ _)); exact BK385.out)) : gb398 ≠ gb385)); have n8_ := Am ((by rw [hg]; exact Nat.ne_of_lt (blk_lt (g := gb397) (o := .cells #[.int .i64 0, .int .i64 0, .int .i64 0, .string (⟨#[]⟩ : ByteArray)] 35 (0, 0)) (by (with_reducible repeat (first | refine bn ?_ _ | refine bd ?_ | refine ba ?_ _)); exact BK397.out)) : gb397 ≠ gb398)); have n9_ := Am ((by rw [hg]; exact Nat.ne_of_gt (blk_lt (g := gb397) (o := .cells #[.int .i64 0, .int .i64 0, .int .i64 0, .string (⟨#[]⟩ : ByteArray)] 35 (0, 0)) (by (with_reducible repeat (first | refine bn ?_ _ | refine bd ?_ | refine ba ?_ _)); exact BK397.out)) : gb398 ≠ gb397)); clear BK385; clear BK397; clear HB; have BK385 := n0_; have BK397 := n1_; have HB := n2_; have BK398 := n3_; have GW398 := n4_; have GE398 := n5_; have NB385_398 := n6_; have NB398_385 := n7_; have NB397_398 := n8_; have NB398_397 := n9_; clear n0_ n1_ n2_ n3_ n4_ n5_ n6_ n7_ n8_ n9_; clear hb hbox hg; have hnb28 := NB397_385.out; have hnc28 := NB385_397.out; have hnb29 := NB397_398.out; have hnc29 := NB398_397.out; have hcz30_0 : w27.cell? ⟨gb397, 0, none⟩ = some (.int .i64 0) := (bc BK397.out 0).trans rfl; have hcz30_1 : w27.cell? ⟨gb397, 1, none⟩ = some (.int .i64 0) := (bc BK397.out 1).trans rfl; have hcz30_2 : w27.cell? ⟨gb397, 2, none⟩ = some (.int .i64 0) := (bc BK397.out 2).trans rfl; have hcz30_3 : w27.cell? ⟨gb397, 3, none⟩ = some (.string (⟨#[]⟩ : ByteArray)) := (bc BK397.out 3).trans rfl; have hfz30_0 := bf BK397.out 0; have hfz30_1 := bf BK397.out 1; have hfz30_2 := bf BK397.out 2; have hfz30_3 := bf BK397.out 3; have hnb31 := NB398_385.out; have hnc31 := NB385_398.out; have hcz32_0 : w27.cell? ⟨gb398, 0, none⟩ = some (.int .i64 0) := (bc BK398.out 0).trans rfl; have hcz32_1 : w27.cell? ⟨gb398, 1, none⟩ = some (.int .i64 0) := (bc BK398.out 1).trans rfl; have hcz32_2 : w27.cell? ⟨gb398, 2, none⟩ = some (.int .i64 0) := (bc BK398.out 2).trans rfl; have hcz32_3 : w27.cell? ⟨gb398, 3, none⟩ = some (.string (⟨#[]⟩ : ByteArray)) := (bc BK398.out 3).trans rfl; have hfz32_0 := bf BK398.out 0; have hfz32_1 := bf BK398.out 1; have hfz32_2 := bf BK398.out 2; have hfz32_3 := bf BK398.out 3; have hcz33_0 : w27.cell? ⟨gb385, 0, none⟩ = some (.int .i64 a0_0) := (bc BK385.out 0).trans rfl; have hcz33_1 : w27.cell? ⟨gb385, 1, none⟩ = some (.int .i64 a0_1) := (bc BK385.out 1).trans rfl; have hcz33_2 : w27.cell? ⟨gb385, 2, none⟩ = some (.int .i64 a0_2) := (bc BK385.out 2).trans rfl; have hcz33_3 : w27.cell? ⟨gb385, 3, none⟩ = some (.string a0_3) := (bc BK385.out 3).trans rfl; have hfz33_0 := bf BK385.out 0; have hfz33_1 := bf BK385.out 1; have hfz33_2 := bf BK385.out 2; have hfz33_3 := bf BK385.out 3) | ((with_reducible refine gate_callee (f := 14) rfl ?_); refine goesL_ (some 29) rfl rfl Try.func14 (by kernel_rfl) rfl #[.agg #[.int .i64 a0_0, .int .i64 a0_1, .int .i64 a0_2, .string a0_3], .int .i64 (wrap64 ((a0_3.size : Int) + 1))] rfl (by (try simp only [List.map_toArray, List.map_cons, List.map_nil]); first | done | rfl | (simp only [List.length_drop, List.length_take]; rfl)) ?_; (with_reducible refine (buf_Full.calls a0_0 a0_1 a0_2 a0_3 (wrap64 ((a0_3.size : Int) + 1)) false _ A14.out).mono ?_); rintro e w34 ⟨rfl, hb⟩; refine ⟨_, rfl, ?_⟩; have n0_ := Am (blk_below (g := gb385) (o := .cells #[.int .i64 a0_0, .int .i64 a0_1, .int .i64 a0_2, .string a0_3] 23 (0, 0)) (by (with_reducible repeat (first | refine bn ?_ _ | refine bd ?_ | refine ba ?_ _)); refine blk_far ?_ NB385_398.out _; (with_reducible repeat (first | refine bn ?_ _ | refine bd ?_ | refine ba ?_ _)); refine blk_far ?_ NB385_398.out _; (with_reducible repeat (first | refine bn ?_ _ | refine bd ?_ | refine ba ?_ _)); refine blk_far ?_ NB385_398.out _; (with_reducible repeat (first | refine bn ?_ _ | refine bd ?_ | refine ba ?_ _)); refine blk_far ?_ NB385_398.out _; (with_reducible repeat (first | refine bn ?_ _ | refine bd ?_ | refine ba ?_ _)); refine blk_far ?_ NB385_397.out _; (with_reducible repeat (first | refine bn ?_ _ | refine bd ?_ | refine ba ?_ _)); refine blk_far ?_ NB385_397.out _; (with_reducible repeat (first | refine bn ?_ _ | refine bd ?_ | refine ba ?_ _)); refine blk_far ?_ NB385_397.out _; (with_reducible repeat (first | refine bn ?_ _ | refine bd ?_ | refine ba ?_ _)); refine blk_far ?_ NB385_397.out _; (with_reducible repeat (first | refine bn ?_ _ | refine bd ?_ | refine ba ?_ _)); exact BK385.out) hb); have n1_ := Am (blk_below (g := gb397) (o := .cells #[.int .i64 t388, .int .i64 t389, .int .i64 t390, .string t391] 35 (0, 0)) (by (with_reducible repeat (first | refine bn ?_ _ | refine bd ?_ | refine ba ?_ _)); refine blk_far ?_ NB397_398.out _; (with_reducible repeat (first | refine bn ?_ _ | refine bd ?_ | refine ba ?_ _)); refine blk_far ?_ NB397_398.out _; (with_reducible repeat (first | refine bn ?_ _ | refine bd ?_ | refine ba ?_ _)); refine blk_far ?_ NB397_398.out _; (with_reducible repeat (first | refine bn ?_ _ | refine bd ?_ | refine ba ?_ _)); refine blk_far ?_ NB397_398.out _; (with_reducible repeat (first | refine bn ?_ _ | refine bd ?_ | refine ba ?_ _)); refine blk_put (cs := #[.int .i64 t388, .int .i64 t389, .int .i64 t390, .string (⟨#[]⟩ : ByteArray)]) ?_ 3 _ rfl; (with_reducible repeat (first | refine bn ?_ _ | refine bd ?_ | refine ba ?_ _)); refine blk_put (cs := #[.int .i64 t388, .int .i64 t389, .int .i64 0, .string (⟨#[]⟩ : ByteArray)]) ?_ 2 _ rfl; (with_reducible repeat (first | refine bn ?_ _ | refine bd ?_ | refine ba ?_ _)); refine blk_put (cs := #[.int .i64 t388, .int .i64 0, .int .i64 0, .string (⟨#[]⟩ : ByteArray)]) ?_ 1 _ rfl; (with_reducible repeat (first | refine bn ?_ _ | refine bd ?_ | refine ba ?_ _)); refine blk_put (cs := #[.int .i64 0, .int .i64 0, .int .i64 0, .string (⟨#[]⟩ : ByteArray)]) ?_ 0 _ rfl; (with_reducible repeat (first | refine bn ?_ _ | refine bd ?_ | refine ba ?_ _)); exact BK397.out) hb); have n2_ := Am (blk_below (g := gb398) (o := .cells #[.int .i64 t392, .int .i64 t393, .int .i64 t394, .string t395] 23 (0, 0)) (by (with_reducible repeat (first | refine bn ?_ _ | refine bd ?_ | refine ba ?_ _)); refine blk_put (cs := #[.int .i64 t392, .int .i64 t393, .int .i64 t394, .string (⟨#[]⟩ : ByteArray)]) ?_ 3 _ rfl; (with_reducible repeat (first | refine bn ?_ _ | refine bd ?_ | refine ba ?_ _)); refine blk_put (cs := #[.int .i64 t392, .int .i64 t393, .int .i64 0, .string (⟨#[]⟩ : ByteArray)]) ?_ 2 _ rfl; (with_reducible repeat (first | refine bn ?_ _ | refine bd ?_ | refine ba ?_ _)); refine blk_put (cs := #[.int .i64 t392, .int .i64 0, .int .i64 0, .string (⟨#[]⟩ : ByteArray)]) ?_ 1 _ rfl; (with_reducible repeat (first | refine bn ?_ _ | refine bd ?_ | refine ba ?_ _)); refine blk_put (cs := #[.int .i64 0, .int .i64 0, .int .i64 0, .string (⟨#[]⟩ : ByteArray)]) ?_ 0 _ rfl; (with_reducible repeat (first | refine bn ?_ _ | refine bd ?_ | refine ba ?_ _)); refine blk_far ?_ NB398_397.out _; (with_reducible repeat (first | refine bn ?_ _ | refine bd ?_ | refine ba ?_ _)); refine blk_far ?_ NB398_397.out _; (with_reducible repeat (first | refine bn ?_ _ | refine bd ?_ | refine ba ?_ _)); refine blk_far ?_ NB398_397.out _; (with_reducible repeat (first | refine bn ?_ _ | refine bd ?_ | refine ba ?_ _)); refine blk_far ?_ NB398_397.out _; (with_reducible repeat (first | refine bn ?_ _ | refine bd ?_ | refine ba ?_ _)); exact BK398.out) hb); have n3_ := Am (below_step (by repeat (first | (with_reducible first | exact HB.out | apply bl | apply pN | apply b1 | refine bs ?_ GE385.out | refine bs ?_ GE397.out | refine bs ?_ GE398.out) | exact HB.out | exact HBo.out)) hb); clear BK385; clear BK397; clear BK398; clear HB; have BK385 := n0_; have BK397 := n1_; have BK398 := n2_; have HB := n3_; clear n0_ n1_ n2_ n3_; (try clear hb); (try clear hb2); (try clear hk); (try clear hi); have hcz35_0 : w34.cell? ⟨gb385, 0, none⟩ = some (.int .i64 a0_0) := (bc BK385.out 0).trans rfl; have hcz35_1 : w34.cell? ⟨gb385, 1, none⟩ = some (.int .i64 a0_1) := (bc BK385.out 1).trans rfl; have hcz35_2 : w34.cell? ⟨gb385, 2, none⟩ = some (.int .i64 a0_2) := (bc BK385.out 2).trans rfl; have hcz35_3 : w34.cell? ⟨gb385, 3, none⟩ = some (.string a0_3) := (bc BK385.out 3).trans rfl; have hfz35_0 := bf BK385.out 0; have hfz35_1 := bf BK385.out 1; have hfz35_2 := bf BK385.out 2; have hfz35_3 := bf BK385.out 3) | (go_at_call 14; (with_reducible refine (buf_Full.calls a0_0 a0_1 a0_2 a0_3 (a0_3.size : Int) true _ A16.out).mono ?_); rintro e w36 ⟨rfl, hb⟩; have n0_ := Am (blk_below (g := gb385) (o := .cells #[.int .i64 a0_0, .int .i64 a0_1, .int .i64 a0_2, .string a0_3] 23 (0, 0)) (by (with_reducible repeat (first | refine bn ?_ _ | refine bd ?_ | refine ba ?_ _)); exact BK385.out) hb); have n1_ := Am (blk_below (g := gb397) (o := .cells #[.int .i64 t388, .int .i64 t389, .int .i64 t390, .string t391] 35 (0, 0)) (by (with_reducible repeat (first | refine bn ?_ _ | refine bd ?_ | refine ba ?_ _)); exact BK397.out) hb); have n2_ := Am (blk_below (g := gb398) (o := .cells #[.int .i64 t392, .int .i64 t393, .int .i64 t394, .string t395] 23 (0, 0)) (by (with_reducible repeat (first | refine bn ?_ _ | refine bd ?_ | refine ba ?_ _)); exact BK398.out) hb); have n3_ := Am (below_step (by repeat (first | (with_reducible first | exact HB.out | apply bl | apply pN | apply b1 | refine bs ?_ GE385.out | refine bs ?_ GE397.out | refine bs ?_ GE398.out) | exact HB.out | exact HBo.out)) hb); clear BK385; clear BK397; clear BK398; clear HB; have BK385 := n0_; have BK397 := n1_; have BK398 := n2_; have HB := n3_; clear n0_ n1_ n2_ n3_; (try clear hb); (try clear hb2); (try clear hk); (try clear hi); have hcz37_0 : w36.cell? ⟨gb398, 0, none⟩ = some (.int .i64 t392) := (bc BK398.out 0).trans rfl; have hcz37_1 : w36.cell? ⟨gb398, 1, none⟩ = some (.int .i64 t393) := (bc BK398.out 1).trans rfl; have hcz37_2 : w36.cell? ⟨gb398, 2, none⟩ = some (.int .i64 t394) := (bc BK398.out 2).trans rfl; have hcz37_3 : w36.cell? ⟨gb398, 3, none⟩ = some (.string t395) := (bc BK398.out 3).trans rfl; have hfz37_0 := bf BK398.out 0; have hfz37_1 := bf BK398.out 1; have hfz37_2 := bf BK398.out 2; have hfz37_3 := bf BK398.out 3) | (go_at_call 14; (with_reducible refine (buf_Full.calls t392 t393 t394 t395 1 false _ A20.out).mono ?_); rintro e w38 ⟨rfl, hb⟩; have n0_ := Am (blk_below (g := gb385) (o := .cells #[.int .i64 a0_0, .int .i64 a0_1, .int .i64 a0_2, .string a0_3] 23 (0, 0)) (by (with_reducible repeat (first | refine bn ?_ _ | refine bd ?_ | refine ba ?_ _)); exact BK385.out) hb); have n1_ := Am (blk_below (g := gb397) (o := .cells #[.int .i64 t388, .int .i64 t389, .int .i64 t390, .string t391] 35 (0, 0)) (by (with_reducible repeat (first | refine bn ?_ _ | refine bd ?_ | refine ba ?_ _)); exact BK397.out) hb); have n2_ := Am (blk_below (g := gb398) (o := .cells #[.int .i64 t392, .int .i64 t393, .int .i64 t394, .string t395] 23 (0, 0)) (by (with_reducible repeat (first | refine bn ?_ _ | refine bd ?_ | refine ba ?_ _)); exact BK398.out) hb); have n3_ := Am (below_step (by repeat (first | (with_reducible first | exact HB.out | apply bl | apply pN | apply b1 | refine bs ?_ GE385.out | refine bs ?_ GE397.out | refine bs ?_ GE398.out) | exact HB.out | exact HBo.out)) hb); clear BK385; clear BK397; clear BK398; clear HB; have BK385 := n0_; have BK397 := n1_; have BK398 := n2_; have HB := n3_; clear n0_ n1_ n2_ n3_; (try clear hb); (try clear hb2); (try clear hk); (try clear hi); have hcz39_0 : w38.cell? ⟨gb397, 0, none⟩ = some (.int .i64 t388) := (bc BK397.out 0).trans rfl; have hcz39_1 : w38.cell? ⟨gb397, 1, none⟩ = some (.int .i64 t389) := (bc BK397.out 1).trans rfl; have hcz39_2 : w38.cell? ⟨gb397, 2, none⟩ = some (.int .i64 t390) := (bc BK397.out 2).trans rfl; have hcz39_3 : w38.cell? ⟨gb397, 3, none⟩ = some (.string t391) := (bc BK397.out 3).trans rfl; have hfz39_0 := bf BK397.out 0; have hfz39_1 := bf BK397.out 1; have hfz39_2 := bf BK397.out 2; have hfz39_3 := bf BK397.out 3; have hcz40_0 : w38.cell? ⟨gb385, 0, none⟩ = some (.int .i64 a0_0) := (bc BK385.out 0).trans rfl; have hcz40_1 : w38.cell? ⟨gb385, 1, none⟩ = some (.int .i64 a0_1) := (bc BK385.out 1).trans rfl; have hcz40_2 : w38.cell? ⟨gb385, 2, none⟩ = some (.int .i64 a0_2) := (bc BK385.out 2).trans rfl; have hcz40_3 : w38.cell? ⟨gb385, 3, none⟩ = some (.string a0_3) := (bc BK385.out 3).trans rfl; have hfz40_0 := bf BK385.out 0; have hfz40_1 := bf BK385.out 1; have hfz40_2 := bf BK385.out 2; have hfz40_3 := bf BK385.out 3))
           go_ret
           exact ⟨by first | rfl | (simp [errW_none, errW_some] <;> rfl) | (simp [*, errW_none, errW_some] <;> rfl) | (simp [Aid.ne_nil, Aid.eq_nil, errW_none, errW_some]; done), by repeat (first | (with_reducible first | exact HB.out | apply bl | apply pN | apply b1 | refine bs ?_ GE385.out | refine bs ?_ GE397.out | refine bs ?_ GE398.out) | exact HB.out | exact HBo.out)⟩
          ·
           rw [if_neg c23] at H
           exact absurd H (by simp)
         ·
          rw [if_neg c22] at H
          exact absurd H (by simp)
       ·
        rw [if_neg c19] at H
        exact absurd H (by simp)
      ·
       replace c18 := Bool.eq_false_iff.mpr c18
       subst c18
       have H1 : (some true) = some r := by rw [if_neg (show ¬ (false = true) by decide)] at H; exact H
       clear H
       have H := H1
       clear H1
       obtain rfl := Option.some.inj H
       have hcz41_0 : wc.cell? ⟨gb385, 0, none⟩ = some (.int .i64 a0_0) := (bc BK385.out 0).trans rfl
       have hcz41_1 : wc.cell? ⟨gb385, 1, none⟩ = some (.int .i64 a0_1) := (bc BK385.out 1).trans rfl
       have hcz41_2 : wc.cell? ⟨gb385, 2, none⟩ = some (.int .i64 a0_2) := (bc BK385.out 2).trans rfl
       have hcz41_3 : wc.cell? ⟨gb385, 3, none⟩ = some (.string a0_3) := (bc BK385.out 3).trans rfl
       have hfz41_0 := bf BK385.out 0
       have hfz41_1 := bf BK385.out 1
       have hfz41_2 := bf BK385.out 2
       have hfz41_3 := bf BK385.out 3
       go_wp2_with (first | ((with_reducible refine gate_callee (f := 12) rfl ?_); refine goesL_ (some 20) rfl rfl Try.func12 (by kernel_rfl) rfl #[.agg #[.int .i64 a0_0, .int .i64 a0_1, .int .i64 a0_2, .string a0_3], .int .i64 a1] rfl (by (try simp only [List.map_toArray, List.map_cons, List.map_nil]); first | done | rfl | (simp only [List.length_drop, List.length_take]; rfl)) ?_; (with_reducible refine (buf_Seal.calls a0_0 a0_1 a0_2 a0_3 a1 t388 t389 t390 t391 t392 t393 t394 t395 false _ A13.out).mono ?_); rintro e w42 ⟨rfl, hb⟩; refine ⟨_, rfl, ?_⟩; have n0_ := Am (blk_below (g := gb385) (o := .cells #[.int .i64 a0_0, .int .i64 a0_1, .int .i64 a0_2, .string a0_3] 23 (0, 0)) (by (with_reducible repeat (first | refine bn ?_ _ | refine bd ?_ | refine ba ?_ _)); exact BK385.out) hb); have n1_ := Am (below_step (by repeat (first | (with_reducible first | exact HB.out | apply bl | apply pN | apply b1 | refine bs ?_ GE385.out) | exact HB.out | exact HBo.out)) hb); clear BK385; clear HB; have BK385 := n0_; have HB := n1_; clear n0_ n1_; (try clear hb); (try clear hb2); (try clear hk); (try clear hi)) | ((with_reducible refine gate_dst (N := 5) rfl ?_); (try (refine gate_guard (by rfl) ?_; dsimp only)); refine box_event ?hg (N := 5) ?hd (cs := #[.int .i64 0, .int .i64 0, .int .i64 0, .string (⟨#[]⟩ : ByteArray)]) (t := 35) ?hr ?_; (case hd => rfl); (case hg => rfl); (case hr => first | (go_simp; done) | (go_simp; rfl)); intro gb397 hg w43 hbox hb; have n0_ := Am (blk_below (g := gb385) (o := .cells #[.int .i64 a0_0, .int .i64 a0_1, .int .i64 a0_2, .string a0_3] 23 (0, 0)) (by (with_reducible repeat (first | refine bn ?_ _ | refine bd ?_ | refine ba ?_ _)); exact BK385.out) hb); have n1_ := Am (below_step (by repeat (first | (with_reducible first | exact HB.out | apply bl | apply pN | apply b1 | refine bs ?_ GE385.out) | exact HB.out | exact HBo.out)) hb); have n2_ := Am (hbox); have n3_ := Am ((by rw [hg]; exact (below_size (by repeat (first | (with_reducible first | exact HB.out | apply bl | apply pN | apply b1 | refine bs ?_ GE385.out) | exact HB.out | exact HBo.out))) : w.heap.size ≤ gb397)); have n4_ := Am ((by rw [hg]; exact (below_size (by repeat (first | (with_reducible first | exact HB.out | apply bl | apply pN | apply b1 | refine bs ?_ GE385.out) | exact HB.out | exact HBo.out))) : w.heap.size ≤ gb397)); have n5_ := Am ((by rw [hg]; exact Nat.ne_of_lt (blk_lt (g := gb385) (o := .cells #[.int .i64 a0_0, .int .i64 a0_1, .int .i64 a0_2, .string a0_3] 23 (0, 0)) (by (with_reducible repeat (first | refine bn ?_ _ | refine bd ?_ | refine ba ?_ _)); exact BK385.out)) : gb385 ≠ gb397)); have n6_ := Am ((by rw [hg]; exact Nat.ne_of_gt (blk_lt (g := gb385) (o := .cells #[.int .i64 a0_0, .int .i64 a0_1, .int .i64 a0_2, .string a0_3] 23 (0, 0)) (by (with_reducible repeat (first | refine bn ?_ _ | refine bd ?_ | refine ba ?_ _)); exact BK385.out)) : gb397 ≠ gb385)); clear BK385; clear HB; have BK385 := n0_; have HB := n1_; have BK397 := n2_; have GW397 := n3_; have GE397 := n4_; have NB385_397 := n5_; have NB397_385 := n6_; clear n0_ n1_ n2_ n3_ n4_ n5_ n6_; clear hb hbox hg) | ((with_reducible refine gate_dst (N := 6) rfl ?_); (try (refine gate_guard (by rfl) ?_; dsimp only)); refine box_event ?hg (N := 6) ?hd (cs := #[.int .i64 0, .int .i64 0, .int .i64 0, .string (⟨#[]⟩ : ByteArray)]) (t := 23) ?hr ?_; (case hd => rfl); (case hg => rfl); (case hr => first | (go_simp; done) | (go_simp; rfl)); intro gb398 hg w44 hbox hb; have n0_ := Am (blk_below (g := gb385) (o := .cells #[.int .i64 a0_0, .int .i64 a0_1, .int .i64 a0_2, .string a0_3] 23 (0, 0)) (by (with_reducible repeat (first | refine bn ?_ _ | refine bd ?_ | refine ba ?_ _)); exact BK385.out) hb); have n1_ := Am (blk_below (g := gb397) (o := .cells #[.int .i64 0, .int .i64 0, .int .i64 0, .string (⟨#[]⟩ : ByteArray)] 35 (0, 0)) (by (with_reducible repeat (first | refine bn ?_ _ | refine bd ?_ | refine ba ?_ _)); exact BK397.out) hb); have n2_ := Am (below_step (by repeat (first | (with_reducible first | exact HB.out | apply bl | apply pN | apply b1 | refine bs ?_ GE385.out | refine bs ?_ GE397.out) | exact HB.out | exact HBo.out)) hb); have n3_ := Am (hbox); have n4_ := Am ((by rw [hg]; exact (below_size (by repeat (first | (with_reducible first | exact HB.out | apply bl | apply pN | apply b1 | refine bs ?_ GE385.out | refine bs ?_ GE397.out) | exact HB.out | exact HBo.out))) : w.heap.size ≤ gb398)); have n5_ := Am ((by rw [hg]; exact (below_size (by repeat (first | (with_reducible first | exact HB.out | apply bl | apply pN | apply b1 | refine bs ?_ GE385.out | refine bs ?_ GE397.out) | exact HB.out | exact HBo.out))) : w.heap.size ≤ gb398)); have n6_ := Am ((by rw [hg]; exact Nat.ne_of_lt (blk_lt (g := gb385) (o := .cells #[.int .i64 a0_0, .int .i64 a0_1, .int .i64 a0_2, .string a0_3] 23 (0, 0)) (by (with_reducible repeat (first | refine bn ?_ _ | refine bd ?_ | refine ba ?_ _)); exact BK385.out)) : gb385 ≠ gb398)); have n7_ := Am ((by rw [hg]; exact Nat.ne_of_gt (blk_lt (g := gb385) (o := .cells #[.int .i64 a0_0, .int .i64 a0_1, .int .i64 a0_2, .string a0_3] 23 (0, 0)) (by (with_reducible repeat (first | refine bn ?_ _ | refine bd ?_ | refine ba ?_ _)); exact BK385.out)) : gb398 ≠ gb385)); have n8_ := Am ((by rw [hg]; exact Nat.ne_of_lt (blk_lt (g := gb397) (o := .cells #[.int .i64 0, .int .i64 0, .int .i64 0, .string (⟨#[]⟩ : ByteArray)] 35 (0, 0)) (by (with_reducible repeat (first | refine bn ?_ _ | refine bd ?_ | refine ba ?_ _)); exact BK397.out)) : gb397 ≠ gb398)); have n9_ := Am ((by rw [hg]; exact Nat.ne_of_gt (blk_lt (g := gb397) (o := .cells #[.int .i64 0, .int .i64 0, .int .i64 0, .string (⟨#[]⟩ : ByteArray)] 35 (0, 0)) (by (with_reducible repeat (first | refine bn ?_ _ | refine bd ?_ | refine ba ?_ _)); exact BK397.out)) : gb398 ≠ gb397)); clear BK385; clear BK397; clear HB; have BK385 := n0_; have BK397 := n1_; have HB := n2_; have BK398 := n3_; have GW398 := n4_; have GE398 := n5_; have NB385_398 := n6_; have NB398_385 := n7_; have NB397_398 := n8_; have NB398_397 := n9_; clear n0_ n1_ n2_ n3_ n4_ n5_ n6_ n7_ n8_ n9_; clear hb hbox hg; have hnb45 := NB397_385.out; have hnc45 := NB385_397.out; have hnb46 := NB397_398.out; have hnc46 := NB398_397.out; have hcz47_0 : w44.cell? ⟨gb397, 0, none⟩ = some (.int .i64 0) := (bc BK397.out 0).trans rfl; have hcz47_1 : w44.cell? ⟨gb397, 1, none⟩ = some (.int .i64 0) := (bc BK397.out 1).trans rfl; have hcz47_2 : w44.cell? ⟨gb397, 2, none⟩ = some (.int .i64 0) := (bc BK397.out 2).trans rfl; have hcz47_3 : w44.cell? ⟨gb397, 3, none⟩ = some (.string (⟨#[]⟩ : ByteArray)) := (bc BK397.out 3).trans rfl; have hfz47_0 := bf BK397.out 0; have hfz47_1 := bf BK397.out 1; have hfz47_2 := bf BK397.out 2; have hfz47_3 := bf BK397.out 3; have hnb48 := NB398_385.out; have hnc48 := NB385_398.out; have hcz49_0 : w44.cell? ⟨gb398, 0, none⟩ = some (.int .i64 0) := (bc BK398.out 0).trans rfl; have hcz49_1 : w44.cell? ⟨gb398, 1, none⟩ = some (.int .i64 0) := (bc BK398.out 1).trans rfl; have hcz49_2 : w44.cell? ⟨gb398, 2, none⟩ = some (.int .i64 0) := (bc BK398.out 2).trans rfl; have hcz49_3 : w44.cell? ⟨gb398, 3, none⟩ = some (.string (⟨#[]⟩ : ByteArray)) := (bc BK398.out 3).trans rfl; have hfz49_0 := bf BK398.out 0; have hfz49_1 := bf BK398.out 1; have hfz49_2 := bf BK398.out 2; have hfz49_3 := bf BK398.out 3; have hcz50_0 : w44.cell? ⟨gb385, 0, none⟩ = some (.int .i64 a0_0) := (bc BK385.out 0).trans rfl; have hcz50_1 : w44.cell? ⟨gb385, 1, none⟩ = some (.int .i64 a0_1) := (bc BK385.out 1).trans rfl; have hcz50_2 : w44.cell? ⟨gb385, 2, none⟩ = some (.int .i64 a0_2) := (bc BK385.out 2).trans rfl; have hcz50_3 : w44.cell? ⟨gb385, 3, none⟩ = some (.string a0_3) := (bc BK385.out 3).trans rfl; have hfz50_0 := bf BK385.out 0; have hfz50_1 := bf BK385.out 1; have hfz50_2 := bf BK385.out 2; have hfz50_3 := bf BK385.out 3) | ((with_reducible refine gate_callee (f := 14) rfl ?_); refine goesL_ (some 29) rfl rfl Try.func14 (by kernel_rfl) rfl #[.agg #[.int .i64 a0_0, .int .i64 a0_1, .int .i64 a0_2, .string a0_3], .int .i64 (wrap64 ((a0_3.size : Int) + 1))] rfl (by (try simp only [List.map_toArray, List.map_cons, List.map_nil]); first | done | rfl | (simp only [List.length_drop, List.length_take]; rfl)) ?_; (with_reducible refine (buf_Full.calls a0_0 a0_1 a0_2 a0_3 (wrap64 ((a0_3.size : Int) + 1)) false _ A14.out).mono ?_); rintro e w51 ⟨rfl, hb⟩; refine ⟨_, rfl, ?_⟩; have n0_ := Am (blk_below (g := gb385) (o := .cells #[.int .i64 a0_0, .int .i64 a0_1, .int .i64 a0_2, .string a0_3] 23 (0, 0)) (by (with_reducible repeat (first | refine bn ?_ _ | refine bd ?_ | refine ba ?_ _)); refine blk_far ?_ NB385_398.out _; (with_reducible repeat (first | refine bn ?_ _ | refine bd ?_ | refine ba ?_ _)); refine blk_far ?_ NB385_398.out _; (with_reducible repeat (first | refine bn ?_ _ | refine bd ?_ | refine ba ?_ _)); refine blk_far ?_ NB385_398.out _; (with_reducible repeat (first | refine bn ?_ _ | refine bd ?_ | refine ba ?_ _)); refine blk_far ?_ NB385_398.out _; (with_reducible repeat (first | refine bn ?_ _ | refine bd ?_ | refine ba ?_ _)); refine blk_far ?_ NB385_397.out _; (with_reducible repeat (first | refine bn ?_ _ | refine bd ?_ | refine ba ?_ _)); refine blk_far ?_ NB385_397.out _; (with_reducible repeat (first | refine bn ?_ _ | refine bd ?_ | refine ba ?_ _)); refine blk_far ?_ NB385_397.out _; (with_reducible repeat (first | refine bn ?_ _ | refine bd ?_ | refine ba ?_ _)); refine blk_far ?_ NB385_397.out _; (with_reducible repeat (first | refine bn ?_ _ | refine bd ?_ | refine ba ?_ _)); exact BK385.out) hb); have n1_ := Am (blk_below (g := gb397) (o := .cells #[.int .i64 t388, .int .i64 t389, .int .i64 t390, .string t391] 35 (0, 0)) (by (with_reducible repeat (first | refine bn ?_ _ | refine bd ?_ | refine ba ?_ _)); refine blk_far ?_ NB397_398.out _; (with_reducible repeat (first | refine bn ?_ _ | refine bd ?_ | refine ba ?_ _)); refine blk_far ?_ NB397_398.out _; (with_reducible repeat (first | refine bn ?_ _ | refine bd ?_ | refine ba ?_ _)); refine blk_far ?_ NB397_398.out _; (with_reducible repeat (first | refine bn ?_ _ | refine bd ?_ | refine ba ?_ _)); refine blk_far ?_ NB397_398.out _; (with_reducible repeat (first | refine bn ?_ _ | refine bd ?_ | refine ba ?_ _)); refine blk_put (cs := #[.int .i64 t388, .int .i64 t389, .int .i64 t390, .string (⟨#[]⟩ : ByteArray)]) ?_ 3 _ rfl; (with_reducible repeat (first | refine bn ?_ _ | refine bd ?_ | refine ba ?_ _)); refine blk_put (cs := #[.int .i64 t388, .int .i64 t389, .int .i64 0, .string (⟨#[]⟩ : ByteArray)]) ?_ 2 _ rfl; (with_reducible repeat (first | refine bn ?_ _ | refine bd ?_ | refine ba ?_ _)); refine blk_put (cs := #[.int .i64 t388, .int .i64 0, .int .i64 0, .string (⟨#[]⟩ : ByteArray)]) ?_ 1 _ rfl; (with_reducible repeat (first | refine bn ?_ _ | refine bd ?_ | refine ba ?_ _)); refine blk_put (cs := #[.int .i64 0, .int .i64 0, .int .i64 0, .string (⟨#[]⟩ : ByteArray)]) ?_ 0 _ rfl; (with_reducible repeat (first | refine bn ?_ _ | refine bd ?_ | refine ba ?_ _)); exact BK397.out) hb); have n2_ := Am (blk_below (g := gb398) (o := .cells #[.int .i64 t392, .int .i64 t393, .int .i64 t394, .string t395] 23 (0, 0)) (by (with_reducible repeat (first | refine bn ?_ _ | refine bd ?_ | refine ba ?_ _)); refine blk_put (cs := #[.int .i64 t392, .int .i64 t393, .int .i64 t394, .string (⟨#[]⟩ : ByteArray)]) ?_ 3 _ rfl; (with_reducible repeat (first | refine bn ?_ _ | refine bd ?_ | refine ba ?_ _)); refine blk_put (cs := #[.int .i64 t392, .int .i64 t393, .int .i64 0, .string (⟨#[]⟩ : ByteArray)]) ?_ 2 _ rfl; (with_reducible repeat (first | refine bn ?_ _ | refine bd ?_ | refine ba ?_ _)); refine blk_put (cs := #[.int .i64 t392, .int .i64 0, .int .i64 0, .string (⟨#[]⟩ : ByteArray)]) ?_ 1 _ rfl; (with_reducible repeat (first | refine bn ?_ _ | refine bd ?_ | refine ba ?_ _)); refine blk_put (cs := #[.int .i64 0, .int .i64 0, .int .i64 0, .string (⟨#[]⟩ : ByteArray)]) ?_ 0 _ rfl; (with_reducible repeat (first | refine bn ?_ _ | refine bd ?_ | refine ba ?_ _)); refine blk_far ?_ NB398_397.out _; (with_reducible repeat (first | refine bn ?_ _ | refine bd ?_ | refine ba ?_ _)); refine blk_far ?_ NB398_397.out _; (with_reducible repeat (first | refine bn ?_ _ | refine bd ?_ | refine ba ?_ _)); refine blk_far ?_ NB398_397.out _; (with_reducible repeat (first | refine bn ?_ _ | refine bd ?_ | refine ba ?_ _)); refine blk_far ?_ NB398_397.out _; (with_reducible repeat (first | refine bn ?_ _ | refine bd ?_ | refine ba ?_ _)); exact BK398.out) hb); have n3_ := Am (below_step (by repeat (first | (with_reducible first | exact HB.out | apply bl | apply pN | apply b1 | refine bs ?_ GE385.out | refine bs ?_ GE397.out | refine bs ?_ GE398.out) | exact HB.out | exact HBo.out)) hb); clear BK385; clear BK397; clear BK398; clear HB; have BK385 := n0_; have BK397 := n1_; have BK398 := n2_; have HB := n3_; clear n0_ n1_ n2_ n3_; (try clear hb); (try clear hb2); (try clear hk); (try clear hi); have hcz52_0 : w51.cell? ⟨gb385, 0, none⟩ = some (.int .i64 a0_0) := (bc BK385.out 0).trans rfl; have hcz52_1 : w51.cell? ⟨gb385, 1, none⟩ = some (.int .i64 a0_1) := (bc BK385.out 1).trans rfl; have hcz52_2 : w51.cell? ⟨gb385, 2, none⟩ = some (.int .i64 a0_2) := (bc BK385.out 2).trans rfl; have hcz52_3 : w51.cell? ⟨gb385, 3, none⟩ = some (.string a0_3) := (bc BK385.out 3).trans rfl; have hfz52_0 := bf BK385.out 0; have hfz52_1 := bf BK385.out 1; have hfz52_2 := bf BK385.out 2; have hfz52_3 := bf BK385.out 3) | (go_at_call 14; (with_reducible refine (buf_Full.calls a0_0 a0_1 a0_2 a0_3 (a0_3.size : Int) true _ A16.out).mono ?_); rintro e w53 ⟨rfl, hb⟩; have n0_ := Am (blk_below (g := gb385) (o := .cells #[.int .i64 a0_0, .int .i64 a0_1, .int .i64 a0_2, .string a0_3] 23 (0, 0)) (by (with_reducible repeat (first | refine bn ?_ _ | refine bd ?_ | refine ba ?_ _)); exact BK385.out) hb); have n1_ := Am (blk_below (g := gb397) (o := .cells #[.int .i64 t388, .int .i64 t389, .int .i64 t390, .string t391] 35 (0, 0)) (by (with_reducible repeat (first | refine bn ?_ _ | refine bd ?_ | refine ba ?_ _)); exact BK397.out) hb); have n2_ := Am (blk_below (g := gb398) (o := .cells #[.int .i64 t392, .int .i64 t393, .int .i64 t394, .string t395] 23 (0, 0)) (by (with_reducible repeat (first | refine bn ?_ _ | refine bd ?_ | refine ba ?_ _)); exact BK398.out) hb); have n3_ := Am (below_step (by repeat (first | (with_reducible first | exact HB.out | apply bl | apply pN | apply b1 | refine bs ?_ GE385.out | refine bs ?_ GE397.out | refine bs ?_ GE398.out) | exact HB.out | exact HBo.out)) hb); clear BK385; clear BK397; clear BK398; clear HB; have BK385 := n0_; have BK397 := n1_; have BK398 := n2_; have HB := n3_; clear n0_ n1_ n2_ n3_; (try clear hb); (try clear hb2); (try clear hk); (try clear hi)))
       go_ret
       exact ⟨by first | rfl | (simp [errW_none, errW_some] <;> rfl) | (simp [*, errW_none, errW_some] <;> rfl) | (simp [Aid.ne_nil, Aid.eq_nil, errW_none, errW_some]; done), by repeat (first | (with_reducible first | exact HB.out | apply bl | apply pN | apply b1 | refine bs ?_ GE385.out | refine bs ?_ GE397.out | refine bs ?_ GE398.out) | exact HB.out | exact HBo.out)⟩
     ·
      replace c17 := Bool.eq_false_iff.mpr c17
      subst c17
      have H1 : (none) = some r := by rw [if_neg (show ¬ (false = true) by decide)] at H; exact H
      clear H
      have H := H1
      clear H1
      exact absurd H (by simp)

/-- THE ONE PURE STATEMENT of shuttlecocklaw19_BufFull (own row). -/
def shuttlecocklaw19_BufFull.Pure : Prop := ∀ (y0 : S23) (y1 : Int), ((Lit.int .i64 y0.f0).wf = true ∧ (Lit.int .i64 y0.f1).wf = true ∧ (Lit.int .i64 y0.f2).wf = true ∧ y0.f3.size ≤ 140737488351232) → (Lit.int .i64 y1).wf = true → ∃ k, shuttlecocklaw19_BufFull.f k y0.f0 y0.f1 y0.f2 y0.f3 y1 = some true

end Go.Proofs.Ytgpnkgmghnmmjaa.Q
