-- printed by a program of this session (NOTES: hprint); not the kit's print
import Derived.Test.YthfdhoegboeaeaaQx0
import Derived.Test.YthfdhoegboeaeaaQx3
import Derived.Test.YthfdhoegboeaeaaQx8
namespace Go.Proofs.Ythfdhoegboeaeaa.Q
open Go.RowKit Go.Proofs.YthfdhoegboeaeaaW.PrintWords Go.Proofs.YthfdhoegboeaeaaW.PrintLast Go.Proofs.YthfdhoegboeaeaaW.PrintMore
attribute [local go_sem] max2_int min2_int max_two min_two max_three min_three max_four min_four   -- for this text's walks alone
set_option linter.unusedVariables false
set_option linter.unusedSimpArgs false

/-! ### shuttlecocklaw08_SnapMany: function 7 -/
mutual
def shuttlecocklaw08_SnapMany.j0 : Nat → Int → Int → Bool → Option (Bool)
  | 0, _, _, _ => none
  | k + 1, x0, x1, x25 => if x25 = true then ((shuttlecocklaw08_fixed.f k).bind fun t488 => (some t488)) else (shuttlecocklaw08_SnapMany.l0 k x0 x1 0 0 ([] : List (S36)) 0 ([] : List (S36)))
def shuttlecocklaw08_SnapMany.l0 : Nat → Int → Int → Int → Int → List (S36) → Int → List (S36) → Option (Bool)
  | 0, _, _, _, _, _, _, _ => none
  | k + 1, x0, x1, x7, x490000, x490002, x491000, x491002 => if x7 < x0 then (if x490002.length < 4398046511104 then ((some (([(⟨wrap64 (x1 + (wrap64 (2 * x7))), 3, 0, 0⟩ : S36)] : List (S36)) : List (S36))).bind fun y494 => (if y494.length + x491002.length < 4398046511104 then (shuttlecocklaw08_SnapMany.l0 k x0 x1 (wrap64 (x7 + 1)) x490000 (x490002 ++ [(⟨wrap64 (x1 + (wrap64 (2 * x7))), 3, 0, 0⟩ : S36)]) x491000 (y494 ++ x491002)) else (none))) else (none)) else ((snap_May.f x490000 ([] : List (S46)) x490002).bind fun t500 => (if t500 = true then ((snap_May.f x491000 ([] : List (S46)) x491002).bind fun t501 => (some (t501 == (decide (x0 < 2))))) else (none)))
end
def shuttlecocklaw08_SnapMany.f (k : Nat) (a0 : Int) (a1 : Int) : Option (Bool) := (shuttlecocklaw08_fixed.f k).bind fun t487 => (if t487 = true then (if a0 < 0 then (shuttlecocklaw08_SnapMany.j0 k a0 a1 true) else (if a0 > 90 then (shuttlecocklaw08_SnapMany.j0 k a0 a1 true) else (if a1 < 1 then (shuttlecocklaw08_SnapMany.j0 k a0 a1 true) else (shuttlecocklaw08_SnapMany.j0 k a0 a1 (decide (a1 > 1000)))))) else (shuttlecocklaw08_SnapMany.j0 k a0 a1 true))
theorem shuttlecocklaw08_SnapMany.mono_l : ∀ k, (∀ y0 y1 y2, LeO (shuttlecocklaw08_SnapMany.j0 k y0 y1 y2) (shuttlecocklaw08_SnapMany.j0 (k + 1) y0 y1 y2)) ∧ (∀ y0 y1 y2 y3 y4 y5 y6, LeO (shuttlecocklaw08_SnapMany.l0 k y0 y1 y2 y3 y4 y5 y6) (shuttlecocklaw08_SnapMany.l0 (k + 1) y0 y1 y2 y3 y4 y5 y6))
  | 0 => ⟨fun _ _ _ r h => by simp [shuttlecocklaw08_SnapMany.j0] at h, fun _ _ _ _ _ _ _ r h => by simp [shuttlecocklaw08_SnapMany.l0] at h⟩
  | k + 1 => by
    obtain ⟨ih0, ih1⟩ := shuttlecocklaw08_SnapMany.mono_l k
    refine ⟨?_, ?_⟩
    · intro y0 y1 y2
      unfold shuttlecocklaw08_SnapMany.j0
      repeat' first
      | (with_reducible exact ih0 _ _ _)
      | (with_reducible exact ih1 _ _ _ _ _ _ _)
      | (with_reducible exact shuttlecocklaw08_fixed.mono _)
      | (with_reducible exact LeO.refl _)
      | (with_reducible exact LeO.none _)
      | (with_reducible refine LeO.ite ?_ ?_)
      | (with_reducible refine LeO.bind ?_ (fun _ => ?_))
      | exact ih0 _ _ _
      | exact ih1 _ _ _ _ _ _ _
      | exact shuttlecocklaw08_fixed.mono _
      | exact LeO.none _
      | refine LeO.ite ?_ ?_
      | refine LeO.bind ?_ (fun _ => ?_)
    · intro y0 y1 y2 y3 y4 y5 y6
      unfold shuttlecocklaw08_SnapMany.l0
      repeat' first
      | (with_reducible exact ih0 _ _ _)
      | (with_reducible exact ih1 _ _ _ _ _ _ _)
      | (with_reducible exact shuttlecocklaw08_fixed.mono _)
      | (with_reducible exact LeO.refl _)
      | (with_reducible exact LeO.none _)
      | (with_reducible refine LeO.ite ?_ ?_)
      | (with_reducible refine LeO.bind ?_ (fun _ => ?_))
      | exact ih0 _ _ _
      | exact ih1 _ _ _ _ _ _ _
      | exact shuttlecocklaw08_fixed.mono _
      | exact LeO.none _
      | refine LeO.ite ?_ ?_
      | refine LeO.bind ?_ (fun _ => ?_)
theorem shuttlecocklaw08_SnapMany.mono : ∀ a0 a1 k, LeO (shuttlecocklaw08_SnapMany.f k a0 a1) (shuttlecocklaw08_SnapMany.f (k + 1) a0 a1) := by
  intro a0 a1 k
  obtain ⟨ih0, ih1⟩ := shuttlecocklaw08_SnapMany.mono_l k
  unfold shuttlecocklaw08_SnapMany.f
  repeat' first
      | (with_reducible exact ih0 _ _ _)
      | (with_reducible exact ih1 _ _ _ _ _ _ _)
      | (with_reducible exact shuttlecocklaw08_fixed.mono _)
      | (with_reducible exact LeO.refl _)
      | (with_reducible exact LeO.none _)
      | (with_reducible refine LeO.ite ?_ ?_)
      | (with_reducible refine LeO.bind ?_ (fun _ => ?_))
      | exact ih0 _ _ _
      | exact ih1 _ _ _ _ _ _ _
      | exact shuttlecocklaw08_fixed.mono _
      | exact LeO.none _
      | refine LeO.ite ?_ ?_
      | refine LeO.bind ?_ (fun _ => ?_)
set_option maxHeartbeats 8000000 in
set_option maxRecDepth 100000 in
theorem shuttlecocklaw08_SnapMany.calls (k : Nat) (a0 : Int) (a1 : Int) (r : Bool) (w : World) (h : shuttlecocklaw08_SnapMany.f k a0 a1 = some r) :
    Calls Try.prog 7 #[.int .i64 a0, .int .i64 a1] w fun e w' => e = .returned (.bool r) ∧ Below w.heap.size w w' := by
  have hu25 := Try.underlying25
  have hu36 := Try.underlying36
  have HB := Aside0.mk (Below.refl w.heap.size w)
  have H : ((shuttlecocklaw08_fixed.f k).bind fun t487 => (if t487 = true then (if a0 < 0 then (shuttlecocklaw08_SnapMany.j0 k a0 a1 true) else (if a0 > 90 then (shuttlecocklaw08_SnapMany.j0 k a0 a1 true) else (if a1 < 1 then (shuttlecocklaw08_SnapMany.j0 k a0 a1 true) else (shuttlecocklaw08_SnapMany.j0 k a0 a1 (decide (a1 > 1000)))))) else (shuttlecocklaw08_SnapMany.j0 k a0 a1 true))) = some r := h
  clear h
  have HC3 := Aside0.mk H
  clear H
  go_enter Try.func7, Try.ntmps7
  go_upto_region 1 with (fail)
  go_cut [25] (fun v25 wc => ∃ (kq : Nat) (x25_2 : Bool), v25 = .bool x25_2 ∧ Aside0 (shuttlecocklaw08_SnapMany.j0 kq a0 a1 x25_2 = some r) ∧ Aside0 (kq ≤ k) ∧ Aside0 (Below w.heap.size w wc))
  case first =>
    have H := HC3.out
    clear HC3
    replace H := Option.bind_eq_some_iff.mp H
    obtain ⟨t487, A40, H⟩ := H
    replace H : (if t487 = true then (if a0 < 0 then (shuttlecocklaw08_SnapMany.j0 k a0 a1 true) else (if a0 > 90 then (shuttlecocklaw08_SnapMany.j0 k a0 a1 true) else (if a1 < 1 then (shuttlecocklaw08_SnapMany.j0 k a0 a1 true) else (shuttlecocklaw08_SnapMany.j0 k a0 a1 (decide (a1 > 1000)))))) else (shuttlecocklaw08_SnapMany.j0 k a0 a1 true)) = some r := H
    have A4 := Aside0.mk A40
    clear A40
    by_cases c5 : t487 = true
    · subst c5
      have H1 : (if a0 < 0 then (shuttlecocklaw08_SnapMany.j0 k a0 a1 true) else (if a0 > 90 then (shuttlecocklaw08_SnapMany.j0 k a0 a1 true) else (if a1 < 1 then (shuttlecocklaw08_SnapMany.j0 k a0 a1 true) else (shuttlecocklaw08_SnapMany.j0 k a0 a1 (decide (a1 > 1000)))))) = some r := by rw [if_pos rfl] at H; exact H
      clear H
      have H := H1
      clear H1
      by_cases c6 : a0 < 0
      · rw [if_pos c6] at H
        have c6b0 : decide (a0 < 0) = true := decide_eq_true c6
        clear c6
        (first | rw [c6b0] | (simp only [i64_w, i32_w]; rw [c6b0]) | skip)
        have H' := Aside0.mk H
        clear H
        go_wp2_with (first | ((with_reducible refine gate_callee (f := 9) rfl ?_); refine goesL_ (some 8) rfl rfl Try.func9 (by kernel_rfl) rfl #[] rfl (by (try simp only [List.map_toArray, List.map_cons, List.map_nil]); first | done | rfl | (simp only [List.length_drop, List.length_take]; rfl)) ?_; (with_reducible refine (shuttlecocklaw08_fixed.calls k  true _ A4.out).mono ?_); rintro e w7 ⟨rfl, hb⟩; refine ⟨_, rfl, ?_⟩; have n0_ := Aside0.mk (below_step (by repeat (first | (with_reducible first | exact HB.out | apply below_alloc | apply pw_below_drewN | apply below_drew1) | exact HB.out | exact HBo.out)) hb); clear HB; have HB := n0_; clear n0_; (try clear hb); (try clear hb2); (try clear hk); (try clear hi)))
        go_meet
        case rel => exact ⟨_, (true), (by first | rfl | (simp; done) | (simp [*]; done)), H', ⟨by first | omega | exact Nat.le_refl _⟩, ⟨by repeat (first | (with_reducible first | exact HB.out | apply below_alloc | apply pw_below_drewN | apply below_drew1) | exact HB.out | exact HBo.out)⟩⟩
      · rw [if_neg c6] at H
        have c6b0 : decide (a0 < 0) = false := decide_eq_false c6
        clear c6
        (first | rw [c6b0] | (simp only [i64_w, i32_w]; rw [c6b0]) | skip)
        by_cases c8 : a0 > 90
        · rw [if_pos c8] at H
          have c8b0 : decide (90 < a0) = true := decide_eq_true c8
          clear c8
          have H' := Aside0.mk H
          clear H
          go_wp2_with (first | ((with_reducible refine gate_callee (f := 9) rfl ?_); refine goesL_ (some 8) rfl rfl Try.func9 (by kernel_rfl) rfl #[] rfl (by (try simp only [List.map_toArray, List.map_cons, List.map_nil]); first | done | rfl | (simp only [List.length_drop, List.length_take]; rfl)) ?_; (with_reducible refine (shuttlecocklaw08_fixed.calls k  true _ A4.out).mono ?_); rintro e w9 ⟨rfl, hb⟩; refine ⟨_, rfl, ?_⟩; have n0_ := Aside0.mk (below_step (by repeat (first | (with_reducible first | exact HB.out | apply below_alloc | apply pw_below_drewN | apply below_drew1) | exact HB.out | exact HBo.out)) hb); clear HB; have HB := n0_; clear n0_; (try clear hb); (try clear hb2); (try clear hk); (try clear hi)))
          go_meet
          case rel => exact ⟨_, (true), (by first | rfl | (simp; done) | (simp [*]; done)), H', ⟨by first | omega | exact Nat.le_refl _⟩, ⟨by repeat (first | (with_reducible first | exact HB.out | apply below_alloc | apply pw_below_drewN | apply below_drew1) | exact HB.out | exact HBo.out)⟩⟩
        · rw [if_neg c8] at H
          have c8b0 : decide (90 < a0) = false := decide_eq_false c8
          clear c8
          by_cases c10 : a1 < 1
          · rw [if_pos c10] at H
            have c10b0 : decide (a1 < 1) = true := decide_eq_true c10
            clear c10
            have H' := Aside0.mk H
            clear H
            go_wp2_with (first | ((with_reducible refine gate_callee (f := 9) rfl ?_); refine goesL_ (some 8) rfl rfl Try.func9 (by kernel_rfl) rfl #[] rfl (by (try simp only [List.map_toArray, List.map_cons, List.map_nil]); first | done | rfl | (simp only [List.length_drop, List.length_take]; rfl)) ?_; (with_reducible refine (shuttlecocklaw08_fixed.calls k  true _ A4.out).mono ?_); rintro e w11 ⟨rfl, hb⟩; refine ⟨_, rfl, ?_⟩; have n0_ := Aside0.mk (below_step (by repeat (first | (with_reducible first | exact HB.out | apply below_alloc | apply pw_below_drewN | apply below_drew1) | exact HB.out | exact HBo.out)) hb); clear HB; have HB := n0_; clear n0_; (try clear hb); (try clear hb2); (try clear hk); (try clear hi)))
            go_meet
            case rel => exact ⟨_, (true), (by first | rfl | (simp; done) | (simp [*]; done)), H', ⟨by first | omega | exact Nat.le_refl _⟩, ⟨by repeat (first | (with_reducible first | exact HB.out | apply below_alloc | apply pw_below_drewN | apply below_drew1) | exact HB.out | exact HBo.out)⟩⟩
          · rw [if_neg c10] at H
            have c10b0 : decide (a1 < 1) = false := decide_eq_false c10
            clear c10
            have H' := Aside0.mk H
            clear H
            go_wp2_with (first | ((with_reducible refine gate_callee (f := 9) rfl ?_); refine goesL_ (some 8) rfl rfl Try.func9 (by kernel_rfl) rfl #[] rfl (by (try simp only [List.map_toArray, List.map_cons, List.map_nil]); first | done | rfl | (simp only [List.length_drop, List.length_take]; rfl)) ?_; (with_reducible refine (shuttlecocklaw08_fixed.calls k  true _ A4.out).mono ?_); rintro e w12 ⟨rfl, hb⟩; refine ⟨_, rfl, ?_⟩; have n0_ := Aside0.mk (below_step (by repeat (first | (with_reducible first | exact HB.out | apply below_alloc | apply pw_below_drewN | apply below_drew1) | exact HB.out | exact HBo.out)) hb); clear HB; have HB := n0_; clear n0_; (try clear hb); (try clear hb2); (try clear hk); (try clear hi)))
            go_meet
            case rel => exact ⟨_, (decide (a1 > 1000)), (by first | rfl | (simp; done) | (simp [*]; done)), H', ⟨by first | omega | exact Nat.le_refl _⟩, ⟨by repeat (first | (with_reducible first | exact HB.out | apply below_alloc | apply pw_below_drewN | apply below_drew1) | exact HB.out | exact HBo.out)⟩⟩
    · replace c5 := Bool.eq_false_iff.mpr c5
      subst c5
      have H1 : (shuttlecocklaw08_SnapMany.j0 k a0 a1 true) = some r := by rw [if_neg (show ¬ (false = true) by decide)] at H; exact H
      clear H
      have H := H1
      clear H1
      have H' := Aside0.mk H
      clear H
      go_wp2_with (first | ((with_reducible refine gate_callee (f := 9) rfl ?_); refine goesL_ (some 8) rfl rfl Try.func9 (by kernel_rfl) rfl #[] rfl (by (try simp only [List.map_toArray, List.map_cons, List.map_nil]); first | done | rfl | (simp only [List.length_drop, List.length_take]; rfl)) ?_; (with_reducible refine (shuttlecocklaw08_fixed.calls k  false _ A4.out).mono ?_); rintro e w13 ⟨rfl, hb⟩; refine ⟨_, rfl, ?_⟩; have n0_ := Aside0.mk (below_step (by repeat (first | (with_reducible first | exact HB.out | apply below_alloc | apply pw_below_drewN | apply below_drew1) | exact HB.out | exact HBo.out)) hb); clear HB; have HB := n0_; clear n0_; (try clear hb); (try clear hb2); (try clear hk); (try clear hi)))
      go_meet
      case rel => exact ⟨_, (true), (by first | rfl | (simp; done) | (simp [*]; done)), H', ⟨by first | omega | exact Nat.le_refl _⟩, ⟨by repeat (first | (with_reducible first | exact HB.out | apply below_alloc | apply pw_below_drewN | apply below_drew1) | exact HB.out | exact HBo.out)⟩⟩
  case rest =>
    clear HC3
    try clear c1
    try clear p2
    try clear c5
    try clear c6
    try clear c6b0
    try clear c7
    try clear c8
    try clear c8b0
    try clear c9
    try clear c10
    try clear c10b0
    obtain ⟨kq, x25_2, rfl, HA, HJ2, HB⟩ := hcut
    cases kq with
    | zero => exact absurd HA.out (by simp [shuttlecocklaw08_SnapMany.j0])
    | succ kj2 =>
      have H := HA.out
      clear HA
      simp only [shuttlecocklaw08_SnapMany.j0] at H
      by_cases c14 : x25_2 = true
      · subst c14
        have H1 : ((shuttlecocklaw08_fixed.f kj2).bind fun t488 => (some t488)) = some r := by rw [if_pos rfl] at H; exact H
        clear H
        have H := H1
        clear H1
        replace H := Option.bind_eq_some_iff.mp H
        obtain ⟨t488, A150, H⟩ := H
        replace H : (some t488) = some r := H
        have A15 := Aside0.mk A150
        clear A150
        obtain rfl := Option.some.inj H
        go_wp2_with (first | ((with_reducible refine gate_callee (f := 9) rfl ?_); refine goesL_ (some 26) rfl rfl Try.func9 (by kernel_rfl) rfl #[] rfl (by (try simp only [List.map_toArray, List.map_cons, List.map_nil]); first | done | rfl | (simp only [List.length_drop, List.length_take]; rfl)) ?_; (with_reducible refine (shuttlecocklaw08_fixed.calls kj2  t488 _ A15.out).mono ?_); rintro e w16 ⟨rfl, hb⟩; refine ⟨_, rfl, ?_⟩; have n0_ := Aside0.mk (below_step (by repeat (first | (with_reducible first | exact HB.out | apply below_alloc | apply pw_below_drewN | apply below_drew1) | exact HB.out | exact HBo.out)) hb); clear HB; have HB := n0_; clear n0_; (try clear hb); (try clear hb2); (try clear hk); (try clear hi)))
        go_ret
        exact ⟨by first | rfl | (simp [errW_none, errW_some] <;> rfl) | (simp [*, errW_none, errW_some] <;> rfl) | (simp [Aid.ne_nil, Aid.eq_nil, errW_none, errW_some]; done), by repeat (first | (with_reducible first | exact HB.out | apply below_alloc | apply pw_below_drewN | apply below_drew1) | exact HB.out | exact HBo.out)⟩
      · replace c14 := Bool.eq_false_iff.mpr c14
        subst c14
        have H1 : (shuttlecocklaw08_SnapMany.l0 kj2 a0 a1 0 0 ([] : List (S36)) 0 ([] : List (S36))) = some r := by rw [if_neg (show ¬ (false = true) by decide)] at H; exact H
        clear H
        have H := H1
        clear H1
        have H' := Aside0.mk H
        clear H
        go_wp2_with (first | ((with_reducible refine gate_dst (N := 5) rfl ?_); refine box_event ?hg (N := 5) ?hd (cs := #[.int .i64 0, .slice none 0 0, .slice none 0 0]) (t := 25) ?hr ?_; (case hd => rfl); (case hg => rfl); (case hr => first | (go_simp; done) | (go_simp; rfl)); intro gb489 hg w17 hbox hb; have n0_ := Aside0.mk (below_step (by repeat (first | (with_reducible first | exact HB.out | apply below_alloc | apply pw_below_drewN | apply below_drew1) | exact HB.out | exact HBo.out)) hb); have n1_ := Aside0.mk (hbox); have n2_ := Aside0.mk ((by rw [hg]; exact (below_size (by repeat (first | (with_reducible first | exact HB.out | apply below_alloc | apply pw_below_drewN | apply below_drew1) | exact HB.out | exact HBo.out))) : w.heap.size ≤ gb489)); have n3_ := Aside0.mk ((by rw [hg]; exact (below_size (by repeat (first | (with_reducible first | exact HB.out | apply below_alloc | apply pw_below_drewN | apply below_drew1) | exact HB.out | exact HBo.out))) : w.heap.size ≤ gb489)); clear HB; have HB := n0_; have BK489 := n1_; have GW489 := n2_; have GE489 := n3_; clear n0_ n1_ n2_ n3_; clear hb hbox hg) | ((with_reducible refine gate_dst (N := 6) rfl ?_); refine box_event ?hg (N := 6) ?hd (cs := #[.int .i64 0, .slice none 0 0, .slice none 0 0]) (t := 25) ?hr ?_; (case hd => rfl); (case hg => rfl); (case hr => first | (go_simp; done) | (go_simp; rfl)); intro gb490 hg w18 hbox hb; have n0_ := Aside0.mk (blk_below (g := gb489) (o := .cells #[.int .i64 0, .slice none 0 0, .slice none 0 0] 25 (0, 0)) (by (with_reducible repeat (first | refine blk_drewN ?_ _ | refine blk_drew ?_ | refine blk_alloc ?_ _)); exact BK489.out) hb); have n1_ := Aside0.mk (below_step (by repeat (first | (with_reducible first | exact HB.out | apply below_alloc | apply pw_below_drewN | apply below_drew1 | refine below_set ?_ GE489.out) | exact HB.out | exact HBo.out)) hb); have n2_ := Aside0.mk (hbox); have n3_ := Aside0.mk ((by rw [hg]; exact (below_size (by repeat (first | (with_reducible first | exact HB.out | apply below_alloc | apply pw_below_drewN | apply below_drew1 | refine below_set ?_ GE489.out) | exact HB.out | exact HBo.out))) : w.heap.size ≤ gb490)); have n4_ := Aside0.mk ((by rw [hg]; exact (below_size (by repeat (first | (with_reducible first | exact HB.out | apply below_alloc | apply pw_below_drewN | apply below_drew1 | refine below_set ?_ GE489.out) | exact HB.out | exact HBo.out))) : w.heap.size ≤ gb490)); have n5_ := Aside0.mk ((by rw [hg]; exact Nat.ne_of_lt (blk_lt (g := gb489) (o := .cells #[.int .i64 0, .slice none 0 0, .slice none 0 0] 25 (0, 0)) (by (with_reducible repeat (first | refine blk_drewN ?_ _ | refine blk_drew ?_ | refine blk_alloc ?_ _)); exact BK489.out)) : gb489 ≠ gb490)); have n6_ := Aside0.mk ((by rw [hg]; exact Nat.ne_of_gt (blk_lt (g := gb489) (o := .cells #[.int .i64 0, .slice none 0 0, .slice none 0 0] 25 (0, 0)) (by (with_reducible repeat (first | refine blk_drewN ?_ _ | refine blk_drew ?_ | refine blk_alloc ?_ _)); exact BK489.out)) : gb490 ≠ gb489)); clear BK489; clear HB; have BK489 := n0_; have HB := n1_; have BK490 := n2_; have GW490 := n3_; have GE490 := n4_; have NB489_490 := n5_; have NB490_489 := n6_; clear n0_ n1_ n2_ n3_ n4_ n5_ n6_; clear hb hbox hg; have hnb19 := NB489_490.out; have hnc19 := NB490_489.out; have hcz20_0 : w18.cell? ⟨gb489, 0, none⟩ = some (.int .i64 0) := (blk_cell BK489.out 0).trans rfl; have hcz20_1 : w18.cell? ⟨gb489, 1, none⟩ = some (.slice none 0 0) := (blk_cell BK489.out 1).trans rfl; have hcz20_2 : w18.cell? ⟨gb489, 2, none⟩ = some (.slice none 0 0) := (blk_cell BK489.out 2).trans rfl; have hfz20_0 := blk_frozen BK489.out 0; have hfz20_1 := blk_frozen BK489.out 1; have hfz20_2 := blk_frozen BK489.out 2; have hcz21_0 : w18.cell? ⟨gb490, 0, none⟩ = some (.int .i64 0) := (blk_cell BK490.out 0).trans rfl; have hcz21_1 : w18.cell? ⟨gb490, 1, none⟩ = some (.slice none 0 0) := (blk_cell BK490.out 1).trans rfl; have hcz21_2 : w18.cell? ⟨gb490, 2, none⟩ = some (.slice none 0 0) := (blk_cell BK490.out 2).trans rfl; have hfz21_0 := blk_frozen BK490.out 0; have hfz21_1 := blk_frozen BK490.out 1; have hfz21_2 := blk_frozen BK490.out 2))
        go_loopg [7] kj2 (fun kq v7 w' => ∃ (x7_2 : Int) (x490002_2 : List (S36)) (x491002_2 : List (S36)) (u490002 : Value) (u491002 : Value), v7 = .int .i64 x7_2 ∧ Aside0 (shuttlecocklaw08_SnapMany.l0 kq a0 a1 x7_2 0 x490002_2 0 x491002_2 = some r) ∧ Aside0 (kq ≤ kj2) ∧ Aside0 (Kd.R k36 36 w' w.heap.size (fun k_ => some k_ ≠ (u491002 : Value).ownBlock) u490002 x490002_2) ∧ Aside0 (Kd.R k36 36 w' w.heap.size (fun k_ => some k_ ≠ (u490002 : Value).ownBlock) u491002 x491002_2) ∧ Aside0 (w'.heap[gb489]? = some (.cells #[.int .i64 0, (.slice none 0 0), u490002] 25 (0, 0))) ∧ Aside0 (w'.heap[gb490]? = some (.cells #[.int .i64 0, (.slice none 0 0), u491002] 25 (0, 0))) ∧ Aside0 (Below w.heap.size w w'))
        case atStart => exact ⟨(0), (([] : List (S36))), (([] : List (S36))), (.slice none 0 0), (.slice none 0 0), (by first | rfl | (simp; done) | (simp [*]; done)), H', ⟨Nat.le_refl _⟩, ⟨by first | exact Kd.R_nil _ _ _ _ _ | exact Kd.N_nil _ _ _ _ _ | exact Kd.V_nil _ _ _ _ _ | exact Kd.Q_nil _ _ _ _ _ | exact Kd.S_nil _ _ _ _ _⟩, ⟨by first | exact Kd.R_nil _ _ _ _ _ | exact Kd.N_nil _ _ _ _ _ | exact Kd.V_nil _ _ _ _ _ | exact Kd.Q_nil _ _ _ _ _ | exact Kd.S_nil _ _ _ _ _⟩, ⟨by (with_reducible repeat (first | refine blk_drewN ?_ _ | refine blk_drew ?_ | refine blk_alloc ?_ _)); refine blk_far ?_ NB489_490.out _; (with_reducible repeat (first | refine blk_drewN ?_ _ | refine blk_drew ?_ | refine blk_alloc ?_ _)); refine blk_far ?_ NB489_490.out _; (with_reducible repeat (first | refine blk_drewN ?_ _ | refine blk_drew ?_ | refine blk_alloc ?_ _)); refine blk_far ?_ NB489_490.out _; (with_reducible repeat (first | refine blk_drewN ?_ _ | refine blk_drew ?_ | refine blk_alloc ?_ _)); refine blk_put (cs := #[.int .i64 0, .slice none 0 0, .slice none 0 0]) ?_ 2 _ rfl; (with_reducible repeat (first | refine blk_drewN ?_ _ | refine blk_drew ?_ | refine blk_alloc ?_ _)); refine blk_put (cs := #[.int .i64 0, .slice none 0 0, .slice none 0 0]) ?_ 1 _ rfl; (with_reducible repeat (first | refine blk_drewN ?_ _ | refine blk_drew ?_ | refine blk_alloc ?_ _)); refine blk_put (cs := #[.int .i64 0, .slice none 0 0, .slice none 0 0]) ?_ 0 _ rfl; (with_reducible repeat (first | refine blk_drewN ?_ _ | refine blk_drew ?_ | refine blk_alloc ?_ _)); exact BK489.out⟩, ⟨by (with_reducible repeat (first | refine blk_drewN ?_ _ | refine blk_drew ?_ | refine blk_alloc ?_ _)); refine blk_put (cs := #[.int .i64 0, .slice none 0 0, .slice none 0 0]) ?_ 2 _ rfl; (with_reducible repeat (first | refine blk_drewN ?_ _ | refine blk_drew ?_ | refine blk_alloc ?_ _)); refine blk_put (cs := #[.int .i64 0, .slice none 0 0, .slice none 0 0]) ?_ 1 _ rfl; (with_reducible repeat (first | refine blk_drewN ?_ _ | refine blk_drew ?_ | refine blk_alloc ?_ _)); refine blk_put (cs := #[.int .i64 0, .slice none 0 0, .slice none 0 0]) ?_ 0 _ rfl; (with_reducible repeat (first | refine blk_drewN ?_ _ | refine blk_drew ?_ | refine blk_alloc ?_ _)); refine blk_far ?_ NB490_489.out _; (with_reducible repeat (first | refine blk_drewN ?_ _ | refine blk_drew ?_ | refine blk_alloc ?_ _)); refine blk_far ?_ NB490_489.out _; (with_reducible repeat (first | refine blk_drewN ?_ _ | refine blk_drew ?_ | refine blk_alloc ?_ _)); refine blk_far ?_ NB490_489.out _; (with_reducible repeat (first | refine blk_drewN ?_ _ | refine blk_drew ?_ | refine blk_alloc ?_ _)); exact BK490.out⟩, ⟨by repeat (first | (with_reducible first | exact HB.out | apply below_alloc | apply pw_below_drewN | apply below_drew1 | refine below_set ?_ GE489.out | refine below_set ?_ GE490.out) | exact HB.out | exact HBo.out)⟩⟩
        case round =>
          clear H'
          try clear c1
          try clear p2
          try clear c5
          try clear c6
          try clear c6b0
          try clear c7
          try clear c8
          try clear c8b0
          try clear c9
          try clear c10
          try clear c10b0
          try clear c14
          try clear c19
          try clear hcz20_0
          try clear hcz20_1
          try clear hcz20_2
          try clear hcz21_0
          try clear hcz21_1
          try clear hcz21_2
          try clear hfz20_0
          try clear hfz20_1
          try clear hfz20_2
          try clear hfz21_0
          try clear hfz21_1
          try clear hfz21_2
          try clear p2
          obtain ⟨x7_2, x490002_2, x491002_2, u490002, u491002, rfl, HA, HK2, HO_490002, HO_491002, BK489, BK490, HB⟩ := hrel
          cases gk with
          | zero => exact absurd HA.out (by simp [shuttlecocklaw08_SnapMany.l0])
          | succ k2 =>
            have H := HA.out
            clear HA
            simp only [shuttlecocklaw08_SnapMany.l0] at H
            by_cases c22 : x7_2 < a0
            · rw [if_pos c22] at H
              have c22b0 : decide (x7_2 < a0) = true := decide_eq_true c22
              clear c22
              by_cases c23 : x490002_2.length < 4398046511104
              · rw [if_pos c23] at H
                have LMc23 := Aside0.mk c23
                clear c23
                obtain ⟨y491, hy491⟩ : ∃ y_ : List (S36), y_ = (x490002_2 ++ [(⟨wrap64 (a1 + (wrap64 (2 * x7_2))), 3, 0, 0⟩ : S36)]) := ⟨_, rfl⟩
                replace H : ((some (([(⟨wrap64 (a1 + (wrap64 (2 * x7_2))), 3, 0, 0⟩ : S36)] : List (S36)) : List (S36))).bind fun y494 => (if y494.length + x491002_2.length < 4398046511104 then (shuttlecocklaw08_SnapMany.l0 k2 a0 a1 (wrap64 (x7_2 + 1)) 0 y491 0 (y494 ++ x491002_2)) else (none))) = some r := by first | (rw [hy491]; with_reducible exact H) | (have H2_ := (Option.bind_some _ _).symm.trans H; rw [hy491]; with_reducible exact H2_) | (have H2_ := (Option.bind_some _ _).symm.trans H; with_reducible exact H2_) | with_reducible exact H | (rw [hy491]; exact H) | exact H
                have Ny491 := Aside0.mk hy491
                clear hy491
                obtain ⟨y494, hy494⟩ : ∃ y_ : List (S36), y_ = (([(⟨wrap64 (a1 + (wrap64 (2 * x7_2))), 3, 0, 0⟩ : S36)] : List (S36))) := ⟨_, rfl⟩
                replace H : (if y494.length + x491002_2.length < 4398046511104 then (shuttlecocklaw08_SnapMany.l0 k2 a0 a1 (wrap64 (x7_2 + 1)) 0 y491 0 (y494 ++ x491002_2)) else (none)) = some r := by first | (rw [hy494]; with_reducible exact H) | (have H2_ := (Option.bind_some _ _).symm.trans H; rw [hy494]; with_reducible exact H2_) | (have H2_ := (Option.bind_some _ _).symm.trans H; with_reducible exact H2_) | with_reducible exact H | (rw [hy494]; exact H) | exact H
                have Ny494 := Aside0.mk hy494
                clear hy494
                by_cases c24 : y494.length + x491002_2.length < 4398046511104
                · rw [if_pos c24] at H
                  have LMc24 := Aside0.mk c24
                  clear c24
                  obtain ⟨y497, hy497⟩ : ∃ y_ : List (S36), y_ = (y494 ++ x491002_2) := ⟨_, rfl⟩
                  replace H : (shuttlecocklaw08_SnapMany.l0 k2 a0 a1 (wrap64 (x7_2 + 1)) 0 y491 0 y497) = some r := by first | (rw [hy497]; with_reducible exact H) | (have H2_ := (Option.bind_some _ _).symm.trans H; rw [hy497]; with_reducible exact H2_) | (have H2_ := (Option.bind_some _ _).symm.trans H; with_reducible exact H2_) | with_reducible exact H | (rw [hy497]; exact H) | exact H
                  have Ny497 := Aside0.mk hy497
                  clear hy497
                  have H' := Aside0.mk H
                  clear H
                  have hnb25 := NB489_490.out
                  have hnc25 := NB490_489.out
                  have hcz26_0 : wr.cell? ⟨gb489, 0, none⟩ = some (.int .i64 0) := (blk_cell BK489.out 0).trans rfl
                  have hcz26_1 : wr.cell? ⟨gb489, 1, none⟩ = some (.slice none 0 0) := (blk_cell BK489.out 1).trans rfl
                  have hcz26_2 : wr.cell? ⟨gb489, 2, none⟩ = some (u490002) := (blk_cell BK489.out 2).trans rfl
                  have hfz26_0 := blk_frozen BK489.out 0
                  have hfz26_1 := blk_frozen BK489.out 1
                  have hfz26_2 := blk_frozen BK489.out 2
                  go_wp2_with (first | ((with_reducible refine gate_builtin (b := .append) (xs := #[.tmp 35, .tmp 41]) rfl ?_); at_builtin; refine Kd.R_append k36 (w0 := w) w.heap.size rfl (.tmp 35) (.tmp 41) 23 36 (.agg #[(.int .i64 0), (.int .i64 0), (.int .i64 0), (.int .i64 0)]) 32 rfl Try.underlying23 info36 rfl (by decide) (by omega) u490002 x490002_2 (⟨wrap64 (a1 + (wrap64 (2 * x7_2))), 3, 0, 0⟩ : S36) [.int .i64 (wrap64 (a1 + (wrap64 (2 * x7_2)))), .int .i64 3, .int .i64 0, .int .i64 0] (fun k_ => some k_ ≠ (u491002 : Value).ownBlock) (fun _ => False) rfl rfl ?aP (fun _ hk => hk.elim) ?aF ?aO ?aB ?aS ?aL ?_; (case aP => exact k36_mkM _ _ _ (⟨wrap64 (a1 + (wrap64 (2 * x7_2))), 3, 0, 0⟩ : S36)); (case aB => exact (by repeat (first | (with_reducible first | exact HB.out | apply below_alloc | apply pw_below_drewN | apply below_drew1 | refine below_set ?_ GE489.out | refine below_set ?_ GE490.out) | exact HB.out | exact HBo.out))); (case aF => exact (fun k_ hk => Kd.fresh' (Kd.R_lt (by (with_reducible repeat (first | apply Kd.R_alloc | apply Kd.R_drewN | apply Kd.R_drew)); exact HO_491002.out)) k_ hk)); (case aO => exact (by (with_reducible repeat (first | apply Kd.R_alloc | apply Kd.R_drewN | apply Kd.R_drew)); exact HO_490002.out)); (case aS => exact (below_size (by repeat (first | (with_reducible first | exact HB.out | apply below_alloc | apply pw_below_drewN | apply below_drew1 | refine below_set ?_ GE489.out | refine below_set ?_ GE490.out) | exact HB.out | exact HBo.out)))); (case aL => have := LMc23.out; omega); intro v492 w27 ho hb hg hat; rw [← Ny491.out] at ho; have n0_ := Aside0.mk (Kd.R_after (ok := (fun _ => True)) (by (with_reducible repeat (first | apply Kd.R_alloc | apply Kd.R_drewN | apply Kd.R_drew)); exact Kd.R_mono HO_491002.out (fun _ hk => ⟨trivial, hk⟩)) hg hat); have n1_ := Aside0.mk (blk_grown (g := gb489) (o := .cells #[.int .i64 0, .slice none 0 0, u490002] 25 (0, 0)) (by (with_reducible repeat (first | refine blk_drewN ?_ _ | refine blk_drew ?_ | refine blk_alloc ?_ _)); exact BK489.out) hg (Kd.R_ne HO_490002.out BK489.out (by decide))); have n2_ := Aside0.mk (blk_grown (g := gb490) (o := .cells #[.int .i64 0, .slice none 0 0, u491002] 25 (0, 0)) (by (with_reducible repeat (first | refine blk_drewN ?_ _ | refine blk_drew ?_ | refine blk_alloc ?_ _)); exact BK490.out) hg (Kd.R_ne HO_490002.out BK490.out (by decide))); have n3_ := Aside0.mk (hb); have n4_ := Aside0.mk (ho); clear HO_491002; clear BK489; clear BK490; clear HB; clear HO_490002; have HO_491002 := n0_; have BK489 := n1_; have BK490 := n2_; have HB := n3_; have HO493 := n4_; clear n0_ n1_ n2_ n3_ n4_; clear ho hb hg hat; obtain ⟨Ao28, co28, eo28⟩ := Kd.R_slice HO493.out; subst eo28; have hcz29_0 : w27.cell? ⟨gb489, 0, none⟩ = some (.int .i64 0) := (blk_cell BK489.out 0).trans rfl; have hcz29_1 : w27.cell? ⟨gb489, 1, none⟩ = some (.slice none 0 0) := (blk_cell BK489.out 1).trans rfl; have hcz29_2 : w27.cell? ⟨gb489, 2, none⟩ = some (u490002) := (blk_cell BK489.out 2).trans rfl; have hfz29_0 := blk_frozen BK489.out 0; have hfz29_1 := blk_frozen BK489.out 1; have hfz29_2 := blk_frozen BK489.out 2) | ((with_reducible refine gate_dst (N := 49) rfl ?_); refine Kd.R_lit k36 _ 36 ?hg (N := 49) ?hd (xs := ([(⟨wrap64 (a1 + (wrap64 (2 * x7_2))), 3, 0, 0⟩ : S36)] : List (S36))) (inner := [.int .i64 (wrap64 (a1 + (wrap64 (2 * x7_2)))), .int .i64 3, .int .i64 0, .int .i64 0]) (ok := fun _ => True) (okp := fun _ => True) ?hr ?hp (fun _ hk => hk) trivial (Below.refl _ _) (Nat.le_refl _) (by simp) ?_; (case hd => rfl); (case hg => rfl); (case hr => first | (go_simp; done) | (go_simp; rfl)); (case hp => exact (Reps.c4 (show Kd.M k36 _ _ _ (⟨wrap64 (a1 + (wrap64 (2 * x7_2))), 3, 0, 0⟩ : S36) [.int .i64 (wrap64 (a1 + (wrap64 (2 * x7_2)))), .int .i64 3, .int .i64 0, .int .i64 0] from (k36_mkM _ _ _ (⟨wrap64 (a1 + (wrap64 (2 * x7_2))), 3, 0, 0⟩ : S36) )) (Reps.none _ _))); intro v495 w30 ho31 hb hg_ hnew_; clear hg_ hnew_; (first | rw [← Ny494.out] at ho31 | (simp only [Int.reduceToNat] at ho31; rw [← Ny494.out] at ho31)); have n0_ := Aside0.mk (Kd.R_elder' (by (with_reducible repeat (first | apply Kd.R_alloc | apply Kd.R_drewN | apply Kd.R_drew)); exact (Kd.R_mono (Kd.R_far (p := ⟨gb489, 2, none⟩) (Kd.R_types HO_491002.out BK489.out (by decide)) (fun _ hk => hk.2) (.slice Ao28 y491.length co28)) (fun _ h_ => h_.1))) (Kd.R_base ho31) hb); have n1_ := Aside0.mk (Kd.R_elder' (by (with_reducible repeat (first | apply Kd.R_alloc | apply Kd.R_drewN | apply Kd.R_drew)); exact (Kd.R_mono (Kd.R_far (p := ⟨gb489, 2, none⟩) (Kd.R_types HO493.out BK489.out (by decide)) (fun _ hk => hk.2) (.slice Ao28 y491.length co28)) (fun _ h_ => h_.1))) (Kd.R_base ho31) hb); have n2_ := Aside0.mk (Kd.R_lower (Kd.R_new' (Kd.R_new' ho31 (Kd.R_lt (by (with_reducible repeat (first | apply Kd.R_alloc | apply Kd.R_drewN | apply Kd.R_drew)); exact (Kd.R_mono (Kd.R_far (p := ⟨gb489, 2, none⟩) (Kd.R_types HO_491002.out BK489.out (by decide)) (fun _ hk => hk.2) (.slice Ao28 y491.length co28)) (fun _ h_ => h_.1))))) (Kd.R_lt (by (with_reducible repeat (first | apply Kd.R_alloc | apply Kd.R_drewN | apply Kd.R_drew)); exact (Kd.R_mono (Kd.R_far (p := ⟨gb489, 2, none⟩) (Kd.R_types HO493.out BK489.out (by decide)) (fun _ hk => hk.2) (.slice Ao28 y491.length co28)) (fun _ h_ => h_.1))))) (below_size (by repeat (first | (with_reducible first | exact HB.out | apply below_alloc | apply pw_below_drewN | apply below_drew1 | refine below_set ?_ GE489.out | refine below_set ?_ GE490.out) | exact HB.out | exact HBo.out)))); have n3_ := Aside0.mk (blk_below (g := gb489) (o := .cells #[.int .i64 0, .slice none 0 0, .slice Ao28 y491.length co28] 25 (0, 0)) (by (with_reducible repeat (first | refine blk_drewN ?_ _ | refine blk_drew ?_ | refine blk_alloc ?_ _)); refine blk_put (cs := #[.int .i64 0, .slice none 0 0, u490002]) ?_ 2 _ rfl; (with_reducible repeat (first | refine blk_drewN ?_ _ | refine blk_drew ?_ | refine blk_alloc ?_ _)); exact BK489.out) hb); have n4_ := Aside0.mk (blk_below (g := gb490) (o := .cells #[.int .i64 0, .slice none 0 0, u491002] 25 (0, 0)) (by (with_reducible repeat (first | refine blk_drewN ?_ _ | refine blk_drew ?_ | refine blk_alloc ?_ _)); refine blk_far ?_ NB490_489.out _; (with_reducible repeat (first | refine blk_drewN ?_ _ | refine blk_drew ?_ | refine blk_alloc ?_ _)); exact BK490.out) hb); have n5_ := Aside0.mk (below_step (by repeat (first | (with_reducible first | exact HB.out | apply below_alloc | apply pw_below_drewN | apply below_drew1 | refine below_set ?_ GE489.out | refine below_set ?_ GE490.out) | exact HB.out | exact HBo.out)) hb); clear HO_491002; clear HO493; clear BK489; clear BK490; clear HB; have HO_491002 := n0_; have HO493 := n1_; have HO496 := n2_; have BK489 := n3_; have BK490 := n4_; have HB := n5_; clear n0_ n1_ n2_ n3_ n4_ n5_; clear hb ho31; have hcz32_0 : w30.cell? ⟨gb490, 0, none⟩ = some (.int .i64 0) := (blk_cell BK490.out 0).trans rfl; have hcz32_1 : w30.cell? ⟨gb490, 1, none⟩ = some (.slice none 0 0) := (blk_cell BK490.out 1).trans rfl; have hcz32_2 : w30.cell? ⟨gb490, 2, none⟩ = some (u491002) := (blk_cell BK490.out 2).trans rfl; have hfz32_0 := blk_frozen BK490.out 0; have hfz32_1 := blk_frozen BK490.out 1; have hfz32_2 := blk_frozen BK490.out 2; obtain ⟨Ao34, co34, eo34⟩ := Kd.R_slice HO_491002.out; subst eo34) | ((with_reducible refine gate_builtin (b := .append) (xs := #[.tmp 49, .tmp 51]) rfl ?_); at_builtin; refine Kd.R_append_rows k36 (w0 := w) w.heap.size rfl (.tmp 49) (.tmp 51) 23 36 (.agg #[(.int .i64 0), (.int .i64 0), (.int .i64 0), (.int .i64 0)]) 32 rfl Try.underlying23 info36 rfl (by decide) (by omega) v495 y494 x491002_2 _ _ _ (fun k_ => some k_ ≠ (.slice Ao34 x491002_2.length co34 : Value).ownBlock ∧ some k_ ≠ (.slice Ao28 y491.length co28 : Value).ownBlock) (fun _ => False) rfl rfl ?aO ?aR (fun _ _ h => h) (fun _ h => h.elim) ?aF ?aB ?aS ?aL ?_; (case aR => repeat (first | exact (Kd.R_reads' HO_491002.out).2.2 | (with_reducible refine Kd.C_alloc ?_ _) | (with_reducible refine Kd.C_drewN ?_ _) | (with_reducible refine Kd.C_drew ?_))); (case aB => exact (by repeat (first | (with_reducible first | exact HB.out | apply below_alloc | apply pw_below_drewN | apply below_drew1 | refine below_set ?_ GE489.out | refine below_set ?_ GE490.out) | exact HB.out | exact HBo.out))); (case aF => exact (fun k_ hk => ⟨Kd.fresh' (Kd.R_lt (by (with_reducible repeat (first | apply Kd.R_alloc | apply Kd.R_drewN | apply Kd.R_drew)); exact HO_491002.out)) k_ hk, Kd.fresh' (Kd.R_lt (by (with_reducible repeat (first | apply Kd.R_alloc | apply Kd.R_drewN | apply Kd.R_drew)); exact HO493.out)) k_ hk⟩)); (case aO => exact (by (with_reducible repeat (first | apply Kd.R_alloc | apply Kd.R_drewN | apply Kd.R_drew)); exact Kd.R_mono HO496.out (fun _ hk => ⟨hk.1.2, hk.2⟩))); (case aS => exact (below_size (by repeat (first | (with_reducible first | exact HB.out | apply below_alloc | apply pw_below_drewN | apply below_drew1 | refine below_set ?_ GE489.out | refine below_set ?_ GE490.out) | exact HB.out | exact HBo.out)))); (case aL => have := LMc24.out; omega); intro v498 w33 ho hb hg hat; rw [← Ny497.out] at ho; have n0_ := Aside0.mk (Kd.R_after (ok := (fun k_ => some k_ ≠ (.slice Ao28 y491.length co28 : Value).ownBlock)) (by (with_reducible repeat (first | apply Kd.R_alloc | apply Kd.R_drewN | apply Kd.R_drew)); exact Kd.R_mono HO_491002.out (fun _ hk => ⟨hk.1.2, hk.2⟩)) hg hat); have n1_ := Aside0.mk (blk_grown (g := gb489) (o := .cells #[.int .i64 0, .slice none 0 0, .slice Ao28 y491.length co28] 25 (0, 0)) (by (with_reducible repeat (first | refine blk_drewN ?_ _ | refine blk_drew ?_ | refine blk_alloc ?_ _)); exact BK489.out) hg (Kd.R_ne HO496.out BK489.out (by decide))); have n2_ := Aside0.mk (blk_grown (g := gb490) (o := .cells #[.int .i64 0, .slice none 0 0, .slice Ao34 x491002_2.length co34] 25 (0, 0)) (by (with_reducible repeat (first | refine blk_drewN ?_ _ | refine blk_drew ?_ | refine blk_alloc ?_ _)); exact BK490.out) hg (Kd.R_ne HO496.out BK490.out (by decide))); have n3_ := Aside0.mk (Kd.R_after (ok := (fun k_ => some k_ ≠ (.slice Ao34 x491002_2.length co34 : Value).ownBlock)) (by (with_reducible repeat (first | apply Kd.R_alloc | apply Kd.R_drewN | apply Kd.R_drew)); exact HO493.out) hg hat); have n4_ := Aside0.mk (hb); have n5_ := Aside0.mk (ho); clear HO_491002; clear BK489; clear BK490; clear HO493; clear HB; clear HO496; have HO_491002 := n0_; have BK489 := n1_; have BK490 := n2_; have HO493 := n3_; have HB := n4_; have HO499 := n5_; clear n0_ n1_ n2_ n3_ n4_ n5_; clear ho hb hg hat; obtain ⟨Ao35, co35, eo35⟩ := Kd.R_slice HO499.out; subst eo35; have hcz36_0 : w33.cell? ⟨gb490, 0, none⟩ = some (.int .i64 0) := (blk_cell BK490.out 0).trans rfl; have hcz36_1 : w33.cell? ⟨gb490, 1, none⟩ = some (.slice none 0 0) := (blk_cell BK490.out 1).trans rfl; have hcz36_2 : w33.cell? ⟨gb490, 2, none⟩ = some (.slice Ao34 x491002_2.length co34) := (blk_cell BK490.out 2).trans rfl; have hfz36_0 := blk_frozen BK490.out 0; have hfz36_1 := blk_frozen BK490.out 1; have hfz36_2 := blk_frozen BK490.out 2))
                  go_roundg k2
                  case measure => have := HJ2.out; have := HK2.out; omega
                  case rel => exact ⟨(wrap64 (x7_2 + 1)), (y491), (y497), (.slice Ao28 y491.length co28), (.slice Ao35 y497.length co35), (by first | rfl | (simp; done) | (simp [*]; done)), H', ⟨by have := HJ2.out; have := HK2.out; omega⟩, ⟨by (with_reducible repeat (first | apply Kd.R_alloc | apply Kd.R_drewN | apply Kd.R_drew)); exact Kd.R_mono (Kd.R_far (p := ⟨gb490, 2, none⟩) (Kd.R_types HO493.out BK490.out (by decide)) (fun _ hk => hk.2) (.slice Ao35 y497.length co35)) (fun _ hk => hk.1.2)⟩, ⟨by (with_reducible repeat (first | apply Kd.R_alloc | apply Kd.R_drewN | apply Kd.R_drew)); exact Kd.R_mono (Kd.R_far (p := ⟨gb490, 2, none⟩) (Kd.R_types HO499.out BK490.out (by decide)) (fun _ hk => hk.2) (.slice Ao35 y497.length co35)) (fun _ hk => hk.1.2)⟩, ⟨by (with_reducible repeat (first | refine blk_drewN ?_ _ | refine blk_drew ?_ | refine blk_alloc ?_ _)); refine blk_far ?_ NB489_490.out _; (with_reducible repeat (first | refine blk_drewN ?_ _ | refine blk_drew ?_ | refine blk_alloc ?_ _)); exact BK489.out⟩, ⟨by (with_reducible repeat (first | refine blk_drewN ?_ _ | refine blk_drew ?_ | refine blk_alloc ?_ _)); refine blk_put (cs := #[.int .i64 0, .slice none 0 0, .slice Ao34 x491002_2.length co34]) ?_ 2 _ rfl; (with_reducible repeat (first | refine blk_drewN ?_ _ | refine blk_drew ?_ | refine blk_alloc ?_ _)); exact BK490.out⟩, ⟨by repeat (first | (with_reducible first | exact HB.out | apply below_alloc | apply pw_below_drewN | apply below_drew1 | refine below_set ?_ GE489.out | refine below_set ?_ GE490.out) | exact HB.out | exact HBo.out)⟩⟩
                · rw [if_neg c24] at H
                  exact absurd H (by simp)
              · rw [if_neg c23] at H
                exact absurd H (by simp)
            · rw [if_neg c22] at H
              have c22b0 : decide (x7_2 < a0) = false := decide_eq_false c22
              clear c22
              replace H := Option.bind_eq_some_iff.mp H
              obtain ⟨t500, A370, H⟩ := H
              replace H : (if t500 = true then ((snap_May.f 0 ([] : List (S46)) x491002_2).bind fun t501 => (some (t501 == (decide (a0 < 2))))) else (none)) = some r := H
              have A37 := Aside0.mk A370
              clear A370
              by_cases c38 : t500 = true
              · subst c38
                have H1 : ((snap_May.f 0 ([] : List (S46)) x491002_2).bind fun t501 => (some (t501 == (decide (a0 < 2))))) = some r := by rw [if_pos rfl] at H; exact H
                clear H
                have H := H1
                clear H1
                replace H := Option.bind_eq_some_iff.mp H
                obtain ⟨t501, A390, H⟩ := H
                replace H : (some (t501 == (decide (a0 < 2)))) = some r := H
                have A39 := Aside0.mk A390
                clear A390
                obtain rfl := Option.some.inj H
                have hnb40 := NB489_490.out
                have hnc40 := NB490_489.out
                have hcz41_0 : wr.cell? ⟨gb489, 0, none⟩ = some (.int .i64 0) := (blk_cell BK489.out 0).trans rfl
                have hcz41_1 : wr.cell? ⟨gb489, 1, none⟩ = some (.slice none 0 0) := (blk_cell BK489.out 1).trans rfl
                have hcz41_2 : wr.cell? ⟨gb489, 2, none⟩ = some (u490002) := (blk_cell BK489.out 2).trans rfl
                have hfz41_0 := blk_frozen BK489.out 0
                have hfz41_1 := blk_frozen BK489.out 1
                have hfz41_2 := blk_frozen BK489.out 2
                obtain ⟨Ao42, co42, eo42⟩ := Kd.R_slice HO_490002.out
                subst eo42
                go_wp2_with (first | ((with_reducible refine gate_callee (f := 12) rfl ?_); refine goesL_ (some 55) rfl rfl Try.func12 (by kernel_rfl) rfl #[.agg #[.int .i64 0, .slice none 0 0, .slice Ao42 x490002_2.length co42]] rfl (by (try simp only [List.map_toArray, List.map_cons, List.map_nil]); first | done | rfl | (simp only [List.length_drop, List.length_take]; rfl)) ?_; (refine (snap_May.calls 0 _ _ ([] : List (S46)) _ _ x490002_2 true _ ?side1 ?side2 ?side3 ?side4 A37.out).mono ?_); (case side1 => exact Kd.C_nil _ _); (case side2 => exact Nat.le_refl _); (case side3 => repeat (first | exact (Kd.R_reads' HO_490002.out).2.2 | (with_reducible refine Kd.C_alloc ?_ _) | (with_reducible refine Kd.C_drewN ?_ _) | (with_reducible refine Kd.C_drew ?_))); (case side4 => exact (Kd.R_reads' HO_490002.out).2.1); rintro e w43 ⟨rfl, hb⟩; refine ⟨_, rfl, ?_⟩; have n0_ := Aside0.mk (Kd.R_below (by (with_reducible repeat (first | apply Kd.R_alloc | apply Kd.R_drewN | apply Kd.R_drew)); exact HO_490002.out) hb); have n1_ := Aside0.mk (Kd.R_below (by (with_reducible repeat (first | apply Kd.R_alloc | apply Kd.R_drewN | apply Kd.R_drew)); exact HO_491002.out) hb); have n2_ := Aside0.mk (blk_below (g := gb489) (o := .cells #[.int .i64 0, .slice none 0 0, .slice Ao42 x490002_2.length co42] 25 (0, 0)) (by (with_reducible repeat (first | refine blk_drewN ?_ _ | refine blk_drew ?_ | refine blk_alloc ?_ _)); exact BK489.out) hb); have n3_ := Aside0.mk (blk_below (g := gb490) (o := .cells #[.int .i64 0, .slice none 0 0, u491002] 25 (0, 0)) (by (with_reducible repeat (first | refine blk_drewN ?_ _ | refine blk_drew ?_ | refine blk_alloc ?_ _)); exact BK490.out) hb); have n4_ := Aside0.mk (below_step (by repeat (first | (with_reducible first | exact HB.out | apply below_alloc | apply pw_below_drewN | apply below_drew1 | refine below_set ?_ GE489.out | refine below_set ?_ GE490.out) | exact HB.out | exact HBo.out)) hb); clear HO_490002; clear HO_491002; clear BK489; clear BK490; clear HB; have HO_490002 := n0_; have HO_491002 := n1_; have BK489 := n2_; have BK490 := n3_; have HB := n4_; clear n0_ n1_ n2_ n3_ n4_; (try clear hb); (try clear hb2); (try clear hk); (try clear hi); have hcz44_0 : w43.cell? ⟨gb490, 0, none⟩ = some (.int .i64 0) := (blk_cell BK490.out 0).trans rfl; have hcz44_1 : w43.cell? ⟨gb490, 1, none⟩ = some (.slice none 0 0) := (blk_cell BK490.out 1).trans rfl; have hcz44_2 : w43.cell? ⟨gb490, 2, none⟩ = some (u491002) := (blk_cell BK490.out 2).trans rfl; have hfz44_0 := blk_frozen BK490.out 0; have hfz44_1 := blk_frozen BK490.out 1; have hfz44_2 := blk_frozen BK490.out 2; obtain ⟨Ao45, co45, eo45⟩ := Kd.R_slice HO_491002.out; subst eo45) | (go_at_call 12; (refine (snap_May.calls 0 _ _ ([] : List (S46)) _ _ x491002_2 t501 _ ?side1 ?side2 ?side3 ?side4 A39.out).mono ?_); (case side1 => exact Kd.C_nil _ _); (case side2 => exact Nat.le_refl _); (case side3 => repeat (first | exact (Kd.R_reads' HO_491002.out).2.2 | (with_reducible refine Kd.C_alloc ?_ _) | (with_reducible refine Kd.C_drewN ?_ _) | (with_reducible refine Kd.C_drew ?_))); (case side4 => exact (Kd.R_reads' HO_491002.out).2.1); rintro e w46 ⟨rfl, hb⟩; have n0_ := Aside0.mk (Kd.R_below (by (with_reducible repeat (first | apply Kd.R_alloc | apply Kd.R_drewN | apply Kd.R_drew)); exact HO_490002.out) hb); have n1_ := Aside0.mk (Kd.R_below (by (with_reducible repeat (first | apply Kd.R_alloc | apply Kd.R_drewN | apply Kd.R_drew)); exact HO_491002.out) hb); have n2_ := Aside0.mk (blk_below (g := gb489) (o := .cells #[.int .i64 0, .slice none 0 0, .slice Ao42 x490002_2.length co42] 25 (0, 0)) (by (with_reducible repeat (first | refine blk_drewN ?_ _ | refine blk_drew ?_ | refine blk_alloc ?_ _)); exact BK489.out) hb); have n3_ := Aside0.mk (blk_below (g := gb490) (o := .cells #[.int .i64 0, .slice none 0 0, .slice Ao45 x491002_2.length co45] 25 (0, 0)) (by (with_reducible repeat (first | refine blk_drewN ?_ _ | refine blk_drew ?_ | refine blk_alloc ?_ _)); exact BK490.out) hb); have n4_ := Aside0.mk (below_step (by repeat (first | (with_reducible first | exact HB.out | apply below_alloc | apply pw_below_drewN | apply below_drew1 | refine below_set ?_ GE489.out | refine below_set ?_ GE490.out) | exact HB.out | exact HBo.out)) hb); clear HO_490002; clear HO_491002; clear BK489; clear BK490; clear HB; have HO_490002 := n0_; have HO_491002 := n1_; have BK489 := n2_; have BK490 := n3_; have HB := n4_; clear n0_ n1_ n2_ n3_ n4_; (try clear hb); (try clear hb2); (try clear hk); (try clear hi)))
                go_ret
                exact ⟨by first | rfl | (simp [errW_none, errW_some] <;> rfl) | (simp [*, errW_none, errW_some] <;> rfl) | (simp [Aid.ne_nil, Aid.eq_nil, errW_none, errW_some]; done), by repeat (first | (with_reducible first | exact HB.out | apply below_alloc | apply pw_below_drewN | apply below_drew1 | refine below_set ?_ GE489.out | refine below_set ?_ GE490.out) | exact HB.out | exact HBo.out)⟩
              · replace c38 := Bool.eq_false_iff.mpr c38
                subst c38
                have H1 : (none) = some r := by rw [if_neg (show ¬ (false = true) by decide)] at H; exact H
                clear H
                have H := H1
                clear H1
                exact absurd H (by simp)

/-- THE ONE PURE STATEMENT of shuttlecocklaw08_SnapMany: yours. -/
def shuttlecocklaw08_SnapMany.Pure : Prop := ∀ (a0 : Int) (a1 : Int), (Lit.int .i64 a0).wf = true → (Lit.int .i64 a1).wf = true → ∃ k, shuttlecocklaw08_SnapMany.f k a0 a1 = some true
theorem shuttlecocklaw08_SnapMany.walk (P : shuttlecocklaw08_SnapMany.Pure) (a0 : Int) (a1 : Int) (w : World) (w0 : (Lit.int .i64 a0).wf = true) (w1 : (Lit.int .i64 a1).wf = true) :
    Calls Try.prog 7 #[.int .i64 a0, .int .i64 a1] w fun e w' => e = .returned (.bool true) ∧ Below w.heap.size w w' := by
  obtain ⟨k, h⟩ := P a0 a1 w0 w1
  refine (shuttlecocklaw08_SnapMany.calls k a0 a1 true w h).mono ?_
  rintro e w' ⟨rfl, hd⟩
  exact ⟨rfl, hd⟩

end Go.Proofs.Ythfdhoegboeaeaa.Q
