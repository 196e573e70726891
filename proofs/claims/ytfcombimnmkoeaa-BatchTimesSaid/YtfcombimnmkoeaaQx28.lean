-- printed by a program of this session (NOTES: hprint); not the kit's print
-- minified
-- halved
import Derived.Test.YtfcombimnmkoeaaAl
import Derived.Test.YtfcombimnmkoeaaQx0
namespace Go.Proofs.Ytfcombimnmkoeaa.Q
open Go.RowKit Go.Proofs.YtfcombimnmkoeaaW.PrintWords Go.Proofs.YtfcombimnmkoeaaW.PrintLast Go.Proofs.YtfcombimnmkoeaaW.PrintMore
attribute [local go_sem] max2_int min2_int max_two min_two max_three min_three max_four min_four   -- for this text's walks alone
set_option linter.unusedVariables false
set_option linter.unusedSimpArgs false

/-! ### shuttlecockref03_Args: function 42 -/
def shuttlecockref03_Args.j0 : Nat → Int → Bool → Option (List Int)
 | 0, _, _ => none
 | k + 1, x3, x13 => if x13 = true then (some (([3, 4] : List Int))) else (if x3 = 7 then (some (([1, 2, 4] : List Int))) else (if x3 = 9 then (some (([4] : List Int))) else (if x3 = 10 then (some (([5, 2] : List Int))) else (some ([] : List Int)))))
def shuttlecockref03_Args.f (k : Nat) (a0 : Int) : Option (List Int) := if a0 = 1 then (some (([0, 2] : List Int))) else (if a0 = 3 then (some (([1, 4] : List Int))) else (if a0 = 4 then (some (([1, 2] : List Int))) else (if a0 = 5 then (shuttlecockref03_Args.j0 k a0 (a0 == 5)) else (shuttlecockref03_Args.j0 k a0 (a0 == 6)))))
theorem shuttlecockref03_Args.mono_l : ∀ k, (∀ y0 y1, LeO (shuttlecockref03_Args.j0 k y0 y1) (shuttlecockref03_Args.j0 (k + 1) y0 y1))
 | 0 => fun _ _ r h => by simp [shuttlecockref03_Args.j0] at h
 | k + 1 => by
  have ih0 := shuttlecockref03_Args.mono_l k
  ·
   intro y0 y1
   unfold shuttlecockref03_Args.j0
   repeat' first
   | (with_reducible exact ih0 _ _)
   | (with_reducible exact LeO.refl _)
   | (with_reducible exact LeO.none _)
   | (with_reducible refine LeO.ite ?_ ?_)
   | (with_reducible refine LeO.bind ?_ (fun _ => ?_))
   | exact ih0 _ _
   | exact LeO.none _
   | refine LeO.ite ?_ ?_
   | refine LeO.bind ?_ (fun _ => ?_)
theorem shuttlecockref03_Args.mono : ∀ a0 k, LeO (shuttlecockref03_Args.f k a0) (shuttlecockref03_Args.f (k + 1) a0) := by
 intro a0 k
 have ih0 := shuttlecockref03_Args.mono_l k
 unfold shuttlecockref03_Args.f
 repeat' first
   | (with_reducible exact ih0 _ _)
   | (with_reducible exact LeO.refl _)
   | (with_reducible exact LeO.none _)
   | (with_reducible refine LeO.ite ?_ ?_)
   | (with_reducible refine LeO.bind ?_ (fun _ => ?_))
   | exact ih0 _ _
   | exact LeO.none _
   | refine LeO.ite ?_ ?_
   | refine LeO.bind ?_ (fun _ => ?_)
set_option maxHeartbeats 8000000 in
set_option maxRecDepth 100000 in
theorem shuttlecockref03_Args.calls (k : Nat) (a0 : Int) (r : List Int) (w : World) (h : shuttlecockref03_Args.f k a0 = some r) :
  Calls Try.prog 42 #[.int .i64 a0] w fun e w' => ∃ v0_ : Value, e = .returned (v0_) ∧ Kd.R (Kd.int .i64) 3 w' w.heap.size (fun _ => True) v0_ r ∧ Below w.heap.size w w' := by
 have HB := Am (Below.refl w.heap.size w)
 have H : (if a0 = 1 then (some (([0, 2] : List Int))) else (if a0 = 3 then (some (([1, 4] : List Int))) else (if a0 = 4 then (some (([1, 2] : List Int))) else (if a0 = 5 then (shuttlecockref03_Args.j0 k a0 (a0 == 5)) else (shuttlecockref03_Args.j0 k a0 (a0 == 6)))))) = some r := h
 clear h
 by_cases c2 : a0 = 1
 ·
  rw [if_pos c2] at H
  have c2b0 : (a0 == 1) = true := beq_iff_eq.mpr c2
  have c2b1 : (a0 != 1) = false := bne_eq_false_iff_eq.mpr c2
  clear c2
  obtain ⟨y310, hy310⟩ : ∃ y_ : List Int, y_ = (([0, 2] : List Int)) := ⟨_, rfl⟩
  replace H : (some y310) = some r := by first | (rw [hy310]; with_reducible exact H) | (have H2_ := (Option.bind_some _ _).symm.trans H; rw [hy310]; with_reducible exact H2_) | (have H2_ := (Option.bind_some _ _).symm.trans H; with_reducible exact H2_) | with_reducible exact H | (rw [hy310]; exact H) | exact H
  have Ny310 := Am hy310
  clear hy310
  obtain rfl := Option.some.inj H
  go_enter Try.func42, Try.ntmps42
  go_wp2_with (first | ((with_reducible refine gate_dst (N := 6) rfl ?_); refine Kd.R_lit (Kd.int .i64) _ 3 ?hg (N := 6) ?hd (xs := ([0, 2] : List Int)) (inner := [.int .i64 0, .int .i64 2]) (ok := fun _ => True) (okp := fun _ => True) ?hr ?hp (fun _ hk => hk) trivial (Below.refl _ _) (Nat.le_refl _) (by simp) ?_; (case hd => rfl); (case hg => rfl); (case hr => first | (go_simp; done) | (go_simp; rfl)); (case hp => exact (Reps.one (show Kd.M (Kd.int .i64) _ _ _ 0 [.int .i64 0] from rfl) (Reps.one (show Kd.M (Kd.int .i64) _ _ _ 2 [.int .i64 2] from rfl) (Reps.none _ _)))); intro v311 w3 ho4 hb hg_ hnew_; clear hg_ hnew_; (first | rw [← Ny310.out] at ho4 | (simp only [Int.reduceToNat] at ho4; rw [← Ny310.out] at ho4)); have n0_ := Am (Kd.R_lower ho4 (below_size (by repeat (first | (with_reducible first | exact HB.out | apply bl | apply pN | apply b1) | exact HB.out | exact HBo.out)))); have n1_ := Am (below_step (by repeat (first | (with_reducible first | exact HB.out | apply bl | apply pN | apply b1) | exact HB.out | exact HBo.out)) hb); clear HB; have HO312 := n0_; have HB := n1_; clear n0_ n1_; clear hb ho4))
  go_ret
  exact ⟨_, by first | rfl | (simp [errW_none, errW_some] <;> rfl) | (simp [*, errW_none, errW_some] <;> rfl) | (simp [Aid.ne_nil, Aid.eq_nil, errW_none, errW_some]; done), by (with_reducible repeat (first | apply Kd.R_alloc | apply Kd.R_drewN | apply Kd.R_drew)); exact HO312.out, by repeat (first | (with_reducible first | exact HB.out | apply bl | apply pN | apply b1) | exact HB.out | exact HBo.out)⟩
 ·
  rw [if_neg c2] at H
  have c2b0 : (a0 == 1) = false := beq_eq_false_iff_ne.mpr c2
  have c2b1 : (a0 != 1) = true := bne_iff_ne.mpr c2
  by_cases c5 : a0 = 3
  ·
   rw [if_pos c5] at H
   have c5b0 : (a0 == 3) = true := beq_iff_eq.mpr c5
   have c5b1 : (a0 != 3) = false := bne_eq_false_iff_eq.mpr c5
   clear c5
   obtain ⟨y313, hy313⟩ : ∃ y_ : List Int, y_ = (([1, 4] : List Int)) := ⟨_, rfl⟩
   replace H : (some y313) = some r := by first | (rw [hy313]; with_reducible exact H) | (have H2_ := (Option.bind_some _ _).symm.trans H; rw [hy313]; with_reducible exact H2_) | (have H2_ := (Option.bind_some _ _).symm.trans H; with_reducible exact H2_) | with_reducible exact H | (rw [hy313]; exact H) | exact H
   have Ny313 := Am hy313
   clear hy313
   obtain rfl := Option.some.inj H
   go_enter Try.func42, Try.ntmps42
   go_wp2_with (first | ((with_reducible refine gate_dst (N := 9) rfl ?_); refine Kd.R_lit (Kd.int .i64) _ 3 ?hg (N := 9) ?hd (xs := ([1, 4] : List Int)) (inner := [.int .i64 1, .int .i64 4]) (ok := fun _ => True) (okp := fun _ => True) ?hr ?hp (fun _ hk => hk) trivial (Below.refl _ _) (Nat.le_refl _) (by simp) ?_; (case hd => rfl); (case hg => rfl); (case hr => first | (go_simp; done) | (go_simp; rfl)); (case hp => exact (Reps.one (show Kd.M (Kd.int .i64) _ _ _ 1 [.int .i64 1] from rfl) (Reps.one (show Kd.M (Kd.int .i64) _ _ _ 4 [.int .i64 4] from rfl) (Reps.none _ _)))); intro v314 w6 ho7 hb hg_ hnew_; clear hg_ hnew_; (first | rw [← Ny313.out] at ho7 | (simp only [Int.reduceToNat] at ho7; rw [← Ny313.out] at ho7)); have n0_ := Am (Kd.R_lower ho7 (below_size (by repeat (first | (with_reducible first | exact HB.out | apply bl | apply pN | apply b1) | exact HB.out | exact HBo.out)))); have n1_ := Am (below_step (by repeat (first | (with_reducible first | exact HB.out | apply bl | apply pN | apply b1) | exact HB.out | exact HBo.out)) hb); clear HB; have HO315 := n0_; have HB := n1_; clear n0_ n1_; clear hb ho7))
   go_ret
   exact ⟨_, by first | rfl | (simp [errW_none, errW_some] <;> rfl) | (simp [*, errW_none, errW_some] <;> rfl) | (simp [Aid.ne_nil, Aid.eq_nil, errW_none, errW_some]; done), by (with_reducible repeat (first | apply Kd.R_alloc | apply Kd.R_drewN | apply Kd.R_drew)); exact HO315.out, by repeat (first | (with_reducible first | exact HB.out | apply bl | apply pN | apply b1) | exact HB.out | exact HBo.out)⟩
  ·
   rw [if_neg c5] at H
   have c5b0 : (a0 == 3) = false := beq_eq_false_iff_ne.mpr c5
   have c5b1 : (a0 != 3) = true := bne_iff_ne.mpr c5
   by_cases c8 : a0 = 4
   ·
    rw [if_pos c8] at H
    have c8b0 : (a0 == 4) = true := beq_iff_eq.mpr c8
    have c8b1 : (a0 != 4) = false := bne_eq_false_iff_eq.mpr c8
    clear c8
    obtain ⟨y316, hy316⟩ : ∃ y_ : List Int, y_ = (([1, 2] : List Int)) := ⟨_, rfl⟩
    replace H : (some y316) = some r := by first | (rw [hy316]; with_reducible exact H) | (have H2_ := (Option.bind_some _ _).symm.trans H; rw [hy316]; with_reducible exact H2_) | (have H2_ := (Option.bind_some _ _).symm.trans H; with_reducible exact H2_) | with_reducible exact H | (rw [hy316]; exact H) | exact H
    have Ny316 := Am hy316
    clear hy316
    obtain rfl := Option.some.inj H
    go_enter Try.func42, Try.ntmps42
    go_wp2_with (first | ((with_reducible refine gate_dst (N := 12) rfl ?_); refine Kd.R_lit (Kd.int .i64) _ 3 ?hg (N := 12) ?hd (xs := ([1, 2] : List Int)) (inner := [.int .i64 1, .int .i64 2]) (ok := fun _ => True) (okp := fun _ => True) ?hr ?hp (fun _ hk => hk) trivial (Below.refl _ _) (Nat.le_refl _) (by simp) ?_; (case hd => rfl); (case hg => rfl); (case hr => first | (go_simp; done) | (go_simp; rfl)); (case hp => exact (Reps.one (show Kd.M (Kd.int .i64) _ _ _ 1 [.int .i64 1] from rfl) (Reps.one (show Kd.M (Kd.int .i64) _ _ _ 2 [.int .i64 2] from rfl) (Reps.none _ _)))); intro v317 w9 ho10 hb hg_ hnew_; clear hg_ hnew_; (first | rw [← Ny316.out] at ho10 | (simp only [Int.reduceToNat] at ho10; rw [← Ny316.out] at ho10)); have n0_ := Am (Kd.R_lower ho10 (below_size (by repeat (first | (with_reducible first | exact HB.out | apply bl | apply pN | apply b1) | exact HB.out | exact HBo.out)))); have n1_ := Am (below_step (by repeat (first | (with_reducible first | exact HB.out | apply bl | apply pN | apply b1) | exact HB.out | exact HBo.out)) hb); clear HB; have HO318 := n0_; have HB := n1_; clear n0_ n1_; clear hb ho10))
    go_ret
    exact ⟨_, by first | rfl | (simp [errW_none, errW_some] <;> rfl) | (simp [*, errW_none, errW_some] <;> rfl) | (simp [Aid.ne_nil, Aid.eq_nil, errW_none, errW_some]; done), by (with_reducible repeat (first | apply Kd.R_alloc | apply Kd.R_drewN | apply Kd.R_drew)); exact HO318.out, by repeat (first | (with_reducible first | exact HB.out | apply bl | apply pN | apply b1) | exact HB.out | exact HBo.out)⟩
   ·
    rw [if_neg c8] at H
    have c8b0 : (a0 == 4) = false := beq_eq_false_iff_ne.mpr c8
    have c8b1 : (a0 != 4) = true := bne_iff_ne.mpr c8
    have HC11 := Am H
    clear H
    go_enter Try.func42, Try.ntmps42
    go_upto_if 13 with (fail)
    go_cut [13] (fun v13 wc => ∃ (kq : Nat) (x13_10 : Bool), v13 = .bool x13_10 ∧ Aside0 (shuttlecockref03_Args.j0 kq a0 x13_10 = some r) ∧ Aside0 (kq ≤ k) ∧ Aside0 (Below w.heap.size w wc))
    case first =>
     have H := HC11.out
     clear HC11
     by_cases c12 : a0 = 5
     ·
      rw [if_pos c12] at H
      have c12b0 : (a0 == 5) = true := beq_iff_eq.mpr c12
      have c12b1 : (a0 != 5) = false := bne_eq_false_iff_eq.mpr c12
      clear c12
      (first | rw [c12b0] | (simp only [i64_w, i32_w]; rw [c12b0]) | skip)
      have H' := Am H
      clear H
      go_wp2
      go_meet
      case rel => exact ⟨_, ((a0 == 5)), (by first | rfl | (simp; done) | (simp [*]; done)), H', ⟨by first | omega | exact Nat.le_refl _⟩, ⟨by repeat (first | (with_reducible first | exact HB.out | apply bl | apply pN | apply b1) | exact HB.out | exact HBo.out)⟩⟩
     ·
      rw [if_neg c12] at H
      have c12b0 : (a0 == 5) = false := beq_eq_false_iff_ne.mpr c12
      have c12b1 : (a0 != 5) = true := bne_iff_ne.mpr c12
      (first | rw [c12b0] | (simp only [i64_w, i32_w]; rw [c12b0]) | skip)
      have H' := Am H
      clear H
      go_wp2
      go_meet
      case rel => exact ⟨_, ((a0 == 6)), (by first | rfl | (simp; done) | (simp [*]; done)), H', ⟨by first | omega | exact Nat.le_refl _⟩, ⟨by repeat (first | (with_reducible first | exact HB.out | apply bl | apply pN | apply b1) | exact HB.out | exact HBo.out)⟩⟩
    case rest =>
     clear HC11
     try clear c1
     try clear c2
     try clear c2b0
     try clear c2b1
     try clear p2
     try clear c4
     try clear c5
     try clear c5b0
     try clear c5b1
     try clear c8
     try clear c8b0
     try clear c8b1
     try clear c12
     try clear c12b0
     try clear c12b1
     obtain ⟨kq, x13_10, rfl, HA, HJ10, HB⟩ := hcut
     cases kq with
     | zero => exact absurd HA.out (by simp [shuttlecockref03_Args.j0])
     | succ kj10 =>
      have H := HA.out
      clear HA
      simp only [shuttlecockref03_Args.j0] at H
      by_cases c13 : x13_10 = true
      ·
       subst c13
       have H1 : (some (([3, 4] : List Int))) = some r := by rw [if_pos rfl] at H; exact H
       clear H
       have H := H1
       clear H1
       obtain ⟨y319, hy319⟩ : ∃ y_ : List Int, y_ = (([3, 4] : List Int)) := ⟨_, rfl⟩
       replace H : (some y319) = some r := by first | (rw [hy319]; with_reducible exact H) | (have H2_ := (Option.bind_some _ _).symm.trans H; rw [hy319]; with_reducible exact H2_) | (have H2_ := (Option.bind_some _ _).symm.trans H; with_reducible exact H2_) | with_reducible exact H | (rw [hy319]; exact H) | exact H
       have Ny319 := Am hy319
       clear hy319
       obtain rfl := Option.some.inj H
       go_wp2_with (first | ((with_reducible refine gate_dst (N := 16) rfl ?_); refine Kd.R_lit (Kd.int .i64) _ 3 ?hg (N := 16) ?hd (xs := ([3, 4] : List Int)) (inner := [.int .i64 3, .int .i64 4]) (ok := fun _ => True) (okp := fun _ => True) ?hr ?hp (fun _ hk => hk) trivial (Below.refl _ _) (Nat.le_refl _) (by simp) ?_; (case hd => rfl); (case hg => rfl); (case hr => first | (go_simp; done) | (go_simp; rfl)); (case hp => exact (Reps.one (show Kd.M (Kd.int .i64) _ _ _ 3 [.int .i64 3] from rfl) (Reps.one (show Kd.M (Kd.int .i64) _ _ _ 4 [.int .i64 4] from rfl) (Reps.none _ _)))); intro v320 w14 ho15 hb hg_ hnew_; clear hg_ hnew_; (first | rw [← Ny319.out] at ho15 | (simp only [Int.reduceToNat] at ho15; rw [← Ny319.out] at ho15)); have n0_ := Am (Kd.R_lower ho15 (below_size (by repeat (first | (with_reducible first | exact HB.out | apply bl | apply pN | apply b1) | exact HB.out | exact HBo.out)))); have n1_ := Am (below_step (by repeat (first | (with_reducible first | exact HB.out | apply bl | apply pN | apply b1) | exact HB.out | exact HBo.out)) hb); clear HB; have HO321 := n0_; have HB := n1_; clear n0_ n1_; clear hb ho15))
       go_ret
       exact ⟨_, by first | rfl | (simp [errW_none, errW_some] <;> rfl) | (simp [*, errW_none, errW_some] <;> rfl) | (simp [Aid.ne_nil, Aid.eq_nil, errW_none, errW_some]; done), by (with_reducible repeat (first | apply Kd.R_alloc | apply Kd.R_drewN | apply Kd.R_drew)); exact HO321.out, by repeat (first | (with_reducible first | exact HB.out | apply bl | apply pN | apply b1) | exact HB.out | exact HBo.out)⟩
      ·
       replace c13 := Bool.eq_false_iff.mpr c13
       subst c13
       have H1 : (if a0 = 7 then (some (([1, 2, 4] : List Int))) else (if a0 = 9 then (some (([4] : List Int))) else (if a0 = 10 then (some (([5, 2] : List Int))) else (some ([] : List Int))))) = some r := by rw [if_neg (show ¬ (false = true) by decide)] at H; exact H
       clear H
       have H := H1
       clear H1
       by_cases c16 : a0 = 7
       ·
        rw [if_pos c16] at H
        have c16b0 : (a0 == 7) = true := beq_iff_eq.mpr c16
        have c16b1 : (a0 != 7) = false := bne_eq_false_iff_eq.mpr c16
        clear c16
        obtain ⟨y322, hy322⟩ : ∃ y_ : List Int, y_ = (([1, 2, 4] : List Int)) := ⟨_, rfl⟩
        replace H : (some y322) = some r := by first | (rw [hy322]; with_reducible exact H) | (have H2_ := (Option.bind_some _ _).symm.trans H; rw [hy322]; with_reducible exact H2_) | (have H2_ := (Option.bind_some _ _).symm.trans H; with_reducible exact H2_) | with_reducible exact H | (rw [hy322]; exact H) | exact H
        have Ny322 := Am hy322
        clear hy322
        obtain rfl := Option.some.inj H
        go_wp2_with (first | ((with_reducible refine gate_dst (N := 19) rfl ?_); refine Kd.R_lit (Kd.int .i64) _ 3 ?hg (N := 19) ?hd (xs := ([1, 2, 4] : List Int)) (inner := [.int .i64 1, .int .i64 2, .int .i64 4]) (ok := fun _ => True) (okp := fun _ => True) ?hr ?hp (fun _ hk => hk) trivial (Below.refl _ _) (Nat.le_refl _) (by simp) ?_; (case hd => rfl); (case hg => rfl); (case hr => first | (go_simp; done) | (go_simp; rfl)); (case hp => exact (Reps.one (show Kd.M (Kd.int .i64) _ _ _ 1 [.int .i64 1] from rfl) (Reps.one (show Kd.M (Kd.int .i64) _ _ _ 2 [.int .i64 2] from rfl) (Reps.one (show Kd.M (Kd.int .i64) _ _ _ 4 [.int .i64 4] from rfl) (Reps.none _ _))))); intro v323 w17 ho18 hb hg_ hnew_; clear hg_ hnew_; (first | rw [← Ny322.out] at ho18 | (simp only [Int.reduceToNat] at ho18; rw [← Ny322.out] at ho18)); have n0_ := Am (Kd.R_lower ho18 (below_size (by repeat (first | (with_reducible first | exact HB.out | apply bl | apply pN | apply b1) | exact HB.out | exact HBo.out)))); have n1_ := Am (below_step (by repeat (first | (with_reducible first | exact HB.out | apply bl | apply pN | apply b1) | exact HB.out | exact HBo.out)) hb); clear HB; have HO324 := n0_; have HB := n1_; clear n0_ n1_; clear hb ho18))
        go_ret
        exact ⟨_, by first | rfl | (simp [errW_none, errW_some] <;> rfl) | (simp [*, errW_none, errW_some] <;> rfl) | (simp [Aid.ne_nil, Aid.eq_nil, errW_none, errW_some]; done), by (with_reducible repeat (first | apply Kd.R_alloc | apply Kd.R_drewN | apply Kd.R_drew)); exact HO324.out, by repeat (first | (with_reducible first | exact HB.out | apply bl | apply pN | apply b1) | exact HB.out | exact HBo.out)⟩
       ·
        rw [if_neg c16] at H
        have c16b0 : (a0 == 7) = false := beq_eq_false_iff_ne.mpr c16
        have c16b1 : (a0 != 7) = true := bne_iff_ne.mpr c16
        by_cases c19 : a0 = 9
        ·
         rw [if_pos c19] at H
         have c19b0 : (a0 == 9) = true := beq_iff_eq.mpr c19
         have c19b1 : (a0 != 9) = false := bne_eq_false_iff_eq.mpr c19
         clear c19
         obtain ⟨y325, hy325⟩ : ∃ y_ : List Int, y_ = (([4] : List Int)) := ⟨_, rfl⟩
         replace H : (some y325) = some r := by first | (rw [hy325]; with_reducible exact H) | (have H2_ := (Option.bind_some _ _).symm.trans H; rw [hy325]; with_reducible exact H2_) | (have H2_ := (Option.bind_some _ _).symm.trans H; with_reducible exact H2_) | with_reducible exact H | (rw [hy325]; exact H) | exact H
         have Ny325 := Am hy325
         clear hy325
         obtain rfl := Option.some.inj H
         go_wp2_with (first | ((with_reducible refine gate_dst (N := 22) rfl ?_); refine Kd.R_lit (Kd.int .i64) _ 3 ?hg (N := 22) ?hd (xs := ([4] : List Int)) (inner := [.int .i64 4]) (ok := fun _ => True) (okp := fun _ => True) ?hr ?hp (fun _ hk => hk) trivial (Below.refl _ _) (Nat.le_refl _) (by simp) ?_; (case hd => rfl); (case hg => rfl); (case hr => first | (go_simp; done) | (go_simp; rfl)); (case hp => exact (Reps.one (show Kd.M (Kd.int .i64) _ _ _ 4 [.int .i64 4] from rfl) (Reps.none _ _))); intro v326 w20 ho21 hb hg_ hnew_; clear hg_ hnew_; (first | rw [← Ny325.out] at ho21 | (simp only [Int.reduceToNat] at ho21; rw [← Ny325.out] at ho21)); have n0_ := Am (Kd.R_lower ho21 (below_size (by repeat (first | (with_reducible first | exact HB.out | apply bl | apply pN | apply b1) | exact HB.out | exact HBo.out)))); have n1_ := Am (below_step (by repeat (first | (with_reducible first | exact HB.out | apply bl | apply pN | apply b1) | exact HB.out | exact HBo.out)) hb); clear HB; have HO327 := n0_; have HB := n1_; clear n0_ n1_; clear hb ho21))
         go_ret
         exact ⟨_, by first | rfl | (simp [errW_none, errW_some] <;> rfl) | (simp [*, errW_none, errW_some] <;> rfl) | (simp [Aid.ne_nil, Aid.eq_nil, errW_none, errW_some]; done), by (with_reducible repeat (first | apply Kd.R_alloc | apply Kd.R_drewN | apply Kd.R_drew)); exact HO327.out, by repeat (first | (with_reducible first | exact HB.out | apply bl | apply pN | apply b1) | exact HB.out | exact HBo.out)⟩
        ·
         rw [if_neg c19] at H
         have c19b0 : (a0 == 9) = false := beq_eq_false_iff_ne.mpr c19
         have c19b1 : (a0 != 9) = true := bne_iff_ne.mpr c19
         by_cases c22 : a0 = 10
         ·
          rw [if_pos c22] at H
          have c22b0 : (a0 == 10) = true := beq_iff_eq.mpr c22
          have c22b1 : (a0 != 10) = false := bne_eq_false_iff_eq.mpr c22
          clear c22
          obtain ⟨y328, hy328⟩ : ∃ y_ : List Int, y_ = (([5, 2] : List Int)) := ⟨_, rfl⟩
          replace H : (some y328) = some r := by first | (rw [hy328]; with_reducible exact H) | (have H2_ := (Option.bind_some _ _).symm.trans H; rw [hy328]; with_reducible exact H2_) | (have H2_ := (Option.bind_some _ _).symm.trans H; with_reducible exact H2_) | with_reducible exact H | (rw [hy328]; exact H) | exact H
          have Ny328 := Am hy328
          clear hy328
          obtain rfl := Option.some.inj H
          go_wp2_with (first | ((with_reducible refine gate_dst (N := 25) rfl ?_); refine Kd.R_lit (Kd.int .i64) _ 3 ?hg (N := 25) ?hd (xs := ([5, 2] : List Int)) (inner := [.int .i64 5, .int .i64 2]) (ok := fun _ => True) (okp := fun _ => True) ?hr ?hp (fun _ hk => hk) trivial (Below.refl _ _) (Nat.le_refl _) (by simp) ?_; (case hd => rfl); (case hg => rfl); (case hr => first | (go_simp; done) | (go_simp; rfl)); (case hp => exact (Reps.one (show Kd.M (Kd.int .i64) _ _ _ 5 [.int .i64 5] from rfl) (Reps.one (show Kd.M (Kd.int .i64) _ _ _ 2 [.int .i64 2] from rfl) (Reps.none _ _)))); intro v329 w23 ho24 hb hg_ hnew_; clear hg_ hnew_; (first | rw [← Ny328.out] at ho24 | (simp only [Int.reduceToNat] at ho24; rw [← Ny328.out] at ho24)); have n0_ := Am (Kd.R_lower ho24 (below_size (by repeat (first | (with_reducible first | exact HB.out | apply bl | apply pN | apply b1) | exact HB.out | exact HBo.out)))); have n1_ := Am (below_step (by repeat (first | (with_reducible first | exact HB.out | apply bl | apply pN | apply b1) | exact HB.out | exact HBo.out)) hb); clear HB; have HO330 := n0_; have HB := n1_; clear n0_ n1_; clear hb ho24))
          go_ret
          exact ⟨_, by first | rfl | (simp [errW_none, errW_some] <;> rfl) | (simp [*, errW_none, errW_some] <;> rfl) | (simp [Aid.ne_nil, Aid.eq_nil, errW_none, errW_some]; done), by (with_reducible repeat (first | apply Kd.R_alloc | apply Kd.R_drewN | apply Kd.R_drew)); exact HO330.out, by repeat (first | (with_reducible first | exact HB.out | apply bl | apply pN | apply b1) | exact HB.out | exact HBo.out)⟩
         ·
          rw [if_neg c22] at H
          have c22b0 : (a0 == 10) = false := beq_eq_false_iff_ne.mpr c22
          have c22b1 : (a0 != 10) = true := bne_iff_ne.mpr c22
          obtain rfl := Option.some.inj H
          go_wp2
          go_ret
          exact ⟨_, by first | rfl | (simp [errW_none, errW_some] <;> rfl) | (simp [*, errW_none, errW_some] <;> rfl) | (simp [Aid.ne_nil, Aid.eq_nil, errW_none, errW_some]; done), by first | exact Kd.R_nil _ _ _ _ _ | exact Kd.N_nil _ _ _ _ _ | exact Kd.V_nil _ _ _ _ _ | exact Kd.Q_nil _ _ _ _ _ | exact Kd.S_nil _ _ _ _ _, by repeat (first | (with_reducible first | exact HB.out | apply bl | apply pN | apply b1) | exact HB.out | exact HBo.out)⟩

end Go.Proofs.Ytfcombimnmkoeaa.Q
