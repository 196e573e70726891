-- printed by a program of this session (NOTES: hprint); not the kit's print
import Derived.Test.YtlaneipibmjmbaaQx0
import Derived.Test.YtlaneipibmjmbaaQx3
import Derived.Test.YtlaneipibmjmbaaQx5
import Derived.Test.YtlaneipibmjmbaaQx6
import Derived.Test.YtlaneipibmjmbaaQx7
import Derived.Test.YtlaneipibmjmbaaQx8
namespace Go.Proofs.Ytlaneipibmjmbaa.Q
open Go.RowKit Go.Proofs.YtlaneipibmjmbaaW.PrintWords Go.Proofs.YtlaneipibmjmbaaW.PrintLast Go.Proofs.YtlaneipibmjmbaaW.PrintMore
attribute [local go_sem] max2_int min2_int max_two min_two max_three min_three max_four min_four   -- for this text's walks alone
set_option linter.unusedVariables false
set_option linter.unusedSimpArgs false

/-! ### shuttlecockref11_Due: function 11 -/
mutual
def shuttlecockref11_Due.l0 : Nat → List (S24) → Int → List Int → List (S24) → Int → Option (List Int × (List (S24)))
  | 0, _, _, _, _, _ => none
  | k + 1, x0, x1, x6, x7, x8 => if x8 < (x0.length : Int) then ((shuttlecockref11_May.f k x0).bind fun t207 => (shuttlecockref11_Due.j1 k x0 x1 x6 x7 x8 t207)) else (shuttlecockref11_Due.j1 k x0 x1 x6 x7 x8 false)
def shuttlecockref11_Due.j1 : Nat → List (S24) → Int → List Int → List (S24) → Int → Bool → Option (List Int × (List (S24)))
  | 0, _, _, _, _, _, _ => none
  | k + 1, x0, x1, x6, x7, x8, x18 => if x18 = true then (if 0 ≤ x8 then (if x8 < (x0.length : Int) then (if ((rd_T24 x0 x8).f0) ≤ x1 then (if x6.length < 17592186044416 then (shuttlecockref11_Due.l0 k x0 x1 (x6 ++ [(rd_T24 x0 x8).f1]) x7 (wrap64 (x8 + 1))) else (none)) else (if x7.length < 8796093022208 then (shuttlecockref11_Due.l0 k x0 x1 x6 (x7 ++ [(⟨(rd_T24 x0 x8).f0, (rd_T24 x0 x8).f1⟩ : S24)]) (wrap64 (x8 + 1))) else (none))) else (none)) else (none)) else (some (x6, x7))
end
def shuttlecockref11_Due.f (k : Nat) (l0 : List (S24)) (a1 : Int) : Option (List Int × (List (S24))) := shuttlecockref11_Due.l0 k l0 a1 (([] : List Int)) (([] : List (S24))) 0
theorem shuttlecockref11_Due.mono_l : ∀ k, (∀ y0 y1 y2 y3 y4, LeO (shuttlecockref11_Due.l0 k y0 y1 y2 y3 y4) (shuttlecockref11_Due.l0 (k + 1) y0 y1 y2 y3 y4)) ∧ (∀ y0 y1 y2 y3 y4 y5, LeO (shuttlecockref11_Due.j1 k y0 y1 y2 y3 y4 y5) (shuttlecockref11_Due.j1 (k + 1) y0 y1 y2 y3 y4 y5))
  | 0 => ⟨fun _ _ _ _ _ r h => by simp [shuttlecockref11_Due.l0] at h, fun _ _ _ _ _ _ r h => by simp [shuttlecockref11_Due.j1] at h⟩
  | k + 1 => by
    obtain ⟨ih0, ih1⟩ := shuttlecockref11_Due.mono_l k
    refine ⟨?_, ?_⟩
    · intro y0 y1 y2 y3 y4
      unfold shuttlecockref11_Due.l0
      repeat' first
      | (with_reducible exact ih0 _ _ _ _ _)
      | (with_reducible exact ih1 _ _ _ _ _ _)
      | (with_reducible exact shuttlecockref11_May.mono _ _)
      | (with_reducible exact LeO.refl _)
      | (with_reducible exact LeO.none _)
      | (with_reducible refine LeO.ite ?_ ?_)
      | (with_reducible refine LeO.bind ?_ (fun _ => ?_))
      | exact ih0 _ _ _ _ _
      | exact ih1 _ _ _ _ _ _
      | exact shuttlecockref11_May.mono _ _
      | exact LeO.none _
      | refine LeO.ite ?_ ?_
      | refine LeO.bind ?_ (fun _ => ?_)
    · intro y0 y1 y2 y3 y4 y5
      unfold shuttlecockref11_Due.j1
      repeat' first
      | (with_reducible exact ih0 _ _ _ _ _)
      | (with_reducible exact ih1 _ _ _ _ _ _)
      | (with_reducible exact shuttlecockref11_May.mono _ _)
      | (with_reducible exact LeO.refl _)
      | (with_reducible exact LeO.none _)
      | (with_reducible refine LeO.ite ?_ ?_)
      | (with_reducible refine LeO.bind ?_ (fun _ => ?_))
      | exact ih0 _ _ _ _ _
      | exact ih1 _ _ _ _ _ _
      | exact shuttlecockref11_May.mono _ _
      | exact LeO.none _
      | refine LeO.ite ?_ ?_
      | refine LeO.bind ?_ (fun _ => ?_)
theorem shuttlecockref11_Due.mono : ∀ a0 a1 k, LeO (shuttlecockref11_Due.f k a0 a1) (shuttlecockref11_Due.f (k + 1) a0 a1) := by
  intro a0 a1 k
  obtain ⟨ih0, ih1⟩ := shuttlecockref11_Due.mono_l k
  unfold shuttlecockref11_Due.f
  repeat' first
      | (with_reducible exact ih0 _ _ _ _ _)
      | (with_reducible exact ih1 _ _ _ _ _ _)
      | (with_reducible exact shuttlecockref11_May.mono _ _)
      | (with_reducible exact LeO.refl _)
      | (with_reducible exact LeO.none _)
      | (with_reducible refine LeO.ite ?_ ?_)
      | (with_reducible refine LeO.bind ?_ (fun _ => ?_))
      | exact ih0 _ _ _ _ _
      | exact ih1 _ _ _ _ _ _
      | exact shuttlecockref11_May.mono _ _
      | exact LeO.none _
      | refine LeO.ite ?_ ?_
      | refine LeO.bind ?_ (fun _ => ?_)
set_option maxHeartbeats 8000000 in
set_option maxRecDepth 100000 in
theorem shuttlecockref11_Due.calls (k : Nat) (A0 : Option Addr) (c0 : Nat) (l0 : List (S24)) (a1 : Int) (r1 : List Int) (r2 : List (S24)) (w : World) (hr0 : Kd.C k24 w A0 l0.length l0) (hc0 : l0.length ≤ c0) (h : shuttlecockref11_Due.f k l0 a1 = some (r1, r2)) :
    Calls Try.prog 11 #[.slice A0 l0.length c0, .int .i64 a1] w fun e w' => ∃ v0_ v1_ : Value, e = .returned (.tuple #[v0_, v1_]) ∧ Kd.R (Kd.int .i64) 3 w' w.heap.size (fun _ => True) v0_ r1 ∧ Kd.R k24 24 w' w.heap.size (fun _ => True) v1_ r2 ∧ Below w.heap.size w w' := by
  have hu24 := Try.underlying24
  have HR0 := Aside0.mk hr0
  have HC0 := Aside0.mk hc0
  clear hr0 hc0
  have HB := Aside0.mk (Below.refl w.heap.size w)
  have H : (shuttlecockref11_Due.l0 k l0 a1 (([] : List Int)) (([] : List (S24))) 0) = some (r1, r2) := h
  clear h
  obtain ⟨y201, hy201⟩ : ∃ y_ : List Int, y_ = (([] : List Int)) := ⟨_, rfl⟩
  replace H : (shuttlecockref11_Due.l0 k l0 a1 y201 (([] : List (S24))) 0) = some (r1, r2) := by first | (rw [hy201]; with_reducible exact H) | (have H2_ := (Option.bind_some _ _).symm.trans H; rw [hy201]; with_reducible exact H2_) | (have H2_ := (Option.bind_some _ _).symm.trans H; with_reducible exact H2_) | with_reducible exact H | (rw [hy201]; exact H) | exact H
  have Ny201 := Aside0.mk hy201
  clear hy201
  obtain ⟨y204, hy204⟩ : ∃ y_ : List (S24), y_ = (([] : List (S24))) := ⟨_, rfl⟩
  replace H : (shuttlecockref11_Due.l0 k l0 a1 y201 y204 0) = some (r1, r2) := by first | (rw [hy204]; with_reducible exact H) | (have H2_ := (Option.bind_some _ _).symm.trans H; rw [hy204]; with_reducible exact H2_) | (have H2_ := (Option.bind_some _ _).symm.trans H; with_reducible exact H2_) | with_reducible exact H | (rw [hy204]; exact H) | exact H
  have Ny204 := Aside0.mk hy204
  clear hy204
  have H' := Aside0.mk H
  clear H
  go_enter Try.func11, Try.ntmps11
  go_wp2_with (first | ((with_reducible refine gate_dst (N := 9) rfl ?_); refine Kd.R_lit (Kd.int .i64) _ 3 ?hg (N := 9) ?hd (xs := ([] : List Int)) (inner := []) (ok := fun _ => True) (okp := fun _ => True) ?hr ?hp (fun _ hk => hk) trivial (Below.refl _ _) (Nat.le_refl _) (by simp) ?_; (case hd => rfl); (case hg => rfl); (case hr => first | (go_simp; done) | (go_simp; rfl)); (case hp => exact (Reps.none _ _)); intro v202 w3 ho4 hb hg_ hnew_; clear hg_ hnew_; (first | rw [← Ny201.out] at ho4 | (simp only [Int.reduceToNat] at ho4; rw [← Ny201.out] at ho4)); have n0_ := Aside0.mk (Kd.R_lower ho4 (below_size (by repeat (first | (with_reducible first | exact HB.out | apply below_alloc | apply pw_below_drewN | apply below_drew1) | exact HB.out | exact HBo.out)))); have n1_ := Aside0.mk (below_step (by repeat (first | (with_reducible first | exact HB.out | apply below_alloc | apply pw_below_drewN | apply below_drew1) | exact HB.out | exact HBo.out)) hb); clear HB; have HO203 := n0_; have HB := n1_; clear n0_ n1_; clear hb ho4) | ((with_reducible refine gate_dst (N := 10) rfl ?_); refine Kd.R_lit k24 _ 24 ?hg (N := 10) ?hd (xs := ([] : List (S24))) (inner := []) (ok := fun _ => True) (okp := fun _ => True) ?hr ?hp (fun _ hk => hk) trivial (Below.refl _ _) (Nat.le_refl _) (by simp) ?_; (case hd => rfl); (case hg => rfl); (case hr => first | (go_simp; done) | (go_simp; rfl)); (case hp => exact (Reps.none _ _)); intro v205 w5 ho6 hb hg_ hnew_; clear hg_ hnew_; (first | rw [← Ny204.out] at ho6 | (simp only [Int.reduceToNat] at ho6; rw [← Ny204.out] at ho6)); have n0_ := Aside0.mk (Kd.R_below (by (with_reducible repeat (first | apply Kd.R_alloc | apply Kd.R_drewN | apply Kd.R_drew)); exact HO203.out) hb); have n1_ := Aside0.mk (Kd.R_lower ho6 (below_size (by repeat (first | (with_reducible first | exact HB.out | apply below_alloc | apply pw_below_drewN | apply below_drew1) | exact HB.out | exact HBo.out)))); have n2_ := Aside0.mk (below_step (by repeat (first | (with_reducible first | exact HB.out | apply below_alloc | apply pw_below_drewN | apply below_drew1) | exact HB.out | exact HBo.out)) hb); clear HO203; clear HB; have HO203 := n0_; have HO206 := n1_; have HB := n2_; clear n0_ n1_ n2_; clear hb ho6))
  go_loopg [6, 7, 8] k (fun kq v6 v7 v8 w' => ∃ (x6_1 : List Int) (x7_1 : List (S24)) (x8_1 : Int), v8 = .int .i64 x8_1 ∧ Aside0 (shuttlecockref11_Due.l0 kq l0 a1 x6_1 x7_1 x8_1 = some (r1, r2)) ∧ Aside0 (kq ≤ k) ∧ Aside0 (Kd.R (Kd.int .i64) 3 w' w.heap.size (fun _ => True) v6 x6_1) ∧ Aside0 (Kd.R k24 24 w' w.heap.size (fun _ => True) v7 x7_1) ∧ Aside0 (Below w.heap.size w w'))
  case atStart => exact ⟨(y201), (y204), (0), (by first | rfl | (simp; done) | (simp [*]; done)), H', ⟨Nat.le_refl _⟩, ⟨by (with_reducible repeat (first | apply Kd.R_alloc | apply Kd.R_drewN | apply Kd.R_drew)); exact HO203.out⟩, ⟨by (with_reducible repeat (first | apply Kd.R_alloc | apply Kd.R_drewN | apply Kd.R_drew)); exact HO206.out⟩, ⟨by repeat (first | (with_reducible first | exact HB.out | apply below_alloc | apply pw_below_drewN | apply below_drew1) | exact HB.out | exact HBo.out)⟩⟩
  case round =>
    clear H'
    try clear c1
    try clear p2
    obtain ⟨x6_1, x7_1, x8_1, rfl, HA, HK1, HO_6, HO_7, HB⟩ := hrel
    cases gk with
    | zero => exact absurd HA.out (by simp [shuttlecockref11_Due.l0])
    | succ k1 =>
      have H := HA.out
      clear HA
      simp only [shuttlecockref11_Due.l0] at H
      have HC7 := Aside0.mk H
      clear H
      go_upto_region 3 with (fail)
      go_cut [18] (fun v18 wc => ∃ (kq : Nat) (x18_6 : Bool), v18 = .bool x18_6 ∧ Aside0 (shuttlecockref11_Due.j1 kq l0 a1 x6_1 x7_1 x8_1 x18_6 = some (r1, r2)) ∧ Aside0 (kq ≤ k1) ∧ Aside0 (Kd.R (Kd.int .i64) 3 wc w.heap.size (fun _ => True) u6 x6_1) ∧ Aside0 (Kd.R k24 24 wc w.heap.size (fun _ => True) u7 x7_1) ∧ Aside0 (Below w.heap.size w wc))
      case first =>
        have H := HC7.out
        clear HC7
        by_cases c8 : x8_1 < (l0.length : Int)
        · rw [if_pos c8] at H
          have c8b0 : decide (x8_1 < (l0.length : Int)) = true := decide_eq_true c8
          clear c8
          (first | rw [c8b0] | (simp only [i64_w, i32_w]; rw [c8b0]) | skip)
          replace H := Option.bind_eq_some_iff.mp H
          obtain ⟨t207, A90, H⟩ := H
          replace H : (shuttlecockref11_Due.j1 k1 l0 a1 x6_1 x7_1 x8_1 t207) = some (r1, r2) := H
          have A9 := Aside0.mk A90
          clear A90
          have H' := Aside0.mk H
          clear H
          go_wp2_with (first | (go_at_call 13; (with_reducible refine (shuttlecockref11_May.calls k1 _ _ l0 t207 _ ?side1 ?side2 A9.out).mono ?_); (case side1 => repeat (first | exact (Kd.C_below HR0.out HB.out) | (with_reducible refine Kd.C_alloc ?_ _) | (with_reducible refine Kd.C_drewN ?_ _) | (with_reducible refine Kd.C_drew ?_))); (case side2 => exact HC0.out); rintro e w10 ⟨rfl, hb⟩; have n0_ := Aside0.mk (Kd.R_below (by (with_reducible repeat (first | apply Kd.R_alloc | apply Kd.R_drewN | apply Kd.R_drew)); exact HO_6.out) hb); have n1_ := Aside0.mk (Kd.R_below (by (with_reducible repeat (first | apply Kd.R_alloc | apply Kd.R_drewN | apply Kd.R_drew)); exact HO_7.out) hb); have n2_ := Aside0.mk (below_step (by repeat (first | (with_reducible first | exact HB.out | apply below_alloc | apply pw_below_drewN | apply below_drew1) | exact HB.out | exact HBo.out)) hb); clear HO_6; clear HO_7; clear HB; have HO_6 := n0_; have HO_7 := n1_; have HB := n2_; clear n0_ n1_ n2_; (try clear hb); (try clear hb2); (try clear hk); (try clear hi)))
          go_meet
          case rel => exact ⟨_, (t207), (by first | rfl | (simp; done) | (simp [*]; done)), H', ⟨by have := HK1.out; first | omega | exact Nat.le_refl _⟩, ⟨by (with_reducible repeat (first | apply Kd.R_alloc | apply Kd.R_drewN | apply Kd.R_drew)); exact HO_6.out⟩, ⟨by (with_reducible repeat (first | apply Kd.R_alloc | apply Kd.R_drewN | apply Kd.R_drew)); exact HO_7.out⟩, ⟨by repeat (first | (with_reducible first | exact HB.out | apply below_alloc | apply pw_below_drewN | apply below_drew1) | exact HB.out | exact HBo.out)⟩⟩
        · rw [if_neg c8] at H
          have c8b0 : decide (x8_1 < (l0.length : Int)) = false := decide_eq_false c8
          clear c8
          (first | rw [c8b0] | (simp only [i64_w, i32_w]; rw [c8b0]) | skip)
          have H' := Aside0.mk H
          clear H
          go_wp2
          go_meet
          case rel => exact ⟨_, (false), (by first | rfl | (simp; done) | (simp [*]; done)), H', ⟨by have := HK1.out; first | omega | exact Nat.le_refl _⟩, ⟨by (with_reducible repeat (first | apply Kd.R_alloc | apply Kd.R_drewN | apply Kd.R_drew)); exact HO_6.out⟩, ⟨by (with_reducible repeat (first | apply Kd.R_alloc | apply Kd.R_drewN | apply Kd.R_drew)); exact HO_7.out⟩, ⟨by repeat (first | (with_reducible first | exact HB.out | apply below_alloc | apply pw_below_drewN | apply below_drew1) | exact HB.out | exact HBo.out)⟩⟩
      case rest =>
        clear HC7
        try clear c1
        try clear p2
        try clear c8
        try clear c8b0
        try clear p2
        obtain ⟨kq, x18_6, rfl, HA, HJ6, HO_6, HO_7, HB⟩ := hcut
        cases kq with
        | zero => exact absurd HA.out (by simp [shuttlecockref11_Due.j1])
        | succ kj6 =>
          have H := HA.out
          clear HA
          simp only [shuttlecockref11_Due.j1] at H
          by_cases c11 : x18_6 = true
          · subst c11
            have H1 : (if 0 ≤ x8_1 then (if x8_1 < (l0.length : Int) then (if ((rd_T24 l0 x8_1).f0) ≤ a1 then (if x6_1.length < 17592186044416 then (shuttlecockref11_Due.l0 kj6 l0 a1 (x6_1 ++ [(rd_T24 l0 x8_1).f1]) x7_1 (wrap64 (x8_1 + 1))) else (none)) else (if x7_1.length < 8796093022208 then (shuttlecockref11_Due.l0 kj6 l0 a1 x6_1 (x7_1 ++ [(⟨(rd_T24 l0 x8_1).f0, (rd_T24 l0 x8_1).f1⟩ : S24)]) (wrap64 (x8_1 + 1))) else (none))) else (none)) else (none)) = some (r1, r2) := by rw [if_pos rfl] at H; exact H
            clear H
            have H := H1
            clear H1
            by_cases c12 : 0 ≤ x8_1
            · rw [if_pos c12] at H
              have c12b0 : decide (0 ≤ x8_1) = true := decide_eq_true c12
              clear c12
              by_cases c13 : x8_1 < (l0.length : Int)
              · rw [if_pos c13] at H
                have c13b0 : decide (x8_1 < (l0.length : Int)) = true := decide_eq_true c13
                clear c13
                by_cases c14 : ((rd_T24 l0 x8_1).f0) ≤ a1
                · rw [if_pos c14] at H
                  have c14b0 : decide (((rd_T24 l0 x8_1).f0) ≤ a1) = true := decide_eq_true c14
                  clear c14
                  by_cases c15 : x6_1.length < 17592186044416
                  · rw [if_pos c15] at H
                    have LMc15 := Aside0.mk c15
                    clear c15
                    obtain ⟨y210, hy210⟩ : ∃ y_ : List Int, y_ = (x6_1 ++ [(rd_T24 l0 x8_1).f1]) := ⟨_, rfl⟩
                    replace H : (shuttlecockref11_Due.l0 kj6 l0 a1 y210 x7_1 (wrap64 (x8_1 + 1))) = some (r1, r2) := by first | (rw [hy210]; with_reducible exact H) | (have H2_ := (Option.bind_some _ _).symm.trans H; rw [hy210]; with_reducible exact H2_) | (have H2_ := (Option.bind_some _ _).symm.trans H; with_reducible exact H2_) | with_reducible exact H | (rw [hy210]; exact H) | exact H
                    have Ny210 := Aside0.mk hy210
                    clear hy210
                    have H' := Aside0.mk H
                    clear H
                    have p208 : 0 ≤ (x8_1 : Int) := of_decide_eq_true (by first | (with_reducible assumption) | assumption)
                    have q208 : x8_1 < (l0.length : Int) := of_decide_eq_true (by first | (with_reducible assumption) | assumption)
                    obtain ⟨ad208, e208, hx208_0, hx208_1⟩ := at_T24 HR0.out x8_1 p208 q208
                    cases e208
                    replace hx208_0 := (HB.out.cell (World.block_lt_of_cell? w _ hx208_0)).trans hx208_0
                    replace hx208_1 := (HB.out.cell (World.block_lt_of_cell? w _ hx208_1)).trans hx208_1
                    replace p208 := eq_true p208
                    replace q208 := eq_true q208
                    have p209 : 0 ≤ (x8_1 : Int) := of_decide_eq_true (by first | (with_reducible assumption) | assumption)
                    have q209 : x8_1 < (l0.length : Int) := of_decide_eq_true (by first | (with_reducible assumption) | assumption)
                    obtain ⟨ad209, e209, hx209_0, hx209_1⟩ := at_T24 HR0.out x8_1 p209 q209
                    obtain rfl : ad208 = ad209 := (by injection e209)
                    replace hx209_0 := (HB.out.cell (World.block_lt_of_cell? w _ hx209_0)).trans hx209_0
                    replace hx209_1 := (HB.out.cell (World.block_lt_of_cell? w _ hx209_1)).trans hx209_1
                    replace p209 := eq_true p209
                    replace q209 := eq_true q209
                    go_wp2_with (first | ((with_reducible refine gate_builtin (b := .append) (xs := #[.tmp 28, .tmp 34]) rfl ?_); at_builtin; refine Kd.R_append (Kd.int .i64) (w0 := w) w.heap.size rfl (.tmp 28) (.tmp 34) 28 3 (.int .i64 0) 8 rfl Try.underlying28 info3 rfl (by decide) (by omega) u6 x6_1 ((rd_T24 l0 x8_1).f1) [.int .i64 ((rd_T24 l0 x8_1).f1)] (fun _ => True) (fun _ => False) rfl rfl ?aP (fun _ hk => hk.elim) ?aF ?aO ?aB ?aS ?aL ?_; (case aP => exact rfl); (case aB => exact (by repeat (first | (with_reducible first | exact HB.out | apply below_alloc | apply pw_below_drewN | apply below_drew1) | exact HB.out | exact HBo.out))); (case aF => exact (fun _ _ => trivial)); (case aO => exact (by (with_reducible repeat (first | apply Kd.R_alloc | apply Kd.R_drewN | apply Kd.R_drew)); exact HO_6.out)); (case aS => exact (below_size (by repeat (first | (with_reducible first | exact HB.out | apply below_alloc | apply pw_below_drewN | apply below_drew1) | exact HB.out | exact HBo.out)))); (case aL => have := LMc15.out; omega); intro v211 w16 ho hb hg hat; rw [← Ny210.out] at ho; have n0_ := Aside0.mk (Kd.R_over' (by (with_reducible repeat (first | apply Kd.R_alloc | apply Kd.R_drewN | apply Kd.R_drew)); exact HO_7.out) (Kd.R_typed (by (with_reducible repeat (first | apply Kd.R_alloc | apply Kd.R_drewN | apply Kd.R_drew)); exact HO_6.out)) (by decide) hg); have n1_ := Aside0.mk (hb); have n2_ := Aside0.mk (ho); clear HO_7; clear HB; clear HO_6; have HO_7 := n0_; have HB := n1_; have HO212 := n2_; clear n0_ n1_ n2_; clear ho hb hg hat))
                    go_roundg kj6
                    case measure => have := HK1.out; have := HJ6.out; omega
                    case rel => exact ⟨(y210), (x7_1), (wrap64 (x8_1 + 1)), (by first | rfl | (simp; done) | (simp [*]; done)), H', ⟨by have := HK1.out; have := HJ6.out; omega⟩, ⟨by (with_reducible repeat (first | apply Kd.R_alloc | apply Kd.R_drewN | apply Kd.R_drew)); exact HO212.out⟩, ⟨by (with_reducible repeat (first | apply Kd.R_alloc | apply Kd.R_drewN | apply Kd.R_drew)); exact HO_7.out⟩, ⟨by repeat (first | (with_reducible first | exact HB.out | apply below_alloc | apply pw_below_drewN | apply below_drew1) | exact HB.out | exact HBo.out)⟩⟩
                  · rw [if_neg c15] at H
                    exact absurd H (by simp)
                · rw [if_neg c14] at H
                  have c14b0 : decide (((rd_T24 l0 x8_1).f0) ≤ a1) = false := decide_eq_false c14
                  clear c14
                  by_cases c17 : x7_1.length < 8796093022208
                  · rw [if_pos c17] at H
                    have LMc17 := Aside0.mk c17
                    clear c17
                    obtain ⟨y214, hy214⟩ : ∃ y_ : List (S24), y_ = (x7_1 ++ [(⟨(rd_T24 l0 x8_1).f0, (rd_T24 l0 x8_1).f1⟩ : S24)]) := ⟨_, rfl⟩
                    replace H : (shuttlecockref11_Due.l0 kj6 l0 a1 x6_1 y214 (wrap64 (x8_1 + 1))) = some (r1, r2) := by first | (rw [hy214]; with_reducible exact H) | (have H2_ := (Option.bind_some _ _).symm.trans H; rw [hy214]; with_reducible exact H2_) | (have H2_ := (Option.bind_some _ _).symm.trans H; with_reducible exact H2_) | with_reducible exact H | (rw [hy214]; exact H) | exact H
                    have Ny214 := Aside0.mk hy214
                    clear hy214
                    have H' := Aside0.mk H
                    clear H
                    have p208 : 0 ≤ (x8_1 : Int) := of_decide_eq_true (by first | (with_reducible assumption) | assumption)
                    have q208 : x8_1 < (l0.length : Int) := of_decide_eq_true (by first | (with_reducible assumption) | assumption)
                    obtain ⟨ad208, e208, hx208_0, hx208_1⟩ := at_T24 HR0.out x8_1 p208 q208
                    cases e208
                    replace hx208_0 := (HB.out.cell (World.block_lt_of_cell? w _ hx208_0)).trans hx208_0
                    replace hx208_1 := (HB.out.cell (World.block_lt_of_cell? w _ hx208_1)).trans hx208_1
                    replace p208 := eq_true p208
                    replace q208 := eq_true q208
                    have p213 : 0 ≤ (x8_1 : Int) := of_decide_eq_true (by first | (with_reducible assumption) | assumption)
                    have q213 : x8_1 < (l0.length : Int) := of_decide_eq_true (by first | (with_reducible assumption) | assumption)
                    obtain ⟨ad213, e213, hx213_0, hx213_1⟩ := at_T24 HR0.out x8_1 p213 q213
                    obtain rfl : ad208 = ad213 := (by injection e213)
                    replace hx213_0 := (HB.out.cell (World.block_lt_of_cell? w _ hx213_0)).trans hx213_0
                    replace hx213_1 := (HB.out.cell (World.block_lt_of_cell? w _ hx213_1)).trans hx213_1
                    replace p213 := eq_true p213
                    replace q213 := eq_true q213
                    go_wp2_with (first | ((with_reducible refine gate_builtin (b := .append) (xs := #[.tmp 36, .tmp 41]) rfl ?_); at_builtin; refine Kd.R_append k24 (w0 := w) w.heap.size rfl (.tmp 36) (.tmp 41) 22 24 (.agg #[(.int .i64 0), (.int .i64 0)]) 16 rfl Try.underlying22 info24 rfl (by decide) (by omega) u7 x7_1 (⟨(rd_T24 l0 x8_1).f0, (rd_T24 l0 x8_1).f1⟩ : S24) [.int .i64 ((rd_T24 l0 x8_1).f0), .int .i64 ((rd_T24 l0 x8_1).f1)] (fun _ => True) (fun _ => False) rfl rfl ?aP (fun _ hk => hk.elim) ?aF ?aO ?aB ?aS ?aL ?_; (case aP => exact k24_mkM _ _ _ (⟨(rd_T24 l0 x8_1).f0, (rd_T24 l0 x8_1).f1⟩ : S24)); (case aB => exact (by repeat (first | (with_reducible first | exact HB.out | apply below_alloc | apply pw_below_drewN | apply below_drew1) | exact HB.out | exact HBo.out))); (case aF => exact (fun _ _ => trivial)); (case aO => exact (by (with_reducible repeat (first | apply Kd.R_alloc | apply Kd.R_drewN | apply Kd.R_drew)); exact HO_7.out)); (case aS => exact (below_size (by repeat (first | (with_reducible first | exact HB.out | apply below_alloc | apply pw_below_drewN | apply below_drew1) | exact HB.out | exact HBo.out)))); (case aL => have := LMc17.out; omega); intro v215 w18 ho hb hg hat; rw [← Ny214.out] at ho; have n0_ := Aside0.mk (Kd.R_over' (by (with_reducible repeat (first | apply Kd.R_alloc | apply Kd.R_drewN | apply Kd.R_drew)); exact HO_6.out) (Kd.R_typed (by (with_reducible repeat (first | apply Kd.R_alloc | apply Kd.R_drewN | apply Kd.R_drew)); exact HO_7.out)) (by decide) hg); have n1_ := Aside0.mk (hb); have n2_ := Aside0.mk (ho); clear HO_6; clear HB; clear HO_7; have HO_6 := n0_; have HB := n1_; have HO216 := n2_; clear n0_ n1_ n2_; clear ho hb hg hat))
                    go_roundg kj6
                    case measure => have := HK1.out; have := HJ6.out; omega
                    case rel => exact ⟨(x6_1), (y214), (wrap64 (x8_1 + 1)), (by first | rfl | (simp; done) | (simp [*]; done)), H', ⟨by have := HK1.out; have := HJ6.out; omega⟩, ⟨by (with_reducible repeat (first | apply Kd.R_alloc | apply Kd.R_drewN | apply Kd.R_drew)); exact HO_6.out⟩, ⟨by (with_reducible repeat (first | apply Kd.R_alloc | apply Kd.R_drewN | apply Kd.R_drew)); exact HO216.out⟩, ⟨by repeat (first | (with_reducible first | exact HB.out | apply below_alloc | apply pw_below_drewN | apply below_drew1) | exact HB.out | exact HBo.out)⟩⟩
                  · rw [if_neg c17] at H
                    exact absurd H (by simp)
              · rw [if_neg c13] at H
                exact absurd H (by simp)
            · rw [if_neg c12] at H
              exact absurd H (by simp)
          · replace c11 := Bool.eq_false_iff.mpr c11
            subst c11
            have H1 : (some (x6_1, x7_1)) = some (r1, r2) := by rw [if_neg (show ¬ (false = true) by decide)] at H; exact H
            clear H
            have H := H1
            clear H1
            simp only [Option.some.injEq, Prod.mk.injEq] at H
            obtain ⟨rfl, rfl⟩ := H
            go_wp2
            go_ret2
            exact ⟨_, _, by first | rfl | (simp [errW_none, errW_some] <;> rfl) | (simp [*, errW_none, errW_some] <;> rfl) | (simp [Aid.ne_nil, Aid.eq_nil, errW_none, errW_some]; done), by (with_reducible repeat (first | apply Kd.R_alloc | apply Kd.R_drewN | apply Kd.R_drew)); exact HO_6.out, by (with_reducible repeat (first | apply Kd.R_alloc | apply Kd.R_drewN | apply Kd.R_drew)); exact HO_7.out, by repeat (first | (with_reducible first | exact HB.out | apply below_alloc | apply pw_below_drewN | apply below_drew1) | exact HB.out | exact HBo.out)⟩

/-! ### shuttlecockref11_Next: function 17 -/
def shuttlecockref11_Next.f (k : Nat) (l0 : List (S24)) : Option (Int) := if (l0.length : Int) = 0 then (some (-1)) else ((shuttlecockref11_May.f k l0).bind fun t217 => (if t217 = true then (if 0 < (l0.length : Int) then (some ((rd_T24 l0 0).f0)) else (none)) else (some (-1))))
theorem shuttlecockref11_Next.mono : ∀ a0 k, LeO (shuttlecockref11_Next.f k a0) (shuttlecockref11_Next.f (k + 1) a0) := by
  intro a0 k
  unfold shuttlecockref11_Next.f
  repeat' first
      | (with_reducible exact shuttlecockref11_May.mono _ _)
      | (with_reducible exact LeO.refl _)
      | (with_reducible exact LeO.none _)
      | (with_reducible refine LeO.ite ?_ ?_)
      | (with_reducible refine LeO.bind ?_ (fun _ => ?_))
      | exact shuttlecockref11_May.mono _ _
      | exact LeO.none _
      | refine LeO.ite ?_ ?_
      | refine LeO.bind ?_ (fun _ => ?_)
set_option maxHeartbeats 8000000 in
set_option maxRecDepth 100000 in
theorem shuttlecockref11_Next.calls (k : Nat) (A0 : Option Addr) (c0 : Nat) (l0 : List (S24)) (r : Int) (w : World) (hr0 : Kd.C k24 w A0 l0.length l0) (hc0 : l0.length ≤ c0) (h : shuttlecockref11_Next.f k l0 = some r) :
    Calls Try.prog 17 #[.slice A0 l0.length c0] w fun e w' => e = .returned (.int .i64 r) ∧ Below w.heap.size w w' := by
  have HR0 := Aside0.mk hr0
  have HC0 := Aside0.mk hc0
  clear hr0 hc0
  have HB := Aside0.mk (Below.refl w.heap.size w)
  have H : (if (l0.length : Int) = 0 then (some (-1)) else ((shuttlecockref11_May.f k l0).bind fun t217 => (if t217 = true then (if 0 < (l0.length : Int) then (some ((rd_T24 l0 0).f0)) else (none)) else (some (-1))))) = some r := h
  clear h
  by_cases c2 : (l0.length : Int) = 0
  · rw [if_pos c2] at H
    have c2b0 : ((l0.length : Int) == 0) = true := beq_iff_eq.mpr c2
    have c2b1 : ((l0.length : Int) != 0) = false := bne_eq_false_iff_eq.mpr c2
    clear c2
    obtain rfl := Option.some.inj H
    go_enter Try.func17, Try.ntmps17
    go_wp2
    go_ret
    exact ⟨by first | rfl | (simp [errW_none, errW_some] <;> rfl) | (simp [*, errW_none, errW_some] <;> rfl) | (simp [Aid.ne_nil, Aid.eq_nil, errW_none, errW_some]; done), by repeat (first | (with_reducible first | exact HB.out | apply below_alloc | apply pw_below_drewN | apply below_drew1) | exact HB.out | exact HBo.out)⟩
  · rw [if_neg c2] at H
    have c2b0 : ((l0.length : Int) == 0) = false := beq_eq_false_iff_ne.mpr c2
    have c2b1 : ((l0.length : Int) != 0) = true := bne_iff_ne.mpr c2
    have c2b2 : ¬ (l0 = []) := fun h_ => c2 (by rw [h_]; rfl)
    replace H := Option.bind_eq_some_iff.mp H
    obtain ⟨t217, A30, H⟩ := H
    replace H : (if t217 = true then (if 0 < (l0.length : Int) then (some ((rd_T24 l0 0).f0)) else (none)) else (some (-1))) = some r := H
    have A3 := Aside0.mk A30
    clear A30
    by_cases c4 : t217 = true
    · subst c4
      have H1 : (if 0 < (l0.length : Int) then (some ((rd_T24 l0 0).f0)) else (none)) = some r := by rw [if_pos rfl] at H; exact H
      clear H
      have H := H1
      clear H1
      by_cases c5 : 0 < (l0.length : Int)
      · rw [if_pos c5] at H
        have c5b0 : decide (0 < (l0.length : Int)) = true := decide_eq_true c5
        have c5b1 : decide (0 < l0.length) = true := decide_eq_true (by omega)
        clear c5
        obtain rfl := Option.some.inj H
        go_enter Try.func17, Try.ntmps17
        go_wp2_with (first | (go_at_call 13; (with_reducible refine (shuttlecockref11_May.calls k _ _ l0 true _ ?side1 ?side2 A3.out).mono ?_); (case side1 => repeat (first | exact HR0.out | (with_reducible refine Kd.C_alloc ?_ _) | (with_reducible refine Kd.C_drewN ?_ _) | (with_reducible refine Kd.C_drew ?_))); (case side2 => exact HC0.out); rintro e w6 ⟨rfl, hb⟩; have n0_ := Aside0.mk (below_step (by repeat (first | (with_reducible first | exact HB.out | apply below_alloc | apply pw_below_drewN | apply below_drew1) | exact HB.out | exact HBo.out)) hb); clear HB; have HB := n0_; clear n0_; (try clear hb); (try clear hb2); (try clear hk); (try clear hi); have p218 : 0 ≤ (0 : Int) := (by omega); have q218 : 0 < (l0.length : Int) := of_decide_eq_true (by first | (with_reducible assumption) | assumption); obtain ⟨ad218, e218, hx218_0, hx218_1⟩ := at_T24 HR0.out 0 p218 q218; cases e218; have qi218 : (0 < l0.length) = True := eq_true (by omega); (try rw [show ((0 : Int)).toNat = 0 from rfl] at hx218_0); (try rw [show 0 * 2 = 0 from rfl] at hx218_0); (try rw [Addr.add_zero'] at hx218_0); (try rw [show ((0 : Int)).toNat = 0 from rfl] at hx218_1); (try rw [show 0 * 2 = 0 from rfl] at hx218_1); (try rw [Addr.add_zero'] at hx218_1); replace hx218_0 := (HB.out.cell (World.block_lt_of_cell? w _ hx218_0)).trans hx218_0; replace hx218_1 := (HB.out.cell (World.block_lt_of_cell? w _ hx218_1)).trans hx218_1; replace p218 := eq_true p218; replace q218 := eq_true q218))
        go_ret
        exact ⟨by first | rfl | (simp [errW_none, errW_some] <;> rfl) | (simp [*, errW_none, errW_some] <;> rfl) | (simp [Aid.ne_nil, Aid.eq_nil, errW_none, errW_some]; done), by repeat (first | (with_reducible first | exact HB.out | apply below_alloc | apply pw_below_drewN | apply below_drew1) | exact HB.out | exact HBo.out)⟩
      · rw [if_neg c5] at H
        exact absurd H (by simp)
    · replace c4 := Bool.eq_false_iff.mpr c4
      subst c4
      have H1 : (some (-1)) = some r := by rw [if_neg (show ¬ (false = true) by decide)] at H; exact H
      clear H
      have H := H1
      clear H1
      obtain rfl := Option.some.inj H
      go_enter Try.func17, Try.ntmps17
      go_wp2_with (first | (go_at_call 13; (with_reducible refine (shuttlecockref11_May.calls k _ _ l0 false _ ?side1 ?side2 A3.out).mono ?_); (case side1 => repeat (first | exact HR0.out | (with_reducible refine Kd.C_alloc ?_ _) | (with_reducible refine Kd.C_drewN ?_ _) | (with_reducible refine Kd.C_drew ?_))); (case side2 => exact HC0.out); rintro e w7 ⟨rfl, hb⟩; have n0_ := Aside0.mk (below_step (by repeat (first | (with_reducible first | exact HB.out | apply below_alloc | apply pw_below_drewN | apply below_drew1) | exact HB.out | exact HBo.out)) hb); clear HB; have HB := n0_; clear n0_; (try clear hb); (try clear hb2); (try clear hk); (try clear hi)))
      go_ret
      exact ⟨by first | rfl | (simp [errW_none, errW_some] <;> rfl) | (simp [*, errW_none, errW_some] <;> rfl) | (simp [Aid.ne_nil, Aid.eq_nil, errW_none, errW_some]; done), by repeat (first | (with_reducible first | exact HB.out | apply below_alloc | apply pw_below_drewN | apply below_drew1) | exact HB.out | exact HBo.out)⟩

/-! ### shuttlecocklaw11_SleepTells: function 3 -/
def shuttlecocklaw11_SleepTells.f (k : Nat) (l0 : List (S24)) (a1_0 : Int) (a1_1 : Int) (a2 : Int) : Option (Bool) := if (l0.length : Int) > 200 then ((shuttlecocklaw11_fixed.f k).bind fun t220 => (some t220)) else ((sleep_Put.f l0 a1_0 a1_1).bind fun bt221 => ((shuttlecockref11_Put.f k l0 a1_0 a1_1).bind fun bt225 => ((sleep_Due.f k l0 a2).bind fun bt229 => ((shuttlecockref11_Due.f k l0 a2).bind fun bt235 => ((shuttlecocklaw11_fixed.f k).bind fun t241 => (if t241 = true then ((sleep_May.f l0).bind fun t242 => ((shuttlecockref11_May.f k l0).bind fun t243 => (if (t242 == t243) = true then ((shuttlecockref11_Same.f k bt221.1 bt225.1).bind fun t244 => (if t244 = true then (if (bt221.2 == bt225.2) = true then ((shuttlecockref01_Ints.f k bt229.1 bt235.1).bind fun t245 => (if t245 = true then ((shuttlecockref11_Same.f k bt229.2 bt235.2).bind fun t246 => (if t246 = true then ((sleep_Next.f l0).bind fun t247 => ((shuttlecockref11_Next.f k l0).bind fun t248 => (some (t247 == t248)))) else (none))) else (none))) else (none)) else (none))) else (none)))) else (none)))))))
theorem shuttlecocklaw11_SleepTells.mono : ∀ a0 a1 a2 a3 k, LeO (shuttlecocklaw11_SleepTells.f k a0 a1 a2 a3) (shuttlecocklaw11_SleepTells.f (k + 1) a0 a1 a2 a3) := by
  intro a0 a1 a2 a3 k
  unfold shuttlecocklaw11_SleepTells.f
  repeat' first
      | (with_reducible exact shuttlecocklaw11_fixed.mono _)
      | (with_reducible exact shuttlecockref01_Ints.mono _ _ _)
      | (with_reducible exact shuttlecockref11_Due.mono _ _ _)
      | (with_reducible exact shuttlecockref11_May.mono _ _)
      | (with_reducible exact shuttlecockref11_Next.mono _ _)
      | (with_reducible exact shuttlecockref11_Put.mono _ _ _ _)
      | (with_reducible exact shuttlecockref11_Same.mono _ _ _)
      | (with_reducible exact sleep_Due.mono _ _ _)
      | (with_reducible exact LeO.refl _)
      | (with_reducible exact LeO.none _)
      | (with_reducible refine LeO.ite ?_ ?_)
      | (with_reducible refine LeO.bind ?_ (fun _ => ?_))
      | exact shuttlecocklaw11_fixed.mono _
      | exact shuttlecockref01_Ints.mono _ _ _
      | exact shuttlecockref11_Due.mono _ _ _
      | exact shuttlecockref11_May.mono _ _
      | exact shuttlecockref11_Next.mono _ _
      | exact shuttlecockref11_Put.mono _ _ _ _
      | exact shuttlecockref11_Same.mono _ _ _
      | exact sleep_Due.mono _ _ _
      | exact LeO.none _
      | refine LeO.ite ?_ ?_
      | refine LeO.bind ?_ (fun _ => ?_)
set_option maxHeartbeats 8000000 in
set_option maxRecDepth 100000 in
theorem shuttlecocklaw11_SleepTells.calls (k : Nat) (A0 : Option Addr) (c0 : Nat) (l0 : List (S24)) (a1_0 : Int) (a1_1 : Int) (a2 : Int) (r : Bool) (w : World) (hr0 : Kd.C k24 w A0 l0.length l0) (hc0 : l0.length ≤ c0) (h : shuttlecocklaw11_SleepTells.f k l0 a1_0 a1_1 a2 = some r) :
    Calls Try.prog 3 #[.slice A0 l0.length c0, .agg #[.int .i64 a1_0, .int .i64 a1_1], .int .i64 a2] w fun e w' => e = .returned (.bool r) ∧ Below w.heap.size w w' := by
  have hu24 := Try.underlying24
  have HR0 := Aside0.mk hr0
  have HC0 := Aside0.mk hc0
  clear hr0 hc0
  have HB := Aside0.mk (Below.refl w.heap.size w)
  have H : (if (l0.length : Int) > 200 then ((shuttlecocklaw11_fixed.f k).bind fun t220 => (some t220)) else ((sleep_Put.f l0 a1_0 a1_1).bind fun bt221 => ((shuttlecockref11_Put.f k l0 a1_0 a1_1).bind fun bt225 => ((sleep_Due.f k l0 a2).bind fun bt229 => ((shuttlecockref11_Due.f k l0 a2).bind fun bt235 => ((shuttlecocklaw11_fixed.f k).bind fun t241 => (if t241 = true then ((sleep_May.f l0).bind fun t242 => ((shuttlecockref11_May.f k l0).bind fun t243 => (if (t242 == t243) = true then ((shuttlecockref11_Same.f k bt221.1 bt225.1).bind fun t244 => (if t244 = true then (if (bt221.2 == bt225.2) = true then ((shuttlecockref01_Ints.f k bt229.1 bt235.1).bind fun t245 => (if t245 = true then ((shuttlecockref11_Same.f k bt229.2 bt235.2).bind fun t246 => (if t246 = true then ((sleep_Next.f l0).bind fun t247 => ((shuttlecockref11_Next.f k l0).bind fun t248 => (some (t247 == t248)))) else (none))) else (none))) else (none)) else (none))) else (none)))) else (none)))))))) = some r := h
  clear h
  by_cases c4 : (l0.length : Int) > 200
  · rw [if_pos c4] at H
    have c4b0 : decide (200 < (l0.length : Int)) = true := decide_eq_true c4
    have c4b1 : decide (200 < l0.length) = true := decide_eq_true (by omega)
    clear c4
    replace H := Option.bind_eq_some_iff.mp H
    obtain ⟨t220, A50, H⟩ := H
    replace H : (some t220) = some r := H
    have A5 := Aside0.mk A50
    clear A50
    obtain rfl := Option.some.inj H
    go_enter Try.func3, Try.ntmps3
    go_wp2_with (first | ((with_reducible refine gate_dst (N := 4) rfl ?_); refine box_event ?hg (N := 4) ?hd (cs := #[.int .i64 a1_0, .int .i64 a1_1]) (t := 24) ?hr ?_; (case hd => rfl); (case hg => rfl); (case hr => first | (go_simp; done) | (go_simp; rfl)); intro gb219 hg w6 hbox hb; have n0_ := Aside0.mk (below_step (by repeat (first | (with_reducible first | exact HB.out | apply below_alloc | apply pw_below_drewN | apply below_drew1) | exact HB.out | exact HBo.out)) hb); have n1_ := Aside0.mk (hbox); have n2_ := Aside0.mk ((by rw [hg]; exact (below_size (by repeat (first | (with_reducible first | exact HB.out | apply below_alloc | apply pw_below_drewN | apply below_drew1) | exact HB.out | exact HBo.out))) : w.heap.size ≤ gb219)); have n3_ := Aside0.mk ((by rw [hg]; exact (below_size (by repeat (first | (with_reducible first | exact HB.out | apply below_alloc | apply pw_below_drewN | apply below_drew1) | exact HB.out | exact HBo.out))) : w.heap.size ≤ gb219)); clear HB; have HB := n0_; have BK219 := n1_; have GW219 := n2_; have GE219 := n3_; clear n0_ n1_ n2_ n3_; clear hb hbox hg) | ((with_reducible refine gate_callee (f := 7) rfl ?_); refine goesL_ (some 18) rfl rfl Try.func7 (by kernel_rfl) rfl #[] rfl (by (try simp only [List.map_toArray, List.map_cons, List.map_nil]); first | done | rfl | (simp only [List.length_drop, List.length_take]; rfl)) ?_; (with_reducible refine (shuttlecocklaw11_fixed.calls k  t220 _ A5.out).mono ?_); rintro e w7 ⟨rfl, hb⟩; refine ⟨_, rfl, ?_⟩; have n0_ := Aside0.mk (blk_below (g := gb219) (o := .cells #[.int .i64 a1_0, .int .i64 a1_1] 24 (0, 0)) (by (with_reducible repeat (first | refine blk_drewN ?_ _ | refine blk_drew ?_ | refine blk_alloc ?_ _)); exact BK219.out) hb); have n1_ := Aside0.mk (below_step (by repeat (first | (with_reducible first | exact HB.out | apply below_alloc | apply pw_below_drewN | apply below_drew1 | refine below_set ?_ GE219.out) | exact HB.out | exact HBo.out)) hb); clear BK219; clear HB; have BK219 := n0_; have HB := n1_; clear n0_ n1_; (try clear hb); (try clear hb2); (try clear hk); (try clear hi)))
    go_ret
    exact ⟨by first | rfl | (simp [errW_none, errW_some] <;> rfl) | (simp [*, errW_none, errW_some] <;> rfl) | (simp [Aid.ne_nil, Aid.eq_nil, errW_none, errW_some]; done), by repeat (first | (with_reducible first | exact HB.out | apply below_alloc | apply pw_below_drewN | apply below_drew1 | refine below_set ?_ GE219.out) | exact HB.out | exact HBo.out)⟩
  · rw [if_neg c4] at H
    have c4b0 : decide (200 < (l0.length : Int)) = false := decide_eq_false c4
    have c4b1 : decide (200 < l0.length) = false := decide_eq_false (by omega)
    clear c4
    replace H := Option.bind_eq_some_iff.mp H
    obtain ⟨⟨t221, t224⟩, A80, H⟩ := H
    replace H : ((shuttlecockref11_Put.f k l0 a1_0 a1_1).bind fun bt225 => ((sleep_Due.f k l0 a2).bind fun bt229 => ((shuttlecockref11_Due.f k l0 a2).bind fun bt235 => ((shuttlecocklaw11_fixed.f k).bind fun t241 => (if t241 = true then ((sleep_May.f l0).bind fun t242 => ((shuttlecockref11_May.f k l0).bind fun t243 => (if (t242 == t243) = true then ((shuttlecockref11_Same.f k t221 bt225.1).bind fun t244 => (if t244 = true then (if (t224 == bt225.2) = true then ((shuttlecockref01_Ints.f k bt229.1 bt235.1).bind fun t245 => (if t245 = true then ((shuttlecockref11_Same.f k bt229.2 bt235.2).bind fun t246 => (if t246 = true then ((sleep_Next.f l0).bind fun t247 => ((shuttlecockref11_Next.f k l0).bind fun t248 => (some (t247 == t248)))) else (none))) else (none))) else (none)) else (none))) else (none)))) else (none)))))) = some r := H
    have A8 := Aside0.mk A80
    clear A80
    replace H := Option.bind_eq_some_iff.mp H
    obtain ⟨⟨t225, t228⟩, A90, H⟩ := H
    replace H : ((sleep_Due.f k l0 a2).bind fun bt229 => ((shuttlecockref11_Due.f k l0 a2).bind fun bt235 => ((shuttlecocklaw11_fixed.f k).bind fun t241 => (if t241 = true then ((sleep_May.f l0).bind fun t242 => ((shuttlecockref11_May.f k l0).bind fun t243 => (if (t242 == t243) = true then ((shuttlecockref11_Same.f k t221 t225).bind fun t244 => (if t244 = true then (if (t224 == t228) = true then ((shuttlecockref01_Ints.f k bt229.1 bt235.1).bind fun t245 => (if t245 = true then ((shuttlecockref11_Same.f k bt229.2 bt235.2).bind fun t246 => (if t246 = true then ((sleep_Next.f l0).bind fun t247 => ((shuttlecockref11_Next.f k l0).bind fun t248 => (some (t247 == t248)))) else (none))) else (none))) else (none)) else (none))) else (none)))) else (none))))) = some r := H
    have A9 := Aside0.mk A90
    clear A90
    replace H := Option.bind_eq_some_iff.mp H
    obtain ⟨⟨t229, t232⟩, A100, H⟩ := H
    replace H : ((shuttlecockref11_Due.f k l0 a2).bind fun bt235 => ((shuttlecocklaw11_fixed.f k).bind fun t241 => (if t241 = true then ((sleep_May.f l0).bind fun t242 => ((shuttlecockref11_May.f k l0).bind fun t243 => (if (t242 == t243) = true then ((shuttlecockref11_Same.f k t221 t225).bind fun t244 => (if t244 = true then (if (t224 == t228) = true then ((shuttlecockref01_Ints.f k t229 bt235.1).bind fun t245 => (if t245 = true then ((shuttlecockref11_Same.f k t232 bt235.2).bind fun t246 => (if t246 = true then ((sleep_Next.f l0).bind fun t247 => ((shuttlecockref11_Next.f k l0).bind fun t248 => (some (t247 == t248)))) else (none))) else (none))) else (none)) else (none))) else (none)))) else (none)))) = some r := H
    have A10 := Aside0.mk A100
    clear A100
    replace H := Option.bind_eq_some_iff.mp H
    obtain ⟨⟨t235, t236⟩, A110, H⟩ := H
    replace H : ((shuttlecocklaw11_fixed.f k).bind fun t241 => (if t241 = true then ((sleep_May.f l0).bind fun t242 => ((shuttlecockref11_May.f k l0).bind fun t243 => (if (t242 == t243) = true then ((shuttlecockref11_Same.f k t221 t225).bind fun t244 => (if t244 = true then (if (t224 == t228) = true then ((shuttlecockref01_Ints.f k t229 t235).bind fun t245 => (if t245 = true then ((shuttlecockref11_Same.f k t232 t236).bind fun t246 => (if t246 = true then ((sleep_Next.f l0).bind fun t247 => ((shuttlecockref11_Next.f k l0).bind fun t248 => (some (t247 == t248)))) else (none))) else (none))) else (none)) else (none))) else (none)))) else (none))) = some r := H
    have A11 := Aside0.mk A110
    clear A110
    replace H := Option.bind_eq_some_iff.mp H
    obtain ⟨t241, A120, H⟩ := H
    replace H : (if t241 = true then ((sleep_May.f l0).bind fun t242 => ((shuttlecockref11_May.f k l0).bind fun t243 => (if (t242 == t243) = true then ((shuttlecockref11_Same.f k t221 t225).bind fun t244 => (if t244 = true then (if (t224 == t228) = true then ((shuttlecockref01_Ints.f k t229 t235).bind fun t245 => (if t245 = true then ((shuttlecockref11_Same.f k t232 t236).bind fun t246 => (if t246 = true then ((sleep_Next.f l0).bind fun t247 => ((shuttlecockref11_Next.f k l0).bind fun t248 => (some (t247 == t248)))) else (none))) else (none))) else (none)) else (none))) else (none)))) else (none)) = some r := H
    have A12 := Aside0.mk A120
    clear A120
    by_cases c13 : t241 = true
    · subst c13
      have H1 : ((sleep_May.f l0).bind fun t242 => ((shuttlecockref11_May.f k l0).bind fun t243 => (if (t242 == t243) = true then ((shuttlecockref11_Same.f k t221 t225).bind fun t244 => (if t244 = true then (if (t224 == t228) = true then ((shuttlecockref01_Ints.f k t229 t235).bind fun t245 => (if t245 = true then ((shuttlecockref11_Same.f k t232 t236).bind fun t246 => (if t246 = true then ((sleep_Next.f l0).bind fun t247 => ((shuttlecockref11_Next.f k l0).bind fun t248 => (some (t247 == t248)))) else (none))) else (none))) else (none)) else (none))) else (none)))) = some r := by rw [if_pos rfl] at H; exact H
      clear H
      have H := H1
      clear H1
      replace H := Option.bind_eq_some_iff.mp H
      obtain ⟨t242, A140, H⟩ := H
      replace H : ((shuttlecockref11_May.f k l0).bind fun t243 => (if (t242 == t243) = true then ((shuttlecockref11_Same.f k t221 t225).bind fun t244 => (if t244 = true then (if (t224 == t228) = true then ((shuttlecockref01_Ints.f k t229 t235).bind fun t245 => (if t245 = true then ((shuttlecockref11_Same.f k t232 t236).bind fun t246 => (if t246 = true then ((sleep_Next.f l0).bind fun t247 => ((shuttlecockref11_Next.f k l0).bind fun t248 => (some (t247 == t248)))) else (none))) else (none))) else (none)) else (none))) else (none))) = some r := H
      have A14 := Aside0.mk A140
      clear A140
      replace H := Option.bind_eq_some_iff.mp H
      obtain ⟨t243, A150, H⟩ := H
      replace H : (if (t242 == t243) = true then ((shuttlecockref11_Same.f k t221 t225).bind fun t244 => (if t244 = true then (if (t224 == t228) = true then ((shuttlecockref01_Ints.f k t229 t235).bind fun t245 => (if t245 = true then ((shuttlecockref11_Same.f k t232 t236).bind fun t246 => (if t246 = true then ((sleep_Next.f l0).bind fun t247 => ((shuttlecockref11_Next.f k l0).bind fun t248 => (some (t247 == t248)))) else (none))) else (none))) else (none)) else (none))) else (none)) = some r := H
      have A15 := Aside0.mk A150
      clear A150
      by_cases c16 : (t242 == t243) = true
      · rw [if_pos c16] at H
        have c16b0 : (t242 == t243) = true := c16
        (try (have c16b1 : decide (t242 = t243) = true := by simpa using c16))
        (try (have c16b2 : (t242 == t243) = true := by simpa using c16))
        clear c16
        replace H := Option.bind_eq_some_iff.mp H
        obtain ⟨t244, A170, H⟩ := H
        replace H : (if t244 = true then (if (t224 == t228) = true then ((shuttlecockref01_Ints.f k t229 t235).bind fun t245 => (if t245 = true then ((shuttlecockref11_Same.f k t232 t236).bind fun t246 => (if t246 = true then ((sleep_Next.f l0).bind fun t247 => ((shuttlecockref11_Next.f k l0).bind fun t248 => (some (t247 == t248)))) else (none))) else (none))) else (none)) else (none)) = some r := H
        have A17 := Aside0.mk A170
        clear A170
        by_cases c18 : t244 = true
        · subst c18
          have H1 : (if (t224 == t228) = true then ((shuttlecockref01_Ints.f k t229 t235).bind fun t245 => (if t245 = true then ((shuttlecockref11_Same.f k t232 t236).bind fun t246 => (if t246 = true then ((sleep_Next.f l0).bind fun t247 => ((shuttlecockref11_Next.f k l0).bind fun t248 => (some (t247 == t248)))) else (none))) else (none))) else (none)) = some r := by rw [if_pos rfl] at H; exact H
          clear H
          have H := H1
          clear H1
          by_cases c19 : (t224 == t228) = true
          · rw [if_pos c19] at H
            have c19b0 : (t224 == t228) = true := c19
            (try (have c19b1 : decide (t224 = t228) = true := by simpa using c19))
            (try (have c19b2 : (t224 == t228) = true := by simpa using c19))
            clear c19
            replace H := Option.bind_eq_some_iff.mp H
            obtain ⟨t245, A200, H⟩ := H
            replace H : (if t245 = true then ((shuttlecockref11_Same.f k t232 t236).bind fun t246 => (if t246 = true then ((sleep_Next.f l0).bind fun t247 => ((shuttlecockref11_Next.f k l0).bind fun t248 => (some (t247 == t248)))) else (none))) else (none)) = some r := H
            have A20 := Aside0.mk A200
            clear A200
            by_cases c21 : t245 = true
            · subst c21
              have H1 : ((shuttlecockref11_Same.f k t232 t236).bind fun t246 => (if t246 = true then ((sleep_Next.f l0).bind fun t247 => ((shuttlecockref11_Next.f k l0).bind fun t248 => (some (t247 == t248)))) else (none))) = some r := by rw [if_pos rfl] at H; exact H
              clear H
              have H := H1
              clear H1
              replace H := Option.bind_eq_some_iff.mp H
              obtain ⟨t246, A220, H⟩ := H
              replace H : (if t246 = true then ((sleep_Next.f l0).bind fun t247 => ((shuttlecockref11_Next.f k l0).bind fun t248 => (some (t247 == t248)))) else (none)) = some r := H
              have A22 := Aside0.mk A220
              clear A220
              by_cases c23 : t246 = true
              · subst c23
                have H1 : ((sleep_Next.f l0).bind fun t247 => ((shuttlecockref11_Next.f k l0).bind fun t248 => (some (t247 == t248)))) = some r := by rw [if_pos rfl] at H; exact H
                clear H
                have H := H1
                clear H1
                replace H := Option.bind_eq_some_iff.mp H
                obtain ⟨t247, A240, H⟩ := H
                replace H : ((shuttlecockref11_Next.f k l0).bind fun t248 => (some (t247 == t248))) = some r := H
                have A24 := Aside0.mk A240
                clear A240
                replace H := Option.bind_eq_some_iff.mp H
                obtain ⟨t248, A250, H⟩ := H
                replace H : (some (t247 == t248)) = some r := H
                have A25 := Aside0.mk A250
                clear A250
                obtain rfl := Option.some.inj H
                go_enter Try.func3, Try.ntmps3
                go_wp2_with (first | ((with_reducible refine gate_dst (N := 4) rfl ?_); refine box_event ?hg (N := 4) ?hd (cs := #[.int .i64 a1_0, .int .i64 a1_1]) (t := 24) ?hr ?_; (case hd => rfl); (case hg => rfl); (case hr => first | (go_simp; done) | (go_simp; rfl)); intro gb219 hg w26 hbox hb; have n0_ := Aside0.mk (below_step (by repeat (first | (with_reducible first | exact HB.out | apply below_alloc | apply pw_below_drewN | apply below_drew1) | exact HB.out | exact HBo.out)) hb); have n1_ := Aside0.mk (hbox); have n2_ := Aside0.mk ((by rw [hg]; exact (below_size (by repeat (first | (with_reducible first | exact HB.out | apply below_alloc | apply pw_below_drewN | apply below_drew1) | exact HB.out | exact HBo.out))) : w.heap.size ≤ gb219)); have n3_ := Aside0.mk ((by rw [hg]; exact (below_size (by repeat (first | (with_reducible first | exact HB.out | apply below_alloc | apply pw_below_drewN | apply below_drew1) | exact HB.out | exact HBo.out))) : w.heap.size ≤ gb219)); clear HB; have HB := n0_; have BK219 := n1_; have GW219 := n2_; have GE219 := n3_; clear n0_ n1_ n2_ n3_; clear hb hbox hg; have hcz27_0 : w26.cell? ⟨gb219, 0, none⟩ = some (.int .i64 a1_0) := (blk_cell BK219.out 0).trans rfl; have hcz27_1 : w26.cell? ⟨gb219, 1, none⟩ = some (.int .i64 a1_1) := (blk_cell BK219.out 1).trans rfl; have hfz27_0 := blk_frozen BK219.out 0; have hfz27_1 := blk_frozen BK219.out 1) | ((with_reducible refine gate_callee (f := 8) rfl ?_); refine goesL_ (some 22) rfl rfl Try.func8 (by kernel_rfl) rfl #[.slice A0 l0.length c0, .agg #[.int .i64 a1_0, .int .i64 a1_1]] rfl (by (try simp only [List.map_toArray, List.map_cons, List.map_nil]); first | done | rfl | (simp only [List.length_drop, List.length_take]; rfl)) ?_; (with_reducible refine (sleep_Put.calls _ _ l0 a1_0 a1_1 t221 t224 _ ?side1 ?side2 A8.out).mono ?_); (case side1 => repeat (first | exact (Kd.C_below HR0.out HB.out) | (with_reducible refine Kd.C_alloc ?_ _) | (with_reducible refine Kd.C_drewN ?_ _) | (with_reducible refine Kd.C_drew ?_))); (case side2 => exact HC0.out); rintro e w28 ⟨v222, rfl, ho0, hb⟩; refine ⟨_, rfl, ?_⟩; have n0_ := Aside0.mk (Kd.R_lower (Kd.R_newB ho0 (g := gb219) (o := .cells #[.int .i64 a1_0, .int .i64 a1_1] 24 (0, 0)) (by (with_reducible repeat (first | refine blk_drewN ?_ _ | refine blk_drew ?_ | refine blk_alloc ?_ _)); exact BK219.out)) (below_size (by repeat (first | (with_reducible first | exact HB.out | apply below_alloc | apply pw_below_drewN | apply below_drew1 | refine below_set ?_ GE219.out) | exact HB.out | exact HBo.out)))); have n1_ := Aside0.mk (blk_below (g := gb219) (o := .cells #[.int .i64 a1_0, .int .i64 a1_1] 24 (0, 0)) (by (with_reducible repeat (first | refine blk_drewN ?_ _ | refine blk_drew ?_ | refine blk_alloc ?_ _)); exact BK219.out) hb); have n2_ := Aside0.mk (below_step (by repeat (first | (with_reducible first | exact HB.out | apply below_alloc | apply pw_below_drewN | apply below_drew1 | refine below_set ?_ GE219.out) | exact HB.out | exact HBo.out)) hb); clear BK219; clear HB; have HO223 := n0_; have BK219 := n1_; have HB := n2_; clear n0_ n1_ n2_; (try clear hb); (try clear hb2); (try clear hk); (try clear hi); (try clear ho0); have hcz29_0 : w28.cell? ⟨gb219, 0, none⟩ = some (.int .i64 a1_0) := (blk_cell BK219.out 0).trans rfl; have hcz29_1 : w28.cell? ⟨gb219, 1, none⟩ = some (.int .i64 a1_1) := (blk_cell BK219.out 1).trans rfl; have hfz29_0 := blk_frozen BK219.out 0; have hfz29_1 := blk_frozen BK219.out 1) | ((with_reducible refine gate_callee (f := 9) rfl ?_); refine goesL_ (some 28) rfl rfl Try.func9 (by kernel_rfl) rfl #[.slice A0 l0.length c0, .agg #[.int .i64 a1_0, .int .i64 a1_1]] rfl (by (try simp only [List.map_toArray, List.map_cons, List.map_nil]); first | done | rfl | (simp only [List.length_drop, List.length_take]; rfl)) ?_; (with_reducible refine (shuttlecockref11_Put.calls k _ _ l0 a1_0 a1_1 t225 t228 _ ?side1 ?side2 A9.out).mono ?_); (case side1 => repeat (first | exact (Kd.C_below HR0.out HB.out) | (with_reducible refine Kd.C_alloc ?_ _) | (with_reducible refine Kd.C_drewN ?_ _) | (with_reducible refine Kd.C_drew ?_))); (case side2 => exact HC0.out); rintro e w30 ⟨v226, rfl, ho0, hb⟩; refine ⟨_, rfl, ?_⟩; have n0_ := Aside0.mk (Kd.R_elder' (by (with_reducible repeat (first | apply Kd.R_alloc | apply Kd.R_drewN | apply Kd.R_drew)); exact HO223.out) (Kd.R_base ho0) hb); have n1_ := Aside0.mk (Kd.R_lower (Kd.R_newB (Kd.R_new' ho0 (Kd.R_lt (by (with_reducible repeat (first | apply Kd.R_alloc | apply Kd.R_drewN | apply Kd.R_drew)); exact HO223.out))) (g := gb219) (o := .cells #[.int .i64 a1_0, .int .i64 a1_1] 24 (0, 0)) (by (with_reducible repeat (first | refine blk_drewN ?_ _ | refine blk_drew ?_ | refine blk_alloc ?_ _)); exact BK219.out)) (below_size (by repeat (first | (with_reducible first | exact HB.out | apply below_alloc | apply pw_below_drewN | apply below_drew1 | refine below_set ?_ GE219.out) | exact HB.out | exact HBo.out)))); have n2_ := Aside0.mk (blk_below (g := gb219) (o := .cells #[.int .i64 a1_0, .int .i64 a1_1] 24 (0, 0)) (by (with_reducible repeat (first | refine blk_drewN ?_ _ | refine blk_drew ?_ | refine blk_alloc ?_ _)); exact BK219.out) hb); have n3_ := Aside0.mk (below_step (by repeat (first | (with_reducible first | exact HB.out | apply below_alloc | apply pw_below_drewN | apply below_drew1 | refine below_set ?_ GE219.out) | exact HB.out | exact HBo.out)) hb); clear HO223; clear BK219; clear HB; have HO223 := n0_; have HO227 := n1_; have BK219 := n2_; have HB := n3_; clear n0_ n1_ n2_ n3_; (try clear hb); (try clear hb2); (try clear hk); (try clear hi); (try clear ho0)) | ((with_reducible refine gate_callee (f := 10) rfl ?_); refine goesL_ (some 34) rfl rfl Try.func10 (by kernel_rfl) rfl #[.slice A0 l0.length c0, .int .i64 a2] rfl (by (try simp only [List.map_toArray, List.map_cons, List.map_nil]); first | done | rfl | (simp only [List.length_drop, List.length_take]; rfl)) ?_; (with_reducible refine (sleep_Due.calls k (fun k_ => k_ < w.heap.size) _ _ l0 a2 t229 t232 _ ?side1 A10.out).mono ?_); (case side1 => exact Kd.V_mk HC0.out (Kd.F_below (Kd.C_F k24_heap HR0.out) (by repeat (first | (with_reducible first | exact HB.out | apply below_alloc | apply pw_below_drewN | apply below_drew1 | refine below_set ?_ GE219.out) | exact HB.out | exact HBo.out)))); rintro e w31 ⟨v230, v233, rfl, ho0, ho1, hb⟩; refine ⟨_, rfl, ?_⟩; have n0_ := Aside0.mk (Kd.R_elder' (by (with_reducible repeat (first | apply Kd.R_alloc | apply Kd.R_drewN | apply Kd.R_drew)); exact HO223.out) (Kd.R_base ho1) hb); have n1_ := Aside0.mk (Kd.R_elder' (by (with_reducible repeat (first | apply Kd.R_alloc | apply Kd.R_drewN | apply Kd.R_drew)); exact HO227.out) (Kd.R_base ho1) hb); have n2_ := Aside0.mk (Kd.R_lower (Kd.R_mono (ok' := fun k_ => True) ho0 (fun _ hk_ => trivial)) (below_size (by repeat (first | (with_reducible first | exact HB.out | apply below_alloc | apply pw_below_drewN | apply below_drew1 | refine below_set ?_ GE219.out) | exact HB.out | exact HBo.out)))); have n3_ := Aside0.mk (Kd.R_lower (Kd.R_newB (Kd.R_new' (Kd.R_new' (Kd.R_mono (ok' := fun k_ => True) ho1 (fun _ hk_ => trivial)) (Kd.R_lt (by (with_reducible repeat (first | apply Kd.R_alloc | apply Kd.R_drewN | apply Kd.R_drew)); exact HO223.out))) (Kd.R_lt (by (with_reducible repeat (first | apply Kd.R_alloc | apply Kd.R_drewN | apply Kd.R_drew)); exact HO227.out))) (g := gb219) (o := .cells #[.int .i64 a1_0, .int .i64 a1_1] 24 (0, 0)) (by (with_reducible repeat (first | refine blk_drewN ?_ _ | refine blk_drew ?_ | refine blk_alloc ?_ _)); exact BK219.out)) (below_size (by repeat (first | (with_reducible first | exact HB.out | apply below_alloc | apply pw_below_drewN | apply below_drew1 | refine below_set ?_ GE219.out) | exact HB.out | exact HBo.out)))); have n4_ := Aside0.mk (blk_below (g := gb219) (o := .cells #[.int .i64 a1_0, .int .i64 a1_1] 24 (0, 0)) (by (with_reducible repeat (first | refine blk_drewN ?_ _ | refine blk_drew ?_ | refine blk_alloc ?_ _)); exact BK219.out) hb); have n5_ := Aside0.mk (below_step (by repeat (first | (with_reducible first | exact HB.out | apply below_alloc | apply pw_below_drewN | apply below_drew1 | refine below_set ?_ GE219.out) | exact HB.out | exact HBo.out)) hb); clear HO223; clear HO227; clear BK219; clear HB; have HO223 := n0_; have HO227 := n1_; have HO231 := n2_; have HO234 := n3_; have BK219 := n4_; have HB := n5_; clear n0_ n1_ n2_ n3_ n4_ n5_; (try clear hb); (try clear hb2); (try clear hk); (try clear hi); (try clear ho0); (try clear ho1)) | ((with_reducible refine gate_callee (f := 11) rfl ?_); refine goesL_ (some 40) rfl rfl Try.func11 (by kernel_rfl) rfl #[.slice A0 l0.length c0, .int .i64 a2] rfl (by (try simp only [List.map_toArray, List.map_cons, List.map_nil]); first | done | rfl | (simp only [List.length_drop, List.length_take]; rfl)) ?_; (with_reducible refine (shuttlecockref11_Due.calls k _ _ l0 a2 t235 t236 _ ?side1 ?side2 A11.out).mono ?_); (case side1 => repeat (first | exact (Kd.C_below HR0.out HB.out) | (with_reducible refine Kd.C_alloc ?_ _) | (with_reducible refine Kd.C_drewN ?_ _) | (with_reducible refine Kd.C_drew ?_))); (case side2 => exact HC0.out); rintro e w32 ⟨v237, v239, rfl, ho0, ho1, hb⟩; refine ⟨_, rfl, ?_⟩; have n0_ := Aside0.mk (Kd.R_elder' (by (with_reducible repeat (first | apply Kd.R_alloc | apply Kd.R_drewN | apply Kd.R_drew)); exact HO223.out) (Kd.R_base ho1) hb); have n1_ := Aside0.mk (Kd.R_elder' (by (with_reducible repeat (first | apply Kd.R_alloc | apply Kd.R_drewN | apply Kd.R_drew)); exact HO227.out) (Kd.R_base ho1) hb); have n2_ := Aside0.mk (Kd.R_elder' (by (with_reducible repeat (first | apply Kd.R_alloc | apply Kd.R_drewN | apply Kd.R_drew)); exact HO231.out) (Kd.R_base ho0) hb); have n3_ := Aside0.mk (Kd.R_elder' (by (with_reducible repeat (first | apply Kd.R_alloc | apply Kd.R_drewN | apply Kd.R_drew)); exact HO234.out) (Kd.R_base ho1) hb); have n4_ := Aside0.mk (Kd.R_lower (Kd.R_new' ho0 (Kd.R_lt (by (with_reducible repeat (first | apply Kd.R_alloc | apply Kd.R_drewN | apply Kd.R_drew)); exact HO231.out))) (below_size (by repeat (first | (with_reducible first | exact HB.out | apply below_alloc | apply pw_below_drewN | apply below_drew1 | refine below_set ?_ GE219.out) | exact HB.out | exact HBo.out)))); have n5_ := Aside0.mk (Kd.R_lower (Kd.R_newB (Kd.R_new' (Kd.R_new' (Kd.R_new' ho1 (Kd.R_lt (by (with_reducible repeat (first | apply Kd.R_alloc | apply Kd.R_drewN | apply Kd.R_drew)); exact HO223.out))) (Kd.R_lt (by (with_reducible repeat (first | apply Kd.R_alloc | apply Kd.R_drewN | apply Kd.R_drew)); exact HO227.out))) (Kd.R_lt (by (with_reducible repeat (first | apply Kd.R_alloc | apply Kd.R_drewN | apply Kd.R_drew)); exact HO234.out))) (g := gb219) (o := .cells #[.int .i64 a1_0, .int .i64 a1_1] 24 (0, 0)) (by (with_reducible repeat (first | refine blk_drewN ?_ _ | refine blk_drew ?_ | refine blk_alloc ?_ _)); exact BK219.out)) (below_size (by repeat (first | (with_reducible first | exact HB.out | apply below_alloc | apply pw_below_drewN | apply below_drew1 | refine below_set ?_ GE219.out) | exact HB.out | exact HBo.out)))); have n6_ := Aside0.mk (blk_below (g := gb219) (o := .cells #[.int .i64 a1_0, .int .i64 a1_1] 24 (0, 0)) (by (with_reducible repeat (first | refine blk_drewN ?_ _ | refine blk_drew ?_ | refine blk_alloc ?_ _)); exact BK219.out) hb); have n7_ := Aside0.mk (below_step (by repeat (first | (with_reducible first | exact HB.out | apply below_alloc | apply pw_below_drewN | apply below_drew1 | refine below_set ?_ GE219.out) | exact HB.out | exact HBo.out)) hb); clear HO223; clear HO227; clear HO231; clear HO234; clear BK219; clear HB; have HO223 := n0_; have HO227 := n1_; have HO231 := n2_; have HO234 := n3_; have HO238 := n4_; have HO240 := n5_; have BK219 := n6_; have HB := n7_; clear n0_ n1_ n2_ n3_ n4_ n5_ n6_ n7_; (try clear hb); (try clear hb2); (try clear hk); (try clear hi); (try clear ho0); (try clear ho1)) | ((with_reducible refine gate_callee (f := 7) rfl ?_); refine goesL_ (some 43) rfl rfl Try.func7 (by kernel_rfl) rfl #[] rfl (by (try simp only [List.map_toArray, List.map_cons, List.map_nil]); first | done | rfl | (simp only [List.length_drop, List.length_take]; rfl)) ?_; (with_reducible refine (shuttlecocklaw11_fixed.calls k  true _ A12.out).mono ?_); rintro e w33 ⟨rfl, hb⟩; refine ⟨_, rfl, ?_⟩; have n0_ := Aside0.mk (Kd.R_below (by (with_reducible repeat (first | apply Kd.R_alloc | apply Kd.R_drewN | apply Kd.R_drew)); exact HO223.out) hb); have n1_ := Aside0.mk (Kd.R_below (by (with_reducible repeat (first | apply Kd.R_alloc | apply Kd.R_drewN | apply Kd.R_drew)); exact HO227.out) hb); have n2_ := Aside0.mk (Kd.R_below (by (with_reducible repeat (first | apply Kd.R_alloc | apply Kd.R_drewN | apply Kd.R_drew)); exact HO231.out) hb); have n3_ := Aside0.mk (Kd.R_below (by (with_reducible repeat (first | apply Kd.R_alloc | apply Kd.R_drewN | apply Kd.R_drew)); exact HO234.out) hb); have n4_ := Aside0.mk (Kd.R_below (by (with_reducible repeat (first | apply Kd.R_alloc | apply Kd.R_drewN | apply Kd.R_drew)); exact HO238.out) hb); have n5_ := Aside0.mk (Kd.R_below (by (with_reducible repeat (first | apply Kd.R_alloc | apply Kd.R_drewN | apply Kd.R_drew)); exact HO240.out) hb); have n6_ := Aside0.mk (blk_below (g := gb219) (o := .cells #[.int .i64 a1_0, .int .i64 a1_1] 24 (0, 0)) (by (with_reducible repeat (first | refine blk_drewN ?_ _ | refine blk_drew ?_ | refine blk_alloc ?_ _)); exact BK219.out) hb); have n7_ := Aside0.mk (below_step (by repeat (first | (with_reducible first | exact HB.out | apply below_alloc | apply pw_below_drewN | apply below_drew1 | refine below_set ?_ GE219.out) | exact HB.out | exact HBo.out)) hb); clear HO223; clear HO227; clear HO231; clear HO234; clear HO238; clear HO240; clear BK219; clear HB; have HO223 := n0_; have HO227 := n1_; have HO231 := n2_; have HO234 := n3_; have HO238 := n4_; have HO240 := n5_; have BK219 := n6_; have HB := n7_; clear n0_ n1_ n2_ n3_ n4_ n5_ n6_ n7_; (try clear hb); (try clear hb2); (try clear hk); (try clear hi)) | (go_at_call 12; (with_reducible refine (sleep_May.calls _ _ l0 t242 _ ?side1 ?side2 A14.out).mono ?_); (case side1 => repeat (first | exact (Kd.C_below HR0.out HB.out) | (with_reducible refine Kd.C_alloc ?_ _) | (with_reducible refine Kd.C_drewN ?_ _) | (with_reducible refine Kd.C_drew ?_))); (case side2 => exact HC0.out); rintro e w34 ⟨rfl, hb⟩; have n0_ := Aside0.mk (Kd.R_below (by (with_reducible repeat (first | apply Kd.R_alloc | apply Kd.R_drewN | apply Kd.R_drew)); exact HO223.out) hb); have n1_ := Aside0.mk (Kd.R_below (by (with_reducible repeat (first | apply Kd.R_alloc | apply Kd.R_drewN | apply Kd.R_drew)); exact HO227.out) hb); have n2_ := Aside0.mk (Kd.R_below (by (with_reducible repeat (first | apply Kd.R_alloc | apply Kd.R_drewN | apply Kd.R_drew)); exact HO231.out) hb); have n3_ := Aside0.mk (Kd.R_below (by (with_reducible repeat (first | apply Kd.R_alloc | apply Kd.R_drewN | apply Kd.R_drew)); exact HO234.out) hb); have n4_ := Aside0.mk (Kd.R_below (by (with_reducible repeat (first | apply Kd.R_alloc | apply Kd.R_drewN | apply Kd.R_drew)); exact HO238.out) hb); have n5_ := Aside0.mk (Kd.R_below (by (with_reducible repeat (first | apply Kd.R_alloc | apply Kd.R_drewN | apply Kd.R_drew)); exact HO240.out) hb); have n6_ := Aside0.mk (blk_below (g := gb219) (o := .cells #[.int .i64 a1_0, .int .i64 a1_1] 24 (0, 0)) (by (with_reducible repeat (first | refine blk_drewN ?_ _ | refine blk_drew ?_ | refine blk_alloc ?_ _)); exact BK219.out) hb); have n7_ := Aside0.mk (below_step (by repeat (first | (with_reducible first | exact HB.out | apply below_alloc | apply pw_below_drewN | apply below_drew1 | refine below_set ?_ GE219.out) | exact HB.out | exact HBo.out)) hb); clear HO223; clear HO227; clear HO231; clear HO234; clear HO238; clear HO240; clear BK219; clear HB; have HO223 := n0_; have HO227 := n1_; have HO231 := n2_; have HO234 := n3_; have HO238 := n4_; have HO240 := n5_; have BK219 := n6_; have HB := n7_; clear n0_ n1_ n2_ n3_ n4_ n5_ n6_ n7_; (try clear hb); (try clear hb2); (try clear hk); (try clear hi)) | (go_at_call 13; (with_reducible refine (shuttlecockref11_May.calls k _ _ l0 t243 _ ?side1 ?side2 A15.out).mono ?_); (case side1 => repeat (first | exact (Kd.C_below HR0.out HB.out) | (with_reducible refine Kd.C_alloc ?_ _) | (with_reducible refine Kd.C_drewN ?_ _) | (with_reducible refine Kd.C_drew ?_))); (case side2 => exact HC0.out); rintro e w35 ⟨rfl, hb⟩; have n0_ := Aside0.mk (Kd.R_below (by (with_reducible repeat (first | apply Kd.R_alloc | apply Kd.R_drewN | apply Kd.R_drew)); exact HO223.out) hb); have n1_ := Aside0.mk (Kd.R_below (by (with_reducible repeat (first | apply Kd.R_alloc | apply Kd.R_drewN | apply Kd.R_drew)); exact HO227.out) hb); have n2_ := Aside0.mk (Kd.R_below (by (with_reducible repeat (first | apply Kd.R_alloc | apply Kd.R_drewN | apply Kd.R_drew)); exact HO231.out) hb); have n3_ := Aside0.mk (Kd.R_below (by (with_reducible repeat (first | apply Kd.R_alloc | apply Kd.R_drewN | apply Kd.R_drew)); exact HO234.out) hb); have n4_ := Aside0.mk (Kd.R_below (by (with_reducible repeat (first | apply Kd.R_alloc | apply Kd.R_drewN | apply Kd.R_drew)); exact HO238.out) hb); have n5_ := Aside0.mk (Kd.R_below (by (with_reducible repeat (first | apply Kd.R_alloc | apply Kd.R_drewN | apply Kd.R_drew)); exact HO240.out) hb); have n6_ := Aside0.mk (blk_below (g := gb219) (o := .cells #[.int .i64 a1_0, .int .i64 a1_1] 24 (0, 0)) (by (with_reducible repeat (first | refine blk_drewN ?_ _ | refine blk_drew ?_ | refine blk_alloc ?_ _)); exact BK219.out) hb); have n7_ := Aside0.mk (below_step (by repeat (first | (with_reducible first | exact HB.out | apply below_alloc | apply pw_below_drewN | apply below_drew1 | refine below_set ?_ GE219.out) | exact HB.out | exact HBo.out)) hb); clear HO223; clear HO227; clear HO231; clear HO234; clear HO238; clear HO240; clear BK219; clear HB; have HO223 := n0_; have HO227 := n1_; have HO231 := n2_; have HO234 := n3_; have HO238 := n4_; have HO240 := n5_; have BK219 := n6_; have HB := n7_; clear n0_ n1_ n2_ n3_ n4_ n5_ n6_ n7_; (try clear hb); (try clear hb2); (try clear hk); (try clear hi); obtain ⟨Ao36, co36, eo36⟩ := Kd.R_slice HO223.out; subst eo36; obtain ⟨Ao37, co37, eo37⟩ := Kd.R_slice HO227.out; subst eo37) | (go_at_call 14; (with_reducible refine (shuttlecockref11_Same.calls k _ _ t221 _ _ t225 true _ ?side1 ?side2 ?side3 ?side4 A17.out).mono ?_); (case side1 => repeat (first | exact (Kd.R_reads' HO223.out).2.2 | (with_reducible refine Kd.C_alloc ?_ _) | (with_reducible refine Kd.C_drewN ?_ _) | (with_reducible refine Kd.C_drew ?_))); (case side2 => exact (Kd.R_reads' HO223.out).2.1); (case side3 => repeat (first | exact (Kd.R_reads' HO227.out).2.2 | (with_reducible refine Kd.C_alloc ?_ _) | (with_reducible refine Kd.C_drewN ?_ _) | (with_reducible refine Kd.C_drew ?_))); (case side4 => exact (Kd.R_reads' HO227.out).2.1); rintro e w' ⟨rfl, ⟨nd, rfl⟩⟩; obtain ⟨Ao38, co38, eo38⟩ := Kd.R_slice HO231.out; subst eo38; obtain ⟨Ao39, co39, eo39⟩ := Kd.R_slice HO238.out; subst eo39) | (go_at_call 15; (with_reducible refine (shuttlecockref01_Ints.calls k _ _ t229 _ _ t235 true _ ?side1 ?side2 ?side3 ?side4 A20.out).mono ?_); (case side1 => repeat (first | exact (Kd.R_reads' HO231.out).2.2 | (with_reducible refine Kd.C_alloc ?_ _) | (with_reducible refine Kd.C_drewN ?_ _) | (with_reducible refine Kd.C_drew ?_))); (case side2 => exact (Kd.R_reads' HO231.out).2.1); (case side3 => repeat (first | exact (Kd.R_reads' HO238.out).2.2 | (with_reducible refine Kd.C_alloc ?_ _) | (with_reducible refine Kd.C_drewN ?_ _) | (with_reducible refine Kd.C_drew ?_))); (case side4 => exact (Kd.R_reads' HO238.out).2.1); rintro e w' ⟨rfl, ⟨nd, rfl⟩⟩; obtain ⟨Ao40, co40, eo40⟩ := Kd.R_slice HO234.out; subst eo40; obtain ⟨Ao41, co41, eo41⟩ := Kd.R_slice HO240.out; subst eo41) | (go_at_call 14; (with_reducible refine (shuttlecockref11_Same.calls k _ _ t232 _ _ t236 true _ ?side1 ?side2 ?side3 ?side4 A22.out).mono ?_); (case side1 => repeat (first | exact (Kd.R_reads' HO234.out).2.2 | (with_reducible refine Kd.C_alloc ?_ _) | (with_reducible refine Kd.C_drewN ?_ _) | (with_reducible refine Kd.C_drew ?_))); (case side2 => exact (Kd.R_reads' HO234.out).2.1); (case side3 => repeat (first | exact (Kd.R_reads' HO240.out).2.2 | (with_reducible refine Kd.C_alloc ?_ _) | (with_reducible refine Kd.C_drewN ?_ _) | (with_reducible refine Kd.C_drew ?_))); (case side4 => exact (Kd.R_reads' HO240.out).2.1); rintro e w' ⟨rfl, ⟨nd, rfl⟩⟩) | (go_at_call 16; (with_reducible refine (sleep_Next.calls _ _ l0 t247 _ ?side1 ?side2 A24.out).mono ?_); (case side1 => repeat (first | exact (Kd.C_below HR0.out (by repeat (first | (with_reducible first | exact HB.out | apply below_alloc | apply pw_below_drewN | apply below_drew1 | refine below_set ?_ GE219.out) | exact HB.out | exact HBo.out))) | (with_reducible refine Kd.C_alloc ?_ _) | (with_reducible refine Kd.C_drewN ?_ _) | (with_reducible refine Kd.C_drew ?_))); (case side2 => exact HC0.out); rintro e w42 ⟨rfl, hb⟩; have n0_ := Aside0.mk (Kd.R_below (by (with_reducible repeat (first | apply Kd.R_alloc | apply Kd.R_drewN | apply Kd.R_drew)); exact HO223.out) hb); have n1_ := Aside0.mk (Kd.R_below (by (with_reducible repeat (first | apply Kd.R_alloc | apply Kd.R_drewN | apply Kd.R_drew)); exact HO227.out) hb); have n2_ := Aside0.mk (Kd.R_below (by (with_reducible repeat (first | apply Kd.R_alloc | apply Kd.R_drewN | apply Kd.R_drew)); exact HO231.out) hb); have n3_ := Aside0.mk (Kd.R_below (by (with_reducible repeat (first | apply Kd.R_alloc | apply Kd.R_drewN | apply Kd.R_drew)); exact HO234.out) hb); have n4_ := Aside0.mk (Kd.R_below (by (with_reducible repeat (first | apply Kd.R_alloc | apply Kd.R_drewN | apply Kd.R_drew)); exact HO238.out) hb); have n5_ := Aside0.mk (Kd.R_below (by (with_reducible repeat (first | apply Kd.R_alloc | apply Kd.R_drewN | apply Kd.R_drew)); exact HO240.out) hb); have n6_ := Aside0.mk (blk_below (g := gb219) (o := .cells #[.int .i64 a1_0, .int .i64 a1_1] 24 (0, 0)) (by (with_reducible repeat (first | refine blk_drewN ?_ _ | refine blk_drew ?_ | refine blk_alloc ?_ _)); exact BK219.out) hb); have n7_ := Aside0.mk (below_step (by repeat (first | (with_reducible first | exact HB.out | apply below_alloc | apply pw_below_drewN | apply below_drew1 | refine below_set ?_ GE219.out) | exact HB.out | exact HBo.out)) hb); clear HO223; clear HO227; clear HO231; clear HO234; clear HO238; clear HO240; clear BK219; clear HB; have HO223 := n0_; have HO227 := n1_; have HO231 := n2_; have HO234 := n3_; have HO238 := n4_; have HO240 := n5_; have BK219 := n6_; have HB := n7_; clear n0_ n1_ n2_ n3_ n4_ n5_ n6_ n7_; (try clear hb); (try clear hb2); (try clear hk); (try clear hi)) | (go_at_call 17; (with_reducible refine (shuttlecockref11_Next.calls k _ _ l0 t248 _ ?side1 ?side2 A25.out).mono ?_); (case side1 => repeat (first | exact (Kd.C_below HR0.out HB.out) | (with_reducible refine Kd.C_alloc ?_ _) | (with_reducible refine Kd.C_drewN ?_ _) | (with_reducible refine Kd.C_drew ?_))); (case side2 => exact HC0.out); rintro e w43 ⟨rfl, hb⟩; have n0_ := Aside0.mk (Kd.R_below (by (with_reducible repeat (first | apply Kd.R_alloc | apply Kd.R_drewN | apply Kd.R_drew)); exact HO223.out) hb); have n1_ := Aside0.mk (Kd.R_below (by (with_reducible repeat (first | apply Kd.R_alloc | apply Kd.R_drewN | apply Kd.R_drew)); exact HO227.out) hb); have n2_ := Aside0.mk (Kd.R_below (by (with_reducible repeat (first | apply Kd.R_alloc | apply Kd.R_drewN | apply Kd.R_drew)); exact HO231.out) hb); have n3_ := Aside0.mk (Kd.R_below (by (with_reducible repeat (first | apply Kd.R_alloc | apply Kd.R_drewN | apply Kd.R_drew)); exact HO234.out) hb); have n4_ := Aside0.mk (Kd.R_below (by (with_reducible repeat (first | apply Kd.R_alloc | apply Kd.R_drewN | apply Kd.R_drew)); exact HO238.out) hb); have n5_ := Aside0.mk (Kd.R_below (by (with_reducible repeat (first | apply Kd.R_alloc | apply Kd.R_drewN | apply Kd.R_drew)); exact HO240.out) hb); have n6_ := Aside0.mk (blk_below (g := gb219) (o := .cells #[.int .i64 a1_0, .int .i64 a1_1] 24 (0, 0)) (by (with_reducible repeat (first | refine blk_drewN ?_ _ | refine blk_drew ?_ | refine blk_alloc ?_ _)); exact BK219.out) hb); have n7_ := Aside0.mk (below_step (by repeat (first | (with_reducible first | exact HB.out | apply below_alloc | apply pw_below_drewN | apply below_drew1 | refine below_set ?_ GE219.out) | exact HB.out | exact HBo.out)) hb); clear HO223; clear HO227; clear HO231; clear HO234; clear HO238; clear HO240; clear BK219; clear HB; have HO223 := n0_; have HO227 := n1_; have HO231 := n2_; have HO234 := n3_; have HO238 := n4_; have HO240 := n5_; have BK219 := n6_; have HB := n7_; clear n0_ n1_ n2_ n3_ n4_ n5_ n6_ n7_; (try clear hb); (try clear hb2); (try clear hk); (try clear hi)))
                go_ret
                exact ⟨by first | rfl | (simp [errW_none, errW_some] <;> rfl) | (simp [*, errW_none, errW_some] <;> rfl) | (simp [Aid.ne_nil, Aid.eq_nil, errW_none, errW_some]; done), by repeat (first | (with_reducible first | exact HB.out | apply below_alloc | apply pw_below_drewN | apply below_drew1 | refine below_set ?_ GE219.out) | exact HB.out | exact HBo.out)⟩
              · replace c23 := Bool.eq_false_iff.mpr c23
                subst c23
                have H1 : (none) = some r := by rw [if_neg (show ¬ (false = true) by decide)] at H; exact H
                clear H
                have H := H1
                clear H1
                exact absurd H (by simp)
            · replace c21 := Bool.eq_false_iff.mpr c21
              subst c21
              have H1 : (none) = some r := by rw [if_neg (show ¬ (false = true) by decide)] at H; exact H
              clear H
              have H := H1
              clear H1
              exact absurd H (by simp)
          · rw [if_neg c19] at H
            exact absurd H (by simp)
        · replace c18 := Bool.eq_false_iff.mpr c18
          subst c18
          have H1 : (none) = some r := by rw [if_neg (show ¬ (false = true) by decide)] at H; exact H
          clear H
          have H := H1
          clear H1
          exact absurd H (by simp)
      · rw [if_neg c16] at H
        exact absurd H (by simp)
    · replace c13 := Bool.eq_false_iff.mpr c13
      subst c13
      have H1 : (none) = some r := by rw [if_neg (show ¬ (false = true) by decide)] at H; exact H
      clear H
      have H := H1
      clear H1
      exact absurd H (by simp)

/-- THE ONE PURE STATEMENT of shuttlecocklaw11_SleepTells (own row). -/
def shuttlecocklaw11_SleepTells.Pure : Prop := ∀ (y0 : List (S24)) (y1 : S24) (y2 : Int), ((∀ e2 ∈ y0, ((Lit.int .i64 e2.f0).wf = true ∧ (Lit.int .i64 e2.f1).wf = true)) ∧ y0.length ≤ maxLen) → ((Lit.int .i64 y1.f0).wf = true ∧ (Lit.int .i64 y1.f1).wf = true) → (Lit.int .i64 y2).wf = true → ∃ k, shuttlecocklaw11_SleepTells.f k y0 y1.f0 y1.f1 y2 = some true

end Go.Proofs.Ytlaneipibmjmbaa.Q
