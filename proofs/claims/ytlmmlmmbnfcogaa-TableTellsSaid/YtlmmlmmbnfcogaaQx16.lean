-- printed by a program of this session (NOTES: hprint); not the kit's print
-- minified3
-- minified2
-- minified
-- halved
import Derived.Test.YtlmmlmmbnfcogaaAl
import Derived.Test.YtlmmlmmbnfcogaaQx0
import Derived.Test.YtlmmlmmbnfcogaaQx14
namespace Go.Proofs.Ytlmmlmmbnfcogaa.Q
open Go.RowKit Go.Proofs.YtlmmlmmbnfcogaaW.PrintWords Go.Proofs.YtlmmlmmbnfcogaaW.PrintLast Go.Proofs.YtlmmlmmbnfcogaaW.PrintMore
attribute [local go_sem] max2_int min2_int max_two min_two max_three min_three max_four min_four   -- for this text's walks alone
set_option linter.unusedVariables false
set_option linter.unusedSimpArgs false

/-! ### shuttlecockref07_frames: function 49 -/
def shuttlecockref07_frames.l0 : Nat → Int → List (S70) → Int → ByteArray → Int → Int → Int → Option ((List (S70)) × Int × Int × ByteArray × Int × Int × Int)
 | 0, _, _, _, _, _, _, _ => none
 | k + 1, x5, x6, x7, x1000, x1001, x1002, x1003 => if x7 < x5 then ((shuttlecockref02_Reader_Num.f k x1000 x1001 x1002 x1003).bind fun bt267 => ((shuttlecockref02_Reader_Num.f k bt267.2.1 bt267.2.2.1 bt267.2.2.2.1 bt267.2.2.2.2).bind fun bt272 => (if bt272.2.2.2.1 = 0 then (if x6.length < 8796093022208 then (shuttlecockref07_frames.l0 k x5 (x6 ++ [(⟨bt267.1, bt272.1⟩ : S70)]) (wrap64 (x7 + 1)) bt272.2.1 bt272.2.2.1 bt272.2.2.2.1 bt272.2.2.2.2) else (none)) else (some (([] : List (S70)), bt272.2.2.2.2, bt272.2.2.2.1, bt272.2.1, bt272.2.2.1, bt272.2.2.2.1, bt272.2.2.2.2))))) else (some (x6, 0, 0, x1000, x1001, x1002, x1003))
def shuttlecockref07_frames.f (k : Nat) (s0_0 : ByteArray) (s0_1 : Int) (s0_2 : Int) (s0_3 : Int) : Option ((List (S70)) × Int × Int × ByteArray × Int × Int × Int) := (shuttlecockref02_Reader_Num.f k s0_0 s0_1 s0_2 s0_3).bind fun bt259 => (if bt259.2.2.2.1 = 0 then (if bt259.1 > 100 then (some (([] : List (S70)), bt259.2.2.1, 70, bt259.2.1, bt259.2.2.1, bt259.2.2.2.1, bt259.2.2.2.2)) else (shuttlecockref07_frames.l0 k bt259.1 (([] : List (S70))) 0 bt259.2.1 bt259.2.2.1 bt259.2.2.2.1 bt259.2.2.2.2)) else (some (([] : List (S70)), bt259.2.2.2.2, bt259.2.2.2.1, bt259.2.1, bt259.2.2.1, bt259.2.2.2.1, bt259.2.2.2.2)))
theorem shuttlecockref07_frames.mono_l : ∀ k, (∀ y0 y1 y2 y3 y4 y5 y6, LeO (shuttlecockref07_frames.l0 k y0 y1 y2 y3 y4 y5 y6) (shuttlecockref07_frames.l0 (k + 1) y0 y1 y2 y3 y4 y5 y6))
 | 0 => fun _ _ _ _ _ _ _ r h => by simp [shuttlecockref07_frames.l0] at h
 | k + 1 => by
  have ih0 := shuttlecockref07_frames.mono_l k
  ·
   intro y0 y1 y2 y3 y4 y5 y6
   unfold shuttlecockref07_frames.l0
   repeat' first
   | (with_reducible exact ih0 _ _ _ _ _ _ _)
   | (with_reducible exact shuttlecockref02_Reader_Num.mono _ _ _ _ _)
   | (with_reducible exact LeO.refl _)
   | (with_reducible exact LeO.none _)
   | (with_reducible refine LeO.ite ?_ ?_)
   | (with_reducible refine LeO.bind ?_ (fun _ => ?_))
   | exact LeO.none _
   | refine LeO.ite ?_ ?_
   | refine LeO.bind ?_ (fun _ => ?_)
theorem shuttlecockref07_frames.mono : ∀ a0 a1 a2 a3 k, LeO (shuttlecockref07_frames.f k a0 a1 a2 a3) (shuttlecockref07_frames.f (k + 1) a0 a1 a2 a3) := by
 intro a0 a1 a2 a3 k
 have ih0 := shuttlecockref07_frames.mono_l k
 unfold shuttlecockref07_frames.f
 repeat' first
   | (with_reducible exact ih0 _ _ _ _ _ _ _)
   | (with_reducible exact shuttlecockref02_Reader_Num.mono _ _ _ _ _)
   | (with_reducible exact LeO.refl _)
   | (with_reducible exact LeO.none _)
   | (with_reducible refine LeO.ite ?_ ?_)
   | (with_reducible refine LeO.bind ?_ (fun _ => ?_))
   | exact LeO.none _
   | refine LeO.ite ?_ ?_
   | refine LeO.bind ?_ (fun _ => ?_)
set_option maxHeartbeats 8000000 in
set_option maxRecDepth 100000 in
theorem shuttlecockref07_frames.calls (k : Nat) (g : Nat) (s0_0 : ByteArray) (s0_1 : Int) (s0_2 : Int) (s0_3 : Int) (r1 : List (S70)) (r2 : Int) (r3 : Int) (r4 : ByteArray) (r5 : Int) (r6 : Int) (r7 : Int) (w0 w : World) (hI : IsS53 w0 w g s0_0 s0_1 s0_2 s0_3) (hB : Below w0.heap.size w0 w) (h : shuttlecockref07_frames.f k s0_0 s0_1 s0_2 s0_3 = some (r1, r2, r3, r4, r5, r6, r7)) :
  Calls Try.prog 49 #[.pointer (some ⟨g, 0, none⟩)] w fun e w' => ∃ v0_ : Value, e = .returned (.tuple #[v0_, .int .i64 r2, .int .i64 r3]) ∧ Kd.R k70 70 w' w.heap.size (fun _ => True) v0_ r1 ∧ IsS53 w0 w' g r4 r5 r6 r7 ∧ Below w0.heap.size w0 w' ∧ KeepBut w w' g none := by
 have hu70 := Try.underlying70
 have HI0 := Am hI
 have HK := Am (KeepBut.refl w g none)
 have HL := Am hB.size
 clear hI
 have HW0 := Am hB.size
 have HB := Am hB
 clear hB
 have H : ((shuttlecockref02_Reader_Num.f k s0_0 s0_1 s0_2 s0_3).bind fun bt259 => (if bt259.2.2.2.1 = 0 then (if bt259.1 > 100 then (some (([] : List (S70)), bt259.2.2.1, 70, bt259.2.1, bt259.2.2.1, bt259.2.2.2.1, bt259.2.2.2.2)) else (shuttlecockref07_frames.l0 k bt259.1 (([] : List (S70))) 0 bt259.2.1 bt259.2.2.1 bt259.2.2.2.1 bt259.2.2.2.2)) else (some (([] : List (S70)), bt259.2.2.2.2, bt259.2.2.2.1, bt259.2.1, bt259.2.2.1, bt259.2.2.2.1, bt259.2.2.2.2)))) = some (r1, r2, r3, r4, r5, r6, r7) := h
 clear h
 replace H := ob H
 obtain ⟨⟨t259, t260, t261, t262, t263⟩, A20, H⟩ := H
 (try dsimp only at H)
 have A2 := Am A20
 clear A20
 by_cases c3 : t262 = 0
 ·
  rw [if_pos c3] at H
  have c3b0 : (t262 == 0) = true := beq_iff_eq.mpr c3
  have c3b1 : (t262 != 0) = false := bne_eq_false_iff_eq.mpr c3
  clear c3
  by_cases c4 : t259 > 100
  ·
   rw [if_pos c4] at H
   have c4b0 : decide (100 < t259) = true := decide_eq_true c4
   clear c4
   simp only [Option.some.injEq, Prod.mk.injEq] at H
   obtain ⟨rfl, rfl, rfl, rfl, rfl, rfl, rfl⟩ := H
   go_enter Try.func49, Try.ntmps49
   go_wp2_with (first | (go_at_call 46; (with_reducible refine (shuttlecockref02_Reader_Num.calls k g s0_0 s0_1 s0_2 s0_3 t259 t260 t261 t262 t263 w0 _ ?side1 ?side2 A2.out).mono ?_); (case side1 => exact z0); (case side2 => exact z2); rintro e w5 ⟨rfl, hi, hb, hk⟩; replace HK := Am (KeepBut.trans (z1) hk (.inl rfl)); replace HB := Am (hb); replace HI0 := Am (hi); (try clear hb); (try clear hb2); (try clear hk); (try clear hi); obtain ⟨HGz6, hgz6⟩ := HI0.out; have hcz6_0 := cellS53_0 HGz6; have hcz6_1 := cellS53_1 HGz6; have hcz6_2 := cellS53_2 HGz6; have hcz6_3 := cellS53_3 HGz6; have hfz6_0 := bf HGz6 0; have hfz6_1 := bf HGz6 1; have hfz6_2 := bf HGz6 2; have hfz6_3 := bf HGz6 3; clear HGz6 hgz6))
   repeat (go_quiet (first | (go_at_call 46; (with_reducible refine (shuttlecockref02_Reader_Num.calls k g s0_0 s0_1 s0_2 s0_3 t259 t260 t261 t262 t263 w0 _ ?side1 ?side2 A2.out).mono ?_); (case side1 => exact z0); (case side2 => exact z2); rintro e w5 ⟨rfl, hi, hb, hk⟩; replace HK := Am (KeepBut.trans (z1) hk (.inl rfl)); replace HB := Am (hb); replace HI0 := Am (hi); (try clear hb); (try clear hb2); (try clear hk); (try clear hi); obtain ⟨HGz6, hgz6⟩ := HI0.out; have hcz6_0 := cellS53_0 HGz6; have hcz6_1 := cellS53_1 HGz6; have hcz6_2 := cellS53_2 HGz6; have hcz6_3 := cellS53_3 HGz6; have hfz6_0 := bf HGz6 0; have hfz6_1 := bf HGz6 1; have hfz6_2 := bf HGz6 2; have hfz6_3 := bf HGz6 3; clear HGz6 hgz6)); try go_wp2_with (first | (go_at_call 46; (with_reducible refine (shuttlecockref02_Reader_Num.calls k g s0_0 s0_1 s0_2 s0_3 t259 t260 t261 t262 t263 w0 _ ?side1 ?side2 A2.out).mono ?_); (case side1 => exact z0); (case side2 => exact z2); rintro e w5 ⟨rfl, hi, hb, hk⟩; replace HK := Am (KeepBut.trans (z1) hk (.inl rfl)); replace HB := Am (hb); replace HI0 := Am (hi); (try clear hb); (try clear hb2); (try clear hk); (try clear hi); obtain ⟨HGz6, hgz6⟩ := HI0.out; have hcz6_0 := cellS53_0 HGz6; have hcz6_1 := cellS53_1 HGz6; have hcz6_2 := cellS53_2 HGz6; have hcz6_3 := cellS53_3 HGz6; have hfz6_0 := bf HGz6 0; have hfz6_1 := bf HGz6 1; have hfz6_2 := bf HGz6 2; have hfz6_3 := bf HGz6 3; clear HGz6 hgz6)))
   go_ret3
   exact ⟨_, y0, by first | exact Kd.R_nil _ _ _ _ _ | exact Kd.N_nil _ _ _ _ _ | exact Kd.V_nil _ _ _ _ _ | exact Kd.Q_nil _ _ _ _ _ | exact Kd.S_nil _ _ _ _ _, z0, z2, z1⟩
  ·
   rw [if_neg c4] at H
   have c4b0 : decide (100 < t259) = false := decide_eq_false c4
   clear c4
   obtain ⟨y264, hy264⟩ : ∃ y_ : List (S70), y_ = (([] : List (S70))) := ⟨_, rfl⟩
   replace H : (shuttlecockref07_frames.l0 k t259 y264 0 t260 t261 t262 t263) = some (r1, r2, r3, r4, r5, r6, r7) := by first | (rw [hy264]; with_reducible exact H) | (have H2_ := (Option.bind_some _ _).symm.trans H; rw [hy264]; with_reducible exact H2_) | (have H2_ := (Option.bind_some _ _).symm.trans H; with_reducible exact H2_) | with_reducible exact H | (rw [hy264]; exact H) | exact H
   have Ny264 := Am hy264
   clear hy264
   have H' := Am H
   clear H
   go_enter Try.func49, Try.ntmps49
   go_wp2_with (first | (go_at_call 46; (with_reducible refine (shuttlecockref02_Reader_Num.calls k g s0_0 s0_1 s0_2 s0_3 t259 t260 t261 t262 t263 w0 _ ?side1 ?side2 A2.out).mono ?_); (case side1 => exact z0); (case side2 => exact z2); rintro e w7 ⟨rfl, hi, hb, hk⟩; replace HK := Am (KeepBut.trans (z1) hk (.inl rfl)); replace HB := Am (hb); replace HI0 := Am (hi); (try clear hb); (try clear hb2); (try clear hk); (try clear hi); obtain ⟨HGz8, hgz8⟩ := HI0.out; have hcz8_0 := cellS53_0 HGz8; have hcz8_1 := cellS53_1 HGz8; have hcz8_2 := cellS53_2 HGz8; have hcz8_3 := cellS53_3 HGz8; have hfz8_0 := bf HGz8 0; have hfz8_1 := bf HGz8 1; have hfz8_2 := bf HGz8 2; have hfz8_3 := bf HGz8 3; clear HGz8 hgz8) | ((with_reducible refine gate_dst (N := 31) rfl ?_); refine Kd.R_lit k70 _ 70 ?hg (N := 31) ?hd (xs := ([] : List (S70))) (inner := []) (ok := fun _ => True) (okp := fun _ => True) ?hr ?hp (fun _ hk => hk) trivial (Below.refl _ _) (Nat.le_refl _) (by simp) ?_; (case hd => rfl); (case hg => rfl); (case hr => first | (go_simp; done) | (go_simp; rfl)); (case hp => exact (Reps.none _ _)); intro v265 w9 ho10 hb hg_ hnew_; clear hg_ hnew_; (first | rw [← Ny264.out] at ho10 | (simp only [Int.reduceToNat] at ho10; rw [← Ny264.out] at ho10)); have n0_ := Am (Kd.R_lower ho10 (keep_size (w := w) (g := g) (row := none) (z1))); have n1_ := Am (IsS53.below (z0) hb); have n2_ := Am (KeepBut.trans (z1) (KeepBut.of_below hb g none) (.inl rfl)); have n3_ := Am (below_step (z2) hb); clear HI0; clear HK; clear HB; have HO266 := n0_; have HI0 := n1_; have HK := n2_; have HB := n3_; clear n0_ n1_ n2_ n3_; clear hb ho10))
   repeat (go_quiet (first | (go_at_call 46; (with_reducible refine (shuttlecockref02_Reader_Num.calls k g s0_0 s0_1 s0_2 s0_3 t259 t260 t261 t262 t263 w0 _ ?side1 ?side2 A2.out).mono ?_); (case side1 => exact z0); (case side2 => exact z2); rintro e w7 ⟨rfl, hi, hb, hk⟩; replace HK := Am (KeepBut.trans (z1) hk (.inl rfl)); replace HB := Am (hb); replace HI0 := Am (hi); (try clear hb); (try clear hb2); (try clear hk); (try clear hi); obtain ⟨HGz8, hgz8⟩ := HI0.out; have hcz8_0 := cellS53_0 HGz8; have hcz8_1 := cellS53_1 HGz8; have hcz8_2 := cellS53_2 HGz8; have hcz8_3 := cellS53_3 HGz8; have hfz8_0 := bf HGz8 0; have hfz8_1 := bf HGz8 1; have hfz8_2 := bf HGz8 2; have hfz8_3 := bf HGz8 3; clear HGz8 hgz8) | ((with_reducible refine gate_dst (N := 31) rfl ?_); refine Kd.R_lit k70 _ 70 ?hg (N := 31) ?hd (xs := ([] : List (S70))) (inner := []) (ok := fun _ => True) (okp := fun _ => True) ?hr ?hp (fun _ hk => hk) trivial (Below.refl _ _) (Nat.le_refl _) (by simp) ?_; (case hd => rfl); (case hg => rfl); (case hr => first | (go_simp; done) | (go_simp; rfl)); (case hp => exact (Reps.none _ _)); intro v265 w9 ho10 hb hg_ hnew_; clear hg_ hnew_; (first | rw [← Ny264.out] at ho10 | (simp only [Int.reduceToNat] at ho10; rw [← Ny264.out] at ho10)); have n0_ := Am (Kd.R_lower ho10 (keep_size (w := w) (g := g) (row := none) (z1))); have n1_ := Am (IsS53.below (z0) hb); have n2_ := Am (KeepBut.trans (z1) (KeepBut.of_below hb g none) (.inl rfl)); have n3_ := Am (below_step (z2) hb); clear HI0; clear HK; clear HB; have HO266 := n0_; have HI0 := n1_; have HK := n2_; have HB := n3_; clear n0_ n1_ n2_ n3_; clear hb ho10)); try go_wp2_with (first | (go_at_call 46; (with_reducible refine (shuttlecockref02_Reader_Num.calls k g s0_0 s0_1 s0_2 s0_3 t259 t260 t261 t262 t263 w0 _ ?side1 ?side2 A2.out).mono ?_); (case side1 => exact z0); (case side2 => exact z2); rintro e w7 ⟨rfl, hi, hb, hk⟩; replace HK := Am (KeepBut.trans (z1) hk (.inl rfl)); replace HB := Am (hb); replace HI0 := Am (hi); (try clear hb); (try clear hb2); (try clear hk); (try clear hi); obtain ⟨HGz8, hgz8⟩ := HI0.out; have hcz8_0 := cellS53_0 HGz8; have hcz8_1 := cellS53_1 HGz8; have hcz8_2 := cellS53_2 HGz8; have hcz8_3 := cellS53_3 HGz8; have hfz8_0 := bf HGz8 0; have hfz8_1 := bf HGz8 1; have hfz8_2 := bf HGz8 2; have hfz8_3 := bf HGz8 3; clear HGz8 hgz8) | ((with_reducible refine gate_dst (N := 31) rfl ?_); refine Kd.R_lit k70 _ 70 ?hg (N := 31) ?hd (xs := ([] : List (S70))) (inner := []) (ok := fun _ => True) (okp := fun _ => True) ?hr ?hp (fun _ hk => hk) trivial (Below.refl _ _) (Nat.le_refl _) (by simp) ?_; (case hd => rfl); (case hg => rfl); (case hr => first | (go_simp; done) | (go_simp; rfl)); (case hp => exact (Reps.none _ _)); intro v265 w9 ho10 hb hg_ hnew_; clear hg_ hnew_; (first | rw [← Ny264.out] at ho10 | (simp only [Int.reduceToNat] at ho10; rw [← Ny264.out] at ho10)); have n0_ := Am (Kd.R_lower ho10 (keep_size (w := w) (g := g) (row := none) (z1))); have n1_ := Am (IsS53.below (z0) hb); have n2_ := Am (KeepBut.trans (z1) (KeepBut.of_below hb g none) (.inl rfl)); have n3_ := Am (below_step (z2) hb); clear HI0; clear HK; clear HB; have HO266 := n0_; have HI0 := n1_; have HK := n2_; have HB := n3_; clear n0_ n1_ n2_ n3_; clear hb ho10)))
   go_loopg [6, 7] k (fun kq v6 v7 w' => ∃ (x6_1 : List (S70)) (x7_1 : Int) (x1000_1 : ByteArray) (x1001_1 : Int) (x1002_1 : Int) (x1003_1 : Int), v7 = .int .i64 x7_1 ∧ Aside0 (shuttlecockref07_frames.l0 kq t259 x6_1 x7_1 x1000_1 x1001_1 x1002_1 x1003_1 = some (r1, r2, r3, r4, r5, r6, r7)) ∧ Aside0 (kq ≤ k) ∧ Aside0 (Kd.R k70 70 w' w.heap.size (fun _ => True) v6 x6_1) ∧ Aside0 (IsS53 w0 w' g x1000_1 x1001_1 x1002_1 x1003_1) ∧ Aside0 (KeepBut w w' g none) ∧ Aside0 (Below w0.heap.size w0 w'))
   case atStart => exact ⟨(y264), (0), (t260), (t261), (t262), (t263), (by first | rfl | (simp; done) | (simp [*]; done) | (simp; generalize ByteArray.toList _ = l_; cases l_ <;> rfl)), H', ⟨Nat.le_refl _⟩, ⟨by (with_reducible repeat (first | apply Kd.R_alloc | apply Kd.R_drewN | apply Kd.R_drew)); exact HO266.out⟩, ⟨z0⟩, ⟨z1⟩, ⟨z2⟩⟩
   case round =>
    clear H'
    try clear p2
    try clear c3
    try clear c3b0
    try clear c3b1
    try clear c4
    try clear c4b0
    try clear hcz6_0
    try clear hcz6_1
    try clear hcz6_2
    try clear hcz6_3
    try clear hcz8_0
    try clear hcz8_1
    try clear hcz8_2
    try clear hcz8_3
    try clear hfz6_0
    try clear hfz6_1
    try clear hfz6_2
    try clear hfz6_3
    try clear hfz8_0
    try clear hfz8_1
    try clear hfz8_2
    try clear hfz8_3
    obtain ⟨x6_1, x7_1, x1000_1, x1001_1, x1002_1, x1003_1, rfl, HA, HK1, HO_6, HI0, HK, HB⟩ := hrel
    cases gk with
    | zero => exact absurd HA.out (by simp [shuttlecockref07_frames.l0])
    | succ k1 =>
     have H := HA.out
     clear HA
     simp only [shuttlecockref07_frames.l0] at H
     by_cases c11 : x7_1 < t259
     ·
      rw [if_pos c11] at H
      have c11b0 : decide (x7_1 < t259) = true := decide_eq_true c11
      clear c11
      replace H := ob H
      obtain ⟨⟨t267, t268, t269, t270, t271⟩, A120, H⟩ := H
      (try dsimp only at H)
      have A12 := Am A120
      clear A120
      replace H := ob H
      obtain ⟨⟨t272, t273, t274, t275, t276⟩, A130, H⟩ := H
      (try dsimp only at H)
      have A13 := Am A130
      clear A130
      by_cases c14 : t275 = 0
      ·
       rw [if_pos c14] at H
       have c14b0 : (t275 == 0) = true := beq_iff_eq.mpr c14
       have c14b1 : (t275 != 0) = false := bne_eq_false_iff_eq.mpr c14
       clear c14
       by_cases c15 : x6_1.length < 8796093022208
       ·
        rw [if_pos c15] at H
        have LMc15 := Am c15
        clear c15
        obtain ⟨y277, hy277⟩ : ∃ y_ : List (S70), y_ = (x6_1 ++ [(⟨t267, t272⟩ : S70)]) := ⟨_, rfl⟩
        replace H : (shuttlecockref07_frames.l0 k1 t259 y277 (wrap64 (x7_1 + 1)) t273 t274 t275 t276) = some (r1, r2, r3, r4, r5, r6, r7) := by first | (rw [hy277]; with_reducible exact H) | (have H2_ := (Option.bind_some _ _).symm.trans H; rw [hy277]; with_reducible exact H2_) | (have H2_ := (Option.bind_some _ _).symm.trans H; with_reducible exact H2_) | with_reducible exact H | (rw [hy277]; exact H) | exact H
        have Ny277 := Am hy277
        clear hy277
        have H' := Am H
        clear H
        go_wp2_with (first | (go_at_call 46; (with_reducible refine (shuttlecockref02_Reader_Num.calls k1 g x1000_1 x1001_1 x1002_1 x1003_1 t267 t268 t269 t270 t271 w0 _ ?side1 ?side2 A12.out).mono ?_); (case side1 => repeat (first | (with_reducible first | exact HI0.out | apply IsS53.alloc | apply IsS53.drewN | apply IsS53.drew | apply IsS53.set_0 | apply IsS53.set_1 | apply IsS53.set_2 | apply IsS53.set_3) | exact HI0.out)); (case side2 => repeat (first | (with_reducible first | exact HB.out | apply bl | apply pN | apply b1 | refine bs ?_ (IsS53.ge HI0.out)) | exact HB.out | exact HBo.out)); rintro e w16 ⟨rfl, hi, hb, hk⟩; replace HO_6 := Am (Kd.R_mono (Kd.R_keep (IsS53.apart (show IsS53 w0 _ g x1000_1 x1001_1 x1002_1 x1003_1 from z0) (by (with_reducible repeat (first | apply Kd.R_alloc | apply Kd.R_drewN | apply Kd.R_drew)); exact HO_6.out) (by decide)) hk (fun _ h => h.2)) (fun _ h => h.1)); replace HK := Am (KeepBut.trans (z1) hk (.inl rfl)); replace HB := Am (hb); replace HI0 := Am (hi); (try clear hb); (try clear hb2); (try clear hk); (try clear hi)) | (go_at_call 46; (with_reducible refine (shuttlecockref02_Reader_Num.calls k1 g t268 t269 t270 t271 t272 t273 t274 t275 t276 w0 _ ?side1 ?side2 A13.out).mono ?_); (case side1 => repeat (first | (with_reducible first | exact HI0.out | apply IsS53.alloc | apply IsS53.drewN | apply IsS53.drew | apply IsS53.set_0 | apply IsS53.set_1 | apply IsS53.set_2 | apply IsS53.set_3) | exact HI0.out)); (case side2 => repeat (first | (with_reducible first | exact HB.out | apply bl | apply pN | apply b1 | refine bs ?_ (IsS53.ge HI0.out)) | exact HB.out | exact HBo.out)); rintro e w17 ⟨rfl, hi, hb, hk⟩; replace HO_6 := Am (Kd.R_mono (Kd.R_keep (IsS53.apart (show IsS53 w0 _ g t268 t269 t270 t271 from z0) (by (with_reducible repeat (first | apply Kd.R_alloc | apply Kd.R_drewN | apply Kd.R_drew)); exact HO_6.out) (by decide)) hk (fun _ h => h.2)) (fun _ h => h.1)); replace HK := Am (KeepBut.trans (z1) hk (.inl rfl)); replace HB := Am (hb); replace HI0 := Am (hi); (try clear hb); (try clear hb2); (try clear hk); (try clear hi); obtain ⟨HGz18, hgz18⟩ := HI0.out; have hcz18_0 := cellS53_0 HGz18; have hcz18_1 := cellS53_1 HGz18; have hcz18_2 := cellS53_2 HGz18; have hcz18_3 := cellS53_3 HGz18; have hfz18_0 := bf HGz18 0; have hfz18_1 := bf HGz18 1; have hfz18_2 := bf HGz18 2; have hfz18_3 := bf HGz18 3; clear HGz18 hgz18) | ((with_reducible refine gate_builtin (b := .append) (xs := #[.tmp 54, .tmp 58]) rfl ?_); at_builtin; refine Kd.R_append k70 w.heap.size rfl (.tmp 54) (.tmp 58) 42 70 (.agg #[(.int .i64 0), (.int .i64 0)]) 16 rfl Try.underlying42 info70 rfl (by decide) (by omega) u6 x6_1 (⟨t267, t272⟩ : S70) [.int .i64 t267, .int .i64 t272] (fun _ => True) (fun _ => False) rfl rfl ?aP (fun _ hk => hk.elim) ?aF ?aO (Below.refl _ _) ?aS ?aL ?_; (case aP => exact k70_mkM _ _ _ (⟨t267, t272⟩ : S70)); (case aF => exact (fun _ _ => trivial)); (case aO => exact (by (with_reducible repeat (first | apply Kd.R_alloc | apply Kd.R_drewN | apply Kd.R_drew)); exact HO_6.out)); (case aS => exact (keep_size (w := w) (g := g) (row := none) (z1))); (case aL => have := LMc15.out; omega); intro v278 w19 ho hb hg hat; rw [← Ny277.out] at ho; have n0_ := Am (IsS53.grown (show IsS53 w0 _ g t273 t274 t275 t276 from z0) hg (IsS53.own_ne HI0.out HO_6.out (by decide))); have n1_ := Am (below_weaken (z2) HL.out hb); have n2_ := Am (KeepBut.trans (z1) (KeepBut.of_grown hg g) (Kd.R_base2 HO_6.out)); have n3_ := Am (ho); clear HI0; clear HB; clear HK; clear HO_6; have HI0 := n0_; have HB := n1_; have HK := n2_; have HO279 := n3_; clear n0_ n1_ n2_ n3_; clear ho hb hg hat))
        repeat (go_quiet (first | (go_at_call 46; (with_reducible refine (shuttlecockref02_Reader_Num.calls k1 g x1000_1 x1001_1 x1002_1 x1003_1 t267 t268 t269 t270 t271 w0 _ ?side1 ?side2 A12.out).mono ?_); (case side1 => exact z0); (case side2 => exact z2); rintro e w16 ⟨rfl, hi, hb, hk⟩; replace HO_6 := Am (Kd.R_mono (Kd.R_keep (IsS53.apart (show IsS53 w0 _ g x1000_1 x1001_1 x1002_1 x1003_1 from z0) (by (with_reducible repeat (first | apply Kd.R_alloc | apply Kd.R_drewN | apply Kd.R_drew)); exact HO_6.out) (by decide)) hk (fun _ h => h.2)) (fun _ h => h.1)); replace HK := Am (KeepBut.trans (z1) hk (.inl rfl)); replace HB := Am (hb); replace HI0 := Am (hi); (try clear hb); (try clear hb2); (try clear hk); (try clear hi)) | (go_at_call 46; (with_reducible refine (shuttlecockref02_Reader_Num.calls k1 g t268 t269 t270 t271 t272 t273 t274 t275 t276 w0 _ ?side1 ?side2 A13.out).mono ?_); (case side1 => exact z0); (case side2 => exact z2); rintro e w17 ⟨rfl, hi, hb, hk⟩; replace HO_6 := Am (Kd.R_mono (Kd.R_keep (IsS53.apart (show IsS53 w0 _ g t268 t269 t270 t271 from z0) (by (with_reducible repeat (first | apply Kd.R_alloc | apply Kd.R_drewN | apply Kd.R_drew)); exact HO_6.out) (by decide)) hk (fun _ h => h.2)) (fun _ h => h.1)); replace HK := Am (KeepBut.trans (z1) hk (.inl rfl)); replace HB := Am (hb); replace HI0 := Am (hi); (try clear hb); (try clear hb2); (try clear hk); (try clear hi); obtain ⟨HGz18, hgz18⟩ := HI0.out; have hcz18_0 := cellS53_0 HGz18; have hcz18_1 := cellS53_1 HGz18; have hcz18_2 := cellS53_2 HGz18; have hcz18_3 := cellS53_3 HGz18; have hfz18_0 := bf HGz18 0; have hfz18_1 := bf HGz18 1; have hfz18_2 := bf HGz18 2; have hfz18_3 := bf HGz18 3; clear HGz18 hgz18) | ((with_reducible refine gate_builtin (b := .append) (xs := #[.tmp 54, .tmp 58]) rfl ?_); at_builtin; refine Kd.R_append k70 w.heap.size rfl (.tmp 54) (.tmp 58) 42 70 (.agg #[(.int .i64 0), (.int .i64 0)]) 16 rfl Try.underlying42 info70 rfl (by decide) (by omega) u6 x6_1 (⟨t267, t272⟩ : S70) [.int .i64 t267, .int .i64 t272] (fun _ => True) (fun _ => False) rfl rfl ?aP (fun _ hk => hk.elim) ?aF ?aO (Below.refl _ _) ?aS ?aL ?_; (case aP => exact k70_mkM _ _ _ (⟨t267, t272⟩ : S70)); (case aF => exact (fun _ _ => trivial)); (case aO => exact (by (with_reducible repeat (first | apply Kd.R_alloc | apply Kd.R_drewN | apply Kd.R_drew)); exact HO_6.out)); (case aS => exact (keep_size (w := w) (g := g) (row := none) (z1))); (case aL => have := LMc15.out; omega); intro v278 w19 ho hb hg hat; rw [← Ny277.out] at ho; have n0_ := Am (IsS53.grown (show IsS53 w0 _ g t273 t274 t275 t276 from z0) hg (IsS53.own_ne HI0.out HO_6.out (by decide))); have n1_ := Am (below_weaken (z2) HL.out hb); have n2_ := Am (KeepBut.trans (z1) (KeepBut.of_grown hg g) (Kd.R_base2 HO_6.out)); have n3_ := Am (ho); clear HI0; clear HB; clear HK; clear HO_6; have HI0 := n0_; have HB := n1_; have HK := n2_; have HO279 := n3_; clear n0_ n1_ n2_ n3_; clear ho hb hg hat)); try go_wp2_with (first | (go_at_call 46; (with_reducible refine (shuttlecockref02_Reader_Num.calls k1 g x1000_1 x1001_1 x1002_1 x1003_1 t267 t268 t269 t270 t271 w0 _ ?side1 ?side2 A12.out).mono ?_); (case side1 => exact z0); (case side2 => exact z2); rintro e w16 ⟨rfl, hi, hb, hk⟩; replace HO_6 := Am (Kd.R_mono (Kd.R_keep (IsS53.apart (show IsS53 w0 _ g x1000_1 x1001_1 x1002_1 x1003_1 from z0) (by (with_reducible repeat (first | apply Kd.R_alloc | apply Kd.R_drewN | apply Kd.R_drew)); exact HO_6.out) (by decide)) hk (fun _ h => h.2)) (fun _ h => h.1)); replace HK := Am (KeepBut.trans (z1) hk (.inl rfl)); replace HB := Am (hb); replace HI0 := Am (hi); (try clear hb); (try clear hb2); (try clear hk); (try clear hi)) | (go_at_call 46; (with_reducible refine (shuttlecockref02_Reader_Num.calls k1 g t268 t269 t270 t271 t272 t273 t274 t275 t276 w0 _ ?side1 ?side2 A13.out).mono ?_); (case side1 => exact z0); (case side2 => exact z2); rintro e w17 ⟨rfl, hi, hb, hk⟩; replace HO_6 := Am (Kd.R_mono (Kd.R_keep (IsS53.apart (show IsS53 w0 _ g t268 t269 t270 t271 from z0) (by (with_reducible repeat (first | apply Kd.R_alloc | apply Kd.R_drewN | apply Kd.R_drew)); exact HO_6.out) (by decide)) hk (fun _ h => h.2)) (fun _ h => h.1)); replace HK := Am (KeepBut.trans (z1) hk (.inl rfl)); replace HB := Am (hb); replace HI0 := Am (hi); (try clear hb); (try clear hb2); (try clear hk); (try clear hi); obtain ⟨HGz18, hgz18⟩ := HI0.out; have hcz18_0 := cellS53_0 HGz18; have hcz18_1 := cellS53_1 HGz18; have hcz18_2 := cellS53_2 HGz18; have hcz18_3 := cellS53_3 HGz18; have hfz18_0 := bf HGz18 0; have hfz18_1 := bf HGz18 1; have hfz18_2 := bf HGz18 2; have hfz18_3 := bf HGz18 3; clear HGz18 hgz18) | ((with_reducible refine gate_builtin (b := .append) (xs := #[.tmp 54, .tmp 58]) rfl ?_); at_builtin; refine Kd.R_append k70 w.heap.size rfl (.tmp 54) (.tmp 58) 42 70 (.agg #[(.int .i64 0), (.int .i64 0)]) 16 rfl Try.underlying42 info70 rfl (by decide) (by omega) u6 x6_1 (⟨t267, t272⟩ : S70) [.int .i64 t267, .int .i64 t272] (fun _ => True) (fun _ => False) rfl rfl ?aP (fun _ hk => hk.elim) ?aF ?aO (Below.refl _ _) ?aS ?aL ?_; (case aP => exact k70_mkM _ _ _ (⟨t267, t272⟩ : S70)); (case aF => exact (fun _ _ => trivial)); (case aO => exact (by (with_reducible repeat (first | apply Kd.R_alloc | apply Kd.R_drewN | apply Kd.R_drew)); exact HO_6.out)); (case aS => exact (keep_size (w := w) (g := g) (row := none) (z1))); (case aL => have := LMc15.out; omega); intro v278 w19 ho hb hg hat; rw [← Ny277.out] at ho; have n0_ := Am (IsS53.grown (show IsS53 w0 _ g t273 t274 t275 t276 from z0) hg (IsS53.own_ne HI0.out HO_6.out (by decide))); have n1_ := Am (below_weaken (z2) HL.out hb); have n2_ := Am (KeepBut.trans (z1) (KeepBut.of_grown hg g) (Kd.R_base2 HO_6.out)); have n3_ := Am (ho); clear HI0; clear HB; clear HK; clear HO_6; have HI0 := n0_; have HB := n1_; have HK := n2_; have HO279 := n3_; clear n0_ n1_ n2_ n3_; clear ho hb hg hat)))
        go_roundg k1
        case measure => have := HK1.out; omega
        case rel => exact ⟨(y277), (wrap64 (x7_1 + 1)), (t273), (t274), (t275), (t276), (by first | rfl | (simp; done) | (simp [*]; done) | (simp; generalize ByteArray.toList _ = l_; cases l_ <;> rfl)), H', ⟨by have := HK1.out; omega⟩, ⟨by (with_reducible repeat (first | apply Kd.R_alloc | apply Kd.R_drewN | apply Kd.R_drew)); exact HO279.out⟩, ⟨z0⟩, ⟨z1⟩, ⟨z2⟩⟩
       ·
        rw [if_neg c15] at H
        exact absurd H (by simp)
      ·
       rw [if_neg c14] at H
       have c14b0 : (t275 == 0) = false := beq_eq_false_iff_ne.mpr c14
       have c14b1 : (t275 != 0) = true := bne_iff_ne.mpr c14
       simp only [Option.some.injEq, Prod.mk.injEq] at H
       obtain ⟨rfl, rfl, rfl, rfl, rfl, rfl, rfl⟩ := H
       go_wp2_with (first | (go_at_call 46; (with_reducible refine (shuttlecockref02_Reader_Num.calls k1 g x1000_1 x1001_1 x1002_1 x1003_1 t267 t268 t269 t270 t271 w0 _ ?side1 ?side2 A12.out).mono ?_); (case side1 => repeat (first | (with_reducible first | exact HI0.out | apply IsS53.alloc | apply IsS53.drewN | apply IsS53.drew | apply IsS53.set_0 | apply IsS53.set_1 | apply IsS53.set_2 | apply IsS53.set_3) | exact HI0.out)); (case side2 => repeat (first | (with_reducible first | exact HB.out | apply bl | apply pN | apply b1 | refine bs ?_ (IsS53.ge HI0.out)) | exact HB.out | exact HBo.out)); rintro e w20 ⟨rfl, hi, hb, hk⟩; replace HO_6 := Am (Kd.R_mono (Kd.R_keep (IsS53.apart (show IsS53 w0 _ g x1000_1 x1001_1 x1002_1 x1003_1 from z0) (by (with_reducible repeat (first | apply Kd.R_alloc | apply Kd.R_drewN | apply Kd.R_drew)); exact HO_6.out) (by decide)) hk (fun _ h => h.2)) (fun _ h => h.1)); replace HK := Am (KeepBut.trans (z1) hk (.inl rfl)); replace HB := Am (hb); replace HI0 := Am (hi); (try clear hb); (try clear hb2); (try clear hk); (try clear hi)) | (go_at_call 46; (with_reducible refine (shuttlecockref02_Reader_Num.calls k1 g t268 t269 t270 t271 t272 t273 t274 t275 t276 w0 _ ?side1 ?side2 A13.out).mono ?_); (case side1 => repeat (first | (with_reducible first | exact HI0.out | apply IsS53.alloc | apply IsS53.drewN | apply IsS53.drew | apply IsS53.set_0 | apply IsS53.set_1 | apply IsS53.set_2 | apply IsS53.set_3) | exact HI0.out)); (case side2 => repeat (first | (with_reducible first | exact HB.out | apply bl | apply pN | apply b1 | refine bs ?_ (IsS53.ge HI0.out)) | exact HB.out | exact HBo.out)); rintro e w21 ⟨rfl, hi, hb, hk⟩; replace HO_6 := Am (Kd.R_mono (Kd.R_keep (IsS53.apart (show IsS53 w0 _ g t268 t269 t270 t271 from z0) (by (with_reducible repeat (first | apply Kd.R_alloc | apply Kd.R_drewN | apply Kd.R_drew)); exact HO_6.out) (by decide)) hk (fun _ h => h.2)) (fun _ h => h.1)); replace HK := Am (KeepBut.trans (z1) hk (.inl rfl)); replace HB := Am (hb); replace HI0 := Am (hi); (try clear hb); (try clear hb2); (try clear hk); (try clear hi); obtain ⟨HGz22, hgz22⟩ := HI0.out; have hcz22_0 := cellS53_0 HGz22; have hcz22_1 := cellS53_1 HGz22; have hcz22_2 := cellS53_2 HGz22; have hcz22_3 := cellS53_3 HGz22; have hfz22_0 := bf HGz22 0; have hfz22_1 := bf HGz22 1; have hfz22_2 := bf HGz22 2; have hfz22_3 := bf HGz22 3; clear HGz22 hgz22))
       repeat (go_quiet (first | (go_at_call 46; (with_reducible refine (shuttlecockref02_Reader_Num.calls k1 g x1000_1 x1001_1 x1002_1 x1003_1 t267 t268 t269 t270 t271 w0 _ ?side1 ?side2 A12.out).mono ?_); (case side1 => exact z0); (case side2 => exact z2); rintro e w20 ⟨rfl, hi, hb, hk⟩; replace HO_6 := Am (Kd.R_mono (Kd.R_keep (IsS53.apart (show IsS53 w0 _ g x1000_1 x1001_1 x1002_1 x1003_1 from z0) (by (with_reducible repeat (first | apply Kd.R_alloc | apply Kd.R_drewN | apply Kd.R_drew)); exact HO_6.out) (by decide)) hk (fun _ h => h.2)) (fun _ h => h.1)); replace HK := Am (KeepBut.trans (z1) hk (.inl rfl)); replace HB := Am (hb); replace HI0 := Am (hi); (try clear hb); (try clear hb2); (try clear hk); (try clear hi)) | (go_at_call 46; (with_reducible refine (shuttlecockref02_Reader_Num.calls k1 g t268 t269 t270 t271 t272 t273 t274 t275 t276 w0 _ ?side1 ?side2 A13.out).mono ?_); (case side1 => exact z0); (case side2 => exact z2); rintro e w21 ⟨rfl, hi, hb, hk⟩; replace HO_6 := Am (Kd.R_mono (Kd.R_keep (IsS53.apart (show IsS53 w0 _ g t268 t269 t270 t271 from z0) (by (with_reducible repeat (first | apply Kd.R_alloc | apply Kd.R_drewN | apply Kd.R_drew)); exact HO_6.out) (by decide)) hk (fun _ h => h.2)) (fun _ h => h.1)); replace HK := Am (KeepBut.trans (z1) hk (.inl rfl)); replace HB := Am (hb); replace HI0 := Am (hi); (try clear hb); (try clear hb2); (try clear hk); (try clear hi); obtain ⟨HGz22, hgz22⟩ := HI0.out; have hcz22_0 := cellS53_0 HGz22; have hcz22_1 := cellS53_1 HGz22; have hcz22_2 := cellS53_2 HGz22; have hcz22_3 := cellS53_3 HGz22; have hfz22_0 := bf HGz22 0; have hfz22_1 := bf HGz22 1; have hfz22_2 := bf HGz22 2; have hfz22_3 := bf HGz22 3; clear HGz22 hgz22)); try go_wp2_with (first | (go_at_call 46; (with_reducible refine (shuttlecockref02_Reader_Num.calls k1 g x1000_1 x1001_1 x1002_1 x1003_1 t267 t268 t269 t270 t271 w0 _ ?side1 ?side2 A12.out).mono ?_); (case side1 => exact z0); (case side2 => exact z2); rintro e w20 ⟨rfl, hi, hb, hk⟩; replace HO_6 := Am (Kd.R_mono (Kd.R_keep (IsS53.apart (show IsS53 w0 _ g x1000_1 x1001_1 x1002_1 x1003_1 from z0) (by (with_reducible repeat (first | apply Kd.R_alloc | apply Kd.R_drewN | apply Kd.R_drew)); exact HO_6.out) (by decide)) hk (fun _ h => h.2)) (fun _ h => h.1)); replace HK := Am (KeepBut.trans (z1) hk (.inl rfl)); replace HB := Am (hb); replace HI0 := Am (hi); (try clear hb); (try clear hb2); (try clear hk); (try clear hi)) | (go_at_call 46; (with_reducible refine (shuttlecockref02_Reader_Num.calls k1 g t268 t269 t270 t271 t272 t273 t274 t275 t276 w0 _ ?side1 ?side2 A13.out).mono ?_); (case side1 => exact z0); (case side2 => exact z2); rintro e w21 ⟨rfl, hi, hb, hk⟩; replace HO_6 := Am (Kd.R_mono (Kd.R_keep (IsS53.apart (show IsS53 w0 _ g t268 t269 t270 t271 from z0) (by (with_reducible repeat (first | apply Kd.R_alloc | apply Kd.R_drewN | apply Kd.R_drew)); exact HO_6.out) (by decide)) hk (fun _ h => h.2)) (fun _ h => h.1)); replace HK := Am (KeepBut.trans (z1) hk (.inl rfl)); replace HB := Am (hb); replace HI0 := Am (hi); (try clear hb); (try clear hb2); (try clear hk); (try clear hi); obtain ⟨HGz22, hgz22⟩ := HI0.out; have hcz22_0 := cellS53_0 HGz22; have hcz22_1 := cellS53_1 HGz22; have hcz22_2 := cellS53_2 HGz22; have hcz22_3 := cellS53_3 HGz22; have hfz22_0 := bf HGz22 0; have hfz22_1 := bf HGz22 1; have hfz22_2 := bf HGz22 2; have hfz22_3 := bf HGz22 3; clear HGz22 hgz22)))
       go_ret3
       exact ⟨_, y0, by first | exact Kd.R_nil _ _ _ _ _ | exact Kd.N_nil _ _ _ _ _ | exact Kd.V_nil _ _ _ _ _ | exact Kd.Q_nil _ _ _ _ _ | exact Kd.S_nil _ _ _ _ _, z0, z2, z1⟩
     ·
      rw [if_neg c11] at H
      have c11b0 : decide (x7_1 < t259) = false := decide_eq_false c11
      clear c11
      simp only [Option.some.injEq, Prod.mk.injEq] at H
      obtain ⟨rfl, rfl, rfl, rfl, rfl, rfl, rfl⟩ := H
      go_wp2
      repeat (go_quiet (fail); try go_wp2)
      go_ret3
      exact ⟨_, y0, by (with_reducible repeat (first | apply Kd.R_alloc | apply Kd.R_drewN | apply Kd.R_drew)); exact HO_6.out, z0, z2, z1⟩
 ·
  rw [if_neg c3] at H
  have c3b0 : (t262 == 0) = false := beq_eq_false_iff_ne.mpr c3
  have c3b1 : (t262 != 0) = true := bne_iff_ne.mpr c3
  simp only [Option.some.injEq, Prod.mk.injEq] at H
  obtain ⟨rfl, rfl, rfl, rfl, rfl, rfl, rfl⟩ := H
  go_enter Try.func49, Try.ntmps49
  go_wp2_with (first | (go_at_call 46; (with_reducible refine (shuttlecockref02_Reader_Num.calls k g s0_0 s0_1 s0_2 s0_3 t259 t260 t261 t262 t263 w0 _ ?side1 ?side2 A2.out).mono ?_); (case side1 => exact z0); (case side2 => exact z2); rintro e w23 ⟨rfl, hi, hb, hk⟩; replace HK := Am (KeepBut.trans (z1) hk (.inl rfl)); replace HB := Am (hb); replace HI0 := Am (hi); (try clear hb); (try clear hb2); (try clear hk); (try clear hi); obtain ⟨HGz24, hgz24⟩ := HI0.out; have hcz24_0 := cellS53_0 HGz24; have hcz24_1 := cellS53_1 HGz24; have hcz24_2 := cellS53_2 HGz24; have hcz24_3 := cellS53_3 HGz24; have hfz24_0 := bf HGz24 0; have hfz24_1 := bf HGz24 1; have hfz24_2 := bf HGz24 2; have hfz24_3 := bf HGz24 3; clear HGz24 hgz24))
  repeat (go_quiet (first | (go_at_call 46; (with_reducible refine (shuttlecockref02_Reader_Num.calls k g s0_0 s0_1 s0_2 s0_3 t259 t260 t261 t262 t263 w0 _ ?side1 ?side2 A2.out).mono ?_); (case side1 => exact z0); (case side2 => exact z2); rintro e w23 ⟨rfl, hi, hb, hk⟩; replace HK := Am (KeepBut.trans (z1) hk (.inl rfl)); replace HB := Am (hb); replace HI0 := Am (hi); (try clear hb); (try clear hb2); (try clear hk); (try clear hi); obtain ⟨HGz24, hgz24⟩ := HI0.out; have hcz24_0 := cellS53_0 HGz24; have hcz24_1 := cellS53_1 HGz24; have hcz24_2 := cellS53_2 HGz24; have hcz24_3 := cellS53_3 HGz24; have hfz24_0 := bf HGz24 0; have hfz24_1 := bf HGz24 1; have hfz24_2 := bf HGz24 2; have hfz24_3 := bf HGz24 3; clear HGz24 hgz24)); try go_wp2_with (first | (go_at_call 46; (with_reducible refine (shuttlecockref02_Reader_Num.calls k g s0_0 s0_1 s0_2 s0_3 t259 t260 t261 t262 t263 w0 _ ?side1 ?side2 A2.out).mono ?_); (case side1 => exact z0); (case side2 => exact z2); rintro e w23 ⟨rfl, hi, hb, hk⟩; replace HK := Am (KeepBut.trans (z1) hk (.inl rfl)); replace HB := Am (hb); replace HI0 := Am (hi); (try clear hb); (try clear hb2); (try clear hk); (try clear hi); obtain ⟨HGz24, hgz24⟩ := HI0.out; have hcz24_0 := cellS53_0 HGz24; have hcz24_1 := cellS53_1 HGz24; have hcz24_2 := cellS53_2 HGz24; have hcz24_3 := cellS53_3 HGz24; have hfz24_0 := bf HGz24 0; have hfz24_1 := bf HGz24 1; have hfz24_2 := bf HGz24 2; have hfz24_3 := bf HGz24 3; clear HGz24 hgz24)))
  go_ret3
  exact ⟨_, y0, by first | exact Kd.R_nil _ _ _ _ _ | exact Kd.N_nil _ _ _ _ _ | exact Kd.V_nil _ _ _ _ _ | exact Kd.Q_nil _ _ _ _ _ | exact Kd.S_nil _ _ _ _ _, z0, z2, z1⟩

end Go.Proofs.Ytlmmlmmbnfcogaa.Q
