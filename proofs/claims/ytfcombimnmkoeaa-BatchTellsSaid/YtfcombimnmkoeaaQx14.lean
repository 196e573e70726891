-- printed by a program of this session (NOTES: hprint); not the kit's print
-- minified3
-- minified2
-- minified
-- halved
import Derived.Test.YtfcombimnmkoeaaOg
import Derived.Test.YtfcombimnmkoeaaAl
import Derived.Test.YtfcombimnmkoeaaQx0
import Derived.Test.YtfcombimnmkoeaaQx6
import Derived.Test.YtfcombimnmkoeaaQx8
import Derived.Test.YtfcombimnmkoeaaQx9
import Derived.Test.YtfcombimnmkoeaaQx13
namespace Go.Proofs.Ytfcombimnmkoeaa.Q
open Go.RowKit Go.Proofs.YtfcombimnmkoeaaW.PrintWords Go.Proofs.YtfcombimnmkoeaaW.PrintLast Go.Proofs.YtfcombimnmkoeaaW.PrintMore
attribute [local go_sem] max2_int min2_int max_two min_two max_three min_three max_four min_four   -- for this text's walks alone
set_option linter.unusedVariables false
set_option linter.unusedSimpArgs false

def q14_0 : Array Bool := let o := true; let z := false; #[z,z,z,z,z,z,z,z,z,z,z,z,z,z]
def q14_1 : Array Bool := let o := true; let z := false; #[o,z,z,z,z,z,z,z,z,z,z,z,z,z]
def q14_2 : Array Bool := let o := true; let z := false; #[o,z,o,z,z,z,z,z,z,z,z,z,z,z]
def q14_3 : Array Bool := let o := true; let z := false; #[o,z,o,z,o,z,z,z,z,z,z,z,z,z]
def q14_4 : Array Bool := let o := true; let z := false; #[o,z,o,z,o,z,z,z,z,o,z,z,z,z]
def q14_5 : Array Bool := let o := true; let z := false; #[o,o,o,z,o,z,z,z,z,o,z,z,z,z]
def q14_6 : Array Bool := let o := true; let z := false; #[o,o,o,o,o,z,z,z,z,o,z,z,z,z]
def q14_7 : Array Bool := let o := true; let z := false; #[o,o,o,o,o,o,z,z,z,o,z,z,z,z]
def q14_8 : Array Bool := let o := true; let z := false; #[o,o,o,o,o,o,z,z,z,o,o,z,z,z]
def q14_9 : Array Bool := let o := true; let z := false; #[o,o,o,o,o,o,o,z,z,o,o,z,z,z]
def q14_10 : Array Bool := let o := true; let z := false; #[o,o,o,o,o,o,o,o,z,o,o,z,z,z]
def q14_11 : Array Bool := let o := true; let z := false; #[o,o,o,o,o,o,o,o,o,o,o,z,z,z]
def q14_12 : Array Bool := let o := true; let z := false; #[o,o,o,o,o,o,o,o,o,o,o,o,z,z]
def q14_13 : Array Bool := let o := true; let z := false; #[o,o,o,o,o,o,o,o,o,o,o,o,o,z]
def q14_14 : Array Bool := let o := true; let z := false; #[o,o,o,o,o,o,o,o,o,o,o,o,o,o]
/-! ### shuttlecockref05_Events: function 12 -/
def shuttlecockref05_Events.l0 : Nat → List (S41) → List Int → Int → Int → Int → Int → Int → ByteArray → Option ((List (S41)) × List Int × Int × Int)
 | 0, _, _, _, _, _, _, _, _ => none
 | k + 1, x6, x7, x8, x9, x480000, x480001, x480002, x480003 => if x9 < (x480003.size : Int) then ((shuttlecockref04_Decode.f k x480003 x9).bind fun bt487 => (if bt487.2.2.2.2.2 = 0 then ((shuttlecockref04_Fits.f (wrap64 (x8 + bt487.2.1))).bind fun t496 => (if t496 = true then (if x6.length < 2513169434916 then (if x7.length < 17592186044416 then (shuttlecockref05_Events.l0 k (x6 ++ [(⟨bt487.1, bt487.2.1, bt487.2.2.1, bt487.2.2.2.1⟩ : S41)]) (x7 ++ [wrap64 (x8 + bt487.2.1)]) (wrap64 (x8 + bt487.2.1)) bt487.2.2.2.2.1 x480000 x480001 x480002 x480003) else (none)) else (none)) else (some (([] : List (S41)), ([] : List Int), x9, 11)))) else (some (([] : List (S41)), ([] : List Int), x9, bt487.2.2.2.2.2)))) else (some (x6, x7, 0, 0))
def shuttlecockref05_Events.f (k : Nat) (a0_0 : Int) (a0_1 : Int) (a0_2 : Int) (a0_3 : ByteArray) : Option ((List (S41)) × List Int × Int × Int) := (shuttlecockref05_May.f a0_0 a0_1 a0_2 a0_3).bind fun t480 => (if t480 = true then (shuttlecockref05_Events.l0 k (([] : List (S41))) (([] : List Int)) a0_2 0 a0_0 a0_1 a0_2 a0_3) else (some (([] : List (S41)), ([] : List Int), 0, 50)))
theorem shuttlecockref05_Events.mono_l : ∀ k, (∀ y0 y1 y2 y3 y4 y5 y6 y7, LeO (shuttlecockref05_Events.l0 k y0 y1 y2 y3 y4 y5 y6 y7) (shuttlecockref05_Events.l0 (k + 1) y0 y1 y2 y3 y4 y5 y6 y7))
 | 0 => fun _ _ _ _ _ _ _ _ r h => by simp [shuttlecockref05_Events.l0] at h
 | k + 1 => by
  have ih0 := shuttlecockref05_Events.mono_l k
  ·
   intro y0 y1 y2 y3 y4 y5 y6 y7
   unfold shuttlecockref05_Events.l0
   repeat' first
   | (with_reducible exact ih0 _ _ _ _ _ _ _ _)
   | (with_reducible exact shuttlecockref04_Decode.mono _ _ _)
   | (with_reducible exact LeO.refl _)
   | (with_reducible exact LeO.none _)
   | (with_reducible refine LeO.ite ?_ ?_)
   | (with_reducible refine LeO.bind ?_ (fun _ => ?_))
   | exact LeO.none _
   | refine LeO.ite ?_ ?_
   | refine LeO.bind ?_ (fun _ => ?_)
theorem shuttlecockref05_Events.mono : ∀ a0 a1 a2 a3 k, LeO (shuttlecockref05_Events.f k a0 a1 a2 a3) (shuttlecockref05_Events.f (k + 1) a0 a1 a2 a3) := by
 intro a0 a1 a2 a3 k
 have ih0 := shuttlecockref05_Events.mono_l k
 unfold shuttlecockref05_Events.f
 repeat' first
   | (with_reducible exact ih0 _ _ _ _ _ _ _ _)
   | (with_reducible exact shuttlecockref04_Decode.mono _ _ _)
   | (with_reducible exact LeO.refl _)
   | (with_reducible exact LeO.none _)
   | (with_reducible refine LeO.ite ?_ ?_)
   | (with_reducible refine LeO.bind ?_ (fun _ => ?_))
   | exact LeO.none _
   | refine LeO.ite ?_ ?_
   | refine LeO.bind ?_ (fun _ => ?_)
set_option maxHeartbeats 8000000 in
set_option maxRecDepth 100000 in
theorem shuttlecockref05_Events.calls (k : Nat) (a0_0 : Int) (a0_1 : Int) (a0_2 : Int) (a0_3 : ByteArray) (r1 : List (S41)) (r2 : List Int) (r3 : Int) (r4 : Int) (w : World) (h : shuttlecockref05_Events.f k a0_0 a0_1 a0_2 a0_3 = some (r1, r2, r3, r4)) :
  Calls Try.prog 12 #[.agg #[.int .i64 a0_0, .int .i64 a0_1, .int .i64 a0_2, .string a0_3]] w fun e w' => ∃ v0_ v1_ : Value, e = .returned (.tuple #[v0_, v1_, .int .i64 r3, .int .i64 r4]) ∧ Kd.S k41 41 w' w.heap.size (fun k_ => some k_ ≠ (v1_ : Value).ownBlock) v0_ r1 ∧ Kd.R (Kd.int .i64) 3 w' w.heap.size (fun _ => True) v1_ r2 ∧ Below w.heap.size w w' := by
 have hu23 := Try.underlying23
 have hu41 := Try.underlying41
 have HB := Am (Below.refl w.heap.size w)
 have H : ((shuttlecockref05_May.f a0_0 a0_1 a0_2 a0_3).bind fun t480 => (if t480 = true then (shuttlecockref05_Events.l0 k (([] : List (S41))) (([] : List Int)) a0_2 0 a0_0 a0_1 a0_2 a0_3) else (some (([] : List (S41)), ([] : List Int), 0, 50)))) = some (r1, r2, r3, r4) := h
 clear h
 replace H := ob H
 obtain ⟨t480, A20, H⟩ := H
 (try dsimp only at H)
 have A2 := Am A20
 clear A20
 by_cases c3 : t480 = true
 ·
  subst c3
  rw [if_pos rfl] at H
  obtain ⟨y481, hy481⟩ : ∃ y_ : List (S41), y_ = (([] : List (S41))) := ⟨_, rfl⟩
  replace H : (shuttlecockref05_Events.l0 k y481 (([] : List Int)) a0_2 0 a0_0 a0_1 a0_2 a0_3) = some (r1, r2, r3, r4) := by first | (rw [hy481]; with_reducible exact H) | (have H2_ := (Option.bind_some _ _).symm.trans H; rw [hy481]; with_reducible exact H2_) | (have H2_ := (Option.bind_some _ _).symm.trans H; with_reducible exact H2_) | with_reducible exact H | (rw [hy481]; exact H) | exact H
  have Ny481 := Am hy481
  clear hy481
  obtain ⟨y484, hy484⟩ : ∃ y_ : List Int, y_ = (([] : List Int)) := ⟨_, rfl⟩
  replace H : (shuttlecockref05_Events.l0 k y481 y484 a0_2 0 a0_0 a0_1 a0_2 a0_3) = some (r1, r2, r3, r4) := by first | (rw [hy484]; with_reducible exact H) | (have H2_ := (Option.bind_some _ _).symm.trans H; rw [hy484]; with_reducible exact H2_) | (have H2_ := (Option.bind_some _ _).symm.trans H; with_reducible exact H2_) | with_reducible exact H | (rw [hy484]; exact H) | exact H
  have Ny484 := Am hy484
  clear hy484
  have H' := Am H
  clear H
  go_enter Try.func12, Try.ntmps12
  go_wp2_with (first | ((with_reducible refine gate_dst (N := 1) rfl ?_); refine box_event ?hg (N := 1) ?hd (cs := #[.int .i64 a0_0, .int .i64 a0_1, .int .i64 a0_2, .string a0_3]) (t := 23) ?hr ?_; (case hd => rfl); (case hg => rfl); (case hr => first | (go_simp; done) | (go_simp; rfl)); intro gb479 hg w4 hbox hb; have BK479 := Am (hbox); have GW479 := Am ((by rw [hg]; exact (below_size (by repeat (first | (with_reducible first | exact HB.out | apply bl | apply pN | apply b1) | exact HB.out | exact HBo.out))) : w.heap.size ≤ gb479)); have GE479 := GW479; replace HB := Am (below_step (by repeat (first | (with_reducible first | exact HB.out | apply bl | apply pN | apply b1) | exact HB.out | exact HBo.out)) hb); clear hb hbox hg; have hcz5_0 := Own.bc2 BK479.out 0; have hcz5_1 := Own.bc2 BK479.out 1; have hcz5_2 := Own.bc2 BK479.out 2; have hcz5_3 := Own.bc2 BK479.out 3; have hfz5_0 := bf BK479.out 0; have hfz5_1 := bf BK479.out 1; have hfz5_2 := bf BK479.out 2; have hfz5_3 := bf BK479.out 3) | ((with_reducible refine gate_callee (f := 14) rfl ?_); refine Own.gL_ (some 14) Try.func14 (#[.agg #[.int .i64 a0_0, .int .i64 a0_1, .int .i64 a0_2, .string a0_3]]) (h := ?_); (with_reducible refine (shuttlecockref05_May.calls a0_0 a0_1 a0_2 a0_3 true _ A2.out).mono ?_); rintro e w6 ⟨rfl, hb⟩; refine ⟨_, rfl, ?_⟩; replace BK479 := Am (blk_below (g := gb479) (o := .cells #[.int .i64 a0_0, .int .i64 a0_1, .int .i64 a0_2, .string a0_3] 23 (0, 0)) (by (with_reducible repeat (first|apply bn|apply bd|apply ba)); exact BK479.out) hb); replace HB := Am (below_step (by repeat (first | (with_reducible first | exact HB.out | apply bl | apply pN | apply b1 | refine bs ?_ GE479.out) | exact HB.out | exact HBo.out)) hb); clear hb) | ((with_reducible refine gate_dst (N := 16) rfl ?_); refine Kd.S_lit k41 _ 41 ?hg (N := 16) ?hd (xs := ([] : List (S41))) (inner := []) (ok := fun _ => True) (okp := fun _ => True) ?hr ?hp (fun _ hk => hk) trivial (Below.refl _ _) (Nat.le_refl _) (by simp) ?_; (case hd => rfl); (case hg => rfl); (case hr => first | (go_simp; done) | (go_simp; rfl)); (case hp => exact (Reps.none _ _)); intro v482 w7 ho8 hb hg_ hnew_; clear hg_ hnew_; (first | rw [← Ny481.out] at ho8 | (simp only [Int.reduceToNat] at ho8; rw [← Ny481.out] at ho8)); have HO483 := Am (Kd.S_lower ho8 (below_size (by repeat (first | (with_reducible first | exact HB.out | apply bl | apply pN | apply b1 | refine bs ?_ GE479.out) | exact HB.out | exact HBo.out)))); replace BK479 := Am (blk_below (g := gb479) (o := .cells #[.int .i64 a0_0, .int .i64 a0_1, .int .i64 a0_2, .string a0_3] 23 (0, 0)) (by (with_reducible repeat (first|apply bn|apply bd|apply ba)); exact BK479.out) hb); replace HB := Am (below_step (by repeat (first | (with_reducible first | exact HB.out | apply bl | apply pN | apply b1 | refine bs ?_ GE479.out) | exact HB.out | exact HBo.out)) hb); clear hb ho8) | ((with_reducible refine gate_dst (N := 17) rfl ?_); refine Kd.R_lit (Kd.int .i64) _ 3 ?hg (N := 17) ?hd (xs := ([] : List Int)) (inner := []) (ok := fun _ => True) (okp := fun _ => True) ?hr ?hp (fun _ hk => hk) trivial (Below.refl _ _) (Nat.le_refl _) (by simp) ?_; (case hd => rfl); (case hg => rfl); (case hr => first | (go_simp; done) | (go_simp; rfl)); (case hp => exact (Reps.none _ _)); intro v485 w9 ho10 hb hg_ hnew_; clear hg_ hnew_; (first | rw [← Ny484.out] at ho10 | (simp only [Int.reduceToNat] at ho10; rw [← Ny484.out] at ho10)); have HO486 := Am (Kd.R_lower ho10 (below_size (by repeat (first | (with_reducible first | exact HB.out | apply bl | apply pN | apply b1 | refine bs ?_ GE479.out) | exact HB.out | exact HBo.out)))); replace HO483 := Am (Kd.S_elder' (by (with_reducible repeat (first | apply Kd.S_alloc | apply Kd.S_drewN | apply Kd.S_drew)); exact HO483.out) (Kd.R_base ho10) hb); replace BK479 := Am (blk_below (g := gb479) (o := .cells #[.int .i64 a0_0, .int .i64 a0_1, .int .i64 a0_2, .string a0_3] 23 (0, 0)) (by (with_reducible repeat (first|apply bn|apply bd|apply ba)); exact BK479.out) hb); replace HB := Am (below_step (by repeat (first | (with_reducible first | exact HB.out | apply bl | apply pN | apply b1 | refine bs ?_ GE479.out) | exact HB.out | exact HBo.out)) hb); clear hb ho10; have hcz11_0 := Own.bc2 BK479.out 0; have hcz11_1 := Own.bc2 BK479.out 1; have hcz11_2 := Own.bc2 BK479.out 2; have hcz11_3 := Own.bc2 BK479.out 3; have hfz11_0 := bf BK479.out 0; have hfz11_1 := bf BK479.out 1; have hfz11_2 := bf BK479.out 2; have hfz11_3 := bf BK479.out 3))
  go_loopg [6, 7, 8, 9] k (fun kq v6 v7 v8 v9 w' => ∃ (x6_1 : List (S41)) (x7_1 : List Int) (x8_1 : Int) (x9_1 : Int), v8 = .int .i64 x8_1 ∧ v9 = .int .i64 x9_1 ∧ Aside0 (shuttlecockref05_Events.l0 kq x6_1 x7_1 x8_1 x9_1 a0_0 a0_1 a0_2 a0_3 = some (r1, r2, r3, r4)) ∧ Aside0 (kq ≤ k) ∧ Aside0 (Kd.S k41 41 w' w.heap.size (fun k_ => some k_ ≠ (v7 : Value).ownBlock) v6 x6_1) ∧ Aside0 (Kd.R (Kd.int .i64) 3 w' w.heap.size (fun _ => True) v7 x7_1) ∧ Aside0 (w'.heap[gb479]? = some (.cells #[.int .i64 a0_0, .int .i64 a0_1, .int .i64 a0_2, .string a0_3] 23 (0, 0))) ∧ Aside0 (Below w.heap.size w w'))
  case atStart => exact ⟨(y481), (y484), (a0_2), (0), (by first | rfl | (simp; done) | (simp [*]; done)), (by first | rfl | (simp; done) | (simp [*]; done)), H', ⟨Nat.le_refl _⟩, ⟨by (with_reducible repeat (first | apply Kd.S_alloc | apply Kd.S_drewN | apply Kd.S_drew)); exact Kd.S_mono HO483.out (fun _ hk => hk.2)⟩, ⟨by (with_reducible repeat (first | apply Kd.R_alloc | apply Kd.R_drewN | apply Kd.R_drew)); exact HO486.out⟩, ⟨by (with_reducible repeat (first|apply bn|apply bd|apply ba)); exact BK479.out⟩, ⟨by repeat (first | (with_reducible first | exact HB.out | apply bl | apply pN | apply b1 | refine bs ?_ GE479.out) | exact HB.out | exact HBo.out)⟩⟩
  case round =>
   clear H'
   try clear c1
   try clear p2
   try clear c3
   try clear hcz11_0
   try clear hcz11_1
   try clear hcz11_2
   try clear hcz11_3
   try clear hcz5_0
   try clear hcz5_1
   try clear hcz5_2
   try clear hcz5_3
   try clear hfz11_0
   try clear hfz11_1
   try clear hfz11_2
   try clear hfz11_3
   try clear hfz5_0
   try clear hfz5_1
   try clear hfz5_2
   try clear hfz5_3
   obtain ⟨x6_1, x7_1, x8_1, x9_1, rfl, rfl, HA, HK1, HO_6, HO_7, BK479, HB⟩ := hrel
   cases gk with
   | zero => exact absurd HA.out (by simp [shuttlecockref05_Events.l0])
   | succ k1 =>
    have H := HA.out
    clear HA
    simp only [shuttlecockref05_Events.l0] at H
    by_cases c12 : x9_1 < (a0_3.size : Int)
    ·
     rw [if_pos c12] at H
     have c12b0 : decide (x9_1 < (a0_3.size : Int)) = true := decide_eq_true c12
     clear c12
     replace H := ob H
     obtain ⟨⟨t487, t488, t489, t492, t493, t494⟩, A130, H⟩ := H
     (try dsimp only at H)
     have A13 := Am A130
     clear A130
     by_cases c14 : t494 = 0
     ·
      rw [if_pos c14] at H
      have c14b0 : (t494 == 0) = true := beq_iff_eq.mpr c14
      have c14b1 : (t494 != 0) = false := bne_eq_false_iff_eq.mpr c14
      clear c14
      replace H := ob H
      obtain ⟨t496, A150, H⟩ := H
      (try dsimp only at H)
      have A15 := Am A150
      clear A150
      by_cases c16 : t496 = true
      ·
       subst c16
       rw [if_pos rfl] at H
       by_cases c17 : x6_1.length < 2513169434916
       ·
        rw [if_pos c17] at H
        have LMc17 := Am c17
        clear c17
        obtain ⟨y497, hy497⟩ : ∃ y_ : List (S41), y_ = (x6_1 ++ [(⟨t487, t488, t489, t492⟩ : S41)]) := ⟨_, rfl⟩
        replace H : (if x7_1.length < 17592186044416 then (shuttlecockref05_Events.l0 k1 y497 (x7_1 ++ [wrap64 (x8_1 + t488)]) (wrap64 (x8_1 + t488)) t493 a0_0 a0_1 a0_2 a0_3) else (none)) = some (r1, r2, r3, r4) := by first | (rw [hy497]; with_reducible exact H) | (have H2_ := (Option.bind_some _ _).symm.trans H; rw [hy497]; with_reducible exact H2_) | (have H2_ := (Option.bind_some _ _).symm.trans H; with_reducible exact H2_) | with_reducible exact H | (rw [hy497]; exact H) | exact H
        have Ny497 := Am hy497
        clear hy497
        by_cases c18 : x7_1.length < 17592186044416
        ·
         rw [if_pos c18] at H
         have LMc18 := Am c18
         clear c18
         obtain ⟨y500, hy500⟩ : ∃ y_ : List Int, y_ = (x7_1 ++ [wrap64 (x8_1 + t488)]) := ⟨_, rfl⟩
         replace H : (shuttlecockref05_Events.l0 k1 y497 y500 (wrap64 (x8_1 + t488)) t493 a0_0 a0_1 a0_2 a0_3) = some (r1, r2, r3, r4) := by first | (rw [hy500]; with_reducible exact H) | (have H2_ := (Option.bind_some _ _).symm.trans H; rw [hy500]; with_reducible exact H2_) | (have H2_ := (Option.bind_some _ _).symm.trans H; with_reducible exact H2_) | with_reducible exact H | (rw [hy500]; exact H) | exact H
         have Ny500 := Am hy500
         clear hy500
         have H' := Am H
         clear H
         have hcz19_0 := Own.bc2 BK479.out 0
         have hcz19_1 := Own.bc2 BK479.out 1
         have hcz19_2 := Own.bc2 BK479.out 2
         have hcz19_3 := Own.bc2 BK479.out 3
         have hfz19_0 := bf BK479.out 0
         have hfz19_1 := bf BK479.out 1
         have hfz19_2 := bf BK479.out 2
         have hfz19_3 := bf BK479.out 3
         go_wp2_with (first | ((with_reducible refine gate_callee (f := 31) rfl ?_); refine Own.gL_ (some 29) Try.func31 (#[.string a0_3, .int .i64 x9_1]) (h := ?_); (with_reducible refine (shuttlecockref04_Decode.calls k1 a0_3 x9_1 t487 t488 t489 t492 t493 t494 _ A13.out).mono ?_); rintro e w20 ⟨v490, rfl, ho0, hb⟩; refine ⟨_, rfl, ?_⟩; have HO491 := Am (Kd.R_lower (Kd.R_new' ho0 (Kd.R_lt (by (with_reducible repeat (first | apply Kd.R_alloc | apply Kd.R_drewN | apply Kd.R_drew)); exact HO_7.out))) (below_size (by repeat (first | (with_reducible first | exact HB.out | apply bl | apply pN | apply b1 | refine bs ?_ GE479.out) | exact HB.out | exact HBo.out)))); replace HO_6 := Am (Kd.S_elder' (by (with_reducible repeat (first | apply Kd.S_alloc | apply Kd.S_drewN | apply Kd.S_drew)); exact HO_6.out) (Kd.R_base ho0) hb); replace HO_7 := Am (Kd.R_elder' (by (with_reducible repeat (first | apply Kd.R_alloc | apply Kd.R_drewN | apply Kd.R_drew)); exact HO_7.out) (Kd.R_base ho0) hb); replace BK479 := Am (blk_below (g := gb479) (o := .cells #[.int .i64 a0_0, .int .i64 a0_1, .int .i64 a0_2, .string a0_3] 23 (0, 0)) (by (with_reducible repeat (first|apply bn|apply bd|apply ba)); exact BK479.out) hb); replace HB := Am (below_step (by repeat (first | (with_reducible first | exact HB.out | apply bl | apply pN | apply b1 | refine bs ?_ GE479.out) | exact HB.out | exact HBo.out)) hb); (try clear hb); (try clear hb2); (try clear hk); (try clear hi); (try clear ho0)) | ((with_reducible refine gate_dst (N := 10) rfl ?_); refine box_event ?hg (N := 10) ?hd (cs := #[.int .i64 0, .int .i64 0, .slice none 0 0, .string (⟨#[]⟩ : ByteArray)]) (t := 41) ?hr ?_; (case hd => rfl); (case hg => rfl); (case hr => first | (go_simp; done) | (go_simp; rfl)); intro gb495 hg w21 hbox hb; have BK495 := Am (hbox); have GW495 := Am ((by rw [hg]; exact (below_size (by repeat (first | (with_reducible first | exact HB.out | apply bl | apply pN | apply b1 | refine bs ?_ GE479.out) | exact HB.out | exact HBo.out))) : w.heap.size ≤ gb495)); have GE495 := GW495; have NB479_495 := Am ((by rw [hg]; exact Nat.ne_of_lt (blk_lt (g := gb479) (o := .cells #[.int .i64 a0_0, .int .i64 a0_1, .int .i64 a0_2, .string a0_3] 23 (0, 0)) (by (with_reducible repeat (first|apply bn|apply bd|apply ba)); exact BK479.out)) : gb479 ≠ gb495)); have NB495_479 := Am NB479_495.out.symm; replace HO_6 := Am (Kd.S_below (Kd.S_elderB (by (with_reducible repeat (first | apply Kd.S_alloc | apply Kd.S_drewN | apply Kd.S_drew)); exact HO_6.out) gb495 (Nat.le_of_eq hg.symm)) hb); replace HO_7 := Am (Kd.R_below (by (with_reducible repeat (first | apply Kd.R_alloc | apply Kd.R_drewN | apply Kd.R_drew)); exact HO_7.out) hb); replace HO491 := Am (Kd.R_below (by (with_reducible repeat (first | apply Kd.R_alloc | apply Kd.R_drewN | apply Kd.R_drew)); exact HO491.out) hb); replace BK479 := Am (blk_below (g := gb479) (o := .cells #[.int .i64 a0_0, .int .i64 a0_1, .int .i64 a0_2, .string a0_3] 23 (0, 0)) (by (with_reducible repeat (first|apply bn|apply bd|apply ba)); exact BK479.out) hb); replace HB := Am (below_step (by repeat (first | (with_reducible first | exact HB.out | apply bl | apply pN | apply b1 | refine bs ?_ GE479.out) | exact HB.out | exact HBo.out)) hb); clear hb hbox hg; have hnb22 := NB495_479.out; have hnc22 := NB479_495.out; have hcz23_0 := Own.bc2 BK495.out 0; have hcz23_1 := Own.bc2 BK495.out 1; have hcz23_2 := Own.bc2 BK495.out 2; have hcz23_3 := Own.bc2 BK495.out 3; have hfz23_0 := bf BK495.out 0; have hfz23_1 := bf BK495.out 1; have hfz23_2 := bf BK495.out 2; have hfz23_3 := bf BK495.out 3; obtain ⟨Ao24, co24, eo24⟩ := Kd.R_slice HO491.out; subst eo24) | ((with_reducible refine gate_store (t := 41) (p := 10) rfl ?_); refine store_event (t := 41) (p := 10) (v := ?vo_w25) (w1 := ((((w21.setCell ⟨gb495, 0, none⟩ (.int .i64 t487)).setCell ⟨gb495, 1, none⟩ (.int .i64 t488)).setCell ⟨gb495, 2, none⟩ (.slice Ao24 t489.length co24)).setCell ⟨gb495, 3, none⟩ (.string t492))) ?hg ?ho ?hn ?hr ?_; (case ho => rfl); (case hg => rfl); (case hn => rfl); (case hr => first | (go_simp; done) | (go_simp; rfl)); intro w25 hw; have n0_ : Aside0 (Kd.S k41 41 w25 w.heap.size (fun k_ => some k_ ≠ (u7 : Value).ownBlock ∧ some k_ ≠ (.slice Ao24 t489.length co24 : Value).ownBlock ∧ k_ ≠ gb495) u6 x6_1) := ⟨(by rw [hw]; exact (by (with_reducible repeat (first | apply Kd.S_alloc | apply Kd.S_drewN | apply Kd.S_drew)); exact Kd.S_mono (Kd.S_far (p := ⟨gb495, 3, none⟩) (Kd.S_far (p := ⟨gb495, 2, none⟩) (Kd.S_far (p := ⟨gb495, 1, none⟩) (Kd.S_far (p := ⟨gb495, 0, none⟩) (Kd.S_mono HO_6.out (fun k_ hk => (⟨hk, hk.2⟩ : _ ∧ k_ ≠ gb495))) (fun _ hk => hk.2) (.int .i64 t487)) (fun _ hk => hk.2) (.int .i64 t488)) (fun _ hk => hk.2) (.slice Ao24 t489.length co24)) (fun _ hk => hk.2) (.string t492)) (fun _ hk => ⟨hk.1.1.1, ⟨hk.1.1.2, hk.1.2⟩⟩)))⟩; have n1_ : Aside0 (Kd.R (Kd.int .i64) 3 w25 w.heap.size (fun k_ => some k_ ≠ (.slice Ao24 t489.length co24 : Value).ownBlock) u7 x7_1) := ⟨(by rw [hw]; exact (by (with_reducible repeat (first | apply Kd.R_alloc | apply Kd.R_drewN | apply Kd.R_drew)); exact Kd.R_mono (Kd.R_far (p := ⟨gb495, 3, none⟩) (Kd.R_far (p := ⟨gb495, 2, none⟩) (Kd.R_far (p := ⟨gb495, 1, none⟩) (Kd.R_far (p := ⟨gb495, 0, none⟩) (Kd.R_types HO_7.out BK495.out (by decide)) (fun _ hk => hk.2) (.int .i64 t487)) (fun _ hk => hk.2) (.int .i64 t488)) (fun _ hk => hk.2) (.slice Ao24 t489.length co24)) (fun _ hk => hk.2) (.string t492)) (fun _ hk => hk.1.2)))⟩; have n2_ : Aside0 (Kd.R (Kd.int .i64) 3 w25 w.heap.size (fun k_ => some k_ ≠ (u7 : Value).ownBlock) (.slice Ao24 t489.length co24) t489) := ⟨(by rw [hw]; exact (by (with_reducible repeat (first | apply Kd.R_alloc | apply Kd.R_drewN | apply Kd.R_drew)); exact Kd.R_mono (Kd.R_far (p := ⟨gb495, 3, none⟩) (Kd.R_far (p := ⟨gb495, 2, none⟩) (Kd.R_far (p := ⟨gb495, 1, none⟩) (Kd.R_far (p := ⟨gb495, 0, none⟩) (Kd.R_types HO491.out BK495.out (by decide)) (fun _ hk => hk.2) (.int .i64 t487)) (fun _ hk => hk.2) (.int .i64 t488)) (fun _ hk => hk.2) (.slice Ao24 t489.length co24)) (fun _ hk => hk.2) (.string t492)) (fun _ hk => hk.1.2)))⟩; have n3_ : Aside0 (w25.heap[gb479]? = some (.cells #[.int .i64 a0_0, .int .i64 a0_1, .int .i64 a0_2, .string a0_3] 23 (0, 0))) := ⟨(by rw [hw]; exact (by (with_reducible repeat (first|apply bn|apply bd|apply ba)); refine blk_far ?_ NB479_495.out _; (with_reducible repeat (first|apply bn|apply bd|apply ba)); refine blk_far ?_ NB479_495.out _; (with_reducible repeat (first|apply bn|apply bd|apply ba)); refine blk_far ?_ NB479_495.out _; (with_reducible repeat (first|apply bn|apply bd|apply ba)); refine blk_far ?_ NB479_495.out _; (with_reducible repeat (first|apply bn|apply bd|apply ba)); exact BK479.out))⟩; have n4_ : Aside0 (w25.heap[gb495]? = some (.cells #[.int .i64 t487, .int .i64 t488, .slice Ao24 t489.length co24, .string t492] 41 (0, 0))) := ⟨(by rw [hw]; exact (by (with_reducible repeat (first|apply bn|apply bd|apply ba)); refine blk_put (cs := #[.int .i64 t487, .int .i64 t488, .slice Ao24 t489.length co24, .string (⟨#[]⟩ : ByteArray)]) ?_ 3 _ rfl; (with_reducible repeat (first|apply bn|apply bd|apply ba)); refine blk_put (cs := #[.int .i64 t487, .int .i64 t488, .slice none 0 0, .string (⟨#[]⟩ : ByteArray)]) ?_ 2 _ rfl; (with_reducible repeat (first|apply bn|apply bd|apply ba)); refine blk_put (cs := #[.int .i64 t487, .int .i64 0, .slice none 0 0, .string (⟨#[]⟩ : ByteArray)]) ?_ 1 _ rfl; (with_reducible repeat (first|apply bn|apply bd|apply ba)); refine blk_put (cs := #[.int .i64 0, .int .i64 0, .slice none 0 0, .string (⟨#[]⟩ : ByteArray)]) ?_ 0 _ rfl; (with_reducible repeat (first|apply bn|apply bd|apply ba)); exact BK495.out))⟩; have n5_ : Aside0 (Below w.heap.size w w25) := ⟨(by rw [hw]; exact (by repeat (first | (with_reducible first | exact HB.out | apply bl | apply pN | apply b1 | refine bs ?_ GE479.out | refine bs ?_ GE495.out) | exact HB.out | exact HBo.out)))⟩; clear hw; clear HO_6; clear HO_7; clear HO491; clear BK479; clear BK495; clear HB; have HO_6 := n0_; have HO_7 := n1_; have HO491 := n2_; have BK479 := n3_; have BK495 := n4_; have HB := n5_; clear n0_ n1_ n2_ n3_ n4_ n5_; have hcz26_0 := Own.bc2 BK495.out 0; have hcz26_1 := Own.bc2 BK495.out 1; have hcz26_2 := Own.bc2 BK495.out 2; have hcz26_3 := Own.bc2 BK495.out 3; have hfz26_0 := bf BK495.out 0; have hfz26_1 := bf BK495.out 1; have hfz26_2 := bf BK495.out 2; have hfz26_3 := bf BK495.out 3) | ((with_reducible refine gate_callee (f := 32) rfl ?_); refine Own.gL_ (some 41) Try.func32 (#[.int .i64 (wrap64 (x8_1 + t488))]) (h := ?_); (with_reducible refine (shuttlecockref04_Fits.calls (wrap64 (x8_1 + t488)) true _ A15.out).mono ?_); rintro e w' ⟨rfl, ⟨nd, rfl⟩⟩; refine ⟨_, rfl, ?_⟩) | ((with_reducible refine gate_builtin (b := .append) (xs := #[.tmp 48, .tmp 50]) rfl ?_); at_builtin; refine Kd.S_append k41 (w0 := w) w.heap.size rfl (.tmp 48) (.tmp 50) 28 41 (.agg #[(.int .i64 0), (.int .i64 0), (.slice none 0 0), (.string ⟨#[]⟩)]) 56 rfl Try.underlying28 info41 rfl (by decide) (by omega) u6 x6_1 (⟨t487, t488, t489, t492⟩ : S41) [.int .i64 t487, .int .i64 t488, .slice Ao24 t489.length co24, .string t492] (fun k_ => some k_ ≠ (u7 : Value).ownBlock ∧ k_ ≠ gb495) (fun k_ => some k_ = (.slice Ao24 t489.length co24 : Value).ownBlock) rfl rfl ?aP (fun k_ hk_ => ((Kd.R_mono (ok' := fun k_ => ((fun k_ => some k_ ≠ (u7 : Value).ownBlock ∧ k_ ≠ gb495)) k_ ∧ some k_ ≠ (u6 : Value).ownBlock) (Kd.R_types (Kd.R_apart' (HO491.out) (Kd.S_typed HO_6.out) (by decide)) BK495.out (by decide)) (fun k_ hk => ⟨⟨hk.1.1, hk.2⟩, hk.1.2⟩))).1 k_ hk_.symm) ?aF ?aO ?aB ?aS ?aL ?_; (case aP => exact k41_mkM _ _ _ (⟨t487, t488, t489, t492⟩ : S41) (Kd.R_mono (Kd.R_tight rfl (Kd.R_mono (ok' := fun k_ => ((fun k_ => some k_ ≠ (u7 : Value).ownBlock ∧ k_ ≠ gb495)) k_ ∧ some k_ ≠ (u6 : Value).ownBlock) (Kd.R_types (Kd.R_apart' (HO491.out) (Kd.S_typed HO_6.out) (by decide)) BK495.out (by decide)) (fun k_ hk => ⟨⟨hk.1.1, hk.2⟩, hk.1.2⟩))) (fun _ h_ => h_))); (case aB => exact (by repeat (first | (with_reducible first | exact HB.out | apply bl | apply pN | apply b1 | refine bs ?_ GE479.out | refine bs ?_ GE495.out) | exact HB.out | exact HBo.out))); (case aF => exact (fun k_ hk => ⟨Kd.fresh' (Kd.R_lt (by (with_reducible repeat (first | apply Kd.R_alloc | apply Kd.R_drewN | apply Kd.R_drew)); exact HO_7.out)) k_ hk, Kd.freshB (g := gb495) (o := .cells #[.int .i64 t487, .int .i64 t488, .slice Ao24 t489.length co24, .string t492] 41 (0, 0)) (by (with_reducible repeat (first|apply bn|apply bd|apply ba)); exact BK495.out) k_ hk⟩)); (case aO => exact (by (with_reducible repeat (first | apply Kd.S_alloc | apply Kd.S_drewN | apply Kd.S_drew)); exact Kd.S_mono HO_6.out (fun k_ hk => ⟨⟨hk.1, hk.2.2⟩, fun e_ => hk.2.1 e_⟩))); (case aS => exact (below_size (by repeat (first | (with_reducible first | exact HB.out | apply bl | apply pN | apply b1 | refine bs ?_ GE479.out | refine bs ?_ GE495.out) | exact HB.out | exact HBo.out)))); (case aL => have := LMc17.out; omega); intro v498 w27 ho hb hg hat; rw [← Ny497.out] at ho; have n0_ := Am (Kd.R_over' (by (with_reducible repeat (first | apply Kd.R_alloc | apply Kd.R_drewN | apply Kd.R_drew)); exact HO_7.out) (Kd.S_typed (by (with_reducible repeat (first | apply Kd.S_alloc | apply Kd.S_drewN | apply Kd.S_drew)); exact HO_6.out)) (by decide) hg); have n1_ := Am (blk_grown (g := gb479) (o := .cells #[.int .i64 a0_0, .int .i64 a0_1, .int .i64 a0_2, .string a0_3] 23 (0, 0)) (by (with_reducible repeat (first|apply bn|apply bd|apply ba)); exact BK479.out) hg (Kd.S_ne HO_6.out BK479.out (by decide))); have n2_ := Am (blk_grown (g := gb495) (o := .cells #[.int .i64 t487, .int .i64 t488, .slice Ao24 t489.length co24, .string t492] 41 (0, 0)) (by (with_reducible repeat (first|apply bn|apply bd|apply ba)); exact BK495.out) hg (Kd.S_away HO_6.out (fun _ hk => hk.2.2))); have n3_ := Am (hb); have n4_ := Am (ho); clear HO_7; clear BK479; clear BK495; clear HB; clear HO_6; clear HO491; have HO_7 := n0_; have BK479 := n1_; have BK495 := n2_; have HB := n3_; have HO499 := n4_; clear n0_ n1_ n2_ n3_ n4_; clear ho hb hg hat) | ((with_reducible refine gate_builtin (b := .append) (xs := #[.tmp 52, .tmp 54]) rfl ?_); at_builtin; refine Kd.R_append (Kd.int .i64) (w0 := w) w.heap.size rfl (.tmp 52) (.tmp 54) 29 3 (.int .i64 0) 8 rfl Try.underlying29 info3 rfl (by decide) (by omega) u7 x7_1 (wrap64 (x8_1 + t488)) [.int .i64 (wrap64 (x8_1 + t488))] (fun _ => True) (fun _ => False) rfl rfl ?aP (fun _ hk => hk.elim) ?aF ?aO ?aB ?aS ?aL ?_; (case aP => exact rfl); (case aB => exact (by repeat (first | (with_reducible first | exact HB.out | apply bl | apply pN | apply b1 | refine bs ?_ GE479.out | refine bs ?_ GE495.out) | exact HB.out | exact HBo.out))); (case aF => exact (fun _ _ => trivial)); (case aO => exact (by (with_reducible repeat (first | apply Kd.R_alloc | apply Kd.R_drewN | apply Kd.R_drew)); exact Kd.R_mono HO_7.out (fun _ hk => trivial))); (case aS => exact (below_size (by repeat (first | (with_reducible first | exact HB.out | apply bl | apply pN | apply b1 | refine bs ?_ GE479.out | refine bs ?_ GE495.out) | exact HB.out | exact HBo.out)))); (case aL => have := LMc18.out; omega); intro v501 w28 ho hb hg hat; rw [← Ny500.out] at ho; have n0_ := Am (blk_grown (g := gb479) (o := .cells #[.int .i64 a0_0, .int .i64 a0_1, .int .i64 a0_2, .string a0_3] 23 (0, 0)) (by (with_reducible repeat (first|apply bn|apply bd|apply ba)); exact BK479.out) hg (Kd.R_ne HO_7.out BK479.out (by decide))); have n1_ := Am (blk_grown (g := gb495) (o := .cells #[.int .i64 t487, .int .i64 t488, .slice Ao24 t489.length co24, .string t492] 41 (0, 0)) (by (with_reducible repeat (first|apply bn|apply bd|apply ba)); exact BK495.out) hg (Kd.R_ne HO_7.out BK495.out (by decide))); have n2_ := Am (Kd.S_after (ok := (fun k_ => k_ ≠ gb495)) (by (with_reducible repeat (first | apply Kd.S_alloc | apply Kd.S_drewN | apply Kd.S_drew)); exact Kd.S_mono HO499.out (fun _ hk => ⟨hk.2, hk.1⟩)) hg hat); have n3_ := Am (hb); have n4_ := Am (ho); clear BK479; clear BK495; clear HO499; clear HB; clear HO_7; have BK479 := n0_; have BK495 := n1_; have HO499 := n2_; have HB := n3_; have HO502 := n4_; clear n0_ n1_ n2_ n3_ n4_; clear ho hb hg hat))
         go_roundg k1
         case measure => have := HK1.out; omega
         case rel => exact ⟨(y497), (y500), (wrap64 (x8_1 + t488)), (t493), (by first | rfl | (simp; done) | (simp [*]; done)), (by first | rfl | (simp; done) | (simp [*]; done)), H', ⟨by have := HK1.out; omega⟩, ⟨by (with_reducible repeat (first | apply Kd.S_alloc | apply Kd.S_drewN | apply Kd.S_drew)); exact Kd.S_mono HO499.out (fun _ hk => hk.2)⟩, ⟨by (with_reducible repeat (first | apply Kd.R_alloc | apply Kd.R_drewN | apply Kd.R_drew)); exact HO502.out⟩, ⟨by (with_reducible repeat (first|apply bn|apply bd|apply ba)); exact BK479.out⟩, ⟨by repeat (first | (with_reducible first | exact HB.out | apply bl | apply pN | apply b1 | refine bs ?_ GE479.out | refine bs ?_ GE495.out) | exact HB.out | exact HBo.out)⟩⟩
        ·
         rw [if_neg c18] at H
         exact absurd H (by simp)
       ·
        rw [if_neg c17] at H
        exact absurd H (by simp)
      ·
       replace c16 := Bool.eq_false_iff.mpr c16
       subst c16
       rw [if_neg (show ¬ (false = true) by decide)] at H
       simp only [Option.some.injEq, Prod.mk.injEq] at H
       obtain ⟨rfl, rfl, rfl, rfl⟩ := H
       have hcz29_0 := Own.bc2 BK479.out 0
       have hcz29_1 := Own.bc2 BK479.out 1
       have hcz29_2 := Own.bc2 BK479.out 2
       have hcz29_3 := Own.bc2 BK479.out 3
       have hfz29_0 := bf BK479.out 0
       have hfz29_1 := bf BK479.out 1
       have hfz29_2 := bf BK479.out 2
       have hfz29_3 := bf BK479.out 3
       go_wp2_with (first | ((with_reducible refine gate_callee (f := 31) rfl ?_); refine Own.gL_ (some 29) Try.func31 (#[.string a0_3, .int .i64 x9_1]) (h := ?_); (with_reducible refine (shuttlecockref04_Decode.calls k1 a0_3 x9_1 t487 t488 t489 t492 t493 t494 _ A13.out).mono ?_); rintro e w30 ⟨v490, rfl, ho0, hb⟩; refine ⟨_, rfl, ?_⟩; have HO491 := Am (Kd.R_lower (Kd.R_new' ho0 (Kd.R_lt (by (with_reducible repeat (first | apply Kd.R_alloc | apply Kd.R_drewN | apply Kd.R_drew)); exact HO_7.out))) (below_size (by repeat (first | (with_reducible first | exact HB.out | apply bl | apply pN | apply b1 | refine bs ?_ GE479.out) | exact HB.out | exact HBo.out)))); replace HO_6 := Am (Kd.S_elder' (by (with_reducible repeat (first | apply Kd.S_alloc | apply Kd.S_drewN | apply Kd.S_drew)); exact HO_6.out) (Kd.R_base ho0) hb); replace HO_7 := Am (Kd.R_elder' (by (with_reducible repeat (first | apply Kd.R_alloc | apply Kd.R_drewN | apply Kd.R_drew)); exact HO_7.out) (Kd.R_base ho0) hb); replace BK479 := Am (blk_below (g := gb479) (o := .cells #[.int .i64 a0_0, .int .i64 a0_1, .int .i64 a0_2, .string a0_3] 23 (0, 0)) (by (with_reducible repeat (first|apply bn|apply bd|apply ba)); exact BK479.out) hb); replace HB := Am (below_step (by repeat (first | (with_reducible first | exact HB.out | apply bl | apply pN | apply b1 | refine bs ?_ GE479.out) | exact HB.out | exact HBo.out)) hb); (try clear hb); (try clear hb2); (try clear hk); (try clear hi); (try clear ho0)) | ((with_reducible refine gate_dst (N := 10) rfl ?_); refine box_event ?hg (N := 10) ?hd (cs := #[.int .i64 0, .int .i64 0, .slice none 0 0, .string (⟨#[]⟩ : ByteArray)]) (t := 41) ?hr ?_; (case hd => rfl); (case hg => rfl); (case hr => first | (go_simp; done) | (go_simp; rfl)); intro gb495 hg w31 hbox hb; have BK495 := Am (hbox); have GW495 := Am ((by rw [hg]; exact (below_size (by repeat (first | (with_reducible first | exact HB.out | apply bl | apply pN | apply b1 | refine bs ?_ GE479.out) | exact HB.out | exact HBo.out))) : w.heap.size ≤ gb495)); have GE495 := GW495; have NB479_495 := Am ((by rw [hg]; exact Nat.ne_of_lt (blk_lt (g := gb479) (o := .cells #[.int .i64 a0_0, .int .i64 a0_1, .int .i64 a0_2, .string a0_3] 23 (0, 0)) (by (with_reducible repeat (first|apply bn|apply bd|apply ba)); exact BK479.out)) : gb479 ≠ gb495)); have NB495_479 := Am NB479_495.out.symm; replace HO_6 := Am (Kd.S_below (Kd.S_elderB (by (with_reducible repeat (first | apply Kd.S_alloc | apply Kd.S_drewN | apply Kd.S_drew)); exact HO_6.out) gb495 (Nat.le_of_eq hg.symm)) hb); replace HO_7 := Am (Kd.R_below (by (with_reducible repeat (first | apply Kd.R_alloc | apply Kd.R_drewN | apply Kd.R_drew)); exact HO_7.out) hb); replace HO491 := Am (Kd.R_below (by (with_reducible repeat (first | apply Kd.R_alloc | apply Kd.R_drewN | apply Kd.R_drew)); exact HO491.out) hb); replace BK479 := Am (blk_below (g := gb479) (o := .cells #[.int .i64 a0_0, .int .i64 a0_1, .int .i64 a0_2, .string a0_3] 23 (0, 0)) (by (with_reducible repeat (first|apply bn|apply bd|apply ba)); exact BK479.out) hb); replace HB := Am (below_step (by repeat (first | (with_reducible first | exact HB.out | apply bl | apply pN | apply b1 | refine bs ?_ GE479.out) | exact HB.out | exact HBo.out)) hb); clear hb hbox hg; have hnb32 := NB495_479.out; have hnc32 := NB479_495.out; have hcz33_0 := Own.bc2 BK495.out 0; have hcz33_1 := Own.bc2 BK495.out 1; have hcz33_2 := Own.bc2 BK495.out 2; have hcz33_3 := Own.bc2 BK495.out 3; have hfz33_0 := bf BK495.out 0; have hfz33_1 := bf BK495.out 1; have hfz33_2 := bf BK495.out 2; have hfz33_3 := bf BK495.out 3; obtain ⟨Ao34, co34, eo34⟩ := Kd.R_slice HO491.out; subst eo34) | ((with_reducible refine gate_callee (f := 32) rfl ?_); refine Own.gL_ (some 41) Try.func32 (#[.int .i64 (wrap64 (x8_1 + t488))]) (h := ?_); (with_reducible refine (shuttlecockref04_Fits.calls (wrap64 (x8_1 + t488)) false _ A15.out).mono ?_); rintro e w' ⟨rfl, ⟨nd, rfl⟩⟩; refine ⟨_, rfl, ?_⟩))
       refine bodyPost_ret (results_list (rs := [.tmp 2, .tmp 3, .tmp 4, .tmp 5]) rfl (by simp) (.tmp (.tmp (.tmp (.tmp .nil))))) rfl ?_
       exact ⟨_, _, by first | rfl | (simp <;> rfl) | (simp [*] <;> rfl) | (simp [Aid.ne_nil, Aid.eq_nil]; done), by first | exact Kd.S_nil _ _ _ _ _ | exact Kd.N_nil _ _ _ _ _ | exact Kd.V_nil _ _ _ _ _ | exact Kd.Q_nil _ _ _ _ _ | exact Kd.R_nil _ _ _ _ _, by first | exact Kd.R_nil _ _ _ _ _ | exact Kd.N_nil _ _ _ _ _ | exact Kd.V_nil _ _ _ _ _ | exact Kd.Q_nil _ _ _ _ _ | exact Kd.S_nil _ _ _ _ _, by repeat (first | (with_reducible first | exact HB.out | apply bl | apply pN | apply b1 | refine bs ?_ GE479.out | refine bs ?_ GE495.out) | exact HB.out | exact HBo.out)⟩
     ·
      rw [if_neg c14] at H
      have c14b0 : (t494 == 0) = false := beq_eq_false_iff_ne.mpr c14
      have c14b1 : (t494 != 0) = true := bne_iff_ne.mpr c14
      simp only [Option.some.injEq, Prod.mk.injEq] at H
      obtain ⟨rfl, rfl, rfl, rfl⟩ := H
      have hcz35_0 := Own.bc2 BK479.out 0
      have hcz35_1 := Own.bc2 BK479.out 1
      have hcz35_2 := Own.bc2 BK479.out 2
      have hcz35_3 := Own.bc2 BK479.out 3
      have hfz35_0 := bf BK479.out 0
      have hfz35_1 := bf BK479.out 1
      have hfz35_2 := bf BK479.out 2
      have hfz35_3 := bf BK479.out 3
      go_wp2_with (first | ((with_reducible refine gate_callee (f := 31) rfl ?_); refine Own.gL_ (some 29) Try.func31 (#[.string a0_3, .int .i64 x9_1]) (h := ?_); (with_reducible refine (shuttlecockref04_Decode.calls k1 a0_3 x9_1 t487 t488 t489 t492 t493 t494 _ A13.out).mono ?_); rintro e w36 ⟨v490, rfl, ho0, hb⟩; refine ⟨_, rfl, ?_⟩; have HO491 := Am (Kd.R_lower (Kd.R_new' ho0 (Kd.R_lt (by (with_reducible repeat (first | apply Kd.R_alloc | apply Kd.R_drewN | apply Kd.R_drew)); exact HO_7.out))) (below_size (by repeat (first | (with_reducible first | exact HB.out | apply bl | apply pN | apply b1 | refine bs ?_ GE479.out) | exact HB.out | exact HBo.out)))); replace HO_6 := Am (Kd.S_elder' (by (with_reducible repeat (first | apply Kd.S_alloc | apply Kd.S_drewN | apply Kd.S_drew)); exact HO_6.out) (Kd.R_base ho0) hb); replace HO_7 := Am (Kd.R_elder' (by (with_reducible repeat (first | apply Kd.R_alloc | apply Kd.R_drewN | apply Kd.R_drew)); exact HO_7.out) (Kd.R_base ho0) hb); replace BK479 := Am (blk_below (g := gb479) (o := .cells #[.int .i64 a0_0, .int .i64 a0_1, .int .i64 a0_2, .string a0_3] 23 (0, 0)) (by (with_reducible repeat (first|apply bn|apply bd|apply ba)); exact BK479.out) hb); replace HB := Am (below_step (by repeat (first | (with_reducible first | exact HB.out | apply bl | apply pN | apply b1 | refine bs ?_ GE479.out) | exact HB.out | exact HBo.out)) hb); (try clear hb); (try clear hb2); (try clear hk); (try clear hi); (try clear ho0)) | ((with_reducible refine gate_dst (N := 10) rfl ?_); refine box_event ?hg (N := 10) ?hd (cs := #[.int .i64 0, .int .i64 0, .slice none 0 0, .string (⟨#[]⟩ : ByteArray)]) (t := 41) ?hr ?_; (case hd => rfl); (case hg => rfl); (case hr => first | (go_simp; done) | (go_simp; rfl)); intro gb495 hg w37 hbox hb; have BK495 := Am (hbox); have GW495 := Am ((by rw [hg]; exact (below_size (by repeat (first | (with_reducible first | exact HB.out | apply bl | apply pN | apply b1 | refine bs ?_ GE479.out) | exact HB.out | exact HBo.out))) : w.heap.size ≤ gb495)); have GE495 := GW495; have NB479_495 := Am ((by rw [hg]; exact Nat.ne_of_lt (blk_lt (g := gb479) (o := .cells #[.int .i64 a0_0, .int .i64 a0_1, .int .i64 a0_2, .string a0_3] 23 (0, 0)) (by (with_reducible repeat (first|apply bn|apply bd|apply ba)); exact BK479.out)) : gb479 ≠ gb495)); have NB495_479 := Am NB479_495.out.symm; replace HO_6 := Am (Kd.S_below (Kd.S_elderB (by (with_reducible repeat (first | apply Kd.S_alloc | apply Kd.S_drewN | apply Kd.S_drew)); exact HO_6.out) gb495 (Nat.le_of_eq hg.symm)) hb); replace HO_7 := Am (Kd.R_below (by (with_reducible repeat (first | apply Kd.R_alloc | apply Kd.R_drewN | apply Kd.R_drew)); exact HO_7.out) hb); replace HO491 := Am (Kd.R_below (by (with_reducible repeat (first | apply Kd.R_alloc | apply Kd.R_drewN | apply Kd.R_drew)); exact HO491.out) hb); replace BK479 := Am (blk_below (g := gb479) (o := .cells #[.int .i64 a0_0, .int .i64 a0_1, .int .i64 a0_2, .string a0_3] 23 (0, 0)) (by (with_reducible repeat (first|apply bn|apply bd|apply ba)); exact BK479.out) hb); replace HB := Am (below_step (by repeat (first | (with_reducible first | exact HB.out | apply bl | apply pN | apply b1 | refine bs ?_ GE479.out) | exact HB.out | exact HBo.out)) hb); clear hb hbox hg; have hnb38 := NB495_479.out; have hnc38 := NB479_495.out; have hcz39_0 := Own.bc2 BK495.out 0; have hcz39_1 := Own.bc2 BK495.out 1; have hcz39_2 := Own.bc2 BK495.out 2; have hcz39_3 := Own.bc2 BK495.out 3; have hfz39_0 := bf BK495.out 0; have hfz39_1 := bf BK495.out 1; have hfz39_2 := bf BK495.out 2; have hfz39_3 := bf BK495.out 3; obtain ⟨Ao40, co40, eo40⟩ := Kd.R_slice HO491.out; subst eo40))
      refine bodyPost_ret (results_list (rs := [.tmp 2, .tmp 3, .tmp 4, .tmp 5]) rfl (by simp) (.tmp (.tmp (.tmp (.tmp .nil))))) rfl ?_
      exact ⟨_, _, by first | rfl | (simp <;> rfl) | (simp [*] <;> rfl) | (simp [Aid.ne_nil, Aid.eq_nil]; done), by first | exact Kd.S_nil _ _ _ _ _ | exact Kd.N_nil _ _ _ _ _ | exact Kd.V_nil _ _ _ _ _ | exact Kd.Q_nil _ _ _ _ _ | exact Kd.R_nil _ _ _ _ _, by first | exact Kd.R_nil _ _ _ _ _ | exact Kd.N_nil _ _ _ _ _ | exact Kd.V_nil _ _ _ _ _ | exact Kd.Q_nil _ _ _ _ _ | exact Kd.S_nil _ _ _ _ _, by repeat (first | (with_reducible first | exact HB.out | apply bl | apply pN | apply b1 | refine bs ?_ GE479.out | refine bs ?_ GE495.out) | exact HB.out | exact HBo.out)⟩
    ·
     rw [if_neg c12] at H
     have c12b0 : decide (x9_1 < (a0_3.size : Int)) = false := decide_eq_false c12
     clear c12
     simp only [Option.some.injEq, Prod.mk.injEq] at H
     obtain ⟨rfl, rfl, rfl, rfl⟩ := H
     have hcz41_0 := Own.bc2 BK479.out 0
     have hcz41_1 := Own.bc2 BK479.out 1
     have hcz41_2 := Own.bc2 BK479.out 2
     have hcz41_3 := Own.bc2 BK479.out 3
     have hfz41_0 := bf BK479.out 0
     have hfz41_1 := bf BK479.out 1
     have hfz41_2 := bf BK479.out 2
     have hfz41_3 := bf BK479.out 3
     go_wp2
     refine bodyPost_ret (results_list (rs := [.tmp 2, .tmp 3, .tmp 4, .tmp 5]) rfl (by simp) (.tmp (.tmp (.tmp (.tmp .nil))))) rfl ?_
     exact ⟨_, _, by first | rfl | (simp <;> rfl) | (simp [*] <;> rfl) | (simp [Aid.ne_nil, Aid.eq_nil]; done), by (with_reducible repeat (first | apply Kd.S_alloc | apply Kd.S_drewN | apply Kd.S_drew)); exact HO_6.out, by (with_reducible repeat (first | apply Kd.R_alloc | apply Kd.R_drewN | apply Kd.R_drew)); exact HO_7.out, by repeat (first | (with_reducible first | exact HB.out | apply bl | apply pN | apply b1 | refine bs ?_ GE479.out) | exact HB.out | exact HBo.out)⟩
 ·
  replace c3 := Bool.eq_false_iff.mpr c3
  subst c3
  rw [if_neg (show ¬ (false = true) by decide)] at H
  simp only [Option.some.injEq, Prod.mk.injEq] at H
  obtain ⟨rfl, rfl, rfl, rfl⟩ := H
  go_enter Try.func12, Try.ntmps12
  go_wp2_with (first | ((with_reducible refine gate_dst (N := 1) rfl ?_); refine box_event ?hg (N := 1) ?hd (cs := #[.int .i64 a0_0, .int .i64 a0_1, .int .i64 a0_2, .string a0_3]) (t := 23) ?hr ?_; (case hd => rfl); (case hg => rfl); (case hr => first | (go_simp; done) | (go_simp; rfl)); intro gb479 hg w42 hbox hb; have BK479 := Am (hbox); have GW479 := Am ((by rw [hg]; exact (below_size (by repeat (first | (with_reducible first | exact HB.out | apply bl | apply pN | apply b1) | exact HB.out | exact HBo.out))) : w.heap.size ≤ gb479)); have GE479 := GW479; replace HB := Am (below_step (by repeat (first | (with_reducible first | exact HB.out | apply bl | apply pN | apply b1) | exact HB.out | exact HBo.out)) hb); clear hb hbox hg; have hcz43_0 := Own.bc2 BK479.out 0; have hcz43_1 := Own.bc2 BK479.out 1; have hcz43_2 := Own.bc2 BK479.out 2; have hcz43_3 := Own.bc2 BK479.out 3; have hfz43_0 := bf BK479.out 0; have hfz43_1 := bf BK479.out 1; have hfz43_2 := bf BK479.out 2; have hfz43_3 := bf BK479.out 3) | ((with_reducible refine gate_callee (f := 14) rfl ?_); refine Own.gL_ (some 14) Try.func14 (#[.agg #[.int .i64 a0_0, .int .i64 a0_1, .int .i64 a0_2, .string a0_3]]) (h := ?_); (with_reducible refine (shuttlecockref05_May.calls a0_0 a0_1 a0_2 a0_3 false _ A2.out).mono ?_); rintro e w44 ⟨rfl, hb⟩; refine ⟨_, rfl, ?_⟩; replace BK479 := Am (blk_below (g := gb479) (o := .cells #[.int .i64 a0_0, .int .i64 a0_1, .int .i64 a0_2, .string a0_3] 23 (0, 0)) (by (with_reducible repeat (first|apply bn|apply bd|apply ba)); exact BK479.out) hb); replace HB := Am (below_step (by repeat (first | (with_reducible first | exact HB.out | apply bl | apply pN | apply b1 | refine bs ?_ GE479.out) | exact HB.out | exact HBo.out)) hb); clear hb))
  refine bodyPost_ret (results_list (rs := [.tmp 2, .tmp 3, .tmp 4, .tmp 5]) rfl (by simp) (.tmp (.tmp (.tmp (.tmp .nil))))) rfl ?_
  exact ⟨_, _, by first | rfl | (simp <;> rfl) | (simp [*] <;> rfl) | (simp [Aid.ne_nil, Aid.eq_nil]; done), by first | exact Kd.S_nil _ _ _ _ _ | exact Kd.N_nil _ _ _ _ _ | exact Kd.V_nil _ _ _ _ _ | exact Kd.Q_nil _ _ _ _ _ | exact Kd.R_nil _ _ _ _ _, by first | exact Kd.R_nil _ _ _ _ _ | exact Kd.N_nil _ _ _ _ _ | exact Kd.V_nil _ _ _ _ _ | exact Kd.Q_nil _ _ _ _ _ | exact Kd.S_nil _ _ _ _ _, by repeat (first | (with_reducible first | exact HB.out | apply bl | apply pN | apply b1 | refine bs ?_ GE479.out) | exact HB.out | exact HBo.out)⟩

/-! ### shuttlecockref05_Encode: function 16 -/
def shuttlecockref05_Encode.f (k : Nat) (a0_0 : Int) (a0_1 : Int) (a0_2 : Int) (a0_3 : ByteArray) : Option (ByteArray) := (shuttlecockref05_May.f a0_0 a0_1 a0_2 a0_3).bind fun t504 => (if t504 = true then ((shuttlecockref02_Nums.f k (([a0_0, a0_1, a0_2] : List Int))).bind fun t508 => (if 1 + t508.size ≤ 9223372036854775807 then ((shuttlecockref02_Text.f k a0_3).bind fun t509 => (if ((⟨#[66]⟩ : ByteArray) ++ t508).size + t509.size ≤ 9223372036854775807 then (some (((⟨#[66]⟩ : ByteArray) ++ t508) ++ t509)) else (none))) else (none))) else (some (⟨#[]⟩ : ByteArray)))
theorem shuttlecockref05_Encode.mono : ∀ a0 a1 a2 a3 k, LeO (shuttlecockref05_Encode.f k a0 a1 a2 a3) (shuttlecockref05_Encode.f (k + 1) a0 a1 a2 a3) := by
 intro a0 a1 a2 a3 k
 unfold shuttlecockref05_Encode.f
 repeat' first
   | (with_reducible exact shuttlecockref02_Nums.mono _ _)
   | (with_reducible exact shuttlecockref02_Text.mono _ _)
   | (with_reducible exact LeO.refl _)
   | (with_reducible exact LeO.none _)
   | (with_reducible refine LeO.ite ?_ ?_)
   | (with_reducible refine LeO.bind ?_ (fun _ => ?_))
   | exact LeO.none _
   | refine LeO.ite ?_ ?_
   | refine LeO.bind ?_ (fun _ => ?_)
def shuttlecockref05_Encode.T3 : Bool × List (List Nat × List Nat) := (true, [([], []), ([0], [0]), ([], []), ([2], [2]), ([], []), ([4], [4]), ([1, 3, 5], [1, 3, 5]), ([6], [6]), ([7], [7]), ([], []), ([9], [9]), ([10, 7], [10]), ([8, 11], [8, 11]), ([12, 11, 0, 1, 2, 3, 4, 5, 6, 7, 8, 9, 10, 11, 12], [12])])
def shuttlecockref05_Encode.B3 : List Nat := [0, 1, 0, 4, 0, 16, 63, 127, 255, 0, 512, 1791, 4095, 8191]
theorem shuttlecockref05_Encode.tab3 : rtab .any (opsOf Try.f16 3) = shuttlecockref05_Encode.T3 := by kernel_rfl
theorem shuttlecockref05_Encode.bits3 : waitsOk shuttlecockref05_Encode.T3.2 shuttlecockref05_Encode.B3 = true := by kernel_rfl
set_option maxHeartbeats 8000000 in
set_option maxRecDepth 100000 in
theorem shuttlecockref05_Encode.calls (k : Nat) (a0_0 : Int) (a0_1 : Int) (a0_2 : Int) (a0_3 : ByteArray) (r : ByteArray) (w : World) (h : shuttlecockref05_Encode.f k a0_0 a0_1 a0_2 a0_3 = some r) :
  Calls Try.prog 16 #[.agg #[.int .i64 a0_0, .int .i64 a0_1, .int .i64 a0_2, .string a0_3]] w fun e w' => e = .returned (.string r) ∧ Below w.heap.size w w' := by
 have hu23 := Try.underlying23
 have HB := Am (Below.refl w.heap.size w)
 have H : ((shuttlecockref05_May.f a0_0 a0_1 a0_2 a0_3).bind fun t504 => (if t504 = true then ((shuttlecockref02_Nums.f k (([a0_0, a0_1, a0_2] : List Int))).bind fun t508 => (if 1 + t508.size ≤ 9223372036854775807 then ((shuttlecockref02_Text.f k a0_3).bind fun t509 => (if ((⟨#[66]⟩ : ByteArray) ++ t508).size + t509.size ≤ 9223372036854775807 then (some (((⟨#[66]⟩ : ByteArray) ++ t508) ++ t509)) else (none))) else (none))) else (some (⟨#[]⟩ : ByteArray)))) = some r := h
 clear h
 replace H := ob H
 obtain ⟨t504, A20, H⟩ := H
 (try dsimp only at H)
 have A2 := Am A20
 clear A20
 by_cases c3 : t504 = true
 ·
  subst c3
  rw [if_pos rfl] at H
  obtain ⟨y505, hy505⟩ : ∃ y_ : List Int, y_ = (([a0_0, a0_1, a0_2] : List Int)) := ⟨_, rfl⟩
  replace H : ((shuttlecockref02_Nums.f k y505).bind fun t508 => (if 1 + t508.size ≤ 9223372036854775807 then ((shuttlecockref02_Text.f k a0_3).bind fun t509 => (if ((⟨#[66]⟩ : ByteArray) ++ t508).size + t509.size ≤ 9223372036854775807 then (some (((⟨#[66]⟩ : ByteArray) ++ t508) ++ t509)) else (none))) else (none))) = some r := by first | (rw [hy505]; with_reducible exact H) | (have H2_ := (Option.bind_some _ _).symm.trans H; rw [hy505]; with_reducible exact H2_) | (have H2_ := (Option.bind_some _ _).symm.trans H; with_reducible exact H2_) | with_reducible exact H | (rw [hy505]; exact H) | exact H
  have Ny505 := Am hy505
  clear hy505
  replace H := ob H
  obtain ⟨t508, A40, H⟩ := H
  (try dsimp only at H)
  have A4 := Am A40
  clear A40
  by_cases c5 : 1 + t508.size ≤ 9223372036854775807
  ·
   rw [if_pos c5] at H
   have c5b0 := eq_true c5
   have c5b1 : decide (1 + t508.size ≤ 9223372036854775807) = true := decide_eq_true c5
   try have c5b2 : (9223372036854775807 < 1 + t508.size) = False := eq_false (Nat.not_lt.2 c5)
   replace H := ob H
   obtain ⟨t509, A60, H⟩ := H
   (try dsimp only at H)
   have A6 := Am A60
   clear A60
   by_cases c7 : ((⟨#[66]⟩ : ByteArray) ++ t508).size + t509.size ≤ 9223372036854775807
   ·
    rw [if_pos c7] at H
    have c7b0 := eq_true c7
    have c7b1 : decide (((⟨#[66]⟩ : ByteArray) ++ t508).size + t509.size ≤ 9223372036854775807) = true := decide_eq_true c7
    try have c7b2 : (9223372036854775807 < ((⟨#[66]⟩ : ByteArray) ++ t508).size + t509.size) = False := eq_false (Nat.not_lt.2 c7)
    try (have c7b3 := c7b2; simp only [ByteArray.size_append] at c7b3)
    try (have c7b4 := c7b1; simp only [ByteArray.size_append] at c7b4)
    try (have c7b5 := c7b2; simp only [ByteArray.size_append, show (⟨#[66]⟩ : ByteArray).size = 1 from rfl] at c7b5)
    obtain rfl := Option.some.inj H
    go_enter Try.func16, Try.ntmps16
    try go_wp2_with (first | ((with_reducible refine gate_dst (N := 1) rfl ?_); refine box_event ?hg (N := 1) ?hd (cs := #[.int .i64 a0_0, .int .i64 a0_1, .int .i64 a0_2, .string a0_3]) (t := 23) ?hr ?_; (case hd => rfl); (case hg => rfl); (case hr => first | (go_simp; done) | (go_simp; rfl)); intro gb503 hg w8 hbox hb; have BK503 := Am (hbox); have GW503 := Am ((by rw [hg]; exact (below_size (by repeat (first | (with_reducible first | exact HB.out | apply bl | apply pN | apply b1) | exact HB.out | exact HBo.out))) : w.heap.size ≤ gb503)); have GE503 := GW503; replace HB := Am (below_step (by repeat (first | (with_reducible first | exact HB.out | apply bl | apply pN | apply b1) | exact HB.out | exact HBo.out)) hb); clear hb hbox hg; have hcz9_0 := Own.bc2 BK503.out 0; have hcz9_1 := Own.bc2 BK503.out 1; have hcz9_2 := Own.bc2 BK503.out 2; have hcz9_3 := Own.bc2 BK503.out 3; have hfz9_0 := bf BK503.out 0; have hfz9_1 := bf BK503.out 1; have hfz9_2 := bf BK503.out 2; have hfz9_3 := bf BK503.out 3) | ((with_reducible refine gate_callee (f := 14) rfl ?_); refine Own.gL_ (some 4) Try.func14 (#[.agg #[.int .i64 a0_0, .int .i64 a0_1, .int .i64 a0_2, .string a0_3]]) (h := ?_); (with_reducible refine (shuttlecockref05_May.calls a0_0 a0_1 a0_2 a0_3 true _ A2.out).mono ?_); rintro e w10 ⟨rfl, hb⟩; refine ⟨_, rfl, ?_⟩; replace BK503 := Am (blk_below (g := gb503) (o := .cells #[.int .i64 a0_0, .int .i64 a0_1, .int .i64 a0_2, .string a0_3] 23 (0, 0)) (by (with_reducible repeat (first|apply bn|apply bd|apply ba)); exact BK503.out) hb); replace HB := Am (below_step (by repeat (first | (with_reducible first | exact HB.out | apply bl | apply pN | apply b1 | refine bs ?_ GE503.out) | exact HB.out | exact HBo.out)) hb); clear hb))
    replace BK503 := Am (bd BK503.out)
    replace HB := Am (b1 HB.out)
    refine start_ (n := 14) (S := fun w' => w'.cell? ⟨gb503, 0, none⟩ = some (.int .i64 a0_0) ∧ w'.cell? ⟨gb503, 1, none⟩ = some (.int .i64 a0_1) ∧ w'.cell? ⟨gb503, 2, none⟩ = some (.int .i64 a0_2) ∧ w'.cell? ⟨gb503, 3, none⟩ = some (.string a0_3)) (ds := []) q14_0 (by kernel_rfl) rfl rfl ⟨(bc BK503.out 0).trans rfl, (bc BK503.out 1).trans rfl, (bc BK503.out 2).trans rfl, (bc BK503.out 3).trans rfl⟩ (fun hHeld => ?_); refine with_tabW shuttlecockref05_Encode.tab3 shuttlecockref05_Encode.bits3 (fun HT_ HW_ => ?_)
    generalize w10.drew = w11 at BK503 HB hHeld ⊢
    refine Own.pr_ 0 (some 6) q14_1 HT_ (h := ?_)
    refine Own.pr_ 2 (some 8) q14_2 HT_ (h := ?_)
    refine Own.pr_ 4 (some 10) q14_3 HT_ (h := ?_)
    refine Own.pr_ 9 (some 15) q14_4 HT_ (h := ?_)
    refine Own.tk_ 1 (some 7) q14_5 HT_ HW_ hHeld (hy := by rintro w' ⟨s0, s1, s2, s3⟩; go_simp; with_reducible rfl) (h := ?_)
    refine Own.tk_ 3 (some 9) q14_6 HT_ HW_ hHeld (hy := by rintro w' ⟨s0, s1, s2, s3⟩; go_simp; with_reducible rfl) (h := ?_)
    refine Own.tk_ 5 (some 11) q14_7 HT_ HW_ hHeld (hy := by rintro w' ⟨s0, s1, s2, s3⟩; go_simp; with_reducible rfl) (h := ?_)
    refine Own.tk_ 10 (some 16) q14_8 HT_ HW_ hHeld (hy := by rintro w' ⟨s0, s1, s2, s3⟩; go_simp; with_reducible rfl) (h := ?_)
    refine one_ (i := 6) (N := some 12) q14_9 rfl rfl (one_of HT_.out (by kernel_rfl)) (by decide) (fun K hK => ?_)
    refine Kd.R_lit_step (Kd.int .i64) _ 3 ?hg (N := 12) ?hd (xs := ([a0_0, a0_1, a0_2] : List Int)) (inner := [.int .i64 a0_0, .int .i64 a0_1, .int .i64 a0_2]) (ok := fun _ => True) (okp := fun _ => True) ?hr ?hp (fun _ hk => hk) trivial (Below.refl _ _) (Nat.le_refl _) (by simp) ?_; (case hd => rfl); (case hg => rfl); (case hr => first | (go_simp; done) | (go_simp; rfl)); (case hp => exact (Reps.one (show Kd.M (Kd.int .i64) _ _ _ a0_0 [.int .i64 a0_0] from rfl) (Reps.one (show Kd.M (Kd.int .i64) _ _ _ a0_1 [.int .i64 a0_1] from rfl) (Reps.one (show Kd.M (Kd.int .i64) _ _ _ a0_2 [.int .i64 a0_2] from rfl) (Reps.none _ _)))))
    intro v506 w12 ho13 hb hg_ hnew_
    clear hg_ hnew_
    (first | rw [← Ny505.out] at ho13 | (simp only [Int.reduceToNat] at ho13; rw [← Ny505.out] at ho13))
    have HO507 := Am (Kd.R_lower ho13 (below_size (by repeat (first | (with_reducible first | exact HB.out | apply bl | apply pN | apply b1 | refine bs ?_ GE503.out) | exact HB.out | exact HBo.out))))
    replace BK503 := Am (blk_below (g := gb503) (o := .cells #[.int .i64 a0_0, .int .i64 a0_1, .int .i64 a0_2, .string a0_3] 23 (0, 0)) (by (with_reducible repeat (first|apply bn|apply bd|apply ba)); exact BK503.out) hb)
    replace HB := Am (below_step (by repeat (first | (with_reducible first | exact HB.out | apply bl | apply pN | apply b1 | refine bs ?_ GE503.out) | exact HB.out | exact HBo.out)) hb)
    clear hb ho13
    obtain ⟨Ao14, co14, eo14⟩ := Kd.R_slice HO507.out
    (first | subst eo14 | (injection eo14 with f1_ f2_ f3_; have f4_ := f1_.symm; have f5_ := f3_.symm; clear f1_ f2_ f3_; subst f4_; subst f5_))
    refine hK.out _ _ ⟨(bc BK503.out 0).trans rfl, (bc BK503.out 1).trans rfl, (bc BK503.out 2).trans rfl, (bc BK503.out 3).trans rfl⟩ (fun hHeld => ?_)
    clear hK K
    refine norm_ (a' := ?_) ?_ ?_
    rotate_left
    ·
     show Act.put _ (some 12) _ = _
     simp only [Act.put, sI, sZ, sS, i64_w, i32_w]
     rfl
    refine one_ (i := 7) (N := some 13) q14_10 rfl rfl (one_of HT_.out (by kernel_rfl)) (by decide) (fun K hK => ?_)
    refine goes_ Try.func36 (by kernel_rfl) rfl #[.slice Ao14 y505.length co14] (by rfl) rfl rfl (by (try simp only [List.map_toArray, List.map_cons, List.map_nil]); first | done | rfl | (simp only [List.length_drop, List.length_take]; rfl)) ?_
    with_reducible refine (shuttlecockref02_Nums.calls k _ _ y505 t508 _ ?side1 ?side2 A4.out).mono ?_
    (case side1 => repeat (first | exact (Kd.R_reads' HO507.out).2.2 | (with_reducible refine Kd.C_alloc ?_ _) | (with_reducible refine Kd.C_drewN ?_ _) | (with_reducible refine Kd.C_drew ?_)))
    (case side2 => exact (Kd.R_reads' HO507.out).2.1)
    rintro e w15 ⟨rfl, hb⟩
    refine ⟨_, rfl, ?_⟩
    replace HO507 := Am (Kd.R_below (by (with_reducible repeat (first | apply Kd.R_alloc | apply Kd.R_drewN | apply Kd.R_drew)); exact HO507.out) hb)
    replace BK503 := Am (blk_below (g := gb503) (o := .cells #[.int .i64 a0_0, .int .i64 a0_1, .int .i64 a0_2, .string a0_3] 23 (0, 0)) (by (with_reducible repeat (first|apply bn|apply bd|apply ba)); exact BK503.out) hb)
    replace HB := Am (below_step (by repeat (first | (with_reducible first | exact HB.out | apply bl | apply pN | apply b1 | refine bs ?_ GE503.out) | exact HB.out | exact HBo.out)) hb)
    (try clear hb)
    (try clear hb2)
    (try clear hk)
    (try clear hi)
    refine hK.out _ _ ⟨(bc BK503.out 0).trans rfl, (bc BK503.out 1).trans rfl, (bc BK503.out 2).trans rfl, (bc BK503.out 3).trans rfl⟩ (fun hHeld => ?_)
    clear hK K
    refine norm_ (a' := ?_) ?_ ?_
    rotate_left
    ·
     show Act.put _ (some 13) _ = _
     simp only [Act.put, sI, sZ, sS, i64_w, i32_w]
     rfl
    refine Own.pr_ 8 (some 14) q14_11 HT_ (h := ?_)
    refine one_ (i := 11) (N := some 17) q14_12 rfl rfl (one_of HT_.out (by kernel_rfl)) (by decide) (fun K hK => ?_)
    refine goes_ Try.func37 (by kernel_rfl) rfl #[.string a0_3] (by rfl) rfl rfl (by (try simp only [List.map_toArray, List.map_cons, List.map_nil]); first | done | rfl | (simp only [List.length_drop, List.length_take]; rfl)) ?_
    with_reducible refine (shuttlecockref02_Text.calls k a0_3 t509 _ A6.out).mono ?_
    rintro e w16 ⟨rfl, hb⟩
    refine ⟨_, rfl, ?_⟩
    replace HO507 := Am (Kd.R_below (by (with_reducible repeat (first | apply Kd.R_alloc | apply Kd.R_drewN | apply Kd.R_drew)); exact HO507.out) hb)
    replace BK503 := Am (blk_below (g := gb503) (o := .cells #[.int .i64 a0_0, .int .i64 a0_1, .int .i64 a0_2, .string a0_3] 23 (0, 0)) (by (with_reducible repeat (first|apply bn|apply bd|apply ba)); exact BK503.out) hb)
    replace HB := Am (below_step (by repeat (first | (with_reducible first | exact HB.out | apply bl | apply pN | apply b1 | refine bs ?_ GE503.out) | exact HB.out | exact HBo.out)) hb)
    (try clear hb)
    (try clear hb2)
    (try clear hk)
    (try clear hi)
    refine hK.out _ _ ⟨(bc BK503.out 0).trans rfl, (bc BK503.out 1).trans rfl, (bc BK503.out 2).trans rfl, (bc BK503.out 3).trans rfl⟩ (fun hHeld => ?_)
    clear hK K
    refine norm_ (a' := ?_) ?_ ?_
    rotate_left
    ·
     show Act.put _ (some 17) _ = _
     simp only [Act.put, sI, sZ, sS, i64_w, i32_w]
     rfl
    refine Own.pr_ 12 (some 18) q14_13 HT_ (h := ?_)
    refine Own.pr_ 13 (some 2) q14_14 HT_ (h := ?_)
    refine done_ (done_of HT_.out (by kernel_rfl)) ?_
    try go_wp2
    go_ret
    exact ⟨by first | rfl | (simp <;> rfl) | (simp [*] <;> rfl) | (simp [Aid.ne_nil, Aid.eq_nil]; done), by repeat (first | (with_reducible first | exact HB.out | apply bl | apply pN | apply b1 | refine bs ?_ GE503.out) | exact HB.out | exact HBo.out)⟩
   ·
    rw [if_neg c7] at H
    exact absurd H (by simp)
  ·
   rw [if_neg c5] at H
   exact absurd H (by simp)
 ·
  replace c3 := Bool.eq_false_iff.mpr c3
  subst c3
  rw [if_neg (show ¬ (false = true) by decide)] at H
  obtain rfl := Option.some.inj H
  go_enter Try.func16, Try.ntmps16
  go_wp2_with (first | ((with_reducible refine gate_dst (N := 1) rfl ?_); refine box_event ?hg (N := 1) ?hd (cs := #[.int .i64 a0_0, .int .i64 a0_1, .int .i64 a0_2, .string a0_3]) (t := 23) ?hr ?_; (case hd => rfl); (case hg => rfl); (case hr => first | (go_simp; done) | (go_simp; rfl)); intro gb503 hg w17 hbox hb; have BK503 := Am (hbox); have GW503 := Am ((by rw [hg]; exact (below_size (by repeat (first | (with_reducible first | exact HB.out | apply bl | apply pN | apply b1) | exact HB.out | exact HBo.out))) : w.heap.size ≤ gb503)); have GE503 := GW503; replace HB := Am (below_step (by repeat (first | (with_reducible first | exact HB.out | apply bl | apply pN | apply b1) | exact HB.out | exact HBo.out)) hb); clear hb hbox hg; have hcz18_0 := Own.bc2 BK503.out 0; have hcz18_1 := Own.bc2 BK503.out 1; have hcz18_2 := Own.bc2 BK503.out 2; have hcz18_3 := Own.bc2 BK503.out 3; have hfz18_0 := bf BK503.out 0; have hfz18_1 := bf BK503.out 1; have hfz18_2 := bf BK503.out 2; have hfz18_3 := bf BK503.out 3) | ((with_reducible refine gate_callee (f := 14) rfl ?_); refine Own.gL_ (some 4) Try.func14 (#[.agg #[.int .i64 a0_0, .int .i64 a0_1, .int .i64 a0_2, .string a0_3]]) (h := ?_); (with_reducible refine (shuttlecockref05_May.calls a0_0 a0_1 a0_2 a0_3 false _ A2.out).mono ?_); rintro e w19 ⟨rfl, hb⟩; refine ⟨_, rfl, ?_⟩; replace BK503 := Am (blk_below (g := gb503) (o := .cells #[.int .i64 a0_0, .int .i64 a0_1, .int .i64 a0_2, .string a0_3] 23 (0, 0)) (by (with_reducible repeat (first|apply bn|apply bd|apply ba)); exact BK503.out) hb); replace HB := Am (below_step (by repeat (first | (with_reducible first | exact HB.out | apply bl | apply pN | apply b1 | refine bs ?_ GE503.out) | exact HB.out | exact HBo.out)) hb); clear hb))
  go_ret
  exact ⟨by first | rfl | (simp <;> rfl) | (simp [*] <;> rfl) | (simp [Aid.ne_nil, Aid.eq_nil]; done), by repeat (first | (with_reducible first | exact HB.out | apply bl | apply pN | apply b1 | refine bs ?_ GE503.out) | exact HB.out | exact HBo.out)⟩

/-! ### shuttlecockref04_Same: function 38 -/
def shuttlecockref04_Same.f (k : Nat) (a0_0 : Int) (a0_1 : Int) (l0_2 : List Int) (a0_3 : ByteArray) (a1_0 : Int) (a1_1 : Int) (l1_2 : List Int) (a1_3 : ByteArray) : Option (Bool) := if a0_0 = a1_0 then (if a0_1 = a1_1 then ((shuttlecockref01_Ints.f k l0_2 l1_2).bind fun t512 => (if t512 = true then (some (a0_3.toList == a1_3.toList)) else (some false))) else (some false)) else (some false)
theorem shuttlecockref04_Same.mono : ∀ a0 a1 a2 a3 a4 a5 a6 a7 k, LeO (shuttlecockref04_Same.f k a0 a1 a2 a3 a4 a5 a6 a7) (shuttlecockref04_Same.f (k + 1) a0 a1 a2 a3 a4 a5 a6 a7) := by
 intro a0 a1 a2 a3 a4 a5 a6 a7 k
 unfold shuttlecockref04_Same.f
 repeat' first
   | (with_reducible exact shuttlecockref01_Ints.mono _ _ _)
   | (with_reducible exact LeO.refl _)
   | (with_reducible exact LeO.none _)
   | (with_reducible refine LeO.ite ?_ ?_)
   | (with_reducible refine LeO.bind ?_ (fun _ => ?_))
   | exact LeO.none _
   | refine LeO.ite ?_ ?_
   | refine LeO.bind ?_ (fun _ => ?_)
set_option maxHeartbeats 8000000 in
set_option maxRecDepth 100000 in
theorem shuttlecockref04_Same.calls (k : Nat) (a0_0 : Int) (a0_1 : Int) (A0_2 : Option Addr) (c0_2 : Nat) (l0_2 : List Int) (a0_3 : ByteArray) (a1_0 : Int) (a1_1 : Int) (A1_2 : Option Addr) (c1_2 : Nat) (l1_2 : List Int) (a1_3 : ByteArray) (r : Bool) (w : World) (hr0_2 : Kd.C (Kd.int .i64) w A0_2 l0_2.length l0_2) (hc0_2 : l0_2.length ≤ c0_2) (hr1_2 : Kd.C (Kd.int .i64) w A1_2 l1_2.length l1_2) (hc1_2 : l1_2.length ≤ c1_2) (h : shuttlecockref04_Same.f k a0_0 a0_1 l0_2 a0_3 a1_0 a1_1 l1_2 a1_3 = some r) :
  Calls Try.prog 38 #[.agg #[.int .i64 a0_0, .int .i64 a0_1, .slice A0_2 l0_2.length c0_2, .string a0_3], .agg #[.int .i64 a1_0, .int .i64 a1_1, .slice A1_2 l1_2.length c1_2, .string a1_3]] w fun e w' => e = .returned (.bool r) ∧ Below w.heap.size w w' := by
 have hu41 := Try.underlying41
 have HR0_2 := Am hr0_2
 have HC0_2 := Am hc0_2
 clear hr0_2 hc0_2
 have HR1_2 := Am hr1_2
 have HC1_2 := Am hc1_2
 clear hr1_2 hc1_2
 have HB := Am (Below.refl w.heap.size w)
 have H : (if a0_0 = a1_0 then (if a0_1 = a1_1 then ((shuttlecockref01_Ints.f k l0_2 l1_2).bind fun t512 => (if t512 = true then (some (a0_3.toList == a1_3.toList)) else (some false))) else (some false)) else (some false)) = some r := h
 clear h
 by_cases c3 : a0_0 = a1_0
 ·
  rw [if_pos c3] at H
  have c3b0 : (a0_0 == a1_0) = true := beq_iff_eq.mpr c3
  have c3b1 : (a0_0 != a1_0) = false := bne_eq_false_iff_eq.mpr c3
  clear c3
  by_cases c4 : a0_1 = a1_1
  ·
   rw [if_pos c4] at H
   have c4b0 : (a0_1 == a1_1) = true := beq_iff_eq.mpr c4
   have c4b1 : (a0_1 != a1_1) = false := bne_eq_false_iff_eq.mpr c4
   clear c4
   replace H := ob H
   obtain ⟨t512, A50, H⟩ := H
   (try dsimp only at H)
   have A5 := Am A50
   clear A50
   by_cases c6 : t512 = true
   ·
    subst c6
    rw [if_pos rfl] at H
    obtain rfl := Option.some.inj H
    go_enter Try.func38, Try.ntmps38
    go_wp2_with (first | ((with_reducible refine gate_dst (N := 2) rfl ?_); refine box_event ?hg (N := 2) ?hd (cs := #[.int .i64 a0_0, .int .i64 a0_1, .slice A0_2 l0_2.length c0_2, .string a0_3]) (t := 41) ?hr ?_; (case hd => rfl); (case hg => rfl); (case hr => first | (go_simp; done) | (go_simp; rfl)); intro gb510 hg w7 hbox hb; have BK510 := Am (hbox); have GW510 := Am ((by rw [hg]; exact (below_size (by repeat (first | (with_reducible first | exact HB.out | apply bl | apply pN | apply b1) | exact HB.out | exact HBo.out))) : w.heap.size ≤ gb510)); have GE510 := GW510; replace HB := Am (below_step (by repeat (first | (with_reducible first | exact HB.out | apply bl | apply pN | apply b1) | exact HB.out | exact HBo.out)) hb); clear hb hbox hg) | ((with_reducible refine gate_dst (N := 3) rfl ?_); refine box_event ?hg (N := 3) ?hd (cs := #[.int .i64 a1_0, .int .i64 a1_1, .slice A1_2 l1_2.length c1_2, .string a1_3]) (t := 41) ?hr ?_; (case hd => rfl); (case hg => rfl); (case hr => first | (go_simp; done) | (go_simp; rfl)); intro gb511 hg w8 hbox hb; have BK511 := Am (hbox); have GW511 := Am ((by rw [hg]; exact (below_size (by repeat (first | (with_reducible first | exact HB.out | apply bl | apply pN | apply b1 | refine bs ?_ GE510.out) | exact HB.out | exact HBo.out))) : w.heap.size ≤ gb511)); have GE511 := GW511; have NB510_511 := Am ((by rw [hg]; exact Nat.ne_of_lt (blk_lt (g := gb510) (o := .cells #[.int .i64 a0_0, .int .i64 a0_1, .slice A0_2 l0_2.length c0_2, .string a0_3] 41 (0, 0)) (by (with_reducible repeat (first|apply bn|apply bd|apply ba)); exact BK510.out)) : gb510 ≠ gb511)); have NB511_510 := Am NB510_511.out.symm; replace BK510 := Am (blk_below (g := gb510) (o := .cells #[.int .i64 a0_0, .int .i64 a0_1, .slice A0_2 l0_2.length c0_2, .string a0_3] 41 (0, 0)) (by (with_reducible repeat (first|apply bn|apply bd|apply ba)); exact BK510.out) hb); replace HB := Am (below_step (by repeat (first | (with_reducible first | exact HB.out | apply bl | apply pN | apply b1 | refine bs ?_ GE510.out) | exact HB.out | exact HBo.out)) hb); clear hb hbox hg; have hnb9 := NB510_511.out; have hnc9 := NB511_510.out; have hcz10_0 := Own.bc2 BK510.out 0; have hcz10_1 := Own.bc2 BK510.out 1; have hcz10_2 := Own.bc2 BK510.out 2; have hcz10_3 := Own.bc2 BK510.out 3; have hfz10_0 := bf BK510.out 0; have hfz10_1 := bf BK510.out 1; have hfz10_2 := bf BK510.out 2; have hfz10_3 := bf BK510.out 3; have hcz11_0 := Own.bc2 BK511.out 0; have hcz11_1 := Own.bc2 BK511.out 1; have hcz11_2 := Own.bc2 BK511.out 2; have hcz11_3 := Own.bc2 BK511.out 3; have hfz11_0 := bf BK511.out 0; have hfz11_1 := bf BK511.out 1; have hfz11_2 := bf BK511.out 2; have hfz11_3 := bf BK511.out 3) | (go_at_call 18; (with_reducible refine (shuttlecockref01_Ints.calls k _ _ l0_2 _ _ l1_2 true _ ?side1 ?side2 ?side3 ?side4 A5.out).mono ?_); (case side1 => repeat (first | exact (Kd.C_below HR0_2.out HB.out) | (with_reducible refine Kd.C_alloc ?_ _) | (with_reducible refine Kd.C_drewN ?_ _) | (with_reducible refine Kd.C_drew ?_))); (case side2 => exact HC0_2.out); (case side3 => repeat (first | exact (Kd.C_below HR1_2.out HB.out) | (with_reducible refine Kd.C_alloc ?_ _) | (with_reducible refine Kd.C_drewN ?_ _) | (with_reducible refine Kd.C_drew ?_))); (case side4 => exact HC1_2.out); rintro e w' ⟨rfl, ⟨nd, rfl⟩⟩))
    go_ret
    exact ⟨by first | rfl | (simp <;> rfl) | (simp [*] <;> rfl) | (simp [Aid.ne_nil, Aid.eq_nil]; done), by repeat (first | (with_reducible first | exact HB.out | apply bl | apply pN | apply b1 | refine bs ?_ GE510.out | refine bs ?_ GE511.out) | exact HB.out | exact HBo.out)⟩
   ·
    replace c6 := Bool.eq_false_iff.mpr c6
    subst c6
    rw [if_neg (show ¬ (false = true) by decide)] at H
    obtain rfl := Option.some.inj H
    go_enter Try.func38, Try.ntmps38
    go_wp2_with (first | ((with_reducible refine gate_dst (N := 2) rfl ?_); refine box_event ?hg (N := 2) ?hd (cs := #[.int .i64 a0_0, .int .i64 a0_1, .slice A0_2 l0_2.length c0_2, .string a0_3]) (t := 41) ?hr ?_; (case hd => rfl); (case hg => rfl); (case hr => first | (go_simp; done) | (go_simp; rfl)); intro gb510 hg w12 hbox hb; have BK510 := Am (hbox); have GW510 := Am ((by rw [hg]; exact (below_size (by repeat (first | (with_reducible first | exact HB.out | apply bl | apply pN | apply b1) | exact HB.out | exact HBo.out))) : w.heap.size ≤ gb510)); have GE510 := GW510; replace HB := Am (below_step (by repeat (first | (with_reducible first | exact HB.out | apply bl | apply pN | apply b1) | exact HB.out | exact HBo.out)) hb); clear hb hbox hg) | ((with_reducible refine gate_dst (N := 3) rfl ?_); refine box_event ?hg (N := 3) ?hd (cs := #[.int .i64 a1_0, .int .i64 a1_1, .slice A1_2 l1_2.length c1_2, .string a1_3]) (t := 41) ?hr ?_; (case hd => rfl); (case hg => rfl); (case hr => first | (go_simp; done) | (go_simp; rfl)); intro gb511 hg w13 hbox hb; have BK511 := Am (hbox); have GW511 := Am ((by rw [hg]; exact (below_size (by repeat (first | (with_reducible first | exact HB.out | apply bl | apply pN | apply b1 | refine bs ?_ GE510.out) | exact HB.out | exact HBo.out))) : w.heap.size ≤ gb511)); have GE511 := GW511; have NB510_511 := Am ((by rw [hg]; exact Nat.ne_of_lt (blk_lt (g := gb510) (o := .cells #[.int .i64 a0_0, .int .i64 a0_1, .slice A0_2 l0_2.length c0_2, .string a0_3] 41 (0, 0)) (by (with_reducible repeat (first|apply bn|apply bd|apply ba)); exact BK510.out)) : gb510 ≠ gb511)); have NB511_510 := Am NB510_511.out.symm; replace BK510 := Am (blk_below (g := gb510) (o := .cells #[.int .i64 a0_0, .int .i64 a0_1, .slice A0_2 l0_2.length c0_2, .string a0_3] 41 (0, 0)) (by (with_reducible repeat (first|apply bn|apply bd|apply ba)); exact BK510.out) hb); replace HB := Am (below_step (by repeat (first | (with_reducible first | exact HB.out | apply bl | apply pN | apply b1 | refine bs ?_ GE510.out) | exact HB.out | exact HBo.out)) hb); clear hb hbox hg; have hnb14 := NB510_511.out; have hnc14 := NB511_510.out; have hcz15_0 := Own.bc2 BK510.out 0; have hcz15_1 := Own.bc2 BK510.out 1; have hcz15_2 := Own.bc2 BK510.out 2; have hcz15_3 := Own.bc2 BK510.out 3; have hfz15_0 := bf BK510.out 0; have hfz15_1 := bf BK510.out 1; have hfz15_2 := bf BK510.out 2; have hfz15_3 := bf BK510.out 3; have hcz16_0 := Own.bc2 BK511.out 0; have hcz16_1 := Own.bc2 BK511.out 1; have hcz16_2 := Own.bc2 BK511.out 2; have hcz16_3 := Own.bc2 BK511.out 3; have hfz16_0 := bf BK511.out 0; have hfz16_1 := bf BK511.out 1; have hfz16_2 := bf BK511.out 2; have hfz16_3 := bf BK511.out 3) | (go_at_call 18; (with_reducible refine (shuttlecockref01_Ints.calls k _ _ l0_2 _ _ l1_2 false _ ?side1 ?side2 ?side3 ?side4 A5.out).mono ?_); (case side1 => repeat (first | exact (Kd.C_below HR0_2.out HB.out) | (with_reducible refine Kd.C_alloc ?_ _) | (with_reducible refine Kd.C_drewN ?_ _) | (with_reducible refine Kd.C_drew ?_))); (case side2 => exact HC0_2.out); (case side3 => repeat (first | exact (Kd.C_below HR1_2.out HB.out) | (with_reducible refine Kd.C_alloc ?_ _) | (with_reducible refine Kd.C_drewN ?_ _) | (with_reducible refine Kd.C_drew ?_))); (case side4 => exact HC1_2.out); rintro e w' ⟨rfl, ⟨nd, rfl⟩⟩))
    go_ret
    exact ⟨by first | rfl | (simp <;> rfl) | (simp [*] <;> rfl) | (simp [Aid.ne_nil, Aid.eq_nil]; done), by repeat (first | (with_reducible first | exact HB.out | apply bl | apply pN | apply b1 | refine bs ?_ GE510.out | refine bs ?_ GE511.out) | exact HB.out | exact HBo.out)⟩
  ·
   rw [if_neg c4] at H
   have c4b0 : (a0_1 == a1_1) = false := beq_eq_false_iff_ne.mpr c4
   have c4b1 : (a0_1 != a1_1) = true := bne_iff_ne.mpr c4
   obtain rfl := Option.some.inj H
   go_enter Try.func38, Try.ntmps38
   go_wp2_with (first | ((with_reducible refine gate_dst (N := 2) rfl ?_); refine box_event ?hg (N := 2) ?hd (cs := #[.int .i64 a0_0, .int .i64 a0_1, .slice A0_2 l0_2.length c0_2, .string a0_3]) (t := 41) ?hr ?_; (case hd => rfl); (case hg => rfl); (case hr => first | (go_simp; done) | (go_simp; rfl)); intro gb510 hg w17 hbox hb; have BK510 := Am (hbox); have GW510 := Am ((by rw [hg]; exact (below_size (by repeat (first | (with_reducible first | exact HB.out | apply bl | apply pN | apply b1) | exact HB.out | exact HBo.out))) : w.heap.size ≤ gb510)); have GE510 := GW510; replace HB := Am (below_step (by repeat (first | (with_reducible first | exact HB.out | apply bl | apply pN | apply b1) | exact HB.out | exact HBo.out)) hb); clear hb hbox hg) | ((with_reducible refine gate_dst (N := 3) rfl ?_); refine box_event ?hg (N := 3) ?hd (cs := #[.int .i64 a1_0, .int .i64 a1_1, .slice A1_2 l1_2.length c1_2, .string a1_3]) (t := 41) ?hr ?_; (case hd => rfl); (case hg => rfl); (case hr => first | (go_simp; done) | (go_simp; rfl)); intro gb511 hg w18 hbox hb; have BK511 := Am (hbox); have GW511 := Am ((by rw [hg]; exact (below_size (by repeat (first | (with_reducible first | exact HB.out | apply bl | apply pN | apply b1 | refine bs ?_ GE510.out) | exact HB.out | exact HBo.out))) : w.heap.size ≤ gb511)); have GE511 := GW511; have NB510_511 := Am ((by rw [hg]; exact Nat.ne_of_lt (blk_lt (g := gb510) (o := .cells #[.int .i64 a0_0, .int .i64 a0_1, .slice A0_2 l0_2.length c0_2, .string a0_3] 41 (0, 0)) (by (with_reducible repeat (first|apply bn|apply bd|apply ba)); exact BK510.out)) : gb510 ≠ gb511)); have NB511_510 := Am NB510_511.out.symm; replace BK510 := Am (blk_below (g := gb510) (o := .cells #[.int .i64 a0_0, .int .i64 a0_1, .slice A0_2 l0_2.length c0_2, .string a0_3] 41 (0, 0)) (by (with_reducible repeat (first|apply bn|apply bd|apply ba)); exact BK510.out) hb); replace HB := Am (below_step (by repeat (first | (with_reducible first | exact HB.out | apply bl | apply pN | apply b1 | refine bs ?_ GE510.out) | exact HB.out | exact HBo.out)) hb); clear hb hbox hg; have hnb19 := NB510_511.out; have hnc19 := NB511_510.out; have hcz20_0 := Own.bc2 BK510.out 0; have hcz20_1 := Own.bc2 BK510.out 1; have hcz20_2 := Own.bc2 BK510.out 2; have hcz20_3 := Own.bc2 BK510.out 3; have hfz20_0 := bf BK510.out 0; have hfz20_1 := bf BK510.out 1; have hfz20_2 := bf BK510.out 2; have hfz20_3 := bf BK510.out 3; have hcz21_0 := Own.bc2 BK511.out 0; have hcz21_1 := Own.bc2 BK511.out 1; have hcz21_2 := Own.bc2 BK511.out 2; have hcz21_3 := Own.bc2 BK511.out 3; have hfz21_0 := bf BK511.out 0; have hfz21_1 := bf BK511.out 1; have hfz21_2 := bf BK511.out 2; have hfz21_3 := bf BK511.out 3))
   go_ret
   exact ⟨by first | rfl | (simp <;> rfl) | (simp [*] <;> rfl) | (simp [Aid.ne_nil, Aid.eq_nil]; done), by repeat (first | (with_reducible first | exact HB.out | apply bl | apply pN | apply b1 | refine bs ?_ GE510.out | refine bs ?_ GE511.out) | exact HB.out | exact HBo.out)⟩
 ·
  rw [if_neg c3] at H
  have c3b0 : (a0_0 == a1_0) = false := beq_eq_false_iff_ne.mpr c3
  have c3b1 : (a0_0 != a1_0) = true := bne_iff_ne.mpr c3
  obtain rfl := Option.some.inj H
  go_enter Try.func38, Try.ntmps38
  go_wp2_with (first | ((with_reducible refine gate_dst (N := 2) rfl ?_); refine box_event ?hg (N := 2) ?hd (cs := #[.int .i64 a0_0, .int .i64 a0_1, .slice A0_2 l0_2.length c0_2, .string a0_3]) (t := 41) ?hr ?_; (case hd => rfl); (case hg => rfl); (case hr => first | (go_simp; done) | (go_simp; rfl)); intro gb510 hg w22 hbox hb; have BK510 := Am (hbox); have GW510 := Am ((by rw [hg]; exact (below_size (by repeat (first | (with_reducible first | exact HB.out | apply bl | apply pN | apply b1) | exact HB.out | exact HBo.out))) : w.heap.size ≤ gb510)); have GE510 := GW510; replace HB := Am (below_step (by repeat (first | (with_reducible first | exact HB.out | apply bl | apply pN | apply b1) | exact HB.out | exact HBo.out)) hb); clear hb hbox hg) | ((with_reducible refine gate_dst (N := 3) rfl ?_); refine box_event ?hg (N := 3) ?hd (cs := #[.int .i64 a1_0, .int .i64 a1_1, .slice A1_2 l1_2.length c1_2, .string a1_3]) (t := 41) ?hr ?_; (case hd => rfl); (case hg => rfl); (case hr => first | (go_simp; done) | (go_simp; rfl)); intro gb511 hg w23 hbox hb; have BK511 := Am (hbox); have GW511 := Am ((by rw [hg]; exact (below_size (by repeat (first | (with_reducible first | exact HB.out | apply bl | apply pN | apply b1 | refine bs ?_ GE510.out) | exact HB.out | exact HBo.out))) : w.heap.size ≤ gb511)); have GE511 := GW511; have NB510_511 := Am ((by rw [hg]; exact Nat.ne_of_lt (blk_lt (g := gb510) (o := .cells #[.int .i64 a0_0, .int .i64 a0_1, .slice A0_2 l0_2.length c0_2, .string a0_3] 41 (0, 0)) (by (with_reducible repeat (first|apply bn|apply bd|apply ba)); exact BK510.out)) : gb510 ≠ gb511)); have NB511_510 := Am NB510_511.out.symm; replace BK510 := Am (blk_below (g := gb510) (o := .cells #[.int .i64 a0_0, .int .i64 a0_1, .slice A0_2 l0_2.length c0_2, .string a0_3] 41 (0, 0)) (by (with_reducible repeat (first|apply bn|apply bd|apply ba)); exact BK510.out) hb); replace HB := Am (below_step (by repeat (first | (with_reducible first | exact HB.out | apply bl | apply pN | apply b1 | refine bs ?_ GE510.out) | exact HB.out | exact HBo.out)) hb); clear hb hbox hg; have hnb24 := NB510_511.out; have hnc24 := NB511_510.out; have hcz25_0 := Own.bc2 BK510.out 0; have hcz25_1 := Own.bc2 BK510.out 1; have hcz25_2 := Own.bc2 BK510.out 2; have hcz25_3 := Own.bc2 BK510.out 3; have hfz25_0 := bf BK510.out 0; have hfz25_1 := bf BK510.out 1; have hfz25_2 := bf BK510.out 2; have hfz25_3 := bf BK510.out 3; have hcz26_0 := Own.bc2 BK511.out 0; have hcz26_1 := Own.bc2 BK511.out 1; have hcz26_2 := Own.bc2 BK511.out 2; have hcz26_3 := Own.bc2 BK511.out 3; have hfz26_0 := bf BK511.out 0; have hfz26_1 := bf BK511.out 1; have hfz26_2 := bf BK511.out 2; have hfz26_3 := bf BK511.out 3))
  go_ret
  exact ⟨by first | rfl | (simp <;> rfl) | (simp [*] <;> rfl) | (simp [Aid.ne_nil, Aid.eq_nil]; done), by repeat (first | (with_reducible first | exact HB.out | apply bl | apply pN | apply b1 | refine bs ?_ GE510.out | refine bs ?_ GE511.out) | exact HB.out | exact HBo.out)⟩

end Go.Proofs.Ytfcombimnmkoeaa.Q
