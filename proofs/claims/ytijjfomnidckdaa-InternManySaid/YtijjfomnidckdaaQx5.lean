-- printed by a program of this session (NOTES: hprint); not the kit's print
-- minified
-- halved
import Derived.Test.YtijjfomnidckdaaAl
import Derived.Test.YtijjfomnidckdaaQx0
import Derived.Test.YtijjfomnidckdaaQx1
import Derived.Test.YtijjfomnidckdaaQx2
import Derived.Test.YtijjfomnidckdaaQx3
import Derived.Test.YtijjfomnidckdaaQx4
namespace Go.Proofs.Ytijjfomnidckdaa.Q
open Go.RowKit Go.Proofs.YtijjfomnidckdaaW.PrintWords Go.Proofs.YtijjfomnidckdaaW.PrintLast Go.Proofs.YtijjfomnidckdaaW.PrintMore
attribute [local go_sem] max2_int min2_int max_two min_two max_three min_three max_four min_four   -- for this text's walks alone
set_option linter.unusedVariables false
set_option linter.unusedSimpArgs false

attribute [local go_sem high] eqA45
def q5_0 : Array Bool := let o := true; let z := false; #[z,z,z,z,z,z,z,z,z,z,z,z,z,z]
def q5_1 : Array Bool := let o := true; let z := false; #[o,z,z,z,z,z,z,z,z,z,z,z,z,z]
def q5_2 : Array Bool := let o := true; let z := false; #[o,o,z,z,z,z,z,z,z,z,z,z,z,z]
def q5_3 : Array Bool := let o := true; let z := false; #[o,o,z,o,z,z,z,z,z,z,z,z,z,z]
def q5_4 : Array Bool := let o := true; let z := false; #[o,o,z,o,z,z,z,z,o,z,z,z,z,z]
def q5_5 : Array Bool := let o := true; let z := false; #[o,o,o,o,z,z,z,z,o,z,z,z,z,z]
def q5_6 : Array Bool := let o := true; let z := false; #[o,o,o,o,o,z,z,z,o,z,z,z,z,z]
def q5_7 : Array Bool := let o := true; let z := false; #[o,o,o,o,o,o,z,z,o,z,z,z,z,z]
def q5_8 : Array Bool := let o := true; let z := false; #[o,o,o,o,o,o,o,z,o,z,z,z,z,z]
def q5_9 : Array Bool := let o := true; let z := false; #[o,o,o,o,o,o,o,o,o,z,z,z,z,z]
def q5_10 : Array Bool := let o := true; let z := false; #[o,o,o,o,o,o,o,o,o,o,z,z,z,z]
def q5_11 : Array Bool := let o := true; let z := false; #[o,o,o,o,o,o,o,o,o,o,o,z,z,z]
def q5_12 : Array Bool := let o := true; let z := false; #[o,o,o,o,o,o,o,o,o,o,o,o,z,z]
def q5_13 : Array Bool := let o := true; let z := false; #[o,o,o,o,o,o,o,o,o,o,o,o,o,z]
def q5_14 : Array Bool := let o := true; let z := false; #[o,o,o,o,o,o,o,o,o,o,o,o,o,o]
/-! ### intern_Frames: function 17 -/
mutual
def intern_Frames.j0 : Nat → Int → Bool → List ByteArray → List (List (S50)) → Option ((List (S45)) × Bool)
 | 0, _, _, _, _ => none
 | k + 1, x1, x22, x125000, x125001 => if x22 = true then (some (([] : List (S45)), false)) else (if x1 = 0 then (some (([] : List (S45)), true)) else (if 0 ≤ (wrap64 (x1 - 1)) then (if (wrap64 (x1 - 1)) < (x125001.length : Int) then (intern_Frames.l0 k ([] : List (S45)) (rd_L2 x125001 (wrap64 (x1 - 1))) ((rd_L2 x125001 (wrap64 (x1 - 1))).length : Int) 0 x125000 x125001) else (none)) else (none)))
def intern_Frames.l0 : Nat → List (S45) → List (S50) → Int → Int → List ByteArray → List (List (S50)) → Option ((List (S45)) × Bool)
 | 0, _, _, _, _, _, _ => none
 | k + 1, x6, x30, x31, x32, x125000, x125001 => if x32 < x31 then (if 0 ≤ x32 then (if x32 < (x30.length : Int) then (if 0 ≤ (wrap64 (((rd_T50 x30 x32).f0) - 1)) then (if (wrap64 (((rd_T50 x30 x32).f0) - 1)) < (x125000.length : Int) then (if x6.length < 5864062014805 then (intern_Frames.l0 k (x6 ++ [(⟨rdOf ByteArray.empty x125000 (wrap64 (((rd_T50 x30 x32).f0) - 1)), (rd_T50 x30 x32).f1⟩ : S45)]) x30 x31 (wrap64 (x32 + 1)) x125000 x125001) else (none)) else (none)) else (none)) else (none)) else (none)) else (some (x6, true))
end
def intern_Frames.f (k : Nat) (l0_0 : List ByteArray) (l0_1 : List (List (S50))) (a1 : Int) : Option ((List (S45)) × Bool) := if a1 < 0 then (intern_Frames.j0 k a1 true l0_0 l0_1) else (if a1 > (l0_1.length : Int) then (intern_Frames.j0 k a1 true l0_0 l0_1) else ((intern_May.f k l0_0 l0_1).bind fun t125 => (intern_Frames.j0 k a1 (!t125) l0_0 l0_1)))
theorem intern_Frames.mono_l : ∀ k, (∀ y0 y1 y2 y3, LeO (intern_Frames.j0 k y0 y1 y2 y3) (intern_Frames.j0 (k + 1) y0 y1 y2 y3)) ∧ (∀ y0 y1 y2 y3 y4 y5, LeO (intern_Frames.l0 k y0 y1 y2 y3 y4 y5) (intern_Frames.l0 (k + 1) y0 y1 y2 y3 y4 y5))
 | 0 => ⟨fun _ _ _ _ r h => by simp [intern_Frames.j0] at h, fun _ _ _ _ _ _ r h => by simp [intern_Frames.l0] at h⟩
 | k + 1 => by
  obtain ⟨ih0, ih1⟩ := intern_Frames.mono_l k
  refine ⟨?_, ?_⟩
  ·
   intro y0 y1 y2 y3
   unfold intern_Frames.j0
   repeat' first
   | (with_reducible exact ih0 _ _ _ _)
   | (with_reducible exact ih1 _ _ _ _ _ _)
   | (with_reducible exact intern_May.mono _ _ _)
   | (with_reducible exact LeO.refl _)
   | (with_reducible exact LeO.none _)
   | (with_reducible refine LeO.ite ?_ ?_)
   | (with_reducible refine LeO.bind ?_ (fun _ => ?_))
   | exact ih0 _ _ _ _
   | exact ih1 _ _ _ _ _ _
   | exact intern_May.mono _ _ _
   | exact LeO.none _
   | refine LeO.ite ?_ ?_
   | refine LeO.bind ?_ (fun _ => ?_)
  ·
   intro y0 y1 y2 y3 y4 y5
   unfold intern_Frames.l0
   repeat' first
   | (with_reducible exact ih0 _ _ _ _)
   | (with_reducible exact ih1 _ _ _ _ _ _)
   | (with_reducible exact intern_May.mono _ _ _)
   | (with_reducible exact LeO.refl _)
   | (with_reducible exact LeO.none _)
   | (with_reducible refine LeO.ite ?_ ?_)
   | (with_reducible refine LeO.bind ?_ (fun _ => ?_))
   | exact ih0 _ _ _ _
   | exact ih1 _ _ _ _ _ _
   | exact intern_May.mono _ _ _
   | exact LeO.none _
   | refine LeO.ite ?_ ?_
   | refine LeO.bind ?_ (fun _ => ?_)
theorem intern_Frames.mono : ∀ a0 a1 a2 k, LeO (intern_Frames.f k a0 a1 a2) (intern_Frames.f (k + 1) a0 a1 a2) := by
 intro a0 a1 a2 k
 obtain ⟨ih0, ih1⟩ := intern_Frames.mono_l k
 unfold intern_Frames.f
 repeat' first
   | (with_reducible exact ih0 _ _ _ _)
   | (with_reducible exact ih1 _ _ _ _ _ _)
   | (with_reducible exact intern_May.mono _ _ _)
   | (with_reducible exact LeO.refl _)
   | (with_reducible exact LeO.none _)
   | (with_reducible refine LeO.ite ?_ ?_)
   | (with_reducible refine LeO.bind ?_ (fun _ => ?_))
   | exact ih0 _ _ _ _
   | exact ih1 _ _ _ _ _ _
   | exact intern_May.mono _ _ _
   | exact LeO.none _
   | refine LeO.ite ?_ ?_
   | refine LeO.bind ?_ (fun _ => ?_)
def intern_Frames.T9 : Bool × List (List Nat × List Nat) := (true, [([], []), ([], []), ([1], [1]), ([], []), ([3], [3]), ([4], [4]), ([2, 5], [2, 5]), ([6], [6]), ([], []), ([8], [8]), ([7, 9], [7, 9]), ([10], [10]), ([0, 11], [0, 11]), ([12, 12, 0, 1, 2, 3, 4, 5, 6, 7, 8, 9, 10, 11, 12], [0, 12])])
def intern_Frames.B9 : List Nat := [0, 0, 2, 0, 8, 24, 62, 126, 0, 256, 1022, 2046, 4095, 8191]
theorem intern_Frames.tab9 : rtab .any (opsOf Try.f17 9) = intern_Frames.T9 := by kernel_rfl
theorem intern_Frames.bits9 : waitsOk intern_Frames.T9.2 intern_Frames.B9 = true := by kernel_rfl
set_option maxHeartbeats 8000000 in
set_option maxRecDepth 100000 in
theorem intern_Frames.calls (k : Nat) (A0_0 : Option Addr) (c0_0 : Nat) (l0_0 : List ByteArray) (A0_1 : Option Addr) (c0_1 : Nat) (l0_1 : List (List (S50))) (a1 : Int) (r1 : List (S45)) (r2 : Bool) (w : World) (hr0_0 : Kd.C Kd.string w A0_0 l0_0.length l0_0) (hc0_0 : l0_0.length ≤ c0_0) (hr0_1 : Kd.C (Kd.slice 50 k50) w A0_1 l0_1.length l0_1) (hc0_1 : l0_1.length ≤ c0_1) (h : intern_Frames.f k l0_0 l0_1 a1 = some (r1, r2)) :
  Calls Try.prog 17 #[.agg #[.slice A0_0 l0_0.length c0_0, .slice A0_1 l0_1.length c0_1], .int .i64 a1] w fun e w' => ∃ v0_ : Value, e = .returned (.tuple #[v0_, .bool r2]) ∧ Kd.R k45 45 w' w.heap.size (fun _ => True) v0_ r1 ∧ Below w.heap.size w w' := by
 have hu25 := Try.underlying25
 have hu50 := Try.underlying50
 have hu45 := Try.underlying45
 have HR0_0 := Am hr0_0
 have HC0_0 := Am hc0_0
 clear hr0_0 hc0_0
 have HR0_1 := Am hr0_1
 have HC0_1 := Am hc0_1
 clear hr0_1 hc0_1
 have HB := Am (Below.refl w.heap.size w)
 have H : (if a1 < 0 then (intern_Frames.j0 k a1 true l0_0 l0_1) else (if a1 > (l0_1.length : Int) then (intern_Frames.j0 k a1 true l0_0 l0_1) else ((intern_May.f k l0_0 l0_1).bind fun t125 => (intern_Frames.j0 k a1 (!t125) l0_0 l0_1)))) = some (r1, r2) := h
 clear h
 have HC3 := Am H
 clear H
 go_enter Try.func17, Try.ntmps17
 go_upto_region 1 with (first | ((with_reducible refine gate_dst (N := 2) rfl ?_); (try (refine gate_guard (by rfl) ?_; dsimp only)); refine box_event ?hg (N := 2) ?hd (cs := #[.slice A0_0 l0_0.length c0_0, .slice A0_1 l0_1.length c0_1]) (t := 25) ?hr ?_; (case hd => rfl); (case hg => rfl); (case hr => first | (go_simp; done) | (go_simp; rfl)); intro gb124 hg w4 hbox hb; have n0_ := Am (below_step (by repeat (first | (with_reducible first | exact HB.out | apply bl | apply pN | apply b1) | exact HB.out | exact HBo.out)) hb); have n1_ := Am (hbox); have n2_ := Am ((by rw [hg]; exact (below_size (by repeat (first | (with_reducible first | exact HB.out | apply bl | apply pN | apply b1) | exact HB.out | exact HBo.out))) : w.heap.size ≤ gb124)); have n3_ := Am ((by rw [hg]; exact (below_size (by repeat (first | (with_reducible first | exact HB.out | apply bl | apply pN | apply b1) | exact HB.out | exact HBo.out))) : w.heap.size ≤ gb124)); clear HB; have HB := n0_; have BK124 := n1_; have GW124 := n2_; have GE124 := n3_; clear n0_ n1_ n2_ n3_; clear hb hbox hg))
 (try simp only [Act.put, sI, sZ, sS])
 go_cut [22] (fun v22 wc => ∃ (kq : Nat) (x22_2 : Bool), v22 = .bool x22_2 ∧ Aside0 (intern_Frames.j0 kq a1 x22_2 l0_0 l0_1 = some (r1, r2)) ∧ Aside0 (kq ≤ k) ∧ Aside0 (wc.heap[gb124]? = some (.cells #[(.slice A0_0 l0_0.length c0_0), (.slice A0_1 l0_1.length c0_1)] 25 (0, 0))) ∧ Aside0 (Below w.heap.size w wc))
 case first =>
  have H := HC3.out
  clear HC3
  by_cases c5 : a1 < 0
  ·
   rw [if_pos c5] at H
   have c5b0 : decide (a1 < 0) = true := decide_eq_true c5
   clear c5
   (first | rw [c5b0] | (simp only [i64_w, i32_w]; rw [c5b0]) | skip)
   have H' := Am H
   clear H
   go_wp2
   go_meet
   case rel => exact ⟨_, (true), (by first | rfl | (simp; done) | (simp [*]; done)), H', ⟨by first | omega | exact Nat.le_refl _⟩, ⟨by (with_reducible repeat (first | refine bn ?_ _ | refine bd ?_ | refine ba ?_ _)); exact BK124.out⟩, ⟨by repeat (first | (with_reducible first | exact HB.out | apply bl | apply pN | apply b1 | refine bs ?_ GE124.out) | exact HB.out | exact HBo.out)⟩⟩
  ·
   rw [if_neg c5] at H
   have c5b0 : decide (a1 < 0) = false := decide_eq_false c5
   clear c5
   (first | rw [c5b0] | (simp only [i64_w, i32_w]; rw [c5b0]) | skip)
   by_cases c6 : a1 > (l0_1.length : Int)
   ·
    rw [if_pos c6] at H
    have c6b0 : decide ((l0_1.length : Int) < a1) = true := decide_eq_true c6
    clear c6
    have H' := Am H
    clear H
    have hcz7_0 : w4.cell? ⟨gb124, 0, none⟩ = some (.slice A0_0 l0_0.length c0_0) := (bc BK124.out 0).trans rfl
    have hcz7_1 : w4.cell? ⟨gb124, 1, none⟩ = some (.slice A0_1 l0_1.length c0_1) := (bc BK124.out 1).trans rfl
    have hfz7_0 := bf BK124.out 0
    have hfz7_1 := bf BK124.out 1
    go_wp2
    go_meet
    case rel => exact ⟨_, (true), (by first | rfl | (simp; done) | (simp [*]; done)), H', ⟨by first | omega | exact Nat.le_refl _⟩, ⟨by (with_reducible repeat (first | refine bn ?_ _ | refine bd ?_ | refine ba ?_ _)); exact BK124.out⟩, ⟨by repeat (first | (with_reducible first | exact HB.out | apply bl | apply pN | apply b1 | refine bs ?_ GE124.out) | exact HB.out | exact HBo.out)⟩⟩
   ·
    rw [if_neg c6] at H
    have c6b0 : decide ((l0_1.length : Int) < a1) = false := decide_eq_false c6
    clear c6
    replace H := ob H
    obtain ⟨t125, A80, H⟩ := H
    replace H : (intern_Frames.j0 k a1 (!t125) l0_0 l0_1) = some (r1, r2) := H
    have A8 := Am A80
    clear A80
    have H' := Am H
    clear H
    have hcz9_0 : w4.cell? ⟨gb124, 0, none⟩ = some (.slice A0_0 l0_0.length c0_0) := (bc BK124.out 0).trans rfl
    have hcz9_1 : w4.cell? ⟨gb124, 1, none⟩ = some (.slice A0_1 l0_1.length c0_1) := (bc BK124.out 1).trans rfl
    have hfz9_0 := bf BK124.out 0
    have hfz9_1 := bf BK124.out 1
    go_wp2_with (first | (go_at_call 19; (with_reducible refine (intern_May.calls k _ _ l0_0 _ _ l0_1 t125 _ ?side1 ?side2 ?side3 ?side4 A8.out).mono ?_); (case side1 => repeat (first | exact (Kd.C_below HR0_0.out HB.out) | (with_reducible refine Kd.C_alloc ?_ _) | (with_reducible refine Kd.C_drewN ?_ _) | (with_reducible refine Kd.C_drew ?_))); (case side2 => exact HC0_0.out); (case side3 => repeat (first | exact (Kd.C_below HR0_1.out HB.out) | (with_reducible refine Kd.C_alloc ?_ _) | (with_reducible refine Kd.C_drewN ?_ _) | (with_reducible refine Kd.C_drew ?_))); (case side4 => exact HC0_1.out); rintro e w10 ⟨rfl, hb⟩; have n0_ := Am (blk_below (g := gb124) (o := .cells #[.slice A0_0 l0_0.length c0_0, .slice A0_1 l0_1.length c0_1] 25 (0, 0)) (by (with_reducible repeat (first | refine bn ?_ _ | refine bd ?_ | refine ba ?_ _)); exact BK124.out) hb); have n1_ := Am (below_step (by repeat (first | (with_reducible first | exact HB.out | apply bl | apply pN | apply b1 | refine bs ?_ GE124.out) | exact HB.out | exact HBo.out)) hb); clear BK124; clear HB; have BK124 := n0_; have HB := n1_; clear n0_ n1_; (try clear hb); (try clear hb2); (try clear hk); (try clear hi)))
    go_meet
    case rel => exact ⟨_, (!t125), (by first | rfl | (simp; done) | (simp [*]; done)), H', ⟨by first | omega | exact Nat.le_refl _⟩, ⟨by (with_reducible repeat (first | refine bn ?_ _ | refine bd ?_ | refine ba ?_ _)); exact BK124.out⟩, ⟨by repeat (first | (with_reducible first | exact HB.out | apply bl | apply pN | apply b1 | refine bs ?_ GE124.out) | exact HB.out | exact HBo.out)⟩⟩
 case rest =>
  clear HC3
  try clear c1
  try clear p2
  try clear c5
  try clear c5b0
  try clear c6
  try clear c6b0
  try clear hcz7_0
  try clear hcz7_1
  try clear hcz9_0
  try clear hcz9_1
  try clear hfz7_0
  try clear hfz7_1
  try clear hfz9_0
  try clear hfz9_1
  obtain ⟨kq, x22_2, rfl, HA, HJ2, BK124, HB⟩ := hcut
  cases kq with
  | zero => exact absurd HA.out (by simp [intern_Frames.j0])
  | succ kj2 =>
   have H := HA.out
   clear HA
   simp only [intern_Frames.j0] at H
   by_cases c11 : x22_2 = true
   ·
    subst c11
    have H1 : (some (([] : List (S45)), false)) = some (r1, r2) := by rw [if_pos rfl] at H; exact H
    clear H
    have H := H1
    clear H1
    simp only [Option.some.injEq, Prod.mk.injEq] at H
    obtain ⟨rfl, rfl⟩ := H
    go_wp2
    go_ret2
    exact ⟨_, by first | rfl | (simp [errW_none, errW_some] <;> rfl) | (simp [*, errW_none, errW_some] <;> rfl) | (simp [Aid.ne_nil, Aid.eq_nil, errW_none, errW_some]; done), by first | exact Kd.R_nil _ _ _ _ _ | exact Kd.N_nil _ _ _ _ _ | exact Kd.V_nil _ _ _ _ _ | exact Kd.Q_nil _ _ _ _ _ | exact Kd.S_nil _ _ _ _ _, by repeat (first | (with_reducible first | exact HB.out | apply bl | apply pN | apply b1 | refine bs ?_ GE124.out) | exact HB.out | exact HBo.out)⟩
   ·
    replace c11 := Bool.eq_false_iff.mpr c11
    subst c11
    have H1 : (if a1 = 0 then (some (([] : List (S45)), true)) else (if 0 ≤ (wrap64 (a1 - 1)) then (if (wrap64 (a1 - 1)) < (l0_1.length : Int) then (intern_Frames.l0 kj2 ([] : List (S45)) (rd_L2 l0_1 (wrap64 (a1 - 1))) ((rd_L2 l0_1 (wrap64 (a1 - 1))).length : Int) 0 l0_0 l0_1) else (none)) else (none))) = some (r1, r2) := by rw [if_neg (show ¬ (false = true) by decide)] at H; exact H
    clear H
    have H := H1
    clear H1
    by_cases c12 : a1 = 0
    ·
     rw [if_pos c12] at H
     have c12b0 : (a1 == 0) = true := beq_iff_eq.mpr c12
     have c12b1 : (a1 != 0) = false := bne_eq_false_iff_eq.mpr c12
     clear c12
     simp only [Option.some.injEq, Prod.mk.injEq] at H
     obtain ⟨rfl, rfl⟩ := H
     go_wp2
     go_ret2
     exact ⟨_, by first | rfl | (simp [errW_none, errW_some] <;> rfl) | (simp [*, errW_none, errW_some] <;> rfl) | (simp [Aid.ne_nil, Aid.eq_nil, errW_none, errW_some]; done), by first | exact Kd.R_nil _ _ _ _ _ | exact Kd.N_nil _ _ _ _ _ | exact Kd.V_nil _ _ _ _ _ | exact Kd.Q_nil _ _ _ _ _ | exact Kd.S_nil _ _ _ _ _, by repeat (first | (with_reducible first | exact HB.out | apply bl | apply pN | apply b1 | refine bs ?_ GE124.out) | exact HB.out | exact HBo.out)⟩
    ·
     rw [if_neg c12] at H
     have c12b0 : (a1 == 0) = false := beq_eq_false_iff_ne.mpr c12
     have c12b1 : (a1 != 0) = true := bne_iff_ne.mpr c12
     obtain ⟨ji13, hji13⟩ : ∃ j_ : Int, (wrap64 (a1 - 1)) = j_ := ⟨_, rfl⟩
     replace H : (if 0 ≤ (ji13) then (if (ji13) < (l0_1.length : Int) then (intern_Frames.l0 kj2 ([] : List (S45)) (rd_L2 l0_1 (ji13)) ((rd_L2 l0_1 (ji13)).length : Int) 0 l0_0 l0_1) else (none)) else (none)) = some (r1, r2) := by first | (rw [hji13] at H; exact H) | (simp only [hji13] at H ⊢; exact H)
     have hji13w : (IntKind.i64.wrap (a1 - 1)) = ji13 := (i64_w _).trans hji13
     by_cases c14 : 0 ≤ (ji13)
     ·
      rw [if_pos c14] at H
      have c14b0 : decide (0 ≤ (ji13)) = true := decide_eq_true c14
      clear c14
      by_cases c15 : (ji13) < (l0_1.length : Int)
      ·
       rw [if_pos c15] at H
       have c15b0 : decide ((ji13) < (l0_1.length : Int)) = true := decide_eq_true c15
       clear c15
       have H' := Am H
       clear H
       have hcz16_0 : wc.cell? ⟨gb124, 0, none⟩ = some (.slice A0_0 l0_0.length c0_0) := (bc BK124.out 0).trans rfl
       have hcz16_1 : wc.cell? ⟨gb124, 1, none⟩ = some (.slice A0_1 l0_1.length c0_1) := (bc BK124.out 1).trans rfl
       have hfz16_0 := bf BK124.out 0
       have hfz16_1 := bf BK124.out 1
       have p126 : 0 ≤ ((ji13) : Int) := of_decide_eq_true (by first | (with_reducible assumption) | assumption)
       have q126 : (ji13) < (l0_1.length : Int) := of_decide_eq_true (by first | (with_reducible assumption) | assumption)
       obtain ⟨ad126, A126_0, c126_0, e126, hx126_0, hl126_0, hi126_0⟩ := at_L2 HR0_1.out (ji13) p126 q126
       cases e126
       replace hx126_0 := (HB.out.cell (World.block_lt_of_cell? w _ hx126_0)).trans hx126_0
       have HR126_0 := Am hi126_0
       have HC126_0 := Am hl126_0
       clear hi126_0 hl126_0
       replace p126 := eq_true p126
       replace q126 := eq_true q126
       go_wp2
       go_loopg [6, 32] kj2 (fun kq v6 v32 w' => ∃ (x6_2 : List (S45)) (x32_2 : Int), v32 = .int .i64 x32_2 ∧ Aside0 (intern_Frames.l0 kq x6_2 (rd_L2 l0_1 (ji13)) ((rd_L2 l0_1 (ji13)).length : Int) x32_2 l0_0 l0_1 = some (r1, r2)) ∧ Aside0 (kq ≤ kj2) ∧ Aside0 (Kd.R k45 45 w' w.heap.size (fun _ => True) v6 x6_2) ∧ Aside0 (w'.heap[gb124]? = some (.cells #[(.slice A0_0 l0_0.length c0_0), (.slice (some ad126) l0_1.length c0_1)] 25 (0, 0))) ∧ Aside0 (Below w.heap.size w w'))
       case atStart => exact ⟨(([] : List (S45))), (0), (by first | rfl | (simp; done) | (simp [*]; done)), H', ⟨Nat.le_refl _⟩, ⟨by first | exact Kd.R_nil _ _ _ _ _ | exact Kd.N_nil _ _ _ _ _ | exact Kd.V_nil _ _ _ _ _ | exact Kd.Q_nil _ _ _ _ _ | exact Kd.S_nil _ _ _ _ _⟩, ⟨by (with_reducible repeat (first | refine bn ?_ _ | refine bd ?_ | refine ba ?_ _)); exact BK124.out⟩, ⟨by repeat (first | (with_reducible first | exact HB.out | apply bl | apply pN | apply b1 | refine bs ?_ GE124.out) | exact HB.out | exact HBo.out)⟩⟩
       case round =>
        clear H'
        try clear c1
        try clear p1
        try clear q1
        try clear hx1
        try clear p2
        try clear c5
        try clear c5b0
        try clear c6
        try clear c6b0
        try clear p6
        try clear c11
        try clear c12
        try clear c12b0
        try clear c12b1
        try clear p12
        try clear q12
        try clear hx12
        try clear c14
        try clear c14b0
        try clear c15
        try clear c15b0
        try clear hcz16_0
        try clear hcz16_1
        try clear hcz7_0
        try clear hcz7_1
        try clear hcz9_0
        try clear hcz9_1
        try clear hfz16_0
        try clear hfz16_1
        try clear hfz7_0
        try clear hfz7_1
        try clear hfz9_0
        try clear hfz9_1
        try clear hx126_0
        try clear p126
        try clear p2
        try clear q126
        obtain ⟨x6_2, x32_2, rfl, HA, HK2, HO_6, BK124, HB⟩ := hrel
        cases gk with
        | zero => exact absurd HA.out (by simp [intern_Frames.l0])
        | succ k2 =>
         have H := HA.out
         clear HA
         simp only [intern_Frames.l0] at H
         by_cases c17 : x32_2 < ((rd_L2 l0_1 (ji13)).length : Int)
         ·
          rw [if_pos c17] at H
          have c17b0 : decide (x32_2 < ((rd_L2 l0_1 (ji13)).length : Int)) = true := decide_eq_true c17
          clear c17
          by_cases c18 : 0 ≤ x32_2
          ·
           rw [if_pos c18] at H
           have c18b0 : decide (0 ≤ x32_2) = true := decide_eq_true c18
           clear c18
           by_cases c19 : x32_2 < ((rd_L2 l0_1 (ji13)).length : Int)
           ·
            rw [if_pos c19] at H
            have c19b0 : decide (x32_2 < ((rd_L2 l0_1 (ji13)).length : Int)) = true := decide_eq_true c19
            clear c19
            obtain ⟨ji20, hji20⟩ : ∃ j_ : Int, (wrap64 (((rd_T50 (rd_L2 l0_1 (ji13)) x32_2).f0) - 1)) = j_ := ⟨_, rfl⟩
            replace H : (if 0 ≤ (ji20) then (if (ji20) < (l0_0.length : Int) then (if x6_2.length < 5864062014805 then (intern_Frames.l0 k2 (x6_2 ++ [(⟨rdOf ByteArray.empty l0_0 (ji20), (rd_T50 (rd_L2 l0_1 (ji13)) x32_2).f1⟩ : S45)]) (rd_L2 l0_1 (ji13)) ((rd_L2 l0_1 (ji13)).length : Int) (wrap64 (x32_2 + 1)) l0_0 l0_1) else (none)) else (none)) else (none)) = some (r1, r2) := by first | (rw [hji20] at H; exact H) | (simp only [hji20] at H ⊢; exact H)
            have hji20w : (IntKind.i64.wrap (((rd_T50 (rd_L2 l0_1 (ji13)) x32_2).f0) - 1)) = ji20 := (i64_w _).trans hji20
            by_cases c21 : 0 ≤ (ji20)
            ·
             rw [if_pos c21] at H
             have c21b0 : decide (0 ≤ (ji20)) = true := decide_eq_true c21
             clear c21
             by_cases c22 : (ji20) < (l0_0.length : Int)
             ·
              rw [if_pos c22] at H
              have c22b0 : decide ((ji20) < (l0_0.length : Int)) = true := decide_eq_true c22
              clear c22
              by_cases c23 : x6_2.length < 5864062014805
              ·
               rw [if_pos c23] at H
               have LMc23 := Am c23
               clear c23
               obtain ⟨y130, hy130⟩ : ∃ y_ : List (S45), y_ = (x6_2 ++ [(⟨rdOf ByteArray.empty l0_0 (ji20), (rd_T50 (rd_L2 l0_1 (ji13)) x32_2).f1⟩ : S45)]) := ⟨_, rfl⟩
               replace H : (intern_Frames.l0 k2 y130 (rd_L2 l0_1 (ji13)) ((rd_L2 l0_1 (ji13)).length : Int) (wrap64 (x32_2 + 1)) l0_0 l0_1) = some (r1, r2) := by first | (rw [hy130]; with_reducible exact H) | (have H2_ := (Option.bind_some _ _).symm.trans H; rw [hy130]; with_reducible exact H2_) | (have H2_ := (Option.bind_some _ _).symm.trans H; with_reducible exact H2_) | with_reducible exact H | (rw [hy130]; exact H) | exact H
               have Ny130 := Am hy130
               clear hy130
               have H' := Am H
               clear H
               have p127 : 0 ≤ (x32_2 : Int) := of_decide_eq_true (by first | (with_reducible assumption) | assumption)
               have q127 : x32_2 < ((rd_L2 l0_1 (ji13)).length : Int) := of_decide_eq_true (by first | (with_reducible assumption) | assumption)
               obtain ⟨ad127, e127, hx127_0, hx127_1⟩ := at_T50 HR126_0.out x32_2 p127 q127
               cases e127
               replace hx127_0 := (HB.out.cell (World.block_lt_of_cell? w _ hx127_0)).trans hx127_0
               replace hx127_1 := (HB.out.cell (World.block_lt_of_cell? w _ hx127_1)).trans hx127_1
               replace p127 := eq_true p127
               replace q127 := eq_true q127
               try go_wp2_with (first | ((with_reducible refine gate_dst (N := 8) rfl ?_); (try (refine gate_guard (by rfl) ?_; dsimp only)); refine box_event ?hg (N := 8) ?hd (cs := #[.int .i64 0, .int .i64 0]) (t := 50) ?hr ?_; (case hd => rfl); (case hg => rfl); (case hr => first | (go_simp; done) | (go_simp; rfl)); intro gb128 hg w24 hbox hb; have n0_ := Am (Kd.R_below (by (with_reducible repeat (first | apply Kd.R_alloc | apply Kd.R_drewN | apply Kd.R_drew)); exact HO_6.out) hb); have n1_ := Am (blk_below (g := gb124) (o := .cells #[.slice A0_0 l0_0.length c0_0, .slice (some ad126) l0_1.length c0_1] 25 (0, 0)) (by (with_reducible repeat (first | refine bn ?_ _ | refine bd ?_ | refine ba ?_ _)); exact BK124.out) hb); have n2_ := Am (below_step (by repeat (first | (with_reducible first | exact HB.out | apply bl | apply pN | apply b1 | refine bs ?_ GE124.out) | exact HB.out | exact HBo.out)) hb); have n3_ := Am (hbox); have n4_ := Am ((by rw [hg]; exact (below_size (by repeat (first | (with_reducible first | exact HB.out | apply bl | apply pN | apply b1 | refine bs ?_ GE124.out) | exact HB.out | exact HBo.out))) : w.heap.size ≤ gb128)); have n5_ := Am ((by rw [hg]; exact (below_size (by repeat (first | (with_reducible first | exact HB.out | apply bl | apply pN | apply b1 | refine bs ?_ GE124.out) | exact HB.out | exact HBo.out))) : w.heap.size ≤ gb128)); have n6_ := Am ((by rw [hg]; exact Nat.ne_of_lt (blk_lt (g := gb124) (o := .cells #[.slice A0_0 l0_0.length c0_0, .slice (some ad126) l0_1.length c0_1] 25 (0, 0)) (by (with_reducible repeat (first | refine bn ?_ _ | refine bd ?_ | refine ba ?_ _)); exact BK124.out)) : gb124 ≠ gb128)); have n7_ := Am ((by rw [hg]; exact Nat.ne_of_gt (blk_lt (g := gb124) (o := .cells #[.slice A0_0 l0_0.length c0_0, .slice (some ad126) l0_1.length c0_1] 25 (0, 0)) (by (with_reducible repeat (first | refine bn ?_ _ | refine bd ?_ | refine ba ?_ _)); exact BK124.out)) : gb128 ≠ gb124)); clear HO_6; clear BK124; clear HB; have HO_6 := n0_; have BK124 := n1_; have HB := n2_; have BK128 := n3_; have GW128 := n4_; have GE128 := n5_; have NB124_128 := n6_; have NB128_124 := n7_; clear n0_ n1_ n2_ n3_ n4_ n5_ n6_ n7_; clear hb hbox hg; have hnb25 := NB128_124.out; have hnc25 := NB124_128.out; have hcz26_0 : w24.cell? ⟨gb128, 0, none⟩ = some (.int .i64 0) := (bc BK128.out 0).trans rfl; have hcz26_1 : w24.cell? ⟨gb128, 1, none⟩ = some (.int .i64 0) := (bc BK128.out 1).trans rfl; have hfz26_0 := bf BK128.out 0; have hfz26_1 := bf BK128.out 1))
               have n0_ : Aside0 (Kd.R k45 45 ((w24.setCell ⟨gb128, 0, none⟩ (.int .i64 ((rd_T50 (rd_L2 l0_1 (ji13)) x32_2).f0))).setCell ⟨gb128, 1, none⟩ (.int .i64 ((rd_T50 (rd_L2 l0_1 (ji13)) x32_2).f1))) w.heap.size (fun _ => True) u6 x6_2) := ⟨by (with_reducible repeat (first | apply Kd.R_alloc | apply Kd.R_drewN | apply Kd.R_drew)); exact Kd.R_mono (Kd.R_far (p := ⟨gb128, 1, none⟩) (Kd.R_far (p := ⟨gb128, 0, none⟩) (Kd.R_types HO_6.out BK128.out (by decide)) (fun _ hk => hk.2) (.int .i64 ((rd_T50 (rd_L2 l0_1 (ji13)) x32_2).f0))) (fun _ hk => hk.2) (.int .i64 ((rd_T50 (rd_L2 l0_1 (ji13)) x32_2).f1))) (fun _ hk => trivial)⟩
               have n1_ : Aside0 (((w24.setCell ⟨gb128, 0, none⟩ (.int .i64 ((rd_T50 (rd_L2 l0_1 (ji13)) x32_2).f0))).setCell ⟨gb128, 1, none⟩ (.int .i64 ((rd_T50 (rd_L2 l0_1 (ji13)) x32_2).f1))).heap[gb124]? = some (.cells #[.slice A0_0 l0_0.length c0_0, .slice (some ad126) l0_1.length c0_1] 25 (0, 0))) := ⟨by (with_reducible repeat (first | refine bn ?_ _ | refine bd ?_ | refine ba ?_ _)); refine blk_far ?_ NB124_128.out _; (with_reducible repeat (first | refine bn ?_ _ | refine bd ?_ | refine ba ?_ _)); refine blk_far ?_ NB124_128.out _; (with_reducible repeat (first | refine bn ?_ _ | refine bd ?_ | refine ba ?_ _)); exact BK124.out⟩
               have n2_ : Aside0 (((w24.setCell ⟨gb128, 0, none⟩ (.int .i64 ((rd_T50 (rd_L2 l0_1 (ji13)) x32_2).f0))).setCell ⟨gb128, 1, none⟩ (.int .i64 ((rd_T50 (rd_L2 l0_1 (ji13)) x32_2).f1))).heap[gb128]? = some (.cells #[.int .i64 ((rd_T50 (rd_L2 l0_1 (ji13)) x32_2).f0), .int .i64 ((rd_T50 (rd_L2 l0_1 (ji13)) x32_2).f1)] 50 (0, 0))) := ⟨by (with_reducible repeat (first | refine bn ?_ _ | refine bd ?_ | refine ba ?_ _)); refine blk_put (cs := #[.int .i64 ((rd_T50 (rd_L2 l0_1 (ji13)) x32_2).f0), .int .i64 0]) ?_ 1 _ rfl; (with_reducible repeat (first | refine bn ?_ _ | refine bd ?_ | refine ba ?_ _)); refine blk_put (cs := #[.int .i64 0, .int .i64 0]) ?_ 0 _ rfl; (with_reducible repeat (first | refine bn ?_ _ | refine bd ?_ | refine ba ?_ _)); exact BK128.out⟩
               have n3_ : Aside0 (Below w.heap.size w ((w24.setCell ⟨gb128, 0, none⟩ (.int .i64 ((rd_T50 (rd_L2 l0_1 (ji13)) x32_2).f0))).setCell ⟨gb128, 1, none⟩ (.int .i64 ((rd_T50 (rd_L2 l0_1 (ji13)) x32_2).f1)))) := ⟨by repeat (first | (with_reducible first | exact HB.out | apply bl | apply pN | apply b1 | refine bs ?_ GE124.out | refine bs ?_ GE128.out) | exact HB.out | exact HBo.out)⟩
               (try clear HO_6)
               (try clear BK124)
               (try clear BK128)
               (try clear HB)
               generalize ((w24.setCell ⟨gb128, 0, none⟩ (.int .i64 ((rd_T50 (rd_L2 l0_1 (ji13)) x32_2).f0))).setCell ⟨gb128, 1, none⟩ (.int .i64 ((rd_T50 (rd_L2 l0_1 (ji13)) x32_2).f1))) = w27 at n0_ n1_ n2_ n3_ ⊢
               have HO_6 := n0_
               have BK124 := n1_
               have BK128 := n2_
               have HB := n3_
               clear n0_ n1_ n2_ n3_
               have n0_ := Am (Kd.R_drew HO_6.out)
               have n1_ := Am (bd BK124.out)
               have n2_ := Am (bd BK128.out)
               have n3_ := Am (b1 HB.out)
               clear HO_6
               clear BK124
               clear BK128
               clear HB
               have HO_6 := n0_
               have BK124 := n1_
               have BK128 := n2_
               have HB := n3_
               clear n0_ n1_ n2_ n3_
               have p129 : 0 ≤ ((ji20) : Int) := of_decide_eq_true (by first | (with_reducible assumption) | assumption)
               have q129 : (ji20) < (l0_0.length : Int) := of_decide_eq_true (by first | (with_reducible assumption) | assumption)
               obtain ⟨ad129, e129, hx129_0⟩ := Kd.at_string HR0_0.out (ji20) p129 q129
               have hw129_0 := hx129_0
               cases e129
               replace hx129_0 := (HB.out.cell (World.block_lt_of_cell? w _ hx129_0)).trans hx129_0
               replace p129 := eq_true p129
               replace q129 := eq_true q129
               refine start_ (n := 14) (S := fun w' => w'.cell? ⟨gb124, 0, none⟩ = some (.slice (some ad129) l0_0.length c0_0) ∧ w'.cell? ⟨gb124, 1, none⟩ = some (.slice (some ad126) l0_1.length c0_1) ∧ w'.cell? ⟨gb128, 0, none⟩ = some (.int .i64 ((rd_T50 (rd_L2 l0_1 (ji13)) x32_2).f0)) ∧ w'.cell? ⟨gb128, 1, none⟩ = some (.int .i64 ((rd_T50 (rd_L2 l0_1 (ji13)) x32_2).f1)) ∧ w'.cell? (ad129.add ((ji20)).toNat) = some (.string (rdOf ByteArray.empty l0_0 (ji20)))) (ds := []) q5_0 (by kernel_rfl) rfl rfl ⟨(bc BK124.out 0).trans rfl, (bc BK124.out 1).trans rfl, (bc BK128.out 0).trans rfl, (bc BK128.out 1).trans rfl, ((HB.out.cell (World.block_lt_of_cell? w _ hw129_0)).trans hw129_0)⟩ (fun hHeld => ?_); refine with_tabW intern_Frames.tab9 intern_Frames.bits9 (fun HT_ HW_ => ?_)
               generalize w27.drew = w28 at HO_6 BK124 BK128 HB hx129_0 hHeld ⊢
               refine Own.pr_ 0 (some 36) q5_1 HT_ (h := ?_)
               refine Own.pr_ 1 (some 37) q5_2 HT_ (h := ?_)
               refine Own.pr_ 3 (some 39) q5_3 HT_ (h := ?_)
               refine Own.pr_ 8 (some 44) q5_4 HT_ (h := ?_)
               refine Own.tk_ 2 (some 38) q5_5 HT_ HW_ hHeld (hy := by rintro w' ⟨s0, s1, s2, s3, s4⟩; go_simp; with_reducible rfl) (h := ?_)
               refine Own.tk_ 4 (some 40) q5_6 HT_ HW_ hHeld (hy := by rintro w' ⟨s0, s1, s2, s3, s4⟩; go_simp; with_reducible rfl) (h := ?_)
               refine Own.pr_ 5 (some 41) q5_7 HT_ (h := ?_)
               refine Own.pr_ 6 (some 42) q5_8 HT_ (h := ?_)
               refine Own.tk_ 7 (some 43) q5_9 HT_ HW_ hHeld (hy := by rintro w' ⟨s0, s1, s2, s3, s4⟩; go_simp; with_reducible rfl) (h := ?_)
               refine Own.tk_ 9 (some 45) q5_10 HT_ HW_ hHeld (hy := by rintro w' ⟨s0, s1, s2, s3, s4⟩; go_simp; with_reducible rfl) (h := ?_)
               refine Own.pr_ 10 (some 46) q5_11 HT_ (h := ?_)
               refine one_ (i := 11) (N := some 47) q5_12 rfl rfl (one_of HT_.out (by kernel_rfl)) (by decide) (fun K hK => ?_)
               refine value_ (w1 := ?_) (v := ?_) (by rfl) rfl ?_ ?_
               rotate_left 2
               ·
                go_simp
                constructor
                ·
                 rfl
                ·
                 rfl
               refine hK.out _ _ ⟨(bc (ba BK124.out _) 0).trans rfl, (bc (ba BK124.out _) 1).trans rfl, (bc (ba BK128.out _) 0).trans rfl, (bc (ba BK128.out _) 1).trans rfl, (World.cell?_alloc_lt _ _ _ (World.block_lt_of_cell? _ _ (((HB.out.cell (World.block_lt_of_cell? w _ hw129_0)).trans hw129_0)))).trans (((HB.out.cell (World.block_lt_of_cell? w _ hw129_0)).trans hw129_0))⟩ (fun hHeld => ?_)
               clear hK K
               refine norm_ (a' := ?_) ?_ ?_
               rotate_left
               ·
                show Act.put _ (some 47) _ = _
                simp only [Act.put, sI, sZ, sS, i64_w, i32_w]
                rfl
               refine one_ (i := 12) (N := some 48) q5_13 rfl rfl (one_of HT_.out (by kernel_rfl)) (by decide) (fun K hK => ?_)
               refine Kd.R_append_step k45 (w0 := w) w.heap.size (by rfl) (.tmp 36) (.tmp 47) 26 45 (.agg #[(.string ⟨#[]⟩), (.int .i64 0)]) 24 rfl Try.underlying26 info45 rfl (by decide) (by omega) u6 x6_2 (⟨rdOf ByteArray.empty l0_0 (ji20), (rd_T50 (rd_L2 l0_1 (ji13)) x32_2).f1⟩ : S45) [.string (rdOf ByteArray.empty l0_0 (ji20)), .int .i64 ((rd_T50 (rd_L2 l0_1 (ji13)) x32_2).f1)] (fun _ => True) (fun _ => False) rfl rfl ?aP (fun _ hk => hk.elim) ?aF ?aO ?aB ?aS ?aL ?_
               (case aP => exact k45_mkM _ _ _ (⟨rdOf ByteArray.empty l0_0 (ji20), (rd_T50 (rd_L2 l0_1 (ji13)) x32_2).f1⟩ : S45))
               (case aB => exact (by repeat (first | (with_reducible first | exact HB.out | apply bl | apply pN | apply b1 | refine bs ?_ GE124.out | refine bs ?_ GE128.out) | exact HB.out | exact HBo.out)))
               (case aF => exact (fun _ _ => trivial))
               (case aO => exact (by (with_reducible repeat (first | apply Kd.R_alloc | apply Kd.R_drewN | apply Kd.R_drew)); exact HO_6.out))
               (case aS => exact (below_size (by repeat (first | (with_reducible first | exact HB.out | apply bl | apply pN | apply b1 | refine bs ?_ GE124.out | refine bs ?_ GE128.out) | exact HB.out | exact HBo.out))))
               (case aL => have := LMc23.out; omega)
               intro v131 w29 ho hb hg hat
               rw [← Ny130.out] at ho
               have n0_ := Am (blk_grown (g := gb124) (o := .cells #[.slice (some ad129) l0_0.length c0_0, .slice (some ad126) l0_1.length c0_1] 25 (0, 0)) (by (with_reducible repeat (first | refine bn ?_ _ | refine bd ?_ | refine ba ?_ _)); exact BK124.out) hg (Kd.R_ne HO_6.out BK124.out (by decide)))
               have n1_ := Am (blk_grown (g := gb128) (o := .cells #[.int .i64 ((rd_T50 (rd_L2 l0_1 (ji13)) x32_2).f0), .int .i64 ((rd_T50 (rd_L2 l0_1 (ji13)) x32_2).f1)] 50 (0, 0)) (by (with_reducible repeat (first | refine bn ?_ _ | refine bd ?_ | refine ba ?_ _)); exact BK128.out) hg (Kd.R_ne HO_6.out BK128.out (by decide)))
               have n2_ := Am (hb)
               have n3_ := Am (ho)
               clear BK124
               clear BK128
               clear HB
               clear HO_6
               have BK124 := n0_
               have BK128 := n1_
               have HB := n2_
               have HO132 := n3_
               clear n0_ n1_ n2_ n3_
               clear ho hb hg hat
               refine hK.out _ _ ⟨(bc BK124.out 0).trans rfl, (bc BK124.out 1).trans rfl, (bc BK128.out 0).trans rfl, (bc BK128.out 1).trans rfl, ((HB.out.cell (World.block_lt_of_cell? w _ hw129_0)).trans hw129_0)⟩ (fun hHeld => ?_)
               clear hK K
               refine norm_ (a' := ?_) ?_ ?_
               rotate_left
               ·
                show Act.put _ (some 48) _ = _
                simp only [Act.put, sI, sZ, sS, i64_w, i32_w]
                rfl
               refine Own.pr_ 13 (some 6) q5_14 HT_ (h := ?_)
               refine done_ (done_of HT_.out (by kernel_rfl)) ?_
               try go_wp2
               go_roundg k2
               case measure => have := HJ2.out; have := HK2.out; omega
               case rel => exact ⟨(y130), (wrap64 (x32_2 + 1)), (by first | rfl | (simp; done) | (simp [*]; done)), H', ⟨by have := HJ2.out; have := HK2.out; omega⟩, ⟨by (with_reducible repeat (first | apply Kd.R_alloc | apply Kd.R_drewN | apply Kd.R_drew)); exact HO132.out⟩, ⟨by (with_reducible repeat (first | refine bn ?_ _ | refine bd ?_ | refine ba ?_ _)); exact BK124.out⟩, ⟨by repeat (first | (with_reducible first | exact HB.out | apply bl | apply pN | apply b1 | refine bs ?_ GE124.out | refine bs ?_ GE128.out) | exact HB.out | exact HBo.out)⟩⟩
              ·
               rw [if_neg c23] at H
               exact absurd H (by simp)
             ·
              rw [if_neg c22] at H
              exact absurd H (by simp)
            ·
             rw [if_neg c21] at H
             exact absurd H (by simp)
           ·
            rw [if_neg c19] at H
            exact absurd H (by simp)
          ·
           rw [if_neg c18] at H
           exact absurd H (by simp)
         ·
          rw [if_neg c17] at H
          have c17b0 : decide (x32_2 < ((rd_L2 l0_1 (ji13)).length : Int)) = false := decide_eq_false c17
          clear c17
          simp only [Option.some.injEq, Prod.mk.injEq] at H
          obtain ⟨rfl, rfl⟩ := H
          go_wp2
          go_ret2
          exact ⟨_, by first | rfl | (simp [errW_none, errW_some] <;> rfl) | (simp only [← hji13]; first | rfl | (simp [errW_none, errW_some] <;> rfl)) | (simp [*, errW_none, errW_some] <;> rfl) | (simp [Aid.ne_nil, Aid.eq_nil, errW_none, errW_some]; done), by (with_reducible repeat (first | apply Kd.R_alloc | apply Kd.R_drewN | apply Kd.R_drew)); exact HO_6.out, by repeat (first | (with_reducible first | exact HB.out | apply bl | apply pN | apply b1 | refine bs ?_ GE124.out) | exact HB.out | exact HBo.out)⟩
      ·
       rw [if_neg c15] at H
       exact absurd H (by simp)
     ·
      rw [if_neg c14] at H
      exact absurd H (by simp)

/-! ### shuttlecockref06_SameFrames: function 22 -/
def shuttlecockref06_SameFrames.l0 : Nat → List (S45) → List (S45) → Int → Option (Bool)
 | 0, _, _, _ => none
 | k + 1, x0, x1, x5 => if x5 < (x0.length : Int) then (if 0 ≤ x5 then (if x5 < (x1.length : Int) then (if (!((((rd_T45 x0 x5).f0).toList) == (((rd_T45 x1 x5).f0).toList)) || (!(((rd_T45 x0 x5).f1) == ((rd_T45 x1 x5).f1)))) = true then (some false) else (shuttlecockref06_SameFrames.l0 k x0 x1 (wrap64 (x5 + 1)))) else (none)) else (none)) else (some true)
def shuttlecockref06_SameFrames.f (k : Nat) (l0 : List (S45)) (l1 : List (S45)) : Option (Bool) := if (l0.length : Int) = (l1.length : Int) then (shuttlecockref06_SameFrames.l0 k l0 l1 0) else (some false)
theorem shuttlecockref06_SameFrames.mono_l : ∀ k, (∀ y0 y1 y2, LeO (shuttlecockref06_SameFrames.l0 k y0 y1 y2) (shuttlecockref06_SameFrames.l0 (k + 1) y0 y1 y2))
 | 0 => fun _ _ _ r h => by simp [shuttlecockref06_SameFrames.l0] at h
 | k + 1 => by
  have ih0 := shuttlecockref06_SameFrames.mono_l k
  ·
   intro y0 y1 y2
   unfold shuttlecockref06_SameFrames.l0
   repeat' first
   | (with_reducible exact ih0 _ _ _)
   | (with_reducible exact LeO.refl _)
   | (with_reducible exact LeO.none _)
   | (with_reducible refine LeO.ite ?_ ?_)
   | (with_reducible refine LeO.bind ?_ (fun _ => ?_))
   | exact ih0 _ _ _
   | exact LeO.none _
   | refine LeO.ite ?_ ?_
   | refine LeO.bind ?_ (fun _ => ?_)
theorem shuttlecockref06_SameFrames.mono : ∀ a0 a1 k, LeO (shuttlecockref06_SameFrames.f k a0 a1) (shuttlecockref06_SameFrames.f (k + 1) a0 a1) := by
 intro a0 a1 k
 have ih0 := shuttlecockref06_SameFrames.mono_l k
 unfold shuttlecockref06_SameFrames.f
 repeat' first
   | (with_reducible exact ih0 _ _ _)
   | (with_reducible exact LeO.refl _)
   | (with_reducible exact LeO.none _)
   | (with_reducible refine LeO.ite ?_ ?_)
   | (with_reducible refine LeO.bind ?_ (fun _ => ?_))
   | exact ih0 _ _ _
   | exact LeO.none _
   | refine LeO.ite ?_ ?_
   | refine LeO.bind ?_ (fun _ => ?_)
set_option maxHeartbeats 8000000 in
set_option maxRecDepth 100000 in
theorem shuttlecockref06_SameFrames.calls (k : Nat) (A0 : Option Addr) (c0 : Nat) (l0 : List (S45)) (A1 : Option Addr) (c1 : Nat) (l1 : List (S45)) (r : Bool) (w : World) (hr0 : Kd.C k45 w A0 l0.length l0) (hc0 : l0.length ≤ c0) (hr1 : Kd.C k45 w A1 l1.length l1) (hc1 : l1.length ≤ c1) (h : shuttlecockref06_SameFrames.f k l0 l1 = some r) :
  Calls Try.prog 22 #[.slice A0 l0.length c0, .slice A1 l1.length c1] w fun e w' => e = .returned (.bool r) ∧ Drawn0 w w' := by
 have hu45 := Try.underlying45
 have HR0 := Am hr0
 have HC0 := Am hc0
 clear hr0 hc0
 have HR1 := Am hr1
 have HC1 := Am hc1
 clear hr1 hc1
 have H : (if (l0.length : Int) = (l1.length : Int) then (shuttlecockref06_SameFrames.l0 k l0 l1 0) else (some false)) = some r := h
 clear h
 by_cases c3 : (l0.length : Int) = (l1.length : Int)
 ·
  rw [if_pos c3] at H
  have c3b0 : ((l0.length : Int) == (l1.length : Int)) = true := beq_iff_eq.mpr c3
  have c3b1 : ((l0.length : Int) != (l1.length : Int)) = false := bne_eq_false_iff_eq.mpr c3
  have c3b2 : (l0.length == l1.length) = true := by first | simpa using c3 | (simp at c3 ⊢; omega)
  clear c3
  have H' := Am H
  clear H
  go_enter Try.func22, Try.ntmps22
  go_wp2
  repeat (go_quiet (fail); try go_wp2)
  go_loopg [5] k (fun kq v5 w' => ∃ (x5_1 : Int), v5 = .int .i64 x5_1 ∧ Aside0 (shuttlecockref06_SameFrames.l0 kq l0 l1 x5_1 = some r) ∧ Aside0 (kq ≤ k) ∧ Drawn0 w w')
  case atStart => exact ⟨(0), (by first | rfl | (simp; done) | (simp [*]; done)), H', ⟨Nat.le_refl _⟩, by repeat (first | exact Drawn0.refl _ | apply Drawn0.step)⟩
  case round =>
   clear H'
   try clear c1
   try clear c2
   try clear p2
   try clear c3
   try clear c3b0
   try clear c3b1
   try clear c3b2
   obtain ⟨x5_1, rfl, HA, HK1, ⟨m1, rfl⟩⟩ := hrel
   cases gk with
   | zero => exact absurd HA.out (by simp [shuttlecockref06_SameFrames.l0])
   | succ k1 =>
    have H := HA.out
    clear HA
    simp only [shuttlecockref06_SameFrames.l0] at H
    by_cases c4 : x5_1 < (l0.length : Int)
    ·
     rw [if_pos c4] at H
     have c4b0 : decide (x5_1 < (l0.length : Int)) = true := decide_eq_true c4
     clear c4
     by_cases c5 : 0 ≤ x5_1
     ·
      rw [if_pos c5] at H
      have c5b0 : decide (0 ≤ x5_1) = true := decide_eq_true c5
      clear c5
      by_cases c6 : x5_1 < (l1.length : Int)
      ·
       rw [if_pos c6] at H
       have c6b0 : decide (x5_1 < (l1.length : Int)) = true := decide_eq_true c6
       clear c6
       by_cases c7 : (!((((rd_T45 l0 x5_1).f0).toList) == (((rd_T45 l1 x5_1).f0).toList)) || (!(((rd_T45 l0 x5_1).f1) == ((rd_T45 l1 x5_1).f1)))) = true
       ·
        rw [if_pos c7] at H
        have c7b0 : (!((((rd_T45 l0 x5_1).f0).toList) == (((rd_T45 l1 x5_1).f0).toList)) || (!(((rd_T45 l0 x5_1).f1) == ((rd_T45 l1 x5_1).f1)))) = true := c7
        try have c7b6 : (¬ (((rd_T45 l0 x5_1).f0).toList) = (((rd_T45 l1 x5_1).f0).toList) ∨ ¬ ((rd_T45 l0 x5_1).f1) = ((rd_T45 l1 x5_1).f1)) = True := eq_true (by first | (simpa using c7) | exact Classical.byContradiction (fun hh_ => by simp only [not_or, Classical.not_not] at hh_; simp [hh_] at c7))
        try have c7b7 : ((((rd_T45 l0 x5_1).f0).toList) = (((rd_T45 l1 x5_1).f0).toList) ∧ ((rd_T45 l0 x5_1).f1) = ((rd_T45 l1 x5_1).f1)) = False := eq_false (by first | (intro hh_; simp [hh_] at c7; done) | simpa using c7)
        clear c7
        obtain rfl := Option.some.inj H
        have p133 : 0 ≤ (x5_1 : Int) := of_decide_eq_true (by first | (with_reducible assumption) | assumption)
        have q133 : x5_1 < (l0.length : Int) := of_decide_eq_true (by first | (with_reducible assumption) | assumption)
        obtain ⟨ad133, e133, hx133_0, hx133_1⟩ := at_T45 HR0.out x5_1 p133 q133
        cases e133
        replace p133 := eq_true p133
        replace q133 := eq_true q133
        have p134 : 0 ≤ (x5_1 : Int) := of_decide_eq_true (by first | (with_reducible assumption) | assumption)
        have q134 : x5_1 < (l1.length : Int) := of_decide_eq_true (by first | (with_reducible assumption) | assumption)
        obtain ⟨ad134, e134, hx134_0, hx134_1⟩ := at_T45 HR1.out x5_1 p134 q134
        cases e134
        replace p134 := eq_true p134
        replace q134 := eq_true q134
        go_wp2
        repeat (go_quiet (fail); try go_wp2)
        go_ret
        exact ⟨by first | rfl | (simp; done) | (simp [*]; done), by repeat (first | exact Drawn0.refl _ | apply Drawn0.step)⟩
       ·
        rw [if_neg c7] at H
        have c7b0 : (!((((rd_T45 l0 x5_1).f0).toList) == (((rd_T45 l1 x5_1).f0).toList)) || (!(((rd_T45 l0 x5_1).f1) == ((rd_T45 l1 x5_1).f1)))) = false := by simpa using c7
        try have c7b6 : (¬ (((rd_T45 l0 x5_1).f0).toList) = (((rd_T45 l1 x5_1).f0).toList) ∨ ¬ ((rd_T45 l0 x5_1).f1) = ((rd_T45 l1 x5_1).f1)) = False := eq_false (by simpa using c7)
        try have c7b7 : ((((rd_T45 l0 x5_1).f0).toList) = (((rd_T45 l1 x5_1).f0).toList) ∧ ((rd_T45 l0 x5_1).f1) = ((rd_T45 l1 x5_1).f1)) = True := eq_true (by simpa using c7)
        clear c7
        have H' := Am H
        clear H
        have p133 : 0 ≤ (x5_1 : Int) := of_decide_eq_true (by first | (with_reducible assumption) | assumption)
        have q133 : x5_1 < (l0.length : Int) := of_decide_eq_true (by first | (with_reducible assumption) | assumption)
        obtain ⟨ad133, e133, hx133_0, hx133_1⟩ := at_T45 HR0.out x5_1 p133 q133
        cases e133
        replace p133 := eq_true p133
        replace q133 := eq_true q133
        have p134 : 0 ≤ (x5_1 : Int) := of_decide_eq_true (by first | (with_reducible assumption) | assumption)
        have q134 : x5_1 < (l1.length : Int) := of_decide_eq_true (by first | (with_reducible assumption) | assumption)
        obtain ⟨ad134, e134, hx134_0, hx134_1⟩ := at_T45 HR1.out x5_1 p134 q134
        cases e134
        replace p134 := eq_true p134
        replace q134 := eq_true q134
        go_wp2
        repeat (go_quiet (fail); try go_wp2)
        go_roundg k1
        case measure => have := HK1.out; omega
        case rel => exact ⟨(wrap64 (x5_1 + 1)), (by first | rfl | (simp; done) | (simp [*]; done)), H', ⟨by have := HK1.out; omega⟩, by repeat (first | exact Drawn0.refl _ | apply Drawn0.step)⟩
      ·
       rw [if_neg c6] at H
       exact absurd H (by simp)
     ·
      rw [if_neg c5] at H
      exact absurd H (by simp)
    ·
     rw [if_neg c4] at H
     have c4b0 : decide (x5_1 < (l0.length : Int)) = false := decide_eq_false c4
     clear c4
     obtain rfl := Option.some.inj H
     go_wp2
     repeat (go_quiet (fail); try go_wp2)
     go_ret
     exact ⟨by first | rfl | (simp; done) | (simp [*]; done), by repeat (first | exact Drawn0.refl _ | apply Drawn0.step)⟩
 ·
  rw [if_neg c3] at H
  have c3b0 : ((l0.length : Int) == (l1.length : Int)) = false := beq_eq_false_iff_ne.mpr c3
  have c3b1 : ((l0.length : Int) != (l1.length : Int)) = true := bne_iff_ne.mpr c3
  have c3b2 : (l0.length == l1.length) = false := by first | simpa using c3 | (simp at c3 ⊢; omega)
  obtain rfl := Option.some.inj H
  go_enter Try.func22, Try.ntmps22
  go_wp2
  repeat (go_quiet (fail); try go_wp2)
  go_ret
  exact ⟨by first | rfl | (simp; done) | (simp [*]; done), by repeat (first | exact Drawn0.refl _ | apply Drawn0.step)⟩

/-! ### shuttlecocklaw06_fixed: function 10 -/
def shuttlecocklaw06_fixed.f (k : Nat)  : Option (Bool) := (intern_String.f k ([] : List ByteArray) ([] : List (List (S50))) (⟨#[97]⟩ : ByteArray)).bind fun bt135 => ((intern_String.f k bt135.1 bt135.2.1 (⟨#[98]⟩ : ByteArray)).bind fun bt143 => ((intern_String.f k bt143.1 bt143.2.1 (⟨#[97]⟩ : ByteArray)).bind fun bt151 => ((intern_Stack.f k bt143.1 bt143.2.1 (([(⟨(⟨#[98]⟩ : ByteArray), 3⟩ : S45), (⟨(⟨#[99]⟩ : ByteArray), 4⟩ : S45)] : List (S45)))).bind fun bt162 => ((intern_Frames.f k bt162.1 bt162.2.1 bt162.2.2).bind fun bt170 => ((intern_Name.f k bt162.1 bt162.2.1 3).bind fun bt174 => ((intern_Name.f k bt162.1 bt162.2.1 4).bind fun bt176 => (if bt135.2.2 = 1 then (if bt143.2.2 = 2 then (if bt151.2.2 = 1 then (if bt162.2.2 = 1 then (if bt170.2 = true then ((shuttlecockref06_SameFrames.f k bt170.1 (([(⟨(⟨#[98]⟩ : ByteArray), 3⟩ : S45), (⟨(⟨#[99]⟩ : ByteArray), 4⟩ : S45)] : List (S45)))).bind fun t181 => (if t181 = true then (if bt174.1.toList = ([99] : List UInt8) then (if bt174.2 = true then (if bt176.2 = true then (none) else ((intern_May.f k bt162.1 bt162.2.1).bind fun t182 => (if t182 = true then ((intern_May.f k (([(⟨#[]⟩ : ByteArray)] : List ByteArray)) ([] : List (List (S50)))).bind fun t186 => (some (!t186))) else (none)))) else (none)) else (none)) else (none))) else (none)) else (none)) else (none)) else (none)) else (none))))))))
theorem shuttlecocklaw06_fixed.mono : ∀ k, LeO (shuttlecocklaw06_fixed.f k ) (shuttlecocklaw06_fixed.f (k + 1) ) := by
 intro  k
 unfold shuttlecocklaw06_fixed.f
 repeat' first
   | (with_reducible exact intern_Frames.mono _ _ _ _)
   | (with_reducible exact intern_May.mono _ _ _)
   | (with_reducible exact intern_Name.mono _ _ _ _)
   | (with_reducible exact intern_Stack.mono _ _ _ _)
   | (with_reducible exact intern_String.mono _ _ _ _)
   | (with_reducible exact shuttlecockref06_SameFrames.mono _ _ _)
   | (with_reducible exact LeO.refl _)
   | (with_reducible exact LeO.none _)
   | (with_reducible refine LeO.ite ?_ ?_)
   | (with_reducible refine LeO.bind ?_ (fun _ => ?_))
   | exact intern_Frames.mono _ _ _ _
   | exact intern_May.mono _ _ _
   | exact intern_Name.mono _ _ _ _
   | exact intern_Stack.mono _ _ _ _
   | exact intern_String.mono _ _ _ _
   | exact shuttlecockref06_SameFrames.mono _ _ _
   | exact LeO.none _
   | refine LeO.ite ?_ ?_
   | refine LeO.bind ?_ (fun _ => ?_)
set_option maxHeartbeats 8000000 in
set_option maxRecDepth 100000 in
theorem shuttlecocklaw06_fixed.calls (k : Nat)  (r : Bool) (w : World) (h : shuttlecocklaw06_fixed.f k  = some r) :
  Calls Try.prog 10 #[] w fun e w' => e = .returned (.bool r) ∧ Below w.heap.size w w' := by
 have hu25 := Try.underlying25
 have hu45 := Try.underlying45
 have HB := Am (Below.refl w.heap.size w)
 have H : ((intern_String.f k ([] : List ByteArray) ([] : List (List (S50))) (⟨#[97]⟩ : ByteArray)).bind fun bt135 => ((intern_String.f k bt135.1 bt135.2.1 (⟨#[98]⟩ : ByteArray)).bind fun bt143 => ((intern_String.f k bt143.1 bt143.2.1 (⟨#[97]⟩ : ByteArray)).bind fun bt151 => ((intern_Stack.f k bt143.1 bt143.2.1 (([(⟨(⟨#[98]⟩ : ByteArray), 3⟩ : S45), (⟨(⟨#[99]⟩ : ByteArray), 4⟩ : S45)] : List (S45)))).bind fun bt162 => ((intern_Frames.f k bt162.1 bt162.2.1 bt162.2.2).bind fun bt170 => ((intern_Name.f k bt162.1 bt162.2.1 3).bind fun bt174 => ((intern_Name.f k bt162.1 bt162.2.1 4).bind fun bt176 => (if bt135.2.2 = 1 then (if bt143.2.2 = 2 then (if bt151.2.2 = 1 then (if bt162.2.2 = 1 then (if bt170.2 = true then ((shuttlecockref06_SameFrames.f k bt170.1 (([(⟨(⟨#[98]⟩ : ByteArray), 3⟩ : S45), (⟨(⟨#[99]⟩ : ByteArray), 4⟩ : S45)] : List (S45)))).bind fun t181 => (if t181 = true then (if bt174.1.toList = ([99] : List UInt8) then (if bt174.2 = true then (if bt176.2 = true then (none) else ((intern_May.f k bt162.1 bt162.2.1).bind fun t182 => (if t182 = true then ((intern_May.f k (([(⟨#[]⟩ : ByteArray)] : List ByteArray)) ([] : List (List (S50)))).bind fun t186 => (some (!t186))) else (none)))) else (none)) else (none)) else (none))) else (none)) else (none)) else (none)) else (none)) else (none))))))))) = some r := h
 clear h
 replace H := ob H
 obtain ⟨⟨t135, t138, t141⟩, A10, H⟩ := H
 replace H : ((intern_String.f k t135 t138 (⟨#[98]⟩ : ByteArray)).bind fun bt143 => ((intern_String.f k bt143.1 bt143.2.1 (⟨#[97]⟩ : ByteArray)).bind fun bt151 => ((intern_Stack.f k bt143.1 bt143.2.1 (([(⟨(⟨#[98]⟩ : ByteArray), 3⟩ : S45), (⟨(⟨#[99]⟩ : ByteArray), 4⟩ : S45)] : List (S45)))).bind fun bt162 => ((intern_Frames.f k bt162.1 bt162.2.1 bt162.2.2).bind fun bt170 => ((intern_Name.f k bt162.1 bt162.2.1 3).bind fun bt174 => ((intern_Name.f k bt162.1 bt162.2.1 4).bind fun bt176 => (if t141 = 1 then (if bt143.2.2 = 2 then (if bt151.2.2 = 1 then (if bt162.2.2 = 1 then (if bt170.2 = true then ((shuttlecockref06_SameFrames.f k bt170.1 (([(⟨(⟨#[98]⟩ : ByteArray), 3⟩ : S45), (⟨(⟨#[99]⟩ : ByteArray), 4⟩ : S45)] : List (S45)))).bind fun t181 => (if t181 = true then (if bt174.1.toList = ([99] : List UInt8) then (if bt174.2 = true then (if bt176.2 = true then (none) else ((intern_May.f k bt162.1 bt162.2.1).bind fun t182 => (if t182 = true then ((intern_May.f k (([(⟨#[]⟩ : ByteArray)] : List ByteArray)) ([] : List (List (S50)))).bind fun t186 => (some (!t186))) else (none)))) else (none)) else (none)) else (none))) else (none)) else (none)) else (none)) else (none)) else (none)))))))) = some r := H
 have A1 := Am A10
 clear A10
 replace H := ob H
 obtain ⟨⟨t143, t146, t149⟩, A20, H⟩ := H
 replace H : ((intern_String.f k t143 t146 (⟨#[97]⟩ : ByteArray)).bind fun bt151 => ((intern_Stack.f k t143 t146 (([(⟨(⟨#[98]⟩ : ByteArray), 3⟩ : S45), (⟨(⟨#[99]⟩ : ByteArray), 4⟩ : S45)] : List (S45)))).bind fun bt162 => ((intern_Frames.f k bt162.1 bt162.2.1 bt162.2.2).bind fun bt170 => ((intern_Name.f k bt162.1 bt162.2.1 3).bind fun bt174 => ((intern_Name.f k bt162.1 bt162.2.1 4).bind fun bt176 => (if t141 = 1 then (if t149 = 2 then (if bt151.2.2 = 1 then (if bt162.2.2 = 1 then (if bt170.2 = true then ((shuttlecockref06_SameFrames.f k bt170.1 (([(⟨(⟨#[98]⟩ : ByteArray), 3⟩ : S45), (⟨(⟨#[99]⟩ : ByteArray), 4⟩ : S45)] : List (S45)))).bind fun t181 => (if t181 = true then (if bt174.1.toList = ([99] : List UInt8) then (if bt174.2 = true then (if bt176.2 = true then (none) else ((intern_May.f k bt162.1 bt162.2.1).bind fun t182 => (if t182 = true then ((intern_May.f k (([(⟨#[]⟩ : ByteArray)] : List ByteArray)) ([] : List (List (S50)))).bind fun t186 => (some (!t186))) else (none)))) else (none)) else (none)) else (none))) else (none)) else (none)) else (none)) else (none)) else (none))))))) = some r := H
 have A2 := Am A20
 clear A20
 replace H := ob H
 obtain ⟨⟨t151, t154, t157⟩, A30, H⟩ := H
 replace H : ((intern_Stack.f k t143 t146 (([(⟨(⟨#[98]⟩ : ByteArray), 3⟩ : S45), (⟨(⟨#[99]⟩ : ByteArray), 4⟩ : S45)] : List (S45)))).bind fun bt162 => ((intern_Frames.f k bt162.1 bt162.2.1 bt162.2.2).bind fun bt170 => ((intern_Name.f k bt162.1 bt162.2.1 3).bind fun bt174 => ((intern_Name.f k bt162.1 bt162.2.1 4).bind fun bt176 => (if t141 = 1 then (if t149 = 2 then (if t157 = 1 then (if bt162.2.2 = 1 then (if bt170.2 = true then ((shuttlecockref06_SameFrames.f k bt170.1 (([(⟨(⟨#[98]⟩ : ByteArray), 3⟩ : S45), (⟨(⟨#[99]⟩ : ByteArray), 4⟩ : S45)] : List (S45)))).bind fun t181 => (if t181 = true then (if bt174.1.toList = ([99] : List UInt8) then (if bt174.2 = true then (if bt176.2 = true then (none) else ((intern_May.f k bt162.1 bt162.2.1).bind fun t182 => (if t182 = true then ((intern_May.f k (([(⟨#[]⟩ : ByteArray)] : List ByteArray)) ([] : List (List (S50)))).bind fun t186 => (some (!t186))) else (none)))) else (none)) else (none)) else (none))) else (none)) else (none)) else (none)) else (none)) else (none)))))) = some r := H
 have A3 := Am A30
 clear A30
 obtain ⟨y159, hy159⟩ : ∃ y_ : List (S45), y_ = (([(⟨(⟨#[98]⟩ : ByteArray), 3⟩ : S45), (⟨(⟨#[99]⟩ : ByteArray), 4⟩ : S45)] : List (S45))) := ⟨_, rfl⟩
 replace H : ((intern_Stack.f k t143 t146 y159).bind fun bt162 => ((intern_Frames.f k bt162.1 bt162.2.1 bt162.2.2).bind fun bt170 => ((intern_Name.f k bt162.1 bt162.2.1 3).bind fun bt174 => ((intern_Name.f k bt162.1 bt162.2.1 4).bind fun bt176 => (if t141 = 1 then (if t149 = 2 then (if t157 = 1 then (if bt162.2.2 = 1 then (if bt170.2 = true then ((shuttlecockref06_SameFrames.f k bt170.1 (([(⟨(⟨#[98]⟩ : ByteArray), 3⟩ : S45), (⟨(⟨#[99]⟩ : ByteArray), 4⟩ : S45)] : List (S45)))).bind fun t181 => (if t181 = true then (if bt174.1.toList = ([99] : List UInt8) then (if bt174.2 = true then (if bt176.2 = true then (none) else ((intern_May.f k bt162.1 bt162.2.1).bind fun t182 => (if t182 = true then ((intern_May.f k (([(⟨#[]⟩ : ByteArray)] : List ByteArray)) ([] : List (List (S50)))).bind fun t186 => (some (!t186))) else (none)))) else (none)) else (none)) else (none))) else (none)) else (none)) else (none)) else (none)) else (none)))))) = some r := by first | (rw [hy159]; with_reducible exact H) | (have H2_ := (Option.bind_some _ _).symm.trans H; rw [hy159]; with_reducible exact H2_) | (have H2_ := (Option.bind_some _ _).symm.trans H; with_reducible exact H2_) | with_reducible exact H | (rw [hy159]; exact H) | exact H
 have Ny159 := Am hy159
 clear hy159
 replace H := ob H
 obtain ⟨⟨t162, t165, t168⟩, A40, H⟩ := H
 replace H : ((intern_Frames.f k t162 t165 t168).bind fun bt170 => ((intern_Name.f k t162 t165 3).bind fun bt174 => ((intern_Name.f k t162 t165 4).bind fun bt176 => (if t141 = 1 then (if t149 = 2 then (if t157 = 1 then (if t168 = 1 then (if bt170.2 = true then ((shuttlecockref06_SameFrames.f k bt170.1 (([(⟨(⟨#[98]⟩ : ByteArray), 3⟩ : S45), (⟨(⟨#[99]⟩ : ByteArray), 4⟩ : S45)] : List (S45)))).bind fun t181 => (if t181 = true then (if bt174.1.toList = ([99] : List UInt8) then (if bt174.2 = true then (if bt176.2 = true then (none) else ((intern_May.f k t162 t165).bind fun t182 => (if t182 = true then ((intern_May.f k (([(⟨#[]⟩ : ByteArray)] : List ByteArray)) ([] : List (List (S50)))).bind fun t186 => (some (!t186))) else (none)))) else (none)) else (none)) else (none))) else (none)) else (none)) else (none)) else (none)) else (none))))) = some r := H
 have A4 := Am A40
 clear A40
 replace H := ob H
 obtain ⟨⟨t170, t173⟩, A50, H⟩ := H
 replace H : ((intern_Name.f k t162 t165 3).bind fun bt174 => ((intern_Name.f k t162 t165 4).bind fun bt176 => (if t141 = 1 then (if t149 = 2 then (if t157 = 1 then (if t168 = 1 then (if t173 = true then ((shuttlecockref06_SameFrames.f k t170 (([(⟨(⟨#[98]⟩ : ByteArray), 3⟩ : S45), (⟨(⟨#[99]⟩ : ByteArray), 4⟩ : S45)] : List (S45)))).bind fun t181 => (if t181 = true then (if bt174.1.toList = ([99] : List UInt8) then (if bt174.2 = true then (if bt176.2 = true then (none) else ((intern_May.f k t162 t165).bind fun t182 => (if t182 = true then ((intern_May.f k (([(⟨#[]⟩ : ByteArray)] : List ByteArray)) ([] : List (List (S50)))).bind fun t186 => (some (!t186))) else (none)))) else (none)) else (none)) else (none))) else (none)) else (none)) else (none)) else (none)) else (none)))) = some r := H
 have A5 := Am A50
 clear A50
 replace H := ob H
 obtain ⟨⟨t174, t175⟩, A60, H⟩ := H
 replace H : ((intern_Name.f k t162 t165 4).bind fun bt176 => (if t141 = 1 then (if t149 = 2 then (if t157 = 1 then (if t168 = 1 then (if t173 = true then ((shuttlecockref06_SameFrames.f k t170 (([(⟨(⟨#[98]⟩ : ByteArray), 3⟩ : S45), (⟨(⟨#[99]⟩ : ByteArray), 4⟩ : S45)] : List (S45)))).bind fun t181 => (if t181 = true then (if t174.toList = ([99] : List UInt8) then (if t175 = true then (if bt176.2 = true then (none) else ((intern_May.f k t162 t165).bind fun t182 => (if t182 = true then ((intern_May.f k (([(⟨#[]⟩ : ByteArray)] : List ByteArray)) ([] : List (List (S50)))).bind fun t186 => (some (!t186))) else (none)))) else (none)) else (none)) else (none))) else (none)) else (none)) else (none)) else (none)) else (none))) = some r := H
 have A6 := Am A60
 clear A60
 replace H := ob H
 obtain ⟨⟨t176, t177⟩, A70, H⟩ := H
 replace H : (if t141 = 1 then (if t149 = 2 then (if t157 = 1 then (if t168 = 1 then (if t173 = true then ((shuttlecockref06_SameFrames.f k t170 (([(⟨(⟨#[98]⟩ : ByteArray), 3⟩ : S45), (⟨(⟨#[99]⟩ : ByteArray), 4⟩ : S45)] : List (S45)))).bind fun t181 => (if t181 = true then (if t174.toList = ([99] : List UInt8) then (if t175 = true then (if t177 = true then (none) else ((intern_May.f k t162 t165).bind fun t182 => (if t182 = true then ((intern_May.f k (([(⟨#[]⟩ : ByteArray)] : List ByteArray)) ([] : List (List (S50)))).bind fun t186 => (some (!t186))) else (none)))) else (none)) else (none)) else (none))) else (none)) else (none)) else (none)) else (none)) else (none)) = some r := H
 have A7 := Am A70
 clear A70
 by_cases c8 : t141 = 1
 ·
  rw [if_pos c8] at H
  have c8b0 : (t141 == 1) = true := beq_iff_eq.mpr c8
  have c8b1 : (t141 != 1) = false := bne_eq_false_iff_eq.mpr c8
  clear c8
  by_cases c9 : t149 = 2
  ·
   rw [if_pos c9] at H
   have c9b0 : (t149 == 2) = true := beq_iff_eq.mpr c9
   have c9b1 : (t149 != 2) = false := bne_eq_false_iff_eq.mpr c9
   clear c9
   by_cases c10 : t157 = 1
   ·
    rw [if_pos c10] at H
    have c10b0 : (t157 == 1) = true := beq_iff_eq.mpr c10
    have c10b1 : (t157 != 1) = false := bne_eq_false_iff_eq.mpr c10
    clear c10
    by_cases c11 : t168 = 1
    ·
     rw [if_pos c11] at H
     have c11b0 : (t168 == 1) = true := beq_iff_eq.mpr c11
     have c11b1 : (t168 != 1) = false := bne_eq_false_iff_eq.mpr c11
     clear c11
     by_cases c12 : t173 = true
     ·
      subst c12
      have H1 : ((shuttlecockref06_SameFrames.f k t170 (([(⟨(⟨#[98]⟩ : ByteArray), 3⟩ : S45), (⟨(⟨#[99]⟩ : ByteArray), 4⟩ : S45)] : List (S45)))).bind fun t181 => (if t181 = true then (if t174.toList = ([99] : List UInt8) then (if t175 = true then (if t177 = true then (none) else ((intern_May.f k t162 t165).bind fun t182 => (if t182 = true then ((intern_May.f k (([(⟨#[]⟩ : ByteArray)] : List ByteArray)) ([] : List (List (S50)))).bind fun t186 => (some (!t186))) else (none)))) else (none)) else (none)) else (none))) = some r := by rw [if_pos rfl] at H; exact H
      clear H
      have H := H1
      clear H1
      obtain ⟨y178, hy178⟩ : ∃ y_ : List (S45), y_ = (([(⟨(⟨#[98]⟩ : ByteArray), 3⟩ : S45), (⟨(⟨#[99]⟩ : ByteArray), 4⟩ : S45)] : List (S45))) := ⟨_, rfl⟩
      replace H : ((shuttlecockref06_SameFrames.f k t170 y178).bind fun t181 => (if t181 = true then (if t174.toList = ([99] : List UInt8) then (if t175 = true then (if t177 = true then (none) else ((intern_May.f k t162 t165).bind fun t182 => (if t182 = true then ((intern_May.f k (([(⟨#[]⟩ : ByteArray)] : List ByteArray)) ([] : List (List (S50)))).bind fun t186 => (some (!t186))) else (none)))) else (none)) else (none)) else (none))) = some r := by first | (rw [hy178]; with_reducible exact H) | (have H2_ := (Option.bind_some _ _).symm.trans H; rw [hy178]; with_reducible exact H2_) | (have H2_ := (Option.bind_some _ _).symm.trans H; with_reducible exact H2_) | with_reducible exact H | (rw [hy178]; exact H) | exact H
      have Ny178 := Am hy178
      clear hy178
      replace H := ob H
      obtain ⟨t181, A130, H⟩ := H
      replace H : (if t181 = true then (if t174.toList = ([99] : List UInt8) then (if t175 = true then (if t177 = true then (none) else ((intern_May.f k t162 t165).bind fun t182 => (if t182 = true then ((intern_May.f k (([(⟨#[]⟩ : ByteArray)] : List ByteArray)) ([] : List (List (S50)))).bind fun t186 => (some (!t186))) else (none)))) else (none)) else (none)) else (none)) = some r := H
      have A13 := Am A130
      clear A130
      by_cases c14 : t181 = true
      ·
       subst c14
       have H1 : (if t174.toList = ([99] : List UInt8) then (if t175 = true then (if t177 = true then (none) else ((intern_May.f k t162 t165).bind fun t182 => (if t182 = true then ((intern_May.f k (([(⟨#[]⟩ : ByteArray)] : List ByteArray)) ([] : List (List (S50)))).bind fun t186 => (some (!t186))) else (none)))) else (none)) else (none)) = some r := by rw [if_pos rfl] at H; exact H
       clear H
       have H := H1
       clear H1
       by_cases c15 : t174.toList = ([99] : List UInt8)
       ·
        rw [if_pos c15] at H
        have c15b0 : (t174.toList == ([99] : List UInt8)) = true := beq_iff_eq.mpr c15
        have c15b1 : (t174.toList != ([99] : List UInt8)) = false := bne_eq_false_iff_eq.mpr c15
        clear c15
        by_cases c16 : t175 = true
        ·
         subst c16
         have H1 : (if t177 = true then (none) else ((intern_May.f k t162 t165).bind fun t182 => (if t182 = true then ((intern_May.f k (([(⟨#[]⟩ : ByteArray)] : List ByteArray)) ([] : List (List (S50)))).bind fun t186 => (some (!t186))) else (none)))) = some r := by rw [if_pos rfl] at H; exact H
         clear H
         have H := H1
         clear H1
         by_cases c17 : t177 = true
         ·
          subst c17
          have H1 : (none) = some r := by rw [if_pos rfl] at H; exact H
          clear H
          have H := H1
          clear H1
          exact absurd H (by simp)
         ·
          replace c17 := Bool.eq_false_iff.mpr c17
          subst c17
          have H1 : ((intern_May.f k t162 t165).bind fun t182 => (if t182 = true then ((intern_May.f k (([(⟨#[]⟩ : ByteArray)] : List ByteArray)) ([] : List (List (S50)))).bind fun t186 => (some (!t186))) else (none))) = some r := by rw [if_neg (show ¬ (false = true) by decide)] at H; exact H
          clear H
          have H := H1
          clear H1
          replace H := ob H
          obtain ⟨t182, A180, H⟩ := H
          replace H : (if t182 = true then ((intern_May.f k (([(⟨#[]⟩ : ByteArray)] : List ByteArray)) ([] : List (List (S50)))).bind fun t186 => (some (!t186))) else (none)) = some r := H
          have A18 := Am A180
          clear A180
          by_cases c19 : t182 = true
          ·
           subst c19
           have H1 : ((intern_May.f k (([(⟨#[]⟩ : ByteArray)] : List ByteArray)) ([] : List (List (S50)))).bind fun t186 => (some (!t186))) = some r := by rw [if_pos rfl] at H; exact H
           clear H
           have H := H1
           clear H1
           obtain ⟨y183, hy183⟩ : ∃ y_ : List ByteArray, y_ = (([(⟨#[]⟩ : ByteArray)] : List ByteArray)) := ⟨_, rfl⟩
           replace H : ((intern_May.f k y183 ([] : List (List (S50)))).bind fun t186 => (some (!t186))) = some r := by first | (rw [hy183]; with_reducible exact H) | (have H2_ := (Option.bind_some _ _).symm.trans H; rw [hy183]; with_reducible exact H2_) | (have H2_ := (Option.bind_some _ _).symm.trans H; with_reducible exact H2_) | with_reducible exact H | (rw [hy183]; exact H) | exact H
           have Ny183 := Am hy183
           clear hy183
           replace H := ob H
           obtain ⟨t186, A200, H⟩ := H
           replace H : (some (!t186)) = some r := H
           have A20 := Am A200
           clear A200
           obtain rfl := Option.some.inj H
           go_enter Try.func10, Try.ntmps10
           go_wp2_with (first | ((with_reducible refine gate_callee (f := 11) rfl ?_); refine goesL_ (some 17) rfl rfl Try.func11 (by kernel_rfl) rfl #[.agg #[.slice none 0 0, .slice none 0 0], .string (⟨#[97]⟩ : ByteArray)] rfl (by (try simp only [List.map_toArray, List.map_cons, List.map_nil]); first | done | rfl | (simp only [List.length_drop, List.length_take]; rfl)) ?_; (refine (intern_String.calls k _ _ ([] : List ByteArray) _ _ ([] : List (List (S50))) (⟨#[97]⟩ : ByteArray) t135 t138 t141 _ ?side1 ?side2 ?side3 ?side4 A1.out).mono ?_); (case side1 => exact Kd.C_nil _ _); (case side2 => exact Nat.le_refl _); (case side3 => exact Kd.C_nil _ _); (case side4 => exact Nat.le_refl _); rintro e w21 ⟨v136, v139, rfl, ho0, ho1, hb⟩; refine ⟨_, rfl, ?_⟩; have n0_ := Am (Kd.R_lower ho0 (below_size (by repeat (first | (with_reducible first | exact HB.out | apply bl | apply pN | apply b1) | exact HB.out | exact HBo.out)))); have n1_ := Am (Kd.S_lower ho1 (below_size (by repeat (first | (with_reducible first | exact HB.out | apply bl | apply pN | apply b1) | exact HB.out | exact HBo.out)))); have n2_ := Am (below_step (by repeat (first | (with_reducible first | exact HB.out | apply bl | apply pN | apply b1) | exact HB.out | exact HBo.out)) hb); clear HB; have HO137 := n0_; have HO140 := n1_; have HB := n2_; clear n0_ n1_ n2_; (try clear hb); (try clear hb2); (try clear hk); (try clear hi); (try clear ho0); (try clear ho1)) | ((with_reducible refine gate_dst (N := 1) rfl ?_); (try (refine gate_guard (by rfl) ?_; dsimp only)); refine box_event ?hg (N := 1) ?hd (cs := #[.slice none 0 0, .slice none 0 0]) (t := 25) ?hr ?_; (case hd => rfl); (case hg => rfl); (case hr => first | (go_simp; done) | (go_simp; rfl)); intro gb142 hg w22 hbox hb; have n0_ := Am (Kd.R_below (by (with_reducible repeat (first | apply Kd.R_alloc | apply Kd.R_drewN | apply Kd.R_drew)); exact HO137.out) hb); have n1_ := Am (Kd.S_below (by (with_reducible repeat (first | apply Kd.S_alloc | apply Kd.S_drewN | apply Kd.S_drew)); exact HO140.out) hb); have n2_ := Am (below_step (by repeat (first | (with_reducible first | exact HB.out | apply bl | apply pN | apply b1) | exact HB.out | exact HBo.out)) hb); have n3_ := Am (hbox); have n4_ := Am ((by rw [hg]; exact (below_size (by repeat (first | (with_reducible first | exact HB.out | apply bl | apply pN | apply b1) | exact HB.out | exact HBo.out))) : w.heap.size ≤ gb142)); have n5_ := Am ((by rw [hg]; exact (below_size (by repeat (first | (with_reducible first | exact HB.out | apply bl | apply pN | apply b1) | exact HB.out | exact HBo.out))) : w.heap.size ≤ gb142)); clear HO137; clear HO140; clear HB; have HO137 := n0_; have HO140 := n1_; have HB := n2_; have BK142 := n3_; have GW142 := n4_; have GE142 := n5_; clear n0_ n1_ n2_ n3_ n4_ n5_; clear hb hbox hg; obtain ⟨Ao23, co23, eo23⟩ := Kd.R_slice HO137.out; subst eo23; have hcz24_0 : w22.cell? ⟨gb142, 0, none⟩ = some (.slice none 0 0) := (bc BK142.out 0).trans rfl; have hcz24_1 : w22.cell? ⟨gb142, 1, none⟩ = some (.slice none 0 0) := (bc BK142.out 1).trans rfl; have hfz24_0 := bf BK142.out 0; have hfz24_1 := bf BK142.out 1; obtain ⟨Ao25, co25, eo25⟩ := Kd.S_slice HO140.out; subst eo25) | ((with_reducible refine gate_callee (f := 11) rfl ?_); refine goesL_ (some 22) rfl rfl Try.func11 (by kernel_rfl) rfl #[.agg #[.slice Ao23 t135.length co23, .slice Ao25 t138.length co25], .string (⟨#[98]⟩ : ByteArray)] rfl (by (try simp only [List.map_toArray, List.map_cons, List.map_nil]); first | done | rfl | (simp only [List.length_drop, List.length_take]; rfl)) ?_; (with_reducible refine (intern_String.calls k _ _ t135 _ _ t138 (⟨#[98]⟩ : ByteArray) t143 t146 t149 _ ?side1 ?side2 ?side3 ?side4 A2.out).mono ?_); (case side1 => refine (Kd.R_reads' (e := 9) (base := w.heap.size) (ok := fun k_ => True) (n := t135.length) (c := co23) ?_).2.2; exact (by (with_reducible repeat (first | apply Kd.R_alloc | apply Kd.R_drewN | apply Kd.R_drew)); exact (Kd.R_mono (Kd.R_far (p := ⟨gb142, 1, none⟩) (Kd.R_far (p := ⟨gb142, 0, none⟩) (Kd.R_types HO137.out BK142.out (by decide)) (fun _ hk => hk.2) (.slice Ao23 t135.length co23)) (fun _ hk => hk.2) (.slice Ao25 t138.length co25)) (fun _ h_ => h_.1)))); (case side2 => exact (Kd.R_reads' HO137.out).2.1); (case side3 => refine (Kd.S_reads' (e := 46) (base := w.heap.size) (ok := fun k_ => True) (n := t138.length) (c := co25) ?_).2.2; exact (by (with_reducible repeat (first | apply Kd.S_alloc | apply Kd.S_drewN | apply Kd.S_drew)); exact (Kd.S_mono (Kd.S_far (p := ⟨gb142, 1, none⟩) (Kd.S_far (p := ⟨gb142, 0, none⟩) (Kd.S_types HO140.out BK142.out (by decide)) (fun _ hk => hk.2) (.slice Ao23 t135.length co23)) (fun _ hk => hk.2) (.slice Ao25 t138.length co25)) (fun _ h_ => h_.1)))); (case side4 => exact (Kd.S_reads' HO140.out).2.1); rintro e w26 ⟨v144, v147, rfl, ho0, ho1, hb⟩; refine ⟨_, rfl, ?_⟩; have n0_ := Am (Kd.R_elder' (by (with_reducible repeat (first | apply Kd.R_alloc | apply Kd.R_drewN | apply Kd.R_drew)); exact (Kd.R_mono (Kd.R_far (p := ⟨gb142, 1, none⟩) (Kd.R_far (p := ⟨gb142, 0, none⟩) (Kd.R_types HO137.out BK142.out (by decide)) (fun _ hk => hk.2) (.slice Ao23 t135.length co23)) (fun _ hk => hk.2) (.slice Ao25 t138.length co25)) (fun _ h_ => h_.1))) (Kd.R_base ho0) hb); have n1_ := Am (Kd.S_elder' (by (with_reducible repeat (first | apply Kd.S_alloc | apply Kd.S_drewN | apply Kd.S_drew)); exact (Kd.S_mono (Kd.S_far (p := ⟨gb142, 1, none⟩) (Kd.S_far (p := ⟨gb142, 0, none⟩) (Kd.S_types HO140.out BK142.out (by decide)) (fun _ hk => hk.2) (.slice Ao23 t135.length co23)) (fun _ hk => hk.2) (.slice Ao25 t138.length co25)) (fun _ h_ => h_.1))) (Kd.S_base ho1) hb); have n2_ := Am (Kd.R_lower (Kd.R_new' ho0 (Kd.R_lt (by (with_reducible repeat (first | apply Kd.R_alloc | apply Kd.R_drewN | apply Kd.R_drew)); exact (Kd.R_mono (Kd.R_far (p := ⟨gb142, 1, none⟩) (Kd.R_far (p := ⟨gb142, 0, none⟩) (Kd.R_types HO137.out BK142.out (by decide)) (fun _ hk => hk.2) (.slice Ao23 t135.length co23)) (fun _ hk => hk.2) (.slice Ao25 t138.length co25)) (fun _ h_ => h_.1))))) (below_size (by repeat (first | (with_reducible first | exact HB.out | apply bl | apply pN | apply b1 | refine bs ?_ GE142.out) | exact HB.out | exact HBo.out)))); have n3_ := Am (Kd.S_lower (Kd.S_new' ho1 (Kd.S_lt (by (with_reducible repeat (first | apply Kd.S_alloc | apply Kd.S_drewN | apply Kd.S_drew)); exact (Kd.S_mono (Kd.S_far (p := ⟨gb142, 1, none⟩) (Kd.S_far (p := ⟨gb142, 0, none⟩) (Kd.S_types HO140.out BK142.out (by decide)) (fun _ hk => hk.2) (.slice Ao23 t135.length co23)) (fun _ hk => hk.2) (.slice Ao25 t138.length co25)) (fun _ h_ => h_.1))))) (below_size (by repeat (first | (with_reducible first | exact HB.out | apply bl | apply pN | apply b1 | refine bs ?_ GE142.out) | exact HB.out | exact HBo.out)))); have n4_ := Am (blk_below (g := gb142) (o := .cells #[.slice Ao23 t135.length co23, .slice Ao25 t138.length co25] 25 (0, 0)) (by (with_reducible repeat (first | refine bn ?_ _ | refine bd ?_ | refine ba ?_ _)); refine blk_put (cs := #[.slice Ao23 t135.length co23, .slice none 0 0]) ?_ 1 _ rfl; (with_reducible repeat (first | refine bn ?_ _ | refine bd ?_ | refine ba ?_ _)); refine blk_put (cs := #[.slice none 0 0, .slice none 0 0]) ?_ 0 _ rfl; (with_reducible repeat (first | refine bn ?_ _ | refine bd ?_ | refine ba ?_ _)); exact BK142.out) hb); have n5_ := Am (below_step (by repeat (first | (with_reducible first | exact HB.out | apply bl | apply pN | apply b1 | refine bs ?_ GE142.out) | exact HB.out | exact HBo.out)) hb); clear HO137; clear HO140; clear BK142; clear HB; have HO137 := n0_; have HO140 := n1_; have HO145 := n2_; have HO148 := n3_; have BK142 := n4_; have HB := n5_; clear n0_ n1_ n2_ n3_ n4_ n5_; (try clear hb); (try clear hb2); (try clear hk); (try clear hi); (try clear ho0); (try clear ho1)) | ((with_reducible refine gate_dst (N := 3) rfl ?_); (try (refine gate_guard (by rfl) ?_; dsimp only)); refine box_event ?hg (N := 3) ?hd (cs := #[.slice none 0 0, .slice none 0 0]) (t := 25) ?hr ?_; (case hd => rfl); (case hg => rfl); (case hr => first | (go_simp; done) | (go_simp; rfl)); intro gb150 hg w27 hbox hb; have n0_ := Am (Kd.R_below (by (with_reducible repeat (first | apply Kd.R_alloc | apply Kd.R_drewN | apply Kd.R_drew)); exact HO137.out) hb); have n1_ := Am (Kd.S_below (by (with_reducible repeat (first | apply Kd.S_alloc | apply Kd.S_drewN | apply Kd.S_drew)); exact HO140.out) hb); have n2_ := Am (Kd.R_below (by (with_reducible repeat (first | apply Kd.R_alloc | apply Kd.R_drewN | apply Kd.R_drew)); exact HO145.out) hb); have n3_ := Am (Kd.S_below (by (with_reducible repeat (first | apply Kd.S_alloc | apply Kd.S_drewN | apply Kd.S_drew)); exact HO148.out) hb); have n4_ := Am (blk_below (g := gb142) (o := .cells #[.slice Ao23 t135.length co23, .slice Ao25 t138.length co25] 25 (0, 0)) (by (with_reducible repeat (first | refine bn ?_ _ | refine bd ?_ | refine ba ?_ _)); exact BK142.out) hb); have n5_ := Am (below_step (by repeat (first | (with_reducible first | exact HB.out | apply bl | apply pN | apply b1 | refine bs ?_ GE142.out) | exact HB.out | exact HBo.out)) hb); have n6_ := Am (hbox); have n7_ := Am ((by rw [hg]; exact (below_size (by repeat (first | (with_reducible first | exact HB.out | apply bl | apply pN | apply b1 | refine bs ?_ GE142.out) | exact HB.out | exact HBo.out))) : w.heap.size ≤ gb150)); have n8_ := Am ((by rw [hg]; exact (below_size (by repeat (first | (with_reducible first | exact HB.out | apply bl | apply pN | apply b1 | refine bs ?_ GE142.out) | exact HB.out | exact HBo.out))) : w.heap.size ≤ gb150)); have n9_ := Am ((by rw [hg]; exact Nat.ne_of_lt (blk_lt (g := gb142) (o := .cells #[.slice Ao23 t135.length co23, .slice Ao25 t138.length co25] 25 (0, 0)) (by (with_reducible repeat (first | refine bn ?_ _ | refine bd ?_ | refine ba ?_ _)); exact BK142.out)) : gb142 ≠ gb150)); have n10_ := Am ((by rw [hg]; exact Nat.ne_of_gt (blk_lt (g := gb142) (o := .cells #[.slice Ao23 t135.length co23, .slice Ao25 t138.length co25] 25 (0, 0)) (by (with_reducible repeat (first | refine bn ?_ _ | refine bd ?_ | refine ba ?_ _)); exact BK142.out)) : gb150 ≠ gb142)); clear HO137; clear HO140; clear HO145; clear HO148; clear BK142; clear HB; have HO137 := n0_; have HO140 := n1_; have HO145 := n2_; have HO148 := n3_; have BK142 := n4_; have HB := n5_; have BK150 := n6_; have GW150 := n7_; have GE150 := n8_; have NB142_150 := n9_; have NB150_142 := n10_; clear n0_ n1_ n2_ n3_ n4_ n5_ n6_ n7_ n8_ n9_ n10_; clear hb hbox hg; obtain ⟨Ao28, co28, eo28⟩ := Kd.R_slice HO145.out; subst eo28; have hnb29 := NB150_142.out; have hnc29 := NB142_150.out; have hcz30_0 : w27.cell? ⟨gb150, 0, none⟩ = some (.slice none 0 0) := (bc BK150.out 0).trans rfl; have hcz30_1 : w27.cell? ⟨gb150, 1, none⟩ = some (.slice none 0 0) := (bc BK150.out 1).trans rfl; have hfz30_0 := bf BK150.out 0; have hfz30_1 := bf BK150.out 1; obtain ⟨Ao31, co31, eo31⟩ := Kd.S_slice HO148.out; subst eo31) | ((with_reducible refine gate_callee (f := 11) rfl ?_); refine goesL_ (some 27) rfl rfl Try.func11 (by kernel_rfl) rfl #[.agg #[.slice Ao28 t143.length co28, .slice Ao31 t146.length co31], .string (⟨#[97]⟩ : ByteArray)] rfl (by (try simp only [List.map_toArray, List.map_cons, List.map_nil]); first | done | rfl | (simp only [List.length_drop, List.length_take]; rfl)) ?_; (with_reducible refine (intern_String.calls k _ _ t143 _ _ t146 (⟨#[97]⟩ : ByteArray) t151 t154 t157 _ ?side1 ?side2 ?side3 ?side4 A3.out).mono ?_); (case side1 => refine (Kd.R_reads' (e := 9) (base := w.heap.size) (ok := fun k_ => (True ∧ some k_ ≠ (.slice Ao23 t135.length co23 : Value).ownBlock)) (n := t143.length) (c := co28) ?_).2.2; exact (by (with_reducible repeat (first | apply Kd.R_alloc | apply Kd.R_drewN | apply Kd.R_drew)); exact (Kd.R_mono (Kd.R_far (p := ⟨gb150, 1, none⟩) (Kd.R_far (p := ⟨gb150, 0, none⟩) (Kd.R_types HO145.out BK150.out (by decide)) (fun _ hk => hk.2) (.slice Ao28 t143.length co28)) (fun _ hk => hk.2) (.slice Ao31 t146.length co31)) (fun _ h_ => h_.1)))); (case side2 => exact (Kd.R_reads' HO145.out).2.1); (case side3 => refine (Kd.S_reads' (e := 46) (base := w.heap.size) (ok := fun k_ => (True ∧ some k_ ≠ (.slice Ao25 t138.length co25 : Value).ownBlock)) (n := t146.length) (c := co31) ?_).2.2; exact (by (with_reducible repeat (first | apply Kd.S_alloc | apply Kd.S_drewN | apply Kd.S_drew)); exact (Kd.S_mono (Kd.S_far (p := ⟨gb150, 1, none⟩) (Kd.S_far (p := ⟨gb150, 0, none⟩) (Kd.S_types HO148.out BK150.out (by decide)) (fun _ hk => hk.2) (.slice Ao28 t143.length co28)) (fun _ hk => hk.2) (.slice Ao31 t146.length co31)) (fun _ h_ => h_.1)))); (case side4 => exact (Kd.S_reads' HO148.out).2.1); rintro e w32 ⟨v152, v155, rfl, ho0, ho1, hb⟩; refine ⟨_, rfl, ?_⟩; have n0_ := Am (Kd.R_elder' (by (with_reducible repeat (first | apply Kd.R_alloc | apply Kd.R_drewN | apply Kd.R_drew)); exact (Kd.R_mono (Kd.R_far (p := ⟨gb150, 1, none⟩) (Kd.R_far (p := ⟨gb150, 0, none⟩) (Kd.R_types HO137.out BK150.out (by decide)) (fun _ hk => hk.2) (.slice Ao28 t143.length co28)) (fun _ hk => hk.2) (.slice Ao31 t146.length co31)) (fun _ h_ => h_.1))) (Kd.R_base ho0) hb); have n1_ := Am (Kd.S_elder' (by (with_reducible repeat (first | apply Kd.S_alloc | apply Kd.S_drewN | apply Kd.S_drew)); exact (Kd.S_mono (Kd.S_far (p := ⟨gb150, 1, none⟩) (Kd.S_far (p := ⟨gb150, 0, none⟩) (Kd.S_types HO140.out BK150.out (by decide)) (fun _ hk => hk.2) (.slice Ao28 t143.length co28)) (fun _ hk => hk.2) (.slice Ao31 t146.length co31)) (fun _ h_ => h_.1))) (Kd.S_base ho1) hb); have n2_ := Am (Kd.R_elder' (by (with_reducible repeat (first | apply Kd.R_alloc | apply Kd.R_drewN | apply Kd.R_drew)); exact (Kd.R_mono (Kd.R_far (p := ⟨gb150, 1, none⟩) (Kd.R_far (p := ⟨gb150, 0, none⟩) (Kd.R_types HO145.out BK150.out (by decide)) (fun _ hk => hk.2) (.slice Ao28 t143.length co28)) (fun _ hk => hk.2) (.slice Ao31 t146.length co31)) (fun _ h_ => h_.1))) (Kd.R_base ho0) hb); have n3_ := Am (Kd.S_elder' (by (with_reducible repeat (first | apply Kd.S_alloc | apply Kd.S_drewN | apply Kd.S_drew)); exact (Kd.S_mono (Kd.S_far (p := ⟨gb150, 1, none⟩) (Kd.S_far (p := ⟨gb150, 0, none⟩) (Kd.S_types HO148.out BK150.out (by decide)) (fun _ hk => hk.2) (.slice Ao28 t143.length co28)) (fun _ hk => hk.2) (.slice Ao31 t146.length co31)) (fun _ h_ => h_.1))) (Kd.S_base ho1) hb); have n4_ := Am (Kd.R_lower (Kd.R_new' (Kd.R_new' ho0 (Kd.R_lt (by (with_reducible repeat (first | apply Kd.R_alloc | apply Kd.R_drewN | apply Kd.R_drew)); exact (Kd.R_mono (Kd.R_far (p := ⟨gb150, 1, none⟩) (Kd.R_far (p := ⟨gb150, 0, none⟩) (Kd.R_types HO137.out BK150.out (by decide)) (fun _ hk => hk.2) (.slice Ao28 t143.length co28)) (fun _ hk => hk.2) (.slice Ao31 t146.length co31)) (fun _ h_ => h_.1))))) (Kd.R_lt (by (with_reducible repeat (first | apply Kd.R_alloc | apply Kd.R_drewN | apply Kd.R_drew)); exact (Kd.R_mono (Kd.R_far (p := ⟨gb150, 1, none⟩) (Kd.R_far (p := ⟨gb150, 0, none⟩) (Kd.R_types HO145.out BK150.out (by decide)) (fun _ hk => hk.2) (.slice Ao28 t143.length co28)) (fun _ hk => hk.2) (.slice Ao31 t146.length co31)) (fun _ h_ => h_.1))))) (below_size (by repeat (first | (with_reducible first | exact HB.out | apply bl | apply pN | apply b1 | refine bs ?_ GE142.out | refine bs ?_ GE150.out) | exact HB.out | exact HBo.out)))); have n5_ := Am (Kd.S_lower (Kd.S_new' (Kd.S_new' ho1 (Kd.S_lt (by (with_reducible repeat (first | apply Kd.S_alloc | apply Kd.S_drewN | apply Kd.S_drew)); exact (Kd.S_mono (Kd.S_far (p := ⟨gb150, 1, none⟩) (Kd.S_far (p := ⟨gb150, 0, none⟩) (Kd.S_types HO140.out BK150.out (by decide)) (fun _ hk => hk.2) (.slice Ao28 t143.length co28)) (fun _ hk => hk.2) (.slice Ao31 t146.length co31)) (fun _ h_ => h_.1))))) (Kd.S_lt (by (with_reducible repeat (first | apply Kd.S_alloc | apply Kd.S_drewN | apply Kd.S_drew)); exact (Kd.S_mono (Kd.S_far (p := ⟨gb150, 1, none⟩) (Kd.S_far (p := ⟨gb150, 0, none⟩) (Kd.S_types HO148.out BK150.out (by decide)) (fun _ hk => hk.2) (.slice Ao28 t143.length co28)) (fun _ hk => hk.2) (.slice Ao31 t146.length co31)) (fun _ h_ => h_.1))))) (below_size (by repeat (first | (with_reducible first | exact HB.out | apply bl | apply pN | apply b1 | refine bs ?_ GE142.out | refine bs ?_ GE150.out) | exact HB.out | exact HBo.out)))); have n6_ := Am (blk_below (g := gb142) (o := .cells #[.slice Ao23 t135.length co23, .slice Ao25 t138.length co25] 25 (0, 0)) (by (with_reducible repeat (first | refine bn ?_ _ | refine bd ?_ | refine ba ?_ _)); refine blk_far ?_ NB142_150.out _; (with_reducible repeat (first | refine bn ?_ _ | refine bd ?_ | refine ba ?_ _)); refine blk_far ?_ NB142_150.out _; (with_reducible repeat (first | refine bn ?_ _ | refine bd ?_ | refine ba ?_ _)); exact BK142.out) hb); have n7_ := Am (blk_below (g := gb150) (o := .cells #[.slice Ao28 t143.length co28, .slice Ao31 t146.length co31] 25 (0, 0)) (by (with_reducible repeat (first | refine bn ?_ _ | refine bd ?_ | refine ba ?_ _)); refine blk_put (cs := #[.slice Ao28 t143.length co28, .slice none 0 0]) ?_ 1 _ rfl; (with_reducible repeat (first | refine bn ?_ _ | refine bd ?_ | refine ba ?_ _)); refine blk_put (cs := #[.slice none 0 0, .slice none 0 0]) ?_ 0 _ rfl; (with_reducible repeat (first | refine bn ?_ _ | refine bd ?_ | refine ba ?_ _)); exact BK150.out) hb); have n8_ := Am (below_step (by repeat (first | (with_reducible first | exact HB.out | apply bl | apply pN | apply b1 | refine bs ?_ GE142.out | refine bs ?_ GE150.out) | exact HB.out | exact HBo.out)) hb); clear HO137; clear HO140; clear HO145; clear HO148; clear BK142; clear BK150; clear HB; have HO137 := n0_; have HO140 := n1_; have HO145 := n2_; have HO148 := n3_; have HO153 := n4_; have HO156 := n5_; have BK142 := n6_; have BK150 := n7_; have HB := n8_; clear n0_ n1_ n2_ n3_ n4_ n5_ n6_ n7_ n8_; (try clear hb); (try clear hb2); (try clear hk); (try clear hi); (try clear ho0); (try clear ho1)) | ((with_reducible refine gate_dst (N := 5) rfl ?_); (try (refine gate_guard (by rfl) ?_; dsimp only)); refine box_event ?hg (N := 5) ?hd (cs := #[.slice none 0 0, .slice none 0 0]) (t := 25) ?hr ?_; (case hd => rfl); (case hg => rfl); (case hr => first | (go_simp; done) | (go_simp; rfl)); intro gb158 hg w33 hbox hb; have n0_ := Am (Kd.R_below (by (with_reducible repeat (first | apply Kd.R_alloc | apply Kd.R_drewN | apply Kd.R_drew)); exact HO137.out) hb); have n1_ := Am (Kd.S_below (by (with_reducible repeat (first | apply Kd.S_alloc | apply Kd.S_drewN | apply Kd.S_drew)); exact HO140.out) hb); have n2_ := Am (Kd.R_below (by (with_reducible repeat (first | apply Kd.R_alloc | apply Kd.R_drewN | apply Kd.R_drew)); exact HO145.out) hb); have n3_ := Am (Kd.S_below (by (with_reducible repeat (first | apply Kd.S_alloc | apply Kd.S_drewN | apply Kd.S_drew)); exact HO148.out) hb); have n4_ := Am (Kd.R_below (by (with_reducible repeat (first | apply Kd.R_alloc | apply Kd.R_drewN | apply Kd.R_drew)); exact HO153.out) hb); have n5_ := Am (Kd.S_below (by (with_reducible repeat (first | apply Kd.S_alloc | apply Kd.S_drewN | apply Kd.S_drew)); exact HO156.out) hb); have n6_ := Am (blk_below (g := gb142) (o := .cells #[.slice Ao23 t135.length co23, .slice Ao25 t138.length co25] 25 (0, 0)) (by (with_reducible repeat (first | refine bn ?_ _ | refine bd ?_ | refine ba ?_ _)); exact BK142.out) hb); have n7_ := Am (blk_below (g := gb150) (o := .cells #[.slice Ao28 t143.length co28, .slice Ao31 t146.length co31] 25 (0, 0)) (by (with_reducible repeat (first | refine bn ?_ _ | refine bd ?_ | refine ba ?_ _)); exact BK150.out) hb); have n8_ := Am (below_step (by repeat (first | (with_reducible first | exact HB.out | apply bl | apply pN | apply b1 | refine bs ?_ GE142.out | refine bs ?_ GE150.out) | exact HB.out | exact HBo.out)) hb); have n9_ := Am (hbox); have n10_ := Am ((by rw [hg]; exact (below_size (by repeat (first | (with_reducible first | exact HB.out | apply bl | apply pN | apply b1 | refine bs ?_ GE142.out | refine bs ?_ GE150.out) | exact HB.out | exact HBo.out))) : w.heap.size ≤ gb158)); have n11_ := Am ((by rw [hg]; exact (below_size (by repeat (first | (with_reducible first | exact HB.out | apply bl | apply pN | apply b1 | refine bs ?_ GE142.out | refine bs ?_ GE150.out) | exact HB.out | exact HBo.out))) : w.heap.size ≤ gb158)); have n12_ := Am ((by rw [hg]; exact Nat.ne_of_lt (blk_lt (g := gb142) (o := .cells #[.slice Ao23 t135.length co23, .slice Ao25 t138.length co25] 25 (0, 0)) (by (with_reducible repeat (first | refine bn ?_ _ | refine bd ?_ | refine ba ?_ _)); exact BK142.out)) : gb142 ≠ gb158)); have n13_ := Am ((by rw [hg]; exact Nat.ne_of_gt (blk_lt (g := gb142) (o := .cells #[.slice Ao23 t135.length co23, .slice Ao25 t138.length co25] 25 (0, 0)) (by (with_reducible repeat (first | refine bn ?_ _ | refine bd ?_ | refine ba ?_ _)); exact BK142.out)) : gb158 ≠ gb142)); have n14_ := Am ((by rw [hg]; exact Nat.ne_of_lt (blk_lt (g := gb150) (o := .cells #[.slice Ao28 t143.length co28, .slice Ao31 t146.length co31] 25 (0, 0)) (by (with_reducible repeat (first | refine bn ?_ _ | refine bd ?_ | refine ba ?_ _)); exact BK150.out)) : gb150 ≠ gb158)); have n15_ := Am ((by rw [hg]; exact Nat.ne_of_gt (blk_lt (g := gb150) (o := .cells #[.slice Ao28 t143.length co28, .slice Ao31 t146.length co31] 25 (0, 0)) (by (with_reducible repeat (first | refine bn ?_ _ | refine bd ?_ | refine ba ?_ _)); exact BK150.out)) : gb158 ≠ gb150)); clear HO137; clear HO140; clear HO145; clear HO148; clear HO153; clear HO156; clear BK142; clear BK150; clear HB; have HO137 := n0_; have HO140 := n1_; have HO145 := n2_; have HO148 := n3_; have HO153 := n4_; have HO156 := n5_; have BK142 := n6_; have BK150 := n7_; have HB := n8_; have BK158 := n9_; have GW158 := n10_; have GE158 := n11_; have NB142_158 := n12_; have NB158_142 := n13_; have NB150_158 := n14_; have NB158_150 := n15_; clear n0_ n1_ n2_ n3_ n4_ n5_ n6_ n7_ n8_ n9_ n10_ n11_ n12_ n13_ n14_ n15_; clear hb hbox hg; obtain ⟨Ao34, co34, eo34⟩ := Kd.R_slice HO153.out; subst eo34; have hnb35 := NB158_142.out; have hnc35 := NB142_158.out; have hnb36 := NB158_150.out; have hnc36 := NB150_158.out; have hcz37_0 : w33.cell? ⟨gb158, 0, none⟩ = some (.slice none 0 0) := (bc BK158.out 0).trans rfl; have hcz37_1 : w33.cell? ⟨gb158, 1, none⟩ = some (.slice none 0 0) := (bc BK158.out 1).trans rfl; have hfz37_0 := bf BK158.out 0; have hfz37_1 := bf BK158.out 1; obtain ⟨Ao38, co38, eo38⟩ := Kd.S_slice HO156.out; subst eo38; have hcz39_0 : w33.cell? ⟨gb150, 0, none⟩ = some (.slice Ao28 t143.length co28) := (bc BK150.out 0).trans rfl; have hcz39_1 : w33.cell? ⟨gb150, 1, none⟩ = some (.slice Ao31 t146.length co31) := (bc BK150.out 1).trans rfl; have hfz39_0 := bf BK150.out 0; have hfz39_1 := bf BK150.out 1) | ((with_reducible refine gate_dst (N := 34) rfl ?_); (try (refine gate_guard (by rfl) ?_; dsimp only)); refine Kd.R_lit k45 _ 45 ?hg (N := 34) ?hd (xs := ([(⟨(⟨#[98]⟩ : ByteArray), 3⟩ : S45), (⟨(⟨#[99]⟩ : ByteArray), 4⟩ : S45)] : List (S45))) (inner := [.string (⟨#[98]⟩ : ByteArray), .int .i64 3, .string (⟨#[99]⟩ : ByteArray), .int .i64 4]) (ok := fun _ => True) (okp := fun _ => True) ?hr ?hp (fun _ hk => hk) trivial (Below.refl _ _) (Nat.le_refl _) (by simp) ?_; (case hd => rfl); (case hg => rfl); (case hr => first | (go_simp; done) | (go_simp; rfl)); (case hp => exact (Reps.c2 (show Kd.M k45 _ _ _ (⟨(⟨#[98]⟩ : ByteArray), 3⟩ : S45) [.string (⟨#[98]⟩ : ByteArray), .int .i64 3] from (k45_mkM _ _ _ (⟨(⟨#[98]⟩ : ByteArray), 3⟩ : S45) )) (Reps.c2 (show Kd.M k45 _ _ _ (⟨(⟨#[99]⟩ : ByteArray), 4⟩ : S45) [.string (⟨#[99]⟩ : ByteArray), .int .i64 4] from (k45_mkM _ _ _ (⟨(⟨#[99]⟩ : ByteArray), 4⟩ : S45) )) (Reps.none _ _)))); intro v160 w40 ho41 hb hg_ hnew_; clear hg_ hnew_; (first | rw [← Ny159.out] at ho41 | (simp only [Int.reduceToNat] at ho41; rw [← Ny159.out] at ho41)); have n0_ := Am (Kd.R_below (by (with_reducible repeat (first | apply Kd.R_alloc | apply Kd.R_drewN | apply Kd.R_drew)); exact (Kd.R_mono (Kd.R_far (p := ⟨gb158, 1, none⟩) (Kd.R_far (p := ⟨gb158, 0, none⟩) (Kd.R_types HO137.out BK158.out (by decide)) (fun _ hk => hk.2) (.slice Ao34 t151.length co34)) (fun _ hk => hk.2) (.slice Ao38 t154.length co38)) (fun _ h_ => h_.1))) hb); have n1_ := Am (Kd.S_below (by (with_reducible repeat (first | apply Kd.S_alloc | apply Kd.S_drewN | apply Kd.S_drew)); exact (Kd.S_mono (Kd.S_far (p := ⟨gb158, 1, none⟩) (Kd.S_far (p := ⟨gb158, 0, none⟩) (Kd.S_types HO140.out BK158.out (by decide)) (fun _ hk => hk.2) (.slice Ao34 t151.length co34)) (fun _ hk => hk.2) (.slice Ao38 t154.length co38)) (fun _ h_ => h_.1))) hb); have n2_ := Am (Kd.R_below (by (with_reducible repeat (first | apply Kd.R_alloc | apply Kd.R_drewN | apply Kd.R_drew)); exact (Kd.R_mono (Kd.R_far (p := ⟨gb158, 1, none⟩) (Kd.R_far (p := ⟨gb158, 0, none⟩) (Kd.R_types HO145.out BK158.out (by decide)) (fun _ hk => hk.2) (.slice Ao34 t151.length co34)) (fun _ hk => hk.2) (.slice Ao38 t154.length co38)) (fun _ h_ => h_.1))) hb); have n3_ := Am (Kd.S_below (by (with_reducible repeat (first | apply Kd.S_alloc | apply Kd.S_drewN | apply Kd.S_drew)); exact (Kd.S_mono (Kd.S_far (p := ⟨gb158, 1, none⟩) (Kd.S_far (p := ⟨gb158, 0, none⟩) (Kd.S_types HO148.out BK158.out (by decide)) (fun _ hk => hk.2) (.slice Ao34 t151.length co34)) (fun _ hk => hk.2) (.slice Ao38 t154.length co38)) (fun _ h_ => h_.1))) hb); have n4_ := Am (Kd.R_below (by (with_reducible repeat (first | apply Kd.R_alloc | apply Kd.R_drewN | apply Kd.R_drew)); exact (Kd.R_mono (Kd.R_far (p := ⟨gb158, 1, none⟩) (Kd.R_far (p := ⟨gb158, 0, none⟩) (Kd.R_types HO153.out BK158.out (by decide)) (fun _ hk => hk.2) (.slice Ao34 t151.length co34)) (fun _ hk => hk.2) (.slice Ao38 t154.length co38)) (fun _ h_ => h_.1))) hb); have n5_ := Am (Kd.S_below (by (with_reducible repeat (first | apply Kd.S_alloc | apply Kd.S_drewN | apply Kd.S_drew)); exact (Kd.S_mono (Kd.S_far (p := ⟨gb158, 1, none⟩) (Kd.S_far (p := ⟨gb158, 0, none⟩) (Kd.S_types HO156.out BK158.out (by decide)) (fun _ hk => hk.2) (.slice Ao34 t151.length co34)) (fun _ hk => hk.2) (.slice Ao38 t154.length co38)) (fun _ h_ => h_.1))) hb); have n6_ := Am (Kd.R_lower ho41 (below_size (by repeat (first | (with_reducible first | exact HB.out | apply bl | apply pN | apply b1 | refine bs ?_ GE142.out | refine bs ?_ GE150.out | refine bs ?_ GE158.out) | exact HB.out | exact HBo.out)))); have n7_ := Am (blk_below (g := gb142) (o := .cells #[.slice Ao23 t135.length co23, .slice Ao25 t138.length co25] 25 (0, 0)) (by (with_reducible repeat (first | refine bn ?_ _ | refine bd ?_ | refine ba ?_ _)); refine blk_far ?_ NB142_158.out _; (with_reducible repeat (first | refine bn ?_ _ | refine bd ?_ | refine ba ?_ _)); refine blk_far ?_ NB142_158.out _; (with_reducible repeat (first | refine bn ?_ _ | refine bd ?_ | refine ba ?_ _)); exact BK142.out) hb); have n8_ := Am (blk_below (g := gb150) (o := .cells #[.slice Ao28 t143.length co28, .slice Ao31 t146.length co31] 25 (0, 0)) (by (with_reducible repeat (first | refine bn ?_ _ | refine bd ?_ | refine ba ?_ _)); refine blk_far ?_ NB150_158.out _; (with_reducible repeat (first | refine bn ?_ _ | refine bd ?_ | refine ba ?_ _)); refine blk_far ?_ NB150_158.out _; (with_reducible repeat (first | refine bn ?_ _ | refine bd ?_ | refine ba ?_ _)); exact BK150.out) hb); have n9_ := Am (blk_below (g := gb158) (o := .cells #[.slice Ao34 t151.length co34, .slice Ao38 t154.length co38] 25 (0, 0)) (by (with_reducible repeat (first | refine bn ?_ _ | refine bd ?_ | refine ba ?_ _)); refine blk_put (cs := #[.slice Ao34 t151.length co34, .slice none 0 0]) ?_ 1 _ rfl; (with_reducible repeat (first | refine bn ?_ _ | refine bd ?_ | refine ba ?_ _)); refine blk_put (cs := #[.slice none 0 0, .slice none 0 0]) ?_ 0 _ rfl; (with_reducible repeat (first | refine bn ?_ _ | refine bd ?_ | refine ba ?_ _)); exact BK158.out) hb); have n10_ := Am (below_step (by repeat (first | (with_reducible first | exact HB.out | apply bl | apply pN | apply b1 | refine bs ?_ GE142.out | refine bs ?_ GE150.out | refine bs ?_ GE158.out) | exact HB.out | exact HBo.out)) hb); clear HO137; clear HO140; clear HO145; clear HO148; clear HO153; clear HO156; clear BK142; clear BK150; clear BK158; clear HB; have HO137 := n0_; have HO140 := n1_; have HO145 := n2_; have HO148 := n3_; have HO153 := n4_; have HO156 := n5_; have HO161 := n6_; have BK142 := n7_; have BK150 := n8_; have BK158 := n9_; have HB := n10_; clear n0_ n1_ n2_ n3_ n4_ n5_ n6_ n7_ n8_ n9_ n10_; clear hb ho41; obtain ⟨Ao42, co42, eo42⟩ := Kd.R_slice HO161.out; subst eo42) | ((with_reducible refine gate_callee (f := 13) rfl ?_); refine goesL_ (some 35) rfl rfl Try.func13 (by kernel_rfl) rfl #[.agg #[.slice Ao28 t143.length co28, .slice Ao31 t146.length co31], .slice Ao42 y159.length co42] rfl (by (try simp only [List.map_toArray, List.map_cons, List.map_nil]); first | done | rfl | (simp only [List.length_drop, List.length_take]; rfl)) ?_; (with_reducible refine (intern_Stack.calls k _ _ t143 _ _ t146 _ _ y159 t162 t165 t168 _ ?side1 ?side2 ?side3 ?side4 ?side5 ?side6 A4.out).mono ?_); (case side1 => repeat (first | exact (Kd.R_reads' HO145.out).2.2 | (with_reducible refine Kd.C_alloc ?_ _) | (with_reducible refine Kd.C_drewN ?_ _) | (with_reducible refine Kd.C_drew ?_))); (case side2 => exact (Kd.R_reads' HO145.out).2.1); (case side3 => repeat (first | exact (Kd.S_reads' HO148.out).2.2 | (with_reducible refine Kd.C_alloc ?_ _) | (with_reducible refine Kd.C_drewN ?_ _) | (with_reducible refine Kd.C_drew ?_))); (case side4 => exact (Kd.S_reads' HO148.out).2.1); (case side5 => repeat (first | exact (Kd.R_reads' HO161.out).2.2 | (with_reducible refine Kd.C_alloc ?_ _) | (with_reducible refine Kd.C_drewN ?_ _) | (with_reducible refine Kd.C_drew ?_))); (case side6 => exact (Kd.R_reads' HO161.out).2.1); rintro e w43 ⟨v163, v166, rfl, ho0, ho1, hb⟩; refine ⟨_, rfl, ?_⟩; have n0_ := Am (Kd.R_elder' (by (with_reducible repeat (first | apply Kd.R_alloc | apply Kd.R_drewN | apply Kd.R_drew)); exact HO137.out) (Kd.R_base ho0) hb); have n1_ := Am (Kd.S_elder' (by (with_reducible repeat (first | apply Kd.S_alloc | apply Kd.S_drewN | apply Kd.S_drew)); exact HO140.out) (Kd.S_base ho1) hb); have n2_ := Am (Kd.R_elder' (by (with_reducible repeat (first | apply Kd.R_alloc | apply Kd.R_drewN | apply Kd.R_drew)); exact HO145.out) (Kd.R_base ho0) hb); have n3_ := Am (Kd.S_elder' (by (with_reducible repeat (first | apply Kd.S_alloc | apply Kd.S_drewN | apply Kd.S_drew)); exact HO148.out) (Kd.S_base ho1) hb); have n4_ := Am (Kd.R_elder' (by (with_reducible repeat (first | apply Kd.R_alloc | apply Kd.R_drewN | apply Kd.R_drew)); exact HO153.out) (Kd.R_base ho0) hb); have n5_ := Am (Kd.S_elder' (by (with_reducible repeat (first | apply Kd.S_alloc | apply Kd.S_drewN | apply Kd.S_drew)); exact HO156.out) (Kd.S_base ho1) hb); have n6_ := Am (Kd.R_below (by (with_reducible repeat (first | apply Kd.R_alloc | apply Kd.R_drewN | apply Kd.R_drew)); exact HO161.out) hb); have n7_ := Am (Kd.R_lower (Kd.R_new' (Kd.R_new' (Kd.R_new' ho0 (Kd.R_lt (by (with_reducible repeat (first | apply Kd.R_alloc | apply Kd.R_drewN | apply Kd.R_drew)); exact HO137.out))) (Kd.R_lt (by (with_reducible repeat (first | apply Kd.R_alloc | apply Kd.R_drewN | apply Kd.R_drew)); exact HO145.out))) (Kd.R_lt (by (with_reducible repeat (first | apply Kd.R_alloc | apply Kd.R_drewN | apply Kd.R_drew)); exact HO153.out))) (below_size (by repeat (first | (with_reducible first | exact HB.out | apply bl | apply pN | apply b1 | refine bs ?_ GE142.out | refine bs ?_ GE150.out | refine bs ?_ GE158.out) | exact HB.out | exact HBo.out)))); have n8_ := Am (Kd.S_lower (Kd.S_new' (Kd.S_new' (Kd.S_new' ho1 (Kd.S_lt (by (with_reducible repeat (first | apply Kd.S_alloc | apply Kd.S_drewN | apply Kd.S_drew)); exact HO140.out))) (Kd.S_lt (by (with_reducible repeat (first | apply Kd.S_alloc | apply Kd.S_drewN | apply Kd.S_drew)); exact HO148.out))) (Kd.S_lt (by (with_reducible repeat (first | apply Kd.S_alloc | apply Kd.S_drewN | apply Kd.S_drew)); exact HO156.out))) (below_size (by repeat (first | (with_reducible first | exact HB.out | apply bl | apply pN | apply b1 | refine bs ?_ GE142.out | refine bs ?_ GE150.out | refine bs ?_ GE158.out) | exact HB.out | exact HBo.out)))); have n9_ := Am (blk_below (g := gb142) (o := .cells #[.slice Ao23 t135.length co23, .slice Ao25 t138.length co25] 25 (0, 0)) (by (with_reducible repeat (first | refine bn ?_ _ | refine bd ?_ | refine ba ?_ _)); exact BK142.out) hb); have n10_ := Am (blk_below (g := gb150) (o := .cells #[.slice Ao28 t143.length co28, .slice Ao31 t146.length co31] 25 (0, 0)) (by (with_reducible repeat (first | refine bn ?_ _ | refine bd ?_ | refine ba ?_ _)); exact BK150.out) hb); have n11_ := Am (blk_below (g := gb158) (o := .cells #[.slice Ao34 t151.length co34, .slice Ao38 t154.length co38] 25 (0, 0)) (by (with_reducible repeat (first | refine bn ?_ _ | refine bd ?_ | refine ba ?_ _)); exact BK158.out) hb); have n12_ := Am (below_step (by repeat (first | (with_reducible first | exact HB.out | apply bl | apply pN | apply b1 | refine bs ?_ GE142.out | refine bs ?_ GE150.out | refine bs ?_ GE158.out) | exact HB.out | exact HBo.out)) hb); clear HO137; clear HO140; clear HO145; clear HO148; clear HO153; clear HO156; clear HO161; clear BK142; clear BK150; clear BK158; clear HB; have HO137 := n0_; have HO140 := n1_; have HO145 := n2_; have HO148 := n3_; have HO153 := n4_; have HO156 := n5_; have HO161 := n6_; have HO164 := n7_; have HO167 := n8_; have BK142 := n9_; have BK150 := n10_; have BK158 := n11_; have HB := n12_; clear n0_ n1_ n2_ n3_ n4_ n5_ n6_ n7_ n8_ n9_ n10_ n11_ n12_; (try clear hb); (try clear hb2); (try clear hk); (try clear hi); (try clear ho0); (try clear ho1)) | ((with_reducible refine gate_dst (N := 7) rfl ?_); (try (refine gate_guard (by rfl) ?_; dsimp only)); refine box_event ?hg (N := 7) ?hd (cs := #[.slice none 0 0, .slice none 0 0]) (t := 25) ?hr ?_; (case hd => rfl); (case hg => rfl); (case hr => first | (go_simp; done) | (go_simp; rfl)); intro gb169 hg w44 hbox hb; have n0_ := Am (Kd.R_below (by (with_reducible repeat (first | apply Kd.R_alloc | apply Kd.R_drewN | apply Kd.R_drew)); exact HO137.out) hb); have n1_ := Am (Kd.S_below (by (with_reducible repeat (first | apply Kd.S_alloc | apply Kd.S_drewN | apply Kd.S_drew)); exact HO140.out) hb); have n2_ := Am (Kd.R_below (by (with_reducible repeat (first | apply Kd.R_alloc | apply Kd.R_drewN | apply Kd.R_drew)); exact HO145.out) hb); have n3_ := Am (Kd.S_below (by (with_reducible repeat (first | apply Kd.S_alloc | apply Kd.S_drewN | apply Kd.S_drew)); exact HO148.out) hb); have n4_ := Am (Kd.R_below (by (with_reducible repeat (first | apply Kd.R_alloc | apply Kd.R_drewN | apply Kd.R_drew)); exact HO153.out) hb); have n5_ := Am (Kd.S_below (by (with_reducible repeat (first | apply Kd.S_alloc | apply Kd.S_drewN | apply Kd.S_drew)); exact HO156.out) hb); have n6_ := Am (Kd.R_below (by (with_reducible repeat (first | apply Kd.R_alloc | apply Kd.R_drewN | apply Kd.R_drew)); exact HO161.out) hb); have n7_ := Am (Kd.R_below (by (with_reducible repeat (first | apply Kd.R_alloc | apply Kd.R_drewN | apply Kd.R_drew)); exact HO164.out) hb); have n8_ := Am (Kd.S_below (by (with_reducible repeat (first | apply Kd.S_alloc | apply Kd.S_drewN | apply Kd.S_drew)); exact HO167.out) hb); have n9_ := Am (blk_below (g := gb142) (o := .cells #[.slice Ao23 t135.length co23, .slice Ao25 t138.length co25] 25 (0, 0)) (by (with_reducible repeat (first | refine bn ?_ _ | refine bd ?_ | refine ba ?_ _)); exact BK142.out) hb); have n10_ := Am (blk_below (g := gb150) (o := .cells #[.slice Ao28 t143.length co28, .slice Ao31 t146.length co31] 25 (0, 0)) (by (with_reducible repeat (first | refine bn ?_ _ | refine bd ?_ | refine ba ?_ _)); exact BK150.out) hb); have n11_ := Am (blk_below (g := gb158) (o := .cells #[.slice Ao34 t151.length co34, .slice Ao38 t154.length co38] 25 (0, 0)) (by (with_reducible repeat (first | refine bn ?_ _ | refine bd ?_ | refine ba ?_ _)); exact BK158.out) hb); have n12_ := Am (below_step (by repeat (first | (with_reducible first | exact HB.out | apply bl | apply pN | apply b1 | refine bs ?_ GE142.out | refine bs ?_ GE150.out | refine bs ?_ GE158.out) | exact HB.out | exact HBo.out)) hb); have n13_ := Am (hbox); have n14_ := Am ((by rw [hg]; exact (below_size (by repeat (first | (with_reducible first | exact HB.out | apply bl | apply pN | apply b1 | refine bs ?_ GE142.out | refine bs ?_ GE150.out | refine bs ?_ GE158.out) | exact HB.out | exact HBo.out))) : w.heap.size ≤ gb169)); have n15_ := Am ((by rw [hg]; exact (below_size (by repeat (first | (with_reducible first | exact HB.out | apply bl | apply pN | apply b1 | refine bs ?_ GE142.out | refine bs ?_ GE150.out | refine bs ?_ GE158.out) | exact HB.out | exact HBo.out))) : w.heap.size ≤ gb169)); have n16_ := Am ((by rw [hg]; exact Nat.ne_of_lt (blk_lt (g := gb142) (o := .cells #[.slice Ao23 t135.length co23, .slice Ao25 t138.length co25] 25 (0, 0)) (by (with_reducible repeat (first | refine bn ?_ _ | refine bd ?_ | refine ba ?_ _)); exact BK142.out)) : gb142 ≠ gb169)); have n17_ := Am ((by rw [hg]; exact Nat.ne_of_gt (blk_lt (g := gb142) (o := .cells #[.slice Ao23 t135.length co23, .slice Ao25 t138.length co25] 25 (0, 0)) (by (with_reducible repeat (first | refine bn ?_ _ | refine bd ?_ | refine ba ?_ _)); exact BK142.out)) : gb169 ≠ gb142)); have n18_ := Am ((by rw [hg]; exact Nat.ne_of_lt (blk_lt (g := gb150) (o := .cells #[.slice Ao28 t143.length co28, .slice Ao31 t146.length co31] 25 (0, 0)) (by (with_reducible repeat (first | refine bn ?_ _ | refine bd ?_ | refine ba ?_ _)); exact BK150.out)) : gb150 ≠ gb169)); have n19_ := Am ((by rw [hg]; exact Nat.ne_of_gt (blk_lt (g := gb150) (o := .cells #[.slice Ao28 t143.length co28, .slice Ao31 t146.length co31] 25 (0, 0)) (by (with_reducible repeat (first | refine bn ?_ _ | refine bd ?_ | refine ba ?_ _)); exact BK150.out)) : gb169 ≠ gb150)); have n20_ := Am ((by rw [hg]; exact Nat.ne_of_lt (blk_lt (g := gb158) (o := .cells #[.slice Ao34 t151.length co34, .slice Ao38 t154.length co38] 25 (0, 0)) (by (with_reducible repeat (first | refine bn ?_ _ | refine bd ?_ | refine ba ?_ _)); exact BK158.out)) : gb158 ≠ gb169)); have n21_ := Am ((by rw [hg]; exact Nat.ne_of_gt (blk_lt (g := gb158) (o := .cells #[.slice Ao34 t151.length co34, .slice Ao38 t154.length co38] 25 (0, 0)) (by (with_reducible repeat (first | refine bn ?_ _ | refine bd ?_ | refine ba ?_ _)); exact BK158.out)) : gb169 ≠ gb158)); clear HO137; clear HO140; clear HO145; clear HO148; clear HO153; clear HO156; clear HO161; clear HO164; clear HO167; clear BK142; clear BK150; clear BK158; clear HB; have HO137 := n0_; have HO140 := n1_; have HO145 := n2_; have HO148 := n3_; have HO153 := n4_; have HO156 := n5_; have HO161 := n6_; have HO164 := n7_; have HO167 := n8_; have BK142 := n9_; have BK150 := n10_; have BK158 := n11_; have HB := n12_; have BK169 := n13_; have GW169 := n14_; have GE169 := n15_; have NB142_169 := n16_; have NB169_142 := n17_; have NB150_169 := n18_; have NB169_150 := n19_; have NB158_169 := n20_; have NB169_158 := n21_; clear n0_ n1_ n2_ n3_ n4_ n5_ n6_ n7_ n8_ n9_ n10_ n11_ n12_ n13_ n14_ n15_ n16_ n17_ n18_ n19_ n20_ n21_; clear hb hbox hg; obtain ⟨Ao45, co45, eo45⟩ := Kd.R_slice HO164.out; subst eo45; have hnb46 := NB169_142.out; have hnc46 := NB142_169.out; have hnb47 := NB169_150.out; have hnc47 := NB150_169.out; have hnb48 := NB169_158.out; have hnc48 := NB158_169.out; have hcz49_0 : w44.cell? ⟨gb169, 0, none⟩ = some (.slice none 0 0) := (bc BK169.out 0).trans rfl; have hcz49_1 : w44.cell? ⟨gb169, 1, none⟩ = some (.slice none 0 0) := (bc BK169.out 1).trans rfl; have hfz49_0 := bf BK169.out 0; have hfz49_1 := bf BK169.out 1; obtain ⟨Ao50, co50, eo50⟩ := Kd.S_slice HO167.out; subst eo50) | ((with_reducible refine gate_callee (f := 17) rfl ?_); refine goesL_ (some 41) rfl rfl Try.func17 (by kernel_rfl) rfl #[.agg #[.slice Ao45 t162.length co45, .slice Ao50 t165.length co50], .int .i64 t168] rfl (by (try simp only [List.map_toArray, List.map_cons, List.map_nil]); first | done | rfl | (simp only [List.length_drop, List.length_take]; rfl)) ?_; (with_reducible refine (intern_Frames.calls k _ _ t162 _ _ t165 t168 t170 true _ ?side1 ?side2 ?side3 ?side4 A5.out).mono ?_); (case side1 => refine (Kd.R_reads' (e := 9) (base := w.heap.size) (ok := fun k_ => (((True ∧ some k_ ≠ (.slice Ao23 t135.length co23 : Value).ownBlock) ∧ some k_ ≠ (.slice Ao28 t143.length co28 : Value).ownBlock) ∧ some k_ ≠ (.slice Ao34 t151.length co34 : Value).ownBlock)) (n := t162.length) (c := co45) ?_).2.2; exact (by (with_reducible repeat (first | apply Kd.R_alloc | apply Kd.R_drewN | apply Kd.R_drew)); exact (Kd.R_mono (Kd.R_far (p := ⟨gb169, 1, none⟩) (Kd.R_far (p := ⟨gb169, 0, none⟩) (Kd.R_types HO164.out BK169.out (by decide)) (fun _ hk => hk.2) (.slice Ao45 t162.length co45)) (fun _ hk => hk.2) (.slice Ao50 t165.length co50)) (fun _ h_ => h_.1)))); (case side2 => exact (Kd.R_reads' HO164.out).2.1); (case side3 => refine (Kd.S_reads' (e := 46) (base := w.heap.size) (ok := fun k_ => (((True ∧ some k_ ≠ (.slice Ao25 t138.length co25 : Value).ownBlock) ∧ some k_ ≠ (.slice Ao31 t146.length co31 : Value).ownBlock) ∧ some k_ ≠ (.slice Ao38 t154.length co38 : Value).ownBlock)) (n := t165.length) (c := co50) ?_).2.2; exact (by (with_reducible repeat (first | apply Kd.S_alloc | apply Kd.S_drewN | apply Kd.S_drew)); exact (Kd.S_mono (Kd.S_far (p := ⟨gb169, 1, none⟩) (Kd.S_far (p := ⟨gb169, 0, none⟩) (Kd.S_types HO167.out BK169.out (by decide)) (fun _ hk => hk.2) (.slice Ao45 t162.length co45)) (fun _ hk => hk.2) (.slice Ao50 t165.length co50)) (fun _ h_ => h_.1)))); (case side4 => exact (Kd.S_reads' HO167.out).2.1); rintro e w51 ⟨v171, rfl, ho0, hb⟩; refine ⟨_, rfl, ?_⟩; have n0_ := Am (Kd.R_below (by (with_reducible repeat (first | apply Kd.R_alloc | apply Kd.R_drewN | apply Kd.R_drew)); exact (Kd.R_mono (Kd.R_far (p := ⟨gb169, 1, none⟩) (Kd.R_far (p := ⟨gb169, 0, none⟩) (Kd.R_types HO137.out BK169.out (by decide)) (fun _ hk => hk.2) (.slice Ao45 t162.length co45)) (fun _ hk => hk.2) (.slice Ao50 t165.length co50)) (fun _ h_ => h_.1))) hb); have n1_ := Am (Kd.S_below (by (with_reducible repeat (first | apply Kd.S_alloc | apply Kd.S_drewN | apply Kd.S_drew)); exact (Kd.S_mono (Kd.S_far (p := ⟨gb169, 1, none⟩) (Kd.S_far (p := ⟨gb169, 0, none⟩) (Kd.S_types HO140.out BK169.out (by decide)) (fun _ hk => hk.2) (.slice Ao45 t162.length co45)) (fun _ hk => hk.2) (.slice Ao50 t165.length co50)) (fun _ h_ => h_.1))) hb); have n2_ := Am (Kd.R_below (by (with_reducible repeat (first | apply Kd.R_alloc | apply Kd.R_drewN | apply Kd.R_drew)); exact (Kd.R_mono (Kd.R_far (p := ⟨gb169, 1, none⟩) (Kd.R_far (p := ⟨gb169, 0, none⟩) (Kd.R_types HO145.out BK169.out (by decide)) (fun _ hk => hk.2) (.slice Ao45 t162.length co45)) (fun _ hk => hk.2) (.slice Ao50 t165.length co50)) (fun _ h_ => h_.1))) hb); have n3_ := Am (Kd.S_below (by (with_reducible repeat (first | apply Kd.S_alloc | apply Kd.S_drewN | apply Kd.S_drew)); exact (Kd.S_mono (Kd.S_far (p := ⟨gb169, 1, none⟩) (Kd.S_far (p := ⟨gb169, 0, none⟩) (Kd.S_types HO148.out BK169.out (by decide)) (fun _ hk => hk.2) (.slice Ao45 t162.length co45)) (fun _ hk => hk.2) (.slice Ao50 t165.length co50)) (fun _ h_ => h_.1))) hb); have n4_ := Am (Kd.R_below (by (with_reducible repeat (first | apply Kd.R_alloc | apply Kd.R_drewN | apply Kd.R_drew)); exact (Kd.R_mono (Kd.R_far (p := ⟨gb169, 1, none⟩) (Kd.R_far (p := ⟨gb169, 0, none⟩) (Kd.R_types HO153.out BK169.out (by decide)) (fun _ hk => hk.2) (.slice Ao45 t162.length co45)) (fun _ hk => hk.2) (.slice Ao50 t165.length co50)) (fun _ h_ => h_.1))) hb); have n5_ := Am (Kd.S_below (by (with_reducible repeat (first | apply Kd.S_alloc | apply Kd.S_drewN | apply Kd.S_drew)); exact (Kd.S_mono (Kd.S_far (p := ⟨gb169, 1, none⟩) (Kd.S_far (p := ⟨gb169, 0, none⟩) (Kd.S_types HO156.out BK169.out (by decide)) (fun _ hk => hk.2) (.slice Ao45 t162.length co45)) (fun _ hk => hk.2) (.slice Ao50 t165.length co50)) (fun _ h_ => h_.1))) hb); have n6_ := Am (Kd.R_elder' (by (with_reducible repeat (first | apply Kd.R_alloc | apply Kd.R_drewN | apply Kd.R_drew)); exact (Kd.R_mono (Kd.R_far (p := ⟨gb169, 1, none⟩) (Kd.R_far (p := ⟨gb169, 0, none⟩) (Kd.R_types HO161.out BK169.out (by decide)) (fun _ hk => hk.2) (.slice Ao45 t162.length co45)) (fun _ hk => hk.2) (.slice Ao50 t165.length co50)) (fun _ h_ => h_.1))) (Kd.R_base ho0) hb); have n7_ := Am (Kd.R_below (by (with_reducible repeat (first | apply Kd.R_alloc | apply Kd.R_drewN | apply Kd.R_drew)); exact (Kd.R_mono (Kd.R_far (p := ⟨gb169, 1, none⟩) (Kd.R_far (p := ⟨gb169, 0, none⟩) (Kd.R_types HO164.out BK169.out (by decide)) (fun _ hk => hk.2) (.slice Ao45 t162.length co45)) (fun _ hk => hk.2) (.slice Ao50 t165.length co50)) (fun _ h_ => h_.1))) hb); have n8_ := Am (Kd.S_below (by (with_reducible repeat (first | apply Kd.S_alloc | apply Kd.S_drewN | apply Kd.S_drew)); exact (Kd.S_mono (Kd.S_far (p := ⟨gb169, 1, none⟩) (Kd.S_far (p := ⟨gb169, 0, none⟩) (Kd.S_types HO167.out BK169.out (by decide)) (fun _ hk => hk.2) (.slice Ao45 t162.length co45)) (fun _ hk => hk.2) (.slice Ao50 t165.length co50)) (fun _ h_ => h_.1))) hb); have n9_ := Am (Kd.R_lower (Kd.R_new' ho0 (Kd.R_lt (by (with_reducible repeat (first | apply Kd.R_alloc | apply Kd.R_drewN | apply Kd.R_drew)); exact (Kd.R_mono (Kd.R_far (p := ⟨gb169, 1, none⟩) (Kd.R_far (p := ⟨gb169, 0, none⟩) (Kd.R_types HO161.out BK169.out (by decide)) (fun _ hk => hk.2) (.slice Ao45 t162.length co45)) (fun _ hk => hk.2) (.slice Ao50 t165.length co50)) (fun _ h_ => h_.1))))) (below_size (by repeat (first | (with_reducible first | exact HB.out | apply bl | apply pN | apply b1 | refine bs ?_ GE142.out | refine bs ?_ GE150.out | refine bs ?_ GE158.out | refine bs ?_ GE169.out) | exact HB.out | exact HBo.out)))); have n10_ := Am (blk_below (g := gb142) (o := .cells #[.slice Ao23 t135.length co23, .slice Ao25 t138.length co25] 25 (0, 0)) (by (with_reducible repeat (first | refine bn ?_ _ | refine bd ?_ | refine ba ?_ _)); refine blk_far ?_ NB142_169.out _; (with_reducible repeat (first | refine bn ?_ _ | refine bd ?_ | refine ba ?_ _)); refine blk_far ?_ NB142_169.out _; (with_reducible repeat (first | refine bn ?_ _ | refine bd ?_ | refine ba ?_ _)); exact BK142.out) hb); have n11_ := Am (blk_below (g := gb150) (o := .cells #[.slice Ao28 t143.length co28, .slice Ao31 t146.length co31] 25 (0, 0)) (by (with_reducible repeat (first | refine bn ?_ _ | refine bd ?_ | refine ba ?_ _)); refine blk_far ?_ NB150_169.out _; (with_reducible repeat (first | refine bn ?_ _ | refine bd ?_ | refine ba ?_ _)); refine blk_far ?_ NB150_169.out _; (with_reducible repeat (first | refine bn ?_ _ | refine bd ?_ | refine ba ?_ _)); exact BK150.out) hb); have n12_ := Am (blk_below (g := gb158) (o := .cells #[.slice Ao34 t151.length co34, .slice Ao38 t154.length co38] 25 (0, 0)) (by (with_reducible repeat (first | refine bn ?_ _ | refine bd ?_ | refine ba ?_ _)); refine blk_far ?_ NB158_169.out _; (with_reducible repeat (first | refine bn ?_ _ | refine bd ?_ | refine ba ?_ _)); refine blk_far ?_ NB158_169.out _; (with_reducible repeat (first | refine bn ?_ _ | refine bd ?_ | refine ba ?_ _)); exact BK158.out) hb); have n13_ := Am (blk_below (g := gb169) (o := .cells #[.slice Ao45 t162.length co45, .slice Ao50 t165.length co50] 25 (0, 0)) (by (with_reducible repeat (first | refine bn ?_ _ | refine bd ?_ | refine ba ?_ _)); refine blk_put (cs := #[.slice Ao45 t162.length co45, .slice none 0 0]) ?_ 1 _ rfl; (with_reducible repeat (first | refine bn ?_ _ | refine bd ?_ | refine ba ?_ _)); refine blk_put (cs := #[.slice none 0 0, .slice none 0 0]) ?_ 0 _ rfl; (with_reducible repeat (first | refine bn ?_ _ | refine bd ?_ | refine ba ?_ _)); exact BK169.out) hb); have n14_ := Am (below_step (by repeat (first | (with_reducible first | exact HB.out | apply bl | apply pN | apply b1 | refine bs ?_ GE142.out | refine bs ?_ GE150.out | refine bs ?_ GE158.out | refine bs ?_ GE169.out) | exact HB.out | exact HBo.out)) hb); clear HO137; clear HO140; clear HO145; clear HO148; clear HO153; clear HO156; clear HO161; clear HO164; clear HO167; clear BK142; clear BK150; clear BK158; clear BK169; clear HB; have HO137 := n0_; have HO140 := n1_; have HO145 := n2_; have HO148 := n3_; have HO153 := n4_; have HO156 := n5_; have HO161 := n6_; have HO164 := n7_; have HO167 := n8_; have HO172 := n9_; have BK142 := n10_; have BK150 := n11_; have BK158 := n12_; have BK169 := n13_; have HB := n14_; clear n0_ n1_ n2_ n3_ n4_ n5_ n6_ n7_ n8_ n9_ n10_ n11_ n12_ n13_ n14_; (try clear hb); (try clear hb2); (try clear hk); (try clear hi); (try clear ho0); have hcz52_0 : w51.cell? ⟨gb169, 0, none⟩ = some (.slice Ao45 t162.length co45) := (bc BK169.out 0).trans rfl; have hcz52_1 : w51.cell? ⟨gb169, 1, none⟩ = some (.slice Ao50 t165.length co50) := (bc BK169.out 1).trans rfl; have hfz52_0 := bf BK169.out 0; have hfz52_1 := bf BK169.out 1) | ((with_reducible refine gate_callee (f := 15) rfl ?_); refine goesL_ (some 46) rfl rfl Try.func15 (by kernel_rfl) rfl #[.agg #[.slice Ao45 t162.length co45, .slice Ao50 t165.length co50], .int .i64 3] rfl (by (try simp only [List.map_toArray, List.map_cons, List.map_nil]); first | done | rfl | (simp only [List.length_drop, List.length_take]; rfl)) ?_; (with_reducible refine (intern_Name.calls k _ _ t162 _ _ t165 3 t174 true _ ?side1 ?side2 ?side3 ?side4 A6.out).mono ?_); (case side1 => repeat (first | exact (Kd.R_reads' HO164.out).2.2 | (with_reducible refine Kd.C_alloc ?_ _) | (with_reducible refine Kd.C_drewN ?_ _) | (with_reducible refine Kd.C_drew ?_))); (case side2 => exact (Kd.R_reads' HO164.out).2.1); (case side3 => repeat (first | exact (Kd.S_reads' HO167.out).2.2 | (with_reducible refine Kd.C_alloc ?_ _) | (with_reducible refine Kd.C_drewN ?_ _) | (with_reducible refine Kd.C_drew ?_))); (case side4 => exact (Kd.S_reads' HO167.out).2.1); rintro e w53 ⟨rfl, hb⟩; refine ⟨_, rfl, ?_⟩; have n0_ := Am (Kd.R_below (by (with_reducible repeat (first | apply Kd.R_alloc | apply Kd.R_drewN | apply Kd.R_drew)); exact HO137.out) hb); have n1_ := Am (Kd.S_below (by (with_reducible repeat (first | apply Kd.S_alloc | apply Kd.S_drewN | apply Kd.S_drew)); exact HO140.out) hb); have n2_ := Am (Kd.R_below (by (with_reducible repeat (first | apply Kd.R_alloc | apply Kd.R_drewN | apply Kd.R_drew)); exact HO145.out) hb); have n3_ := Am (Kd.S_below (by (with_reducible repeat (first | apply Kd.S_alloc | apply Kd.S_drewN | apply Kd.S_drew)); exact HO148.out) hb); have n4_ := Am (Kd.R_below (by (with_reducible repeat (first | apply Kd.R_alloc | apply Kd.R_drewN | apply Kd.R_drew)); exact HO153.out) hb); have n5_ := Am (Kd.S_below (by (with_reducible repeat (first | apply Kd.S_alloc | apply Kd.S_drewN | apply Kd.S_drew)); exact HO156.out) hb); have n6_ := Am (Kd.R_below (by (with_reducible repeat (first | apply Kd.R_alloc | apply Kd.R_drewN | apply Kd.R_drew)); exact HO161.out) hb); have n7_ := Am (Kd.R_below (by (with_reducible repeat (first | apply Kd.R_alloc | apply Kd.R_drewN | apply Kd.R_drew)); exact HO164.out) hb); have n8_ := Am (Kd.S_below (by (with_reducible repeat (first | apply Kd.S_alloc | apply Kd.S_drewN | apply Kd.S_drew)); exact HO167.out) hb); have n9_ := Am (Kd.R_below (by (with_reducible repeat (first | apply Kd.R_alloc | apply Kd.R_drewN | apply Kd.R_drew)); exact HO172.out) hb); have n10_ := Am (blk_below (g := gb142) (o := .cells #[.slice Ao23 t135.length co23, .slice Ao25 t138.length co25] 25 (0, 0)) (by (with_reducible repeat (first | refine bn ?_ _ | refine bd ?_ | refine ba ?_ _)); exact BK142.out) hb); have n11_ := Am (blk_below (g := gb150) (o := .cells #[.slice Ao28 t143.length co28, .slice Ao31 t146.length co31] 25 (0, 0)) (by (with_reducible repeat (first | refine bn ?_ _ | refine bd ?_ | refine ba ?_ _)); exact BK150.out) hb); have n12_ := Am (blk_below (g := gb158) (o := .cells #[.slice Ao34 t151.length co34, .slice Ao38 t154.length co38] 25 (0, 0)) (by (with_reducible repeat (first | refine bn ?_ _ | refine bd ?_ | refine ba ?_ _)); exact BK158.out) hb); have n13_ := Am (blk_below (g := gb169) (o := .cells #[.slice Ao45 t162.length co45, .slice Ao50 t165.length co50] 25 (0, 0)) (by (with_reducible repeat (first | refine bn ?_ _ | refine bd ?_ | refine ba ?_ _)); exact BK169.out) hb); have n14_ := Am (below_step (by repeat (first | (with_reducible first | exact HB.out | apply bl | apply pN | apply b1 | refine bs ?_ GE142.out | refine bs ?_ GE150.out | refine bs ?_ GE158.out | refine bs ?_ GE169.out) | exact HB.out | exact HBo.out)) hb); clear HO137; clear HO140; clear HO145; clear HO148; clear HO153; clear HO156; clear HO161; clear HO164; clear HO167; clear HO172; clear BK142; clear BK150; clear BK158; clear BK169; clear HB; have HO137 := n0_; have HO140 := n1_; have HO145 := n2_; have HO148 := n3_; have HO153 := n4_; have HO156 := n5_; have HO161 := n6_; have HO164 := n7_; have HO167 := n8_; have HO172 := n9_; have BK142 := n10_; have BK150 := n11_; have BK158 := n12_; have BK169 := n13_; have HB := n14_; clear n0_ n1_ n2_ n3_ n4_ n5_ n6_ n7_ n8_ n9_ n10_ n11_ n12_ n13_ n14_; (try clear hb); (try clear hb2); (try clear hk); (try clear hi); have hcz54_0 : w53.cell? ⟨gb169, 0, none⟩ = some (.slice Ao45 t162.length co45) := (bc BK169.out 0).trans rfl; have hcz54_1 : w53.cell? ⟨gb169, 1, none⟩ = some (.slice Ao50 t165.length co50) := (bc BK169.out 1).trans rfl; have hfz54_0 := bf BK169.out 0; have hfz54_1 := bf BK169.out 1) | ((with_reducible refine gate_callee (f := 15) rfl ?_); refine goesL_ (some 51) rfl rfl Try.func15 (by kernel_rfl) rfl #[.agg #[.slice Ao45 t162.length co45, .slice Ao50 t165.length co50], .int .i64 4] rfl (by (try simp only [List.map_toArray, List.map_cons, List.map_nil]); first | done | rfl | (simp only [List.length_drop, List.length_take]; rfl)) ?_; (with_reducible refine (intern_Name.calls k _ _ t162 _ _ t165 4 t176 false _ ?side1 ?side2 ?side3 ?side4 A7.out).mono ?_); (case side1 => repeat (first | exact (Kd.R_reads' HO164.out).2.2 | (with_reducible refine Kd.C_alloc ?_ _) | (with_reducible refine Kd.C_drewN ?_ _) | (with_reducible refine Kd.C_drew ?_))); (case side2 => exact (Kd.R_reads' HO164.out).2.1); (case side3 => repeat (first | exact (Kd.S_reads' HO167.out).2.2 | (with_reducible refine Kd.C_alloc ?_ _) | (with_reducible refine Kd.C_drewN ?_ _) | (with_reducible refine Kd.C_drew ?_))); (case side4 => exact (Kd.S_reads' HO167.out).2.1); rintro e w55 ⟨rfl, hb⟩; refine ⟨_, rfl, ?_⟩; have n0_ := Am (Kd.R_below (by (with_reducible repeat (first | apply Kd.R_alloc | apply Kd.R_drewN | apply Kd.R_drew)); exact HO137.out) hb); have n1_ := Am (Kd.S_below (by (with_reducible repeat (first | apply Kd.S_alloc | apply Kd.S_drewN | apply Kd.S_drew)); exact HO140.out) hb); have n2_ := Am (Kd.R_below (by (with_reducible repeat (first | apply Kd.R_alloc | apply Kd.R_drewN | apply Kd.R_drew)); exact HO145.out) hb); have n3_ := Am (Kd.S_below (by (with_reducible repeat (first | apply Kd.S_alloc | apply Kd.S_drewN | apply Kd.S_drew)); exact HO148.out) hb); have n4_ := Am (Kd.R_below (by (with_reducible repeat (first | apply Kd.R_alloc | apply Kd.R_drewN | apply Kd.R_drew)); exact HO153.out) hb); have n5_ := Am (Kd.S_below (by (with_reducible repeat (first | apply Kd.S_alloc | apply Kd.S_drewN | apply Kd.S_drew)); exact HO156.out) hb); have n6_ := Am (Kd.R_below (by (with_reducible repeat (first | apply Kd.R_alloc | apply Kd.R_drewN | apply Kd.R_drew)); exact HO161.out) hb); have n7_ := Am (Kd.R_below (by (with_reducible repeat (first | apply Kd.R_alloc | apply Kd.R_drewN | apply Kd.R_drew)); exact HO164.out) hb); have n8_ := Am (Kd.S_below (by (with_reducible repeat (first | apply Kd.S_alloc | apply Kd.S_drewN | apply Kd.S_drew)); exact HO167.out) hb); have n9_ := Am (Kd.R_below (by (with_reducible repeat (first | apply Kd.R_alloc | apply Kd.R_drewN | apply Kd.R_drew)); exact HO172.out) hb); have n10_ := Am (blk_below (g := gb142) (o := .cells #[.slice Ao23 t135.length co23, .slice Ao25 t138.length co25] 25 (0, 0)) (by (with_reducible repeat (first | refine bn ?_ _ | refine bd ?_ | refine ba ?_ _)); exact BK142.out) hb); have n11_ := Am (blk_below (g := gb150) (o := .cells #[.slice Ao28 t143.length co28, .slice Ao31 t146.length co31] 25 (0, 0)) (by (with_reducible repeat (first | refine bn ?_ _ | refine bd ?_ | refine ba ?_ _)); exact BK150.out) hb); have n12_ := Am (blk_below (g := gb158) (o := .cells #[.slice Ao34 t151.length co34, .slice Ao38 t154.length co38] 25 (0, 0)) (by (with_reducible repeat (first | refine bn ?_ _ | refine bd ?_ | refine ba ?_ _)); exact BK158.out) hb); have n13_ := Am (blk_below (g := gb169) (o := .cells #[.slice Ao45 t162.length co45, .slice Ao50 t165.length co50] 25 (0, 0)) (by (with_reducible repeat (first | refine bn ?_ _ | refine bd ?_ | refine ba ?_ _)); exact BK169.out) hb); have n14_ := Am (below_step (by repeat (first | (with_reducible first | exact HB.out | apply bl | apply pN | apply b1 | refine bs ?_ GE142.out | refine bs ?_ GE150.out | refine bs ?_ GE158.out | refine bs ?_ GE169.out) | exact HB.out | exact HBo.out)) hb); clear HO137; clear HO140; clear HO145; clear HO148; clear HO153; clear HO156; clear HO161; clear HO164; clear HO167; clear HO172; clear BK142; clear BK150; clear BK158; clear BK169; clear HB; have HO137 := n0_; have HO140 := n1_; have HO145 := n2_; have HO148 := n3_; have HO153 := n4_; have HO156 := n5_; have HO161 := n6_; have HO164 := n7_; have HO167 := n8_; have HO172 := n9_; have BK142 := n10_; have BK150 := n11_; have BK158 := n12_; have BK169 := n13_; have HB := n14_; clear n0_ n1_ n2_ n3_ n4_ n5_ n6_ n7_ n8_ n9_ n10_ n11_ n12_ n13_ n14_; (try clear hb); (try clear hb2); (try clear hk); (try clear hi)) | ((with_reducible refine gate_dst (N := 75) rfl ?_); (try (refine gate_guard (by rfl) ?_; dsimp only)); refine Kd.R_lit k45 _ 45 ?hg (N := 75) ?hd (xs := ([(⟨(⟨#[98]⟩ : ByteArray), 3⟩ : S45), (⟨(⟨#[99]⟩ : ByteArray), 4⟩ : S45)] : List (S45))) (inner := [.string (⟨#[98]⟩ : ByteArray), .int .i64 3, .string (⟨#[99]⟩ : ByteArray), .int .i64 4]) (ok := fun _ => True) (okp := fun _ => True) ?hr ?hp (fun _ hk => hk) trivial (Below.refl _ _) (Nat.le_refl _) (by simp) ?_; (case hd => rfl); (case hg => rfl); (case hr => first | (go_simp; done) | (go_simp; rfl)); (case hp => exact (Reps.c2 (show Kd.M k45 _ _ _ (⟨(⟨#[98]⟩ : ByteArray), 3⟩ : S45) [.string (⟨#[98]⟩ : ByteArray), .int .i64 3] from (k45_mkM _ _ _ (⟨(⟨#[98]⟩ : ByteArray), 3⟩ : S45) )) (Reps.c2 (show Kd.M k45 _ _ _ (⟨(⟨#[99]⟩ : ByteArray), 4⟩ : S45) [.string (⟨#[99]⟩ : ByteArray), .int .i64 4] from (k45_mkM _ _ _ (⟨(⟨#[99]⟩ : ByteArray), 4⟩ : S45) )) (Reps.none _ _)))); intro v179 w56 ho57 hb hg_ hnew_; clear hg_ hnew_; (first | rw [← Ny178.out] at ho57 | (simp only [Int.reduceToNat] at ho57; rw [← Ny178.out] at ho57)); have n0_ := Am (Kd.R_below (by (with_reducible repeat (first | apply Kd.R_alloc | apply Kd.R_drewN | apply Kd.R_drew)); exact HO137.out) hb); have n1_ := Am (Kd.S_below (by (with_reducible repeat (first | apply Kd.S_alloc | apply Kd.S_drewN | apply Kd.S_drew)); exact HO140.out) hb); have n2_ := Am (Kd.R_below (by (with_reducible repeat (first | apply Kd.R_alloc | apply Kd.R_drewN | apply Kd.R_drew)); exact HO145.out) hb); have n3_ := Am (Kd.S_below (by (with_reducible repeat (first | apply Kd.S_alloc | apply Kd.S_drewN | apply Kd.S_drew)); exact HO148.out) hb); have n4_ := Am (Kd.R_below (by (with_reducible repeat (first | apply Kd.R_alloc | apply Kd.R_drewN | apply Kd.R_drew)); exact HO153.out) hb); have n5_ := Am (Kd.S_below (by (with_reducible repeat (first | apply Kd.S_alloc | apply Kd.S_drewN | apply Kd.S_drew)); exact HO156.out) hb); have n6_ := Am (Kd.R_elder' (by (with_reducible repeat (first | apply Kd.R_alloc | apply Kd.R_drewN | apply Kd.R_drew)); exact HO161.out) (Kd.R_base ho57) hb); have n7_ := Am (Kd.R_below (by (with_reducible repeat (first | apply Kd.R_alloc | apply Kd.R_drewN | apply Kd.R_drew)); exact HO164.out) hb); have n8_ := Am (Kd.S_below (by (with_reducible repeat (first | apply Kd.S_alloc | apply Kd.S_drewN | apply Kd.S_drew)); exact HO167.out) hb); have n9_ := Am (Kd.R_elder' (by (with_reducible repeat (first | apply Kd.R_alloc | apply Kd.R_drewN | apply Kd.R_drew)); exact HO172.out) (Kd.R_base ho57) hb); have n10_ := Am (Kd.R_lower (Kd.R_new' (Kd.R_new' ho57 (Kd.R_lt (by (with_reducible repeat (first | apply Kd.R_alloc | apply Kd.R_drewN | apply Kd.R_drew)); exact HO161.out))) (Kd.R_lt (by (with_reducible repeat (first | apply Kd.R_alloc | apply Kd.R_drewN | apply Kd.R_drew)); exact HO172.out))) (below_size (by repeat (first | (with_reducible first | exact HB.out | apply bl | apply pN | apply b1 | refine bs ?_ GE142.out | refine bs ?_ GE150.out | refine bs ?_ GE158.out | refine bs ?_ GE169.out) | exact HB.out | exact HBo.out)))); have n11_ := Am (blk_below (g := gb142) (o := .cells #[.slice Ao23 t135.length co23, .slice Ao25 t138.length co25] 25 (0, 0)) (by (with_reducible repeat (first | refine bn ?_ _ | refine bd ?_ | refine ba ?_ _)); exact BK142.out) hb); have n12_ := Am (blk_below (g := gb150) (o := .cells #[.slice Ao28 t143.length co28, .slice Ao31 t146.length co31] 25 (0, 0)) (by (with_reducible repeat (first | refine bn ?_ _ | refine bd ?_ | refine ba ?_ _)); exact BK150.out) hb); have n13_ := Am (blk_below (g := gb158) (o := .cells #[.slice Ao34 t151.length co34, .slice Ao38 t154.length co38] 25 (0, 0)) (by (with_reducible repeat (first | refine bn ?_ _ | refine bd ?_ | refine ba ?_ _)); exact BK158.out) hb); have n14_ := Am (blk_below (g := gb169) (o := .cells #[.slice Ao45 t162.length co45, .slice Ao50 t165.length co50] 25 (0, 0)) (by (with_reducible repeat (first | refine bn ?_ _ | refine bd ?_ | refine ba ?_ _)); exact BK169.out) hb); have n15_ := Am (below_step (by repeat (first | (with_reducible first | exact HB.out | apply bl | apply pN | apply b1 | refine bs ?_ GE142.out | refine bs ?_ GE150.out | refine bs ?_ GE158.out | refine bs ?_ GE169.out) | exact HB.out | exact HBo.out)) hb); clear HO137; clear HO140; clear HO145; clear HO148; clear HO153; clear HO156; clear HO161; clear HO164; clear HO167; clear HO172; clear BK142; clear BK150; clear BK158; clear BK169; clear HB; have HO137 := n0_; have HO140 := n1_; have HO145 := n2_; have HO148 := n3_; have HO153 := n4_; have HO156 := n5_; have HO161 := n6_; have HO164 := n7_; have HO167 := n8_; have HO172 := n9_; have HO180 := n10_; have BK142 := n11_; have BK150 := n12_; have BK158 := n13_; have BK169 := n14_; have HB := n15_; clear n0_ n1_ n2_ n3_ n4_ n5_ n6_ n7_ n8_ n9_ n10_ n11_ n12_ n13_ n14_ n15_; clear hb ho57; obtain ⟨Ao58, co58, eo58⟩ := Kd.R_slice HO172.out; subst eo58; obtain ⟨Ao59, co59, eo59⟩ := Kd.R_slice HO180.out; subst eo59) | (go_at_call 22; (with_reducible refine (shuttlecockref06_SameFrames.calls k _ _ t170 _ _ y178 true _ ?side1 ?side2 ?side3 ?side4 A13.out).mono ?_); (case side1 => repeat (first | exact (Kd.R_reads' HO172.out).2.2 | (with_reducible refine Kd.C_alloc ?_ _) | (with_reducible refine Kd.C_drewN ?_ _) | (with_reducible refine Kd.C_drew ?_))); (case side2 => exact (Kd.R_reads' HO172.out).2.1); (case side3 => repeat (first | exact (Kd.R_reads' HO180.out).2.2 | (with_reducible refine Kd.C_alloc ?_ _) | (with_reducible refine Kd.C_drewN ?_ _) | (with_reducible refine Kd.C_drew ?_))); (case side4 => exact (Kd.R_reads' HO180.out).2.1); rintro e w' ⟨rfl, ⟨nd, rfl⟩⟩; have hcz60_0 : w56.cell? ⟨gb169, 0, none⟩ = some (.slice Ao45 t162.length co45) := (bc BK169.out 0).trans rfl; have hcz60_1 : w56.cell? ⟨gb169, 1, none⟩ = some (.slice Ao50 t165.length co50) := (bc BK169.out 1).trans rfl; have hfz60_0 := bf BK169.out 0; have hfz60_1 := bf BK169.out 1) | (go_at_call 19; (with_reducible refine (intern_May.calls k _ _ t162 _ _ t165 true _ ?side1 ?side2 ?side3 ?side4 A18.out).mono ?_); (case side1 => repeat (first | exact (Kd.R_reads' HO164.out).2.2 | (with_reducible refine Kd.C_alloc ?_ _) | (with_reducible refine Kd.C_drewN ?_ _) | (with_reducible refine Kd.C_drew ?_))); (case side2 => exact (Kd.R_reads' HO164.out).2.1); (case side3 => repeat (first | exact (Kd.S_reads' HO167.out).2.2 | (with_reducible refine Kd.C_alloc ?_ _) | (with_reducible refine Kd.C_drewN ?_ _) | (with_reducible refine Kd.C_drew ?_))); (case side4 => exact (Kd.S_reads' HO167.out).2.1); rintro e w61 ⟨rfl, hb⟩; have n0_ := Am (Kd.R_below (by (with_reducible repeat (first | apply Kd.R_alloc | apply Kd.R_drewN | apply Kd.R_drew)); exact HO137.out) hb); have n1_ := Am (Kd.S_below (by (with_reducible repeat (first | apply Kd.S_alloc | apply Kd.S_drewN | apply Kd.S_drew)); exact HO140.out) hb); have n2_ := Am (Kd.R_below (by (with_reducible repeat (first | apply Kd.R_alloc | apply Kd.R_drewN | apply Kd.R_drew)); exact HO145.out) hb); have n3_ := Am (Kd.S_below (by (with_reducible repeat (first | apply Kd.S_alloc | apply Kd.S_drewN | apply Kd.S_drew)); exact HO148.out) hb); have n4_ := Am (Kd.R_below (by (with_reducible repeat (first | apply Kd.R_alloc | apply Kd.R_drewN | apply Kd.R_drew)); exact HO153.out) hb); have n5_ := Am (Kd.S_below (by (with_reducible repeat (first | apply Kd.S_alloc | apply Kd.S_drewN | apply Kd.S_drew)); exact HO156.out) hb); have n6_ := Am (Kd.R_below (by (with_reducible repeat (first | apply Kd.R_alloc | apply Kd.R_drewN | apply Kd.R_drew)); exact HO161.out) hb); have n7_ := Am (Kd.R_below (by (with_reducible repeat (first | apply Kd.R_alloc | apply Kd.R_drewN | apply Kd.R_drew)); exact HO164.out) hb); have n8_ := Am (Kd.S_below (by (with_reducible repeat (first | apply Kd.S_alloc | apply Kd.S_drewN | apply Kd.S_drew)); exact HO167.out) hb); have n9_ := Am (Kd.R_below (by (with_reducible repeat (first | apply Kd.R_alloc | apply Kd.R_drewN | apply Kd.R_drew)); exact HO172.out) hb); have n10_ := Am (Kd.R_below (by (with_reducible repeat (first | apply Kd.R_alloc | apply Kd.R_drewN | apply Kd.R_drew)); exact HO180.out) hb); have n11_ := Am (blk_below (g := gb142) (o := .cells #[.slice Ao23 t135.length co23, .slice Ao25 t138.length co25] 25 (0, 0)) (by (with_reducible repeat (first | refine bn ?_ _ | refine bd ?_ | refine ba ?_ _)); exact BK142.out) hb); have n12_ := Am (blk_below (g := gb150) (o := .cells #[.slice Ao28 t143.length co28, .slice Ao31 t146.length co31] 25 (0, 0)) (by (with_reducible repeat (first | refine bn ?_ _ | refine bd ?_ | refine ba ?_ _)); exact BK150.out) hb); have n13_ := Am (blk_below (g := gb158) (o := .cells #[.slice Ao34 t151.length co34, .slice Ao38 t154.length co38] 25 (0, 0)) (by (with_reducible repeat (first | refine bn ?_ _ | refine bd ?_ | refine ba ?_ _)); exact BK158.out) hb); have n14_ := Am (blk_below (g := gb169) (o := .cells #[.slice Ao45 t162.length co45, .slice Ao50 t165.length co50] 25 (0, 0)) (by (with_reducible repeat (first | refine bn ?_ _ | refine bd ?_ | refine ba ?_ _)); exact BK169.out) hb); have n15_ := Am (below_step (by repeat (first | (with_reducible first | exact HB.out | apply bl | apply pN | apply b1 | refine bs ?_ GE142.out | refine bs ?_ GE150.out | refine bs ?_ GE158.out | refine bs ?_ GE169.out) | exact HB.out | exact HBo.out)) hb); clear HO137; clear HO140; clear HO145; clear HO148; clear HO153; clear HO156; clear HO161; clear HO164; clear HO167; clear HO172; clear HO180; clear BK142; clear BK150; clear BK158; clear BK169; clear HB; have HO137 := n0_; have HO140 := n1_; have HO145 := n2_; have HO148 := n3_; have HO153 := n4_; have HO156 := n5_; have HO161 := n6_; have HO164 := n7_; have HO167 := n8_; have HO172 := n9_; have HO180 := n10_; have BK142 := n11_; have BK150 := n12_; have BK158 := n13_; have BK169 := n14_; have HB := n15_; clear n0_ n1_ n2_ n3_ n4_ n5_ n6_ n7_ n8_ n9_ n10_ n11_ n12_ n13_ n14_ n15_; (try clear hb); (try clear hb2); (try clear hk); (try clear hi)) | ((with_reducible refine gate_dst (N := 94) rfl ?_); (try (refine gate_guard (by rfl) ?_; dsimp only)); refine Kd.R_lit Kd.string _ 9 ?hg (N := 94) ?hd (xs := ([(⟨#[]⟩ : ByteArray)] : List ByteArray)) (inner := [.string (⟨#[]⟩ : ByteArray)]) (ok := fun _ => True) (okp := fun _ => True) ?hr ?hp (fun _ hk => hk) trivial (Below.refl _ _) (Nat.le_refl _) (by simp) ?_; (case hd => rfl); (case hg => rfl); (case hr => first | (go_simp; done) | (go_simp; rfl)); (case hp => exact (Reps.one (show Kd.M Kd.string _ _ _ (⟨#[]⟩ : ByteArray) [.string (⟨#[]⟩ : ByteArray)] from rfl) (Reps.none _ _))); intro v184 w62 ho63 hb hg_ hnew_; clear hg_ hnew_; (first | rw [← Ny183.out] at ho63 | (simp only [Int.reduceToNat] at ho63; rw [← Ny183.out] at ho63)); have n0_ := Am (Kd.R_elder' (by (with_reducible repeat (first | apply Kd.R_alloc | apply Kd.R_drewN | apply Kd.R_drew)); exact HO137.out) (Kd.R_base ho63) hb); have n1_ := Am (Kd.S_below (by (with_reducible repeat (first | apply Kd.S_alloc | apply Kd.S_drewN | apply Kd.S_drew)); exact HO140.out) hb); have n2_ := Am (Kd.R_elder' (by (with_reducible repeat (first | apply Kd.R_alloc | apply Kd.R_drewN | apply Kd.R_drew)); exact HO145.out) (Kd.R_base ho63) hb); have n3_ := Am (Kd.S_below (by (with_reducible repeat (first | apply Kd.S_alloc | apply Kd.S_drewN | apply Kd.S_drew)); exact HO148.out) hb); have n4_ := Am (Kd.R_elder' (by (with_reducible repeat (first | apply Kd.R_alloc | apply Kd.R_drewN | apply Kd.R_drew)); exact HO153.out) (Kd.R_base ho63) hb); have n5_ := Am (Kd.S_below (by (with_reducible repeat (first | apply Kd.S_alloc | apply Kd.S_drewN | apply Kd.S_drew)); exact HO156.out) hb); have n6_ := Am (Kd.R_below (by (with_reducible repeat (first | apply Kd.R_alloc | apply Kd.R_drewN | apply Kd.R_drew)); exact HO161.out) hb); have n7_ := Am (Kd.R_elder' (by (with_reducible repeat (first | apply Kd.R_alloc | apply Kd.R_drewN | apply Kd.R_drew)); exact HO164.out) (Kd.R_base ho63) hb); have n8_ := Am (Kd.S_below (by (with_reducible repeat (first | apply Kd.S_alloc | apply Kd.S_drewN | apply Kd.S_drew)); exact HO167.out) hb); have n9_ := Am (Kd.R_below (by (with_reducible repeat (first | apply Kd.R_alloc | apply Kd.R_drewN | apply Kd.R_drew)); exact HO172.out) hb); have n10_ := Am (Kd.R_below (by (with_reducible repeat (first | apply Kd.R_alloc | apply Kd.R_drewN | apply Kd.R_drew)); exact HO180.out) hb); have n11_ := Am (Kd.R_lower (Kd.R_new' (Kd.R_new' (Kd.R_new' (Kd.R_new' ho63 (Kd.R_lt (by (with_reducible repeat (first | apply Kd.R_alloc | apply Kd.R_drewN | apply Kd.R_drew)); exact HO137.out))) (Kd.R_lt (by (with_reducible repeat (first | apply Kd.R_alloc | apply Kd.R_drewN | apply Kd.R_drew)); exact HO145.out))) (Kd.R_lt (by (with_reducible repeat (first | apply Kd.R_alloc | apply Kd.R_drewN | apply Kd.R_drew)); exact HO153.out))) (Kd.R_lt (by (with_reducible repeat (first | apply Kd.R_alloc | apply Kd.R_drewN | apply Kd.R_drew)); exact HO164.out))) (below_size (by repeat (first | (with_reducible first | exact HB.out | apply bl | apply pN | apply b1 | refine bs ?_ GE142.out | refine bs ?_ GE150.out | refine bs ?_ GE158.out | refine bs ?_ GE169.out) | exact HB.out | exact HBo.out)))); have n12_ := Am (blk_below (g := gb142) (o := .cells #[.slice Ao23 t135.length co23, .slice Ao25 t138.length co25] 25 (0, 0)) (by (with_reducible repeat (first | refine bn ?_ _ | refine bd ?_ | refine ba ?_ _)); exact BK142.out) hb); have n13_ := Am (blk_below (g := gb150) (o := .cells #[.slice Ao28 t143.length co28, .slice Ao31 t146.length co31] 25 (0, 0)) (by (with_reducible repeat (first | refine bn ?_ _ | refine bd ?_ | refine ba ?_ _)); exact BK150.out) hb); have n14_ := Am (blk_below (g := gb158) (o := .cells #[.slice Ao34 t151.length co34, .slice Ao38 t154.length co38] 25 (0, 0)) (by (with_reducible repeat (first | refine bn ?_ _ | refine bd ?_ | refine ba ?_ _)); exact BK158.out) hb); have n15_ := Am (blk_below (g := gb169) (o := .cells #[.slice Ao45 t162.length co45, .slice Ao50 t165.length co50] 25 (0, 0)) (by (with_reducible repeat (first | refine bn ?_ _ | refine bd ?_ | refine ba ?_ _)); exact BK169.out) hb); have n16_ := Am (below_step (by repeat (first | (with_reducible first | exact HB.out | apply bl | apply pN | apply b1 | refine bs ?_ GE142.out | refine bs ?_ GE150.out | refine bs ?_ GE158.out | refine bs ?_ GE169.out) | exact HB.out | exact HBo.out)) hb); clear HO137; clear HO140; clear HO145; clear HO148; clear HO153; clear HO156; clear HO161; clear HO164; clear HO167; clear HO172; clear HO180; clear BK142; clear BK150; clear BK158; clear BK169; clear HB; have HO137 := n0_; have HO140 := n1_; have HO145 := n2_; have HO148 := n3_; have HO153 := n4_; have HO156 := n5_; have HO161 := n6_; have HO164 := n7_; have HO167 := n8_; have HO172 := n9_; have HO180 := n10_; have HO185 := n11_; have BK142 := n12_; have BK150 := n13_; have BK158 := n14_; have BK169 := n15_; have HB := n16_; clear n0_ n1_ n2_ n3_ n4_ n5_ n6_ n7_ n8_ n9_ n10_ n11_ n12_ n13_ n14_ n15_ n16_; clear hb ho63; obtain ⟨Ao64, co64, eo64⟩ := Kd.R_slice HO185.out; subst eo64) | (go_at_call 19; (refine (intern_May.calls k _ _ y183 _ _ ([] : List (List (S50))) t186 _ ?side1 ?side2 ?side3 ?side4 A20.out).mono ?_); (case side1 => repeat (first | exact (Kd.R_reads' HO185.out).2.2 | (with_reducible refine Kd.C_alloc ?_ _) | (with_reducible refine Kd.C_drewN ?_ _) | (with_reducible refine Kd.C_drew ?_))); (case side2 => exact (Kd.R_reads' HO185.out).2.1); (case side3 => exact Kd.C_nil _ _); (case side4 => exact Nat.le_refl _); rintro e w65 ⟨rfl, hb⟩; have n0_ := Am (Kd.R_below (by (with_reducible repeat (first | apply Kd.R_alloc | apply Kd.R_drewN | apply Kd.R_drew)); exact HO137.out) hb); have n1_ := Am (Kd.S_below (by (with_reducible repeat (first | apply Kd.S_alloc | apply Kd.S_drewN | apply Kd.S_drew)); exact HO140.out) hb); have n2_ := Am (Kd.R_below (by (with_reducible repeat (first | apply Kd.R_alloc | apply Kd.R_drewN | apply Kd.R_drew)); exact HO145.out) hb); have n3_ := Am (Kd.S_below (by (with_reducible repeat (first | apply Kd.S_alloc | apply Kd.S_drewN | apply Kd.S_drew)); exact HO148.out) hb); have n4_ := Am (Kd.R_below (by (with_reducible repeat (first | apply Kd.R_alloc | apply Kd.R_drewN | apply Kd.R_drew)); exact HO153.out) hb); have n5_ := Am (Kd.S_below (by (with_reducible repeat (first | apply Kd.S_alloc | apply Kd.S_drewN | apply Kd.S_drew)); exact HO156.out) hb); have n6_ := Am (Kd.R_below (by (with_reducible repeat (first | apply Kd.R_alloc | apply Kd.R_drewN | apply Kd.R_drew)); exact HO161.out) hb); have n7_ := Am (Kd.R_below (by (with_reducible repeat (first | apply Kd.R_alloc | apply Kd.R_drewN | apply Kd.R_drew)); exact HO164.out) hb); have n8_ := Am (Kd.S_below (by (with_reducible repeat (first | apply Kd.S_alloc | apply Kd.S_drewN | apply Kd.S_drew)); exact HO167.out) hb); have n9_ := Am (Kd.R_below (by (with_reducible repeat (first | apply Kd.R_alloc | apply Kd.R_drewN | apply Kd.R_drew)); exact HO172.out) hb); have n10_ := Am (Kd.R_below (by (with_reducible repeat (first | apply Kd.R_alloc | apply Kd.R_drewN | apply Kd.R_drew)); exact HO180.out) hb); have n11_ := Am (Kd.R_below (by (with_reducible repeat (first | apply Kd.R_alloc | apply Kd.R_drewN | apply Kd.R_drew)); exact HO185.out) hb); have n12_ := Am (blk_below (g := gb142) (o := .cells #[.slice Ao23 t135.length co23, .slice Ao25 t138.length co25] 25 (0, 0)) (by (with_reducible repeat (first | refine bn ?_ _ | refine bd ?_ | refine ba ?_ _)); exact BK142.out) hb); have n13_ := Am (blk_below (g := gb150) (o := .cells #[.slice Ao28 t143.length co28, .slice Ao31 t146.length co31] 25 (0, 0)) (by (with_reducible repeat (first | refine bn ?_ _ | refine bd ?_ | refine ba ?_ _)); exact BK150.out) hb); have n14_ := Am (blk_below (g := gb158) (o := .cells #[.slice Ao34 t151.length co34, .slice Ao38 t154.length co38] 25 (0, 0)) (by (with_reducible repeat (first | refine bn ?_ _ | refine bd ?_ | refine ba ?_ _)); exact BK158.out) hb); have n15_ := Am (blk_below (g := gb169) (o := .cells #[.slice Ao45 t162.length co45, .slice Ao50 t165.length co50] 25 (0, 0)) (by (with_reducible repeat (first | refine bn ?_ _ | refine bd ?_ | refine ba ?_ _)); exact BK169.out) hb); have n16_ := Am (below_step (by repeat (first | (with_reducible first | exact HB.out | apply bl | apply pN | apply b1 | refine bs ?_ GE142.out | refine bs ?_ GE150.out | refine bs ?_ GE158.out | refine bs ?_ GE169.out) | exact HB.out | exact HBo.out)) hb); clear HO137; clear HO140; clear HO145; clear HO148; clear HO153; clear HO156; clear HO161; clear HO164; clear HO167; clear HO172; clear HO180; clear HO185; clear BK142; clear BK150; clear BK158; clear BK169; clear HB; have HO137 := n0_; have HO140 := n1_; have HO145 := n2_; have HO148 := n3_; have HO153 := n4_; have HO156 := n5_; have HO161 := n6_; have HO164 := n7_; have HO167 := n8_; have HO172 := n9_; have HO180 := n10_; have HO185 := n11_; have BK142 := n12_; have BK150 := n13_; have BK158 := n14_; have BK169 := n15_; have HB := n16_; clear n0_ n1_ n2_ n3_ n4_ n5_ n6_ n7_ n8_ n9_ n10_ n11_ n12_ n13_ n14_ n15_ n16_; (try clear hb); (try clear hb2); (try clear hk); (try clear hi)))
           go_ret
           exact ⟨by first | rfl | (simp [errW_none, errW_some] <;> rfl) | (simp [*, errW_none, errW_some] <;> rfl) | (simp [Aid.ne_nil, Aid.eq_nil, errW_none, errW_some]; done), by repeat (first | (with_reducible first | exact HB.out | apply bl | apply pN | apply b1 | refine bs ?_ GE142.out | refine bs ?_ GE150.out | refine bs ?_ GE158.out | refine bs ?_ GE169.out) | exact HB.out | exact HBo.out)⟩
          ·
           replace c19 := Bool.eq_false_iff.mpr c19
           subst c19
           have H1 : (none) = some r := by rw [if_neg (show ¬ (false = true) by decide)] at H; exact H
           clear H
           have H := H1
           clear H1
           exact absurd H (by simp)
        ·
         replace c16 := Bool.eq_false_iff.mpr c16
         subst c16
         have H1 : (none) = some r := by rw [if_neg (show ¬ (false = true) by decide)] at H; exact H
         clear H
         have H := H1
         clear H1
         exact absurd H (by simp)
       ·
        rw [if_neg c15] at H
        exact absurd H (by simp)
      ·
       replace c14 := Bool.eq_false_iff.mpr c14
       subst c14
       have H1 : (none) = some r := by rw [if_neg (show ¬ (false = true) by decide)] at H; exact H
       clear H
       have H := H1
       clear H1
       exact absurd H (by simp)
     ·
      replace c12 := Bool.eq_false_iff.mpr c12
      subst c12
      have H1 : (none) = some r := by rw [if_neg (show ¬ (false = true) by decide)] at H; exact H
      clear H
      have H := H1
      clear H1
      exact absurd H (by simp)
    ·
     rw [if_neg c11] at H
     exact absurd H (by simp)
   ·
    rw [if_neg c10] at H
    exact absurd H (by simp)
  ·
   rw [if_neg c9] at H
   exact absurd H (by simp)
 ·
  rw [if_neg c8] at H
  exact absurd H (by simp)

end Go.Proofs.Ytijjfomnidckdaa.Q
