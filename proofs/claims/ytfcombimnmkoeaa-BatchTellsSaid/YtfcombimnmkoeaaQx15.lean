-- printed by a program of this session (NOTES: hprint); not the kit's print
-- minified3
-- minified2
-- minified
-- halved
import Derived.Test.YtfcombimnmkoeaaAl
import Derived.Test.YtfcombimnmkoeaaQx0
import Derived.Test.YtfcombimnmkoeaaQx14
namespace Go.Proofs.Ytfcombimnmkoeaa.Q
open Go.RowKit Go.Proofs.YtfcombimnmkoeaaW.PrintWords Go.Proofs.YtfcombimnmkoeaaW.PrintLast Go.Proofs.YtfcombimnmkoeaaW.PrintMore
attribute [local go_sem] max2_int min2_int max_two min_two max_three min_three max_four min_four   -- for this text's walks alone
set_option linter.unusedVariables false
set_option linter.unusedSimpArgs false

def q15_0 : Array Bool := let o := true; let z := false; #[z,z,z,z,z,z,z,z,z,z]
def q15_1 : Array Bool := let o := true; let z := false; #[o,z,z,z,z,z,z,z,z,z]
def q15_2 : Array Bool := let o := true; let z := false; #[o,o,z,z,z,z,z,z,z,z]
def q15_3 : Array Bool := let o := true; let z := false; #[o,o,o,z,z,z,z,z,z,z]
def q15_4 : Array Bool := let o := true; let z := false; #[o,o,o,z,o,z,z,z,z,z]
def q15_5 : Array Bool := let o := true; let z := false; #[o,o,o,z,o,o,z,z,z,z]
def q15_6 : Array Bool := let o := true; let z := false; #[o,o,o,z,o,o,o,z,z,z]
def q15_7 : Array Bool := let o := true; let z := false; #[o,o,o,o,o,o,o,z,z,z]
def q15_8 : Array Bool := let o := true; let z := false; #[o,o,o,o,o,o,o,o,z,z]
def q15_9 : Array Bool := let o := true; let z := false; #[o,o,o,o,o,o,o,o,o,z]
def q15_10 : Array Bool := let o := true; let z := false; #[o,o,o,o,o,o,o,o,o,o]
/-! ### shuttlecockref04_All: function 17 -/
def shuttlecockref04_All.l0 : Nat → List (S41) → List (S41) → Int → Option (Bool)
 | 0, _, _, _ => none
 | k + 1, x0, x1, x5 => if x5 < (x0.length : Int) then (if 0 ≤ x5 then (if x5 < (x1.length : Int) then ((shuttlecockref04_Same.f k ((rd_T41 x0 x5).f0) ((rd_T41 x0 x5).f1) ((rd_T41 x0 x5).f2) ((rd_T41 x0 x5).f3) ((rd_T41 x1 x5).f0) ((rd_T41 x1 x5).f1) ((rd_T41 x1 x5).f2) ((rd_T41 x1 x5).f3)).bind fun t515 => (if t515 = true then (shuttlecockref04_All.l0 k x0 x1 (wrap64 (x5 + 1))) else (some false))) else (none)) else (none)) else (some true)
def shuttlecockref04_All.f (k : Nat) (l0 : List (S41)) (l1 : List (S41)) : Option (Bool) := if (l0.length : Int) = (l1.length : Int) then (shuttlecockref04_All.l0 k l0 l1 0) else (some false)
theorem shuttlecockref04_All.mono_l : ∀ k, (∀ y0 y1 y2, LeO (shuttlecockref04_All.l0 k y0 y1 y2) (shuttlecockref04_All.l0 (k + 1) y0 y1 y2))
 | 0 => fun _ _ _ r h => by simp [shuttlecockref04_All.l0] at h
 | k + 1 => by
  have ih0 := shuttlecockref04_All.mono_l k
  ·
   intro y0 y1 y2
   unfold shuttlecockref04_All.l0
   repeat' first
   | (with_reducible exact ih0 _ _ _)
   | (with_reducible exact shuttlecockref04_Same.mono _ _ _ _ _ _ _ _ _)
   | (with_reducible exact LeO.refl _)
   | (with_reducible exact LeO.none _)
   | (with_reducible refine LeO.ite ?_ ?_)
   | (with_reducible refine LeO.bind ?_ (fun _ => ?_))
   | exact LeO.none _
   | refine LeO.ite ?_ ?_
   | refine LeO.bind ?_ (fun _ => ?_)
theorem shuttlecockref04_All.mono : ∀ a0 a1 k, LeO (shuttlecockref04_All.f k a0 a1) (shuttlecockref04_All.f (k + 1) a0 a1) := by
 intro a0 a1 k
 have ih0 := shuttlecockref04_All.mono_l k
 unfold shuttlecockref04_All.f
 repeat' first
   | (with_reducible exact ih0 _ _ _)
   | (with_reducible exact shuttlecockref04_Same.mono _ _ _ _ _ _ _ _ _)
   | (with_reducible exact LeO.refl _)
   | (with_reducible exact LeO.none _)
   | (with_reducible refine LeO.ite ?_ ?_)
   | (with_reducible refine LeO.bind ?_ (fun _ => ?_))
   | exact LeO.none _
   | refine LeO.ite ?_ ?_
   | refine LeO.bind ?_ (fun _ => ?_)
def shuttlecockref04_All.T6 : Bool × List (List Nat × List Nat) := (true, [([], []), ([], []), ([0, 1], [0, 1]), ([2], [2]), ([], []), ([], []), ([4, 5], [4, 5]), ([6], [6]), ([3, 7], [3, 7]), ([8], [8])])
def shuttlecockref04_All.B6 : List Nat := [0, 0, 3, 7, 0, 0, 48, 112, 255, 511]
theorem shuttlecockref04_All.tab6 : rtab .any (opsOf Try.f17 6) = shuttlecockref04_All.T6 := by kernel_rfl
theorem shuttlecockref04_All.bits6 : waitsOk shuttlecockref04_All.T6.2 shuttlecockref04_All.B6 = true := by kernel_rfl
set_option maxHeartbeats 8000000 in
set_option maxRecDepth 100000 in
theorem shuttlecockref04_All.calls (k : Nat) (A0 : Option Addr) (c0 : Nat) (l0 : List (S41)) (A1 : Option Addr) (c1 : Nat) (l1 : List (S41)) (r : Bool) (w : World) (hr0 : Kd.C k41 w A0 l0.length l0) (hc0 : l0.length ≤ c0) (hr1 : Kd.C k41 w A1 l1.length l1) (hc1 : l1.length ≤ c1) (h : shuttlecockref04_All.f k l0 l1 = some r) :
  Calls Try.prog 17 #[.slice A0 l0.length c0, .slice A1 l1.length c1] w fun e w' => e = .returned (.bool r) ∧ Below w.heap.size w w' := by
 have hu41 := Try.underlying41
 have HR0 := Am hr0
 have HC0 := Am hc0
 clear hr0 hc0
 have HR1 := Am hr1
 have HC1 := Am hc1
 clear hr1 hc1
 have HB := Am (Below.refl w.heap.size w)
 have H : (if (l0.length : Int) = (l1.length : Int) then (shuttlecockref04_All.l0 k l0 l1 0) else (some false)) = some r := h
 clear h
 by_cases c3 : (l0.length : Int) = (l1.length : Int)
 ·
  rw [if_pos c3] at H
  have c3b0 : ((l0.length : Int) == (l1.length : Int)) = true := beq_iff_eq.mpr c3
  have c3b1 : ((l0.length : Int) != (l1.length : Int)) = false := bne_eq_false_iff_eq.mpr c3
  have c3b2 : (l0.length == l1.length) = true := by first | simpa using c3 | (simp at c3 ⊢; omega)
  clear c3
  have H' := Am H
  clear H
  go_enter Try.func17, Try.ntmps17
  go_wp2
  go_loopg [5] k (fun kq v5 w' => ∃ (x5_1 : Int), v5 = .int .i64 x5_1 ∧ Aside0 (shuttlecockref04_All.l0 kq l0 l1 x5_1 = some r) ∧ Aside0 (kq ≤ k) ∧ Aside0 (Below w.heap.size w w'))
  case atStart => exact ⟨(0), (by first | rfl | (simp; done) | (simp [*]; done)), H', ⟨Nat.le_refl _⟩, ⟨by repeat (first | (with_reducible first | exact HB.out | apply bl | apply pN | apply b1) | exact HB.out | exact HBo.out)⟩⟩
  case round =>
   clear H'
   try clear c1
   try clear p2
   try clear c3
   try clear c3b0
   try clear c3b1
   try clear c3b2
   obtain ⟨x5_1, rfl, HA, HK1, HB⟩ := hrel
   cases gk with
   | zero => exact absurd HA.out (by simp [shuttlecockref04_All.l0])
   | succ k1 =>
    have H := HA.out
    clear HA
    simp only [shuttlecockref04_All.l0] at H
    by_cases c4 : x5_1 < (l0.length : Int)
    ·
     rw [if_pos c4] at H
     have c4b0 : decide (x5_1 < (l0.length : Int)) = true := decide_eq_true c4
     clear c4
     by_cases c5 : 0 ≤ x5_1
     ·
      rw [if_pos c5] at H
      have c5b0 : decide (0 ≤ x5_1) = true := decide_eq_true c5
      clear c5
      by_cases c6 : x5_1 < (l1.length : Int)
      ·
       rw [if_pos c6] at H
       have c6b0 : decide (x5_1 < (l1.length : Int)) = true := decide_eq_true c6
       clear c6
       replace H := ob H
       obtain ⟨t515, A70, H⟩ := H
       (try dsimp only at H)
       have A7 := Am A70
       clear A70
       by_cases c8 : t515 = true
       ·
        subst c8
        rw [if_pos rfl] at H
        have H' := Am H
        clear H
        try go_wp2
        have HBo := HB; have n0_ := Am (b1 HB.out)
        clear HB
        have HB := n0_
        clear n0_
        have p513 : 0 ≤ (x5_1 : Int) := of_decide_eq_true (by first | (with_reducible assumption) | assumption)
        have q513 : x5_1 < (l0.length : Int) := of_decide_eq_true (by first | (with_reducible assumption) | assumption)
        obtain ⟨ad513, A513_2, c513_2, e513, hx513_0, hx513_1, hx513_2, hx513_3, hl513_2, hi513_2⟩ := at_T41 HR0.out x5_1 p513 q513
        have hw513_3 := hx513_3
        have hw513_2 := hx513_2
        have hw513_1 := hx513_1
        have hw513_0 := hx513_0
        cases e513
        replace hx513_0 := (HB.out.cell (World.block_lt_of_cell? w _ hx513_0)).trans hx513_0
        replace hx513_1 := (HB.out.cell (World.block_lt_of_cell? w _ hx513_1)).trans hx513_1
        replace hx513_2 := (HB.out.cell (World.block_lt_of_cell? w _ hx513_2)).trans hx513_2
        replace hx513_3 := (HB.out.cell (World.block_lt_of_cell? w _ hx513_3)).trans hx513_3
        have HR513_2 := Am hi513_2
        have HC513_2 := Am hl513_2
        clear hi513_2 hl513_2
        replace p513 := eq_true p513
        replace q513 := eq_true q513
        have p514 : 0 ≤ (x5_1 : Int) := of_decide_eq_true (by first | (with_reducible assumption) | assumption)
        have q514 : x5_1 < (l1.length : Int) := of_decide_eq_true (by first | (with_reducible assumption) | assumption)
        obtain ⟨ad514, A514_2, c514_2, e514, hx514_0, hx514_1, hx514_2, hx514_3, hl514_2, hi514_2⟩ := at_T41 HR1.out x5_1 p514 q514
        have hw514_3 := hx514_3
        have hw514_2 := hx514_2
        have hw514_1 := hx514_1
        have hw514_0 := hx514_0
        cases e514
        replace hx514_0 := (HB.out.cell (World.block_lt_of_cell? w _ hx514_0)).trans hx514_0
        replace hx514_1 := (HB.out.cell (World.block_lt_of_cell? w _ hx514_1)).trans hx514_1
        replace hx514_2 := (HB.out.cell (World.block_lt_of_cell? w _ hx514_2)).trans hx514_2
        replace hx514_3 := (HB.out.cell (World.block_lt_of_cell? w _ hx514_3)).trans hx514_3
        have HR514_2 := Am hi514_2
        have HC514_2 := Am hl514_2
        clear hi514_2 hl514_2
        replace p514 := eq_true p514
        replace q514 := eq_true q514
        refine start_ (n := 10) (S := fun w' => w'.cell? (ad513.add ((x5_1).toNat * 4)) = some (.int .i64 ((rd_T41 l0 x5_1).f0)) ∧ w'.cell? ⟨(ad513.add ((x5_1).toNat * 4)).block, (ad513.add ((x5_1).toNat * 4)).off + 1, none⟩ = some (.int .i64 ((rd_T41 l0 x5_1).f1)) ∧ w'.cell? ⟨(ad513.add ((x5_1).toNat * 4)).block, (ad513.add ((x5_1).toNat * 4)).off + 2, none⟩ = some (.slice A513_2 ((rd_T41 l0 x5_1).f2).length c513_2) ∧ w'.cell? ⟨(ad513.add ((x5_1).toNat * 4)).block, (ad513.add ((x5_1).toNat * 4)).off + 3, none⟩ = some (.string ((rd_T41 l0 x5_1).f3)) ∧ w'.cell? (ad514.add ((x5_1).toNat * 4)) = some (.int .i64 ((rd_T41 l1 x5_1).f0)) ∧ w'.cell? ⟨(ad514.add ((x5_1).toNat * 4)).block, (ad514.add ((x5_1).toNat * 4)).off + 1, none⟩ = some (.int .i64 ((rd_T41 l1 x5_1).f1)) ∧ w'.cell? ⟨(ad514.add ((x5_1).toNat * 4)).block, (ad514.add ((x5_1).toNat * 4)).off + 2, none⟩ = some (.slice A514_2 ((rd_T41 l1 x5_1).f2).length c514_2) ∧ w'.cell? ⟨(ad514.add ((x5_1).toNat * 4)).block, (ad514.add ((x5_1).toNat * 4)).off + 3, none⟩ = some (.string ((rd_T41 l1 x5_1).f3))) (ds := []) q15_0 (by kernel_rfl) rfl rfl ⟨((HB.out.cell (World.block_lt_of_cell? w _ hw513_0)).trans hw513_0), ((HB.out.cell (World.block_lt_of_cell? w _ hw513_1)).trans hw513_1), ((HB.out.cell (World.block_lt_of_cell? w _ hw513_2)).trans hw513_2), ((HB.out.cell (World.block_lt_of_cell? w _ hw513_3)).trans hw513_3), ((HB.out.cell (World.block_lt_of_cell? w _ hw514_0)).trans hw514_0), ((HB.out.cell (World.block_lt_of_cell? w _ hw514_1)).trans hw514_1), ((HB.out.cell (World.block_lt_of_cell? w _ hw514_2)).trans hw514_2), ((HB.out.cell (World.block_lt_of_cell? w _ hw514_3)).trans hw514_3)⟩ (fun hHeld => ?_); refine with_tabW shuttlecockref04_All.tab6 shuttlecockref04_All.bits6 (fun HT_ HW_ => ?_)
        generalize wr.drew = w9 at HB HR513_2 HR514_2 hx513_0 hx513_1 hx513_2 hx513_3 hx514_0 hx514_1 hx514_2 hx514_3 hHeld ⊢
        refine Own.pr_ 0 (some 17) q15_1 HT_ (h := ?_)
        refine Own.pr_ 1 (some 18) q15_2 HT_ (h := ?_)
        refine Own.pr_ 2 (some 19) q15_3 HT_ (h := ?_)
        refine Own.pr_ 4 (some 21) q15_4 HT_ (h := ?_)
        refine Own.pr_ 5 (some 22) q15_5 HT_ (h := ?_)
        refine Own.pr_ 6 (some 23) q15_6 HT_ (h := ?_)
        refine Own.tk_ 3 (some 20) q15_7 HT_ HW_ hHeld (hy := by rintro w' ⟨s0, s1, s2, s3, s4, s5, s6, s7⟩; go_simp; with_reducible rfl) (h := ?_)
        refine Own.tk_ 7 (some 24) q15_8 HT_ HW_ hHeld (hy := by rintro w' ⟨s0, s1, s2, s3, s4, s5, s6, s7⟩; go_simp; with_reducible rfl) (h := ?_)
        refine one_ (i := 8) (N := some 25) q15_9 rfl rfl (one_of HT_.out (by kernel_rfl)) (by decide) (fun K hK => ?_)
        refine goes_ Try.func38 (by kernel_rfl) rfl #[.agg #[.int .i64 ((rd_T41 l0 x5_1).f0), .int .i64 ((rd_T41 l0 x5_1).f1), .slice A513_2 ((rd_T41 l0 x5_1).f2).length c513_2, .string ((rd_T41 l0 x5_1).f3)], .agg #[.int .i64 ((rd_T41 l1 x5_1).f0), .int .i64 ((rd_T41 l1 x5_1).f1), .slice A514_2 ((rd_T41 l1 x5_1).f2).length c514_2, .string ((rd_T41 l1 x5_1).f3)]] (by rfl) rfl rfl (by (try simp only [List.map_toArray, List.map_cons, List.map_nil]); first | done | rfl | (simp only [List.length_drop, List.length_take]; rfl)) ?_
        with_reducible refine (shuttlecockref04_Same.calls k1 ((rd_T41 l0 x5_1).f0) ((rd_T41 l0 x5_1).f1) _ _ ((rd_T41 l0 x5_1).f2) ((rd_T41 l0 x5_1).f3) ((rd_T41 l1 x5_1).f0) ((rd_T41 l1 x5_1).f1) _ _ ((rd_T41 l1 x5_1).f2) ((rd_T41 l1 x5_1).f3) true _ ?side1 ?side2 ?side3 ?side4 A7.out).mono ?_
        (case side1 => repeat (first | exact (Kd.C_below HR513_2.out HB.out) | (with_reducible refine Kd.C_alloc ?_ _) | (with_reducible refine Kd.C_drewN ?_ _) | (with_reducible refine Kd.C_drew ?_)))
        (case side2 => exact HC513_2.out)
        (case side3 => repeat (first | exact (Kd.C_below HR514_2.out HB.out) | (with_reducible refine Kd.C_alloc ?_ _) | (with_reducible refine Kd.C_drewN ?_ _) | (with_reducible refine Kd.C_drew ?_)))
        (case side4 => exact HC514_2.out)
        rintro e w10 ⟨rfl, hb⟩
        refine ⟨_, rfl, ?_⟩
        replace HB := Am (below_step (by repeat (first | (with_reducible first | exact HB.out | apply bl | apply pN | apply b1) | exact HB.out | exact HBo.out)) hb)
        (try clear hb)
        (try clear hb2)
        (try clear hk)
        (try clear hi)
        refine hK.out _ _ ⟨((HB.out.cell (World.block_lt_of_cell? w _ hw513_0)).trans hw513_0), ((HB.out.cell (World.block_lt_of_cell? w _ hw513_1)).trans hw513_1), ((HB.out.cell (World.block_lt_of_cell? w _ hw513_2)).trans hw513_2), ((HB.out.cell (World.block_lt_of_cell? w _ hw513_3)).trans hw513_3), ((HB.out.cell (World.block_lt_of_cell? w _ hw514_0)).trans hw514_0), ((HB.out.cell (World.block_lt_of_cell? w _ hw514_1)).trans hw514_1), ((HB.out.cell (World.block_lt_of_cell? w _ hw514_2)).trans hw514_2), ((HB.out.cell (World.block_lt_of_cell? w _ hw514_3)).trans hw514_3)⟩ (fun hHeld => ?_)
        clear hK K
        refine norm_ (a' := ?_) ?_ ?_
        rotate_left
        ·
         show Act.put _ (some 25) _ = _
         simp only [Act.put, sI, sZ, sS, i64_w, i32_w]
         rfl
        refine Own.pr_ 9 (some 26) q15_10 HT_ (h := ?_)
        refine done_ (done_of HT_.out (by kernel_rfl)) ?_
        try go_wp2
        go_roundg k1
        case measure => have := HK1.out; omega
        case rel => exact ⟨(wrap64 (x5_1 + 1)), (by first | rfl | (simp; done) | (simp [*]; done)), H', ⟨by have := HK1.out; omega⟩, ⟨by repeat (first | (with_reducible first | exact HB.out | apply bl | apply pN | apply b1) | exact HB.out | exact HBo.out)⟩⟩
       ·
        replace c8 := Bool.eq_false_iff.mpr c8
        subst c8
        rw [if_neg (show ¬ (false = true) by decide)] at H
        obtain rfl := Option.some.inj H
        try go_wp2
        have HBo := HB; have n0_ := Am (b1 HB.out)
        clear HB
        have HB := n0_
        clear n0_
        have p513 : 0 ≤ (x5_1 : Int) := of_decide_eq_true (by first | (with_reducible assumption) | assumption)
        have q513 : x5_1 < (l0.length : Int) := of_decide_eq_true (by first | (with_reducible assumption) | assumption)
        obtain ⟨ad513, A513_2, c513_2, e513, hx513_0, hx513_1, hx513_2, hx513_3, hl513_2, hi513_2⟩ := at_T41 HR0.out x5_1 p513 q513
        have hw513_3 := hx513_3
        have hw513_2 := hx513_2
        have hw513_1 := hx513_1
        have hw513_0 := hx513_0
        cases e513
        replace hx513_0 := (HB.out.cell (World.block_lt_of_cell? w _ hx513_0)).trans hx513_0
        replace hx513_1 := (HB.out.cell (World.block_lt_of_cell? w _ hx513_1)).trans hx513_1
        replace hx513_2 := (HB.out.cell (World.block_lt_of_cell? w _ hx513_2)).trans hx513_2
        replace hx513_3 := (HB.out.cell (World.block_lt_of_cell? w _ hx513_3)).trans hx513_3
        have HR513_2 := Am hi513_2
        have HC513_2 := Am hl513_2
        clear hi513_2 hl513_2
        replace p513 := eq_true p513
        replace q513 := eq_true q513
        have p514 : 0 ≤ (x5_1 : Int) := of_decide_eq_true (by first | (with_reducible assumption) | assumption)
        have q514 : x5_1 < (l1.length : Int) := of_decide_eq_true (by first | (with_reducible assumption) | assumption)
        obtain ⟨ad514, A514_2, c514_2, e514, hx514_0, hx514_1, hx514_2, hx514_3, hl514_2, hi514_2⟩ := at_T41 HR1.out x5_1 p514 q514
        have hw514_3 := hx514_3
        have hw514_2 := hx514_2
        have hw514_1 := hx514_1
        have hw514_0 := hx514_0
        cases e514
        replace hx514_0 := (HB.out.cell (World.block_lt_of_cell? w _ hx514_0)).trans hx514_0
        replace hx514_1 := (HB.out.cell (World.block_lt_of_cell? w _ hx514_1)).trans hx514_1
        replace hx514_2 := (HB.out.cell (World.block_lt_of_cell? w _ hx514_2)).trans hx514_2
        replace hx514_3 := (HB.out.cell (World.block_lt_of_cell? w _ hx514_3)).trans hx514_3
        have HR514_2 := Am hi514_2
        have HC514_2 := Am hl514_2
        clear hi514_2 hl514_2
        replace p514 := eq_true p514
        replace q514 := eq_true q514
        refine start_ (n := 10) (S := fun w' => w'.cell? (ad513.add ((x5_1).toNat * 4)) = some (.int .i64 ((rd_T41 l0 x5_1).f0)) ∧ w'.cell? ⟨(ad513.add ((x5_1).toNat * 4)).block, (ad513.add ((x5_1).toNat * 4)).off + 1, none⟩ = some (.int .i64 ((rd_T41 l0 x5_1).f1)) ∧ w'.cell? ⟨(ad513.add ((x5_1).toNat * 4)).block, (ad513.add ((x5_1).toNat * 4)).off + 2, none⟩ = some (.slice A513_2 ((rd_T41 l0 x5_1).f2).length c513_2) ∧ w'.cell? ⟨(ad513.add ((x5_1).toNat * 4)).block, (ad513.add ((x5_1).toNat * 4)).off + 3, none⟩ = some (.string ((rd_T41 l0 x5_1).f3)) ∧ w'.cell? (ad514.add ((x5_1).toNat * 4)) = some (.int .i64 ((rd_T41 l1 x5_1).f0)) ∧ w'.cell? ⟨(ad514.add ((x5_1).toNat * 4)).block, (ad514.add ((x5_1).toNat * 4)).off + 1, none⟩ = some (.int .i64 ((rd_T41 l1 x5_1).f1)) ∧ w'.cell? ⟨(ad514.add ((x5_1).toNat * 4)).block, (ad514.add ((x5_1).toNat * 4)).off + 2, none⟩ = some (.slice A514_2 ((rd_T41 l1 x5_1).f2).length c514_2) ∧ w'.cell? ⟨(ad514.add ((x5_1).toNat * 4)).block, (ad514.add ((x5_1).toNat * 4)).off + 3, none⟩ = some (.string ((rd_T41 l1 x5_1).f3))) (ds := []) q15_0 (by kernel_rfl) rfl rfl ⟨((HB.out.cell (World.block_lt_of_cell? w _ hw513_0)).trans hw513_0), ((HB.out.cell (World.block_lt_of_cell? w _ hw513_1)).trans hw513_1), ((HB.out.cell (World.block_lt_of_cell? w _ hw513_2)).trans hw513_2), ((HB.out.cell (World.block_lt_of_cell? w _ hw513_3)).trans hw513_3), ((HB.out.cell (World.block_lt_of_cell? w _ hw514_0)).trans hw514_0), ((HB.out.cell (World.block_lt_of_cell? w _ hw514_1)).trans hw514_1), ((HB.out.cell (World.block_lt_of_cell? w _ hw514_2)).trans hw514_2), ((HB.out.cell (World.block_lt_of_cell? w _ hw514_3)).trans hw514_3)⟩ (fun hHeld => ?_); refine with_tabW shuttlecockref04_All.tab6 shuttlecockref04_All.bits6 (fun HT_ HW_ => ?_)
        generalize wr.drew = w11 at HB HR513_2 HR514_2 hx513_0 hx513_1 hx513_2 hx513_3 hx514_0 hx514_1 hx514_2 hx514_3 hHeld ⊢
        refine Own.pr_ 0 (some 17) q15_1 HT_ (h := ?_)
        refine Own.pr_ 1 (some 18) q15_2 HT_ (h := ?_)
        refine Own.pr_ 2 (some 19) q15_3 HT_ (h := ?_)
        refine Own.pr_ 4 (some 21) q15_4 HT_ (h := ?_)
        refine Own.pr_ 5 (some 22) q15_5 HT_ (h := ?_)
        refine Own.pr_ 6 (some 23) q15_6 HT_ (h := ?_)
        refine Own.tk_ 3 (some 20) q15_7 HT_ HW_ hHeld (hy := by rintro w' ⟨s0, s1, s2, s3, s4, s5, s6, s7⟩; go_simp; with_reducible rfl) (h := ?_)
        refine Own.tk_ 7 (some 24) q15_8 HT_ HW_ hHeld (hy := by rintro w' ⟨s0, s1, s2, s3, s4, s5, s6, s7⟩; go_simp; with_reducible rfl) (h := ?_)
        refine one_ (i := 8) (N := some 25) q15_9 rfl rfl (one_of HT_.out (by kernel_rfl)) (by decide) (fun K hK => ?_)
        refine goes_ Try.func38 (by kernel_rfl) rfl #[.agg #[.int .i64 ((rd_T41 l0 x5_1).f0), .int .i64 ((rd_T41 l0 x5_1).f1), .slice A513_2 ((rd_T41 l0 x5_1).f2).length c513_2, .string ((rd_T41 l0 x5_1).f3)], .agg #[.int .i64 ((rd_T41 l1 x5_1).f0), .int .i64 ((rd_T41 l1 x5_1).f1), .slice A514_2 ((rd_T41 l1 x5_1).f2).length c514_2, .string ((rd_T41 l1 x5_1).f3)]] (by rfl) rfl rfl (by (try simp only [List.map_toArray, List.map_cons, List.map_nil]); first | done | rfl | (simp only [List.length_drop, List.length_take]; rfl)) ?_
        with_reducible refine (shuttlecockref04_Same.calls k1 ((rd_T41 l0 x5_1).f0) ((rd_T41 l0 x5_1).f1) _ _ ((rd_T41 l0 x5_1).f2) ((rd_T41 l0 x5_1).f3) ((rd_T41 l1 x5_1).f0) ((rd_T41 l1 x5_1).f1) _ _ ((rd_T41 l1 x5_1).f2) ((rd_T41 l1 x5_1).f3) false _ ?side1 ?side2 ?side3 ?side4 A7.out).mono ?_
        (case side1 => repeat (first | exact (Kd.C_below HR513_2.out HB.out) | (with_reducible refine Kd.C_alloc ?_ _) | (with_reducible refine Kd.C_drewN ?_ _) | (with_reducible refine Kd.C_drew ?_)))
        (case side2 => exact HC513_2.out)
        (case side3 => repeat (first | exact (Kd.C_below HR514_2.out HB.out) | (with_reducible refine Kd.C_alloc ?_ _) | (with_reducible refine Kd.C_drewN ?_ _) | (with_reducible refine Kd.C_drew ?_)))
        (case side4 => exact HC514_2.out)
        rintro e w12 ⟨rfl, hb⟩
        refine ⟨_, rfl, ?_⟩
        replace HB := Am (below_step (by repeat (first | (with_reducible first | exact HB.out | apply bl | apply pN | apply b1) | exact HB.out | exact HBo.out)) hb)
        (try clear hb)
        (try clear hb2)
        (try clear hk)
        (try clear hi)
        refine hK.out _ _ ⟨((HB.out.cell (World.block_lt_of_cell? w _ hw513_0)).trans hw513_0), ((HB.out.cell (World.block_lt_of_cell? w _ hw513_1)).trans hw513_1), ((HB.out.cell (World.block_lt_of_cell? w _ hw513_2)).trans hw513_2), ((HB.out.cell (World.block_lt_of_cell? w _ hw513_3)).trans hw513_3), ((HB.out.cell (World.block_lt_of_cell? w _ hw514_0)).trans hw514_0), ((HB.out.cell (World.block_lt_of_cell? w _ hw514_1)).trans hw514_1), ((HB.out.cell (World.block_lt_of_cell? w _ hw514_2)).trans hw514_2), ((HB.out.cell (World.block_lt_of_cell? w _ hw514_3)).trans hw514_3)⟩ (fun hHeld => ?_)
        clear hK K
        refine norm_ (a' := ?_) ?_ ?_
        rotate_left
        ·
         show Act.put _ (some 25) _ = _
         simp only [Act.put, sI, sZ, sS, i64_w, i32_w]
         rfl
        refine Own.pr_ 9 (some 26) q15_10 HT_ (h := ?_)
        refine done_ (done_of HT_.out (by kernel_rfl)) ?_
        try go_wp2
        go_ret
        exact ⟨by first | rfl | (simp <;> rfl) | (simp [*] <;> rfl) | (simp [Aid.ne_nil, Aid.eq_nil]; done), by repeat (first | (with_reducible first | exact HB.out | apply bl | apply pN | apply b1) | exact HB.out | exact HBo.out)⟩
      ·
       rw [if_neg c6] at H
       exact absurd H (by simp)
     ·
      rw [if_neg c5] at H
      exact absurd H (by simp)
    ·
     rw [if_neg c4] at H
     have c4b0 : decide (x5_1 < (l0.length : Int)) = false := decide_eq_false c4
     clear c4
     obtain rfl := Option.some.inj H
     go_wp2
     go_ret
     exact ⟨by first | rfl | (simp <;> rfl) | (simp [*] <;> rfl) | (simp [Aid.ne_nil, Aid.eq_nil]; done), by repeat (first | (with_reducible first | exact HB.out | apply bl | apply pN | apply b1) | exact HB.out | exact HBo.out)⟩
 ·
  rw [if_neg c3] at H
  have c3b0 : ((l0.length : Int) == (l1.length : Int)) = false := beq_eq_false_iff_ne.mpr c3
  have c3b1 : ((l0.length : Int) != (l1.length : Int)) = true := bne_iff_ne.mpr c3
  have c3b2 : (l0.length == l1.length) = false := by first | simpa using c3 | (simp at c3 ⊢; omega)
  obtain rfl := Option.some.inj H
  go_enter Try.func17, Try.ntmps17
  go_wp2
  go_ret
  exact ⟨by first | rfl | (simp <;> rfl) | (simp [*] <;> rfl) | (simp [Aid.ne_nil, Aid.eq_nil]; done), by repeat (first | (with_reducible first | exact HB.out | apply bl | apply pN | apply b1) | exact HB.out | exact HBo.out)⟩

end Go.Proofs.Ytfcombimnmkoeaa.Q
