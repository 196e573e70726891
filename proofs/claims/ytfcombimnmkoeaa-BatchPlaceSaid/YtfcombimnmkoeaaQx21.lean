-- printed by a program of this session (NOTES: hprint); not the kit's print
-- minified
-- halved
import Derived.Test.YtfcombimnmkoeaaAl
import Derived.Test.YtfcombimnmkoeaaQx0
import Derived.Test.YtfcombimnmkoeaaQx5
import Derived.Test.YtfcombimnmkoeaaQx7
import Derived.Test.YtfcombimnmkoeaaQx9
import Derived.Test.YtfcombimnmkoeaaQx29
import Derived.Test.YtfcombimnmkoeaaQx18
namespace Go.Proofs.Ytfcombimnmkoeaa.Q
open Go.RowKit Go.Proofs.YtfcombimnmkoeaaW.PrintWords Go.Proofs.YtfcombimnmkoeaaW.PrintLast Go.Proofs.YtfcombimnmkoeaaW.PrintMore
attribute [local go_sem] max2_int min2_int max_two min_two max_three min_three max_four min_four   -- for this text's walks alone
set_option linter.unusedVariables false
set_option linter.unusedSimpArgs false

/-! ### shuttlecocklaw05_BatchPlace: function 7 -/
mutual
def shuttlecocklaw05_BatchPlace.j0 : Nat → List (S41) → ByteArray → Bool → Option (Bool)
 | 0, _, _, _ => none
 | k + 1, x0, x1, x22 => if x22 = true then ((shuttlecocklaw05_fixed.f k).bind fun t670 => (some t670)) else (shuttlecocklaw05_BatchPlace.l0 k x0 x1 0)
def shuttlecocklaw05_BatchPlace.l0 : Nat → List (S41) → ByteArray → Int → Option (Bool)
 | 0, _, _, _ => none
 | k + 1, x0, x1, x5 => if x5 < (x0.length : Int) then (if 0 ≤ x5 then ((shuttlecockref04_May.f k ((rd_T41 x0 x5).f0) ((rd_T41 x0 x5).f1) ((rd_T41 x0 x5).f2) ((rd_T41 x0 x5).f3)).bind fun t672 => (if t672 = true then (if ((rd_T41 x0 x5).f1) > 1000000 then (some true) else (shuttlecocklaw05_BatchPlace.l0 k x0 x1 (wrap64 (x5 + 1)))) else (some true))) else (none)) else ((shuttlecockref04_Bytes.f k x0).bind fun t674 => (if t674.size + 1 ≤ 9223372036854775807 then (if (t674 ++ (⟨#[0]⟩ : ByteArray)).size + x1.size ≤ 9223372036854775807 then ((batch_Events.f k 1 0 0 ((t674 ++ (⟨#[0]⟩ : ByteArray)) ++ x1)).bind fun bt675 => (if (wrap64 ((bt675.1.length : Int) + (bt675.2.1.length : Int))) = 0 then (if bt675.2.2.1 = (t674.size : Int) then (some (bt675.2.2.2 == 30)) else (none)) else (none))) else (none)) else (none)))
end
def shuttlecocklaw05_BatchPlace.f (k : Nat) (l0 : List (S41)) (a1 : ByteArray) : Option (Bool) := (shuttlecocklaw05_fixed.f k).bind fun t668 => (if t668 = true then ((shuttlecockref04_Short.f k l0).bind fun t669 => (if t669 = true then (shuttlecocklaw05_BatchPlace.j0 k l0 a1 (decide ((a1.size : Int) > 1000))) else (shuttlecocklaw05_BatchPlace.j0 k l0 a1 true))) else (shuttlecocklaw05_BatchPlace.j0 k l0 a1 true))
theorem shuttlecocklaw05_BatchPlace.mono_l : ∀ k, (∀ y0 y1 y2, LeO (shuttlecocklaw05_BatchPlace.j0 k y0 y1 y2) (shuttlecocklaw05_BatchPlace.j0 (k + 1) y0 y1 y2)) ∧ (∀ y0 y1 y2, LeO (shuttlecocklaw05_BatchPlace.l0 k y0 y1 y2) (shuttlecocklaw05_BatchPlace.l0 (k + 1) y0 y1 y2))
 | 0 => ⟨fun _ _ _ r h => by simp [shuttlecocklaw05_BatchPlace.j0] at h, fun _ _ _ r h => by simp [shuttlecocklaw05_BatchPlace.l0] at h⟩
 | k + 1 => by
  obtain ⟨ih0, ih1⟩ := shuttlecocklaw05_BatchPlace.mono_l k
  refine ⟨?_, ?_⟩
  ·
   intro y0 y1 y2
   unfold shuttlecocklaw05_BatchPlace.j0
   repeat' first
   | (with_reducible exact ih0 _ _ _)
   | (with_reducible exact ih1 _ _ _)
   | (with_reducible exact batch_Events.mono _ _ _ _ _)
   | (with_reducible exact shuttlecocklaw05_fixed.mono _)
   | (with_reducible exact shuttlecockref04_Bytes.mono _ _)
   | (with_reducible exact shuttlecockref04_May.mono _ _ _ _ _)
   | (with_reducible exact shuttlecockref04_Short.mono _ _)
   | (with_reducible exact LeO.refl _)
   | (with_reducible exact LeO.none _)
   | (with_reducible refine LeO.ite ?_ ?_)
   | (with_reducible refine LeO.bind ?_ (fun _ => ?_))
   | exact ih0 _ _ _
   | exact ih1 _ _ _
   | exact batch_Events.mono _ _ _ _ _
   | exact shuttlecocklaw05_fixed.mono _
   | exact shuttlecockref04_Bytes.mono _ _
   | exact shuttlecockref04_May.mono _ _ _ _ _
   | exact shuttlecockref04_Short.mono _ _
   | exact LeO.none _
   | refine LeO.ite ?_ ?_
   | refine LeO.bind ?_ (fun _ => ?_)
  ·
   intro y0 y1 y2
   unfold shuttlecocklaw05_BatchPlace.l0
   repeat' first
   | (with_reducible exact ih0 _ _ _)
   | (with_reducible exact ih1 _ _ _)
   | (with_reducible exact batch_Events.mono _ _ _ _ _)
   | (with_reducible exact shuttlecocklaw05_fixed.mono _)
   | (with_reducible exact shuttlecockref04_Bytes.mono _ _)
   | (with_reducible exact shuttlecockref04_May.mono _ _ _ _ _)
   | (with_reducible exact shuttlecockref04_Short.mono _ _)
   | (with_reducible exact LeO.refl _)
   | (with_reducible exact LeO.none _)
   | (with_reducible refine LeO.ite ?_ ?_)
   | (with_reducible refine LeO.bind ?_ (fun _ => ?_))
   | exact ih0 _ _ _
   | exact ih1 _ _ _
   | exact batch_Events.mono _ _ _ _ _
   | exact shuttlecocklaw05_fixed.mono _
   | exact shuttlecockref04_Bytes.mono _ _
   | exact shuttlecockref04_May.mono _ _ _ _ _
   | exact shuttlecockref04_Short.mono _ _
   | exact LeO.none _
   | refine LeO.ite ?_ ?_
   | refine LeO.bind ?_ (fun _ => ?_)
theorem shuttlecocklaw05_BatchPlace.mono : ∀ a0 a1 k, LeO (shuttlecocklaw05_BatchPlace.f k a0 a1) (shuttlecocklaw05_BatchPlace.f (k + 1) a0 a1) := by
 intro a0 a1 k
 obtain ⟨ih0, ih1⟩ := shuttlecocklaw05_BatchPlace.mono_l k
 unfold shuttlecocklaw05_BatchPlace.f
 repeat' first
   | (with_reducible exact ih0 _ _ _)
   | (with_reducible exact ih1 _ _ _)
   | (with_reducible exact batch_Events.mono _ _ _ _ _)
   | (with_reducible exact shuttlecocklaw05_fixed.mono _)
   | (with_reducible exact shuttlecockref04_Bytes.mono _ _)
   | (with_reducible exact shuttlecockref04_May.mono _ _ _ _ _)
   | (with_reducible exact shuttlecockref04_Short.mono _ _)
   | (with_reducible exact LeO.refl _)
   | (with_reducible exact LeO.none _)
   | (with_reducible refine LeO.ite ?_ ?_)
   | (with_reducible refine LeO.bind ?_ (fun _ => ?_))
   | exact ih0 _ _ _
   | exact ih1 _ _ _
   | exact batch_Events.mono _ _ _ _ _
   | exact shuttlecocklaw05_fixed.mono _
   | exact shuttlecockref04_Bytes.mono _ _
   | exact shuttlecockref04_May.mono _ _ _ _ _
   | exact shuttlecockref04_Short.mono _ _
   | exact LeO.none _
   | refine LeO.ite ?_ ?_
   | refine LeO.bind ?_ (fun _ => ?_)
set_option maxHeartbeats 8000000 in
set_option maxRecDepth 100000 in
theorem shuttlecocklaw05_BatchPlace.calls (k : Nat) (A0 : Option Addr) (c0 : Nat) (l0 : List (S41)) (a1 : ByteArray) (r : Bool) (w : World) (hr0 : Kd.C k41 w A0 l0.length l0) (hc0 : l0.length ≤ c0) (h : shuttlecocklaw05_BatchPlace.f k l0 a1 = some r) :
  Calls Try.prog 7 #[.slice A0 l0.length c0, .string a1] w fun e w' => e = .returned (.bool r) ∧ Below w.heap.size w w' := by
 have hu41 := Try.underlying41
 have hu23 := Try.underlying23
 have HR0 := Am hr0
 have HC0 := Am hc0
 clear hr0 hc0
 have HB := Am (Below.refl w.heap.size w)
 have H : ((shuttlecocklaw05_fixed.f k).bind fun t668 => (if t668 = true then ((shuttlecockref04_Short.f k l0).bind fun t669 => (if t669 = true then (shuttlecocklaw05_BatchPlace.j0 k l0 a1 (decide ((a1.size : Int) > 1000))) else (shuttlecocklaw05_BatchPlace.j0 k l0 a1 true))) else (shuttlecocklaw05_BatchPlace.j0 k l0 a1 true))) = some r := h
 clear h
 have HC3 := Am H
 clear H
 go_enter Try.func7, Try.ntmps7
 go_upto_region 1 with (fail)
 go_cut [22] (fun v22 wc => ∃ (kq : Nat) (x22_2 : Bool), v22 = .bool x22_2 ∧ Aside0 (shuttlecocklaw05_BatchPlace.j0 kq l0 a1 x22_2 = some r) ∧ Aside0 (kq ≤ k) ∧ Aside0 (Below w.heap.size w wc))
 case first =>
  have H := HC3.out
  clear HC3
  replace H := ob H
  obtain ⟨t668, A40, H⟩ := H
  replace H : (if t668 = true then ((shuttlecockref04_Short.f k l0).bind fun t669 => (if t669 = true then (shuttlecocklaw05_BatchPlace.j0 k l0 a1 (decide ((a1.size : Int) > 1000))) else (shuttlecocklaw05_BatchPlace.j0 k l0 a1 true))) else (shuttlecocklaw05_BatchPlace.j0 k l0 a1 true)) = some r := H
  have A4 := Am A40
  clear A40
  by_cases c5 : t668 = true
  ·
   subst c5
   have H1 : ((shuttlecockref04_Short.f k l0).bind fun t669 => (if t669 = true then (shuttlecocklaw05_BatchPlace.j0 k l0 a1 (decide ((a1.size : Int) > 1000))) else (shuttlecocklaw05_BatchPlace.j0 k l0 a1 true))) = some r := by rw [if_pos rfl] at H; exact H
   clear H
   have H := H1
   clear H1
   replace H := ob H
   obtain ⟨t669, A60, H⟩ := H
   replace H : (if t669 = true then (shuttlecocklaw05_BatchPlace.j0 k l0 a1 (decide ((a1.size : Int) > 1000))) else (shuttlecocklaw05_BatchPlace.j0 k l0 a1 true)) = some r := H
   have A6 := Am A60
   clear A60
   by_cases c7 : t669 = true
   ·
    subst c7
    have H1 : (shuttlecocklaw05_BatchPlace.j0 k l0 a1 (decide ((a1.size : Int) > 1000))) = some r := by rw [if_pos rfl] at H; exact H
    clear H
    have H := H1
    clear H1
    have H' := Am H
    clear H
    go_wp2_with (first | ((with_reducible refine gate_callee (f := 8) rfl ?_); refine goesL_ (some 11) rfl rfl Try.func8 (by kernel_rfl) rfl #[] rfl (by (try simp only [List.map_toArray, List.map_cons, List.map_nil]); first | done | rfl | (simp only [List.length_drop, List.length_take]; rfl)) ?_; (with_reducible refine (shuttlecocklaw05_fixed.calls k  true _ A4.out).mono ?_); rintro e w8 ⟨rfl, hb⟩; refine ⟨_, rfl, ?_⟩; have n0_ := Am (below_step (by repeat (first | (with_reducible first | exact HB.out | apply bl | apply pN | apply b1) | exact HB.out | exact HBo.out)) hb); clear HB; have HB := n0_; clear n0_; (try clear hb); (try clear hb2); (try clear hk); (try clear hi)) | (go_at_call 19; (with_reducible refine (shuttlecockref04_Short.calls k _ _ l0 true _ ?side1 ?side2 A6.out).mono ?_); (case side1 => repeat (first | exact (Kd.C_below HR0.out HB.out) | (with_reducible refine Kd.C_alloc ?_ _) | (with_reducible refine Kd.C_drewN ?_ _) | (with_reducible refine Kd.C_drew ?_))); (case side2 => exact HC0.out); rintro e w' ⟨rfl, ⟨nd, rfl⟩⟩))
    go_meet
    case rel => exact ⟨_, (decide ((a1.size : Int) > 1000)), (by first | rfl | (simp; done) | (simp [*]; done)), H', ⟨by first | omega | exact Nat.le_refl _⟩, ⟨by repeat (first | (with_reducible first | exact HB.out | apply bl | apply pN | apply b1) | exact HB.out | exact HBo.out)⟩⟩
   ·
    replace c7 := Bool.eq_false_iff.mpr c7
    subst c7
    have H1 : (shuttlecocklaw05_BatchPlace.j0 k l0 a1 true) = some r := by rw [if_neg (show ¬ (false = true) by decide)] at H; exact H
    clear H
    have H := H1
    clear H1
    have H' := Am H
    clear H
    go_wp2_with (first | ((with_reducible refine gate_callee (f := 8) rfl ?_); refine goesL_ (some 11) rfl rfl Try.func8 (by kernel_rfl) rfl #[] rfl (by (try simp only [List.map_toArray, List.map_cons, List.map_nil]); first | done | rfl | (simp only [List.length_drop, List.length_take]; rfl)) ?_; (with_reducible refine (shuttlecocklaw05_fixed.calls k  true _ A4.out).mono ?_); rintro e w9 ⟨rfl, hb⟩; refine ⟨_, rfl, ?_⟩; have n0_ := Am (below_step (by repeat (first | (with_reducible first | exact HB.out | apply bl | apply pN | apply b1) | exact HB.out | exact HBo.out)) hb); clear HB; have HB := n0_; clear n0_; (try clear hb); (try clear hb2); (try clear hk); (try clear hi)) | (go_at_call 19; (with_reducible refine (shuttlecockref04_Short.calls k _ _ l0 false _ ?side1 ?side2 A6.out).mono ?_); (case side1 => repeat (first | exact (Kd.C_below HR0.out HB.out) | (with_reducible refine Kd.C_alloc ?_ _) | (with_reducible refine Kd.C_drewN ?_ _) | (with_reducible refine Kd.C_drew ?_))); (case side2 => exact HC0.out); rintro e w' ⟨rfl, ⟨nd, rfl⟩⟩))
    go_meet
    case rel => exact ⟨_, (true), (by first | rfl | (simp; done) | (simp [*]; done)), H', ⟨by first | omega | exact Nat.le_refl _⟩, ⟨by repeat (first | (with_reducible first | exact HB.out | apply bl | apply pN | apply b1) | exact HB.out | exact HBo.out)⟩⟩
  ·
   replace c5 := Bool.eq_false_iff.mpr c5
   subst c5
   have H1 : (shuttlecocklaw05_BatchPlace.j0 k l0 a1 true) = some r := by rw [if_neg (show ¬ (false = true) by decide)] at H; exact H
   clear H
   have H := H1
   clear H1
   have H' := Am H
   clear H
   go_wp2_with (first | ((with_reducible refine gate_callee (f := 8) rfl ?_); refine goesL_ (some 11) rfl rfl Try.func8 (by kernel_rfl) rfl #[] rfl (by (try simp only [List.map_toArray, List.map_cons, List.map_nil]); first | done | rfl | (simp only [List.length_drop, List.length_take]; rfl)) ?_; (with_reducible refine (shuttlecocklaw05_fixed.calls k  false _ A4.out).mono ?_); rintro e w10 ⟨rfl, hb⟩; refine ⟨_, rfl, ?_⟩; have n0_ := Am (below_step (by repeat (first | (with_reducible first | exact HB.out | apply bl | apply pN | apply b1) | exact HB.out | exact HBo.out)) hb); clear HB; have HB := n0_; clear n0_; (try clear hb); (try clear hb2); (try clear hk); (try clear hi)))
   go_meet
   case rel => exact ⟨_, (true), (by first | rfl | (simp; done) | (simp [*]; done)), H', ⟨by first | omega | exact Nat.le_refl _⟩, ⟨by repeat (first | (with_reducible first | exact HB.out | apply bl | apply pN | apply b1) | exact HB.out | exact HBo.out)⟩⟩
 case rest =>
  clear HC3
  try clear p2
  try clear c5
  try clear c7
  try clear c8
  obtain ⟨kq, x22_2, rfl, HA, HJ2, HB⟩ := hcut
  cases kq with
  | zero => exact absurd HA.out (by simp [shuttlecocklaw05_BatchPlace.j0])
  | succ kj2 =>
   have H := HA.out
   clear HA
   simp only [shuttlecocklaw05_BatchPlace.j0] at H
   by_cases c11 : x22_2 = true
   ·
    subst c11
    have H1 : ((shuttlecocklaw05_fixed.f kj2).bind fun t670 => (some t670)) = some r := by rw [if_pos rfl] at H; exact H
    clear H
    have H := H1
    clear H1
    replace H := ob H
    obtain ⟨t670, A120, H⟩ := H
    replace H : (some t670) = some r := H
    have A12 := Am A120
    clear A120
    obtain rfl := Option.some.inj H
    go_wp2_with (first | ((with_reducible refine gate_callee (f := 8) rfl ?_); refine goesL_ (some 23) rfl rfl Try.func8 (by kernel_rfl) rfl #[] rfl (by (try simp only [List.map_toArray, List.map_cons, List.map_nil]); first | done | rfl | (simp only [List.length_drop, List.length_take]; rfl)) ?_; (with_reducible refine (shuttlecocklaw05_fixed.calls kj2  t670 _ A12.out).mono ?_); rintro e w13 ⟨rfl, hb⟩; refine ⟨_, rfl, ?_⟩; have n0_ := Am (below_step (by repeat (first | (with_reducible first | exact HB.out | apply bl | apply pN | apply b1) | exact HB.out | exact HBo.out)) hb); clear HB; have HB := n0_; clear n0_; (try clear hb); (try clear hb2); (try clear hk); (try clear hi)))
    go_ret
    exact ⟨by first | rfl | (simp [errW_none, errW_some] <;> rfl) | (simp [*, errW_none, errW_some] <;> rfl) | (simp [Aid.ne_nil, Aid.eq_nil, errW_none, errW_some]; done), by repeat (first | (with_reducible first | exact HB.out | apply bl | apply pN | apply b1) | exact HB.out | exact HBo.out)⟩
   ·
    replace c11 := Bool.eq_false_iff.mpr c11
    subst c11
    have H1 : (shuttlecocklaw05_BatchPlace.l0 kj2 l0 a1 0) = some r := by rw [if_neg (show ¬ (false = true) by decide)] at H; exact H
    clear H
    have H := H1
    clear H1
    have H' := Am H
    clear H
    go_wp2
    go_loopg [5] kj2 (fun kq v5 w' => ∃ (x5_2 : Int), v5 = .int .i64 x5_2 ∧ Aside0 (shuttlecocklaw05_BatchPlace.l0 kq l0 a1 x5_2 = some r) ∧ Aside0 (kq ≤ kj2) ∧ Aside0 (Below w.heap.size w w'))
    case atStart => exact ⟨(0), (by first | rfl | (simp; done) | (simp [*]; done)), H', ⟨Nat.le_refl _⟩, ⟨by repeat (first | (with_reducible first | exact HB.out | apply bl | apply pN | apply b1) | exact HB.out | exact HBo.out)⟩⟩
    case round =>
     clear H'
     try clear c1
     try clear p2
     try clear c5
     try clear c7
     try clear c8
     try clear c11
     try clear p2
     obtain ⟨x5_2, rfl, HA, HK2, HB⟩ := hrel
     cases gk with
     | zero => exact absurd HA.out (by simp [shuttlecocklaw05_BatchPlace.l0])
     | succ k2 =>
      have H := HA.out
      clear HA
      simp only [shuttlecocklaw05_BatchPlace.l0] at H
      by_cases c14 : x5_2 < (l0.length : Int)
      ·
       rw [if_pos c14] at H
       have c14b0 : decide (x5_2 < (l0.length : Int)) = true := decide_eq_true c14
       clear c14
       by_cases c15 : 0 ≤ x5_2
       ·
        rw [if_pos c15] at H
        have c15b0 : decide (0 ≤ x5_2) = true := decide_eq_true c15
        clear c15
        replace H := ob H
        obtain ⟨t672, A160, H⟩ := H
        replace H : (if t672 = true then (if ((rd_T41 l0 x5_2).f1) > 1000000 then (some true) else (shuttlecocklaw05_BatchPlace.l0 k2 l0 a1 (wrap64 (x5_2 + 1)))) else (some true)) = some r := H
        have A16 := Am A160
        clear A160
        by_cases c17 : t672 = true
        ·
         subst c17
         have H1 : (if ((rd_T41 l0 x5_2).f1) > 1000000 then (some true) else (shuttlecocklaw05_BatchPlace.l0 k2 l0 a1 (wrap64 (x5_2 + 1)))) = some r := by rw [if_pos rfl] at H; exact H
         clear H
         have H := H1
         clear H1
         by_cases c18 : ((rd_T41 l0 x5_2).f1) > 1000000
         ·
          rw [if_pos c18] at H
          have c18b0 : decide (1000000 < ((rd_T41 l0 x5_2).f1)) = true := decide_eq_true c18
          clear c18
          obtain rfl := Option.some.inj H
          have p671 : 0 ≤ (x5_2 : Int) := of_decide_eq_true (by first | (with_reducible assumption) | assumption)
          have q671 : x5_2 < (l0.length : Int) := of_decide_eq_true (by first | (with_reducible assumption) | assumption)
          obtain ⟨ad671, A671_2, c671_2, e671, hx671_0, hx671_1, hx671_2, hx671_3, hl671_2, hi671_2⟩ := at_T41 HR0.out x5_2 p671 q671
          cases e671
          replace hx671_0 := (HB.out.cell (World.block_lt_of_cell? w _ hx671_0)).trans hx671_0
          replace hx671_1 := (HB.out.cell (World.block_lt_of_cell? w _ hx671_1)).trans hx671_1
          replace hx671_2 := (HB.out.cell (World.block_lt_of_cell? w _ hx671_2)).trans hx671_2
          replace hx671_3 := (HB.out.cell (World.block_lt_of_cell? w _ hx671_3)).trans hx671_3
          have HR671_2 := Am hi671_2
          have HC671_2 := Am hl671_2
          clear hi671_2 hl671_2
          replace p671 := eq_true p671
          replace q671 := eq_true q671
          go_wp2_with (first | ((with_reducible refine gate_callee (f := 21) rfl ?_); refine goesL_ (some 34) rfl rfl Try.func21 (by kernel_rfl) rfl #[.agg #[.int .i64 ((rd_T41 l0 x5_2).f0), .int .i64 ((rd_T41 l0 x5_2).f1), .slice A671_2 ((rd_T41 l0 x5_2).f2).length c671_2, .string ((rd_T41 l0 x5_2).f3)]] rfl (by (try simp only [List.map_toArray, List.map_cons, List.map_nil]); first | done | rfl | (simp only [List.length_drop, List.length_take]; rfl)) ?_; (with_reducible refine (shuttlecockref04_May.calls k2 ((rd_T41 l0 x5_2).f0) ((rd_T41 l0 x5_2).f1) _ _ ((rd_T41 l0 x5_2).f2) ((rd_T41 l0 x5_2).f3) true _ ?side1 ?side2 A16.out).mono ?_); (case side1 => repeat (first | exact (Kd.C_below HR671_2.out HB.out) | (with_reducible refine Kd.C_alloc ?_ _) | (with_reducible refine Kd.C_drewN ?_ _) | (with_reducible refine Kd.C_drew ?_))); (case side2 => exact HC671_2.out); rintro e w19 ⟨rfl, hb⟩; refine ⟨_, rfl, ?_⟩; have n0_ := Am (below_step (by repeat (first | (with_reducible first | exact HB.out | apply bl | apply pN | apply b1) | exact HB.out | exact HBo.out)) hb); clear HB; have HB := n0_; clear n0_; (try clear hb); (try clear hb2); (try clear hk); (try clear hi); have p673 : 0 ≤ (x5_2 : Int) := of_decide_eq_true (by first | (with_reducible assumption) | assumption); have q673 : x5_2 < (l0.length : Int) := of_decide_eq_true (by first | (with_reducible assumption) | assumption); obtain ⟨ad673, A673_2, c673_2, e673, hx673_0, hx673_1, hx673_2, hx673_3, hl673_2, hi673_2⟩ := at_T41 HR0.out x5_2 p673 q673; obtain rfl : ad671 = ad673 := (by injection e673); replace hx673_0 := (HB.out.cell (World.block_lt_of_cell? w _ hx673_0)).trans hx673_0; replace hx673_1 := (HB.out.cell (World.block_lt_of_cell? w _ hx673_1)).trans hx673_1; replace hx673_2 := (HB.out.cell (World.block_lt_of_cell? w _ hx673_2)).trans hx673_2; replace hx673_3 := (HB.out.cell (World.block_lt_of_cell? w _ hx673_3)).trans hx673_3; have HR673_2 := Am hi673_2; have HC673_2 := Am hl673_2; clear hi673_2 hl673_2; replace p673 := eq_true p673; replace q673 := eq_true q673))
          go_ret
          exact ⟨by first | rfl | (simp [errW_none, errW_some] <;> rfl) | (simp [*, errW_none, errW_some] <;> rfl) | (simp [Aid.ne_nil, Aid.eq_nil, errW_none, errW_some]; done), by repeat (first | (with_reducible first | exact HB.out | apply bl | apply pN | apply b1) | exact HB.out | exact HBo.out)⟩
         ·
          rw [if_neg c18] at H
          have c18b0 : decide (1000000 < ((rd_T41 l0 x5_2).f1)) = false := decide_eq_false c18
          clear c18
          have H' := Am H
          clear H
          have p671 : 0 ≤ (x5_2 : Int) := of_decide_eq_true (by first | (with_reducible assumption) | assumption)
          have q671 : x5_2 < (l0.length : Int) := of_decide_eq_true (by first | (with_reducible assumption) | assumption)
          obtain ⟨ad671, A671_2, c671_2, e671, hx671_0, hx671_1, hx671_2, hx671_3, hl671_2, hi671_2⟩ := at_T41 HR0.out x5_2 p671 q671
          cases e671
          replace hx671_0 := (HB.out.cell (World.block_lt_of_cell? w _ hx671_0)).trans hx671_0
          replace hx671_1 := (HB.out.cell (World.block_lt_of_cell? w _ hx671_1)).trans hx671_1
          replace hx671_2 := (HB.out.cell (World.block_lt_of_cell? w _ hx671_2)).trans hx671_2
          replace hx671_3 := (HB.out.cell (World.block_lt_of_cell? w _ hx671_3)).trans hx671_3
          have HR671_2 := Am hi671_2
          have HC671_2 := Am hl671_2
          clear hi671_2 hl671_2
          replace p671 := eq_true p671
          replace q671 := eq_true q671
          go_wp2_with (first | ((with_reducible refine gate_callee (f := 21) rfl ?_); refine goesL_ (some 34) rfl rfl Try.func21 (by kernel_rfl) rfl #[.agg #[.int .i64 ((rd_T41 l0 x5_2).f0), .int .i64 ((rd_T41 l0 x5_2).f1), .slice A671_2 ((rd_T41 l0 x5_2).f2).length c671_2, .string ((rd_T41 l0 x5_2).f3)]] rfl (by (try simp only [List.map_toArray, List.map_cons, List.map_nil]); first | done | rfl | (simp only [List.length_drop, List.length_take]; rfl)) ?_; (with_reducible refine (shuttlecockref04_May.calls k2 ((rd_T41 l0 x5_2).f0) ((rd_T41 l0 x5_2).f1) _ _ ((rd_T41 l0 x5_2).f2) ((rd_T41 l0 x5_2).f3) true _ ?side1 ?side2 A16.out).mono ?_); (case side1 => repeat (first | exact (Kd.C_below HR671_2.out HB.out) | (with_reducible refine Kd.C_alloc ?_ _) | (with_reducible refine Kd.C_drewN ?_ _) | (with_reducible refine Kd.C_drew ?_))); (case side2 => exact HC671_2.out); rintro e w20 ⟨rfl, hb⟩; refine ⟨_, rfl, ?_⟩; have n0_ := Am (below_step (by repeat (first | (with_reducible first | exact HB.out | apply bl | apply pN | apply b1) | exact HB.out | exact HBo.out)) hb); clear HB; have HB := n0_; clear n0_; (try clear hb); (try clear hb2); (try clear hk); (try clear hi); have p673 : 0 ≤ (x5_2 : Int) := of_decide_eq_true (by first | (with_reducible assumption) | assumption); have q673 : x5_2 < (l0.length : Int) := of_decide_eq_true (by first | (with_reducible assumption) | assumption); obtain ⟨ad673, A673_2, c673_2, e673, hx673_0, hx673_1, hx673_2, hx673_3, hl673_2, hi673_2⟩ := at_T41 HR0.out x5_2 p673 q673; obtain rfl : ad671 = ad673 := (by injection e673); replace hx673_0 := (HB.out.cell (World.block_lt_of_cell? w _ hx673_0)).trans hx673_0; replace hx673_1 := (HB.out.cell (World.block_lt_of_cell? w _ hx673_1)).trans hx673_1; replace hx673_2 := (HB.out.cell (World.block_lt_of_cell? w _ hx673_2)).trans hx673_2; replace hx673_3 := (HB.out.cell (World.block_lt_of_cell? w _ hx673_3)).trans hx673_3; have HR673_2 := Am hi673_2; have HC673_2 := Am hl673_2; clear hi673_2 hl673_2; replace p673 := eq_true p673; replace q673 := eq_true q673))
          go_roundg k2
          case measure => have := HJ2.out; have := HK2.out; omega
          case rel => exact ⟨(wrap64 (x5_2 + 1)), (by first | rfl | (simp; done) | (simp [*]; done)), H', ⟨by have := HJ2.out; have := HK2.out; omega⟩, ⟨by repeat (first | (with_reducible first | exact HB.out | apply bl | apply pN | apply b1) | exact HB.out | exact HBo.out)⟩⟩
        ·
         replace c17 := Bool.eq_false_iff.mpr c17
         subst c17
         have H1 : (some true) = some r := by rw [if_neg (show ¬ (false = true) by decide)] at H; exact H
         clear H
         have H := H1
         clear H1
         obtain rfl := Option.some.inj H
         have p671 : 0 ≤ (x5_2 : Int) := of_decide_eq_true (by first | (with_reducible assumption) | assumption)
         have q671 : x5_2 < (l0.length : Int) := of_decide_eq_true (by first | (with_reducible assumption) | assumption)
         obtain ⟨ad671, A671_2, c671_2, e671, hx671_0, hx671_1, hx671_2, hx671_3, hl671_2, hi671_2⟩ := at_T41 HR0.out x5_2 p671 q671
         cases e671
         replace hx671_0 := (HB.out.cell (World.block_lt_of_cell? w _ hx671_0)).trans hx671_0
         replace hx671_1 := (HB.out.cell (World.block_lt_of_cell? w _ hx671_1)).trans hx671_1
         replace hx671_2 := (HB.out.cell (World.block_lt_of_cell? w _ hx671_2)).trans hx671_2
         replace hx671_3 := (HB.out.cell (World.block_lt_of_cell? w _ hx671_3)).trans hx671_3
         have HR671_2 := Am hi671_2
         have HC671_2 := Am hl671_2
         clear hi671_2 hl671_2
         replace p671 := eq_true p671
         replace q671 := eq_true q671
         go_wp2_with (first | ((with_reducible refine gate_callee (f := 21) rfl ?_); refine goesL_ (some 34) rfl rfl Try.func21 (by kernel_rfl) rfl #[.agg #[.int .i64 ((rd_T41 l0 x5_2).f0), .int .i64 ((rd_T41 l0 x5_2).f1), .slice A671_2 ((rd_T41 l0 x5_2).f2).length c671_2, .string ((rd_T41 l0 x5_2).f3)]] rfl (by (try simp only [List.map_toArray, List.map_cons, List.map_nil]); first | done | rfl | (simp only [List.length_drop, List.length_take]; rfl)) ?_; (with_reducible refine (shuttlecockref04_May.calls k2 ((rd_T41 l0 x5_2).f0) ((rd_T41 l0 x5_2).f1) _ _ ((rd_T41 l0 x5_2).f2) ((rd_T41 l0 x5_2).f3) false _ ?side1 ?side2 A16.out).mono ?_); (case side1 => repeat (first | exact (Kd.C_below HR671_2.out HB.out) | (with_reducible refine Kd.C_alloc ?_ _) | (with_reducible refine Kd.C_drewN ?_ _) | (with_reducible refine Kd.C_drew ?_))); (case side2 => exact HC671_2.out); rintro e w21 ⟨rfl, hb⟩; refine ⟨_, rfl, ?_⟩; have n0_ := Am (below_step (by repeat (first | (with_reducible first | exact HB.out | apply bl | apply pN | apply b1) | exact HB.out | exact HBo.out)) hb); clear HB; have HB := n0_; clear n0_; (try clear hb); (try clear hb2); (try clear hk); (try clear hi)))
         go_ret
         exact ⟨by first | rfl | (simp [errW_none, errW_some] <;> rfl) | (simp [*, errW_none, errW_some] <;> rfl) | (simp [Aid.ne_nil, Aid.eq_nil, errW_none, errW_some]; done), by repeat (first | (with_reducible first | exact HB.out | apply bl | apply pN | apply b1) | exact HB.out | exact HBo.out)⟩
       ·
        rw [if_neg c15] at H
        exact absurd H (by simp)
      ·
       rw [if_neg c14] at H
       have c14b0 : decide (x5_2 < (l0.length : Int)) = false := decide_eq_false c14
       clear c14
       replace H := ob H
       obtain ⟨t674, A220, H⟩ := H
       replace H : (if t674.size + 1 ≤ 9223372036854775807 then (if (t674 ++ (⟨#[0]⟩ : ByteArray)).size + a1.size ≤ 9223372036854775807 then ((batch_Events.f k2 1 0 0 ((t674 ++ (⟨#[0]⟩ : ByteArray)) ++ a1)).bind fun bt675 => (if (wrap64 ((bt675.1.length : Int) + (bt675.2.1.length : Int))) = 0 then (if bt675.2.2.1 = (t674.size : Int) then (some (bt675.2.2.2 == 30)) else (none)) else (none))) else (none)) else (none)) = some r := H
       have A22 := Am A220
       clear A220
       by_cases c23 : t674.size + 1 ≤ 9223372036854775807
       ·
        rw [if_pos c23] at H
        have c23b0 := eq_true c23
        have c23b1 : decide (t674.size + 1 ≤ 9223372036854775807) = true := decide_eq_true c23
        try have c23b2 : (9223372036854775807 < t674.size + 1) = False := eq_false (Nat.not_lt.2 c23)
        by_cases c24 : (t674 ++ (⟨#[0]⟩ : ByteArray)).size + a1.size ≤ 9223372036854775807
        ·
         rw [if_pos c24] at H
         have c24b0 := eq_true c24
         have c24b1 : decide ((t674 ++ (⟨#[0]⟩ : ByteArray)).size + a1.size ≤ 9223372036854775807) = true := decide_eq_true c24
         try have c24b2 : (9223372036854775807 < (t674 ++ (⟨#[0]⟩ : ByteArray)).size + a1.size) = False := eq_false (Nat.not_lt.2 c24)
         try (have c24b3 := c24b2; simp only [ByteArray.size_append] at c24b3)
         try (have c24b4 := c24b1; simp only [ByteArray.size_append] at c24b4)
         try (have c24b5 := c24b2; simp only [ByteArray.size_append, show (⟨#[0]⟩ : ByteArray).size = 1 from rfl] at c24b5)
         replace H := ob H
         obtain ⟨⟨t675, t678, t681, t682⟩, A250, H⟩ := H
         replace H : (if (wrap64 ((t675.length : Int) + (t678.length : Int))) = 0 then (if t681 = (t674.size : Int) then (some (t682 == 30)) else (none)) else (none)) = some r := H
         have A25 := Am A250
         clear A250
         by_cases c26 : (wrap64 ((t675.length : Int) + (t678.length : Int))) = 0
         ·
          rw [if_pos c26] at H
          have c26b0 : ((wrap64 ((t675.length : Int) + (t678.length : Int))) == 0) = true := beq_iff_eq.mpr c26
          have c26b1 : ((wrap64 ((t675.length : Int) + (t678.length : Int))) != 0) = false := bne_eq_false_iff_eq.mpr c26
          clear c26
          by_cases c27 : t681 = (t674.size : Int)
          ·
           rw [if_pos c27] at H
           have c27b0 : (t681 == (t674.size : Int)) = true := beq_iff_eq.mpr c27
           have c27b1 : (t681 != (t674.size : Int)) = false := bne_eq_false_iff_eq.mpr c27
           clear c27
           obtain rfl := Option.some.inj H
           go_wp2_with (first | ((with_reducible refine gate_callee (f := 20) rfl ?_); refine goesL_ (some 45) rfl rfl Try.func20 (by kernel_rfl) rfl #[.slice A0 l0.length c0] rfl (by (try simp only [List.map_toArray, List.map_cons, List.map_nil]); first | done | rfl | (simp only [List.length_drop, List.length_take]; rfl)) ?_; (with_reducible refine (shuttlecockref04_Bytes.calls k2 _ _ l0 t674 _ ?side1 ?side2 A22.out).mono ?_); (case side1 => repeat (first | exact (Kd.C_below HR0.out HB.out) | (with_reducible refine Kd.C_alloc ?_ _) | (with_reducible refine Kd.C_drewN ?_ _) | (with_reducible refine Kd.C_drew ?_))); (case side2 => exact HC0.out); rintro e w28 ⟨rfl, hb⟩; refine ⟨_, rfl, ?_⟩; have n0_ := Am (below_step (by repeat (first | (with_reducible first | exact HB.out | apply bl | apply pN | apply b1) | exact HB.out | exact HBo.out)) hb); clear HB; have HB := n0_; clear n0_; (try clear hb); (try clear hb2); (try clear hk); (try clear hi)) | ((with_reducible refine gate_callee (f := 11) rfl ?_); refine goesL_ (some 52) rfl rfl Try.func11 (by kernel_rfl) rfl #[.agg #[.int .i64 1, .int .i64 0, .int .i64 0, .string ((t674 ++ (⟨#[0]⟩ : ByteArray)) ++ a1)]] rfl (by (try simp only [List.map_toArray, List.map_cons, List.map_nil]); first | done | rfl | (simp only [List.length_drop, List.length_take]; rfl)) ?_; (with_reducible refine (batch_Events.calls k2 1 0 0 ((t674 ++ (⟨#[0]⟩ : ByteArray)) ++ a1) t675 t678 t681 t682 _ A25.out).mono ?_); rintro e w29 ⟨v676, v679, rfl, ho0, ho1, hb⟩; refine ⟨_, rfl, ?_⟩; have n0_ := Am (Kd.S_lower ho0 (below_size (by repeat (first | (with_reducible first | exact HB.out | apply bl | apply pN | apply b1) | exact HB.out | exact HBo.out)))); have n1_ := Am (Kd.R_lower ho1 (below_size (by repeat (first | (with_reducible first | exact HB.out | apply bl | apply pN | apply b1) | exact HB.out | exact HBo.out)))); have n2_ := Am (below_step (by repeat (first | (with_reducible first | exact HB.out | apply bl | apply pN | apply b1) | exact HB.out | exact HBo.out)) hb); clear HB; have HO677 := n0_; have HO680 := n1_; have HB := n2_; clear n0_ n1_ n2_; (try clear hb); (try clear hb2); (try clear hk); (try clear hi); (try clear ho0); (try clear ho1); obtain ⟨Ao30, co30, eo30⟩ := Kd.S_slice HO677.out; subst eo30; obtain ⟨Ao31, co31, eo31⟩ := Kd.R_slice HO680.out; subst eo31))
           go_ret
           exact ⟨by first | rfl | (simp [errW_none, errW_some] <;> rfl) | (simp [*, errW_none, errW_some] <;> rfl) | (simp [Aid.ne_nil, Aid.eq_nil, errW_none, errW_some]; done), by repeat (first | (with_reducible first | exact HB.out | apply bl | apply pN | apply b1) | exact HB.out | exact HBo.out)⟩
          ·
           rw [if_neg c27] at H
           exact absurd H (by simp)
         ·
          rw [if_neg c26] at H
          exact absurd H (by simp)
        ·
         rw [if_neg c24] at H
         exact absurd H (by simp)
       ·
        rw [if_neg c23] at H
        exact absurd H (by simp)

/-- THE ONE PURE STATEMENT of shuttlecocklaw05_BatchPlace (own row). -/
def shuttlecocklaw05_BatchPlace.Pure : Prop := ∀ (y0 : List (S41)) (y1 : ByteArray), ((∀ e2 ∈ y0, ((Lit.int .i64 e2.f0).wf = true ∧ (Lit.int .i64 e2.f1).wf = true ∧ ((∀ e6 ∈ e2.f2, (Lit.int .i64 e6).wf = true) ∧ e2.f2.length ≤ 140737488351232) ∧ e2.f3.size ≤ 140737488351232)) ∧ y0.length ≤ 140737488351232) → y1.size ≤ 140737488351232 → ∃ k, shuttlecocklaw05_BatchPlace.f k y0 y1 = some true

end Go.Proofs.Ytfcombimnmkoeaa.Q
