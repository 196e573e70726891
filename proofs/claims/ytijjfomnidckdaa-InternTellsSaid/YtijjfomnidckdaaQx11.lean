-- printed by a program of this session (NOTES: hprint); not the kit's print
-- minified
-- halved
import Derived.Test.YtijjfomnidckdaaAl
import Derived.Test.YtijjfomnidckdaaQx0
import Derived.Test.YtijjfomnidckdaaQx8
namespace Go.Proofs.Ytijjfomnidckdaa.Q
open Go.RowKit Go.Proofs.YtijjfomnidckdaaW.PrintWords Go.Proofs.YtijjfomnidckdaaW.PrintLast Go.Proofs.YtijjfomnidckdaaW.PrintMore
attribute [local go_sem] max2_int min2_int max_two min_two max_three min_three max_four min_four   -- for this text's walks alone
set_option linter.unusedVariables false
set_option linter.unusedSimpArgs false

def q11_0 : Array Bool := let o := true; let z := false; #[z,z,z,z,z,z,z,z,z,z,z,z,z,z]
def q11_1 : Array Bool := let o := true; let z := false; #[o,z,z,z,z,z,z,z,z,z,z,z,z,z]
def q11_2 : Array Bool := let o := true; let z := false; #[o,o,z,z,z,z,z,z,z,z,z,z,z,z]
def q11_3 : Array Bool := let o := true; let z := false; #[o,o,z,o,z,z,z,z,z,z,z,z,z,z]
def q11_4 : Array Bool := let o := true; let z := false; #[o,o,z,o,z,z,z,z,o,z,z,z,z,z]
def q11_5 : Array Bool := let o := true; let z := false; #[o,o,o,o,z,z,z,z,o,z,z,z,z,z]
def q11_6 : Array Bool := let o := true; let z := false; #[o,o,o,o,o,z,z,z,o,z,z,z,z,z]
def q11_7 : Array Bool := let o := true; let z := false; #[o,o,o,o,o,o,z,z,o,z,z,z,z,z]
def q11_8 : Array Bool := let o := true; let z := false; #[o,o,o,o,o,o,o,z,o,z,z,z,z,z]
def q11_9 : Array Bool := let o := true; let z := false; #[o,o,o,o,o,o,o,o,o,z,z,z,z,z]
def q11_10 : Array Bool := let o := true; let z := false; #[o,o,o,o,o,o,o,o,o,o,z,z,z,z]
def q11_11 : Array Bool := let o := true; let z := false; #[o,o,o,o,o,o,o,o,o,o,o,z,z,z]
def q11_12 : Array Bool := let o := true; let z := false; #[o,o,o,o,o,o,o,o,o,o,o,o,z,z]
def q11_13 : Array Bool := let o := true; let z := false; #[o,o,o,o,o,o,o,o,o,o,o,o,o,z]
def q11_14 : Array Bool := let o := true; let z := false; #[o,o,o,o,o,o,o,o,o,o,o,o,o,o]
/-! ### shuttlecockref06_Name: function 16 -/
def shuttlecockref06_Name.j0 : Nat → Int → Bool → List ByteArray → List (List (S50)) → Option (ByteArray × Bool)
 | 0, _, _, _, _ => none
 | k + 1, x1, x19, x263000, x263001 => if x19 = true then (some ((⟨#[]⟩ : ByteArray), false)) else (if x1 = 0 then (some ((⟨#[]⟩ : ByteArray), true)) else (if 0 ≤ (wrap64 (x1 - 1)) then (if (wrap64 (x1 - 1)) < (x263000.length : Int) then (some (rdOf ByteArray.empty x263000 (wrap64 (x1 - 1)), true)) else (none)) else (none)))
def shuttlecockref06_Name.f (k : Nat) (l0_0 : List ByteArray) (l0_1 : List (List (S50))) (a1 : Int) : Option (ByteArray × Bool) := if a1 < 0 then (shuttlecockref06_Name.j0 k a1 true l0_0 l0_1) else (if a1 > (l0_0.length : Int) then (shuttlecockref06_Name.j0 k a1 true l0_0 l0_1) else ((shuttlecockref06_May.f k l0_0 l0_1).bind fun t263 => (shuttlecockref06_Name.j0 k a1 (!t263) l0_0 l0_1)))
theorem shuttlecockref06_Name.mono_l : ∀ k, (∀ y0 y1 y2 y3, LeO (shuttlecockref06_Name.j0 k y0 y1 y2 y3) (shuttlecockref06_Name.j0 (k + 1) y0 y1 y2 y3))
 | 0 => fun _ _ _ _ r h => by simp [shuttlecockref06_Name.j0] at h
 | k + 1 => by
  have ih0 := shuttlecockref06_Name.mono_l k
  ·
   intro y0 y1 y2 y3
   unfold shuttlecockref06_Name.j0
   repeat' first
   | (with_reducible exact ih0 _ _ _ _)
   | (with_reducible exact shuttlecockref06_May.mono _ _ _)
   | (with_reducible exact LeO.refl _)
   | (with_reducible exact LeO.none _)
   | (with_reducible refine LeO.ite ?_ ?_)
   | (with_reducible refine LeO.bind ?_ (fun _ => ?_))
   | exact ih0 _ _ _ _
   | exact shuttlecockref06_May.mono _ _ _
   | exact LeO.none _
   | refine LeO.ite ?_ ?_
   | refine LeO.bind ?_ (fun _ => ?_)
theorem shuttlecockref06_Name.mono : ∀ a0 a1 a2 k, LeO (shuttlecockref06_Name.f k a0 a1 a2) (shuttlecockref06_Name.f (k + 1) a0 a1 a2) := by
 intro a0 a1 a2 k
 have ih0 := shuttlecockref06_Name.mono_l k
 unfold shuttlecockref06_Name.f
 repeat' first
   | (with_reducible exact ih0 _ _ _ _)
   | (with_reducible exact shuttlecockref06_May.mono _ _ _)
   | (with_reducible exact LeO.refl _)
   | (with_reducible exact LeO.none _)
   | (with_reducible refine LeO.ite ?_ ?_)
   | (with_reducible refine LeO.bind ?_ (fun _ => ?_))
   | exact ih0 _ _ _ _
   | exact shuttlecockref06_May.mono _ _ _
   | exact LeO.none _
   | refine LeO.ite ?_ ?_
   | refine LeO.bind ?_ (fun _ => ?_)
set_option maxHeartbeats 8000000 in
set_option maxRecDepth 100000 in
theorem shuttlecockref06_Name.calls (k : Nat) (A0_0 : Option Addr) (c0_0 : Nat) (l0_0 : List ByteArray) (A0_1 : Option Addr) (c0_1 : Nat) (l0_1 : List (List (S50))) (a1 : Int) (r1 : ByteArray) (r2 : Bool) (w : World) (hr0_0 : Kd.C Kd.string w A0_0 l0_0.length l0_0) (hc0_0 : l0_0.length ≤ c0_0) (hr0_1 : Kd.C (Kd.slice 50 k50) w A0_1 l0_1.length l0_1) (hc0_1 : l0_1.length ≤ c0_1) (h : shuttlecockref06_Name.f k l0_0 l0_1 a1 = some (r1, r2)) :
  Calls Try.prog 16 #[.agg #[.slice A0_0 l0_0.length c0_0, .slice A0_1 l0_1.length c0_1], .int .i64 a1] w fun e w' => e = .returned (.tuple #[.string r1, .bool r2]) ∧ Below w.heap.size w w' := by
 have hu25 := Try.underlying25
 have HR0_0 := Am hr0_0
 have HC0_0 := Am hc0_0
 clear hr0_0 hc0_0
 have HR0_1 := Am hr0_1
 have HC0_1 := Am hc0_1
 clear hr0_1 hc0_1
 have HB := Am (Below.refl w.heap.size w)
 have H : (if a1 < 0 then (shuttlecockref06_Name.j0 k a1 true l0_0 l0_1) else (if a1 > (l0_0.length : Int) then (shuttlecockref06_Name.j0 k a1 true l0_0 l0_1) else ((shuttlecockref06_May.f k l0_0 l0_1).bind fun t263 => (shuttlecockref06_Name.j0 k a1 (!t263) l0_0 l0_1)))) = some (r1, r2) := h
 clear h
 have HC3 := Am H
 clear H
 go_enter Try.func16, Try.ntmps16
 go_upto_region 1 with (first | ((with_reducible refine gate_dst (N := 2) rfl ?_); (try (refine gate_guard (by rfl) ?_; dsimp only)); refine box_event ?hg (N := 2) ?hd (cs := #[.slice A0_0 l0_0.length c0_0, .slice A0_1 l0_1.length c0_1]) (t := 25) ?hr ?_; (case hd => rfl); (case hg => rfl); (case hr => first | (go_simp; done) | (go_simp; rfl)); intro gb262 hg w4 hbox hb; have n0_ := Am (below_step (by repeat (first | (with_reducible first | exact HB.out | apply bl | apply pN | apply b1) | exact HB.out | exact HBo.out)) hb); have n1_ := Am (hbox); have n2_ := Am ((by rw [hg]; exact (below_size (by repeat (first | (with_reducible first | exact HB.out | apply bl | apply pN | apply b1) | exact HB.out | exact HBo.out))) : w.heap.size ≤ gb262)); have n3_ := Am ((by rw [hg]; exact (below_size (by repeat (first | (with_reducible first | exact HB.out | apply bl | apply pN | apply b1) | exact HB.out | exact HBo.out))) : w.heap.size ≤ gb262)); clear HB; have HB := n0_; have BK262 := n1_; have GW262 := n2_; have GE262 := n3_; clear n0_ n1_ n2_ n3_; clear hb hbox hg))
 (try simp only [Act.put, sI, sZ, sS])
 go_cut [19] (fun v19 wc => ∃ (kq : Nat) (x19_2 : Bool), v19 = .bool x19_2 ∧ Aside0 (shuttlecockref06_Name.j0 kq a1 x19_2 l0_0 l0_1 = some (r1, r2)) ∧ Aside0 (kq ≤ k) ∧ Aside0 (wc.heap[gb262]? = some (.cells #[(.slice A0_0 l0_0.length c0_0), (.slice A0_1 l0_1.length c0_1)] 25 (0, 0))) ∧ Aside0 (Below w.heap.size w wc))
 case first =>
  have H := HC3.out
  clear HC3
  by_cases c5 : a1 < 0
  ·
   rw [if_pos c5] at H
   have c5b0 : decide (a1 < 0) = true := decide_eq_true c5
   clear c5
   (first | rw [c5b0] | (simp only [i64_w, i32_w]; rw [c5b0]) | skip)
   have H' := Am H
   clear H
   go_wp2
   go_meet
   case rel => exact ⟨_, (true), (by first | rfl | (simp; done) | (simp [*]; done)), H', ⟨by first | omega | exact Nat.le_refl _⟩, ⟨by (with_reducible repeat (first | refine bn ?_ _ | refine bd ?_ | refine ba ?_ _)); exact BK262.out⟩, ⟨by repeat (first | (with_reducible first | exact HB.out | apply bl | apply pN | apply b1 | refine bs ?_ GE262.out) | exact HB.out | exact HBo.out)⟩⟩
  ·
   rw [if_neg c5] at H
   have c5b0 : decide (a1 < 0) = false := decide_eq_false c5
   clear c5
   (first | rw [c5b0] | (simp only [i64_w, i32_w]; rw [c5b0]) | skip)
   by_cases c6 : a1 > (l0_0.length : Int)
   ·
    rw [if_pos c6] at H
    have c6b0 : decide ((l0_0.length : Int) < a1) = true := decide_eq_true c6
    clear c6
    have H' := Am H
    clear H
    have hcz7_0 : w4.cell? ⟨gb262, 0, none⟩ = some (.slice A0_0 l0_0.length c0_0) := (bc BK262.out 0).trans rfl
    have hcz7_1 : w4.cell? ⟨gb262, 1, none⟩ = some (.slice A0_1 l0_1.length c0_1) := (bc BK262.out 1).trans rfl
    have hfz7_0 := bf BK262.out 0
    have hfz7_1 := bf BK262.out 1
    go_wp2
    go_meet
    case rel => exact ⟨_, (true), (by first | rfl | (simp; done) | (simp [*]; done)), H', ⟨by first | omega | exact Nat.le_refl _⟩, ⟨by (with_reducible repeat (first | refine bn ?_ _ | refine bd ?_ | refine ba ?_ _)); exact BK262.out⟩, ⟨by repeat (first | (with_reducible first | exact HB.out | apply bl | apply pN | apply b1 | refine bs ?_ GE262.out) | exact HB.out | exact HBo.out)⟩⟩
   ·
    rw [if_neg c6] at H
    have c6b0 : decide ((l0_0.length : Int) < a1) = false := decide_eq_false c6
    clear c6
    replace H := ob H
    obtain ⟨t263, A80, H⟩ := H
    replace H : (shuttlecockref06_Name.j0 k a1 (!t263) l0_0 l0_1) = some (r1, r2) := H
    have A8 := Am A80
    clear A80
    have H' := Am H
    clear H
    have hcz9_0 : w4.cell? ⟨gb262, 0, none⟩ = some (.slice A0_0 l0_0.length c0_0) := (bc BK262.out 0).trans rfl
    have hcz9_1 : w4.cell? ⟨gb262, 1, none⟩ = some (.slice A0_1 l0_1.length c0_1) := (bc BK262.out 1).trans rfl
    have hfz9_0 := bf BK262.out 0
    have hfz9_1 := bf BK262.out 1
    go_wp2_with (first | (go_at_call 20; (with_reducible refine (shuttlecockref06_May.calls k _ _ l0_0 _ _ l0_1 t263 _ ?side1 ?side2 ?side3 ?side4 A8.out).mono ?_); (case side1 => repeat (first | exact (Kd.C_below HR0_0.out HB.out) | (with_reducible refine Kd.C_alloc ?_ _) | (with_reducible refine Kd.C_drewN ?_ _) | (with_reducible refine Kd.C_drew ?_))); (case side2 => exact HC0_0.out); (case side3 => repeat (first | exact (Kd.C_below HR0_1.out HB.out) | (with_reducible refine Kd.C_alloc ?_ _) | (with_reducible refine Kd.C_drewN ?_ _) | (with_reducible refine Kd.C_drew ?_))); (case side4 => exact HC0_1.out); rintro e w10 ⟨rfl, hb⟩; have n0_ := Am (blk_below (g := gb262) (o := .cells #[.slice A0_0 l0_0.length c0_0, .slice A0_1 l0_1.length c0_1] 25 (0, 0)) (by (with_reducible repeat (first | refine bn ?_ _ | refine bd ?_ | refine ba ?_ _)); exact BK262.out) hb); have n1_ := Am (below_step (by repeat (first | (with_reducible first | exact HB.out | apply bl | apply pN | apply b1 | refine bs ?_ GE262.out) | exact HB.out | exact HBo.out)) hb); clear BK262; clear HB; have BK262 := n0_; have HB := n1_; clear n0_ n1_; (try clear hb); (try clear hb2); (try clear hk); (try clear hi)))
    go_meet
    case rel => exact ⟨_, (!t263), (by first | rfl | (simp; done) | (simp [*]; done)), H', ⟨by first | omega | exact Nat.le_refl _⟩, ⟨by (with_reducible repeat (first | refine bn ?_ _ | refine bd ?_ | refine ba ?_ _)); exact BK262.out⟩, ⟨by repeat (first | (with_reducible first | exact HB.out | apply bl | apply pN | apply b1 | refine bs ?_ GE262.out) | exact HB.out | exact HBo.out)⟩⟩
 case rest =>
  clear HC3
  try clear c1
  try clear p2
  try clear c5
  try clear c5b0
  try clear c6
  try clear c6b0
  try clear hcz7_0
  try clear hcz7_1
  try clear hcz9_0
  try clear hcz9_1
  try clear hfz7_0
  try clear hfz7_1
  try clear hfz9_0
  try clear hfz9_1
  obtain ⟨kq, x19_2, rfl, HA, HJ2, BK262, HB⟩ := hcut
  cases kq with
  | zero => exact absurd HA.out (by simp [shuttlecockref06_Name.j0])
  | succ kj2 =>
   have H := HA.out
   clear HA
   simp only [shuttlecockref06_Name.j0] at H
   by_cases c11 : x19_2 = true
   ·
    subst c11
    have H1 : (some ((⟨#[]⟩ : ByteArray), false)) = some (r1, r2) := by rw [if_pos rfl] at H; exact H
    clear H
    have H := H1
    clear H1
    simp only [Option.some.injEq, Prod.mk.injEq] at H
    obtain ⟨rfl, rfl⟩ := H
    go_wp2
    go_ret2
    exact ⟨by first | rfl | (simp [errW_none, errW_some] <;> rfl) | (simp [*, errW_none, errW_some] <;> rfl) | (simp [Aid.ne_nil, Aid.eq_nil, errW_none, errW_some]; done), by repeat (first | (with_reducible first | exact HB.out | apply bl | apply pN | apply b1 | refine bs ?_ GE262.out) | exact HB.out | exact HBo.out)⟩
   ·
    replace c11 := Bool.eq_false_iff.mpr c11
    subst c11
    have H1 : (if a1 = 0 then (some ((⟨#[]⟩ : ByteArray), true)) else (if 0 ≤ (wrap64 (a1 - 1)) then (if (wrap64 (a1 - 1)) < (l0_0.length : Int) then (some (rdOf ByteArray.empty l0_0 (wrap64 (a1 - 1)), true)) else (none)) else (none))) = some (r1, r2) := by rw [if_neg (show ¬ (false = true) by decide)] at H; exact H
    clear H
    have H := H1
    clear H1
    by_cases c12 : a1 = 0
    ·
     rw [if_pos c12] at H
     have c12b0 : (a1 == 0) = true := beq_iff_eq.mpr c12
     have c12b1 : (a1 != 0) = false := bne_eq_false_iff_eq.mpr c12
     clear c12
     simp only [Option.some.injEq, Prod.mk.injEq] at H
     obtain ⟨rfl, rfl⟩ := H
     go_wp2
     go_ret2
     exact ⟨by first | rfl | (simp [errW_none, errW_some] <;> rfl) | (simp [*, errW_none, errW_some] <;> rfl) | (simp [Aid.ne_nil, Aid.eq_nil, errW_none, errW_some]; done), by repeat (first | (with_reducible first | exact HB.out | apply bl | apply pN | apply b1 | refine bs ?_ GE262.out) | exact HB.out | exact HBo.out)⟩
    ·
     rw [if_neg c12] at H
     have c12b0 : (a1 == 0) = false := beq_eq_false_iff_ne.mpr c12
     have c12b1 : (a1 != 0) = true := bne_iff_ne.mpr c12
     obtain ⟨ji13, hji13⟩ : ∃ j_ : Int, (wrap64 (a1 - 1)) = j_ := ⟨_, rfl⟩
     replace H : (if 0 ≤ (ji13) then (if (ji13) < (l0_0.length : Int) then (some (rdOf ByteArray.empty l0_0 (ji13), true)) else (none)) else (none)) = some (r1, r2) := by first | (rw [hji13] at H; exact H) | (simp only [hji13] at H ⊢; exact H)
     have hji13w : (IntKind.i64.wrap (a1 - 1)) = ji13 := (i64_w _).trans hji13
     by_cases c14 : 0 ≤ (ji13)
     ·
      rw [if_pos c14] at H
      have c14b0 : decide (0 ≤ (ji13)) = true := decide_eq_true c14
      clear c14
      by_cases c15 : (ji13) < (l0_0.length : Int)
      ·
       rw [if_pos c15] at H
       have c15b0 : decide ((ji13) < (l0_0.length : Int)) = true := decide_eq_true c15
       clear c15
       simp only [Option.some.injEq, Prod.mk.injEq] at H
       obtain ⟨rfl, rfl⟩ := H
       have hcz16_0 : wc.cell? ⟨gb262, 0, none⟩ = some (.slice A0_0 l0_0.length c0_0) := (bc BK262.out 0).trans rfl
       have hcz16_1 : wc.cell? ⟨gb262, 1, none⟩ = some (.slice A0_1 l0_1.length c0_1) := (bc BK262.out 1).trans rfl
       have hfz16_0 := bf BK262.out 0
       have hfz16_1 := bf BK262.out 1
       have p264 : 0 ≤ ((ji13) : Int) := of_decide_eq_true (by first | (with_reducible assumption) | assumption)
       have q264 : (ji13) < (l0_0.length : Int) := of_decide_eq_true (by first | (with_reducible assumption) | assumption)
       obtain ⟨ad264, e264, hx264_0⟩ := Kd.at_string HR0_0.out (ji13) p264 q264
       cases e264
       replace hx264_0 := (HB.out.cell (World.block_lt_of_cell? w _ hx264_0)).trans hx264_0
       replace p264 := eq_true p264
       replace q264 := eq_true q264
       go_wp2
       go_ret2
       exact ⟨by first | rfl | (simp [errW_none, errW_some] <;> rfl) | (simp only [← hji13]; first | rfl | (simp [errW_none, errW_some] <;> rfl)) | (simp [*, errW_none, errW_some] <;> rfl) | (simp [Aid.ne_nil, Aid.eq_nil, errW_none, errW_some]; done), by repeat (first | (with_reducible first | exact HB.out | apply bl | apply pN | apply b1 | refine bs ?_ GE262.out) | exact HB.out | exact HBo.out)⟩
      ·
       rw [if_neg c15] at H
       exact absurd H (by simp)
     ·
      rw [if_neg c14] at H
      exact absurd H (by simp)

/-! ### shuttlecockref06_Frames: function 18 -/
mutual
def shuttlecockref06_Frames.j0 : Nat → Int → Bool → List ByteArray → List (List (S50)) → Option ((List (S45)) × Bool)
 | 0, _, _, _, _ => none
 | k + 1, x1, x22, x266000, x266001 => if x22 = true then (some (([] : List (S45)), false)) else (shuttlecockref06_Frames.l0 k x1 (([] : List (S45))) 0 x266000 x266001)
def shuttlecockref06_Frames.l0 : Nat → Int → List (S45) → Int → List ByteArray → List (List (S50)) → Option ((List (S45)) × Bool)
 | 0, _, _, _, _, _ => none
 | k + 1, x1, x6, x7, x266000, x266001 => if x1 > 0 then (if 0 ≤ (wrap64 (x1 - 1)) then (if (wrap64 (x1 - 1)) < (x266001.length : Int) then (if x7 < ((rd_L2 x266001 (wrap64 (x1 - 1))).length : Int) then (if 0 ≤ x7 then (if 0 ≤ (wrap64 (((rd_T50 (rd_L2 x266001 (wrap64 (x1 - 1))) x7).f0) - 1)) then (if (wrap64 (((rd_T50 (rd_L2 x266001 (wrap64 (x1 - 1))) x7).f0) - 1)) < (x266000.length : Int) then (if x6.length < 5864062014805 then (shuttlecockref06_Frames.l0 k x1 (x6 ++ [(⟨rdOf ByteArray.empty x266000 (wrap64 (((rd_T50 (rd_L2 x266001 (wrap64 (x1 - 1))) x7).f0) - 1)), (rd_T50 (rd_L2 x266001 (wrap64 (x1 - 1))) x7).f1⟩ : S45)]) (wrap64 (x7 + 1)) x266000 x266001) else (none)) else (none)) else (none)) else (none)) else (some (x6, true))) else (none)) else (none)) else (some (x6, true))
end
def shuttlecockref06_Frames.f (k : Nat) (l0_0 : List ByteArray) (l0_1 : List (List (S50))) (a1 : Int) : Option ((List (S45)) × Bool) := if a1 < 0 then (shuttlecockref06_Frames.j0 k a1 true l0_0 l0_1) else (if a1 > (l0_1.length : Int) then (shuttlecockref06_Frames.j0 k a1 true l0_0 l0_1) else ((shuttlecockref06_May.f k l0_0 l0_1).bind fun t266 => (shuttlecockref06_Frames.j0 k a1 (!t266) l0_0 l0_1)))
theorem shuttlecockref06_Frames.mono_l : ∀ k, (∀ y0 y1 y2 y3, LeO (shuttlecockref06_Frames.j0 k y0 y1 y2 y3) (shuttlecockref06_Frames.j0 (k + 1) y0 y1 y2 y3)) ∧ (∀ y0 y1 y2 y3 y4, LeO (shuttlecockref06_Frames.l0 k y0 y1 y2 y3 y4) (shuttlecockref06_Frames.l0 (k + 1) y0 y1 y2 y3 y4))
 | 0 => ⟨fun _ _ _ _ r h => by simp [shuttlecockref06_Frames.j0] at h, fun _ _ _ _ _ r h => by simp [shuttlecockref06_Frames.l0] at h⟩
 | k + 1 => by
  obtain ⟨ih0, ih1⟩ := shuttlecockref06_Frames.mono_l k
  refine ⟨?_, ?_⟩
  ·
   intro y0 y1 y2 y3
   unfold shuttlecockref06_Frames.j0
   repeat' first
   | (with_reducible exact ih0 _ _ _ _)
   | (with_reducible exact ih1 _ _ _ _ _)
   | (with_reducible exact shuttlecockref06_May.mono _ _ _)
   | (with_reducible exact LeO.refl _)
   | (with_reducible exact LeO.none _)
   | (with_reducible refine LeO.ite ?_ ?_)
   | (with_reducible refine LeO.bind ?_ (fun _ => ?_))
   | exact ih0 _ _ _ _
   | exact ih1 _ _ _ _ _
   | exact shuttlecockref06_May.mono _ _ _
   | exact LeO.none _
   | refine LeO.ite ?_ ?_
   | refine LeO.bind ?_ (fun _ => ?_)
  ·
   intro y0 y1 y2 y3 y4
   unfold shuttlecockref06_Frames.l0
   repeat' first
   | (with_reducible exact ih0 _ _ _ _)
   | (with_reducible exact ih1 _ _ _ _ _)
   | (with_reducible exact shuttlecockref06_May.mono _ _ _)
   | (with_reducible exact LeO.refl _)
   | (with_reducible exact LeO.none _)
   | (with_reducible refine LeO.ite ?_ ?_)
   | (with_reducible refine LeO.bind ?_ (fun _ => ?_))
   | exact ih0 _ _ _ _
   | exact ih1 _ _ _ _ _
   | exact shuttlecockref06_May.mono _ _ _
   | exact LeO.none _
   | refine LeO.ite ?_ ?_
   | refine LeO.bind ?_ (fun _ => ?_)
theorem shuttlecockref06_Frames.mono : ∀ a0 a1 a2 k, LeO (shuttlecockref06_Frames.f k a0 a1 a2) (shuttlecockref06_Frames.f (k + 1) a0 a1 a2) := by
 intro a0 a1 a2 k
 obtain ⟨ih0, ih1⟩ := shuttlecockref06_Frames.mono_l k
 unfold shuttlecockref06_Frames.f
 repeat' first
   | (with_reducible exact ih0 _ _ _ _)
   | (with_reducible exact ih1 _ _ _ _ _)
   | (with_reducible exact shuttlecockref06_May.mono _ _ _)
   | (with_reducible exact LeO.refl _)
   | (with_reducible exact LeO.none _)
   | (with_reducible refine LeO.ite ?_ ?_)
   | (with_reducible refine LeO.bind ?_ (fun _ => ?_))
   | exact ih0 _ _ _ _
   | exact ih1 _ _ _ _ _
   | exact shuttlecockref06_May.mono _ _ _
   | exact LeO.none _
   | refine LeO.ite ?_ ?_
   | refine LeO.bind ?_ (fun _ => ?_)
def shuttlecockref06_Frames.T8 : Bool × List (List Nat × List Nat) := (true, [([], []), ([], []), ([1], [1]), ([], []), ([3], [3]), ([4], [4]), ([2, 5], [2, 5]), ([6], [6]), ([], []), ([8], [8]), ([7, 9], [7, 9]), ([10], [10]), ([0, 11], [0, 11]), ([12, 12, 0, 1, 2, 3, 4, 5, 6, 7, 8, 9, 10, 11, 12], [0, 12])])
def shuttlecockref06_Frames.B8 : List Nat := [0, 0, 2, 0, 8, 24, 62, 126, 0, 256, 1022, 2046, 4095, 8191]
theorem shuttlecockref06_Frames.tab8 : rtab .any (opsOf Try.f18 8) = shuttlecockref06_Frames.T8 := by kernel_rfl
theorem shuttlecockref06_Frames.bits8 : waitsOk shuttlecockref06_Frames.T8.2 shuttlecockref06_Frames.B8 = true := by kernel_rfl
set_option maxHeartbeats 8000000 in
set_option maxRecDepth 100000 in
theorem shuttlecockref06_Frames.calls (k : Nat) (A0_0 : Option Addr) (c0_0 : Nat) (l0_0 : List ByteArray) (A0_1 : Option Addr) (c0_1 : Nat) (l0_1 : List (List (S50))) (a1 : Int) (r1 : List (S45)) (r2 : Bool) (w : World) (hr0_0 : Kd.C Kd.string w A0_0 l0_0.length l0_0) (hc0_0 : l0_0.length ≤ c0_0) (hr0_1 : Kd.C (Kd.slice 50 k50) w A0_1 l0_1.length l0_1) (hc0_1 : l0_1.length ≤ c0_1) (h : shuttlecockref06_Frames.f k l0_0 l0_1 a1 = some (r1, r2)) :
  Calls Try.prog 18 #[.agg #[.slice A0_0 l0_0.length c0_0, .slice A0_1 l0_1.length c0_1], .int .i64 a1] w fun e w' => ∃ v0_ : Value, e = .returned (.tuple #[v0_, .bool r2]) ∧ Kd.R k45 45 w' w.heap.size (fun _ => True) v0_ r1 ∧ Below w.heap.size w w' := by
 have hu25 := Try.underlying25
 have hu50 := Try.underlying50
 have hu45 := Try.underlying45
 have HR0_0 := Am hr0_0
 have HC0_0 := Am hc0_0
 clear hr0_0 hc0_0
 have HR0_1 := Am hr0_1
 have HC0_1 := Am hc0_1
 clear hr0_1 hc0_1
 have HB := Am (Below.refl w.heap.size w)
 have H : (if a1 < 0 then (shuttlecockref06_Frames.j0 k a1 true l0_0 l0_1) else (if a1 > (l0_1.length : Int) then (shuttlecockref06_Frames.j0 k a1 true l0_0 l0_1) else ((shuttlecockref06_May.f k l0_0 l0_1).bind fun t266 => (shuttlecockref06_Frames.j0 k a1 (!t266) l0_0 l0_1)))) = some (r1, r2) := h
 clear h
 have HC3 := Am H
 clear H
 go_enter Try.func18, Try.ntmps18
 go_upto_region 1 with (first | ((with_reducible refine gate_dst (N := 2) rfl ?_); (try (refine gate_guard (by rfl) ?_; dsimp only)); refine box_event ?hg (N := 2) ?hd (cs := #[.slice A0_0 l0_0.length c0_0, .slice A0_1 l0_1.length c0_1]) (t := 25) ?hr ?_; (case hd => rfl); (case hg => rfl); (case hr => first | (go_simp; done) | (go_simp; rfl)); intro gb265 hg w4 hbox hb; have n0_ := Am (below_step (by repeat (first | (with_reducible first | exact HB.out | apply bl | apply pN | apply b1) | exact HB.out | exact HBo.out)) hb); have n1_ := Am (hbox); have n2_ := Am ((by rw [hg]; exact (below_size (by repeat (first | (with_reducible first | exact HB.out | apply bl | apply pN | apply b1) | exact HB.out | exact HBo.out))) : w.heap.size ≤ gb265)); have n3_ := Am ((by rw [hg]; exact (below_size (by repeat (first | (with_reducible first | exact HB.out | apply bl | apply pN | apply b1) | exact HB.out | exact HBo.out))) : w.heap.size ≤ gb265)); clear HB; have HB := n0_; have BK265 := n1_; have GW265 := n2_; have GE265 := n3_; clear n0_ n1_ n2_ n3_; clear hb hbox hg))
 (try simp only [Act.put, sI, sZ, sS])
 go_cut [22] (fun v22 wc => ∃ (kq : Nat) (x22_2 : Bool), v22 = .bool x22_2 ∧ Aside0 (shuttlecockref06_Frames.j0 kq a1 x22_2 l0_0 l0_1 = some (r1, r2)) ∧ Aside0 (kq ≤ k) ∧ Aside0 (wc.heap[gb265]? = some (.cells #[(.slice A0_0 l0_0.length c0_0), (.slice A0_1 l0_1.length c0_1)] 25 (0, 0))) ∧ Aside0 (Below w.heap.size w wc))
 case first =>
  have H := HC3.out
  clear HC3
  by_cases c5 : a1 < 0
  ·
   rw [if_pos c5] at H
   have c5b0 : decide (a1 < 0) = true := decide_eq_true c5
   clear c5
   (first | rw [c5b0] | (simp only [i64_w, i32_w]; rw [c5b0]) | skip)
   have H' := Am H
   clear H
   go_wp2
   go_meet
   case rel => exact ⟨_, (true), (by first | rfl | (simp; done) | (simp [*]; done)), H', ⟨by first | omega | exact Nat.le_refl _⟩, ⟨by (with_reducible repeat (first | refine bn ?_ _ | refine bd ?_ | refine ba ?_ _)); exact BK265.out⟩, ⟨by repeat (first | (with_reducible first | exact HB.out | apply bl | apply pN | apply b1 | refine bs ?_ GE265.out) | exact HB.out | exact HBo.out)⟩⟩
  ·
   rw [if_neg c5] at H
   have c5b0 : decide (a1 < 0) = false := decide_eq_false c5
   clear c5
   (first | rw [c5b0] | (simp only [i64_w, i32_w]; rw [c5b0]) | skip)
   by_cases c6 : a1 > (l0_1.length : Int)
   ·
    rw [if_pos c6] at H
    have c6b0 : decide ((l0_1.length : Int) < a1) = true := decide_eq_true c6
    clear c6
    have H' := Am H
    clear H
    have hcz7_0 : w4.cell? ⟨gb265, 0, none⟩ = some (.slice A0_0 l0_0.length c0_0) := (bc BK265.out 0).trans rfl
    have hcz7_1 : w4.cell? ⟨gb265, 1, none⟩ = some (.slice A0_1 l0_1.length c0_1) := (bc BK265.out 1).trans rfl
    have hfz7_0 := bf BK265.out 0
    have hfz7_1 := bf BK265.out 1
    go_wp2
    go_meet
    case rel => exact ⟨_, (true), (by first | rfl | (simp; done) | (simp [*]; done)), H', ⟨by first | omega | exact Nat.le_refl _⟩, ⟨by (with_reducible repeat (first | refine bn ?_ _ | refine bd ?_ | refine ba ?_ _)); exact BK265.out⟩, ⟨by repeat (first | (with_reducible first | exact HB.out | apply bl | apply pN | apply b1 | refine bs ?_ GE265.out) | exact HB.out | exact HBo.out)⟩⟩
   ·
    rw [if_neg c6] at H
    have c6b0 : decide ((l0_1.length : Int) < a1) = false := decide_eq_false c6
    clear c6
    replace H := ob H
    obtain ⟨t266, A80, H⟩ := H
    replace H : (shuttlecockref06_Frames.j0 k a1 (!t266) l0_0 l0_1) = some (r1, r2) := H
    have A8 := Am A80
    clear A80
    have H' := Am H
    clear H
    have hcz9_0 : w4.cell? ⟨gb265, 0, none⟩ = some (.slice A0_0 l0_0.length c0_0) := (bc BK265.out 0).trans rfl
    have hcz9_1 : w4.cell? ⟨gb265, 1, none⟩ = some (.slice A0_1 l0_1.length c0_1) := (bc BK265.out 1).trans rfl
    have hfz9_0 := bf BK265.out 0
    have hfz9_1 := bf BK265.out 1
    go_wp2_with (first | (go_at_call 20; (with_reducible refine (shuttlecockref06_May.calls k _ _ l0_0 _ _ l0_1 t266 _ ?side1 ?side2 ?side3 ?side4 A8.out).mono ?_); (case side1 => repeat (first | exact (Kd.C_below HR0_0.out HB.out) | (with_reducible refine Kd.C_alloc ?_ _) | (with_reducible refine Kd.C_drewN ?_ _) | (with_reducible refine Kd.C_drew ?_))); (case side2 => exact HC0_0.out); (case side3 => repeat (first | exact (Kd.C_below HR0_1.out HB.out) | (with_reducible refine Kd.C_alloc ?_ _) | (with_reducible refine Kd.C_drewN ?_ _) | (with_reducible refine Kd.C_drew ?_))); (case side4 => exact HC0_1.out); rintro e w10 ⟨rfl, hb⟩; have n0_ := Am (blk_below (g := gb265) (o := .cells #[.slice A0_0 l0_0.length c0_0, .slice A0_1 l0_1.length c0_1] 25 (0, 0)) (by (with_reducible repeat (first | refine bn ?_ _ | refine bd ?_ | refine ba ?_ _)); exact BK265.out) hb); have n1_ := Am (below_step (by repeat (first | (with_reducible first | exact HB.out | apply bl | apply pN | apply b1 | refine bs ?_ GE265.out) | exact HB.out | exact HBo.out)) hb); clear BK265; clear HB; have BK265 := n0_; have HB := n1_; clear n0_ n1_; (try clear hb); (try clear hb2); (try clear hk); (try clear hi)))
    go_meet
    case rel => exact ⟨_, (!t266), (by first | rfl | (simp; done) | (simp [*]; done)), H', ⟨by first | omega | exact Nat.le_refl _⟩, ⟨by (with_reducible repeat (first | refine bn ?_ _ | refine bd ?_ | refine ba ?_ _)); exact BK265.out⟩, ⟨by repeat (first | (with_reducible first | exact HB.out | apply bl | apply pN | apply b1 | refine bs ?_ GE265.out) | exact HB.out | exact HBo.out)⟩⟩
 case rest =>
  clear HC3
  try clear c1
  try clear p2
  try clear c5
  try clear c5b0
  try clear c6
  try clear c6b0
  try clear hcz7_0
  try clear hcz7_1
  try clear hcz9_0
  try clear hcz9_1
  try clear hfz7_0
  try clear hfz7_1
  try clear hfz9_0
  try clear hfz9_1
  obtain ⟨kq, x22_2, rfl, HA, HJ2, BK265, HB⟩ := hcut
  cases kq with
  | zero => exact absurd HA.out (by simp [shuttlecockref06_Frames.j0])
  | succ kj2 =>
   have H := HA.out
   clear HA
   simp only [shuttlecockref06_Frames.j0] at H
   by_cases c11 : x22_2 = true
   ·
    subst c11
    have H1 : (some (([] : List (S45)), false)) = some (r1, r2) := by rw [if_pos rfl] at H; exact H
    clear H
    have H := H1
    clear H1
    simp only [Option.some.injEq, Prod.mk.injEq] at H
    obtain ⟨rfl, rfl⟩ := H
    go_wp2
    go_ret2
    exact ⟨_, by first | rfl | (simp [errW_none, errW_some] <;> rfl) | (simp [*, errW_none, errW_some] <;> rfl) | (simp [Aid.ne_nil, Aid.eq_nil, errW_none, errW_some]; done), by first | exact Kd.R_nil _ _ _ _ _ | exact Kd.N_nil _ _ _ _ _ | exact Kd.V_nil _ _ _ _ _ | exact Kd.Q_nil _ _ _ _ _ | exact Kd.S_nil _ _ _ _ _, by repeat (first | (with_reducible first | exact HB.out | apply bl | apply pN | apply b1 | refine bs ?_ GE265.out) | exact HB.out | exact HBo.out)⟩
   ·
    replace c11 := Bool.eq_false_iff.mpr c11
    subst c11
    have H1 : (shuttlecockref06_Frames.l0 kj2 a1 (([] : List (S45))) 0 l0_0 l0_1) = some (r1, r2) := by rw [if_neg (show ¬ (false = true) by decide)] at H; exact H
    clear H
    have H := H1
    clear H1
    obtain ⟨y267, hy267⟩ : ∃ y_ : List (S45), y_ = (([] : List (S45))) := ⟨_, rfl⟩
    replace H : (shuttlecockref06_Frames.l0 kj2 a1 y267 0 l0_0 l0_1) = some (r1, r2) := by first | (rw [hy267]; with_reducible exact H) | (have H2_ := (Option.bind_some _ _).symm.trans H; rw [hy267]; with_reducible exact H2_) | (have H2_ := (Option.bind_some _ _).symm.trans H; with_reducible exact H2_) | with_reducible exact H | (rw [hy267]; exact H) | exact H
    have Ny267 := Am hy267
    clear hy267
    have H' := Am H
    clear H
    go_wp2_with (first | ((with_reducible refine gate_dst (N := 23) rfl ?_); (try (refine gate_guard (by rfl) ?_; dsimp only)); refine Kd.R_lit k45 _ 45 ?hg (N := 23) ?hd (xs := ([] : List (S45))) (inner := []) (ok := fun _ => True) (okp := fun _ => True) ?hr ?hp (fun _ hk => hk) trivial (Below.refl _ _) (Nat.le_refl _) (by simp) ?_; (case hd => rfl); (case hg => rfl); (case hr => first | (go_simp; done) | (go_simp; rfl)); (case hp => exact (Reps.none _ _)); intro v268 w12 ho13 hb hg_ hnew_; clear hg_ hnew_; (first | rw [← Ny267.out] at ho13 | (simp only [Int.reduceToNat] at ho13; rw [← Ny267.out] at ho13)); have n0_ := Am (Kd.R_lower ho13 (below_size (by repeat (first | (with_reducible first | exact HB.out | apply bl | apply pN | apply b1 | refine bs ?_ GE265.out) | exact HB.out | exact HBo.out)))); have n1_ := Am (blk_below (g := gb265) (o := .cells #[.slice A0_0 l0_0.length c0_0, .slice A0_1 l0_1.length c0_1] 25 (0, 0)) (by (with_reducible repeat (first | refine bn ?_ _ | refine bd ?_ | refine ba ?_ _)); exact BK265.out) hb); have n2_ := Am (below_step (by repeat (first | (with_reducible first | exact HB.out | apply bl | apply pN | apply b1 | refine bs ?_ GE265.out) | exact HB.out | exact HBo.out)) hb); clear BK265; clear HB; have HO269 := n0_; have BK265 := n1_; have HB := n2_; clear n0_ n1_ n2_; clear hb ho13))
    go_loopg [6, 7] kj2 (fun kq v6 v7 w' => ∃ (x6_2 : List (S45)) (x7_2 : Int), v7 = .int .i64 x7_2 ∧ Aside0 (shuttlecockref06_Frames.l0 kq a1 x6_2 x7_2 l0_0 l0_1 = some (r1, r2)) ∧ Aside0 (kq ≤ kj2) ∧ Aside0 (Kd.R k45 45 w' w.heap.size (fun _ => True) v6 x6_2) ∧ Aside0 (w'.heap[gb265]? = some (.cells #[(.slice A0_0 l0_0.length c0_0), (.slice A0_1 l0_1.length c0_1)] 25 (0, 0))) ∧ Aside0 (Below w.heap.size w w'))
    case atStart => exact ⟨(y267), (0), (by first | rfl | (simp; done) | (simp [*]; done)), H', ⟨Nat.le_refl _⟩, ⟨by (with_reducible repeat (first | apply Kd.R_alloc | apply Kd.R_drewN | apply Kd.R_drew)); exact HO269.out⟩, ⟨by (with_reducible repeat (first | refine bn ?_ _ | refine bd ?_ | refine ba ?_ _)); exact BK265.out⟩, ⟨by repeat (first | (with_reducible first | exact HB.out | apply bl | apply pN | apply b1 | refine bs ?_ GE265.out) | exact HB.out | exact HBo.out)⟩⟩
    case round =>
     clear H'
     try clear c1
     try clear p2
     try clear c5
     try clear c5b0
     try clear c6
     try clear c6b0
     try clear c11
     try clear hcz7_0
     try clear hcz7_1
     try clear hcz9_0
     try clear hcz9_1
     try clear hfz7_0
     try clear hfz7_1
     try clear hfz9_0
     try clear hfz9_1
     try clear p2
     obtain ⟨x6_2, x7_2, rfl, HA, HK2, HO_6, BK265, HB⟩ := hrel
     cases gk with
     | zero => exact absurd HA.out (by simp [shuttlecockref06_Frames.l0])
     | succ k2 =>
      have H := HA.out
      clear HA
      simp only [shuttlecockref06_Frames.l0] at H
      by_cases c14 : a1 > 0
      ·
       rw [if_pos c14] at H
       have c14b0 : decide (0 < a1) = true := decide_eq_true c14
       clear c14
       obtain ⟨ji15, hji15⟩ : ∃ j_ : Int, (wrap64 (a1 - 1)) = j_ := ⟨_, rfl⟩
       replace H : (if 0 ≤ (ji15) then (if (ji15) < (l0_1.length : Int) then (if x7_2 < ((rd_L2 l0_1 (ji15)).length : Int) then (if 0 ≤ x7_2 then (if 0 ≤ (wrap64 (((rd_T50 (rd_L2 l0_1 (ji15)) x7_2).f0) - 1)) then (if (wrap64 (((rd_T50 (rd_L2 l0_1 (ji15)) x7_2).f0) - 1)) < (l0_0.length : Int) then (if x6_2.length < 5864062014805 then (shuttlecockref06_Frames.l0 k2 a1 (x6_2 ++ [(⟨rdOf ByteArray.empty l0_0 (wrap64 (((rd_T50 (rd_L2 l0_1 (ji15)) x7_2).f0) - 1)), (rd_T50 (rd_L2 l0_1 (ji15)) x7_2).f1⟩ : S45)]) (wrap64 (x7_2 + 1)) l0_0 l0_1) else (none)) else (none)) else (none)) else (none)) else (some (x6_2, true))) else (none)) else (none)) = some (r1, r2) := by first | (rw [hji15] at H; exact H) | (simp only [hji15] at H ⊢; exact H)
       have hji15w : (IntKind.i64.wrap (a1 - 1)) = ji15 := (i64_w _).trans hji15
       by_cases c16 : 0 ≤ (ji15)
       ·
        rw [if_pos c16] at H
        have c16b0 : decide (0 ≤ (ji15)) = true := decide_eq_true c16
        clear c16
        by_cases c17 : (ji15) < (l0_1.length : Int)
        ·
         rw [if_pos c17] at H
         have c17b0 : decide ((ji15) < (l0_1.length : Int)) = true := decide_eq_true c17
         clear c17
         by_cases c18 : x7_2 < ((rd_L2 l0_1 (ji15)).length : Int)
         ·
          rw [if_pos c18] at H
          have c18b0 : decide (x7_2 < ((rd_L2 l0_1 (ji15)).length : Int)) = true := decide_eq_true c18
          clear c18
          by_cases c19 : 0 ≤ x7_2
          ·
           rw [if_pos c19] at H
           have c19b0 : decide (0 ≤ x7_2) = true := decide_eq_true c19
           clear c19
           obtain ⟨ji20, hji20⟩ : ∃ j_ : Int, (wrap64 (((rd_T50 (rd_L2 l0_1 (ji15)) x7_2).f0) - 1)) = j_ := ⟨_, rfl⟩
           replace H : (if 0 ≤ (ji20) then (if (ji20) < (l0_0.length : Int) then (if x6_2.length < 5864062014805 then (shuttlecockref06_Frames.l0 k2 a1 (x6_2 ++ [(⟨rdOf ByteArray.empty l0_0 (ji20), (rd_T50 (rd_L2 l0_1 (ji15)) x7_2).f1⟩ : S45)]) (wrap64 (x7_2 + 1)) l0_0 l0_1) else (none)) else (none)) else (none)) = some (r1, r2) := by first | (rw [hji20] at H; exact H) | (simp only [hji20] at H ⊢; exact H)
           have hji20w : (IntKind.i64.wrap (((rd_T50 (rd_L2 l0_1 (ji15)) x7_2).f0) - 1)) = ji20 := (i64_w _).trans hji20
           by_cases c21 : 0 ≤ (ji20)
           ·
            rw [if_pos c21] at H
            have c21b0 : decide (0 ≤ (ji20)) = true := decide_eq_true c21
            clear c21
            by_cases c22 : (ji20) < (l0_0.length : Int)
            ·
             rw [if_pos c22] at H
             have c22b0 : decide ((ji20) < (l0_0.length : Int)) = true := decide_eq_true c22
             clear c22
             by_cases c23 : x6_2.length < 5864062014805
             ·
              rw [if_pos c23] at H
              have LMc23 := Am c23
              clear c23
              obtain ⟨y275, hy275⟩ : ∃ y_ : List (S45), y_ = (x6_2 ++ [(⟨rdOf ByteArray.empty l0_0 (ji20), (rd_T50 (rd_L2 l0_1 (ji15)) x7_2).f1⟩ : S45)]) := ⟨_, rfl⟩
              replace H : (shuttlecockref06_Frames.l0 k2 a1 y275 (wrap64 (x7_2 + 1)) l0_0 l0_1) = some (r1, r2) := by first | (rw [hy275]; with_reducible exact H) | (have H2_ := (Option.bind_some _ _).symm.trans H; rw [hy275]; with_reducible exact H2_) | (have H2_ := (Option.bind_some _ _).symm.trans H; with_reducible exact H2_) | with_reducible exact H | (rw [hy275]; exact H) | exact H
              have Ny275 := Am hy275
              clear hy275
              have H' := Am H
              clear H
              have hcz24_0 : wr.cell? ⟨gb265, 0, none⟩ = some (.slice A0_0 l0_0.length c0_0) := (bc BK265.out 0).trans rfl
              have hcz24_1 : wr.cell? ⟨gb265, 1, none⟩ = some (.slice A0_1 l0_1.length c0_1) := (bc BK265.out 1).trans rfl
              have hfz24_0 := bf BK265.out 0
              have hfz24_1 := bf BK265.out 1
              have p270 : 0 ≤ ((ji15) : Int) := of_decide_eq_true (by first | (with_reducible assumption) | assumption)
              have q270 : (ji15) < (l0_1.length : Int) := of_decide_eq_true (by first | (with_reducible assumption) | assumption)
              obtain ⟨ad270, A270_0, c270_0, e270, hx270_0, hl270_0, hi270_0⟩ := at_L2 HR0_1.out (ji15) p270 q270
              cases e270
              replace hx270_0 := (HB.out.cell (World.block_lt_of_cell? w _ hx270_0)).trans hx270_0
              have HR270_0 := Am hi270_0
              have HC270_0 := Am hl270_0
              clear hi270_0 hl270_0
              replace p270 := eq_true p270
              replace q270 := eq_true q270
              have p271 : 0 ≤ ((ji15) : Int) := of_decide_eq_true (by first | (with_reducible assumption) | assumption)
              have q271 : (ji15) < (l0_1.length : Int) := of_decide_eq_true (by first | (with_reducible assumption) | assumption)
              obtain ⟨ad271, A271_0, c271_0, e271, hx271_0, hl271_0, hi271_0⟩ := at_L2 HR0_1.out (ji15) p271 q271
              obtain rfl : ad270 = ad271 := (by injection e271)
              replace hx271_0 := (HB.out.cell (World.block_lt_of_cell? w _ hx271_0)).trans hx271_0
              have HR271_0 := Am hi271_0
              have HC271_0 := Am hl271_0
              clear hi271_0 hl271_0
              replace p271 := eq_true p271
              replace q271 := eq_true q271
              have ea_ := Option.some.inj (hx270_0.symm.trans hx271_0)
              injection ea_ with ea_ en_ ec_
              subst ea_
              subst ec_
              clear en_
              have p272 : 0 ≤ (x7_2 : Int) := of_decide_eq_true (by first | (with_reducible assumption) | assumption)
              have q272 : x7_2 < ((rd_L2 l0_1 (ji15)).length : Int) := of_decide_eq_true (by first | (with_reducible assumption) | assumption)
              obtain ⟨ad272, e272, hx272_0, hx272_1⟩ := at_T50 HR271_0.out x7_2 p272 q272
              cases e272
              replace hx272_0 := (HB.out.cell (World.block_lt_of_cell? w _ hx272_0)).trans hx272_0
              replace hx272_1 := (HB.out.cell (World.block_lt_of_cell? w _ hx272_1)).trans hx272_1
              replace p272 := eq_true p272
              replace q272 := eq_true q272
              try go_wp2_with (first | ((with_reducible refine gate_dst (N := 8) rfl ?_); (try (refine gate_guard (by rfl) ?_; dsimp only)); refine box_event ?hg (N := 8) ?hd (cs := #[.int .i64 0, .int .i64 0]) (t := 50) ?hr ?_; (case hd => rfl); (case hg => rfl); (case hr => first | (go_simp; done) | (go_simp; rfl)); intro gb273 hg w25 hbox hb; have n0_ := Am (Kd.R_below (by (with_reducible repeat (first | apply Kd.R_alloc | apply Kd.R_drewN | apply Kd.R_drew)); exact HO_6.out) hb); have n1_ := Am (blk_below (g := gb265) (o := .cells #[.slice A0_0 l0_0.length c0_0, .slice (some ad270) l0_1.length c0_1] 25 (0, 0)) (by (with_reducible repeat (first | refine bn ?_ _ | refine bd ?_ | refine ba ?_ _)); exact BK265.out) hb); have n2_ := Am (below_step (by repeat (first | (with_reducible first | exact HB.out | apply bl | apply pN | apply b1 | refine bs ?_ GE265.out) | exact HB.out | exact HBo.out)) hb); have n3_ := Am (hbox); have n4_ := Am ((by rw [hg]; exact (below_size (by repeat (first | (with_reducible first | exact HB.out | apply bl | apply pN | apply b1 | refine bs ?_ GE265.out) | exact HB.out | exact HBo.out))) : w.heap.size ≤ gb273)); have n5_ := Am ((by rw [hg]; exact (below_size (by repeat (first | (with_reducible first | exact HB.out | apply bl | apply pN | apply b1 | refine bs ?_ GE265.out) | exact HB.out | exact HBo.out))) : w.heap.size ≤ gb273)); have n6_ := Am ((by rw [hg]; exact Nat.ne_of_lt (blk_lt (g := gb265) (o := .cells #[.slice A0_0 l0_0.length c0_0, .slice (some ad270) l0_1.length c0_1] 25 (0, 0)) (by (with_reducible repeat (first | refine bn ?_ _ | refine bd ?_ | refine ba ?_ _)); exact BK265.out)) : gb265 ≠ gb273)); have n7_ := Am ((by rw [hg]; exact Nat.ne_of_gt (blk_lt (g := gb265) (o := .cells #[.slice A0_0 l0_0.length c0_0, .slice (some ad270) l0_1.length c0_1] 25 (0, 0)) (by (with_reducible repeat (first | refine bn ?_ _ | refine bd ?_ | refine ba ?_ _)); exact BK265.out)) : gb273 ≠ gb265)); clear HO_6; clear BK265; clear HB; have HO_6 := n0_; have BK265 := n1_; have HB := n2_; have BK273 := n3_; have GW273 := n4_; have GE273 := n5_; have NB265_273 := n6_; have NB273_265 := n7_; clear n0_ n1_ n2_ n3_ n4_ n5_ n6_ n7_; clear hb hbox hg; have hnb26 := NB273_265.out; have hnc26 := NB265_273.out; have hcz27_0 : w25.cell? ⟨gb273, 0, none⟩ = some (.int .i64 0) := (bc BK273.out 0).trans rfl; have hcz27_1 : w25.cell? ⟨gb273, 1, none⟩ = some (.int .i64 0) := (bc BK273.out 1).trans rfl; have hfz27_0 := bf BK273.out 0; have hfz27_1 := bf BK273.out 1))
              have n0_ : Aside0 (Kd.R k45 45 ((w25.setCell ⟨gb273, 0, none⟩ (.int .i64 ((rd_T50 (rd_L2 l0_1 (ji15)) x7_2).f0))).setCell ⟨gb273, 1, none⟩ (.int .i64 ((rd_T50 (rd_L2 l0_1 (ji15)) x7_2).f1))) w.heap.size (fun _ => True) u6 x6_2) := ⟨by (with_reducible repeat (first | apply Kd.R_alloc | apply Kd.R_drewN | apply Kd.R_drew)); exact Kd.R_mono (Kd.R_far (p := ⟨gb273, 1, none⟩) (Kd.R_far (p := ⟨gb273, 0, none⟩) (Kd.R_types HO_6.out BK273.out (by decide)) (fun _ hk => hk.2) (.int .i64 ((rd_T50 (rd_L2 l0_1 (ji15)) x7_2).f0))) (fun _ hk => hk.2) (.int .i64 ((rd_T50 (rd_L2 l0_1 (ji15)) x7_2).f1))) (fun _ hk => trivial)⟩
              have n1_ : Aside0 (((w25.setCell ⟨gb273, 0, none⟩ (.int .i64 ((rd_T50 (rd_L2 l0_1 (ji15)) x7_2).f0))).setCell ⟨gb273, 1, none⟩ (.int .i64 ((rd_T50 (rd_L2 l0_1 (ji15)) x7_2).f1))).heap[gb265]? = some (.cells #[.slice A0_0 l0_0.length c0_0, .slice (some ad270) l0_1.length c0_1] 25 (0, 0))) := ⟨by (with_reducible repeat (first | refine bn ?_ _ | refine bd ?_ | refine ba ?_ _)); refine blk_far ?_ NB265_273.out _; (with_reducible repeat (first | refine bn ?_ _ | refine bd ?_ | refine ba ?_ _)); refine blk_far ?_ NB265_273.out _; (with_reducible repeat (first | refine bn ?_ _ | refine bd ?_ | refine ba ?_ _)); exact BK265.out⟩
              have n2_ : Aside0 (((w25.setCell ⟨gb273, 0, none⟩ (.int .i64 ((rd_T50 (rd_L2 l0_1 (ji15)) x7_2).f0))).setCell ⟨gb273, 1, none⟩ (.int .i64 ((rd_T50 (rd_L2 l0_1 (ji15)) x7_2).f1))).heap[gb273]? = some (.cells #[.int .i64 ((rd_T50 (rd_L2 l0_1 (ji15)) x7_2).f0), .int .i64 ((rd_T50 (rd_L2 l0_1 (ji15)) x7_2).f1)] 50 (0, 0))) := ⟨by (with_reducible repeat (first | refine bn ?_ _ | refine bd ?_ | refine ba ?_ _)); refine blk_put (cs := #[.int .i64 ((rd_T50 (rd_L2 l0_1 (ji15)) x7_2).f0), .int .i64 0]) ?_ 1 _ rfl; (with_reducible repeat (first | refine bn ?_ _ | refine bd ?_ | refine ba ?_ _)); refine blk_put (cs := #[.int .i64 0, .int .i64 0]) ?_ 0 _ rfl; (with_reducible repeat (first | refine bn ?_ _ | refine bd ?_ | refine ba ?_ _)); exact BK273.out⟩
              have n3_ : Aside0 (Below w.heap.size w ((w25.setCell ⟨gb273, 0, none⟩ (.int .i64 ((rd_T50 (rd_L2 l0_1 (ji15)) x7_2).f0))).setCell ⟨gb273, 1, none⟩ (.int .i64 ((rd_T50 (rd_L2 l0_1 (ji15)) x7_2).f1)))) := ⟨by repeat (first | (with_reducible first | exact HB.out | apply bl | apply pN | apply b1 | refine bs ?_ GE265.out | refine bs ?_ GE273.out) | exact HB.out | exact HBo.out)⟩
              (try clear HO_6)
              (try clear BK265)
              (try clear BK273)
              (try clear HB)
              generalize ((w25.setCell ⟨gb273, 0, none⟩ (.int .i64 ((rd_T50 (rd_L2 l0_1 (ji15)) x7_2).f0))).setCell ⟨gb273, 1, none⟩ (.int .i64 ((rd_T50 (rd_L2 l0_1 (ji15)) x7_2).f1))) = w28 at n0_ n1_ n2_ n3_ ⊢
              have HO_6 := n0_
              have BK265 := n1_
              have BK273 := n2_
              have HB := n3_
              clear n0_ n1_ n2_ n3_
              have n0_ := Am (Kd.R_drew HO_6.out)
              have n1_ := Am (bd BK265.out)
              have n2_ := Am (bd BK273.out)
              have n3_ := Am (b1 HB.out)
              clear HO_6
              clear BK265
              clear BK273
              clear HB
              have HO_6 := n0_
              have BK265 := n1_
              have BK273 := n2_
              have HB := n3_
              clear n0_ n1_ n2_ n3_
              have p274 : 0 ≤ ((ji20) : Int) := of_decide_eq_true (by first | (with_reducible assumption) | assumption)
              have q274 : (ji20) < (l0_0.length : Int) := of_decide_eq_true (by first | (with_reducible assumption) | assumption)
              obtain ⟨ad274, e274, hx274_0⟩ := Kd.at_string HR0_0.out (ji20) p274 q274
              have hw274_0 := hx274_0
              cases e274
              replace hx274_0 := (HB.out.cell (World.block_lt_of_cell? w _ hx274_0)).trans hx274_0
              replace p274 := eq_true p274
              replace q274 := eq_true q274
              refine start_ (n := 14) (S := fun w' => w'.cell? ⟨gb265, 0, none⟩ = some (.slice (some ad274) l0_0.length c0_0) ∧ w'.cell? ⟨gb265, 1, none⟩ = some (.slice (some ad270) l0_1.length c0_1) ∧ w'.cell? ⟨gb273, 0, none⟩ = some (.int .i64 ((rd_T50 (rd_L2 l0_1 (ji15)) x7_2).f0)) ∧ w'.cell? ⟨gb273, 1, none⟩ = some (.int .i64 ((rd_T50 (rd_L2 l0_1 (ji15)) x7_2).f1)) ∧ w'.cell? (ad274.add ((ji20)).toNat) = some (.string (rdOf ByteArray.empty l0_0 (ji20)))) (ds := []) q11_0 (by kernel_rfl) rfl rfl ⟨(bc BK265.out 0).trans rfl, (bc BK265.out 1).trans rfl, (bc BK273.out 0).trans rfl, (bc BK273.out 1).trans rfl, ((HB.out.cell (World.block_lt_of_cell? w _ hw274_0)).trans hw274_0)⟩ (fun hHeld => ?_); refine with_tabW shuttlecockref06_Frames.tab8 shuttlecockref06_Frames.bits8 (fun HT_ HW_ => ?_)
              generalize w28.drew = w29 at HO_6 BK265 BK273 HB hx274_0 hHeld ⊢
              refine Own.pr_ 0 (some 48) q11_1 HT_ (h := ?_)
              refine Own.pr_ 1 (some 49) q11_2 HT_ (h := ?_)
              refine Own.pr_ 3 (some 51) q11_3 HT_ (h := ?_)
              refine Own.pr_ 8 (some 56) q11_4 HT_ (h := ?_)
              refine Own.tk_ 2 (some 50) q11_5 HT_ HW_ hHeld (hy := by rintro w' ⟨s0, s1, s2, s3, s4⟩; go_simp; with_reducible rfl) (h := ?_)
              refine Own.tk_ 4 (some 52) q11_6 HT_ HW_ hHeld (hy := by rintro w' ⟨s0, s1, s2, s3, s4⟩; go_simp; with_reducible rfl) (h := ?_)
              refine Own.pr_ 5 (some 53) q11_7 HT_ (h := ?_)
              refine Own.pr_ 6 (some 54) q11_8 HT_ (h := ?_)
              refine Own.tk_ 7 (some 55) q11_9 HT_ HW_ hHeld (hy := by rintro w' ⟨s0, s1, s2, s3, s4⟩; go_simp; with_reducible rfl) (h := ?_)
              refine Own.tk_ 9 (some 57) q11_10 HT_ HW_ hHeld (hy := by rintro w' ⟨s0, s1, s2, s3, s4⟩; go_simp; with_reducible rfl) (h := ?_)
              refine Own.pr_ 10 (some 58) q11_11 HT_ (h := ?_)
              refine one_ (i := 11) (N := some 59) q11_12 rfl rfl (one_of HT_.out (by kernel_rfl)) (by decide) (fun K hK => ?_)
              refine value_ (w1 := ?_) (v := ?_) (by rfl) rfl ?_ ?_
              rotate_left 2
              ·
               go_simp
               constructor
               ·
                rfl
               ·
                rfl
              refine hK.out _ _ ⟨(bc (ba BK265.out _) 0).trans rfl, (bc (ba BK265.out _) 1).trans rfl, (bc (ba BK273.out _) 0).trans rfl, (bc (ba BK273.out _) 1).trans rfl, (World.cell?_alloc_lt _ _ _ (World.block_lt_of_cell? _ _ (((HB.out.cell (World.block_lt_of_cell? w _ hw274_0)).trans hw274_0)))).trans (((HB.out.cell (World.block_lt_of_cell? w _ hw274_0)).trans hw274_0))⟩ (fun hHeld => ?_)
              clear hK K
              refine norm_ (a' := ?_) ?_ ?_
              rotate_left
              ·
               show Act.put _ (some 59) _ = _
               simp only [Act.put, sI, sZ, sS, i64_w, i32_w]
               rfl
              refine one_ (i := 12) (N := some 60) q11_13 rfl rfl (one_of HT_.out (by kernel_rfl)) (by decide) (fun K hK => ?_)
              refine Kd.R_append_step k45 (w0 := w) w.heap.size (by rfl) (.tmp 48) (.tmp 59) 26 45 (.agg #[(.string ⟨#[]⟩), (.int .i64 0)]) 24 rfl Try.underlying26 info45 rfl (by decide) (by omega) u6 x6_2 (⟨rdOf ByteArray.empty l0_0 (ji20), (rd_T50 (rd_L2 l0_1 (ji15)) x7_2).f1⟩ : S45) [.string (rdOf ByteArray.empty l0_0 (ji20)), .int .i64 ((rd_T50 (rd_L2 l0_1 (ji15)) x7_2).f1)] (fun _ => True) (fun _ => False) rfl rfl ?aP (fun _ hk => hk.elim) ?aF ?aO ?aB ?aS ?aL ?_
              (case aP => exact k45_mkM _ _ _ (⟨rdOf ByteArray.empty l0_0 (ji20), (rd_T50 (rd_L2 l0_1 (ji15)) x7_2).f1⟩ : S45))
              (case aB => exact (by repeat (first | (with_reducible first | exact HB.out | apply bl | apply pN | apply b1 | refine bs ?_ GE265.out | refine bs ?_ GE273.out) | exact HB.out | exact HBo.out)))
              (case aF => exact (fun _ _ => trivial))
              (case aO => exact (by (with_reducible repeat (first | apply Kd.R_alloc | apply Kd.R_drewN | apply Kd.R_drew)); exact HO_6.out))
              (case aS => exact (below_size (by repeat (first | (with_reducible first | exact HB.out | apply bl | apply pN | apply b1 | refine bs ?_ GE265.out | refine bs ?_ GE273.out) | exact HB.out | exact HBo.out))))
              (case aL => have := LMc23.out; omega)
              intro v276 w30 ho hb hg hat
              rw [← Ny275.out] at ho
              have n0_ := Am (blk_grown (g := gb265) (o := .cells #[.slice (some ad274) l0_0.length c0_0, .slice (some ad270) l0_1.length c0_1] 25 (0, 0)) (by (with_reducible repeat (first | refine bn ?_ _ | refine bd ?_ | refine ba ?_ _)); exact BK265.out) hg (Kd.R_ne HO_6.out BK265.out (by decide)))
              have n1_ := Am (blk_grown (g := gb273) (o := .cells #[.int .i64 ((rd_T50 (rd_L2 l0_1 (ji15)) x7_2).f0), .int .i64 ((rd_T50 (rd_L2 l0_1 (ji15)) x7_2).f1)] 50 (0, 0)) (by (with_reducible repeat (first | refine bn ?_ _ | refine bd ?_ | refine ba ?_ _)); exact BK273.out) hg (Kd.R_ne HO_6.out BK273.out (by decide)))
              have n2_ := Am (hb)
              have n3_ := Am (ho)
              clear BK265
              clear BK273
              clear HB
              clear HO_6
              have BK265 := n0_
              have BK273 := n1_
              have HB := n2_
              have HO277 := n3_
              clear n0_ n1_ n2_ n3_
              clear ho hb hg hat
              refine hK.out _ _ ⟨(bc BK265.out 0).trans rfl, (bc BK265.out 1).trans rfl, (bc BK273.out 0).trans rfl, (bc BK273.out 1).trans rfl, ((HB.out.cell (World.block_lt_of_cell? w _ hw274_0)).trans hw274_0)⟩ (fun hHeld => ?_)
              clear hK K
              refine norm_ (a' := ?_) ?_ ?_
              rotate_left
              ·
               show Act.put _ (some 60) _ = _
               simp only [Act.put, sI, sZ, sS, i64_w, i32_w]
               rfl
              refine Own.pr_ 13 (some 6) q11_14 HT_ (h := ?_)
              refine done_ (done_of HT_.out (by kernel_rfl)) ?_
              try go_wp2
              go_roundg k2
              case measure => have := HJ2.out; have := HK2.out; omega
              case rel => exact ⟨(y275), (wrap64 (x7_2 + 1)), (by first | rfl | (simp; done) | (simp [*]; done)), H', ⟨by have := HJ2.out; have := HK2.out; omega⟩, ⟨by (with_reducible repeat (first | apply Kd.R_alloc | apply Kd.R_drewN | apply Kd.R_drew)); exact HO277.out⟩, ⟨by (with_reducible repeat (first | refine bn ?_ _ | refine bd ?_ | refine ba ?_ _)); exact BK265.out⟩, ⟨by repeat (first | (with_reducible first | exact HB.out | apply bl | apply pN | apply b1 | refine bs ?_ GE265.out | refine bs ?_ GE273.out) | exact HB.out | exact HBo.out)⟩⟩
             ·
              rw [if_neg c23] at H
              exact absurd H (by simp)
            ·
             rw [if_neg c22] at H
             exact absurd H (by simp)
           ·
            rw [if_neg c21] at H
            exact absurd H (by simp)
          ·
           rw [if_neg c19] at H
           exact absurd H (by simp)
         ·
          rw [if_neg c18] at H
          have c18b0 : decide (x7_2 < ((rd_L2 l0_1 (ji15)).length : Int)) = false := decide_eq_false c18
          clear c18
          simp only [Option.some.injEq, Prod.mk.injEq] at H
          obtain ⟨rfl, rfl⟩ := H
          have hcz31_0 : wr.cell? ⟨gb265, 0, none⟩ = some (.slice A0_0 l0_0.length c0_0) := (bc BK265.out 0).trans rfl
          have hcz31_1 : wr.cell? ⟨gb265, 1, none⟩ = some (.slice A0_1 l0_1.length c0_1) := (bc BK265.out 1).trans rfl
          have hfz31_0 := bf BK265.out 0
          have hfz31_1 := bf BK265.out 1
          have p270 : 0 ≤ ((ji15) : Int) := of_decide_eq_true (by first | (with_reducible assumption) | assumption)
          have q270 : (ji15) < (l0_1.length : Int) := of_decide_eq_true (by first | (with_reducible assumption) | assumption)
          obtain ⟨ad270, A270_0, c270_0, e270, hx270_0, hl270_0, hi270_0⟩ := at_L2 HR0_1.out (ji15) p270 q270
          cases e270
          replace hx270_0 := (HB.out.cell (World.block_lt_of_cell? w _ hx270_0)).trans hx270_0
          have HR270_0 := Am hi270_0
          have HC270_0 := Am hl270_0
          clear hi270_0 hl270_0
          replace p270 := eq_true p270
          replace q270 := eq_true q270
          go_wp2
          go_ret2
          exact ⟨_, by first | rfl | (simp [errW_none, errW_some] <;> rfl) | (simp only [← hji15]; first | rfl | (simp [errW_none, errW_some] <;> rfl)) | (simp [*, errW_none, errW_some] <;> rfl) | (simp [Aid.ne_nil, Aid.eq_nil, errW_none, errW_some]; done), by (with_reducible repeat (first | apply Kd.R_alloc | apply Kd.R_drewN | apply Kd.R_drew)); exact HO_6.out, by repeat (first | (with_reducible first | exact HB.out | apply bl | apply pN | apply b1 | refine bs ?_ GE265.out) | exact HB.out | exact HBo.out)⟩
        ·
         rw [if_neg c17] at H
         exact absurd H (by simp)
       ·
        rw [if_neg c16] at H
        exact absurd H (by simp)
      ·
       rw [if_neg c14] at H
       have c14b0 : decide (0 < a1) = false := decide_eq_false c14
       clear c14
       simp only [Option.some.injEq, Prod.mk.injEq] at H
       obtain ⟨rfl, rfl⟩ := H
       go_wp2
       go_ret2
       exact ⟨_, by first | rfl | (simp [errW_none, errW_some] <;> rfl) | (simp [*, errW_none, errW_some] <;> rfl) | (simp [Aid.ne_nil, Aid.eq_nil, errW_none, errW_some]; done), by (with_reducible repeat (first | apply Kd.R_alloc | apply Kd.R_drewN | apply Kd.R_drew)); exact HO_6.out, by repeat (first | (with_reducible first | exact HB.out | apply bl | apply pN | apply b1 | refine bs ?_ GE265.out) | exact HB.out | exact HBo.out)⟩

end Go.Proofs.Ytijjfomnidckdaa.Q
