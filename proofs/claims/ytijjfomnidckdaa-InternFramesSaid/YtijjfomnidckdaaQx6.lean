-- printed by a program of this session (NOTES: hprint); not the kit's print
-- minified3
-- minified2
-- minified
-- halved
import Derived.Test.YtijjfomnidckdaaOg
import Derived.Test.YtijjfomnidckdaaAl
import Derived.Test.YtijjfomnidckdaaQx0
import Derived.Test.YtijjfomnidckdaaQx1
import Derived.Test.YtijjfomnidckdaaQx4
namespace Go.Proofs.Ytijjfomnidckdaa.Q
open Go.RowKit Go.Proofs.YtijjfomnidckdaaW.PrintWords Go.Proofs.YtijjfomnidckdaaW.PrintLast Go.Proofs.YtijjfomnidckdaaW.PrintMore
attribute [local go_sem] max2_int min2_int max_two min_two max_three min_three max_four min_four   -- for this text's walks alone
set_option linter.unusedVariables false
set_option linter.unusedSimpArgs false

attribute [local go_sem high] eqA45
def q6_0 : Array Bool := let o := true; let z := false; #[z,z,z,z,z,z,z,z,z,z,z,z,z,z]
def q6_1 : Array Bool := let o := true; let z := false; #[o,z,z,z,z,z,z,z,z,z,z,z,z,z]
def q6_2 : Array Bool := let o := true; let z := false; #[o,o,z,z,z,z,z,z,z,z,z,z,z,z]
def q6_3 : Array Bool := let o := true; let z := false; #[o,o,z,o,z,z,z,z,z,z,z,z,z,z]
def q6_4 : Array Bool := let o := true; let z := false; #[o,o,z,o,z,z,z,z,o,z,z,z,z,z]
def q6_5 : Array Bool := let o := true; let z := false; #[o,o,o,o,z,z,z,z,o,z,z,z,z,z]
def q6_6 : Array Bool := let o := true; let z := false; #[o,o,o,o,o,z,z,z,o,z,z,z,z,z]
def q6_7 : Array Bool := let o := true; let z := false; #[o,o,o,o,o,o,z,z,o,z,z,z,z,z]
def q6_8 : Array Bool := let o := true; let z := false; #[o,o,o,o,o,o,o,z,o,z,z,z,z,z]
def q6_9 : Array Bool := let o := true; let z := false; #[o,o,o,o,o,o,o,o,o,z,z,z,z,z]
def q6_10 : Array Bool := let o := true; let z := false; #[o,o,o,o,o,o,o,o,o,o,z,z,z,z]
def q6_11 : Array Bool := let o := true; let z := false; #[o,o,o,o,o,o,o,o,o,o,o,z,z,z]
def q6_12 : Array Bool := let o := true; let z := false; #[o,o,o,o,o,o,o,o,o,o,o,o,z,z]
def q6_13 : Array Bool := let o := true; let z := false; #[o,o,o,o,o,o,o,o,o,o,o,o,o,z]
def q6_14 : Array Bool := let o := true; let z := false; #[o,o,o,o,o,o,o,o,o,o,o,o,o,o]
/-! ### intern_Name: function 15 -/
def intern_Name.j0 : Nat → Int → Bool → List ByteArray → List (List (S50)) → Option (ByteArray × Bool)
 | 0, _, _, _, _ => none
 | k + 1, x1, x19, x126000, x126001 => if x19 = true then (some ((⟨#[]⟩ : ByteArray), false)) else (if x1 = 0 then (some ((⟨#[]⟩ : ByteArray), true)) else (if 0 ≤ (wrap64 (x1 - 1)) then (if (wrap64 (x1 - 1)) < (x126000.length : Int) then (some (rdOf ByteArray.empty x126000 (wrap64 (x1 - 1)), true)) else (none)) else (none)))
def intern_Name.f (k : Nat) (l0_0 : List ByteArray) (l0_1 : List (List (S50))) (a1 : Int) : Option (ByteArray × Bool) := if a1 < 0 then (intern_Name.j0 k a1 true l0_0 l0_1) else (if a1 > (l0_0.length : Int) then (intern_Name.j0 k a1 true l0_0 l0_1) else ((intern_May.f k l0_0 l0_1).bind fun t126 => (intern_Name.j0 k a1 (!t126) l0_0 l0_1)))
theorem intern_Name.mono_l : ∀ k, (∀ y0 y1 y2 y3, LeO (intern_Name.j0 k y0 y1 y2 y3) (intern_Name.j0 (k + 1) y0 y1 y2 y3))
 | 0 => fun _ _ _ _ r h => by simp [intern_Name.j0] at h
 | k + 1 => by
  have ih0 := intern_Name.mono_l k
  ·
   intro y0 y1 y2 y3
   unfold intern_Name.j0
   repeat' first
   | (with_reducible exact ih0 _ _ _ _)
   | (with_reducible exact intern_May.mono _ _ _)
   | (with_reducible exact LeO.refl _)
   | (with_reducible exact LeO.none _)
   | (with_reducible refine LeO.ite ?_ ?_)
   | (with_reducible refine LeO.bind ?_ (fun _ => ?_))
   | exact LeO.none _
   | refine LeO.ite ?_ ?_
   | refine LeO.bind ?_ (fun _ => ?_)
theorem intern_Name.mono : ∀ a0 a1 a2 k, LeO (intern_Name.f k a0 a1 a2) (intern_Name.f (k + 1) a0 a1 a2) := by
 intro a0 a1 a2 k
 have ih0 := intern_Name.mono_l k
 unfold intern_Name.f
 repeat' first
   | (with_reducible exact ih0 _ _ _ _)
   | (with_reducible exact intern_May.mono _ _ _)
   | (with_reducible exact LeO.refl _)
   | (with_reducible exact LeO.none _)
   | (with_reducible refine LeO.ite ?_ ?_)
   | (with_reducible refine LeO.bind ?_ (fun _ => ?_))
   | exact LeO.none _
   | refine LeO.ite ?_ ?_
   | refine LeO.bind ?_ (fun _ => ?_)
set_option maxHeartbeats 8000000 in
set_option maxRecDepth 100000 in
theorem intern_Name.calls (k : Nat) (A0_0 : Option Addr) (c0_0 : Nat) (l0_0 : List ByteArray) (A0_1 : Option Addr) (c0_1 : Nat) (l0_1 : List (List (S50))) (a1 : Int) (r1 : ByteArray) (r2 : Bool) (w : World) (hr0_0 : Kd.C Kd.string w A0_0 l0_0.length l0_0) (hc0_0 : l0_0.length ≤ c0_0) (hr0_1 : Kd.C (Kd.slice 50 k50) w A0_1 l0_1.length l0_1) (hc0_1 : l0_1.length ≤ c0_1) (h : intern_Name.f k l0_0 l0_1 a1 = some (r1, r2)) :
  Calls Try.prog 15 #[.agg #[.slice A0_0 l0_0.length c0_0, .slice A0_1 l0_1.length c0_1], .int .i64 a1] w fun e w' => e = .returned (.tuple #[.string r1, .bool r2]) ∧ Below w.heap.size w w' := by
 have hu25 := Try.underlying25
 have HR0_0 := Am hr0_0
 have HC0_0 := Am hc0_0
 clear hr0_0 hc0_0
 have HR0_1 := Am hr0_1
 have HC0_1 := Am hc0_1
 clear hr0_1 hc0_1
 have HB := Am (Below.refl w.heap.size w)
 have H : (if a1 < 0 then (intern_Name.j0 k a1 true l0_0 l0_1) else (if a1 > (l0_0.length : Int) then (intern_Name.j0 k a1 true l0_0 l0_1) else ((intern_May.f k l0_0 l0_1).bind fun t126 => (intern_Name.j0 k a1 (!t126) l0_0 l0_1)))) = some (r1, r2) := h
 clear h
 have HC3 := Am H
 clear H
 go_enter Try.func15, Try.ntmps15
 go_upto_region 1 with (first | ((with_reducible refine gate_dst (N := 2) rfl ?_); (try (refine gate_guard (by rfl) ?_; dsimp only)); refine box_event ?hg (N := 2) ?hd (cs := #[.slice A0_0 l0_0.length c0_0, .slice A0_1 l0_1.length c0_1]) (t := 25) ?hr ?_; (case hd => rfl); (case hg => rfl); (case hr => first | (go_simp; done) | (go_simp; rfl)); intro gb125 hg w4 hbox hb; have BK125 := Am (hbox); have GW125 := Am ((by rw [hg]; exact (below_size (by repeat (first | (with_reducible first | exact HB.out | apply bl | apply pN | apply b1) | exact HB.out | exact HBo.out))) : w.heap.size ≤ gb125)); have GE125 := GW125; replace HB := Am (below_step (by repeat (first | (with_reducible first | exact HB.out | apply bl | apply pN | apply b1) | exact HB.out | exact HBo.out)) hb); clear hb hbox hg))
 (try simp only [Act.put, sI, sZ, sS])
 go_cut [19] (fun v19 wc => ∃ (kq : Nat) (x19_2 : Bool), v19 = .bool x19_2 ∧ Aside0 (intern_Name.j0 kq a1 x19_2 l0_0 l0_1 = some (r1, r2)) ∧ Aside0 (kq ≤ k) ∧ Aside0 (wc.heap[gb125]? = some (.cells #[(.slice A0_0 l0_0.length c0_0), (.slice A0_1 l0_1.length c0_1)] 25 (0, 0))) ∧ Aside0 (Below w.heap.size w wc))
 case first =>
  have H := HC3.out
  clear HC3
  by_cases c5 : a1 < 0
  ·
   rw [if_pos c5] at H
   have c5b0 : decide (a1 < 0) = true := decide_eq_true c5
   clear c5
   (first | rw [c5b0] | (simp only [i64_w, i32_w]; rw [c5b0]) | skip)
   have H' := Am H
   clear H
   go_wp2
   go_meet
   case rel => exact ⟨_, (true), (by first | rfl | (simp; done) | (simp [*]; done)), H', ⟨by first | omega | exact Nat.le_refl _⟩, ⟨by (with_reducible repeat (first|apply bn|apply bd|apply ba)); exact BK125.out⟩, ⟨by repeat (first | (with_reducible first | exact HB.out | apply bl | apply pN | apply b1 | refine bs ?_ GE125.out) | exact HB.out | exact HBo.out)⟩⟩
  ·
   rw [if_neg c5] at H
   have c5b0 : decide (a1 < 0) = false := decide_eq_false c5
   clear c5
   (first | rw [c5b0] | (simp only [i64_w, i32_w]; rw [c5b0]) | skip)
   by_cases c6 : a1 > (l0_0.length : Int)
   ·
    rw [if_pos c6] at H
    have c6b0 : decide ((l0_0.length : Int) < a1) = true := decide_eq_true c6
    clear c6
    have H' := Am H
    clear H
    have hcz7_0 := Own.bc2 BK125.out 0
    have hcz7_1 := Own.bc2 BK125.out 1
    have hfz7_0 := bf BK125.out 0
    have hfz7_1 := bf BK125.out 1
    go_wp2
    go_meet
    case rel => exact ⟨_, (true), (by first | rfl | (simp; done) | (simp [*]; done)), H', ⟨by first | omega | exact Nat.le_refl _⟩, ⟨by (with_reducible repeat (first|apply bn|apply bd|apply ba)); exact BK125.out⟩, ⟨by repeat (first | (with_reducible first | exact HB.out | apply bl | apply pN | apply b1 | refine bs ?_ GE125.out) | exact HB.out | exact HBo.out)⟩⟩
   ·
    rw [if_neg c6] at H
    have c6b0 : decide ((l0_0.length : Int) < a1) = false := decide_eq_false c6
    clear c6
    replace H := ob H
    obtain ⟨t126, A80, H⟩ := H
    (try dsimp only at H)
    have A8 := Am A80
    clear A80
    have H' := Am H
    clear H
    have hcz9_0 := Own.bc2 BK125.out 0
    have hcz9_1 := Own.bc2 BK125.out 1
    have hfz9_0 := bf BK125.out 0
    have hfz9_1 := bf BK125.out 1
    go_wp2_with (first | (go_at_call 19; (with_reducible refine (intern_May.calls k _ _ l0_0 _ _ l0_1 t126 _ ?side1 ?side2 ?side3 ?side4 A8.out).mono ?_); (case side1 => repeat (first | exact (Kd.C_below HR0_0.out HB.out) | (with_reducible refine Kd.C_alloc ?_ _) | (with_reducible refine Kd.C_drewN ?_ _) | (with_reducible refine Kd.C_drew ?_))); (case side2 => exact HC0_0.out); (case side3 => repeat (first | exact (Kd.C_below HR0_1.out HB.out) | (with_reducible refine Kd.C_alloc ?_ _) | (with_reducible refine Kd.C_drewN ?_ _) | (with_reducible refine Kd.C_drew ?_))); (case side4 => exact HC0_1.out); rintro e w10 ⟨rfl, hb⟩; replace BK125 := Am (blk_below (g := gb125) (o := .cells #[.slice A0_0 l0_0.length c0_0, .slice A0_1 l0_1.length c0_1] 25 (0, 0)) (by (with_reducible repeat (first|apply bn|apply bd|apply ba)); exact BK125.out) hb); replace HB := Am (below_step (by repeat (first | (with_reducible first | exact HB.out | apply bl | apply pN | apply b1 | refine bs ?_ GE125.out) | exact HB.out | exact HBo.out)) hb); clear hb))
    go_meet
    case rel => exact ⟨_, (!t126), (by first | rfl | (simp; done) | (simp [*]; done)), H', ⟨by first | omega | exact Nat.le_refl _⟩, ⟨by (with_reducible repeat (first|apply bn|apply bd|apply ba)); exact BK125.out⟩, ⟨by repeat (first | (with_reducible first | exact HB.out | apply bl | apply pN | apply b1 | refine bs ?_ GE125.out) | exact HB.out | exact HBo.out)⟩⟩
 case rest =>
  clear HC3
  try clear c1
  try clear p2
  try clear c5
  try clear c5b0
  try clear c6
  try clear c6b0
  try clear hcz7_0
  try clear hcz7_1
  try clear hcz9_0
  try clear hcz9_1
  try clear hfz7_0
  try clear hfz7_1
  try clear hfz9_0
  try clear hfz9_1
  obtain ⟨kq, x19_2, rfl, HA, HJ2, BK125, HB⟩ := hcut
  cases kq with
  | zero => exact absurd HA.out (by simp [intern_Name.j0])
  | succ kj2 =>
   have H := HA.out
   clear HA
   simp only [intern_Name.j0] at H
   by_cases c11 : x19_2 = true
   ·
    subst c11
    rw [if_pos rfl] at H
    simp only [Option.some.injEq, Prod.mk.injEq] at H
    obtain ⟨rfl, rfl⟩ := H
    go_wp2
    go_ret2
    exact ⟨by first | rfl | (simp [errW_none, errW_some] <;> rfl) | (simp [*, errW_none, errW_some] <;> rfl) | (simp [Aid.ne_nil, Aid.eq_nil, errW_none, errW_some]; done), by repeat (first | (with_reducible first | exact HB.out | apply bl | apply pN | apply b1 | refine bs ?_ GE125.out) | exact HB.out | exact HBo.out)⟩
   ·
    replace c11 := Bool.eq_false_iff.mpr c11
    subst c11
    rw [if_neg (show ¬ (false = true) by decide)] at H
    by_cases c12 : a1 = 0
    ·
     rw [if_pos c12] at H
     have c12b0 : (a1 == 0) = true := beq_iff_eq.mpr c12
     have c12b1 : (a1 != 0) = false := bne_eq_false_iff_eq.mpr c12
     clear c12
     simp only [Option.some.injEq, Prod.mk.injEq] at H
     obtain ⟨rfl, rfl⟩ := H
     go_wp2
     go_ret2
     exact ⟨by first | rfl | (simp [errW_none, errW_some] <;> rfl) | (simp [*, errW_none, errW_some] <;> rfl) | (simp [Aid.ne_nil, Aid.eq_nil, errW_none, errW_some]; done), by repeat (first | (with_reducible first | exact HB.out | apply bl | apply pN | apply b1 | refine bs ?_ GE125.out) | exact HB.out | exact HBo.out)⟩
    ·
     rw [if_neg c12] at H
     have c12b0 : (a1 == 0) = false := beq_eq_false_iff_ne.mpr c12
     have c12b1 : (a1 != 0) = true := bne_iff_ne.mpr c12
     obtain ⟨ji13, hji13⟩ : ∃ j_ : Int, (wrap64 (a1 - 1)) = j_ := ⟨_, rfl⟩
     replace H : (if 0 ≤ (ji13) then (if (ji13) < (l0_0.length : Int) then (some (rdOf ByteArray.empty l0_0 (ji13), true)) else (none)) else (none)) = some (r1, r2) := by first | (rw [hji13] at H; exact H) | (simp only [hji13] at H ⊢; exact H)
     have hji13w : (IntKind.i64.wrap (a1 - 1)) = ji13 := (i64_w _).trans hji13
     by_cases c14 : 0 ≤ (ji13)
     ·
      rw [if_pos c14] at H
      have c14b0 : decide (0 ≤ (ji13)) = true := decide_eq_true c14
      clear c14
      by_cases c15 : (ji13) < (l0_0.length : Int)
      ·
       rw [if_pos c15] at H
       have c15b0 : decide ((ji13) < (l0_0.length : Int)) = true := decide_eq_true c15
       clear c15
       simp only [Option.some.injEq, Prod.mk.injEq] at H
       obtain ⟨rfl, rfl⟩ := H
       have hcz16_0 := Own.bc2 BK125.out 0
       have hcz16_1 := Own.bc2 BK125.out 1
       have hfz16_0 := bf BK125.out 0
       have hfz16_1 := bf BK125.out 1
       have p127 : 0 ≤ ((ji13) : Int) := of_decide_eq_true (by first | (with_reducible assumption) | assumption)
       have q127 : (ji13) < (l0_0.length : Int) := of_decide_eq_true (by first | (with_reducible assumption) | assumption)
       obtain ⟨ad127, e127, hx127_0⟩ := Kd.at_string HR0_0.out (ji13) p127 q127
       cases e127
       replace hx127_0 := (HB.out.cell (World.block_lt_of_cell? w _ hx127_0)).trans hx127_0
       replace p127 := eq_true p127
       replace q127 := eq_true q127
       go_wp2
       go_ret2
       exact ⟨by first | rfl | (simp [errW_none, errW_some] <;> rfl) | (simp only [← hji13]; first | rfl | (simp [errW_none, errW_some] <;> rfl)) | (simp [*, errW_none, errW_some] <;> rfl) | (simp [Aid.ne_nil, Aid.eq_nil, errW_none, errW_some]; done), by repeat (first | (with_reducible first | exact HB.out | apply bl | apply pN | apply b1 | refine bs ?_ GE125.out) | exact HB.out | exact HBo.out)⟩
      ·
       rw [if_neg c15] at H
       exact absurd H (by simp)
     ·
      rw [if_neg c14] at H
      exact absurd H (by simp)

/-! ### intern_Frames: function 17 -/
mutual
def intern_Frames.j0 : Nat → Int → Bool → List ByteArray → List (List (S50)) → Option ((List (S45)) × Bool)
 | 0, _, _, _, _ => none
 | k + 1, x1, x22, x129000, x129001 => if x22 = true then (some (([] : List (S45)), false)) else (if x1 = 0 then (some (([] : List (S45)), true)) else (if 0 ≤ (wrap64 (x1 - 1)) then (if (wrap64 (x1 - 1)) < (x129001.length : Int) then (intern_Frames.l0 k ([] : List (S45)) (rd_L2 x129001 (wrap64 (x1 - 1))) ((rd_L2 x129001 (wrap64 (x1 - 1))).length : Int) 0 x129000 x129001) else (none)) else (none)))
def intern_Frames.l0 : Nat → List (S45) → List (S50) → Int → Int → List ByteArray → List (List (S50)) → Option ((List (S45)) × Bool)
 | 0, _, _, _, _, _, _ => none
 | k + 1, x6, x30, x31, x32, x129000, x129001 => if x32 < x31 then (if 0 ≤ x32 then (if x32 < (x30.length : Int) then (if 0 ≤ (wrap64 (((rd_T50 x30 x32).f0) - 1)) then (if (wrap64 (((rd_T50 x30 x32).f0) - 1)) < (x129000.length : Int) then (if x6.length < 5864062014805 then (intern_Frames.l0 k (x6 ++ [(⟨rdOf ByteArray.empty x129000 (wrap64 (((rd_T50 x30 x32).f0) - 1)), (rd_T50 x30 x32).f1⟩ : S45)]) x30 x31 (wrap64 (x32 + 1)) x129000 x129001) else (none)) else (none)) else (none)) else (none)) else (none)) else (some (x6, true))
end
def intern_Frames.f (k : Nat) (l0_0 : List ByteArray) (l0_1 : List (List (S50))) (a1 : Int) : Option ((List (S45)) × Bool) := if a1 < 0 then (intern_Frames.j0 k a1 true l0_0 l0_1) else (if a1 > (l0_1.length : Int) then (intern_Frames.j0 k a1 true l0_0 l0_1) else ((intern_May.f k l0_0 l0_1).bind fun t129 => (intern_Frames.j0 k a1 (!t129) l0_0 l0_1)))
theorem intern_Frames.mono_l : ∀ k, (∀ y0 y1 y2 y3, LeO (intern_Frames.j0 k y0 y1 y2 y3) (intern_Frames.j0 (k + 1) y0 y1 y2 y3)) ∧ (∀ y0 y1 y2 y3 y4 y5, LeO (intern_Frames.l0 k y0 y1 y2 y3 y4 y5) (intern_Frames.l0 (k + 1) y0 y1 y2 y3 y4 y5))
 | 0 => ⟨fun _ _ _ _ r h => by simp [intern_Frames.j0] at h, fun _ _ _ _ _ _ r h => by simp [intern_Frames.l0] at h⟩
 | k + 1 => by
  obtain ⟨ih0, ih1⟩ := intern_Frames.mono_l k
  refine ⟨?_, ?_⟩
  ·
   intro y0 y1 y2 y3
   unfold intern_Frames.j0
   repeat' first
   | (with_reducible exact ih0 _ _ _ _)
   | (with_reducible exact ih1 _ _ _ _ _ _)
   | (with_reducible exact intern_May.mono _ _ _)
   | (with_reducible exact LeO.refl _)
   | (with_reducible exact LeO.none _)
   | (with_reducible refine LeO.ite ?_ ?_)
   | (with_reducible refine LeO.bind ?_ (fun _ => ?_))
   | exact LeO.none _
   | refine LeO.ite ?_ ?_
   | refine LeO.bind ?_ (fun _ => ?_)
  ·
   intro y0 y1 y2 y3 y4 y5
   unfold intern_Frames.l0
   repeat' first
   | (with_reducible exact ih0 _ _ _ _)
   | (with_reducible exact ih1 _ _ _ _ _ _)
   | (with_reducible exact intern_May.mono _ _ _)
   | (with_reducible exact LeO.refl _)
   | (with_reducible exact LeO.none _)
   | (with_reducible refine LeO.ite ?_ ?_)
   | (with_reducible refine LeO.bind ?_ (fun _ => ?_))
   | exact LeO.none _
   | refine LeO.ite ?_ ?_
   | refine LeO.bind ?_ (fun _ => ?_)
theorem intern_Frames.mono : ∀ a0 a1 a2 k, LeO (intern_Frames.f k a0 a1 a2) (intern_Frames.f (k + 1) a0 a1 a2) := by
 intro a0 a1 a2 k
 obtain ⟨ih0, ih1⟩ := intern_Frames.mono_l k
 unfold intern_Frames.f
 repeat' first
   | (with_reducible exact ih0 _ _ _ _)
   | (with_reducible exact ih1 _ _ _ _ _ _)
   | (with_reducible exact intern_May.mono _ _ _)
   | (with_reducible exact LeO.refl _)
   | (with_reducible exact LeO.none _)
   | (with_reducible refine LeO.ite ?_ ?_)
   | (with_reducible refine LeO.bind ?_ (fun _ => ?_))
   | exact LeO.none _
   | refine LeO.ite ?_ ?_
   | refine LeO.bind ?_ (fun _ => ?_)
def intern_Frames.T9 : Bool × List (List Nat × List Nat) := (true, [([], []), ([], []), ([1], [1]), ([], []), ([3], [3]), ([4], [4]), ([2, 5], [2, 5]), ([6], [6]), ([], []), ([8], [8]), ([7, 9], [7, 9]), ([10], [10]), ([0, 11], [0, 11]), ([12, 12, 0, 1, 2, 3, 4, 5, 6, 7, 8, 9, 10, 11, 12], [0, 12])])
def intern_Frames.B9 : List Nat := [0, 0, 2, 0, 8, 24, 62, 126, 0, 256, 1022, 2046, 4095, 8191]
theorem intern_Frames.tab9 : rtab .any (opsOf Try.f17 9) = intern_Frames.T9 := by kernel_rfl
theorem intern_Frames.bits9 : waitsOk intern_Frames.T9.2 intern_Frames.B9 = true := by kernel_rfl
set_option maxHeartbeats 8000000 in
set_option maxRecDepth 100000 in
theorem intern_Frames.calls (k : Nat) (A0_0 : Option Addr) (c0_0 : Nat) (l0_0 : List ByteArray) (A0_1 : Option Addr) (c0_1 : Nat) (l0_1 : List (List (S50))) (a1 : Int) (r1 : List (S45)) (r2 : Bool) (w : World) (hr0_0 : Kd.C Kd.string w A0_0 l0_0.length l0_0) (hc0_0 : l0_0.length ≤ c0_0) (hr0_1 : Kd.C (Kd.slice 50 k50) w A0_1 l0_1.length l0_1) (hc0_1 : l0_1.length ≤ c0_1) (h : intern_Frames.f k l0_0 l0_1 a1 = some (r1, r2)) :
  Calls Try.prog 17 #[.agg #[.slice A0_0 l0_0.length c0_0, .slice A0_1 l0_1.length c0_1], .int .i64 a1] w fun e w' => ∃ v0_ : Value, e = .returned (.tuple #[v0_, .bool r2]) ∧ Kd.R k45 45 w' w.heap.size (fun _ => True) v0_ r1 ∧ Below w.heap.size w w' := by
 have hu25 := Try.underlying25
 have hu50 := Try.underlying50
 have hu45 := Try.underlying45
 have HR0_0 := Am hr0_0
 have HC0_0 := Am hc0_0
 clear hr0_0 hc0_0
 have HR0_1 := Am hr0_1
 have HC0_1 := Am hc0_1
 clear hr0_1 hc0_1
 have HB := Am (Below.refl w.heap.size w)
 have H : (if a1 < 0 then (intern_Frames.j0 k a1 true l0_0 l0_1) else (if a1 > (l0_1.length : Int) then (intern_Frames.j0 k a1 true l0_0 l0_1) else ((intern_May.f k l0_0 l0_1).bind fun t129 => (intern_Frames.j0 k a1 (!t129) l0_0 l0_1)))) = some (r1, r2) := h
 clear h
 have HC3 := Am H
 clear H
 go_enter Try.func17, Try.ntmps17
 go_upto_region 1 with (first | ((with_reducible refine gate_dst (N := 2) rfl ?_); (try (refine gate_guard (by rfl) ?_; dsimp only)); refine box_event ?hg (N := 2) ?hd (cs := #[.slice A0_0 l0_0.length c0_0, .slice A0_1 l0_1.length c0_1]) (t := 25) ?hr ?_; (case hd => rfl); (case hg => rfl); (case hr => first | (go_simp; done) | (go_simp; rfl)); intro gb128 hg w4 hbox hb; have BK128 := Am (hbox); have GW128 := Am ((by rw [hg]; exact (below_size (by repeat (first | (with_reducible first | exact HB.out | apply bl | apply pN | apply b1) | exact HB.out | exact HBo.out))) : w.heap.size ≤ gb128)); have GE128 := GW128; replace HB := Am (below_step (by repeat (first | (with_reducible first | exact HB.out | apply bl | apply pN | apply b1) | exact HB.out | exact HBo.out)) hb); clear hb hbox hg))
 (try simp only [Act.put, sI, sZ, sS])
 go_cut [22] (fun v22 wc => ∃ (kq : Nat) (x22_2 : Bool), v22 = .bool x22_2 ∧ Aside0 (intern_Frames.j0 kq a1 x22_2 l0_0 l0_1 = some (r1, r2)) ∧ Aside0 (kq ≤ k) ∧ Aside0 (wc.heap[gb128]? = some (.cells #[(.slice A0_0 l0_0.length c0_0), (.slice A0_1 l0_1.length c0_1)] 25 (0, 0))) ∧ Aside0 (Below w.heap.size w wc))
 case first =>
  have H := HC3.out
  clear HC3
  by_cases c5 : a1 < 0
  ·
   rw [if_pos c5] at H
   have c5b0 : decide (a1 < 0) = true := decide_eq_true c5
   clear c5
   (first | rw [c5b0] | (simp only [i64_w, i32_w]; rw [c5b0]) | skip)
   have H' := Am H
   clear H
   go_wp2
   go_meet
   case rel => exact ⟨_, (true), (by first | rfl | (simp; done) | (simp [*]; done)), H', ⟨by first | omega | exact Nat.le_refl _⟩, ⟨by (with_reducible repeat (first|apply bn|apply bd|apply ba)); exact BK128.out⟩, ⟨by repeat (first | (with_reducible first | exact HB.out | apply bl | apply pN | apply b1 | refine bs ?_ GE128.out) | exact HB.out | exact HBo.out)⟩⟩
  ·
   rw [if_neg c5] at H
   have c5b0 : decide (a1 < 0) = false := decide_eq_false c5
   clear c5
   (first | rw [c5b0] | (simp only [i64_w, i32_w]; rw [c5b0]) | skip)
   by_cases c6 : a1 > (l0_1.length : Int)
   ·
    rw [if_pos c6] at H
    have c6b0 : decide ((l0_1.length : Int) < a1) = true := decide_eq_true c6
    clear c6
    have H' := Am H
    clear H
    have hcz7_0 := Own.bc2 BK128.out 0
    have hcz7_1 := Own.bc2 BK128.out 1
    have hfz7_0 := bf BK128.out 0
    have hfz7_1 := bf BK128.out 1
    go_wp2
    go_meet
    case rel => exact ⟨_, (true), (by first | rfl | (simp; done) | (simp [*]; done)), H', ⟨by first | omega | exact Nat.le_refl _⟩, ⟨by (with_reducible repeat (first|apply bn|apply bd|apply ba)); exact BK128.out⟩, ⟨by repeat (first | (with_reducible first | exact HB.out | apply bl | apply pN | apply b1 | refine bs ?_ GE128.out) | exact HB.out | exact HBo.out)⟩⟩
   ·
    rw [if_neg c6] at H
    have c6b0 : decide ((l0_1.length : Int) < a1) = false := decide_eq_false c6
    clear c6
    replace H := ob H
    obtain ⟨t129, A80, H⟩ := H
    (try dsimp only at H)
    have A8 := Am A80
    clear A80
    have H' := Am H
    clear H
    have hcz9_0 := Own.bc2 BK128.out 0
    have hcz9_1 := Own.bc2 BK128.out 1
    have hfz9_0 := bf BK128.out 0
    have hfz9_1 := bf BK128.out 1
    go_wp2_with (first | (go_at_call 19; (with_reducible refine (intern_May.calls k _ _ l0_0 _ _ l0_1 t129 _ ?side1 ?side2 ?side3 ?side4 A8.out).mono ?_); (case side1 => repeat (first | exact (Kd.C_below HR0_0.out HB.out) | (with_reducible refine Kd.C_alloc ?_ _) | (with_reducible refine Kd.C_drewN ?_ _) | (with_reducible refine Kd.C_drew ?_))); (case side2 => exact HC0_0.out); (case side3 => repeat (first | exact (Kd.C_below HR0_1.out HB.out) | (with_reducible refine Kd.C_alloc ?_ _) | (with_reducible refine Kd.C_drewN ?_ _) | (with_reducible refine Kd.C_drew ?_))); (case side4 => exact HC0_1.out); rintro e w10 ⟨rfl, hb⟩; replace BK128 := Am (blk_below (g := gb128) (o := .cells #[.slice A0_0 l0_0.length c0_0, .slice A0_1 l0_1.length c0_1] 25 (0, 0)) (by (with_reducible repeat (first|apply bn|apply bd|apply ba)); exact BK128.out) hb); replace HB := Am (below_step (by repeat (first | (with_reducible first | exact HB.out | apply bl | apply pN | apply b1 | refine bs ?_ GE128.out) | exact HB.out | exact HBo.out)) hb); clear hb))
    go_meet
    case rel => exact ⟨_, (!t129), (by first | rfl | (simp; done) | (simp [*]; done)), H', ⟨by first | omega | exact Nat.le_refl _⟩, ⟨by (with_reducible repeat (first|apply bn|apply bd|apply ba)); exact BK128.out⟩, ⟨by repeat (first | (with_reducible first | exact HB.out | apply bl | apply pN | apply b1 | refine bs ?_ GE128.out) | exact HB.out | exact HBo.out)⟩⟩
 case rest =>
  clear HC3
  try clear c1
  try clear p2
  try clear c5
  try clear c5b0
  try clear c6
  try clear c6b0
  try clear hcz7_0
  try clear hcz7_1
  try clear hcz9_0
  try clear hcz9_1
  try clear hfz7_0
  try clear hfz7_1
  try clear hfz9_0
  try clear hfz9_1
  obtain ⟨kq, x22_2, rfl, HA, HJ2, BK128, HB⟩ := hcut
  cases kq with
  | zero => exact absurd HA.out (by simp [intern_Frames.j0])
  | succ kj2 =>
   have H := HA.out
   clear HA
   simp only [intern_Frames.j0] at H
   by_cases c11 : x22_2 = true
   ·
    subst c11
    rw [if_pos rfl] at H
    simp only [Option.some.injEq, Prod.mk.injEq] at H
    obtain ⟨rfl, rfl⟩ := H
    go_wp2
    go_ret2
    exact ⟨_, by first | rfl | (simp [errW_none, errW_some] <;> rfl) | (simp [*, errW_none, errW_some] <;> rfl) | (simp [Aid.ne_nil, Aid.eq_nil, errW_none, errW_some]; done), by first | exact Kd.R_nil _ _ _ _ _ | exact Kd.N_nil _ _ _ _ _ | exact Kd.V_nil _ _ _ _ _ | exact Kd.Q_nil _ _ _ _ _ | exact Kd.S_nil _ _ _ _ _, by repeat (first | (with_reducible first | exact HB.out | apply bl | apply pN | apply b1 | refine bs ?_ GE128.out) | exact HB.out | exact HBo.out)⟩
   ·
    replace c11 := Bool.eq_false_iff.mpr c11
    subst c11
    rw [if_neg (show ¬ (false = true) by decide)] at H
    by_cases c12 : a1 = 0
    ·
     rw [if_pos c12] at H
     have c12b0 : (a1 == 0) = true := beq_iff_eq.mpr c12
     have c12b1 : (a1 != 0) = false := bne_eq_false_iff_eq.mpr c12
     clear c12
     simp only [Option.some.injEq, Prod.mk.injEq] at H
     obtain ⟨rfl, rfl⟩ := H
     go_wp2
     go_ret2
     exact ⟨_, by first | rfl | (simp [errW_none, errW_some] <;> rfl) | (simp [*, errW_none, errW_some] <;> rfl) | (simp [Aid.ne_nil, Aid.eq_nil, errW_none, errW_some]; done), by first | exact Kd.R_nil _ _ _ _ _ | exact Kd.N_nil _ _ _ _ _ | exact Kd.V_nil _ _ _ _ _ | exact Kd.Q_nil _ _ _ _ _ | exact Kd.S_nil _ _ _ _ _, by repeat (first | (with_reducible first | exact HB.out | apply bl | apply pN | apply b1 | refine bs ?_ GE128.out) | exact HB.out | exact HBo.out)⟩
    ·
     rw [if_neg c12] at H
     have c12b0 : (a1 == 0) = false := beq_eq_false_iff_ne.mpr c12
     have c12b1 : (a1 != 0) = true := bne_iff_ne.mpr c12
     obtain ⟨ji13, hji13⟩ : ∃ j_ : Int, (wrap64 (a1 - 1)) = j_ := ⟨_, rfl⟩
     replace H : (if 0 ≤ (ji13) then (if (ji13) < (l0_1.length : Int) then (intern_Frames.l0 kj2 ([] : List (S45)) (rd_L2 l0_1 (ji13)) ((rd_L2 l0_1 (ji13)).length : Int) 0 l0_0 l0_1) else (none)) else (none)) = some (r1, r2) := by first | (rw [hji13] at H; exact H) | (simp only [hji13] at H ⊢; exact H)
     have hji13w : (IntKind.i64.wrap (a1 - 1)) = ji13 := (i64_w _).trans hji13
     by_cases c14 : 0 ≤ (ji13)
     ·
      rw [if_pos c14] at H
      have c14b0 : decide (0 ≤ (ji13)) = true := decide_eq_true c14
      clear c14
      by_cases c15 : (ji13) < (l0_1.length : Int)
      ·
       rw [if_pos c15] at H
       have c15b0 : decide ((ji13) < (l0_1.length : Int)) = true := decide_eq_true c15
       clear c15
       have H' := Am H
       clear H
       have hcz16_0 := Own.bc2 BK128.out 0
       have hcz16_1 := Own.bc2 BK128.out 1
       have hfz16_0 := bf BK128.out 0
       have hfz16_1 := bf BK128.out 1
       have p130 : 0 ≤ ((ji13) : Int) := of_decide_eq_true (by first | (with_reducible assumption) | assumption)
       have q130 : (ji13) < (l0_1.length : Int) := of_decide_eq_true (by first | (with_reducible assumption) | assumption)
       obtain ⟨ad130, A130_0, c130_0, e130, hx130_0, hl130_0, hi130_0⟩ := at_L2 HR0_1.out (ji13) p130 q130
       cases e130
       replace hx130_0 := (HB.out.cell (World.block_lt_of_cell? w _ hx130_0)).trans hx130_0
       have HR130_0 := Am hi130_0
       have HC130_0 := Am hl130_0
       clear hi130_0 hl130_0
       replace p130 := eq_true p130
       replace q130 := eq_true q130
       go_wp2
       go_loopg [6, 32] kj2 (fun kq v6 v32 w' => ∃ (x6_2 : List (S45)) (x32_2 : Int), v32 = .int .i64 x32_2 ∧ Aside0 (intern_Frames.l0 kq x6_2 (rd_L2 l0_1 (ji13)) ((rd_L2 l0_1 (ji13)).length : Int) x32_2 l0_0 l0_1 = some (r1, r2)) ∧ Aside0 (kq ≤ kj2) ∧ Aside0 (Kd.R k45 45 w' w.heap.size (fun _ => True) v6 x6_2) ∧ Aside0 (w'.heap[gb128]? = some (.cells #[(.slice A0_0 l0_0.length c0_0), (.slice (some ad130) l0_1.length c0_1)] 25 (0, 0))) ∧ Aside0 (Below w.heap.size w w'))
       case atStart => exact ⟨(([] : List (S45))), (0), (by first | rfl | (simp; done) | (simp [*]; done)), H', ⟨Nat.le_refl _⟩, ⟨by first | exact Kd.R_nil _ _ _ _ _ | exact Kd.N_nil _ _ _ _ _ | exact Kd.V_nil _ _ _ _ _ | exact Kd.Q_nil _ _ _ _ _ | exact Kd.S_nil _ _ _ _ _⟩, ⟨by (with_reducible repeat (first|apply bn|apply bd|apply ba)); exact BK128.out⟩, ⟨by repeat (first | (with_reducible first | exact HB.out | apply bl | apply pN | apply b1 | refine bs ?_ GE128.out) | exact HB.out | exact HBo.out)⟩⟩
       case round =>
        clear H'
        try clear c1
        try clear p1
        try clear q1
        try clear hx1
        try clear p2
        try clear c5
        try clear c5b0
        try clear c6
        try clear c6b0
        try clear p6
        try clear c11
        try clear c12
        try clear c12b0
        try clear c12b1
        try clear c13
        try clear p13
        try clear q13
        try clear hx13
        try clear c14
        try clear c14b0
        try clear c15
        try clear c15b0
        try clear hcz16_0
        try clear hcz16_1
        try clear hcz7_0
        try clear hcz7_1
        try clear hcz9_0
        try clear hcz9_1
        try clear hfz16_0
        try clear hfz16_1
        try clear hfz7_0
        try clear hfz7_1
        try clear hfz9_0
        try clear hfz9_1
        try clear hx130_0
        try clear p130
        try clear p2
        try clear q130
        obtain ⟨x6_2, x32_2, rfl, HA, HK2, HO_6, BK128, HB⟩ := hrel
        cases gk with
        | zero => exact absurd HA.out (by simp [intern_Frames.l0])
        | succ k2 =>
         have H := HA.out
         clear HA
         simp only [intern_Frames.l0] at H
         by_cases c17 : x32_2 < ((rd_L2 l0_1 (ji13)).length : Int)
         ·
          rw [if_pos c17] at H
          have c17b0 : decide (x32_2 < ((rd_L2 l0_1 (ji13)).length : Int)) = true := decide_eq_true c17
          clear c17
          by_cases c18 : 0 ≤ x32_2
          ·
           rw [if_pos c18] at H
           have c18b0 : decide (0 ≤ x32_2) = true := decide_eq_true c18
           clear c18
           by_cases c19 : x32_2 < ((rd_L2 l0_1 (ji13)).length : Int)
           ·
            rw [if_pos c19] at H
            have c19b0 : decide (x32_2 < ((rd_L2 l0_1 (ji13)).length : Int)) = true := decide_eq_true c19
            clear c19
            obtain ⟨ji20, hji20⟩ : ∃ j_ : Int, (wrap64 (((rd_T50 (rd_L2 l0_1 (ji13)) x32_2).f0) - 1)) = j_ := ⟨_, rfl⟩
            replace H : (if 0 ≤ (ji20) then (if (ji20) < (l0_0.length : Int) then (if x6_2.length < 5864062014805 then (intern_Frames.l0 k2 (x6_2 ++ [(⟨rdOf ByteArray.empty l0_0 (ji20), (rd_T50 (rd_L2 l0_1 (ji13)) x32_2).f1⟩ : S45)]) (rd_L2 l0_1 (ji13)) ((rd_L2 l0_1 (ji13)).length : Int) (wrap64 (x32_2 + 1)) l0_0 l0_1) else (none)) else (none)) else (none)) = some (r1, r2) := by first | (rw [hji20] at H; exact H) | (simp only [hji20] at H ⊢; exact H)
            have hji20w : (IntKind.i64.wrap (((rd_T50 (rd_L2 l0_1 (ji13)) x32_2).f0) - 1)) = ji20 := (i64_w _).trans hji20
            by_cases c21 : 0 ≤ (ji20)
            ·
             rw [if_pos c21] at H
             have c21b0 : decide (0 ≤ (ji20)) = true := decide_eq_true c21
             clear c21
             by_cases c22 : (ji20) < (l0_0.length : Int)
             ·
              rw [if_pos c22] at H
              have c22b0 : decide ((ji20) < (l0_0.length : Int)) = true := decide_eq_true c22
              clear c22
              by_cases c23 : x6_2.length < 5864062014805
              ·
               rw [if_pos c23] at H
               have LMc23 := Am c23
               clear c23
               obtain ⟨y134, hy134⟩ : ∃ y_ : List (S45), y_ = (x6_2 ++ [(⟨rdOf ByteArray.empty l0_0 (ji20), (rd_T50 (rd_L2 l0_1 (ji13)) x32_2).f1⟩ : S45)]) := ⟨_, rfl⟩
               replace H : (intern_Frames.l0 k2 y134 (rd_L2 l0_1 (ji13)) ((rd_L2 l0_1 (ji13)).length : Int) (wrap64 (x32_2 + 1)) l0_0 l0_1) = some (r1, r2) := by first | (rw [hy134]; with_reducible exact H) | (have H2_ := (Option.bind_some _ _).symm.trans H; rw [hy134]; with_reducible exact H2_) | (have H2_ := (Option.bind_some _ _).symm.trans H; with_reducible exact H2_) | with_reducible exact H | (rw [hy134]; exact H) | exact H
               have Ny134 := Am hy134
               clear hy134
               have H' := Am H
               clear H
               have p131 : 0 ≤ (x32_2 : Int) := of_decide_eq_true (by first | (with_reducible assumption) | assumption)
               have q131 : x32_2 < ((rd_L2 l0_1 (ji13)).length : Int) := of_decide_eq_true (by first | (with_reducible assumption) | assumption)
               obtain ⟨ad131, e131, hx131_0, hx131_1⟩ := at_T50 HR130_0.out x32_2 p131 q131
               cases e131
               replace hx131_0 := (HB.out.cell (World.block_lt_of_cell? w _ hx131_0)).trans hx131_0
               replace hx131_1 := (HB.out.cell (World.block_lt_of_cell? w _ hx131_1)).trans hx131_1
               replace p131 := eq_true p131
               replace q131 := eq_true q131
               try go_wp2_with (first | ((with_reducible refine gate_dst (N := 8) rfl ?_); (try (refine gate_guard (by rfl) ?_; dsimp only)); refine box_event ?hg (N := 8) ?hd (cs := #[.int .i64 0, .int .i64 0]) (t := 50) ?hr ?_; (case hd => rfl); (case hg => rfl); (case hr => first | (go_simp; done) | (go_simp; rfl)); intro gb132 hg w24 hbox hb; have BK132 := Am (hbox); have GW132 := Am ((by rw [hg]; exact (below_size (by repeat (first | (with_reducible first | exact HB.out | apply bl | apply pN | apply b1 | refine bs ?_ GE128.out) | exact HB.out | exact HBo.out))) : w.heap.size ≤ gb132)); have GE132 := GW132; have NB128_132 := Am ((by rw [hg]; exact Nat.ne_of_lt (blk_lt (g := gb128) (o := .cells #[.slice A0_0 l0_0.length c0_0, .slice (some ad130) l0_1.length c0_1] 25 (0, 0)) (by (with_reducible repeat (first|apply bn|apply bd|apply ba)); exact BK128.out)) : gb128 ≠ gb132)); have NB132_128 := Am NB128_132.out.symm; replace HO_6 := Am (Kd.R_below (by (with_reducible repeat (first | apply Kd.R_alloc | apply Kd.R_drewN | apply Kd.R_drew)); exact HO_6.out) hb); replace BK128 := Am (blk_below (g := gb128) (o := .cells #[.slice A0_0 l0_0.length c0_0, .slice (some ad130) l0_1.length c0_1] 25 (0, 0)) (by (with_reducible repeat (first|apply bn|apply bd|apply ba)); exact BK128.out) hb); replace HB := Am (below_step (by repeat (first | (with_reducible first | exact HB.out | apply bl | apply pN | apply b1 | refine bs ?_ GE128.out) | exact HB.out | exact HBo.out)) hb); clear hb hbox hg; have hnb25 := NB132_128.out; have hnc25 := NB128_132.out; have hcz26_0 := Own.bc2 BK132.out 0; have hcz26_1 := Own.bc2 BK132.out 1; have hfz26_0 := bf BK132.out 0; have hfz26_1 := bf BK132.out 1))
               have n0_ : Aside0 (Kd.R k45 45 ((w24.setCell ⟨gb132, 0, none⟩ (.int .i64 ((rd_T50 (rd_L2 l0_1 (ji13)) x32_2).f0))).setCell ⟨gb132, 1, none⟩ (.int .i64 ((rd_T50 (rd_L2 l0_1 (ji13)) x32_2).f1))) w.heap.size (fun _ => True) u6 x6_2) := ⟨by (with_reducible repeat (first | apply Kd.R_alloc | apply Kd.R_drewN | apply Kd.R_drew)); exact Kd.R_mono (Kd.R_far (p := ⟨gb132, 1, none⟩) (Kd.R_far (p := ⟨gb132, 0, none⟩) (Kd.R_types HO_6.out BK132.out (by decide)) (fun _ hk => hk.2) (.int .i64 ((rd_T50 (rd_L2 l0_1 (ji13)) x32_2).f0))) (fun _ hk => hk.2) (.int .i64 ((rd_T50 (rd_L2 l0_1 (ji13)) x32_2).f1))) (fun _ hk => trivial)⟩
               have n1_ : Aside0 (((w24.setCell ⟨gb132, 0, none⟩ (.int .i64 ((rd_T50 (rd_L2 l0_1 (ji13)) x32_2).f0))).setCell ⟨gb132, 1, none⟩ (.int .i64 ((rd_T50 (rd_L2 l0_1 (ji13)) x32_2).f1))).heap[gb128]? = some (.cells #[.slice A0_0 l0_0.length c0_0, .slice (some ad130) l0_1.length c0_1] 25 (0, 0))) := ⟨by (with_reducible repeat (first|apply bn|apply bd|apply ba)); refine blk_far ?_ NB128_132.out _; (with_reducible repeat (first|apply bn|apply bd|apply ba)); refine blk_far ?_ NB128_132.out _; (with_reducible repeat (first|apply bn|apply bd|apply ba)); exact BK128.out⟩
               have n2_ : Aside0 (((w24.setCell ⟨gb132, 0, none⟩ (.int .i64 ((rd_T50 (rd_L2 l0_1 (ji13)) x32_2).f0))).setCell ⟨gb132, 1, none⟩ (.int .i64 ((rd_T50 (rd_L2 l0_1 (ji13)) x32_2).f1))).heap[gb132]? = some (.cells #[.int .i64 ((rd_T50 (rd_L2 l0_1 (ji13)) x32_2).f0), .int .i64 ((rd_T50 (rd_L2 l0_1 (ji13)) x32_2).f1)] 50 (0, 0))) := ⟨by (with_reducible repeat (first|apply bn|apply bd|apply ba)); refine blk_put (cs := #[.int .i64 ((rd_T50 (rd_L2 l0_1 (ji13)) x32_2).f0), .int .i64 0]) ?_ 1 _ rfl; (with_reducible repeat (first|apply bn|apply bd|apply ba)); refine blk_put (cs := #[.int .i64 0, .int .i64 0]) ?_ 0 _ rfl; (with_reducible repeat (first|apply bn|apply bd|apply ba)); exact BK132.out⟩
               have n3_ : Aside0 (Below w.heap.size w ((w24.setCell ⟨gb132, 0, none⟩ (.int .i64 ((rd_T50 (rd_L2 l0_1 (ji13)) x32_2).f0))).setCell ⟨gb132, 1, none⟩ (.int .i64 ((rd_T50 (rd_L2 l0_1 (ji13)) x32_2).f1)))) := ⟨by repeat (first | (with_reducible first | exact HB.out | apply bl | apply pN | apply b1 | refine bs ?_ GE128.out | refine bs ?_ GE132.out) | exact HB.out | exact HBo.out)⟩
               (try clear HO_6)
               (try clear BK128)
               (try clear BK132)
               (try clear HB)
               generalize ((w24.setCell ⟨gb132, 0, none⟩ (.int .i64 ((rd_T50 (rd_L2 l0_1 (ji13)) x32_2).f0))).setCell ⟨gb132, 1, none⟩ (.int .i64 ((rd_T50 (rd_L2 l0_1 (ji13)) x32_2).f1))) = w27 at n0_ n1_ n2_ n3_ ⊢
               have HO_6 := n0_
               have BK128 := n1_
               have BK132 := n2_
               have HB := n3_
               clear n0_ n1_ n2_ n3_
               replace HO_6 := Am (Kd.R_drew HO_6.out)
               replace BK128 := Am (bd BK128.out)
               replace BK132 := Am (bd BK132.out)
               replace HB := Am (b1 HB.out)
               have p133 : 0 ≤ ((ji20) : Int) := of_decide_eq_true (by first | (with_reducible assumption) | assumption)
               have q133 : (ji20) < (l0_0.length : Int) := of_decide_eq_true (by first | (with_reducible assumption) | assumption)
               obtain ⟨ad133, e133, hx133_0⟩ := Kd.at_string HR0_0.out (ji20) p133 q133
               have hw133_0 := hx133_0
               cases e133
               replace hx133_0 := (HB.out.cell (World.block_lt_of_cell? w _ hx133_0)).trans hx133_0
               replace p133 := eq_true p133
               replace q133 := eq_true q133
               refine start_ (n := 14) (S := fun w' => w'.cell? ⟨gb128, 0, none⟩ = some (.slice (some ad133) l0_0.length c0_0) ∧ w'.cell? ⟨gb128, 1, none⟩ = some (.slice (some ad130) l0_1.length c0_1) ∧ w'.cell? ⟨gb132, 0, none⟩ = some (.int .i64 ((rd_T50 (rd_L2 l0_1 (ji13)) x32_2).f0)) ∧ w'.cell? ⟨gb132, 1, none⟩ = some (.int .i64 ((rd_T50 (rd_L2 l0_1 (ji13)) x32_2).f1)) ∧ w'.cell? (ad133.add ((ji20)).toNat) = some (.string (rdOf ByteArray.empty l0_0 (ji20)))) (ds := []) q6_0 (by kernel_rfl) rfl rfl ⟨(bc BK128.out 0).trans rfl, (bc BK128.out 1).trans rfl, (bc BK132.out 0).trans rfl, (bc BK132.out 1).trans rfl, ((HB.out.cell (World.block_lt_of_cell? w _ hw133_0)).trans hw133_0)⟩ (fun hHeld => ?_); refine with_tabW intern_Frames.tab9 intern_Frames.bits9 (fun HT_ HW_ => ?_)
               generalize w27.drew = w28 at HO_6 BK128 BK132 HB hx133_0 hHeld ⊢
               refine Own.pr_ 0 (some 36) q6_1 HT_ (h := ?_)
               refine Own.pr_ 1 (some 37) q6_2 HT_ (h := ?_)
               refine Own.pr_ 3 (some 39) q6_3 HT_ (h := ?_)
               refine Own.pr_ 8 (some 44) q6_4 HT_ (h := ?_)
               refine Own.tk_ 2 (some 38) q6_5 HT_ HW_ hHeld (hy := by rintro w' ⟨s0, s1, s2, s3, s4⟩; go_simp; with_reducible rfl) (h := ?_)
               refine Own.tk_ 4 (some 40) q6_6 HT_ HW_ hHeld (hy := by rintro w' ⟨s0, s1, s2, s3, s4⟩; go_simp; with_reducible rfl) (h := ?_)
               refine Own.pr_ 5 (some 41) q6_7 HT_ (h := ?_)
               refine Own.pr_ 6 (some 42) q6_8 HT_ (h := ?_)
               refine Own.tk_ 7 (some 43) q6_9 HT_ HW_ hHeld (hy := by rintro w' ⟨s0, s1, s2, s3, s4⟩; go_simp; with_reducible rfl) (h := ?_)
               refine Own.tk_ 9 (some 45) q6_10 HT_ HW_ hHeld (hy := by rintro w' ⟨s0, s1, s2, s3, s4⟩; go_simp; with_reducible rfl) (h := ?_)
               refine Own.pr_ 10 (some 46) q6_11 HT_ (h := ?_)
               refine one_ (i := 11) (N := some 47) q6_12 rfl rfl (one_of HT_.out (by kernel_rfl)) (by decide) (fun K hK => ?_)
               refine value_ (w1 := ?_) (v := ?_) (by rfl) rfl ?_ ?_
               rotate_left 2
               ·
                go_simp
                constructor
                ·
                 rfl
                ·
                 rfl
               refine hK.out _ _ ⟨(bc (ba BK128.out _) 0).trans rfl, (bc (ba BK128.out _) 1).trans rfl, (bc (ba BK132.out _) 0).trans rfl, (bc (ba BK132.out _) 1).trans rfl, (World.cell?_alloc_lt _ _ _ (World.block_lt_of_cell? _ _ (((HB.out.cell (World.block_lt_of_cell? w _ hw133_0)).trans hw133_0)))).trans (((HB.out.cell (World.block_lt_of_cell? w _ hw133_0)).trans hw133_0))⟩ (fun hHeld => ?_)
               clear hK K
               refine norm_ (a' := ?_) ?_ ?_
               rotate_left
               ·
                show Act.put _ (some 47) _ = _
                simp only [Act.put, sI, sZ, sS, i64_w, i32_w]
                rfl
               refine one_ (i := 12) (N := some 48) q6_13 rfl rfl (one_of HT_.out (by kernel_rfl)) (by decide) (fun K hK => ?_)
               refine Kd.R_append_step k45 (w0 := w) w.heap.size (by rfl) (.tmp 36) (.tmp 47) 26 45 (.agg #[(.string ⟨#[]⟩), (.int .i64 0)]) 24 rfl Try.underlying26 info45 rfl (by decide) (by omega) u6 x6_2 (⟨rdOf ByteArray.empty l0_0 (ji20), (rd_T50 (rd_L2 l0_1 (ji13)) x32_2).f1⟩ : S45) [.string (rdOf ByteArray.empty l0_0 (ji20)), .int .i64 ((rd_T50 (rd_L2 l0_1 (ji13)) x32_2).f1)] (fun _ => True) (fun _ => False) rfl rfl ?aP (fun _ hk => hk.elim) ?aF ?aO ?aB ?aS ?aL ?_
               (case aP => exact k45_mkM _ _ _ (⟨rdOf ByteArray.empty l0_0 (ji20), (rd_T50 (rd_L2 l0_1 (ji13)) x32_2).f1⟩ : S45))
               (case aB => exact (by repeat (first | (with_reducible first | exact HB.out | apply bl | apply pN | apply b1 | refine bs ?_ GE128.out | refine bs ?_ GE132.out) | exact HB.out | exact HBo.out)))
               (case aF => exact (fun _ _ => trivial))
               (case aO => exact (by (with_reducible repeat (first | apply Kd.R_alloc | apply Kd.R_drewN | apply Kd.R_drew)); exact HO_6.out))
               (case aS => exact (below_size (by repeat (first | (with_reducible first | exact HB.out | apply bl | apply pN | apply b1 | refine bs ?_ GE128.out | refine bs ?_ GE132.out) | exact HB.out | exact HBo.out))))
               (case aL => have := LMc23.out; omega)
               intro v135 w29 ho hb hg hat
               rw [← Ny134.out] at ho
               have n0_ := Am (blk_grown (g := gb128) (o := .cells #[.slice (some ad133) l0_0.length c0_0, .slice (some ad130) l0_1.length c0_1] 25 (0, 0)) (by (with_reducible repeat (first|apply bn|apply bd|apply ba)); exact BK128.out) hg (Kd.R_ne HO_6.out BK128.out (by decide)))
               have n1_ := Am (blk_grown (g := gb132) (o := .cells #[.int .i64 ((rd_T50 (rd_L2 l0_1 (ji13)) x32_2).f0), .int .i64 ((rd_T50 (rd_L2 l0_1 (ji13)) x32_2).f1)] 50 (0, 0)) (by (with_reducible repeat (first|apply bn|apply bd|apply ba)); exact BK132.out) hg (Kd.R_ne HO_6.out BK132.out (by decide)))
               have n2_ := Am (hb)
               have n3_ := Am (ho)
               clear BK128
               clear BK132
               clear HB
               clear HO_6
               have BK128 := n0_
               have BK132 := n1_
               have HB := n2_
               have HO136 := n3_
               clear n0_ n1_ n2_ n3_
               clear ho hb hg hat
               refine hK.out _ _ ⟨(bc BK128.out 0).trans rfl, (bc BK128.out 1).trans rfl, (bc BK132.out 0).trans rfl, (bc BK132.out 1).trans rfl, ((HB.out.cell (World.block_lt_of_cell? w _ hw133_0)).trans hw133_0)⟩ (fun hHeld => ?_)
               clear hK K
               refine norm_ (a' := ?_) ?_ ?_
               rotate_left
               ·
                show Act.put _ (some 48) _ = _
                simp only [Act.put, sI, sZ, sS, i64_w, i32_w]
                rfl
               refine Own.pr_ 13 (some 6) q6_14 HT_ (h := ?_)
               refine done_ (done_of HT_.out (by kernel_rfl)) ?_
               try go_wp2
               go_roundg k2
               case measure => have := HJ2.out; have := HK2.out; omega
               case rel => exact ⟨(y134), (wrap64 (x32_2 + 1)), (by first | rfl | (simp; done) | (simp [*]; done)), H', ⟨by have := HJ2.out; have := HK2.out; omega⟩, ⟨by (with_reducible repeat (first | apply Kd.R_alloc | apply Kd.R_drewN | apply Kd.R_drew)); exact HO136.out⟩, ⟨by (with_reducible repeat (first|apply bn|apply bd|apply ba)); exact BK128.out⟩, ⟨by repeat (first | (with_reducible first | exact HB.out | apply bl | apply pN | apply b1 | refine bs ?_ GE128.out | refine bs ?_ GE132.out) | exact HB.out | exact HBo.out)⟩⟩
              ·
               rw [if_neg c23] at H
               exact absurd H (by simp)
             ·
              rw [if_neg c22] at H
              exact absurd H (by simp)
            ·
             rw [if_neg c21] at H
             exact absurd H (by simp)
           ·
            rw [if_neg c19] at H
            exact absurd H (by simp)
          ·
           rw [if_neg c18] at H
           exact absurd H (by simp)
         ·
          rw [if_neg c17] at H
          have c17b0 : decide (x32_2 < ((rd_L2 l0_1 (ji13)).length : Int)) = false := decide_eq_false c17
          clear c17
          simp only [Option.some.injEq, Prod.mk.injEq] at H
          obtain ⟨rfl, rfl⟩ := H
          go_wp2
          go_ret2
          exact ⟨_, by first | rfl | (simp [errW_none, errW_some] <;> rfl) | (simp only [← hji13]; first | rfl | (simp [errW_none, errW_some] <;> rfl)) | (simp [*, errW_none, errW_some] <;> rfl) | (simp [Aid.ne_nil, Aid.eq_nil, errW_none, errW_some]; done), by (with_reducible repeat (first | apply Kd.R_alloc | apply Kd.R_drewN | apply Kd.R_drew)); exact HO_6.out, by repeat (first | (with_reducible first | exact HB.out | apply bl | apply pN | apply b1 | refine bs ?_ GE128.out) | exact HB.out | exact HBo.out)⟩
      ·
       rw [if_neg c15] at H
       exact absurd H (by simp)
     ·
      rw [if_neg c14] at H
      exact absurd H (by simp)

/-! ### shuttlecockref06_SameFrames: function 22 -/
def shuttlecockref06_SameFrames.l0 : Nat → List (S45) → List (S45) → Int → Option (Bool)
 | 0, _, _, _ => none
 | k + 1, x0, x1, x5 => if x5 < (x0.length : Int) then (if 0 ≤ x5 then (if x5 < (x1.length : Int) then (if (!((((rd_T45 x0 x5).f0).toList) == (((rd_T45 x1 x5).f0).toList)) || (!(((rd_T45 x0 x5).f1) == ((rd_T45 x1 x5).f1)))) = true then (some false) else (shuttlecockref06_SameFrames.l0 k x0 x1 (wrap64 (x5 + 1)))) else (none)) else (none)) else (some true)
def shuttlecockref06_SameFrames.f (k : Nat) (l0 : List (S45)) (l1 : List (S45)) : Option (Bool) := if (l0.length : Int) = (l1.length : Int) then (shuttlecockref06_SameFrames.l0 k l0 l1 0) else (some false)
theorem shuttlecockref06_SameFrames.mono_l : ∀ k, (∀ y0 y1 y2, LeO (shuttlecockref06_SameFrames.l0 k y0 y1 y2) (shuttlecockref06_SameFrames.l0 (k + 1) y0 y1 y2))
 | 0 => fun _ _ _ r h => by simp [shuttlecockref06_SameFrames.l0] at h
 | k + 1 => by
  have ih0 := shuttlecockref06_SameFrames.mono_l k
  ·
   intro y0 y1 y2
   unfold shuttlecockref06_SameFrames.l0
   repeat' first
   | (with_reducible exact ih0 _ _ _)
   | (with_reducible exact LeO.refl _)
   | (with_reducible exact LeO.none _)
   | (with_reducible refine LeO.ite ?_ ?_)
   | (with_reducible refine LeO.bind ?_ (fun _ => ?_))
   | exact LeO.none _
   | refine LeO.ite ?_ ?_
   | refine LeO.bind ?_ (fun _ => ?_)
theorem shuttlecockref06_SameFrames.mono : ∀ a0 a1 k, LeO (shuttlecockref06_SameFrames.f k a0 a1) (shuttlecockref06_SameFrames.f (k + 1) a0 a1) := by
 intro a0 a1 k
 have ih0 := shuttlecockref06_SameFrames.mono_l k
 unfold shuttlecockref06_SameFrames.f
 repeat' first
   | (with_reducible exact ih0 _ _ _)
   | (with_reducible exact LeO.refl _)
   | (with_reducible exact LeO.none _)
   | (with_reducible refine LeO.ite ?_ ?_)
   | (with_reducible refine LeO.bind ?_ (fun _ => ?_))
   | exact LeO.none _
   | refine LeO.ite ?_ ?_
   | refine LeO.bind ?_ (fun _ => ?_)
set_option maxHeartbeats 8000000 in
set_option maxRecDepth 100000 in
theorem shuttlecockref06_SameFrames.calls (k : Nat) (A0 : Option Addr) (c0 : Nat) (l0 : List (S45)) (A1 : Option Addr) (c1 : Nat) (l1 : List (S45)) (r : Bool) (w : World) (hr0 : Kd.C k45 w A0 l0.length l0) (hc0 : l0.length ≤ c0) (hr1 : Kd.C k45 w A1 l1.length l1) (hc1 : l1.length ≤ c1) (h : shuttlecockref06_SameFrames.f k l0 l1 = some r) :
  Calls Try.prog 22 #[.slice A0 l0.length c0, .slice A1 l1.length c1] w fun e w' => e = .returned (.bool r) ∧ Drawn0 w w' := by
 have hu45 := Try.underlying45
 have HR0 := Am hr0
 have HC0 := Am hc0
 clear hr0 hc0
 have HR1 := Am hr1
 have HC1 := Am hc1
 clear hr1 hc1
 have H : (if (l0.length : Int) = (l1.length : Int) then (shuttlecockref06_SameFrames.l0 k l0 l1 0) else (some false)) = some r := h
 clear h
 by_cases c3 : (l0.length : Int) = (l1.length : Int)
 ·
  rw [if_pos c3] at H
  have c3b0 : ((l0.length : Int) == (l1.length : Int)) = true := beq_iff_eq.mpr c3
  have c3b1 : ((l0.length : Int) != (l1.length : Int)) = false := bne_eq_false_iff_eq.mpr c3
  have c3b2 : (l0.length == l1.length) = true := by first | simpa using c3 | (simp at c3 ⊢; omega)
  clear c3
  have H' := Am H
  clear H
  go_enter Try.func22, Try.ntmps22
  go_wp2
  repeat (go_quiet (fail); try go_wp2)
  go_loopg [5] k (fun kq v5 w' => ∃ (x5_1 : Int), v5 = .int .i64 x5_1 ∧ Aside0 (shuttlecockref06_SameFrames.l0 kq l0 l1 x5_1 = some r) ∧ Aside0 (kq ≤ k) ∧ Drawn0 w w')
  case atStart => exact ⟨(0), (by first | rfl | (simp; done) | (simp [*]; done)), H', ⟨Nat.le_refl _⟩, by repeat (first | exact Drawn0.refl _ | apply Drawn0.step)⟩
  case round =>
   clear H'
   try clear c1
   try clear c2
   try clear p2
   try clear c3
   try clear c3b0
   try clear c3b1
   try clear c3b2
   obtain ⟨x5_1, rfl, HA, HK1, ⟨m1, rfl⟩⟩ := hrel
   cases gk with
   | zero => exact absurd HA.out (by simp [shuttlecockref06_SameFrames.l0])
   | succ k1 =>
    have H := HA.out
    clear HA
    simp only [shuttlecockref06_SameFrames.l0] at H
    by_cases c4 : x5_1 < (l0.length : Int)
    ·
     rw [if_pos c4] at H
     have c4b0 : decide (x5_1 < (l0.length : Int)) = true := decide_eq_true c4
     clear c4
     by_cases c5 : 0 ≤ x5_1
     ·
      rw [if_pos c5] at H
      have c5b0 : decide (0 ≤ x5_1) = true := decide_eq_true c5
      clear c5
      by_cases c6 : x5_1 < (l1.length : Int)
      ·
       rw [if_pos c6] at H
       have c6b0 : decide (x5_1 < (l1.length : Int)) = true := decide_eq_true c6
       clear c6
       by_cases c7 : (!((((rd_T45 l0 x5_1).f0).toList) == (((rd_T45 l1 x5_1).f0).toList)) || (!(((rd_T45 l0 x5_1).f1) == ((rd_T45 l1 x5_1).f1)))) = true
       ·
        rw [if_pos c7] at H
        have c7b0 : (!((((rd_T45 l0 x5_1).f0).toList) == (((rd_T45 l1 x5_1).f0).toList)) || (!(((rd_T45 l0 x5_1).f1) == ((rd_T45 l1 x5_1).f1)))) = true := c7
        try have c7b6 : (¬ (((rd_T45 l0 x5_1).f0).toList) = (((rd_T45 l1 x5_1).f0).toList) ∨ ¬ ((rd_T45 l0 x5_1).f1) = ((rd_T45 l1 x5_1).f1)) = True := eq_true (by first | (simpa using c7) | exact Classical.byContradiction (fun hh_ => by simp only [not_or, Classical.not_not] at hh_; simp [hh_] at c7))
        try have c7b7 : ((((rd_T45 l0 x5_1).f0).toList) = (((rd_T45 l1 x5_1).f0).toList) ∧ ((rd_T45 l0 x5_1).f1) = ((rd_T45 l1 x5_1).f1)) = False := eq_false (by first | (intro hh_; simp [hh_] at c7; done) | simpa using c7)
        clear c7
        obtain rfl := Option.some.inj H
        have p137 : 0 ≤ (x5_1 : Int) := of_decide_eq_true (by first | (with_reducible assumption) | assumption)
        have q137 : x5_1 < (l0.length : Int) := of_decide_eq_true (by first | (with_reducible assumption) | assumption)
        obtain ⟨ad137, e137, hx137_0, hx137_1⟩ := at_T45 HR0.out x5_1 p137 q137
        cases e137
        replace p137 := eq_true p137
        replace q137 := eq_true q137
        have p138 : 0 ≤ (x5_1 : Int) := of_decide_eq_true (by first | (with_reducible assumption) | assumption)
        have q138 : x5_1 < (l1.length : Int) := of_decide_eq_true (by first | (with_reducible assumption) | assumption)
        obtain ⟨ad138, e138, hx138_0, hx138_1⟩ := at_T45 HR1.out x5_1 p138 q138
        cases e138
        replace p138 := eq_true p138
        replace q138 := eq_true q138
        go_wp2
        repeat (go_quiet (fail); try go_wp2)
        go_ret
        exact ⟨by first | rfl | (simp; done) | (simp [*]; done), by repeat (first | exact Drawn0.refl _ | apply Drawn0.step)⟩
       ·
        rw [if_neg c7] at H
        have c7b0 : (!((((rd_T45 l0 x5_1).f0).toList) == (((rd_T45 l1 x5_1).f0).toList)) || (!(((rd_T45 l0 x5_1).f1) == ((rd_T45 l1 x5_1).f1)))) = false := by simpa using c7
        try have c7b6 : (¬ (((rd_T45 l0 x5_1).f0).toList) = (((rd_T45 l1 x5_1).f0).toList) ∨ ¬ ((rd_T45 l0 x5_1).f1) = ((rd_T45 l1 x5_1).f1)) = False := eq_false (by simpa using c7)
        try have c7b7 : ((((rd_T45 l0 x5_1).f0).toList) = (((rd_T45 l1 x5_1).f0).toList) ∧ ((rd_T45 l0 x5_1).f1) = ((rd_T45 l1 x5_1).f1)) = True := eq_true (by simpa using c7)
        clear c7
        have H' := Am H
        clear H
        have p137 : 0 ≤ (x5_1 : Int) := of_decide_eq_true (by first | (with_reducible assumption) | assumption)
        have q137 : x5_1 < (l0.length : Int) := of_decide_eq_true (by first | (with_reducible assumption) | assumption)
        obtain ⟨ad137, e137, hx137_0, hx137_1⟩ := at_T45 HR0.out x5_1 p137 q137
        cases e137
        replace p137 := eq_true p137
        replace q137 := eq_true q137
        have p138 : 0 ≤ (x5_1 : Int) := of_decide_eq_true (by first | (with_reducible assumption) | assumption)
        have q138 : x5_1 < (l1.length : Int) := of_decide_eq_true (by first | (with_reducible assumption) | assumption)
        obtain ⟨ad138, e138, hx138_0, hx138_1⟩ := at_T45 HR1.out x5_1 p138 q138
        cases e138
        replace p138 := eq_true p138
        replace q138 := eq_true q138
        go_wp2
        repeat (go_quiet (fail); try go_wp2)
        go_roundg k1
        case measure => have := HK1.out; omega
        case rel => exact ⟨(wrap64 (x5_1 + 1)), (by first | rfl | (simp; done) | (simp [*]; done)), H', ⟨by have := HK1.out; omega⟩, by repeat (first | exact Drawn0.refl _ | apply Drawn0.step)⟩
      ·
       rw [if_neg c6] at H
       exact absurd H (by simp)
     ·
      rw [if_neg c5] at H
      exact absurd H (by simp)
    ·
     rw [if_neg c4] at H
     have c4b0 : decide (x5_1 < (l0.length : Int)) = false := decide_eq_false c4
     clear c4
     obtain rfl := Option.some.inj H
     go_wp2
     repeat (go_quiet (fail); try go_wp2)
     go_ret
     exact ⟨by first | rfl | (simp; done) | (simp [*]; done), by repeat (first | exact Drawn0.refl _ | apply Drawn0.step)⟩
 ·
  rw [if_neg c3] at H
  have c3b0 : ((l0.length : Int) == (l1.length : Int)) = false := beq_eq_false_iff_ne.mpr c3
  have c3b1 : ((l0.length : Int) != (l1.length : Int)) = true := bne_iff_ne.mpr c3
  have c3b2 : (l0.length == l1.length) = false := by first | simpa using c3 | (simp at c3 ⊢; omega)
  obtain rfl := Option.some.inj H
  go_enter Try.func22, Try.ntmps22
  go_wp2
  repeat (go_quiet (fail); try go_wp2)
  go_ret
  exact ⟨by first | rfl | (simp; done) | (simp [*]; done), by repeat (first | exact Drawn0.refl _ | apply Drawn0.step)⟩

end Go.Proofs.Ytijjfomnidckdaa.Q
