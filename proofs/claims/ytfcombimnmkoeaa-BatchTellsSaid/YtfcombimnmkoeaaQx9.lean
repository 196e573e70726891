-- printed by a program of this session (NOTES: hprint); not the kit's print
-- minified3
-- minified2
-- minified
-- halved
import Derived.Test.YtfcombimnmkoeaaOg
import Derived.Test.YtfcombimnmkoeaaAl
import Derived.Test.YtfcombimnmkoeaaQx0
import Derived.Test.YtfcombimnmkoeaaQx1
import Derived.Test.YtfcombimnmkoeaaQx2
import Derived.Test.YtfcombimnmkoeaaQx3
import Derived.Test.YtfcombimnmkoeaaQx5
import Derived.Test.YtfcombimnmkoeaaQx6
import Derived.Test.YtfcombimnmkoeaaQx8
namespace Go.Proofs.Ytfcombimnmkoeaa.Q
open Go.RowKit Go.Proofs.YtfcombimnmkoeaaW.PrintWords Go.Proofs.YtfcombimnmkoeaaW.PrintLast Go.Proofs.YtfcombimnmkoeaaW.PrintMore
attribute [local go_sem] max2_int min2_int max_two min_two max_three min_three max_four min_four   -- for this text's walks alone
set_option linter.unusedVariables false
set_option linter.unusedSimpArgs false

attribute [local go_sem high] eqA23
/-! ### shuttlecockref04_Bytes: function 20 -/
def shuttlecockref04_Bytes.l0 : Nat → List (S41) → ByteArray → Int → Option (ByteArray)
 | 0, _, _, _ => none
 | k + 1, x0, x3, x4 => if x4 < (x0.length : Int) then (if 0 ≤ x4 then ((shuttlecockref04_Encode.f k ((rd_T41 x0 x4).f0) ((rd_T41 x0 x4).f1) ((rd_T41 x0 x4).f2) ((rd_T41 x0 x4).f3)).bind fun t364 => (if x3.size + t364.size ≤ 9223372036854775807 then (shuttlecockref04_Bytes.l0 k x0 (x3 ++ t364) (wrap64 (x4 + 1))) else (none))) else (none)) else (some x3)
def shuttlecockref04_Bytes.f (k : Nat) (l0 : List (S41)) : Option (ByteArray) := shuttlecockref04_Bytes.l0 k l0 (⟨#[]⟩ : ByteArray) 0
theorem shuttlecockref04_Bytes.mono_l : ∀ k, (∀ y0 y1 y2, LeO (shuttlecockref04_Bytes.l0 k y0 y1 y2) (shuttlecockref04_Bytes.l0 (k + 1) y0 y1 y2))
 | 0 => fun _ _ _ r h => by simp [shuttlecockref04_Bytes.l0] at h
 | k + 1 => by
  have ih0 := shuttlecockref04_Bytes.mono_l k
  ·
   intro y0 y1 y2
   unfold shuttlecockref04_Bytes.l0
   repeat' first
   | (with_reducible exact ih0 _ _ _)
   | (with_reducible exact shuttlecockref04_Encode.mono _ _ _ _ _)
   | (with_reducible exact LeO.refl _)
   | (with_reducible exact LeO.none _)
   | (with_reducible refine LeO.ite ?_ ?_)
   | (with_reducible refine LeO.bind ?_ (fun _ => ?_))
   | exact LeO.none _
   | refine LeO.ite ?_ ?_
   | refine LeO.bind ?_ (fun _ => ?_)
theorem shuttlecockref04_Bytes.mono : ∀ a0 k, LeO (shuttlecockref04_Bytes.f k a0) (shuttlecockref04_Bytes.f (k + 1) a0) := by
 intro a0 k
 have ih0 := shuttlecockref04_Bytes.mono_l k
 unfold shuttlecockref04_Bytes.f
 repeat' first
   | (with_reducible exact ih0 _ _ _)
   | (with_reducible exact shuttlecockref04_Encode.mono _ _ _ _ _)
   | (with_reducible exact LeO.refl _)
   | (with_reducible exact LeO.none _)
   | (with_reducible refine LeO.ite ?_ ?_)
   | (with_reducible refine LeO.bind ?_ (fun _ => ?_))
   | exact LeO.none _
   | refine LeO.ite ?_ ?_
   | refine LeO.bind ?_ (fun _ => ?_)
set_option maxHeartbeats 8000000 in
set_option maxRecDepth 100000 in
theorem shuttlecockref04_Bytes.calls (k : Nat) (A0 : Option Addr) (c0 : Nat) (l0 : List (S41)) (r : ByteArray) (w : World) (hr0 : Kd.C k41 w A0 l0.length l0) (hc0 : l0.length ≤ c0) (h : shuttlecockref04_Bytes.f k l0 = some r) :
  Calls Try.prog 20 #[.slice A0 l0.length c0] w fun e w' => e = .returned (.string r) ∧ Below w.heap.size w w' := by
 have hu41 := Try.underlying41
 have HR0 := Am hr0
 have HC0 := Am hc0
 clear hr0 hc0
 have HB := Am (Below.refl w.heap.size w)
 have H : (shuttlecockref04_Bytes.l0 k l0 (⟨#[]⟩ : ByteArray) 0) = some r := h
 clear h
 have H' := Am H
 clear H
 go_enter Try.func20, Try.ntmps20
 go_wp2
 go_loopg [3, 4] k (fun kq v3 v4 w' => ∃ (x3_1 : ByteArray) (x4_1 : Int), v3 = .string x3_1 ∧ v4 = .int .i64 x4_1 ∧ Aside0 (shuttlecockref04_Bytes.l0 kq l0 x3_1 x4_1 = some r) ∧ Aside0 (kq ≤ k) ∧ Aside0 (Below w.heap.size w w'))
 case atStart => exact ⟨((⟨#[]⟩ : ByteArray)), (0), (by first | rfl | (simp; done) | (simp [*]; done)), (by first | rfl | (simp; done) | (simp [*]; done)), H', ⟨Nat.le_refl _⟩, ⟨by repeat (first | (with_reducible first | exact HB.out | apply bl | apply pN | apply b1) | exact HB.out | exact HBo.out)⟩⟩
 case round =>
  clear H'
  obtain ⟨x3_1, x4_1, rfl, rfl, HA, HK1, HB⟩ := hrel
  cases gk with
  | zero => exact absurd HA.out (by simp [shuttlecockref04_Bytes.l0])
  | succ k1 =>
   have H := HA.out
   clear HA
   simp only [shuttlecockref04_Bytes.l0] at H
   by_cases c2 : x4_1 < (l0.length : Int)
   ·
    rw [if_pos c2] at H
    have c2b0 : decide (x4_1 < (l0.length : Int)) = true := decide_eq_true c2
    clear c2
    by_cases c3 : 0 ≤ x4_1
    ·
     rw [if_pos c3] at H
     have c3b0 : decide (0 ≤ x4_1) = true := decide_eq_true c3
     clear c3
     replace H := ob H
     obtain ⟨t364, A40, H⟩ := H
     (try dsimp only at H)
     have A4 := Am A40
     clear A40
     by_cases c5 : x3_1.size + t364.size ≤ 9223372036854775807
     ·
      rw [if_pos c5] at H
      have c5b0 := eq_true c5
      have c5b1 : decide (x3_1.size + t364.size ≤ 9223372036854775807) = true := decide_eq_true c5
      try have c5b2 : (9223372036854775807 < x3_1.size + t364.size) = False := eq_false (Nat.not_lt.2 c5)
      have H' := Am H
      clear H
      have p363 : 0 ≤ (x4_1 : Int) := of_decide_eq_true (by first | (with_reducible assumption) | assumption)
      have q363 : x4_1 < (l0.length : Int) := of_decide_eq_true (by first | (with_reducible assumption) | assumption)
      obtain ⟨ad363, A363_2, c363_2, e363, hx363_0, hx363_1, hx363_2, hx363_3, hl363_2, hi363_2⟩ := at_T41 HR0.out x4_1 p363 q363
      cases e363
      replace hx363_0 := (HB.out.cell (World.block_lt_of_cell? w _ hx363_0)).trans hx363_0
      replace hx363_1 := (HB.out.cell (World.block_lt_of_cell? w _ hx363_1)).trans hx363_1
      replace hx363_2 := (HB.out.cell (World.block_lt_of_cell? w _ hx363_2)).trans hx363_2
      replace hx363_3 := (HB.out.cell (World.block_lt_of_cell? w _ hx363_3)).trans hx363_3
      have HR363_2 := Am hi363_2
      have HC363_2 := Am hl363_2
      clear hi363_2 hl363_2
      replace p363 := eq_true p363
      replace q363 := eq_true q363
      go_wp2_with (first | ((with_reducible refine gate_callee (f := 39) rfl ?_); refine Own.gL_ (some 16) Try.func39 (#[.agg #[.int .i64 ((rd_T41 l0 x4_1).f0), .int .i64 ((rd_T41 l0 x4_1).f1), .slice A363_2 ((rd_T41 l0 x4_1).f2).length c363_2, .string ((rd_T41 l0 x4_1).f3)]]) (h := ?_); (with_reducible refine (shuttlecockref04_Encode.calls k1 ((rd_T41 l0 x4_1).f0) ((rd_T41 l0 x4_1).f1) _ _ ((rd_T41 l0 x4_1).f2) ((rd_T41 l0 x4_1).f3) t364 _ ?side1 ?side2 A4.out).mono ?_); (case side1 => repeat (first | exact (Kd.C_below HR363_2.out HB.out) | (with_reducible refine Kd.C_alloc ?_ _) | (with_reducible refine Kd.C_drewN ?_ _) | (with_reducible refine Kd.C_drew ?_))); (case side2 => exact HC363_2.out); rintro e w6 ⟨rfl, hb⟩; refine ⟨_, rfl, ?_⟩; replace HB := Am (below_step (by repeat (first | (with_reducible first | exact HB.out | apply bl | apply pN | apply b1) | exact HB.out | exact HBo.out)) hb); clear hb))
      go_roundg k1
      case measure => have := HK1.out; omega
      case rel => exact ⟨(x3_1 ++ t364), (wrap64 (x4_1 + 1)), (by first | rfl | (simp; done) | (simp [*]; done)), (by first | rfl | (simp; done) | (simp [*]; done)), H', ⟨by have := HK1.out; omega⟩, ⟨by repeat (first | (with_reducible first | exact HB.out | apply bl | apply pN | apply b1) | exact HB.out | exact HBo.out)⟩⟩
     ·
      rw [if_neg c5] at H
      exact absurd H (by simp)
    ·
     rw [if_neg c3] at H
     exact absurd H (by simp)
   ·
    rw [if_neg c2] at H
    have c2b0 : decide (x4_1 < (l0.length : Int)) = false := decide_eq_false c2
    clear c2
    obtain rfl := Option.some.inj H
    go_wp2
    go_ret
    exact ⟨by first | rfl | (simp <;> rfl) | (simp [*] <;> rfl) | (simp [Aid.ne_nil, Aid.eq_nil]; done), by repeat (first | (with_reducible first | exact HB.out | apply bl | apply pN | apply b1) | exact HB.out | exact HBo.out)⟩

/-! ### shuttlecocklaw05_fixed: function 8 -/
def shuttlecocklaw05_fixed.f (k : Nat)  : Option (Bool) := (shuttlecockref04_Bytes.f k (([(⟨8, 5, ([] : List Int), (⟨#[]⟩ : ByteArray)⟩ : S41), (⟨8, 0, ([] : List Int), (⟨#[]⟩ : ByteArray)⟩ : S41)] : List (S41)))).bind fun t368 => ((batch_Encode.f k 1 2 100 t368).bind fun t370 => (if 1 + t370.size ≤ 9223372036854775807 then ((batch_Decode.f k ((⟨#[120]⟩ : ByteArray) ++ t370) 1).bind fun bt371 => ((batch_Events.f k 1 2 100 t368).bind fun bt378 => ((batch_Decode.f k (⟨#[120]⟩ : ByteArray) 0).bind fun bt386 => ((batch_Decode.f k (⟨#[66, 0, 0, 0, 0]⟩ : ByteArray) 0).bind fun bt393 => (if 5 + t368.size ≤ 9223372036854775807 then (if t370.toList = ((⟨#[66, 1, 2, 100, 4]⟩ : ByteArray) ++ t368).toList then (if (bt371.1 == 1 && (bt371.2.1 == 2 && (bt371.2.2.1 == 100 && (bt371.2.2.2.1.toList == t368.toList)))) = true then (if bt371.2.2.2.2.1 = (wrap64 ((t370.size : Int) + 1)) then (if bt371.2.2.2.2.2 = 0 then (if (bt378.1.length : Int) = 2 then ((shuttlecockref01_Ints.f k bt378.2.1 (([105, 105] : List Int))).bind fun t403 => (if t403 = true then (if bt378.2.2.2 = 0 then (if bt386.2.2.2.2.2 = 50 then (if bt393.2.2.2.2.2 = 50 then ((batch_May.f 1 2 100 t368).bind fun t404 => (if t404 = true then ((batch_May.f 0 0 0 (⟨#[]⟩ : ByteArray)).bind fun t405 => (some (!t405))) else (none))) else (none)) else (none)) else (none)) else (none))) else (none)) else (none)) else (none)) else (none)) else (none)) else (none)))))) else (none)))
theorem shuttlecocklaw05_fixed.mono : ∀ k, LeO (shuttlecocklaw05_fixed.f k ) (shuttlecocklaw05_fixed.f (k + 1) ) := by
 intro  k
 unfold shuttlecocklaw05_fixed.f
 repeat' first
   | (with_reducible exact batch_Decode.mono _ _ _)
   | (with_reducible exact batch_Encode.mono _ _ _ _ _)
   | (with_reducible exact batch_Events.mono _ _ _ _ _)
   | (with_reducible exact shuttlecockref01_Ints.mono _ _ _)
   | (with_reducible exact shuttlecockref04_Bytes.mono _ _)
   | (with_reducible exact LeO.refl _)
   | (with_reducible exact LeO.none _)
   | (with_reducible refine LeO.ite ?_ ?_)
   | (with_reducible refine LeO.bind ?_ (fun _ => ?_))
   | exact LeO.none _
   | refine LeO.ite ?_ ?_
   | refine LeO.bind ?_ (fun _ => ?_)
set_option maxHeartbeats 8000000 in
set_option maxRecDepth 100000 in
theorem shuttlecocklaw05_fixed.calls (k : Nat)  (r : Bool) (w : World) (h : shuttlecocklaw05_fixed.f k  = some r) :
  Calls Try.prog 8 #[] w fun e w' => e = .returned (.bool r) ∧ Below w.heap.size w w' := by
 have hu41 := Try.underlying41
 have hu23 := Try.underlying23
 have HB := Am (Below.refl w.heap.size w)
 have H : ((shuttlecockref04_Bytes.f k (([(⟨8, 5, ([] : List Int), (⟨#[]⟩ : ByteArray)⟩ : S41), (⟨8, 0, ([] : List Int), (⟨#[]⟩ : ByteArray)⟩ : S41)] : List (S41)))).bind fun t368 => ((batch_Encode.f k 1 2 100 t368).bind fun t370 => (if 1 + t370.size ≤ 9223372036854775807 then ((batch_Decode.f k ((⟨#[120]⟩ : ByteArray) ++ t370) 1).bind fun bt371 => ((batch_Events.f k 1 2 100 t368).bind fun bt378 => ((batch_Decode.f k (⟨#[120]⟩ : ByteArray) 0).bind fun bt386 => ((batch_Decode.f k (⟨#[66, 0, 0, 0, 0]⟩ : ByteArray) 0).bind fun bt393 => (if 5 + t368.size ≤ 9223372036854775807 then (if t370.toList = ((⟨#[66, 1, 2, 100, 4]⟩ : ByteArray) ++ t368).toList then (if (bt371.1 == 1 && (bt371.2.1 == 2 && (bt371.2.2.1 == 100 && (bt371.2.2.2.1.toList == t368.toList)))) = true then (if bt371.2.2.2.2.1 = (wrap64 ((t370.size : Int) + 1)) then (if bt371.2.2.2.2.2 = 0 then (if (bt378.1.length : Int) = 2 then ((shuttlecockref01_Ints.f k bt378.2.1 (([105, 105] : List Int))).bind fun t403 => (if t403 = true then (if bt378.2.2.2 = 0 then (if bt386.2.2.2.2.2 = 50 then (if bt393.2.2.2.2.2 = 50 then ((batch_May.f 1 2 100 t368).bind fun t404 => (if t404 = true then ((batch_May.f 0 0 0 (⟨#[]⟩ : ByteArray)).bind fun t405 => (some (!t405))) else (none))) else (none)) else (none)) else (none)) else (none))) else (none)) else (none)) else (none)) else (none)) else (none)) else (none)))))) else (none)))) = some r := h
 clear h
 obtain ⟨y365, hy365⟩ : ∃ y_ : List (S41), y_ = (([(⟨8, 5, ([] : List Int), (⟨#[]⟩ : ByteArray)⟩ : S41), (⟨8, 0, ([] : List Int), (⟨#[]⟩ : ByteArray)⟩ : S41)] : List (S41))) := ⟨_, rfl⟩
 replace H : ((shuttlecockref04_Bytes.f k y365).bind fun t368 => ((batch_Encode.f k 1 2 100 t368).bind fun t370 => (if 1 + t370.size ≤ 9223372036854775807 then ((batch_Decode.f k ((⟨#[120]⟩ : ByteArray) ++ t370) 1).bind fun bt371 => ((batch_Events.f k 1 2 100 t368).bind fun bt378 => ((batch_Decode.f k (⟨#[120]⟩ : ByteArray) 0).bind fun bt386 => ((batch_Decode.f k (⟨#[66, 0, 0, 0, 0]⟩ : ByteArray) 0).bind fun bt393 => (if 5 + t368.size ≤ 9223372036854775807 then (if t370.toList = ((⟨#[66, 1, 2, 100, 4]⟩ : ByteArray) ++ t368).toList then (if (bt371.1 == 1 && (bt371.2.1 == 2 && (bt371.2.2.1 == 100 && (bt371.2.2.2.1.toList == t368.toList)))) = true then (if bt371.2.2.2.2.1 = (wrap64 ((t370.size : Int) + 1)) then (if bt371.2.2.2.2.2 = 0 then (if (bt378.1.length : Int) = 2 then ((shuttlecockref01_Ints.f k bt378.2.1 (([105, 105] : List Int))).bind fun t403 => (if t403 = true then (if bt378.2.2.2 = 0 then (if bt386.2.2.2.2.2 = 50 then (if bt393.2.2.2.2.2 = 50 then ((batch_May.f 1 2 100 t368).bind fun t404 => (if t404 = true then ((batch_May.f 0 0 0 (⟨#[]⟩ : ByteArray)).bind fun t405 => (some (!t405))) else (none))) else (none)) else (none)) else (none)) else (none))) else (none)) else (none)) else (none)) else (none)) else (none)) else (none)))))) else (none)))) = some r := by first | (rw [hy365]; with_reducible exact H) | (have H2_ := (Option.bind_some _ _).symm.trans H; rw [hy365]; with_reducible exact H2_) | (have H2_ := (Option.bind_some _ _).symm.trans H; with_reducible exact H2_) | with_reducible exact H | (rw [hy365]; exact H) | exact H
 have Ny365 := Am hy365
 clear hy365
 replace H := ob H
 obtain ⟨t368, A10, H⟩ := H
 (try dsimp only at H)
 have A1 := Am A10
 clear A10
 replace H := ob H
 obtain ⟨t370, A20, H⟩ := H
 (try dsimp only at H)
 have A2 := Am A20
 clear A20
 by_cases c3 : 1 + t370.size ≤ 9223372036854775807
 ·
  rw [if_pos c3] at H
  have c3b0 := eq_true c3
  have c3b1 : decide (1 + t370.size ≤ 9223372036854775807) = true := decide_eq_true c3
  try have c3b2 : (9223372036854775807 < 1 + t370.size) = False := eq_false (Nat.not_lt.2 c3)
  replace H := ob H
  obtain ⟨⟨t371, t372, t373, t374, t375, t376⟩, A40, H⟩ := H
  (try dsimp only at H)
  have A4 := Am A40
  clear A40
  replace H := ob H
  obtain ⟨⟨t378, t381, t384, t385⟩, A50, H⟩ := H
  (try dsimp only at H)
  have A5 := Am A50
  clear A50
  replace H := ob H
  obtain ⟨⟨t386, t387, t388, t389, t390, t391⟩, A60, H⟩ := H
  (try dsimp only at H)
  have A6 := Am A60
  clear A60
  replace H := ob H
  obtain ⟨⟨t393, t394, t395, t396, t397, t398⟩, A70, H⟩ := H
  (try dsimp only at H)
  have A7 := Am A70
  clear A70
  by_cases c8 : 5 + t368.size ≤ 9223372036854775807
  ·
   rw [if_pos c8] at H
   have c8b0 := eq_true c8
   have c8b1 : decide (5 + t368.size ≤ 9223372036854775807) = true := decide_eq_true c8
   try have c8b2 : (9223372036854775807 < 5 + t368.size) = False := eq_false (Nat.not_lt.2 c8)
   by_cases c9 : t370.toList = ((⟨#[66, 1, 2, 100, 4]⟩ : ByteArray) ++ t368).toList
   ·
    rw [if_pos c9] at H
    have c9b0 : (t370.toList == ((⟨#[66, 1, 2, 100, 4]⟩ : ByteArray) ++ t368).toList) = true := beq_iff_eq.mpr c9
    have c9b1 : (t370.toList != ((⟨#[66, 1, 2, 100, 4]⟩ : ByteArray) ++ t368).toList) = false := bne_eq_false_iff_eq.mpr c9
    clear c9
    by_cases c10 : (t371 == 1 && (t372 == 2 && (t373 == 100 && (t374.toList == t368.toList)))) = true
    ·
     rw [if_pos c10] at H
     have c10b0 : (t371 == 1 && (t372 == 2 && (t373 == 100 && (t374.toList == t368.toList)))) = true := c10
     try have c10b7 : (t371 = 1 ∧ t372 = 2 ∧ t373 = 100 ∧ t374.toList = t368.toList) = True := eq_true (by simpa using c10)
     (try (have c10b1 : decide (t371 = 1 && (t372 == 2 && (t373 == 100 && (t374.toList == t368.toList)))) = true := by simpa using c10))
     (try (have c10b2 : (t371 == 1 && (t372 == 2 && (t373 == 100 && (t374.toList == t368.toList)))) = true := by simpa using c10))
     clear c10
     by_cases c11 : t375 = (wrap64 ((t370.size : Int) + 1))
     ·
      rw [if_pos c11] at H
      have c11b0 : (t375 == (wrap64 ((t370.size : Int) + 1))) = true := beq_iff_eq.mpr c11
      try (have c11b8 : (t375 = (t370.size : Int) + 1) = True := eq_true (by have h_ := c11; rw [show wrap64 ((t370.size : Int) + 1) = (t370.size : Int) + 1 from by unfold wrap64; omega] at h_; exact h_))
      try (have c11b9 : (t375 == (t370.size : Int) + 1) = true := beq_iff_eq.mpr (by have h_ := c11; rw [show wrap64 ((t370.size : Int) + 1) = (t370.size : Int) + 1 from by unfold wrap64; omega] at h_; exact h_))
      have c11b1 : (t375 != (wrap64 ((t370.size : Int) + 1))) = false := bne_eq_false_iff_eq.mpr c11
      clear c11
      by_cases c12 : t376 = 0
      ·
       rw [if_pos c12] at H
       have c12b0 : (t376 == 0) = true := beq_iff_eq.mpr c12
       have c12b1 : (t376 != 0) = false := bne_eq_false_iff_eq.mpr c12
       clear c12
       by_cases c13 : (t378.length : Int) = 2
       ·
        rw [if_pos c13] at H
        have c13b0 : ((t378.length : Int) == 2) = true := beq_iff_eq.mpr c13
        have c13b1 : ((t378.length : Int) != 2) = false := bne_eq_false_iff_eq.mpr c13
        clear c13
        obtain ⟨y400, hy400⟩ : ∃ y_ : List Int, y_ = (([105, 105] : List Int)) := ⟨_, rfl⟩
        replace H : ((shuttlecockref01_Ints.f k t381 y400).bind fun t403 => (if t403 = true then (if t385 = 0 then (if t391 = 50 then (if t398 = 50 then ((batch_May.f 1 2 100 t368).bind fun t404 => (if t404 = true then ((batch_May.f 0 0 0 (⟨#[]⟩ : ByteArray)).bind fun t405 => (some (!t405))) else (none))) else (none)) else (none)) else (none)) else (none))) = some r := by first | (rw [hy400]; with_reducible exact H) | (have H2_ := (Option.bind_some _ _).symm.trans H; rw [hy400]; with_reducible exact H2_) | (have H2_ := (Option.bind_some _ _).symm.trans H; with_reducible exact H2_) | with_reducible exact H | (rw [hy400]; exact H) | exact H
        have Ny400 := Am hy400
        clear hy400
        replace H := ob H
        obtain ⟨t403, A140, H⟩ := H
        (try dsimp only at H)
        have A14 := Am A140
        clear A140
        by_cases c15 : t403 = true
        ·
         subst c15
         rw [if_pos rfl] at H
         by_cases c16 : t385 = 0
         ·
          rw [if_pos c16] at H
          have c16b0 : (t385 == 0) = true := beq_iff_eq.mpr c16
          have c16b1 : (t385 != 0) = false := bne_eq_false_iff_eq.mpr c16
          clear c16
          by_cases c17 : t391 = 50
          ·
           rw [if_pos c17] at H
           have c17b0 : (t391 == 50) = true := beq_iff_eq.mpr c17
           have c17b1 : (t391 != 50) = false := bne_eq_false_iff_eq.mpr c17
           clear c17
           by_cases c18 : t398 = 50
           ·
            rw [if_pos c18] at H
            have c18b0 : (t398 == 50) = true := beq_iff_eq.mpr c18
            have c18b1 : (t398 != 50) = false := bne_eq_false_iff_eq.mpr c18
            clear c18
            replace H := ob H
            obtain ⟨t404, A190, H⟩ := H
            (try dsimp only at H)
            have A19 := Am A190
            clear A190
            by_cases c20 : t404 = true
            ·
             subst c20
             rw [if_pos rfl] at H
             replace H := ob H
             obtain ⟨t405, A210, H⟩ := H
             (try dsimp only at H)
             have A21 := Am A210
             clear A210
             obtain rfl := Option.some.inj H
             go_enter Try.func8, Try.ntmps8
             go_wp2_with (first | ((with_reducible refine gate_dst (N := 19) rfl ?_); (try (refine gate_guard (by rfl) ?_; dsimp only)); refine Kd.S_lit k41 _ 41 ?hg (N := 19) ?hd (xs := ([(⟨8, 5, ([] : List Int), (⟨#[]⟩ : ByteArray)⟩ : S41), (⟨8, 0, ([] : List Int), (⟨#[]⟩ : ByteArray)⟩ : S41)] : List (S41))) (inner := [.int .i64 8, .int .i64 5, .slice none 0 0, .string (⟨#[]⟩ : ByteArray), .int .i64 8, .int .i64 0, .slice none 0 0, .string (⟨#[]⟩ : ByteArray)]) (ok := fun _ => True) (okp := fun _ => True) ?hr ?hp (fun _ hk => hk) trivial (Below.refl _ _) (Nat.le_refl _) (by simp) ?_; (case hd => rfl); (case hg => rfl); (case hr => first | (go_simp; done) | (go_simp; rfl)); (case hp => exact (Reps.c4 (show Kd.M k41 _ _ _ (⟨8, 5, ([] : List Int), (⟨#[]⟩ : ByteArray)⟩ : S41) [.int .i64 8, .int .i64 5, .slice none 0 0, .string (⟨#[]⟩ : ByteArray)] from (k41_mkM _ _ _ (⟨8, 5, ([] : List Int), (⟨#[]⟩ : ByteArray)⟩ : S41) (Kd.R_nil _ _ _ _ _))) (Reps.c4 (show Kd.M k41 _ _ _ (⟨8, 0, ([] : List Int), (⟨#[]⟩ : ByteArray)⟩ : S41) [.int .i64 8, .int .i64 0, .slice none 0 0, .string (⟨#[]⟩ : ByteArray)] from (k41_mkM _ _ _ (⟨8, 0, ([] : List Int), (⟨#[]⟩ : ByteArray)⟩ : S41) (Kd.R_nil _ _ _ _ _))) (Reps.none _ _)))); intro v366 w22 ho23 hb hg_ hnew_; clear hg_ hnew_; (first | rw [← Ny365.out] at ho23 | (simp only [Int.reduceToNat] at ho23; rw [← Ny365.out] at ho23)); have HO367 := Am (Kd.S_lower ho23 (below_size (by repeat (first | (with_reducible first | exact HB.out | apply bl | apply pN | apply b1) | exact HB.out | exact HBo.out)))); replace HB := Am (below_step (by repeat (first | (with_reducible first | exact HB.out | apply bl | apply pN | apply b1) | exact HB.out | exact HBo.out)) hb); clear hb ho23; obtain ⟨Ao24, co24, eo24⟩ := Kd.S_slice HO367.out; subst eo24) | ((with_reducible refine gate_callee (f := 20) rfl ?_); refine Own.gL_ (some 20) Try.func20 (#[.slice Ao24 y365.length co24]) (h := ?_); (with_reducible refine (shuttlecockref04_Bytes.calls k _ _ y365 t368 _ ?side1 ?side2 A1.out).mono ?_); (case side1 => repeat (first | exact (Kd.S_reads' HO367.out).2.2 | (with_reducible refine Kd.C_alloc ?_ _) | (with_reducible refine Kd.C_drewN ?_ _) | (with_reducible refine Kd.C_drew ?_))); (case side2 => exact (Kd.S_reads' HO367.out).2.1); rintro e w25 ⟨rfl, hb⟩; refine ⟨_, rfl, ?_⟩; replace HO367 := Am (Kd.S_below (by (with_reducible repeat (first | apply Kd.S_alloc | apply Kd.S_drewN | apply Kd.S_drew)); exact HO367.out) hb); replace HB := Am (below_step (by repeat (first | (with_reducible first | exact HB.out | apply bl | apply pN | apply b1) | exact HB.out | exact HBo.out)) hb); clear hb) | ((with_reducible refine gate_dst (N := 2) rfl ?_); (try (refine gate_guard (by rfl) ?_; dsimp only)); refine box_event ?hg (N := 2) ?hd (cs := #[.int .i64 0, .int .i64 0, .int .i64 0, .string (⟨#[]⟩ : ByteArray)]) (t := 23) ?hr ?_; (case hd => rfl); (case hg => rfl); (case hr => first | (go_simp; done) | (go_simp; rfl)); intro gb369 hg w26 hbox hb; have BK369 := Am (hbox); have GW369 := Am ((by rw [hg]; exact (below_size (by repeat (first | (with_reducible first | exact HB.out | apply bl | apply pN | apply b1) | exact HB.out | exact HBo.out))) : w.heap.size ≤ gb369)); have GE369 := GW369; replace HO367 := Am (Kd.S_below (by (with_reducible repeat (first | apply Kd.S_alloc | apply Kd.S_drewN | apply Kd.S_drew)); exact HO367.out) hb); replace HB := Am (below_step (by repeat (first | (with_reducible first | exact HB.out | apply bl | apply pN | apply b1) | exact HB.out | exact HBo.out)) hb); clear hb hbox hg; have hcz27_0 := Own.bc2 BK369.out 0; have hcz27_1 := Own.bc2 BK369.out 1; have hcz27_2 := Own.bc2 BK369.out 2; have hcz27_3 := Own.bc2 BK369.out 3; have hfz27_0 := bf BK369.out 0; have hfz27_1 := bf BK369.out 1; have hfz27_2 := bf BK369.out 2; have hfz27_3 := bf BK369.out 3) | ((with_reducible refine gate_callee (f := 15) rfl ?_); refine Own.gL_ (some 24) Try.func15 (#[.agg #[.int .i64 1, .int .i64 2, .int .i64 100, .string t368]]) (h := ?_); (with_reducible refine (batch_Encode.calls k 1 2 100 t368 t370 _ A2.out).mono ?_); rintro e w28 ⟨rfl, hb⟩; refine ⟨_, rfl, ?_⟩; replace HO367 := Am (Kd.S_below (by (with_reducible repeat (first | apply Kd.S_alloc | apply Kd.S_drewN | apply Kd.S_drew)); exact (Kd.S_mono (Kd.S_far (p := ⟨gb369, 3, none⟩) (Kd.S_far (p := ⟨gb369, 2, none⟩) (Kd.S_far (p := ⟨gb369, 1, none⟩) (Kd.S_far (p := ⟨gb369, 0, none⟩) (Kd.S_types HO367.out BK369.out (by decide)) (fun _ hk => hk.2) (.int .i64 1)) (fun _ hk => hk.2) (.int .i64 2)) (fun _ hk => hk.2) (.int .i64 100)) (fun _ hk => hk.2) (.string t368)) (fun _ h_ => h_.1))) hb); replace BK369 := Am (blk_below (g := gb369) (o := .cells #[.int .i64 1, .int .i64 2, .int .i64 100, .string t368] 23 (0, 0)) (by (with_reducible repeat (first|apply bn|apply bd|apply ba)); refine blk_put (cs := #[.int .i64 1, .int .i64 2, .int .i64 100, .string (⟨#[]⟩ : ByteArray)]) ?_ 3 _ rfl; (with_reducible repeat (first|apply bn|apply bd|apply ba)); refine blk_put (cs := #[.int .i64 1, .int .i64 2, .int .i64 0, .string (⟨#[]⟩ : ByteArray)]) ?_ 2 _ rfl; (with_reducible repeat (first|apply bn|apply bd|apply ba)); refine blk_put (cs := #[.int .i64 1, .int .i64 0, .int .i64 0, .string (⟨#[]⟩ : ByteArray)]) ?_ 1 _ rfl; (with_reducible repeat (first|apply bn|apply bd|apply ba)); refine blk_put (cs := #[.int .i64 0, .int .i64 0, .int .i64 0, .string (⟨#[]⟩ : ByteArray)]) ?_ 0 _ rfl; (with_reducible repeat (first|apply bn|apply bd|apply ba)); exact BK369.out) hb); replace HB := Am (below_step (by repeat (first | (with_reducible first | exact HB.out | apply bl | apply pN | apply b1 | refine bs ?_ GE369.out) | exact HB.out | exact HBo.out)) hb); clear hb) | ((with_reducible refine gate_callee (f := 9) rfl ?_); refine Own.gL_ (some 28) Try.func9 (#[.string ((⟨#[120]⟩ : ByteArray) ++ t370), .int .i64 1]) (h := ?_); (with_reducible refine (batch_Decode.calls k ((⟨#[120]⟩ : ByteArray) ++ t370) 1 t371 t372 t373 t374 t375 t376 _ A4.out).mono ?_); rintro e w29 ⟨rfl, hb⟩; refine ⟨_, rfl, ?_⟩; replace HO367 := Am (Kd.S_below (by (with_reducible repeat (first | apply Kd.S_alloc | apply Kd.S_drewN | apply Kd.S_drew)); exact HO367.out) hb); replace BK369 := Am (blk_below (g := gb369) (o := .cells #[.int .i64 1, .int .i64 2, .int .i64 100, .string t368] 23 (0, 0)) (by (with_reducible repeat (first|apply bn|apply bd|apply ba)); exact BK369.out) hb); replace HB := Am (below_step (by repeat (first | (with_reducible first | exact HB.out | apply bl | apply pN | apply b1 | refine bs ?_ GE369.out) | exact HB.out | exact HBo.out)) hb); clear hb) | ((with_reducible refine gate_dst (N := 4) rfl ?_); (try (refine gate_guard (by rfl) ?_; dsimp only)); refine box_event ?hg (N := 4) ?hd (cs := #[.int .i64 0, .int .i64 0, .int .i64 0, .string (⟨#[]⟩ : ByteArray)]) (t := 23) ?hr ?_; (case hd => rfl); (case hg => rfl); (case hr => first | (go_simp; done) | (go_simp; rfl)); intro gb377 hg w30 hbox hb; have BK377 := Am (hbox); have GW377 := Am ((by rw [hg]; exact (below_size (by repeat (first | (with_reducible first | exact HB.out | apply bl | apply pN | apply b1 | refine bs ?_ GE369.out) | exact HB.out | exact HBo.out))) : w.heap.size ≤ gb377)); have GE377 := GW377; have NB369_377 := Am ((by rw [hg]; exact Nat.ne_of_lt (blk_lt (g := gb369) (o := .cells #[.int .i64 1, .int .i64 2, .int .i64 100, .string t368] 23 (0, 0)) (by (with_reducible repeat (first|apply bn|apply bd|apply ba)); exact BK369.out)) : gb369 ≠ gb377)); have NB377_369 := Am NB369_377.out.symm; replace HO367 := Am (Kd.S_below (by (with_reducible repeat (first | apply Kd.S_alloc | apply Kd.S_drewN | apply Kd.S_drew)); exact HO367.out) hb); replace BK369 := Am (blk_below (g := gb369) (o := .cells #[.int .i64 1, .int .i64 2, .int .i64 100, .string t368] 23 (0, 0)) (by (with_reducible repeat (first|apply bn|apply bd|apply ba)); exact BK369.out) hb); replace HB := Am (below_step (by repeat (first | (with_reducible first | exact HB.out | apply bl | apply pN | apply b1 | refine bs ?_ GE369.out) | exact HB.out | exact HBo.out)) hb); clear hb hbox hg; have hnb31 := NB377_369.out; have hnc31 := NB369_377.out; have hcz32_0 := Own.bc2 BK377.out 0; have hcz32_1 := Own.bc2 BK377.out 1; have hcz32_2 := Own.bc2 BK377.out 2; have hcz32_3 := Own.bc2 BK377.out 3; have hfz32_0 := bf BK377.out 0; have hfz32_1 := bf BK377.out 1; have hfz32_2 := bf BK377.out 2; have hfz32_3 := bf BK377.out 3; have hcz33_0 := Own.bc2 BK369.out 0; have hcz33_1 := Own.bc2 BK369.out 1; have hcz33_2 := Own.bc2 BK369.out 2; have hcz33_3 := Own.bc2 BK369.out 3; have hfz33_0 := bf BK369.out 0; have hfz33_1 := bf BK369.out 1; have hfz33_2 := bf BK369.out 2; have hfz33_3 := bf BK369.out 3) | ((with_reducible refine gate_callee (f := 11) rfl ?_); refine Own.gL_ (some 34) Try.func11 (#[.agg #[.int .i64 1, .int .i64 2, .int .i64 100, .string t368]]) (h := ?_); (with_reducible refine (batch_Events.calls k 1 2 100 t368 t378 t381 t384 t385 _ A5.out).mono ?_); rintro e w34 ⟨v379, v382, rfl, ho0, ho1, hb⟩; refine ⟨_, rfl, ?_⟩; have HO380 := Am (Kd.S_lower (Kd.S_new' ho0 (Kd.S_lt (by (with_reducible repeat (first | apply Kd.S_alloc | apply Kd.S_drewN | apply Kd.S_drew)); exact (Kd.S_mono (Kd.S_far (p := ⟨gb377, 3, none⟩) (Kd.S_far (p := ⟨gb377, 2, none⟩) (Kd.S_far (p := ⟨gb377, 1, none⟩) (Kd.S_far (p := ⟨gb377, 0, none⟩) (Kd.S_types HO367.out BK377.out (by decide)) (fun _ hk => hk.2) (.int .i64 t371)) (fun _ hk => hk.2) (.int .i64 t372)) (fun _ hk => hk.2) (.int .i64 t373)) (fun _ hk => hk.2) (.string t374)) (fun _ h_ => h_.1))))) (below_size (by repeat (first | (with_reducible first | exact HB.out | apply bl | apply pN | apply b1 | refine bs ?_ GE369.out | refine bs ?_ GE377.out) | exact HB.out | exact HBo.out)))); have HO383 := Am (Kd.R_lower ho1 (below_size (by repeat (first | (with_reducible first | exact HB.out | apply bl | apply pN | apply b1 | refine bs ?_ GE369.out | refine bs ?_ GE377.out) | exact HB.out | exact HBo.out)))); replace HO367 := Am (Kd.S_mono (Kd.S_told (Kd.S_told (Kd.S_old (by (with_reducible repeat (first | apply Kd.S_alloc | apply Kd.S_drewN | apply Kd.S_drew)); exact (Kd.S_mono (Kd.S_far (p := ⟨gb377, 3, none⟩) (Kd.S_far (p := ⟨gb377, 2, none⟩) (Kd.S_far (p := ⟨gb377, 1, none⟩) (Kd.S_far (p := ⟨gb377, 0, none⟩) (Kd.S_types HO367.out BK377.out (by decide)) (fun _ hk => hk.2) (.int .i64 t371)) (fun _ hk => hk.2) (.int .i64 t372)) (fun _ hk => hk.2) (.int .i64 t373)) (fun _ hk => hk.2) (.string t374)) (fun _ h_ => h_.1))) hb) (Kd.S_base ho0)) (Kd.R_base ho1)) (fun _ h_ => h_.1)); replace BK369 := Am (blk_below (g := gb369) (o := .cells #[.int .i64 1, .int .i64 2, .int .i64 100, .string t368] 23 (0, 0)) (by (with_reducible repeat (first|apply bn|apply bd|apply ba)); refine blk_far ?_ NB369_377.out _; (with_reducible repeat (first|apply bn|apply bd|apply ba)); refine blk_far ?_ NB369_377.out _; (with_reducible repeat (first|apply bn|apply bd|apply ba)); refine blk_far ?_ NB369_377.out _; (with_reducible repeat (first|apply bn|apply bd|apply ba)); refine blk_far ?_ NB369_377.out _; (with_reducible repeat (first|apply bn|apply bd|apply ba)); exact BK369.out) hb); replace BK377 := Am (blk_below (g := gb377) (o := .cells #[.int .i64 t371, .int .i64 t372, .int .i64 t373, .string t374] 23 (0, 0)) (by (with_reducible repeat (first|apply bn|apply bd|apply ba)); refine blk_put (cs := #[.int .i64 t371, .int .i64 t372, .int .i64 t373, .string (⟨#[]⟩ : ByteArray)]) ?_ 3 _ rfl; (with_reducible repeat (first|apply bn|apply bd|apply ba)); refine blk_put (cs := #[.int .i64 t371, .int .i64 t372, .int .i64 0, .string (⟨#[]⟩ : ByteArray)]) ?_ 2 _ rfl; (with_reducible repeat (first|apply bn|apply bd|apply ba)); refine blk_put (cs := #[.int .i64 t371, .int .i64 0, .int .i64 0, .string (⟨#[]⟩ : ByteArray)]) ?_ 1 _ rfl; (with_reducible repeat (first|apply bn|apply bd|apply ba)); refine blk_put (cs := #[.int .i64 0, .int .i64 0, .int .i64 0, .string (⟨#[]⟩ : ByteArray)]) ?_ 0 _ rfl; (with_reducible repeat (first|apply bn|apply bd|apply ba)); exact BK377.out) hb); replace HB := Am (below_step (by repeat (first | (with_reducible first | exact HB.out | apply bl | apply pN | apply b1 | refine bs ?_ GE369.out | refine bs ?_ GE377.out) | exact HB.out | exact HBo.out)) hb); (try clear hb); (try clear hb2); (try clear hk); (try clear hi); (try clear ho0); (try clear ho1)) | ((with_reducible refine gate_callee (f := 9) rfl ?_); refine Own.gL_ (some 40) Try.func9 (#[.string (⟨#[120]⟩ : ByteArray), .int .i64 0]) (h := ?_); (with_reducible refine (batch_Decode.calls k (⟨#[120]⟩ : ByteArray) 0 t386 t387 t388 t389 t390 t391 _ A6.out).mono ?_); rintro e w35 ⟨rfl, hb⟩; refine ⟨_, rfl, ?_⟩; replace HO367 := Am (Kd.S_below (by (with_reducible repeat (first | apply Kd.S_alloc | apply Kd.S_drewN | apply Kd.S_drew)); exact HO367.out) hb); replace HO380 := Am (Kd.S_below (by (with_reducible repeat (first | apply Kd.S_alloc | apply Kd.S_drewN | apply Kd.S_drew)); exact HO380.out) hb); replace HO383 := Am (Kd.R_below (by (with_reducible repeat (first | apply Kd.R_alloc | apply Kd.R_drewN | apply Kd.R_drew)); exact HO383.out) hb); replace BK369 := Am (blk_below (g := gb369) (o := .cells #[.int .i64 1, .int .i64 2, .int .i64 100, .string t368] 23 (0, 0)) (by (with_reducible repeat (first|apply bn|apply bd|apply ba)); exact BK369.out) hb); replace BK377 := Am (blk_below (g := gb377) (o := .cells #[.int .i64 t371, .int .i64 t372, .int .i64 t373, .string t374] 23 (0, 0)) (by (with_reducible repeat (first|apply bn|apply bd|apply ba)); exact BK377.out) hb); replace HB := Am (below_step (by repeat (first | (with_reducible first | exact HB.out | apply bl | apply pN | apply b1 | refine bs ?_ GE369.out | refine bs ?_ GE377.out) | exact HB.out | exact HBo.out)) hb); clear hb) | ((with_reducible refine gate_dst (N := 11) rfl ?_); (try (refine gate_guard (by rfl) ?_; dsimp only)); refine box_event ?hg (N := 11) ?hd (cs := #[.int .i64 0, .int .i64 0, .int .i64 0, .string (⟨#[]⟩ : ByteArray)]) (t := 23) ?hr ?_; (case hd => rfl); (case hg => rfl); (case hr => first | (go_simp; done) | (go_simp; rfl)); intro gb392 hg w36 hbox hb; have BK392 := Am (hbox); have GW392 := Am ((by rw [hg]; exact (below_size (by repeat (first | (with_reducible first | exact HB.out | apply bl | apply pN | apply b1 | refine bs ?_ GE369.out | refine bs ?_ GE377.out) | exact HB.out | exact HBo.out))) : w.heap.size ≤ gb392)); have GE392 := GW392; have NB369_392 := Am ((by rw [hg]; exact Nat.ne_of_lt (blk_lt (g := gb369) (o := .cells #[.int .i64 1, .int .i64 2, .int .i64 100, .string t368] 23 (0, 0)) (by (with_reducible repeat (first|apply bn|apply bd|apply ba)); exact BK369.out)) : gb369 ≠ gb392)); have NB392_369 := Am NB369_392.out.symm; have NB377_392 := Am ((by rw [hg]; exact Nat.ne_of_lt (blk_lt (g := gb377) (o := .cells #[.int .i64 t371, .int .i64 t372, .int .i64 t373, .string t374] 23 (0, 0)) (by (with_reducible repeat (first|apply bn|apply bd|apply ba)); exact BK377.out)) : gb377 ≠ gb392)); have NB392_377 := Am NB377_392.out.symm; replace HO367 := Am (Kd.S_below (by (with_reducible repeat (first | apply Kd.S_alloc | apply Kd.S_drewN | apply Kd.S_drew)); exact HO367.out) hb); replace HO380 := Am (Kd.S_below (by (with_reducible repeat (first | apply Kd.S_alloc | apply Kd.S_drewN | apply Kd.S_drew)); exact HO380.out) hb); replace HO383 := Am (Kd.R_below (by (with_reducible repeat (first | apply Kd.R_alloc | apply Kd.R_drewN | apply Kd.R_drew)); exact HO383.out) hb); replace BK369 := Am (blk_below (g := gb369) (o := .cells #[.int .i64 1, .int .i64 2, .int .i64 100, .string t368] 23 (0, 0)) (by (with_reducible repeat (first|apply bn|apply bd|apply ba)); exact BK369.out) hb); replace BK377 := Am (blk_below (g := gb377) (o := .cells #[.int .i64 t371, .int .i64 t372, .int .i64 t373, .string t374] 23 (0, 0)) (by (with_reducible repeat (first|apply bn|apply bd|apply ba)); exact BK377.out) hb); replace HB := Am (below_step (by repeat (first | (with_reducible first | exact HB.out | apply bl | apply pN | apply b1 | refine bs ?_ GE369.out | refine bs ?_ GE377.out) | exact HB.out | exact HBo.out)) hb); clear hb hbox hg; have hnb37 := NB392_369.out; have hnc37 := NB369_392.out; have hnb38 := NB392_377.out; have hnc38 := NB377_392.out; have hcz39_0 := Own.bc2 BK392.out 0; have hcz39_1 := Own.bc2 BK392.out 1; have hcz39_2 := Own.bc2 BK392.out 2; have hcz39_3 := Own.bc2 BK392.out 3; have hfz39_0 := bf BK392.out 0; have hfz39_1 := bf BK392.out 1; have hfz39_2 := bf BK392.out 2; have hfz39_3 := bf BK392.out 3) | ((with_reducible refine gate_callee (f := 9) rfl ?_); refine Own.gL_ (some 45) Try.func9 (#[.string (⟨#[66, 0, 0, 0, 0]⟩ : ByteArray), .int .i64 0]) (h := ?_); (with_reducible refine (batch_Decode.calls k (⟨#[66, 0, 0, 0, 0]⟩ : ByteArray) 0 t393 t394 t395 t396 t397 t398 _ A7.out).mono ?_); rintro e w40 ⟨rfl, hb⟩; refine ⟨_, rfl, ?_⟩; replace HO367 := Am (Kd.S_below (by (with_reducible repeat (first | apply Kd.S_alloc | apply Kd.S_drewN | apply Kd.S_drew)); exact (Kd.S_mono (Kd.S_far (p := ⟨gb392, 3, none⟩) (Kd.S_far (p := ⟨gb392, 2, none⟩) (Kd.S_far (p := ⟨gb392, 1, none⟩) (Kd.S_far (p := ⟨gb392, 0, none⟩) (Kd.S_types HO367.out BK392.out (by decide)) (fun _ hk => hk.2) (.int .i64 t386)) (fun _ hk => hk.2) (.int .i64 t387)) (fun _ hk => hk.2) (.int .i64 t388)) (fun _ hk => hk.2) (.string t389)) (fun _ h_ => h_.1))) hb); replace HO380 := Am (Kd.S_below (by (with_reducible repeat (first | apply Kd.S_alloc | apply Kd.S_drewN | apply Kd.S_drew)); exact (Kd.S_mono (Kd.S_far (p := ⟨gb392, 3, none⟩) (Kd.S_far (p := ⟨gb392, 2, none⟩) (Kd.S_far (p := ⟨gb392, 1, none⟩) (Kd.S_far (p := ⟨gb392, 0, none⟩) (Kd.S_types HO380.out BK392.out (by decide)) (fun _ hk => hk.2) (.int .i64 t386)) (fun _ hk => hk.2) (.int .i64 t387)) (fun _ hk => hk.2) (.int .i64 t388)) (fun _ hk => hk.2) (.string t389)) (fun _ h_ => h_.1))) hb); replace HO383 := Am (Kd.R_below (by (with_reducible repeat (first | apply Kd.R_alloc | apply Kd.R_drewN | apply Kd.R_drew)); exact (Kd.R_mono (Kd.R_far (p := ⟨gb392, 3, none⟩) (Kd.R_far (p := ⟨gb392, 2, none⟩) (Kd.R_far (p := ⟨gb392, 1, none⟩) (Kd.R_far (p := ⟨gb392, 0, none⟩) (Kd.R_types HO383.out BK392.out (by decide)) (fun _ hk => hk.2) (.int .i64 t386)) (fun _ hk => hk.2) (.int .i64 t387)) (fun _ hk => hk.2) (.int .i64 t388)) (fun _ hk => hk.2) (.string t389)) (fun _ h_ => h_.1))) hb); replace BK369 := Am (blk_below (g := gb369) (o := .cells #[.int .i64 1, .int .i64 2, .int .i64 100, .string t368] 23 (0, 0)) (by (with_reducible repeat (first|apply bn|apply bd|apply ba)); refine blk_far ?_ NB369_392.out _; (with_reducible repeat (first|apply bn|apply bd|apply ba)); refine blk_far ?_ NB369_392.out _; (with_reducible repeat (first|apply bn|apply bd|apply ba)); refine blk_far ?_ NB369_392.out _; (with_reducible repeat (first|apply bn|apply bd|apply ba)); refine blk_far ?_ NB369_392.out _; (with_reducible repeat (first|apply bn|apply bd|apply ba)); exact BK369.out) hb); replace BK377 := Am (blk_below (g := gb377) (o := .cells #[.int .i64 t371, .int .i64 t372, .int .i64 t373, .string t374] 23 (0, 0)) (by (with_reducible repeat (first|apply bn|apply bd|apply ba)); refine blk_far ?_ NB377_392.out _; (with_reducible repeat (first|apply bn|apply bd|apply ba)); refine blk_far ?_ NB377_392.out _; (with_reducible repeat (first|apply bn|apply bd|apply ba)); refine blk_far ?_ NB377_392.out _; (with_reducible repeat (first|apply bn|apply bd|apply ba)); refine blk_far ?_ NB377_392.out _; (with_reducible repeat (first|apply bn|apply bd|apply ba)); exact BK377.out) hb); replace BK392 := Am (blk_below (g := gb392) (o := .cells #[.int .i64 t386, .int .i64 t387, .int .i64 t388, .string t389] 23 (0, 0)) (by (with_reducible repeat (first|apply bn|apply bd|apply ba)); refine blk_put (cs := #[.int .i64 t386, .int .i64 t387, .int .i64 t388, .string (⟨#[]⟩ : ByteArray)]) ?_ 3 _ rfl; (with_reducible repeat (first|apply bn|apply bd|apply ba)); refine blk_put (cs := #[.int .i64 t386, .int .i64 t387, .int .i64 0, .string (⟨#[]⟩ : ByteArray)]) ?_ 2 _ rfl; (with_reducible repeat (first|apply bn|apply bd|apply ba)); refine blk_put (cs := #[.int .i64 t386, .int .i64 0, .int .i64 0, .string (⟨#[]⟩ : ByteArray)]) ?_ 1 _ rfl; (with_reducible repeat (first|apply bn|apply bd|apply ba)); refine blk_put (cs := #[.int .i64 0, .int .i64 0, .int .i64 0, .string (⟨#[]⟩ : ByteArray)]) ?_ 0 _ rfl; (with_reducible repeat (first|apply bn|apply bd|apply ba)); exact BK392.out) hb); replace HB := Am (below_step (by repeat (first | (with_reducible first | exact HB.out | apply bl | apply pN | apply b1 | refine bs ?_ GE369.out | refine bs ?_ GE377.out | refine bs ?_ GE392.out) | exact HB.out | exact HBo.out)) hb); clear hb) | ((with_reducible refine gate_dst (N := 14) rfl ?_); (try (refine gate_guard (by rfl) ?_; dsimp only)); refine box_event ?hg (N := 14) ?hd (cs := #[.int .i64 0, .int .i64 0, .int .i64 0, .string (⟨#[]⟩ : ByteArray)]) (t := 23) ?hr ?_; (case hd => rfl); (case hg => rfl); (case hr => first | (go_simp; done) | (go_simp; rfl)); intro gb399 hg w41 hbox hb; have BK399 := Am (hbox); have GW399 := Am ((by rw [hg]; exact (below_size (by repeat (first | (with_reducible first | exact HB.out | apply bl | apply pN | apply b1 | refine bs ?_ GE369.out | refine bs ?_ GE377.out | refine bs ?_ GE392.out) | exact HB.out | exact HBo.out))) : w.heap.size ≤ gb399)); have GE399 := GW399; have NB369_399 := Am ((by rw [hg]; exact Nat.ne_of_lt (blk_lt (g := gb369) (o := .cells #[.int .i64 1, .int .i64 2, .int .i64 100, .string t368] 23 (0, 0)) (by (with_reducible repeat (first|apply bn|apply bd|apply ba)); exact BK369.out)) : gb369 ≠ gb399)); have NB399_369 := Am NB369_399.out.symm; have NB377_399 := Am ((by rw [hg]; exact Nat.ne_of_lt (blk_lt (g := gb377) (o := .cells #[.int .i64 t371, .int .i64 t372, .int .i64 t373, .string t374] 23 (0, 0)) (by (with_reducible repeat (first|apply bn|apply bd|apply ba)); exact BK377.out)) : gb377 ≠ gb399)); have NB399_377 := Am NB377_399.out.symm; have NB392_399 := Am ((by rw [hg]; exact Nat.ne_of_lt (blk_lt (g := gb392) (o := .cells #[.int .i64 t386, .int .i64 t387, .int .i64 t388, .string t389] 23 (0, 0)) (by (with_reducible repeat (first|apply bn|apply bd|apply ba)); exact BK392.out)) : gb392 ≠ gb399)); have NB399_392 := Am NB392_399.out.symm; replace HO367 := Am (Kd.S_below (by (with_reducible repeat (first | apply Kd.S_alloc | apply Kd.S_drewN | apply Kd.S_drew)); exact HO367.out) hb); replace HO380 := Am (Kd.S_below (by (with_reducible repeat (first | apply Kd.S_alloc | apply Kd.S_drewN | apply Kd.S_drew)); exact HO380.out) hb); replace HO383 := Am (Kd.R_below (by (with_reducible repeat (first | apply Kd.R_alloc | apply Kd.R_drewN | apply Kd.R_drew)); exact HO383.out) hb); replace BK369 := Am (blk_below (g := gb369) (o := .cells #[.int .i64 1, .int .i64 2, .int .i64 100, .string t368] 23 (0, 0)) (by (with_reducible repeat (first|apply bn|apply bd|apply ba)); exact BK369.out) hb); replace BK377 := Am (blk_below (g := gb377) (o := .cells #[.int .i64 t371, .int .i64 t372, .int .i64 t373, .string t374] 23 (0, 0)) (by (with_reducible repeat (first|apply bn|apply bd|apply ba)); exact BK377.out) hb); replace BK392 := Am (blk_below (g := gb392) (o := .cells #[.int .i64 t386, .int .i64 t387, .int .i64 t388, .string t389] 23 (0, 0)) (by (with_reducible repeat (first|apply bn|apply bd|apply ba)); exact BK392.out) hb); replace HB := Am (below_step (by repeat (first | (with_reducible first | exact HB.out | apply bl | apply pN | apply b1 | refine bs ?_ GE369.out | refine bs ?_ GE377.out | refine bs ?_ GE392.out) | exact HB.out | exact HBo.out)) hb); clear hb hbox hg; have hnb42 := NB399_369.out; have hnc42 := NB369_399.out; have hnb43 := NB399_377.out; have hnc43 := NB377_399.out; have hnb44 := NB399_392.out; have hnc44 := NB392_399.out; have hcz45_0 := Own.bc2 BK399.out 0; have hcz45_1 := Own.bc2 BK399.out 1; have hcz45_2 := Own.bc2 BK399.out 2; have hcz45_3 := Own.bc2 BK399.out 3; have hfz45_0 := bf BK399.out 0; have hfz45_1 := bf BK399.out 1; have hfz45_2 := bf BK399.out 2; have hfz45_3 := bf BK399.out 3; have hcz46_0 := Own.bc2 BK377.out 0; have hcz46_1 := Own.bc2 BK377.out 1; have hcz46_2 := Own.bc2 BK377.out 2; have hcz46_3 := Own.bc2 BK377.out 3; have hfz46_0 := bf BK377.out 0; have hfz46_1 := bf BK377.out 1; have hfz46_2 := bf BK377.out 2; have hfz46_3 := bf BK377.out 3; have hcz47_0 := Own.bc2 BK369.out 0; have hcz47_1 := Own.bc2 BK369.out 1; have hcz47_2 := Own.bc2 BK369.out 2; have hcz47_3 := Own.bc2 BK369.out 3; have hfz47_0 := bf BK369.out 0; have hfz47_1 := bf BK369.out 1; have hfz47_2 := bf BK369.out 2; have hfz47_3 := bf BK369.out 3; obtain ⟨Ao48, co48, eo48⟩ := Kd.S_slice HO380.out; subst eo48) | ((with_reducible refine gate_dst (N := 76) rfl ?_); (try (refine gate_guard (by rfl) ?_; dsimp only)); refine Kd.R_lit (Kd.int .i64) _ 3 ?hg (N := 76) ?hd (xs := ([105, 105] : List Int)) (inner := [.int .i64 105, .int .i64 105]) (ok := fun _ => True) (okp := fun _ => True) ?hr ?hp (fun _ hk => hk) trivial (Below.refl _ _) (Nat.le_refl _) (by simp) ?_; (case hd => rfl); (case hg => rfl); (case hr => first | (go_simp; done) | (go_simp; rfl)); (case hp => exact (Reps.one (show Kd.M (Kd.int .i64) _ _ _ 105 [.int .i64 105] from rfl) (Reps.one (show Kd.M (Kd.int .i64) _ _ _ 105 [.int .i64 105] from rfl) (Reps.none _ _)))); intro v401 w49 ho50 hb hg_ hnew_; clear hg_ hnew_; (first | rw [← Ny400.out] at ho50 | (simp only [Int.reduceToNat] at ho50; rw [← Ny400.out] at ho50)); have HO402 := Am (Kd.R_lower (Kd.R_new' ho50 (Kd.R_lt (by (with_reducible repeat (first | apply Kd.R_alloc | apply Kd.R_drewN | apply Kd.R_drew)); exact (Kd.R_mono (Kd.R_far (p := ⟨gb399, 3, none⟩) (Kd.R_far (p := ⟨gb399, 2, none⟩) (Kd.R_far (p := ⟨gb399, 1, none⟩) (Kd.R_far (p := ⟨gb399, 0, none⟩) (Kd.R_types HO383.out BK399.out (by decide)) (fun _ hk => hk.2) (.int .i64 t393)) (fun _ hk => hk.2) (.int .i64 t394)) (fun _ hk => hk.2) (.int .i64 t395)) (fun _ hk => hk.2) (.string t396)) (fun _ h_ => h_.1))))) (below_size (by repeat (first | (with_reducible first | exact HB.out | apply bl | apply pN | apply b1 | refine bs ?_ GE369.out | refine bs ?_ GE377.out | refine bs ?_ GE392.out | refine bs ?_ GE399.out) | exact HB.out | exact HBo.out)))); replace HO367 := Am (Kd.S_elder' (by (with_reducible repeat (first | apply Kd.S_alloc | apply Kd.S_drewN | apply Kd.S_drew)); exact (Kd.S_mono (Kd.S_far (p := ⟨gb399, 3, none⟩) (Kd.S_far (p := ⟨gb399, 2, none⟩) (Kd.S_far (p := ⟨gb399, 1, none⟩) (Kd.S_far (p := ⟨gb399, 0, none⟩) (Kd.S_types HO367.out BK399.out (by decide)) (fun _ hk => hk.2) (.int .i64 t393)) (fun _ hk => hk.2) (.int .i64 t394)) (fun _ hk => hk.2) (.int .i64 t395)) (fun _ hk => hk.2) (.string t396)) (fun _ h_ => h_.1))) (Kd.R_base ho50) hb); replace HO380 := Am (Kd.S_elder' (by (with_reducible repeat (first | apply Kd.S_alloc | apply Kd.S_drewN | apply Kd.S_drew)); exact (Kd.S_mono (Kd.S_far (p := ⟨gb399, 3, none⟩) (Kd.S_far (p := ⟨gb399, 2, none⟩) (Kd.S_far (p := ⟨gb399, 1, none⟩) (Kd.S_far (p := ⟨gb399, 0, none⟩) (Kd.S_types HO380.out BK399.out (by decide)) (fun _ hk => hk.2) (.int .i64 t393)) (fun _ hk => hk.2) (.int .i64 t394)) (fun _ hk => hk.2) (.int .i64 t395)) (fun _ hk => hk.2) (.string t396)) (fun _ h_ => h_.1))) (Kd.R_base ho50) hb); replace HO383 := Am (Kd.R_elder' (by (with_reducible repeat (first | apply Kd.R_alloc | apply Kd.R_drewN | apply Kd.R_drew)); exact (Kd.R_mono (Kd.R_far (p := ⟨gb399, 3, none⟩) (Kd.R_far (p := ⟨gb399, 2, none⟩) (Kd.R_far (p := ⟨gb399, 1, none⟩) (Kd.R_far (p := ⟨gb399, 0, none⟩) (Kd.R_types HO383.out BK399.out (by decide)) (fun _ hk => hk.2) (.int .i64 t393)) (fun _ hk => hk.2) (.int .i64 t394)) (fun _ hk => hk.2) (.int .i64 t395)) (fun _ hk => hk.2) (.string t396)) (fun _ h_ => h_.1))) (Kd.R_base ho50) hb); replace BK369 := Am (blk_below (g := gb369) (o := .cells #[.int .i64 1, .int .i64 2, .int .i64 100, .string t368] 23 (0, 0)) (by (with_reducible repeat (first|apply bn|apply bd|apply ba)); refine blk_far ?_ NB369_399.out _; (with_reducible repeat (first|apply bn|apply bd|apply ba)); refine blk_far ?_ NB369_399.out _; (with_reducible repeat (first|apply bn|apply bd|apply ba)); refine blk_far ?_ NB369_399.out _; (with_reducible repeat (first|apply bn|apply bd|apply ba)); refine blk_far ?_ NB369_399.out _; (with_reducible repeat (first|apply bn|apply bd|apply ba)); exact BK369.out) hb); replace BK377 := Am (blk_below (g := gb377) (o := .cells #[.int .i64 t371, .int .i64 t372, .int .i64 t373, .string t374] 23 (0, 0)) (by (with_reducible repeat (first|apply bn|apply bd|apply ba)); refine blk_far ?_ NB377_399.out _; (with_reducible repeat (first|apply bn|apply bd|apply ba)); refine blk_far ?_ NB377_399.out _; (with_reducible repeat (first|apply bn|apply bd|apply ba)); refine blk_far ?_ NB377_399.out _; (with_reducible repeat (first|apply bn|apply bd|apply ba)); refine blk_far ?_ NB377_399.out _; (with_reducible repeat (first|apply bn|apply bd|apply ba)); exact BK377.out) hb); replace BK392 := Am (blk_below (g := gb392) (o := .cells #[.int .i64 t386, .int .i64 t387, .int .i64 t388, .string t389] 23 (0, 0)) (by (with_reducible repeat (first|apply bn|apply bd|apply ba)); refine blk_far ?_ NB392_399.out _; (with_reducible repeat (first|apply bn|apply bd|apply ba)); refine blk_far ?_ NB392_399.out _; (with_reducible repeat (first|apply bn|apply bd|apply ba)); refine blk_far ?_ NB392_399.out _; (with_reducible repeat (first|apply bn|apply bd|apply ba)); refine blk_far ?_ NB392_399.out _; (with_reducible repeat (first|apply bn|apply bd|apply ba)); exact BK392.out) hb); replace BK399 := Am (blk_below (g := gb399) (o := .cells #[.int .i64 t393, .int .i64 t394, .int .i64 t395, .string t396] 23 (0, 0)) (by (with_reducible repeat (first|apply bn|apply bd|apply ba)); refine blk_put (cs := #[.int .i64 t393, .int .i64 t394, .int .i64 t395, .string (⟨#[]⟩ : ByteArray)]) ?_ 3 _ rfl; (with_reducible repeat (first|apply bn|apply bd|apply ba)); refine blk_put (cs := #[.int .i64 t393, .int .i64 t394, .int .i64 0, .string (⟨#[]⟩ : ByteArray)]) ?_ 2 _ rfl; (with_reducible repeat (first|apply bn|apply bd|apply ba)); refine blk_put (cs := #[.int .i64 t393, .int .i64 0, .int .i64 0, .string (⟨#[]⟩ : ByteArray)]) ?_ 1 _ rfl; (with_reducible repeat (first|apply bn|apply bd|apply ba)); refine blk_put (cs := #[.int .i64 0, .int .i64 0, .int .i64 0, .string (⟨#[]⟩ : ByteArray)]) ?_ 0 _ rfl; (with_reducible repeat (first|apply bn|apply bd|apply ba)); exact BK399.out) hb); replace HB := Am (below_step (by repeat (first | (with_reducible first | exact HB.out | apply bl | apply pN | apply b1 | refine bs ?_ GE369.out | refine bs ?_ GE377.out | refine bs ?_ GE392.out | refine bs ?_ GE399.out) | exact HB.out | exact HBo.out)) hb); clear hb ho50; obtain ⟨Ao51, co51, eo51⟩ := Kd.R_slice HO383.out; subst eo51; obtain ⟨Ao52, co52, eo52⟩ := Kd.R_slice HO402.out; subst eo52) | (go_at_call 18; (with_reducible refine (shuttlecockref01_Ints.calls k _ _ t381 _ _ y400 true _ ?side1 ?side2 ?side3 ?side4 A14.out).mono ?_); (case side1 => repeat (first | exact (Kd.R_reads' HO383.out).2.2 | (with_reducible refine Kd.C_alloc ?_ _) | (with_reducible refine Kd.C_drewN ?_ _) | (with_reducible refine Kd.C_drew ?_))); (case side2 => exact (Kd.R_reads' HO383.out).2.1); (case side3 => repeat (first | exact (Kd.R_reads' HO402.out).2.2 | (with_reducible refine Kd.C_alloc ?_ _) | (with_reducible refine Kd.C_drewN ?_ _) | (with_reducible refine Kd.C_drew ?_))); (case side4 => exact (Kd.R_reads' HO402.out).2.1); rintro e w' ⟨rfl, ⟨nd, rfl⟩⟩; have hcz53_0 := Own.bc2 BK369.out 0; have hcz53_1 := Own.bc2 BK369.out 1; have hcz53_2 := Own.bc2 BK369.out 2; have hcz53_3 := Own.bc2 BK369.out 3; have hfz53_0 := bf BK369.out 0; have hfz53_1 := bf BK369.out 1; have hfz53_2 := bf BK369.out 2; have hfz53_3 := bf BK369.out 3) | (go_at_call 13; (with_reducible refine (batch_May.calls 1 2 100 t368 true _ A19.out).mono ?_); rintro e w54 ⟨rfl, hb⟩; replace HO367 := Am (Kd.S_below (by (with_reducible repeat (first | apply Kd.S_alloc | apply Kd.S_drewN | apply Kd.S_drew)); exact HO367.out) hb); replace HO380 := Am (Kd.S_below (by (with_reducible repeat (first | apply Kd.S_alloc | apply Kd.S_drewN | apply Kd.S_drew)); exact HO380.out) hb); replace HO383 := Am (Kd.R_below (by (with_reducible repeat (first | apply Kd.R_alloc | apply Kd.R_drewN | apply Kd.R_drew)); exact HO383.out) hb); replace HO402 := Am (Kd.R_below (by (with_reducible repeat (first | apply Kd.R_alloc | apply Kd.R_drewN | apply Kd.R_drew)); exact HO402.out) hb); replace BK369 := Am (blk_below (g := gb369) (o := .cells #[.int .i64 1, .int .i64 2, .int .i64 100, .string t368] 23 (0, 0)) (by (with_reducible repeat (first|apply bn|apply bd|apply ba)); exact BK369.out) hb); replace BK377 := Am (blk_below (g := gb377) (o := .cells #[.int .i64 t371, .int .i64 t372, .int .i64 t373, .string t374] 23 (0, 0)) (by (with_reducible repeat (first|apply bn|apply bd|apply ba)); exact BK377.out) hb); replace BK392 := Am (blk_below (g := gb392) (o := .cells #[.int .i64 t386, .int .i64 t387, .int .i64 t388, .string t389] 23 (0, 0)) (by (with_reducible repeat (first|apply bn|apply bd|apply ba)); exact BK392.out) hb); replace BK399 := Am (blk_below (g := gb399) (o := .cells #[.int .i64 t393, .int .i64 t394, .int .i64 t395, .string t396] 23 (0, 0)) (by (with_reducible repeat (first|apply bn|apply bd|apply ba)); exact BK399.out) hb); replace HB := Am (below_step (by repeat (first | (with_reducible first | exact HB.out | apply bl | apply pN | apply b1 | refine bs ?_ GE369.out | refine bs ?_ GE377.out | refine bs ?_ GE392.out | refine bs ?_ GE399.out) | exact HB.out | exact HBo.out)) hb); clear hb) | (go_at_call 13; (with_reducible refine (batch_May.calls 0 0 0 (⟨#[]⟩ : ByteArray) t405 _ A21.out).mono ?_); rintro e w55 ⟨rfl, hb⟩; replace HO367 := Am (Kd.S_below (by (with_reducible repeat (first | apply Kd.S_alloc | apply Kd.S_drewN | apply Kd.S_drew)); exact HO367.out) hb); replace HO380 := Am (Kd.S_below (by (with_reducible repeat (first | apply Kd.S_alloc | apply Kd.S_drewN | apply Kd.S_drew)); exact HO380.out) hb); replace HO383 := Am (Kd.R_below (by (with_reducible repeat (first | apply Kd.R_alloc | apply Kd.R_drewN | apply Kd.R_drew)); exact HO383.out) hb); replace HO402 := Am (Kd.R_below (by (with_reducible repeat (first | apply Kd.R_alloc | apply Kd.R_drewN | apply Kd.R_drew)); exact HO402.out) hb); replace BK369 := Am (blk_below (g := gb369) (o := .cells #[.int .i64 1, .int .i64 2, .int .i64 100, .string t368] 23 (0, 0)) (by (with_reducible repeat (first|apply bn|apply bd|apply ba)); exact BK369.out) hb); replace BK377 := Am (blk_below (g := gb377) (o := .cells #[.int .i64 t371, .int .i64 t372, .int .i64 t373, .string t374] 23 (0, 0)) (by (with_reducible repeat (first|apply bn|apply bd|apply ba)); exact BK377.out) hb); replace BK392 := Am (blk_below (g := gb392) (o := .cells #[.int .i64 t386, .int .i64 t387, .int .i64 t388, .string t389] 23 (0, 0)) (by (with_reducible repeat (first|apply bn|apply bd|apply ba)); exact BK392.out) hb); replace BK399 := Am (blk_below (g := gb399) (o := .cells #[.int .i64 t393, .int .i64 t394, .int .i64 t395, .string t396] 23 (0, 0)) (by (with_reducible repeat (first|apply bn|apply bd|apply ba)); exact BK399.out) hb); replace HB := Am (below_step (by repeat (first | (with_reducible first | exact HB.out | apply bl | apply pN | apply b1 | refine bs ?_ GE369.out | refine bs ?_ GE377.out | refine bs ?_ GE392.out | refine bs ?_ GE399.out) | exact HB.out | exact HBo.out)) hb); clear hb))
             go_ret
             exact ⟨by first | rfl | (simp <;> rfl) | (simp [*] <;> rfl) | (simp [Aid.ne_nil, Aid.eq_nil]; done), by repeat (first | (with_reducible first | exact HB.out | apply bl | apply pN | apply b1 | refine bs ?_ GE369.out | refine bs ?_ GE377.out | refine bs ?_ GE392.out | refine bs ?_ GE399.out) | exact HB.out | exact HBo.out)⟩
            ·
             replace c20 := Bool.eq_false_iff.mpr c20
             subst c20
             rw [if_neg (show ¬ (false = true) by decide)] at H
             exact absurd H (by simp)
           ·
            rw [if_neg c18] at H
            exact absurd H (by simp)
          ·
           rw [if_neg c17] at H
           exact absurd H (by simp)
         ·
          rw [if_neg c16] at H
          exact absurd H (by simp)
        ·
         replace c15 := Bool.eq_false_iff.mpr c15
         subst c15
         rw [if_neg (show ¬ (false = true) by decide)] at H
         exact absurd H (by simp)
       ·
        rw [if_neg c13] at H
        exact absurd H (by simp)
      ·
       rw [if_neg c12] at H
       exact absurd H (by simp)
     ·
      rw [if_neg c11] at H
      exact absurd H (by simp)
    ·
     rw [if_neg c10] at H
     exact absurd H (by simp)
   ·
    rw [if_neg c9] at H
    exact absurd H (by simp)
  ·
   rw [if_neg c8] at H
   exact absurd H (by simp)
 ·
  rw [if_neg c3] at H
  exact absurd H (by simp)

/-! ### shuttlecockref05_May: function 14 -/
def shuttlecockref05_May.f (a0_0 : Int) (a0_1 : Int) (a0_2 : Int) (a0_3 : ByteArray) : Option (Bool) := if a0_0 ≥ 1 then ((shuttlecockref04_Fits.f a0_0).bind fun t407 => (if t407 = true then ((shuttlecockref04_Fits.f a0_1).bind fun t408 => (if t408 = true then ((shuttlecockref04_Fits.f a0_2).bind fun t409 => (if t409 = true then (some (decide ((a0_3.size : Int) ≤ 65536))) else (some false))) else (some false))) else (some false))) else (some false)
set_option maxHeartbeats 8000000 in
set_option maxRecDepth 100000 in
theorem shuttlecockref05_May.calls (a0_0 : Int) (a0_1 : Int) (a0_2 : Int) (a0_3 : ByteArray) (r : Bool) (w : World) (h : shuttlecockref05_May.f a0_0 a0_1 a0_2 a0_3 = some r) :
  Calls Try.prog 14 #[.agg #[.int .i64 a0_0, .int .i64 a0_1, .int .i64 a0_2, .string a0_3]] w fun e w' => e = .returned (.bool r) ∧ Below w.heap.size w w' := by
 have hu23 := Try.underlying23
 have HB := Am (Below.refl w.heap.size w)
 have H : (if a0_0 ≥ 1 then ((shuttlecockref04_Fits.f a0_0).bind fun t407 => (if t407 = true then ((shuttlecockref04_Fits.f a0_1).bind fun t408 => (if t408 = true then ((shuttlecockref04_Fits.f a0_2).bind fun t409 => (if t409 = true then (some (decide ((a0_3.size : Int) ≤ 65536))) else (some false))) else (some false))) else (some false))) else (some false)) = some r := h
 clear h
 by_cases c2 : a0_0 ≥ 1
 ·
  rw [if_pos c2] at H
  have c2b0 : decide (1 ≤ a0_0) = true := decide_eq_true c2
  clear c2
  replace H := ob H
  obtain ⟨t407, A30, H⟩ := H
  (try dsimp only at H)
  have A3 := Am A30
  clear A30
  by_cases c4 : t407 = true
  ·
   subst c4
   rw [if_pos rfl] at H
   replace H := ob H
   obtain ⟨t408, A50, H⟩ := H
   (try dsimp only at H)
   have A5 := Am A50
   clear A50
   by_cases c6 : t408 = true
   ·
    subst c6
    rw [if_pos rfl] at H
    replace H := ob H
    obtain ⟨t409, A70, H⟩ := H
    (try dsimp only at H)
    have A7 := Am A70
    clear A70
    by_cases c8 : t409 = true
    ·
     subst c8
     rw [if_pos rfl] at H
     obtain rfl := Option.some.inj H
     go_enter Try.func14, Try.ntmps14
     go_wp2_with (first | ((with_reducible refine gate_dst (N := 1) rfl ?_); (try (refine gate_guard (by rfl) ?_; dsimp only)); refine box_event ?hg (N := 1) ?hd (cs := #[.int .i64 a0_0, .int .i64 a0_1, .int .i64 a0_2, .string a0_3]) (t := 23) ?hr ?_; (case hd => rfl); (case hg => rfl); (case hr => first | (go_simp; done) | (go_simp; rfl)); intro gb406 hg w9 hbox hb; have BK406 := Am (hbox); have GW406 := Am ((by rw [hg]; exact (below_size (by repeat (first | (with_reducible first | exact HB.out | apply bl | apply pN | apply b1) | exact HB.out | exact HBo.out))) : w.heap.size ≤ gb406)); have GE406 := GW406; replace HB := Am (below_step (by repeat (first | (with_reducible first | exact HB.out | apply bl | apply pN | apply b1) | exact HB.out | exact HBo.out)) hb); clear hb hbox hg; have hcz10_0 := Own.bc2 BK406.out 0; have hcz10_1 := Own.bc2 BK406.out 1; have hcz10_2 := Own.bc2 BK406.out 2; have hcz10_3 := Own.bc2 BK406.out 3; have hfz10_0 := bf BK406.out 0; have hfz10_1 := bf BK406.out 1; have hfz10_2 := bf BK406.out 2; have hfz10_3 := bf BK406.out 3) | (go_at_call 32; (with_reducible refine (shuttlecockref04_Fits.calls a0_0 true _ A3.out).mono ?_); rintro e w' ⟨rfl, ⟨nd, rfl⟩⟩) | (go_at_call 32; (with_reducible refine (shuttlecockref04_Fits.calls a0_1 true _ A5.out).mono ?_); rintro e w' ⟨rfl, ⟨nd, rfl⟩⟩) | (go_at_call 32; (with_reducible refine (shuttlecockref04_Fits.calls a0_2 true _ A7.out).mono ?_); rintro e w' ⟨rfl, ⟨nd, rfl⟩⟩))
     go_ret
     exact ⟨by first | rfl | (simp <;> rfl) | (simp [*] <;> rfl) | (simp [Aid.ne_nil, Aid.eq_nil]; done), by repeat (first | (with_reducible first | exact HB.out | apply bl | apply pN | apply b1 | refine bs ?_ GE406.out) | exact HB.out | exact HBo.out)⟩
    ·
     replace c8 := Bool.eq_false_iff.mpr c8
     subst c8
     rw [if_neg (show ¬ (false = true) by decide)] at H
     obtain rfl := Option.some.inj H
     go_enter Try.func14, Try.ntmps14
     go_wp2_with (first | ((with_reducible refine gate_dst (N := 1) rfl ?_); (try (refine gate_guard (by rfl) ?_; dsimp only)); refine box_event ?hg (N := 1) ?hd (cs := #[.int .i64 a0_0, .int .i64 a0_1, .int .i64 a0_2, .string a0_3]) (t := 23) ?hr ?_; (case hd => rfl); (case hg => rfl); (case hr => first | (go_simp; done) | (go_simp; rfl)); intro gb406 hg w11 hbox hb; have BK406 := Am (hbox); have GW406 := Am ((by rw [hg]; exact (below_size (by repeat (first | (with_reducible first | exact HB.out | apply bl | apply pN | apply b1) | exact HB.out | exact HBo.out))) : w.heap.size ≤ gb406)); have GE406 := GW406; replace HB := Am (below_step (by repeat (first | (with_reducible first | exact HB.out | apply bl | apply pN | apply b1) | exact HB.out | exact HBo.out)) hb); clear hb hbox hg; have hcz12_0 := Own.bc2 BK406.out 0; have hcz12_1 := Own.bc2 BK406.out 1; have hcz12_2 := Own.bc2 BK406.out 2; have hcz12_3 := Own.bc2 BK406.out 3; have hfz12_0 := bf BK406.out 0; have hfz12_1 := bf BK406.out 1; have hfz12_2 := bf BK406.out 2; have hfz12_3 := bf BK406.out 3) | (go_at_call 32; (with_reducible refine (shuttlecockref04_Fits.calls a0_0 true _ A3.out).mono ?_); rintro e w' ⟨rfl, ⟨nd, rfl⟩⟩) | (go_at_call 32; (with_reducible refine (shuttlecockref04_Fits.calls a0_1 true _ A5.out).mono ?_); rintro e w' ⟨rfl, ⟨nd, rfl⟩⟩) | (go_at_call 32; (with_reducible refine (shuttlecockref04_Fits.calls a0_2 false _ A7.out).mono ?_); rintro e w' ⟨rfl, ⟨nd, rfl⟩⟩))
     go_ret
     exact ⟨by first | rfl | (simp <;> rfl) | (simp [*] <;> rfl) | (simp [Aid.ne_nil, Aid.eq_nil]; done), by repeat (first | (with_reducible first | exact HB.out | apply bl | apply pN | apply b1 | refine bs ?_ GE406.out) | exact HB.out | exact HBo.out)⟩
   ·
    replace c6 := Bool.eq_false_iff.mpr c6
    subst c6
    rw [if_neg (show ¬ (false = true) by decide)] at H
    obtain rfl := Option.some.inj H
    go_enter Try.func14, Try.ntmps14
    go_wp2_with (first | ((with_reducible refine gate_dst (N := 1) rfl ?_); (try (refine gate_guard (by rfl) ?_; dsimp only)); refine box_event ?hg (N := 1) ?hd (cs := #[.int .i64 a0_0, .int .i64 a0_1, .int .i64 a0_2, .string a0_3]) (t := 23) ?hr ?_; (case hd => rfl); (case hg => rfl); (case hr => first | (go_simp; done) | (go_simp; rfl)); intro gb406 hg w13 hbox hb; have BK406 := Am (hbox); have GW406 := Am ((by rw [hg]; exact (below_size (by repeat (first | (with_reducible first | exact HB.out | apply bl | apply pN | apply b1) | exact HB.out | exact HBo.out))) : w.heap.size ≤ gb406)); have GE406 := GW406; replace HB := Am (below_step (by repeat (first | (with_reducible first | exact HB.out | apply bl | apply pN | apply b1) | exact HB.out | exact HBo.out)) hb); clear hb hbox hg; have hcz14_0 := Own.bc2 BK406.out 0; have hcz14_1 := Own.bc2 BK406.out 1; have hcz14_2 := Own.bc2 BK406.out 2; have hcz14_3 := Own.bc2 BK406.out 3; have hfz14_0 := bf BK406.out 0; have hfz14_1 := bf BK406.out 1; have hfz14_2 := bf BK406.out 2; have hfz14_3 := bf BK406.out 3) | (go_at_call 32; (with_reducible refine (shuttlecockref04_Fits.calls a0_0 true _ A3.out).mono ?_); rintro e w' ⟨rfl, ⟨nd, rfl⟩⟩) | (go_at_call 32; (with_reducible refine (shuttlecockref04_Fits.calls a0_1 false _ A5.out).mono ?_); rintro e w' ⟨rfl, ⟨nd, rfl⟩⟩))
    go_ret
    exact ⟨by first | rfl | (simp <;> rfl) | (simp [*] <;> rfl) | (simp [Aid.ne_nil, Aid.eq_nil]; done), by repeat (first | (with_reducible first | exact HB.out | apply bl | apply pN | apply b1 | refine bs ?_ GE406.out) | exact HB.out | exact HBo.out)⟩
  ·
   replace c4 := Bool.eq_false_iff.mpr c4
   subst c4
   rw [if_neg (show ¬ (false = true) by decide)] at H
   obtain rfl := Option.some.inj H
   go_enter Try.func14, Try.ntmps14
   go_wp2_with (first | ((with_reducible refine gate_dst (N := 1) rfl ?_); (try (refine gate_guard (by rfl) ?_; dsimp only)); refine box_event ?hg (N := 1) ?hd (cs := #[.int .i64 a0_0, .int .i64 a0_1, .int .i64 a0_2, .string a0_3]) (t := 23) ?hr ?_; (case hd => rfl); (case hg => rfl); (case hr => first | (go_simp; done) | (go_simp; rfl)); intro gb406 hg w15 hbox hb; have BK406 := Am (hbox); have GW406 := Am ((by rw [hg]; exact (below_size (by repeat (first | (with_reducible first | exact HB.out | apply bl | apply pN | apply b1) | exact HB.out | exact HBo.out))) : w.heap.size ≤ gb406)); have GE406 := GW406; replace HB := Am (below_step (by repeat (first | (with_reducible first | exact HB.out | apply bl | apply pN | apply b1) | exact HB.out | exact HBo.out)) hb); clear hb hbox hg; have hcz16_0 := Own.bc2 BK406.out 0; have hcz16_1 := Own.bc2 BK406.out 1; have hcz16_2 := Own.bc2 BK406.out 2; have hcz16_3 := Own.bc2 BK406.out 3; have hfz16_0 := bf BK406.out 0; have hfz16_1 := bf BK406.out 1; have hfz16_2 := bf BK406.out 2; have hfz16_3 := bf BK406.out 3) | (go_at_call 32; (with_reducible refine (shuttlecockref04_Fits.calls a0_0 false _ A3.out).mono ?_); rintro e w' ⟨rfl, ⟨nd, rfl⟩⟩))
   go_ret
   exact ⟨by first | rfl | (simp <;> rfl) | (simp [*] <;> rfl) | (simp [Aid.ne_nil, Aid.eq_nil]; done), by repeat (first | (with_reducible first | exact HB.out | apply bl | apply pN | apply b1 | refine bs ?_ GE406.out) | exact HB.out | exact HBo.out)⟩
 ·
  rw [if_neg c2] at H
  have c2b0 : decide (1 ≤ a0_0) = false := decide_eq_false c2
  clear c2
  obtain rfl := Option.some.inj H
  go_enter Try.func14, Try.ntmps14
  go_wp2_with (first | ((with_reducible refine gate_dst (N := 1) rfl ?_); (try (refine gate_guard (by rfl) ?_; dsimp only)); refine box_event ?hg (N := 1) ?hd (cs := #[.int .i64 a0_0, .int .i64 a0_1, .int .i64 a0_2, .string a0_3]) (t := 23) ?hr ?_; (case hd => rfl); (case hg => rfl); (case hr => first | (go_simp; done) | (go_simp; rfl)); intro gb406 hg w17 hbox hb; have BK406 := Am (hbox); have GW406 := Am ((by rw [hg]; exact (below_size (by repeat (first | (with_reducible first | exact HB.out | apply bl | apply pN | apply b1) | exact HB.out | exact HBo.out))) : w.heap.size ≤ gb406)); have GE406 := GW406; replace HB := Am (below_step (by repeat (first | (with_reducible first | exact HB.out | apply bl | apply pN | apply b1) | exact HB.out | exact HBo.out)) hb); clear hb hbox hg; have hcz18_0 := Own.bc2 BK406.out 0; have hcz18_1 := Own.bc2 BK406.out 1; have hcz18_2 := Own.bc2 BK406.out 2; have hcz18_3 := Own.bc2 BK406.out 3; have hfz18_0 := bf BK406.out 0; have hfz18_1 := bf BK406.out 1; have hfz18_2 := bf BK406.out 2; have hfz18_3 := bf BK406.out 3))
  go_ret
  exact ⟨by first | rfl | (simp <;> rfl) | (simp [*] <;> rfl) | (simp [Aid.ne_nil, Aid.eq_nil]; done), by repeat (first | (with_reducible first | exact HB.out | apply bl | apply pN | apply b1 | refine bs ?_ GE406.out) | exact HB.out | exact HBo.out)⟩

end Go.Proofs.Ytfcombimnmkoeaa.Q
