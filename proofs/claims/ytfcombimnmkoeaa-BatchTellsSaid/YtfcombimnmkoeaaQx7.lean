-- printed by a program of this session (NOTES: hprint); not the kit's print
-- minified3
-- minified2
-- minified
-- halved
import Derived.Test.YtfcombimnmkoeaaOg
import Derived.Test.YtfcombimnmkoeaaAl
import Derived.Test.YtfcombimnmkoeaaQx0
import Derived.Test.YtfcombimnmkoeaaQx6
namespace Go.Proofs.Ytfcombimnmkoeaa.Q
open Go.RowKit Go.Proofs.YtfcombimnmkoeaaW.PrintWords Go.Proofs.YtfcombimnmkoeaaW.PrintLast Go.Proofs.YtfcombimnmkoeaaW.PrintMore
attribute [local go_sem] max2_int min2_int max_two min_two max_three min_three max_four min_four   -- for this text's walks alone
set_option linter.unusedVariables false
set_option linter.unusedSimpArgs false

def q7_0 : Array Bool := let o := true; let z := false; #[z,z,z,z,z,z,z,z,z,z,z,z,z,z,z,z,z,z,z]
def q7_1 : Array Bool := let o := true; let z := false; #[o,z,z,z,z,z,z,z,z,z,z,z,z,z,z,z,z,z,z]
def q7_2 : Array Bool := let o := true; let z := false; #[o,o,z,z,z,z,z,z,z,z,z,z,z,z,z,z,z,z,z]
def q7_3 : Array Bool := let o := true; let z := false; #[o,o,o,z,z,z,z,z,z,z,z,z,z,z,z,z,z,z,z]
def q7_4 : Array Bool := let o := true; let z := false; #[o,o,o,o,z,z,z,z,z,z,z,z,z,z,z,z,z,z,z]
def q7_5 : Array Bool := let o := true; let z := false; #[o,o,o,o,o,z,z,z,z,z,z,z,z,z,z,z,z,z,z]
def q7_6 : Array Bool := let o := true; let z := false; #[o,o,o,o,o,z,z,o,z,z,z,z,z,z,z,z,z,z,z]
def q7_7 : Array Bool := let o := true; let z := false; #[o,o,o,o,o,o,z,o,z,z,z,z,z,z,z,z,z,z,z]
def q7_8 : Array Bool := let o := true; let z := false; #[o,o,o,o,o,o,o,o,z,z,z,z,z,z,z,z,z,z,z]
def q7_9 : Array Bool := let o := true; let z := false; #[o,o,o,o,o,o,o,o,o,z,z,z,z,z,z,z,z,z,z]
def q7_10 : Array Bool := let o := true; let z := false; #[o,o,o,o,o,o,o,o,o,o,z,z,z,z,z,z,z,z,z]
def q7_11 : Array Bool := let o := true; let z := false; #[o,o,o,o,o,o,o,o,o,o,o,z,z,z,z,z,z,z,z]
def q7_12 : Array Bool := let o := true; let z := false; #[o,o,o,o,o,o,o,o,o,o,o,o,z,z,z,z,z,z,z]
def q7_13 : Array Bool := let o := true; let z := false; #[o,o,o,o,o,o,o,o,o,o,o,o,o,z,z,z,z,z,z]
def q7_14 : Array Bool := let o := true; let z := false; #[o,o,o,o,o,o,o,o,o,o,o,o,o,o,z,z,z,z,z]
def q7_15 : Array Bool := let o := true; let z := false; #[o,o,o,o,o,o,o,o,o,o,o,o,o,o,o,z,z,z,z]
def q7_16 : Array Bool := let o := true; let z := false; #[o,o,o,o,o,o,o,o,o,o,o,o,o,o,o,o,z,z,z]
def q7_17 : Array Bool := let o := true; let z := false; #[o,o,o,o,o,o,o,o,o,o,o,o,o,o,o,o,o,z,z]
def q7_18 : Array Bool := let o := true; let z := false; #[o,o,o,o,o,o,o,o,o,o,o,o,o,o,o,o,o,o,z]
def q7_19 : Array Bool := let o := true; let z := false; #[o,o,o,o,o,o,o,o,o,o,o,o,o,o,o,o,o,o,o]
/-! ### shuttlecockref04_May: function 21 -/
def shuttlecockref04_May.l0 : Nat → Int → Int → Int → List Int → ByteArray → Option (Bool)
 | 0, _, _, _, _, _ => none
 | k + 1, x3, x332000, x332001, x332002, x332003 => if x3 < (x332002.length : Int) then (if 0 ≤ x3 then ((shuttlecockref04_Fits.f (rd x332002 x3)).bind fun t335 => (if t335 = true then (shuttlecockref04_May.l0 k (wrap64 (x3 + 1)) x332000 x332001 x332002 x332003) else (some false))) else (none)) else ((shuttlecockref03_Known.f x332000).bind fun t336 => (if t336 = true then ((shuttlecockref03_Args.f k x332000).bind fun t337 => (if (x332002.length : Int) = (t337.length : Int) then (some (x332003.toList == ([] : List UInt8))) else (some false))) else (some false)))
def shuttlecockref04_May.f (k : Nat) (a0_0 : Int) (a0_1 : Int) (l0_2 : List Int) (a0_3 : ByteArray) : Option (Bool) := (shuttlecockref04_Fits.f a0_1).bind fun t332 => (if t332 = true then ((shuttlecockref03_Exp.f a0_0).bind fun t333 => (if t333 = true then (some ((l0_2.length : Int) == 0)) else (shuttlecockref04_May.l0 k 0 a0_0 a0_1 l0_2 a0_3))) else (some false))
theorem shuttlecockref04_May.mono_l : ∀ k, (∀ y0 y1 y2 y3 y4, LeO (shuttlecockref04_May.l0 k y0 y1 y2 y3 y4) (shuttlecockref04_May.l0 (k + 1) y0 y1 y2 y3 y4))
 | 0 => fun _ _ _ _ _ r h => by simp [shuttlecockref04_May.l0] at h
 | k + 1 => by
  have ih0 := shuttlecockref04_May.mono_l k
  ·
   intro y0 y1 y2 y3 y4
   unfold shuttlecockref04_May.l0
   repeat' first
   | (with_reducible exact ih0 _ _ _ _ _)
   | (with_reducible exact shuttlecockref03_Args.mono _ _)
   | (with_reducible exact LeO.refl _)
   | (with_reducible exact LeO.none _)
   | (with_reducible refine LeO.ite ?_ ?_)
   | (with_reducible refine LeO.bind ?_ (fun _ => ?_))
   | exact LeO.none _
   | refine LeO.ite ?_ ?_
   | refine LeO.bind ?_ (fun _ => ?_)
theorem shuttlecockref04_May.mono : ∀ a0 a1 a2 a3 k, LeO (shuttlecockref04_May.f k a0 a1 a2 a3) (shuttlecockref04_May.f (k + 1) a0 a1 a2 a3) := by
 intro a0 a1 a2 a3 k
 have ih0 := shuttlecockref04_May.mono_l k
 unfold shuttlecockref04_May.f
 repeat' first
   | (with_reducible exact ih0 _ _ _ _ _)
   | (with_reducible exact shuttlecockref03_Args.mono _ _)
   | (with_reducible exact LeO.refl _)
   | (with_reducible exact LeO.none _)
   | (with_reducible refine LeO.ite ?_ ?_)
   | (with_reducible refine LeO.bind ?_ (fun _ => ?_))
   | exact LeO.none _
   | refine LeO.ite ?_ ?_
   | refine LeO.bind ?_ (fun _ => ?_)
def shuttlecockref04_May.T10 : Bool × List (List Nat × List Nat) := (true, [([], []), ([0], [0]), ([1], [1]), ([2, 2], [2]), ([3], [3]), ([4, 3], [3, 4]), ([5, 3], [3, 5]), ([3], [3]), ([7, 3], [3, 7]), ([8, 3, 3], [3, 8]), ([9, 3], [3, 9]), ([6, 10, 3], [3, 6, 10]), ([3, 11], [3, 11]), ([12, 9], [12]), ([13], [13]), ([14, 13], [13, 14]), ([15, 13], [13, 15]), ([13, 16], [13, 16]), ([17, 13, 0, 1, 2, 3, 4, 5, 6, 7, 8, 9, 10, 11, 12, 13, 14, 15, 16, 17], [17])])
def shuttlecockref04_May.B10 : List Nat := [0, 1, 3, 7, 15, 31, 63, 15, 143, 399, 911, 2047, 4095, 8191, 16383, 32767, 65535, 131071, 262143]
theorem shuttlecockref04_May.tab10 : rtab .any (opsOf Try.f21 10) = shuttlecockref04_May.T10 := by kernel_rfl
theorem shuttlecockref04_May.bits10 : waitsOk shuttlecockref04_May.T10.2 shuttlecockref04_May.B10 = true := by kernel_rfl
set_option maxHeartbeats 8000000 in
set_option maxRecDepth 100000 in
theorem shuttlecockref04_May.calls (k : Nat) (a0_0 : Int) (a0_1 : Int) (A0_2 : Option Addr) (c0_2 : Nat) (l0_2 : List Int) (a0_3 : ByteArray) (r : Bool) (w : World) (hr0_2 : Kd.C (Kd.int .i64) w A0_2 l0_2.length l0_2) (hc0_2 : l0_2.length ≤ c0_2) (h : shuttlecockref04_May.f k a0_0 a0_1 l0_2 a0_3 = some r) :
  Calls Try.prog 21 #[.agg #[.int .i64 a0_0, .int .i64 a0_1, .slice A0_2 l0_2.length c0_2, .string a0_3]] w fun e w' => e = .returned (.bool r) ∧ Below w.heap.size w w' := by
 have hu41 := Try.underlying41
 have HR0_2 := Am hr0_2
 have HC0_2 := Am hc0_2
 clear hr0_2 hc0_2
 have HB := Am (Below.refl w.heap.size w)
 have H : ((shuttlecockref04_Fits.f a0_1).bind fun t332 => (if t332 = true then ((shuttlecockref03_Exp.f a0_0).bind fun t333 => (if t333 = true then (some ((l0_2.length : Int) == 0)) else (shuttlecockref04_May.l0 k 0 a0_0 a0_1 l0_2 a0_3))) else (some false))) = some r := h
 clear h
 replace H := ob H
 obtain ⟨t332, A20, H⟩ := H
 (try dsimp only at H)
 have A2 := Am A20
 clear A20
 by_cases c3 : t332 = true
 ·
  subst c3
  rw [if_pos rfl] at H
  replace H := ob H
  obtain ⟨t333, A40, H⟩ := H
  (try dsimp only at H)
  have A4 := Am A40
  clear A40
  by_cases c5 : t333 = true
  ·
   subst c5
   rw [if_pos rfl] at H
   obtain rfl := Option.some.inj H
   go_enter Try.func21, Try.ntmps21
   go_wp2_with (first | ((with_reducible refine gate_dst (N := 1) rfl ?_); (try (refine gate_guard (by rfl) ?_; dsimp only)); refine box_event ?hg (N := 1) ?hd (cs := #[.int .i64 a0_0, .int .i64 a0_1, .slice A0_2 l0_2.length c0_2, .string a0_3]) (t := 41) ?hr ?_; (case hd => rfl); (case hg => rfl); (case hr => first | (go_simp; done) | (go_simp; rfl)); intro gb331 hg w6 hbox hb; have BK331 := Am (hbox); have GW331 := Am ((by rw [hg]; exact (below_size (by repeat (first | (with_reducible first | exact HB.out | apply bl | apply pN | apply b1) | exact HB.out | exact HBo.out))) : w.heap.size ≤ gb331)); have GE331 := GW331; replace HB := Am (below_step (by repeat (first | (with_reducible first | exact HB.out | apply bl | apply pN | apply b1) | exact HB.out | exact HBo.out)) hb); clear hb hbox hg; have hcz7_0 := Own.bc2 BK331.out 0; have hcz7_1 := Own.bc2 BK331.out 1; have hcz7_2 := Own.bc2 BK331.out 2; have hcz7_3 := Own.bc2 BK331.out 3; have hfz7_0 := bf BK331.out 0; have hfz7_1 := bf BK331.out 1; have hfz7_2 := bf BK331.out 2; have hfz7_3 := bf BK331.out 3) | ((with_reducible refine gate_callee (f := 32) rfl ?_); refine Own.gL_ (some 6) Try.func32 (#[.int .i64 a0_1]) (h := ?_); (with_reducible refine (shuttlecockref04_Fits.calls a0_1 true _ A2.out).mono ?_); rintro e w' ⟨rfl, ⟨nd, rfl⟩⟩; refine ⟨_, rfl, ?_⟩) | ((with_reducible refine gate_callee (f := 40) rfl ?_); refine Own.gL_ (some 10) Try.func40 (#[.int .i64 a0_0]) (h := ?_); (with_reducible refine (shuttlecockref03_Exp.calls a0_0 true _ A4.out).mono ?_); rintro e w' ⟨rfl, ⟨nd, rfl⟩⟩; refine ⟨_, rfl, ?_⟩))
   go_ret
   exact ⟨by first | rfl | (simp <;> rfl) | (simp [*] <;> rfl) | (simp [Aid.ne_nil, Aid.eq_nil]; done), by repeat (first | (with_reducible first | exact HB.out | apply bl | apply pN | apply b1 | refine bs ?_ GE331.out) | exact HB.out | exact HBo.out)⟩
  ·
   replace c5 := Bool.eq_false_iff.mpr c5
   subst c5
   rw [if_neg (show ¬ (false = true) by decide)] at H
   have H' := Am H
   clear H
   go_enter Try.func21, Try.ntmps21
   go_wp2_with (first | ((with_reducible refine gate_dst (N := 1) rfl ?_); (try (refine gate_guard (by rfl) ?_; dsimp only)); refine box_event ?hg (N := 1) ?hd (cs := #[.int .i64 a0_0, .int .i64 a0_1, .slice A0_2 l0_2.length c0_2, .string a0_3]) (t := 41) ?hr ?_; (case hd => rfl); (case hg => rfl); (case hr => first | (go_simp; done) | (go_simp; rfl)); intro gb331 hg w8 hbox hb; have BK331 := Am (hbox); have GW331 := Am ((by rw [hg]; exact (below_size (by repeat (first | (with_reducible first | exact HB.out | apply bl | apply pN | apply b1) | exact HB.out | exact HBo.out))) : w.heap.size ≤ gb331)); have GE331 := GW331; replace HB := Am (below_step (by repeat (first | (with_reducible first | exact HB.out | apply bl | apply pN | apply b1) | exact HB.out | exact HBo.out)) hb); clear hb hbox hg; have hcz9_0 := Own.bc2 BK331.out 0; have hcz9_1 := Own.bc2 BK331.out 1; have hcz9_2 := Own.bc2 BK331.out 2; have hcz9_3 := Own.bc2 BK331.out 3; have hfz9_0 := bf BK331.out 0; have hfz9_1 := bf BK331.out 1; have hfz9_2 := bf BK331.out 2; have hfz9_3 := bf BK331.out 3) | ((with_reducible refine gate_callee (f := 32) rfl ?_); refine Own.gL_ (some 6) Try.func32 (#[.int .i64 a0_1]) (h := ?_); (with_reducible refine (shuttlecockref04_Fits.calls a0_1 true _ A2.out).mono ?_); rintro e w' ⟨rfl, ⟨nd, rfl⟩⟩; refine ⟨_, rfl, ?_⟩) | ((with_reducible refine gate_callee (f := 40) rfl ?_); refine Own.gL_ (some 10) Try.func40 (#[.int .i64 a0_0]) (h := ?_); (with_reducible refine (shuttlecockref03_Exp.calls a0_0 false _ A4.out).mono ?_); rintro e w' ⟨rfl, ⟨nd, rfl⟩⟩; refine ⟨_, rfl, ?_⟩))
   go_loopg [3] k (fun kq v3 w' => ∃ (x3_1 : Int), v3 = .int .i64 x3_1 ∧ Aside0 (shuttlecockref04_May.l0 kq x3_1 a0_0 a0_1 l0_2 a0_3 = some r) ∧ Aside0 (kq ≤ k) ∧ Aside0 (w'.heap[gb331]? = some (.cells #[.int .i64 a0_0, .int .i64 a0_1, (.slice A0_2 l0_2.length c0_2), .string a0_3] 41 (0, 0))) ∧ Aside0 (Below w.heap.size w w'))
   case atStart => exact ⟨(0), (by first | rfl | (simp; done) | (simp [*]; done)), H', ⟨Nat.le_refl _⟩, ⟨by (with_reducible repeat (first|apply bn|apply bd|apply ba)); exact BK331.out⟩, ⟨by repeat (first | (with_reducible first | exact HB.out | apply bl | apply pN | apply b1 | refine bs ?_ GE331.out) | exact HB.out | exact HBo.out)⟩⟩
   case round =>
    clear H'
    try clear c2
    try clear p2
    try clear c3
    try clear c4
    try clear c5
    try clear hcz7_0
    try clear hcz7_1
    try clear hcz7_2
    try clear hcz7_3
    try clear hcz9_0
    try clear hcz9_1
    try clear hcz9_2
    try clear hcz9_3
    try clear hfz7_0
    try clear hfz7_1
    try clear hfz7_2
    try clear hfz7_3
    try clear hfz9_0
    try clear hfz9_1
    try clear hfz9_2
    try clear hfz9_3
    obtain ⟨x3_1, rfl, HA, HK1, BK331, HB⟩ := hrel
    cases gk with
    | zero => exact absurd HA.out (by simp [shuttlecockref04_May.l0])
    | succ k1 =>
     have H := HA.out
     clear HA
     simp only [shuttlecockref04_May.l0] at H
     by_cases c10 : x3_1 < (l0_2.length : Int)
     ·
      rw [if_pos c10] at H
      have c10b0 : decide (x3_1 < (l0_2.length : Int)) = true := decide_eq_true c10
      clear c10
      by_cases c11 : 0 ≤ x3_1
      ·
       rw [if_pos c11] at H
       have c11b0 : decide (0 ≤ x3_1) = true := decide_eq_true c11
       clear c11
       replace H := ob H
       obtain ⟨t335, A120, H⟩ := H
       (try dsimp only at H)
       have A12 := Am A120
       clear A120
       by_cases c13 : t335 = true
       ·
        subst c13
        rw [if_pos rfl] at H
        have H' := Am H
        clear H
        have hcz14_0 := Own.bc2 BK331.out 0
        have hcz14_1 := Own.bc2 BK331.out 1
        have hcz14_2 := Own.bc2 BK331.out 2
        have hcz14_3 := Own.bc2 BK331.out 3
        have hfz14_0 := bf BK331.out 0
        have hfz14_1 := bf BK331.out 1
        have hfz14_2 := bf BK331.out 2
        have hfz14_3 := bf BK331.out 3
        have p334 : 0 ≤ (x3_1 : Int) := of_decide_eq_true (by first | (with_reducible assumption) | assumption)
        have q334 : x3_1 < (l0_2.length : Int) := of_decide_eq_true (by first | (with_reducible assumption) | assumption)
        obtain ⟨ad334, e334, hx334_0⟩ := Kd.at_int HR0_2.out x3_1 p334 q334
        cases e334
        replace hx334_0 := (HB.out.cell (World.block_lt_of_cell? w _ hx334_0)).trans hx334_0
        replace p334 := eq_true p334
        replace q334 := eq_true q334
        go_wp2_with (first | ((with_reducible refine gate_callee (f := 32) rfl ?_); refine Own.gL_ (some 27) Try.func32 (#[.int .i64 (rd l0_2 x3_1)]) (h := ?_); (with_reducible refine (shuttlecockref04_Fits.calls (rd l0_2 x3_1) true _ A12.out).mono ?_); rintro e w' ⟨rfl, ⟨nd, rfl⟩⟩; refine ⟨_, rfl, ?_⟩))
        go_roundg k1
        case measure => have := HK1.out; omega
        case rel => exact ⟨(wrap64 (x3_1 + 1)), (by first | rfl | (simp; done) | (simp [*]; done)), H', ⟨by have := HK1.out; omega⟩, ⟨by (with_reducible repeat (first|apply bn|apply bd|apply ba)); exact BK331.out⟩, ⟨by repeat (first | (with_reducible first | exact HB.out | apply bl | apply pN | apply b1 | refine bs ?_ GE331.out) | exact HB.out | exact HBo.out)⟩⟩
       ·
        replace c13 := Bool.eq_false_iff.mpr c13
        subst c13
        rw [if_neg (show ¬ (false = true) by decide)] at H
        obtain rfl := Option.some.inj H
        have hcz15_0 := Own.bc2 BK331.out 0
        have hcz15_1 := Own.bc2 BK331.out 1
        have hcz15_2 := Own.bc2 BK331.out 2
        have hcz15_3 := Own.bc2 BK331.out 3
        have hfz15_0 := bf BK331.out 0
        have hfz15_1 := bf BK331.out 1
        have hfz15_2 := bf BK331.out 2
        have hfz15_3 := bf BK331.out 3
        have p334 : 0 ≤ (x3_1 : Int) := of_decide_eq_true (by first | (with_reducible assumption) | assumption)
        have q334 : x3_1 < (l0_2.length : Int) := of_decide_eq_true (by first | (with_reducible assumption) | assumption)
        obtain ⟨ad334, e334, hx334_0⟩ := Kd.at_int HR0_2.out x3_1 p334 q334
        cases e334
        replace hx334_0 := (HB.out.cell (World.block_lt_of_cell? w _ hx334_0)).trans hx334_0
        replace p334 := eq_true p334
        replace q334 := eq_true q334
        go_wp2_with (first | ((with_reducible refine gate_callee (f := 32) rfl ?_); refine Own.gL_ (some 27) Try.func32 (#[.int .i64 (rd l0_2 x3_1)]) (h := ?_); (with_reducible refine (shuttlecockref04_Fits.calls (rd l0_2 x3_1) false _ A12.out).mono ?_); rintro e w' ⟨rfl, ⟨nd, rfl⟩⟩; refine ⟨_, rfl, ?_⟩))
        go_ret
        exact ⟨by first | rfl | (simp <;> rfl) | (simp [*] <;> rfl) | (simp [Aid.ne_nil, Aid.eq_nil]; done), by repeat (first | (with_reducible first | exact HB.out | apply bl | apply pN | apply b1 | refine bs ?_ GE331.out) | exact HB.out | exact HBo.out)⟩
      ·
       rw [if_neg c11] at H
       exact absurd H (by simp)
     ·
      rw [if_neg c10] at H
      have c10b0 : decide (x3_1 < (l0_2.length : Int)) = false := decide_eq_false c10
      clear c10
      replace H := ob H
      obtain ⟨t336, A160, H⟩ := H
      (try dsimp only at H)
      have A16 := Am A160
      clear A160
      by_cases c17 : t336 = true
      ·
       subst c17
       rw [if_pos rfl] at H
       replace H := ob H
       obtain ⟨t337, A180, H⟩ := H
       (try dsimp only at H)
       have A18 := Am A180
       clear A180
       by_cases c19 : (l0_2.length : Int) = (t337.length : Int)
       ·
        rw [if_pos c19] at H
        have c19b0 : ((l0_2.length : Int) == (t337.length : Int)) = true := beq_iff_eq.mpr c19
        have c19b1 : ((l0_2.length : Int) != (t337.length : Int)) = false := bne_eq_false_iff_eq.mpr c19
        have c19b2 : (l0_2.length == t337.length) = true := by first | simpa using c19 | (simp at c19 ⊢; omega)
        clear c19
        obtain rfl := Option.some.inj H
        have hcz20_0 := Own.bc2 BK331.out 0
        have hcz20_1 := Own.bc2 BK331.out 1
        have hcz20_2 := Own.bc2 BK331.out 2
        have hcz20_3 := Own.bc2 BK331.out 3
        have hfz20_0 := bf BK331.out 0
        have hfz20_1 := bf BK331.out 1
        have hfz20_2 := bf BK331.out 2
        have hfz20_3 := bf BK331.out 3
        try go_wp2
        replace BK331 := Am (bd BK331.out)
        replace HB := Am (b1 HB.out)
        refine start_ (n := 19) (S := fun w' => w'.cell? ⟨gb331, 0, none⟩ = some (.int .i64 a0_0) ∧ w'.cell? ⟨gb331, 1, none⟩ = some (.int .i64 a0_1) ∧ w'.cell? ⟨gb331, 2, none⟩ = some (.slice A0_2 l0_2.length c0_2) ∧ w'.cell? ⟨gb331, 3, none⟩ = some (.string a0_3)) (ds := []) q7_0 (by kernel_rfl) rfl rfl ⟨(bc BK331.out 0).trans rfl, (bc BK331.out 1).trans rfl, (bc BK331.out 2).trans rfl, (bc BK331.out 3).trans rfl⟩ (fun hHeld => ?_); refine with_tabW shuttlecockref04_May.tab10 shuttlecockref04_May.bits10 (fun HT_ HW_ => ?_)
        generalize wr.drew = w21 at BK331 HB hHeld ⊢
        refine Own.pr_ 0 (some 29) q7_1 HT_ (h := ?_)
        refine Own.tk_ 1 (some 30) q7_2 HT_ HW_ hHeld (hy := by rintro w' ⟨s0, s1, s2, s3⟩; go_simp; with_reducible rfl) (h := ?_)
        refine one_ (i := 2) (N := some 31) q7_3 rfl rfl (one_of HT_.out (by kernel_rfl)) (by decide) (fun K hK => ?_)
        refine goes_ Try.func41 (by kernel_rfl) rfl #[.int .i64 a0_0] (by rfl) rfl rfl (by (try simp only [List.map_toArray, List.map_cons, List.map_nil]); first | done | rfl | (simp only [List.length_drop, List.length_take]; rfl)) ?_
        with_reducible refine (shuttlecockref03_Known.calls a0_0 true _ A16.out).mono ?_
        rintro e w' ⟨rfl, ⟨nd, rfl⟩⟩
        refine ⟨_, rfl, ?_⟩
        refine hK.out _ _ ⟨(bc BK331.out 0).trans rfl, (bc BK331.out 1).trans rfl, (bc BK331.out 2).trans rfl, (bc BK331.out 3).trans rfl⟩ (fun hHeld => ?_)
        clear hK K
        refine norm_ (a' := ?_) ?_ ?_
        rotate_left
        ·
         show Act.put _ (some 31) _ = _
         simp only [Act.put, sI, sZ, sS, i64_w, i32_w]
         rfl
        refine Own.pr_ 3 (some 32) q7_4 HT_ (h := ?_)
        refine Own.pr_ 4 (some 33) q7_5 HT_ (h := ?_)
        refine Own.pr_ 7 (some 36) q7_6 HT_ (h := ?_)
        refine Own.tk_ 5 (some 34) q7_7 HT_ HW_ hHeld (hy := by rintro w' ⟨s0, s1, s2, s3⟩; go_simp; with_reducible rfl) (h := ?_)
        refine Own.pr_ 6 (some 35) q7_8 HT_ (h := ?_)
        refine Own.tk_ 8 (some 37) q7_9 HT_ HW_ hHeld (hy := by rintro w' ⟨s0, s1, s2, s3⟩; go_simp; with_reducible rfl) (h := ?_)
        refine one_ (i := 9) (N := some 38) q7_10 rfl rfl (one_of HT_.out (by kernel_rfl)) (by decide) (fun K hK => ?_)
        refine goes_ Try.func42 (by kernel_rfl) rfl #[.int .i64 a0_0] (by rfl) rfl rfl (by (try simp only [List.map_toArray, List.map_cons, List.map_nil]); first | done | rfl | (simp only [List.length_drop, List.length_take]; rfl)) ?_
        with_reducible refine (shuttlecockref03_Args.calls k1 a0_0 t337 _ A18.out).mono ?_
        rintro e w22 ⟨v338, rfl, ho0, hb⟩
        refine ⟨_, rfl, ?_⟩
        have HO339 := Am (Kd.R_lower ho0 (below_size (by repeat (first | (with_reducible first | exact HB.out | apply bl | apply pN | apply b1 | refine bs ?_ GE331.out) | exact HB.out | exact HBo.out))))
        replace BK331 := Am (blk_below (g := gb331) (o := .cells #[.int .i64 a0_0, .int .i64 a0_1, .slice A0_2 l0_2.length c0_2, .string a0_3] 41 (0, 0)) (by (with_reducible repeat (first|apply bn|apply bd|apply ba)); exact BK331.out) hb)
        replace HB := Am (below_step (by repeat (first | (with_reducible first | exact HB.out | apply bl | apply pN | apply b1 | refine bs ?_ GE331.out) | exact HB.out | exact HBo.out)) hb)
        (try clear hb)
        (try clear hb2)
        (try clear hk)
        (try clear hi)
        (try clear ho0)
        obtain ⟨Ao23, co23, eo23⟩ := Kd.R_slice HO339.out
        (first | subst eo23 | (injection eo23 with f1_ f2_ f3_; have f4_ := f1_.symm; have f5_ := f3_.symm; clear f1_ f2_ f3_; subst f4_; subst f5_))
        refine hK.out _ _ ⟨(bc BK331.out 0).trans rfl, (bc BK331.out 1).trans rfl, (bc BK331.out 2).trans rfl, (bc BK331.out 3).trans rfl⟩ (fun hHeld => ?_)
        clear hK K
        refine norm_ (a' := ?_) ?_ ?_
        rotate_left
        ·
         show Act.put _ (some 38) _ = _
         simp only [Act.put, sI, sZ, sS, i64_w, i32_w]
         rfl
        refine Own.pr_ 10 (some 39) q7_11 HT_ (h := ?_)
        refine Own.pr_ 11 (some 40) q7_12 HT_ (h := ?_)
        refine Own.pr_ 12 (some 41) q7_13 HT_ (h := ?_)
        refine Own.pr_ 13 (some 42) q7_14 HT_ (h := ?_)
        refine Own.pr_ 14 (some 43) q7_15 HT_ (h := ?_)
        refine Own.tk_ 15 (some 44) q7_16 HT_ HW_ hHeld (hy := by rintro w' ⟨s0, s1, s2, s3⟩; go_simp; with_reducible rfl) (h := ?_)
        refine Own.pr_ 16 (some 45) q7_17 HT_ (h := ?_)
        refine Own.pr_ 17 (some 46) q7_18 HT_ (h := ?_)
        refine Own.pr_ 18 (some 2) q7_19 HT_ (h := ?_)
        refine done_ (done_of HT_.out (by kernel_rfl)) ?_
        try go_wp2
        go_ret
        exact ⟨by first | rfl | (simp <;> rfl) | (simp [*] <;> rfl) | (simp [Aid.ne_nil, Aid.eq_nil]; done), by repeat (first | (with_reducible first | exact HB.out | apply bl | apply pN | apply b1 | refine bs ?_ GE331.out) | exact HB.out | exact HBo.out)⟩
       ·
        rw [if_neg c19] at H
        have c19b0 : ((l0_2.length : Int) == (t337.length : Int)) = false := beq_eq_false_iff_ne.mpr c19
        have c19b1 : ((l0_2.length : Int) != (t337.length : Int)) = true := bne_iff_ne.mpr c19
        have c19b2 : (l0_2.length == t337.length) = false := by first | simpa using c19 | (simp at c19 ⊢; omega)
        obtain rfl := Option.some.inj H
        have hcz24_0 := Own.bc2 BK331.out 0
        have hcz24_1 := Own.bc2 BK331.out 1
        have hcz24_2 := Own.bc2 BK331.out 2
        have hcz24_3 := Own.bc2 BK331.out 3
        have hfz24_0 := bf BK331.out 0
        have hfz24_1 := bf BK331.out 1
        have hfz24_2 := bf BK331.out 2
        have hfz24_3 := bf BK331.out 3
        try go_wp2
        replace BK331 := Am (bd BK331.out)
        replace HB := Am (b1 HB.out)
        refine start_ (n := 19) (S := fun w' => w'.cell? ⟨gb331, 0, none⟩ = some (.int .i64 a0_0) ∧ w'.cell? ⟨gb331, 1, none⟩ = some (.int .i64 a0_1) ∧ w'.cell? ⟨gb331, 2, none⟩ = some (.slice A0_2 l0_2.length c0_2) ∧ w'.cell? ⟨gb331, 3, none⟩ = some (.string a0_3)) (ds := []) q7_0 (by kernel_rfl) rfl rfl ⟨(bc BK331.out 0).trans rfl, (bc BK331.out 1).trans rfl, (bc BK331.out 2).trans rfl, (bc BK331.out 3).trans rfl⟩ (fun hHeld => ?_); refine with_tabW shuttlecockref04_May.tab10 shuttlecockref04_May.bits10 (fun HT_ HW_ => ?_)
        generalize wr.drew = w25 at BK331 HB hHeld ⊢
        refine Own.pr_ 0 (some 29) q7_1 HT_ (h := ?_)
        refine Own.tk_ 1 (some 30) q7_2 HT_ HW_ hHeld (hy := by rintro w' ⟨s0, s1, s2, s3⟩; go_simp; with_reducible rfl) (h := ?_)
        refine one_ (i := 2) (N := some 31) q7_3 rfl rfl (one_of HT_.out (by kernel_rfl)) (by decide) (fun K hK => ?_)
        refine goes_ Try.func41 (by kernel_rfl) rfl #[.int .i64 a0_0] (by rfl) rfl rfl (by (try simp only [List.map_toArray, List.map_cons, List.map_nil]); first | done | rfl | (simp only [List.length_drop, List.length_take]; rfl)) ?_
        with_reducible refine (shuttlecockref03_Known.calls a0_0 true _ A16.out).mono ?_
        rintro e w' ⟨rfl, ⟨nd, rfl⟩⟩
        refine ⟨_, rfl, ?_⟩
        refine hK.out _ _ ⟨(bc BK331.out 0).trans rfl, (bc BK331.out 1).trans rfl, (bc BK331.out 2).trans rfl, (bc BK331.out 3).trans rfl⟩ (fun hHeld => ?_)
        clear hK K
        refine norm_ (a' := ?_) ?_ ?_
        rotate_left
        ·
         show Act.put _ (some 31) _ = _
         simp only [Act.put, sI, sZ, sS, i64_w, i32_w]
         rfl
        refine Own.pr_ 3 (some 32) q7_4 HT_ (h := ?_)
        refine Own.pr_ 4 (some 33) q7_5 HT_ (h := ?_)
        refine Own.pr_ 7 (some 36) q7_6 HT_ (h := ?_)
        refine Own.tk_ 5 (some 34) q7_7 HT_ HW_ hHeld (hy := by rintro w' ⟨s0, s1, s2, s3⟩; go_simp; with_reducible rfl) (h := ?_)
        refine Own.pr_ 6 (some 35) q7_8 HT_ (h := ?_)
        refine Own.tk_ 8 (some 37) q7_9 HT_ HW_ hHeld (hy := by rintro w' ⟨s0, s1, s2, s3⟩; go_simp; with_reducible rfl) (h := ?_)
        refine one_ (i := 9) (N := some 38) q7_10 rfl rfl (one_of HT_.out (by kernel_rfl)) (by decide) (fun K hK => ?_)
        refine goes_ Try.func42 (by kernel_rfl) rfl #[.int .i64 a0_0] (by rfl) rfl rfl (by (try simp only [List.map_toArray, List.map_cons, List.map_nil]); first | done | rfl | (simp only [List.length_drop, List.length_take]; rfl)) ?_
        with_reducible refine (shuttlecockref03_Args.calls k1 a0_0 t337 _ A18.out).mono ?_
        rintro e w26 ⟨v338, rfl, ho0, hb⟩
        refine ⟨_, rfl, ?_⟩
        have HO339 := Am (Kd.R_lower ho0 (below_size (by repeat (first | (with_reducible first | exact HB.out | apply bl | apply pN | apply b1 | refine bs ?_ GE331.out) | exact HB.out | exact HBo.out))))
        replace BK331 := Am (blk_below (g := gb331) (o := .cells #[.int .i64 a0_0, .int .i64 a0_1, .slice A0_2 l0_2.length c0_2, .string a0_3] 41 (0, 0)) (by (with_reducible repeat (first|apply bn|apply bd|apply ba)); exact BK331.out) hb)
        replace HB := Am (below_step (by repeat (first | (with_reducible first | exact HB.out | apply bl | apply pN | apply b1 | refine bs ?_ GE331.out) | exact HB.out | exact HBo.out)) hb)
        (try clear hb)
        (try clear hb2)
        (try clear hk)
        (try clear hi)
        (try clear ho0)
        obtain ⟨Ao27, co27, eo27⟩ := Kd.R_slice HO339.out
        (first | subst eo27 | (injection eo27 with f1_ f2_ f3_; have f4_ := f1_.symm; have f5_ := f3_.symm; clear f1_ f2_ f3_; subst f4_; subst f5_))
        refine hK.out _ _ ⟨(bc BK331.out 0).trans rfl, (bc BK331.out 1).trans rfl, (bc BK331.out 2).trans rfl, (bc BK331.out 3).trans rfl⟩ (fun hHeld => ?_)
        clear hK K
        refine norm_ (a' := ?_) ?_ ?_
        rotate_left
        ·
         show Act.put _ (some 38) _ = _
         simp only [Act.put, sI, sZ, sS, i64_w, i32_w]
         rfl
        refine Own.pr_ 10 (some 39) q7_11 HT_ (h := ?_)
        refine Own.pr_ 11 (some 40) q7_12 HT_ (h := ?_)
        refine Own.pr_ 12 (some 41) q7_13 HT_ (h := ?_)
        refine Own.pr_ 13 (some 42) q7_14 HT_ (h := ?_)
        refine Own.skips_ HT_.out [14, 15, 16] [some 43, some 44, some 45] 2 5 _ q7_17 _ ?_ _ rfl (by kernel_rfl) (fun _ _ _ _ h => h) (by kernel_rfl) ?_ ?_
        rotate_left
        ·
         simp only [Own.putU, Act.put, sI, sZ, sS]
         rfl
        refine Own.pr_ 17 (some 46) q7_18 HT_ (h := ?_)
        refine Own.pr_ 18 (some 2) q7_19 HT_ (h := ?_)
        refine done_ (done_of HT_.out (by kernel_rfl)) ?_
        try go_wp2
        go_ret
        exact ⟨by first | rfl | (simp <;> rfl) | (simp [*] <;> rfl) | (simp [Aid.ne_nil, Aid.eq_nil]; done), by repeat (first | (with_reducible first | exact HB.out | apply bl | apply pN | apply b1 | refine bs ?_ GE331.out) | exact HB.out | exact HBo.out)⟩
      ·
       replace c17 := Bool.eq_false_iff.mpr c17
       subst c17
       rw [if_neg (show ¬ (false = true) by decide)] at H
       obtain rfl := Option.some.inj H
       have hcz28_0 := Own.bc2 BK331.out 0
       have hcz28_1 := Own.bc2 BK331.out 1
       have hcz28_2 := Own.bc2 BK331.out 2
       have hcz28_3 := Own.bc2 BK331.out 3
       have hfz28_0 := bf BK331.out 0
       have hfz28_1 := bf BK331.out 1
       have hfz28_2 := bf BK331.out 2
       have hfz28_3 := bf BK331.out 3
       try go_wp2
       replace BK331 := Am (bd BK331.out)
       replace HB := Am (b1 HB.out)
       refine start_ (n := 19) (S := fun w' => w'.cell? ⟨gb331, 0, none⟩ = some (.int .i64 a0_0) ∧ w'.cell? ⟨gb331, 1, none⟩ = some (.int .i64 a0_1) ∧ w'.cell? ⟨gb331, 2, none⟩ = some (.slice A0_2 l0_2.length c0_2) ∧ w'.cell? ⟨gb331, 3, none⟩ = some (.string a0_3)) (ds := []) q7_0 (by kernel_rfl) rfl rfl ⟨(bc BK331.out 0).trans rfl, (bc BK331.out 1).trans rfl, (bc BK331.out 2).trans rfl, (bc BK331.out 3).trans rfl⟩ (fun hHeld => ?_); refine with_tabW shuttlecockref04_May.tab10 shuttlecockref04_May.bits10 (fun HT_ HW_ => ?_)
       generalize wr.drew = w29 at BK331 HB hHeld ⊢
       refine Own.pr_ 0 (some 29) q7_1 HT_ (h := ?_)
       refine Own.tk_ 1 (some 30) q7_2 HT_ HW_ hHeld (hy := by rintro w' ⟨s0, s1, s2, s3⟩; go_simp; with_reducible rfl) (h := ?_)
       refine one_ (i := 2) (N := some 31) q7_3 rfl rfl (one_of HT_.out (by kernel_rfl)) (by decide) (fun K hK => ?_)
       refine goes_ Try.func41 (by kernel_rfl) rfl #[.int .i64 a0_0] (by rfl) rfl rfl (by (try simp only [List.map_toArray, List.map_cons, List.map_nil]); first | done | rfl | (simp only [List.length_drop, List.length_take]; rfl)) ?_
       with_reducible refine (shuttlecockref03_Known.calls a0_0 false _ A16.out).mono ?_
       rintro e w' ⟨rfl, ⟨nd, rfl⟩⟩
       refine ⟨_, rfl, ?_⟩
       refine hK.out _ _ ⟨(bc BK331.out 0).trans rfl, (bc BK331.out 1).trans rfl, (bc BK331.out 2).trans rfl, (bc BK331.out 3).trans rfl⟩ (fun hHeld => ?_)
       clear hK K
       refine norm_ (a' := ?_) ?_ ?_
       rotate_left
       ·
        show Act.put _ (some 31) _ = _
        simp only [Act.put, sI, sZ, sS, i64_w, i32_w]
        rfl
       refine Own.pr_ 3 (some 32) q7_4 HT_ (h := ?_)
       refine Own.skips_ HT_.out [4, 5, 6, 7, 8, 9, 10, 11] [some 33, some 34, some 35, some 36, some 37, some 38, some 39, some 40] 7 15 _ q7_12 _ ?_ _ rfl (by kernel_rfl) (fun _ _ _ _ h => h) (by kernel_rfl) ?_ ?_
       rotate_left
       ·
        simp only [Own.putU, Act.put, sI, sZ, sS]
        rfl
       refine Own.pr_ 12 (some 41) q7_13 HT_ (h := ?_)
       refine Own.pr_ 13 (some 42) q7_14 HT_ (h := ?_)
       refine Own.skips_ HT_.out [14, 15, 16] [some 43, some 44, some 45] 2 5 _ q7_17 _ ?_ _ rfl (by kernel_rfl) (fun _ _ _ _ h => h) (by kernel_rfl) ?_ ?_
       rotate_left
       ·
        simp only [Own.putU, Act.put, sI, sZ, sS]
        rfl
       refine Own.pr_ 17 (some 46) q7_18 HT_ (h := ?_)
       refine Own.pr_ 18 (some 2) q7_19 HT_ (h := ?_)
       refine done_ (done_of HT_.out (by kernel_rfl)) ?_
       try go_wp2
       go_ret
       exact ⟨by first | rfl | (simp <;> rfl) | (simp [*] <;> rfl) | (simp [Aid.ne_nil, Aid.eq_nil]; done), by repeat (first | (with_reducible first | exact HB.out | apply bl | apply pN | apply b1 | refine bs ?_ GE331.out) | exact HB.out | exact HBo.out)⟩
 ·
  replace c3 := Bool.eq_false_iff.mpr c3
  subst c3
  rw [if_neg (show ¬ (false = true) by decide)] at H
  obtain rfl := Option.some.inj H
  go_enter Try.func21, Try.ntmps21
  go_wp2_with (first | ((with_reducible refine gate_dst (N := 1) rfl ?_); (try (refine gate_guard (by rfl) ?_; dsimp only)); refine box_event ?hg (N := 1) ?hd (cs := #[.int .i64 a0_0, .int .i64 a0_1, .slice A0_2 l0_2.length c0_2, .string a0_3]) (t := 41) ?hr ?_; (case hd => rfl); (case hg => rfl); (case hr => first | (go_simp; done) | (go_simp; rfl)); intro gb331 hg w30 hbox hb; have BK331 := Am (hbox); have GW331 := Am ((by rw [hg]; exact (below_size (by repeat (first | (with_reducible first | exact HB.out | apply bl | apply pN | apply b1) | exact HB.out | exact HBo.out))) : w.heap.size ≤ gb331)); have GE331 := GW331; replace HB := Am (below_step (by repeat (first | (with_reducible first | exact HB.out | apply bl | apply pN | apply b1) | exact HB.out | exact HBo.out)) hb); clear hb hbox hg; have hcz31_0 := Own.bc2 BK331.out 0; have hcz31_1 := Own.bc2 BK331.out 1; have hcz31_2 := Own.bc2 BK331.out 2; have hcz31_3 := Own.bc2 BK331.out 3; have hfz31_0 := bf BK331.out 0; have hfz31_1 := bf BK331.out 1; have hfz31_2 := bf BK331.out 2; have hfz31_3 := bf BK331.out 3) | ((with_reducible refine gate_callee (f := 32) rfl ?_); refine Own.gL_ (some 6) Try.func32 (#[.int .i64 a0_1]) (h := ?_); (with_reducible refine (shuttlecockref04_Fits.calls a0_1 false _ A2.out).mono ?_); rintro e w' ⟨rfl, ⟨nd, rfl⟩⟩; refine ⟨_, rfl, ?_⟩))
  go_ret
  exact ⟨by first | rfl | (simp <;> rfl) | (simp [*] <;> rfl) | (simp [Aid.ne_nil, Aid.eq_nil]; done), by repeat (first | (with_reducible first | exact HB.out | apply bl | apply pN | apply b1 | refine bs ?_ GE331.out) | exact HB.out | exact HBo.out)⟩

/-! ### shuttlecockref01_Put: function 55 -/
mutual
def shuttlecockref01_Put.j0 : Nat → Int → Bool → Option (ByteArray)
 | 0, _, _ => none
 | k + 1, x0, x9 => if x9 = true then (some (⟨#[]⟩ : ByteArray)) else (shuttlecockref01_Put.l0 k x0 (([] : List Int)))
def shuttlecockref01_Put.l0 : Nat → Int → List Int → Option (ByteArray)
 | 0, _, _ => none
 | k + 1, x0, x3 => if x0 > 127 then (if x3.length < 140737488355328 then (shuttlecockref01_Put.l0 k (wrap64 (Int.tdiv x0 128)) (x3 ++ [(wrap64 (128 + (Int.tmod x0 128))) % 256])) else (none)) else (if x3.length < 140737488355328 then (some (strOfNums (x3 ++ [(x0) % 256]))) else (none))
end
def shuttlecockref01_Put.f (k : Nat) (a0 : Int) : Option (ByteArray) := if a0 < 0 then (shuttlecockref01_Put.j0 k a0 true) else (shuttlecockref01_Put.j0 k a0 (decide (a0 ≥ 4611686018427387904)))
theorem shuttlecockref01_Put.mono_l : ∀ k, (∀ y0 y1, LeO (shuttlecockref01_Put.j0 k y0 y1) (shuttlecockref01_Put.j0 (k + 1) y0 y1)) ∧ (∀ y0 y1, LeO (shuttlecockref01_Put.l0 k y0 y1) (shuttlecockref01_Put.l0 (k + 1) y0 y1))
 | 0 => ⟨fun _ _ r h => by simp [shuttlecockref01_Put.j0] at h, fun _ _ r h => by simp [shuttlecockref01_Put.l0] at h⟩
 | k + 1 => by
  obtain ⟨ih0, ih1⟩ := shuttlecockref01_Put.mono_l k
  refine ⟨?_, ?_⟩
  ·
   intro y0 y1
   unfold shuttlecockref01_Put.j0
   repeat' first
   | (with_reducible exact ih0 _ _)
   | (with_reducible exact ih1 _ _)
   | (with_reducible exact LeO.refl _)
   | (with_reducible exact LeO.none _)
   | (with_reducible refine LeO.ite ?_ ?_)
   | (with_reducible refine LeO.bind ?_ (fun _ => ?_))
   | exact LeO.none _
   | refine LeO.ite ?_ ?_
   | refine LeO.bind ?_ (fun _ => ?_)
  ·
   intro y0 y1
   unfold shuttlecockref01_Put.l0
   repeat' first
   | (with_reducible exact ih0 _ _)
   | (with_reducible exact ih1 _ _)
   | (with_reducible exact LeO.refl _)
   | (with_reducible exact LeO.none _)
   | (with_reducible refine LeO.ite ?_ ?_)
   | (with_reducible refine LeO.bind ?_ (fun _ => ?_))
   | exact LeO.none _
   | refine LeO.ite ?_ ?_
   | refine LeO.bind ?_ (fun _ => ?_)
theorem shuttlecockref01_Put.mono : ∀ a0 k, LeO (shuttlecockref01_Put.f k a0) (shuttlecockref01_Put.f (k + 1) a0) := by
 intro a0 k
 obtain ⟨ih0, ih1⟩ := shuttlecockref01_Put.mono_l k
 unfold shuttlecockref01_Put.f
 repeat' first
   | (with_reducible exact ih0 _ _)
   | (with_reducible exact ih1 _ _)
   | (with_reducible exact LeO.refl _)
   | (with_reducible exact LeO.none _)
   | (with_reducible refine LeO.ite ?_ ?_)
   | (with_reducible refine LeO.bind ?_ (fun _ => ?_))
   | exact LeO.none _
   | refine LeO.ite ?_ ?_
   | refine LeO.bind ?_ (fun _ => ?_)
set_option maxHeartbeats 8000000 in
set_option maxRecDepth 100000 in
theorem shuttlecockref01_Put.calls (k : Nat) (a0 : Int) (r : ByteArray) (w : World) (h : shuttlecockref01_Put.f k a0 = some r) :
  Calls Try.prog 55 #[.int .i64 a0] w fun e w' => e = .returned (.string r) ∧ Below w.heap.size w w' := by
 have HB := Am (Below.refl w.heap.size w)
 have H : (if a0 < 0 then (shuttlecockref01_Put.j0 k a0 true) else (shuttlecockref01_Put.j0 k a0 (decide (a0 ≥ 4611686018427387904)))) = some r := h
 clear h
 have HC2 := Am H
 clear H
 go_enter Try.func55, Try.ntmps55
 go_upto_region 1 with (fail)
 go_cut [9] (fun v9 wc => ∃ (kq : Nat) (x9_1 : Bool), v9 = .bool x9_1 ∧ Aside0 (shuttlecockref01_Put.j0 kq a0 x9_1 = some r) ∧ Aside0 (kq ≤ k) ∧ Aside0 (Below w.heap.size w wc))
 case first =>
  have H := HC2.out
  clear HC2
  by_cases c3 : a0 < 0
  ·
   rw [if_pos c3] at H
   have c3b0 : decide (a0 < 0) = true := decide_eq_true c3
   clear c3
   (first | rw [c3b0] | (simp only [i64_w, i32_w]; rw [c3b0]) | skip)
   have H' := Am H
   clear H
   go_wp2
   go_meet
   case rel => exact ⟨_, (true), (by first | rfl | (simp; done) | (simp [*]; done)), H', ⟨by first | omega | exact Nat.le_refl _⟩, ⟨by repeat (first | (with_reducible first | exact HB.out | apply bl | apply pN | apply b1) | exact HB.out | exact HBo.out)⟩⟩
  ·
   rw [if_neg c3] at H
   have c3b0 : decide (a0 < 0) = false := decide_eq_false c3
   clear c3
   (first | rw [c3b0] | (simp only [i64_w, i32_w]; rw [c3b0]) | skip)
   have H' := Am H
   clear H
   go_wp2
   go_meet
   case rel => exact ⟨_, (decide (a0 ≥ 4611686018427387904)), (by first | rfl | (simp; done) | (simp [*]; done)), H', ⟨by first | omega | exact Nat.le_refl _⟩, ⟨by repeat (first | (with_reducible first | exact HB.out | apply bl | apply pN | apply b1) | exact HB.out | exact HBo.out)⟩⟩
 case rest =>
  clear HC2
  try clear p2
  try clear c3
  try clear c3b0
  obtain ⟨kq, x9_1, rfl, HA, HJ1, HB⟩ := hcut
  cases kq with
  | zero => exact absurd HA.out (by simp [shuttlecockref01_Put.j0])
  | succ kj1 =>
   have H := HA.out
   clear HA
   simp only [shuttlecockref01_Put.j0] at H
   by_cases c4 : x9_1 = true
   ·
    subst c4
    rw [if_pos rfl] at H
    obtain rfl := Option.some.inj H
    go_wp2
    go_ret
    exact ⟨by first | rfl | (simp <;> rfl) | (simp [*] <;> rfl) | (simp [Aid.ne_nil, Aid.eq_nil]; done), by repeat (first | (with_reducible first | exact HB.out | apply bl | apply pN | apply b1) | exact HB.out | exact HBo.out)⟩
   ·
    replace c4 := Bool.eq_false_iff.mpr c4
    subst c4
    rw [if_neg (show ¬ (false = true) by decide)] at H
    obtain ⟨y340, hy340⟩ : ∃ y_ : List Int, y_ = (([] : List Int)) := ⟨_, rfl⟩
    replace H : (shuttlecockref01_Put.l0 kj1 a0 y340) = some r := by first | (rw [hy340]; with_reducible exact H) | (have H2_ := (Option.bind_some _ _).symm.trans H; rw [hy340]; with_reducible exact H2_) | (have H2_ := (Option.bind_some _ _).symm.trans H; with_reducible exact H2_) | with_reducible exact H | (rw [hy340]; exact H) | exact H
    have Ny340 := Am hy340
    clear hy340
    have H' := Am H
    clear H
    go_wp2_with (first | ((with_reducible refine gate_dst (N := 10) rfl ?_); refine Kd.R_lit (Kd.int .u8) _ 5 ?hg (N := 10) ?hd (xs := ([] : List Int)) (inner := []) (ok := fun _ => True) (okp := fun _ => True) ?hr ?hp (fun _ hk => hk) trivial (Below.refl _ _) (Nat.le_refl _) (by simp) ?_; (case hd => rfl); (case hg => rfl); (case hr => first | (go_simp; done) | (go_simp; rfl)); (case hp => exact (Reps.none _ _)); intro v341 w5 ho6 hb hg_ hnew_; clear hg_ hnew_; (first | rw [← Ny340.out] at ho6 | (simp only [Int.reduceToNat] at ho6; rw [← Ny340.out] at ho6)); have HO342 := Am (Kd.R_lower ho6 (below_size (by repeat (first | (with_reducible first | exact HB.out | apply bl | apply pN | apply b1) | exact HB.out | exact HBo.out)))); replace HB := Am (below_step (by repeat (first | (with_reducible first | exact HB.out | apply bl | apply pN | apply b1) | exact HB.out | exact HBo.out)) hb); clear hb ho6))
    go_loopg [0, 3] kj1 (fun kq v0 v3 w' => ∃ (x0_2 : Int) (x3_2 : List Int), v0 = .int .i64 x0_2 ∧ Aside0 (shuttlecockref01_Put.l0 kq x0_2 x3_2 = some r) ∧ Aside0 (kq ≤ kj1) ∧ Aside0 (Kd.R (Kd.int .u8) 5 w' w.heap.size (fun _ => True) v3 x3_2) ∧ Aside0 (Below w.heap.size w w'))
    case atStart => exact ⟨(a0), (y340), (by first | rfl | (simp; done) | (simp [*]; done)), H', ⟨Nat.le_refl _⟩, ⟨by (with_reducible repeat (first | apply Kd.R_alloc | apply Kd.R_drewN | apply Kd.R_drew)); exact HO342.out⟩, ⟨by repeat (first | (with_reducible first | exact HB.out | apply bl | apply pN | apply b1) | exact HB.out | exact HBo.out)⟩⟩
    case round =>
     clear H'
     try clear p2
     try clear c3
     try clear c3b0
     try clear c4
     try clear c5
     try clear p2
     obtain ⟨x0_2, x3_2, rfl, HA, HK2, HO_3, HB⟩ := hrel
     cases gk with
     | zero => exact absurd HA.out (by simp [shuttlecockref01_Put.l0])
     | succ k2 =>
      have H := HA.out
      clear HA
      simp only [shuttlecockref01_Put.l0] at H
      by_cases c7 : x0_2 > 127
      ·
       rw [if_pos c7] at H
       have c7b0 : decide (127 < x0_2) = true := decide_eq_true c7
       clear c7
       by_cases c8 : x3_2.length < 140737488355328
       ·
        rw [if_pos c8] at H
        have LMc8 := Am c8
        clear c8
        obtain ⟨y343, hy343⟩ : ∃ y_ : List Int, y_ = (x3_2 ++ [(wrap64 (128 + (Int.tmod x0_2 128))) % 256]) := ⟨_, rfl⟩
        replace H : (shuttlecockref01_Put.l0 k2 (wrap64 (Int.tdiv x0_2 128)) y343) = some r := by first | (rw [hy343]; with_reducible exact H) | (have H2_ := (Option.bind_some _ _).symm.trans H; rw [hy343]; with_reducible exact H2_) | (have H2_ := (Option.bind_some _ _).symm.trans H; with_reducible exact H2_) | with_reducible exact H | (rw [hy343]; exact H) | exact H
        have Ny343 := Am hy343
        clear hy343
        have H' := Am H
        clear H
        go_wp2_with (first | ((with_reducible refine gate_builtin (b := .append) (xs := #[.tmp 13, .tmp 18]) rfl ?_); at_builtin; refine Kd.R_append (Kd.int .u8) (w0 := w) w.heap.size rfl (.tmp 13) (.tmp 18) 76 5 (.int .u8 0) 1 rfl Try.underlying76 info5 rfl (by decide) (by omega) u3 x3_2 ((wrap64 (128 + (Int.tmod x0_2 128))) % 256) [.int .u8 ((wrap64 (128 + (Int.tmod x0_2 128))) % 256)] (fun _ => True) (fun _ => False) rfl rfl ?aP (fun _ hk => hk.elim) ?aF ?aO ?aB ?aS ?aL ?_; (case aP => exact rfl); (case aB => exact (by repeat (first | (with_reducible first | exact HB.out | apply bl | apply pN | apply b1) | exact HB.out | exact HBo.out))); (case aF => exact (fun _ _ => trivial)); (case aO => exact (by (with_reducible repeat (first | apply Kd.R_alloc | apply Kd.R_drewN | apply Kd.R_drew)); exact HO_3.out)); (case aS => exact (below_size (by repeat (first | (with_reducible first | exact HB.out | apply bl | apply pN | apply b1) | exact HB.out | exact HBo.out)))); (case aL => have := LMc8.out; omega); intro v344 w9 ho hb hg hat; rw [← Ny343.out] at ho; have n0_ := Am (hb); have n1_ := Am (ho); clear HB; clear HO_3; have HB := n0_; have HO345 := n1_; clear n0_ n1_; clear ho hb hg hat))
        go_roundg k2
        case measure => have := HJ1.out; have := HK2.out; omega
        case rel => exact ⟨(wrap64 (Int.tdiv x0_2 128)), (y343), (by first | rfl | (simp; done) | (simp [*]; done)), H', ⟨by have := HJ1.out; have := HK2.out; omega⟩, ⟨by (with_reducible repeat (first | apply Kd.R_alloc | apply Kd.R_drewN | apply Kd.R_drew)); exact HO345.out⟩, ⟨by repeat (first | (with_reducible first | exact HB.out | apply bl | apply pN | apply b1) | exact HB.out | exact HBo.out)⟩⟩
       ·
        rw [if_neg c8] at H
        exact absurd H (by simp)
      ·
       rw [if_neg c7] at H
       have c7b0 : decide (127 < x0_2) = false := decide_eq_false c7
       clear c7
       by_cases c10 : x3_2.length < 140737488355328
       ·
        rw [if_pos c10] at H
        have LMc10 := Am c10
        clear c10
        obtain ⟨y346, hy346⟩ : ∃ y_ : List Int, y_ = (x3_2 ++ [(x0_2) % 256]) := ⟨_, rfl⟩
        replace H : (some (strOfNums y346)) = some r := by first | (rw [hy346]; with_reducible exact H) | (have H2_ := (Option.bind_some _ _).symm.trans H; rw [hy346]; with_reducible exact H2_) | (have H2_ := (Option.bind_some _ _).symm.trans H; with_reducible exact H2_) | with_reducible exact H | (rw [hy346]; exact H) | exact H
        have Ny346 := Am hy346
        clear hy346
        obtain rfl := Option.some.inj H
        go_wp2_with (first | ((with_reducible refine gate_builtin (b := .append) (xs := #[.tmp 22, .tmp 25]) rfl ?_); at_builtin; refine Kd.R_append (Kd.int .u8) (w0 := w) w.heap.size rfl (.tmp 22) (.tmp 25) 76 5 (.int .u8 0) 1 rfl Try.underlying76 info5 rfl (by decide) (by omega) u3 x3_2 ((x0_2) % 256) [.int .u8 ((x0_2) % 256)] (fun _ => True) (fun _ => False) rfl rfl ?aP (fun _ hk => hk.elim) ?aF ?aO ?aB ?aS ?aL ?_; (case aP => exact rfl); (case aB => exact (by repeat (first | (with_reducible first | exact HB.out | apply bl | apply pN | apply b1) | exact HB.out | exact HBo.out))); (case aF => exact (fun _ _ => trivial)); (case aO => exact (by (with_reducible repeat (first | apply Kd.R_alloc | apply Kd.R_drewN | apply Kd.R_drew)); exact HO_3.out)); (case aS => exact (below_size (by repeat (first | (with_reducible first | exact HB.out | apply bl | apply pN | apply b1) | exact HB.out | exact HBo.out)))); (case aL => have := LMc10.out; omega); intro v347 w11 ho hb hg hat; rw [← Ny346.out] at ho; have n0_ := Am (hb); have n1_ := Am (ho); clear HB; clear HO_3; have HB := n0_; have HO348 := n1_; clear n0_ n1_; clear ho hb hg hat; have hcv12 := own_string (P := Try.prog) Try.underlying76 Try.underlying5 Try.underlying9 (Kd.own_of_R HO348.out)))
        go_ret
        exact ⟨by first | rfl | (simp <;> rfl) | (simp [*] <;> rfl) | (simp [Aid.ne_nil, Aid.eq_nil]; done), by repeat (first | (with_reducible first | exact HB.out | apply bl | apply pN | apply b1) | exact HB.out | exact HBo.out)⟩
       ·
        rw [if_neg c10] at H
        exact absurd H (by simp)

end Go.Proofs.Ytfcombimnmkoeaa.Q
