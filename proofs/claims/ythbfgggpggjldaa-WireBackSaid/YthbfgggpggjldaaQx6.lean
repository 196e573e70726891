-- printed by a program of this session (NOTES: hprint); not the kit's print
import Derived.Test.YthbfgggpggjldaaQx0
import Derived.Test.YthbfgggpggjldaaQx1
import Derived.Test.YthbfgggpggjldaaQx2
namespace Go.Proofs.Ythbfgggpggjldaa.Q
open Go.RowKit Go.Proofs.YthbfgggpggjldaaW.PrintWords Go.Proofs.YthbfgggpggjldaaW.PrintLast Go.Proofs.YthbfgggpggjldaaW.PrintMore
attribute [local go_sem] max2_int min2_int max_two min_two max_three min_three max_four min_four   -- for this text's walks alone
set_option linter.unusedVariables false
set_option linter.unusedSimpArgs false

/-! ### shuttlecocklaw02_WireBack: function 5 -/
mutual
def shuttlecocklaw02_WireBack.j0 : Nat → List ByteArray → List Int → Int → Bool → Option (Bool)
  | 0, _, _, _, _ => none
  | k + 1, x0, x1, x2, x38 => if x38 = true then ((shuttlecocklaw02_fixed.f).bind fun t296 => (some t296)) else ((wire_Nums.f k x1).bind fun t297 => (shuttlecocklaw02_WireBack.l0 k x0 x1 x2 t297 0))
def shuttlecocklaw02_WireBack.l0 : Nat → List ByteArray → List Int → Int → ByteArray → Int → Option (Bool)
  | 0, _, _, _, _, _ => none
  | k + 1, x0, x1, x2, x7, x8 => if x8 < (x0.length : Int) then (if 0 ≤ x8 then (if ((rdOf ByteArray.empty x0 x8).size : Int) > 1000 then (some true) else ((wire_Text.f k (rdOf ByteArray.empty x0 x8)).bind fun t300 => (if x7.size + t300.size ≤ 9223372036854775807 then (shuttlecocklaw02_WireBack.l0 k x0 x1 x2 (x7 ++ t300) (wrap64 (x8 + 1))) else (none)))) else (none)) else ((wire_New.f x7).bind fun bt301 => (shuttlecocklaw02_WireBack.l1 k x0 x1 x2 x7 0 bt301.1 bt301.2.1 bt301.2.2.1 bt301.2.2.2))
def shuttlecocklaw02_WireBack.l1 : Nat → List ByteArray → List Int → Int → ByteArray → Int → ByteArray → Int → Int → Int → Option (Bool)
  | 0, _, _, _, _, _, _, _, _, _ => none
  | k + 1, x0, x1, x2, x7, x10, x306000, x306001, x306002, x306003 => if x10 < (x1.length : Int) then ((wire_Reader_Num.f k x306000 x306001 x306002 x306003).bind fun bt306 => (if 0 ≤ x10 then (if bt306.1 = (rd x1 x10) then (shuttlecocklaw02_WireBack.l1 k x0 x1 x2 x7 (wrap64 (x10 + 1)) bt306.2.1 bt306.2.2.1 bt306.2.2.2.1 bt306.2.2.2.2) else (some false)) else (none))) else (shuttlecocklaw02_WireBack.l2 k x0 x1 x2 x7 0 x306000 x306001 x306002 x306003)
def shuttlecocklaw02_WireBack.l2 : Nat → List ByteArray → List Int → Int → ByteArray → Int → ByteArray → Int → Int → Int → Option (Bool)
  | 0, _, _, _, _, _, _, _, _, _ => none
  | k + 1, x0, x1, x2, x7, x11, x306000, x306001, x306002, x306003 => if x11 < (x0.length : Int) then ((wire_Reader_Text.f k x306000 x306001 x306002 x306003).bind fun bt312 => (if 0 ≤ x11 then (if bt312.1.toList = (rdOf ByteArray.empty x0 x11).toList then (shuttlecocklaw02_WireBack.l2 k x0 x1 x2 x7 (wrap64 (x11 + 1)) bt312.2.1 bt312.2.2.1 bt312.2.2.2.1 bt312.2.2.2.2) else (some false)) else (none))) else ((wire_Reader_Done.f x306000 x306001 x306002 x306003).bind fun bt318 => (if bt318.1 = true then (if x2 < 0 then (shuttlecocklaw02_WireBack.j4 k x0 x1 x2 x7 true) else (shuttlecocklaw02_WireBack.j4 k x0 x1 x2 x7 (decide (x2 ≥ (x7.size : Int))))) else (some false)))
def shuttlecocklaw02_WireBack.j4 : Nat → List ByteArray → List Int → Int → ByteArray → Bool → Option (Bool)
  | 0, _, _, _, _, _ => none
  | k + 1, x0, x1, x2, x7, x99 => if x99 = true then (some true) else (if 0 ≤ x2 then (if x2 ≤ (x7.size : Int) then ((wire_New.f (x7.extract 0 (x2 : Int).toNat)).bind fun bt323 => (shuttlecocklaw02_WireBack.l3 k x0 x1 x2 0 bt323.1 bt323.2.1 bt323.2.2.1 bt323.2.2.2)) else (none)) else (none))
def shuttlecocklaw02_WireBack.l3 : Nat → List ByteArray → List Int → Int → Int → ByteArray → Int → Int → Int → Option (Bool)
  | 0, _, _, _, _, _, _, _, _ => none
  | k + 1, x0, x1, x2, x13, x328000, x328001, x328002, x328003 => if x13 < (x1.length : Int) then ((wire_Reader_Num.f k x328000 x328001 x328002 x328003).bind fun bt328 => (shuttlecocklaw02_WireBack.l3 k x0 x1 x2 (wrap64 (x13 + 1)) bt328.2.1 bt328.2.2.1 bt328.2.2.2.1 bt328.2.2.2.2)) else (shuttlecocklaw02_WireBack.l4 k x0 x2 0 x328000 x328001 x328002 x328003)
def shuttlecocklaw02_WireBack.l4 : Nat → List ByteArray → Int → Int → ByteArray → Int → Int → Int → Option (Bool)
  | 0, _, _, _, _, _, _, _ => none
  | k + 1, x0, x2, x14, x328000, x328001, x328002, x328003 => if x14 < (x0.length : Int) then ((wire_Reader_Text.f k x328000 x328001 x328002 x328003).bind fun bt333 => (shuttlecocklaw02_WireBack.l4 k x0 x2 (wrap64 (x14 + 1)) bt333.2.1 bt333.2.2.1 bt333.2.2.2.1 bt333.2.2.2.2)) else ((wire_Reader_Err.f x328000 x328001 x328002 x328003).bind fun bt338 => (if bt338.1 = 10 then (if bt338.2.1 ≤ x2 then ((wire_Reader_Done.f bt338.2.2.1 bt338.2.2.2.1 bt338.2.2.2.2.1 bt338.2.2.2.2.2).bind fun bt344 => (some (!bt344.1))) else (some false)) else (some false)))
end
def shuttlecocklaw02_WireBack.f (k : Nat) (l0 : List ByteArray) (l1 : List Int) (a2 : Int) : Option (Bool) := (shuttlecocklaw02_fixed.f).bind fun t294 => (if t294 = true then (if (l0.length : Int) > 50 then (shuttlecocklaw02_WireBack.j0 k l0 l1 a2 true) else (if (l1.length : Int) > 100 then (shuttlecocklaw02_WireBack.j0 k l0 l1 a2 true) else (if (l1.length : Int) > 0 then ((wire_Nums.f k l1).bind fun t295 => (shuttlecocklaw02_WireBack.j0 k l0 l1 a2 (t295.toList == ([] : List UInt8)))) else (shuttlecocklaw02_WireBack.j0 k l0 l1 a2 false)))) else (shuttlecocklaw02_WireBack.j0 k l0 l1 a2 true))
theorem shuttlecocklaw02_WireBack.mono_l : ∀ k, (∀ y0 y1 y2 y3, LeO (shuttlecocklaw02_WireBack.j0 k y0 y1 y2 y3) (shuttlecocklaw02_WireBack.j0 (k + 1) y0 y1 y2 y3)) ∧ (∀ y0 y1 y2 y3 y4, LeO (shuttlecocklaw02_WireBack.l0 k y0 y1 y2 y3 y4) (shuttlecocklaw02_WireBack.l0 (k + 1) y0 y1 y2 y3 y4)) ∧ (∀ y0 y1 y2 y3 y4 y5 y6 y7 y8, LeO (shuttlecocklaw02_WireBack.l1 k y0 y1 y2 y3 y4 y5 y6 y7 y8) (shuttlecocklaw02_WireBack.l1 (k + 1) y0 y1 y2 y3 y4 y5 y6 y7 y8)) ∧ (∀ y0 y1 y2 y3 y4 y5 y6 y7 y8, LeO (shuttlecocklaw02_WireBack.l2 k y0 y1 y2 y3 y4 y5 y6 y7 y8) (shuttlecocklaw02_WireBack.l2 (k + 1) y0 y1 y2 y3 y4 y5 y6 y7 y8)) ∧ (∀ y0 y1 y2 y3 y4, LeO (shuttlecocklaw02_WireBack.j4 k y0 y1 y2 y3 y4) (shuttlecocklaw02_WireBack.j4 (k + 1) y0 y1 y2 y3 y4)) ∧ (∀ y0 y1 y2 y3 y4 y5 y6 y7, LeO (shuttlecocklaw02_WireBack.l3 k y0 y1 y2 y3 y4 y5 y6 y7) (shuttlecocklaw02_WireBack.l3 (k + 1) y0 y1 y2 y3 y4 y5 y6 y7)) ∧ (∀ y0 y1 y2 y3 y4 y5 y6, LeO (shuttlecocklaw02_WireBack.l4 k y0 y1 y2 y3 y4 y5 y6) (shuttlecocklaw02_WireBack.l4 (k + 1) y0 y1 y2 y3 y4 y5 y6))
  | 0 => ⟨fun _ _ _ _ r h => by simp [shuttlecocklaw02_WireBack.j0] at h, fun _ _ _ _ _ r h => by simp [shuttlecocklaw02_WireBack.l0] at h, fun _ _ _ _ _ _ _ _ _ r h => by simp [shuttlecocklaw02_WireBack.l1] at h, fun _ _ _ _ _ _ _ _ _ r h => by simp [shuttlecocklaw02_WireBack.l2] at h, fun _ _ _ _ _ r h => by simp [shuttlecocklaw02_WireBack.j4] at h, fun _ _ _ _ _ _ _ _ r h => by simp [shuttlecocklaw02_WireBack.l3] at h, fun _ _ _ _ _ _ _ r h => by simp [shuttlecocklaw02_WireBack.l4] at h⟩
  | k + 1 => by
    obtain ⟨ih0, ih1, ih2, ih3, ih4, ih5, ih6⟩ := shuttlecocklaw02_WireBack.mono_l k
    refine ⟨?_, ?_, ?_, ?_, ?_, ?_, ?_⟩
    · intro y0 y1 y2 y3
      unfold shuttlecocklaw02_WireBack.j0
      repeat' first
      | (with_reducible exact ih0 _ _ _ _)
      | (with_reducible exact ih1 _ _ _ _ _)
      | (with_reducible exact ih2 _ _ _ _ _ _ _ _ _)
      | (with_reducible exact ih3 _ _ _ _ _ _ _ _ _)
      | (with_reducible exact ih4 _ _ _ _ _)
      | (with_reducible exact ih5 _ _ _ _ _ _ _ _)
      | (with_reducible exact ih6 _ _ _ _ _ _ _)
      | (with_reducible exact wire_Nums.mono _ _)
      | (with_reducible exact wire_Reader_Num.mono _ _ _ _ _)
      | (with_reducible exact wire_Reader_Text.mono _ _ _ _ _)
      | (with_reducible exact wire_Text.mono _ _)
      | (with_reducible exact LeO.refl _)
      | (with_reducible exact LeO.none _)
      | (with_reducible refine LeO.ite ?_ ?_)
      | (with_reducible refine LeO.bind ?_ (fun _ => ?_))
      | exact ih0 _ _ _ _
      | exact ih1 _ _ _ _ _
      | exact ih2 _ _ _ _ _ _ _ _ _
      | exact ih3 _ _ _ _ _ _ _ _ _
      | exact ih4 _ _ _ _ _
      | exact ih5 _ _ _ _ _ _ _ _
      | exact ih6 _ _ _ _ _ _ _
      | exact wire_Nums.mono _ _
      | exact wire_Reader_Num.mono _ _ _ _ _
      | exact wire_Reader_Text.mono _ _ _ _ _
      | exact wire_Text.mono _ _
      | exact LeO.none _
      | refine LeO.ite ?_ ?_
      | refine LeO.bind ?_ (fun _ => ?_)
    · intro y0 y1 y2 y3 y4
      unfold shuttlecocklaw02_WireBack.l0
      repeat' first
      | (with_reducible exact ih0 _ _ _ _)
      | (with_reducible exact ih1 _ _ _ _ _)
      | (with_reducible exact ih2 _ _ _ _ _ _ _ _ _)
      | (with_reducible exact ih3 _ _ _ _ _ _ _ _ _)
      | (with_reducible exact ih4 _ _ _ _ _)
      | (with_reducible exact ih5 _ _ _ _ _ _ _ _)
      | (with_reducible exact ih6 _ _ _ _ _ _ _)
      | (with_reducible exact wire_Nums.mono _ _)
      | (with_reducible exact wire_Reader_Num.mono _ _ _ _ _)
      | (with_reducible exact wire_Reader_Text.mono _ _ _ _ _)
      | (with_reducible exact wire_Text.mono _ _)
      | (with_reducible exact LeO.refl _)
      | (with_reducible exact LeO.none _)
      | (with_reducible refine LeO.ite ?_ ?_)
      | (with_reducible refine LeO.bind ?_ (fun _ => ?_))
      | exact ih0 _ _ _ _
      | exact ih1 _ _ _ _ _
      | exact ih2 _ _ _ _ _ _ _ _ _
      | exact ih3 _ _ _ _ _ _ _ _ _
      | exact ih4 _ _ _ _ _
      | exact ih5 _ _ _ _ _ _ _ _
      | exact ih6 _ _ _ _ _ _ _
      | exact wire_Nums.mono _ _
      | exact wire_Reader_Num.mono _ _ _ _ _
      | exact wire_Reader_Text.mono _ _ _ _ _
      | exact wire_Text.mono _ _
      | exact LeO.none _
      | refine LeO.ite ?_ ?_
      | refine LeO.bind ?_ (fun _ => ?_)
    · intro y0 y1 y2 y3 y4 y5 y6 y7 y8
      unfold shuttlecocklaw02_WireBack.l1
      repeat' first
      | (with_reducible exact ih0 _ _ _ _)
      | (with_reducible exact ih1 _ _ _ _ _)
      | (with_reducible exact ih2 _ _ _ _ _ _ _ _ _)
      | (with_reducible exact ih3 _ _ _ _ _ _ _ _ _)
      | (with_reducible exact ih4 _ _ _ _ _)
      | (with_reducible exact ih5 _ _ _ _ _ _ _ _)
      | (with_reducible exact ih6 _ _ _ _ _ _ _)
      | (with_reducible exact wire_Nums.mono _ _)
      | (with_reducible exact wire_Reader_Num.mono _ _ _ _ _)
      | (with_reducible exact wire_Reader_Text.mono _ _ _ _ _)
      | (with_reducible exact wire_Text.mono _ _)
      | (with_reducible exact LeO.refl _)
      | (with_reducible exact LeO.none _)
      | (with_reducible refine LeO.ite ?_ ?_)
      | (with_reducible refine LeO.bind ?_ (fun _ => ?_))
      | exact ih0 _ _ _ _
      | exact ih1 _ _ _ _ _
      | exact ih2 _ _ _ _ _ _ _ _ _
      | exact ih3 _ _ _ _ _ _ _ _ _
      | exact ih4 _ _ _ _ _
      | exact ih5 _ _ _ _ _ _ _ _
      | exact ih6 _ _ _ _ _ _ _
      | exact wire_Nums.mono _ _
      | exact wire_Reader_Num.mono _ _ _ _ _
      | exact wire_Reader_Text.mono _ _ _ _ _
      | exact wire_Text.mono _ _
      | exact LeO.none _
      | refine LeO.ite ?_ ?_
      | refine LeO.bind ?_ (fun _ => ?_)
    · intro y0 y1 y2 y3 y4 y5 y6 y7 y8
      unfold shuttlecocklaw02_WireBack.l2
      repeat' first
      | (with_reducible exact ih0 _ _ _ _)
      | (with_reducible exact ih1 _ _ _ _ _)
      | (with_reducible exact ih2 _ _ _ _ _ _ _ _ _)
      | (with_reducible exact ih3 _ _ _ _ _ _ _ _ _)
      | (with_reducible exact ih4 _ _ _ _ _)
      | (with_reducible exact ih5 _ _ _ _ _ _ _ _)
      | (with_reducible exact ih6 _ _ _ _ _ _ _)
      | (with_reducible exact wire_Nums.mono _ _)
      | (with_reducible exact wire_Reader_Num.mono _ _ _ _ _)
      | (with_reducible exact wire_Reader_Text.mono _ _ _ _ _)
      | (with_reducible exact wire_Text.mono _ _)
      | (with_reducible exact LeO.refl _)
      | (with_reducible exact LeO.none _)
      | (with_reducible refine LeO.ite ?_ ?_)
      | (with_reducible refine LeO.bind ?_ (fun _ => ?_))
      | exact ih0 _ _ _ _
      | exact ih1 _ _ _ _ _
      | exact ih2 _ _ _ _ _ _ _ _ _
      | exact ih3 _ _ _ _ _ _ _ _ _
      | exact ih4 _ _ _ _ _
      | exact ih5 _ _ _ _ _ _ _ _
      | exact ih6 _ _ _ _ _ _ _
      | exact wire_Nums.mono _ _
      | exact wire_Reader_Num.mono _ _ _ _ _
      | exact wire_Reader_Text.mono _ _ _ _ _
      | exact wire_Text.mono _ _
      | exact LeO.none _
      | refine LeO.ite ?_ ?_
      | refine LeO.bind ?_ (fun _ => ?_)
    · intro y0 y1 y2 y3 y4
      unfold shuttlecocklaw02_WireBack.j4
      repeat' first
      | (with_reducible exact ih0 _ _ _ _)
      | (with_reducible exact ih1 _ _ _ _ _)
      | (with_reducible exact ih2 _ _ _ _ _ _ _ _ _)
      | (with_reducible exact ih3 _ _ _ _ _ _ _ _ _)
      | (with_reducible exact ih4 _ _ _ _ _)
      | (with_reducible exact ih5 _ _ _ _ _ _ _ _)
      | (with_reducible exact ih6 _ _ _ _ _ _ _)
      | (with_reducible exact wire_Nums.mono _ _)
      | (with_reducible exact wire_Reader_Num.mono _ _ _ _ _)
      | (with_reducible exact wire_Reader_Text.mono _ _ _ _ _)
      | (with_reducible exact wire_Text.mono _ _)
      | (with_reducible exact LeO.refl _)
      | (with_reducible exact LeO.none _)
      | (with_reducible refine LeO.ite ?_ ?_)
      | (with_reducible refine LeO.bind ?_ (fun _ => ?_))
      | exact ih0 _ _ _ _
      | exact ih1 _ _ _ _ _
      | exact ih2 _ _ _ _ _ _ _ _ _
      | exact ih3 _ _ _ _ _ _ _ _ _
      | exact ih4 _ _ _ _ _
      | exact ih5 _ _ _ _ _ _ _ _
      | exact ih6 _ _ _ _ _ _ _
      | exact wire_Nums.mono _ _
      | exact wire_Reader_Num.mono _ _ _ _ _
      | exact wire_Reader_Text.mono _ _ _ _ _
      | exact wire_Text.mono _ _
      | exact LeO.none _
      | refine LeO.ite ?_ ?_
      | refine LeO.bind ?_ (fun _ => ?_)
    · intro y0 y1 y2 y3 y4 y5 y6 y7
      unfold shuttlecocklaw02_WireBack.l3
      repeat' first
      | (with_reducible exact ih0 _ _ _ _)
      | (with_reducible exact ih1 _ _ _ _ _)
      | (with_reducible exact ih2 _ _ _ _ _ _ _ _ _)
      | (with_reducible exact ih3 _ _ _ _ _ _ _ _ _)
      | (with_reducible exact ih4 _ _ _ _ _)
      | (with_reducible exact ih5 _ _ _ _ _ _ _ _)
      | (with_reducible exact ih6 _ _ _ _ _ _ _)
      | (with_reducible exact wire_Nums.mono _ _)
      | (with_reducible exact wire_Reader_Num.mono _ _ _ _ _)
      | (with_reducible exact wire_Reader_Text.mono _ _ _ _ _)
      | (with_reducible exact wire_Text.mono _ _)
      | (with_reducible exact LeO.refl _)
      | (with_reducible exact LeO.none _)
      | (with_reducible refine LeO.ite ?_ ?_)
      | (with_reducible refine LeO.bind ?_ (fun _ => ?_))
      | exact ih0 _ _ _ _
      | exact ih1 _ _ _ _ _
      | exact ih2 _ _ _ _ _ _ _ _ _
      | exact ih3 _ _ _ _ _ _ _ _ _
      | exact ih4 _ _ _ _ _
      | exact ih5 _ _ _ _ _ _ _ _
      | exact ih6 _ _ _ _ _ _ _
      | exact wire_Nums.mono _ _
      | exact wire_Reader_Num.mono _ _ _ _ _
      | exact wire_Reader_Text.mono _ _ _ _ _
      | exact wire_Text.mono _ _
      | exact LeO.none _
      | refine LeO.ite ?_ ?_
      | refine LeO.bind ?_ (fun _ => ?_)
    · intro y0 y1 y2 y3 y4 y5 y6
      unfold shuttlecocklaw02_WireBack.l4
      repeat' first
      | (with_reducible exact ih0 _ _ _ _)
      | (with_reducible exact ih1 _ _ _ _ _)
      | (with_reducible exact ih2 _ _ _ _ _ _ _ _ _)
      | (with_reducible exact ih3 _ _ _ _ _ _ _ _ _)
      | (with_reducible exact ih4 _ _ _ _ _)
      | (with_reducible exact ih5 _ _ _ _ _ _ _ _)
      | (with_reducible exact ih6 _ _ _ _ _ _ _)
      | (with_reducible exact wire_Nums.mono _ _)
      | (with_reducible exact wire_Reader_Num.mono _ _ _ _ _)
      | (with_reducible exact wire_Reader_Text.mono _ _ _ _ _)
      | (with_reducible exact wire_Text.mono _ _)
      | (with_reducible exact LeO.refl _)
      | (with_reducible exact LeO.none _)
      | (with_reducible refine LeO.ite ?_ ?_)
      | (with_reducible refine LeO.bind ?_ (fun _ => ?_))
      | exact ih0 _ _ _ _
      | exact ih1 _ _ _ _ _
      | exact ih2 _ _ _ _ _ _ _ _ _
      | exact ih3 _ _ _ _ _ _ _ _ _
      | exact ih4 _ _ _ _ _
      | exact ih5 _ _ _ _ _ _ _ _
      | exact ih6 _ _ _ _ _ _ _
      | exact wire_Nums.mono _ _
      | exact wire_Reader_Num.mono _ _ _ _ _
      | exact wire_Reader_Text.mono _ _ _ _ _
      | exact wire_Text.mono _ _
      | exact LeO.none _
      | refine LeO.ite ?_ ?_
      | refine LeO.bind ?_ (fun _ => ?_)
theorem shuttlecocklaw02_WireBack.mono : ∀ a0 a1 a2 k, LeO (shuttlecocklaw02_WireBack.f k a0 a1 a2) (shuttlecocklaw02_WireBack.f (k + 1) a0 a1 a2) := by
  intro a0 a1 a2 k
  obtain ⟨ih0, ih1, ih2, ih3, ih4, ih5, ih6⟩ := shuttlecocklaw02_WireBack.mono_l k
  unfold shuttlecocklaw02_WireBack.f
  repeat' first
      | (with_reducible exact ih0 _ _ _ _)
      | (with_reducible exact ih1 _ _ _ _ _)
      | (with_reducible exact ih2 _ _ _ _ _ _ _ _ _)
      | (with_reducible exact ih3 _ _ _ _ _ _ _ _ _)
      | (with_reducible exact ih4 _ _ _ _ _)
      | (with_reducible exact ih5 _ _ _ _ _ _ _ _)
      | (with_reducible exact ih6 _ _ _ _ _ _ _)
      | (with_reducible exact wire_Nums.mono _ _)
      | (with_reducible exact wire_Reader_Num.mono _ _ _ _ _)
      | (with_reducible exact wire_Reader_Text.mono _ _ _ _ _)
      | (with_reducible exact wire_Text.mono _ _)
      | (with_reducible exact LeO.refl _)
      | (with_reducible exact LeO.none _)
      | (with_reducible refine LeO.ite ?_ ?_)
      | (with_reducible refine LeO.bind ?_ (fun _ => ?_))
      | exact ih0 _ _ _ _
      | exact ih1 _ _ _ _ _
      | exact ih2 _ _ _ _ _ _ _ _ _
      | exact ih3 _ _ _ _ _ _ _ _ _
      | exact ih4 _ _ _ _ _
      | exact ih5 _ _ _ _ _ _ _ _
      | exact ih6 _ _ _ _ _ _ _
      | exact wire_Nums.mono _ _
      | exact wire_Reader_Num.mono _ _ _ _ _
      | exact wire_Reader_Text.mono _ _ _ _ _
      | exact wire_Text.mono _ _
      | exact LeO.none _
      | refine LeO.ite ?_ ?_
      | refine LeO.bind ?_ (fun _ => ?_)
set_option maxHeartbeats 8000000 in
set_option maxRecDepth 100000 in
theorem shuttlecocklaw02_WireBack.calls (k : Nat) (A0 : Option Addr) (c0 : Nat) (l0 : List ByteArray) (A1 : Option Addr) (c1 : Nat) (l1 : List Int) (a2 : Int) (r : Bool) (w : World) (hr0 : Kd.C Kd.string w A0 l0.length l0) (hc0 : l0.length ≤ c0) (hr1 : Kd.C (Kd.int .i64) w A1 l1.length l1) (hc1 : l1.length ≤ c1) (h : shuttlecocklaw02_WireBack.f k l0 l1 a2 = some r) :
    Calls Try.prog 5 #[.slice A0 l0.length c0, .slice A1 l1.length c1, .int .i64 a2] w fun e w' => e = .returned (.bool r) ∧ Below w.heap.size w w' := by
  have HR0 := Aside0.mk hr0
  have HC0 := Aside0.mk hc0
  clear hr0 hc0
  have HR1 := Aside0.mk hr1
  have HC1 := Aside0.mk hc1
  clear hr1 hc1
  have HB := Aside0.mk (Below.refl w.heap.size w)
  have H : ((shuttlecocklaw02_fixed.f).bind fun t294 => (if t294 = true then (if (l0.length : Int) > 50 then (shuttlecocklaw02_WireBack.j0 k l0 l1 a2 true) else (if (l1.length : Int) > 100 then (shuttlecocklaw02_WireBack.j0 k l0 l1 a2 true) else (if (l1.length : Int) > 0 then ((wire_Nums.f k l1).bind fun t295 => (shuttlecocklaw02_WireBack.j0 k l0 l1 a2 (t295.toList == ([] : List UInt8)))) else (shuttlecocklaw02_WireBack.j0 k l0 l1 a2 false)))) else (shuttlecocklaw02_WireBack.j0 k l0 l1 a2 true))) = some r := h
  clear h
  have HC4 := Aside0.mk H
  clear H
  go_enter Try.func5, Try.ntmps5
  go_upto_region 1 with (fail)
  go_cut [38] (fun v38 wc => ∃ (kq : Nat) (x38_3 : Bool), v38 = .bool x38_3 ∧ Aside0 (shuttlecocklaw02_WireBack.j0 kq l0 l1 a2 x38_3 = some r) ∧ Aside0 (kq ≤ k) ∧ Aside0 (Below w.heap.size w wc))
  case first =>
    have H := HC4.out
    clear HC4
    replace H := Option.bind_eq_some_iff.mp H
    obtain ⟨t294, A50, H⟩ := H
    replace H : (if t294 = true then (if (l0.length : Int) > 50 then (shuttlecocklaw02_WireBack.j0 k l0 l1 a2 true) else (if (l1.length : Int) > 100 then (shuttlecocklaw02_WireBack.j0 k l0 l1 a2 true) else (if (l1.length : Int) > 0 then ((wire_Nums.f k l1).bind fun t295 => (shuttlecocklaw02_WireBack.j0 k l0 l1 a2 (t295.toList == ([] : List UInt8)))) else (shuttlecocklaw02_WireBack.j0 k l0 l1 a2 false)))) else (shuttlecocklaw02_WireBack.j0 k l0 l1 a2 true)) = some r := H
    have A5 := Aside0.mk A50
    clear A50
    by_cases c6 : t294 = true
    · subst c6
      have H1 : (if (l0.length : Int) > 50 then (shuttlecocklaw02_WireBack.j0 k l0 l1 a2 true) else (if (l1.length : Int) > 100 then (shuttlecocklaw02_WireBack.j0 k l0 l1 a2 true) else (if (l1.length : Int) > 0 then ((wire_Nums.f k l1).bind fun t295 => (shuttlecocklaw02_WireBack.j0 k l0 l1 a2 (t295.toList == ([] : List UInt8)))) else (shuttlecocklaw02_WireBack.j0 k l0 l1 a2 false)))) = some r := by rw [if_pos rfl] at H; exact H
      clear H
      have H := H1
      clear H1
      by_cases c7 : (l0.length : Int) > 50
      · rw [if_pos c7] at H
        have c7b0 : decide (50 < (l0.length : Int)) = true := decide_eq_true c7
        have c7b1 : decide (50 < l0.length) = true := decide_eq_true (by omega)
        clear c7
        (first | rw [c7b0] | (simp only [i64_w, i32_w]; rw [c7b0]) | skip)
        have H' := Aside0.mk H
        clear H
        go_wp2_with (first | ((with_reducible refine gate_callee (f := 9) rfl ?_); refine goesL_ (some 17) rfl rfl Try.func9 (by kernel_rfl) rfl #[] rfl (by (try simp only [List.map_toArray, List.map_cons, List.map_nil]); first | done | rfl | (simp only [List.length_drop, List.length_take]; rfl)) ?_; (with_reducible refine (shuttlecocklaw02_fixed.calls  true _ A5.out).mono ?_); rintro e w8 ⟨rfl, hb⟩; refine ⟨_, rfl, ?_⟩; have n0_ := Aside0.mk (below_step (by repeat (first | (with_reducible first | exact HB.out | apply below_alloc | apply pw_below_drewN | apply below_drew1) | exact HB.out)) hb); clear HB; have HB := n0_; clear n0_; (try clear hb); (try clear hb2); (try clear hk); (try clear hi)))
        go_meet
        case rel => exact ⟨_, (true), (by first | rfl | (simp; done) | (simp [*]; done)), H', ⟨by first | omega | exact Nat.le_refl _⟩, ⟨by repeat (first | (with_reducible first | exact HB.out | apply below_alloc | apply pw_below_drewN | apply below_drew1) | exact HB.out)⟩⟩
      · rw [if_neg c7] at H
        have c7b0 : decide (50 < (l0.length : Int)) = false := decide_eq_false c7
        have c7b1 : decide (50 < l0.length) = false := decide_eq_false (by omega)
        clear c7
        (first | rw [c7b0] | (simp only [i64_w, i32_w]; rw [c7b0]) | skip)
        by_cases c9 : (l1.length : Int) > 100
        · rw [if_pos c9] at H
          have c9b0 : decide (100 < (l1.length : Int)) = true := decide_eq_true c9
          have c9b1 : decide (100 < l1.length) = true := decide_eq_true (by omega)
          clear c9
          have H' := Aside0.mk H
          clear H
          go_wp2_with (first | ((with_reducible refine gate_callee (f := 9) rfl ?_); refine goesL_ (some 17) rfl rfl Try.func9 (by kernel_rfl) rfl #[] rfl (by (try simp only [List.map_toArray, List.map_cons, List.map_nil]); first | done | rfl | (simp only [List.length_drop, List.length_take]; rfl)) ?_; (with_reducible refine (shuttlecocklaw02_fixed.calls  true _ A5.out).mono ?_); rintro e w10 ⟨rfl, hb⟩; refine ⟨_, rfl, ?_⟩; have n0_ := Aside0.mk (below_step (by repeat (first | (with_reducible first | exact HB.out | apply below_alloc | apply pw_below_drewN | apply below_drew1) | exact HB.out)) hb); clear HB; have HB := n0_; clear n0_; (try clear hb); (try clear hb2); (try clear hk); (try clear hi)))
          go_meet
          case rel => exact ⟨_, (true), (by first | rfl | (simp; done) | (simp [*]; done)), H', ⟨by first | omega | exact Nat.le_refl _⟩, ⟨by repeat (first | (with_reducible first | exact HB.out | apply below_alloc | apply pw_below_drewN | apply below_drew1) | exact HB.out)⟩⟩
        · rw [if_neg c9] at H
          have c9b0 : decide (100 < (l1.length : Int)) = false := decide_eq_false c9
          have c9b1 : decide (100 < l1.length) = false := decide_eq_false (by omega)
          clear c9
          by_cases c11 : (l1.length : Int) > 0
          · rw [if_pos c11] at H
            have c11b0 : decide (0 < (l1.length : Int)) = true := decide_eq_true c11
            have c11b1 : decide (0 < l1.length) = true := decide_eq_true (by omega)
            clear c11
            replace H := Option.bind_eq_some_iff.mp H
            obtain ⟨t295, A120, H⟩ := H
            replace H : (shuttlecocklaw02_WireBack.j0 k l0 l1 a2 (t295.toList == ([] : List UInt8))) = some r := H
            have A12 := Aside0.mk A120
            clear A120
            have H' := Aside0.mk H
            clear H
            go_wp2_with (first | ((with_reducible refine gate_callee (f := 9) rfl ?_); refine goesL_ (some 17) rfl rfl Try.func9 (by kernel_rfl) rfl #[] rfl (by (try simp only [List.map_toArray, List.map_cons, List.map_nil]); first | done | rfl | (simp only [List.length_drop, List.length_take]; rfl)) ?_; (with_reducible refine (shuttlecocklaw02_fixed.calls  true _ A5.out).mono ?_); rintro e w13 ⟨rfl, hb⟩; refine ⟨_, rfl, ?_⟩; have n0_ := Aside0.mk (below_step (by repeat (first | (with_reducible first | exact HB.out | apply below_alloc | apply pw_below_drewN | apply below_drew1) | exact HB.out)) hb); clear HB; have HB := n0_; clear n0_; (try clear hb); (try clear hb2); (try clear hk); (try clear hi)) | (go_at_call 27; (with_reducible refine (wire_Nums.calls k _ _ l1 t295 _ ?side1 ?side2 A12.out).mono ?_); (case side1 => repeat (first | exact (Kd.C_below HR1.out HB.out) | (with_reducible refine Kd.C_alloc ?_ _) | (with_reducible refine Kd.C_drewN ?_ _) | (with_reducible refine Kd.C_drew ?_))); (case side2 => exact HC1.out); rintro e w14 ⟨rfl, hb⟩; have n0_ := Aside0.mk (below_step (by repeat (first | (with_reducible first | exact HB.out | apply below_alloc | apply pw_below_drewN | apply below_drew1) | exact HB.out)) hb); clear HB; have HB := n0_; clear n0_; (try clear hb); (try clear hb2); (try clear hk); (try clear hi)))
            go_meet
            case rel => exact ⟨_, ((t295.toList == ([] : List UInt8))), (by first | rfl | (simp; done) | (simp [*]; done)), H', ⟨by first | omega | exact Nat.le_refl _⟩, ⟨by repeat (first | (with_reducible first | exact HB.out | apply below_alloc | apply pw_below_drewN | apply below_drew1) | exact HB.out)⟩⟩
          · rw [if_neg c11] at H
            have c11b0 : decide (0 < (l1.length : Int)) = false := decide_eq_false c11
            have c11b1 : decide (0 < l1.length) = false := decide_eq_false (by omega)
            clear c11
            have H' := Aside0.mk H
            clear H
            go_wp2_with (first | ((with_reducible refine gate_callee (f := 9) rfl ?_); refine goesL_ (some 17) rfl rfl Try.func9 (by kernel_rfl) rfl #[] rfl (by (try simp only [List.map_toArray, List.map_cons, List.map_nil]); first | done | rfl | (simp only [List.length_drop, List.length_take]; rfl)) ?_; (with_reducible refine (shuttlecocklaw02_fixed.calls  true _ A5.out).mono ?_); rintro e w15 ⟨rfl, hb⟩; refine ⟨_, rfl, ?_⟩; have n0_ := Aside0.mk (below_step (by repeat (first | (with_reducible first | exact HB.out | apply below_alloc | apply pw_below_drewN | apply below_drew1) | exact HB.out)) hb); clear HB; have HB := n0_; clear n0_; (try clear hb); (try clear hb2); (try clear hk); (try clear hi)))
            go_meet
            case rel => exact ⟨_, (false), (by first | rfl | (simp; done) | (simp [*]; done)), H', ⟨by first | omega | exact Nat.le_refl _⟩, ⟨by repeat (first | (with_reducible first | exact HB.out | apply below_alloc | apply pw_below_drewN | apply below_drew1) | exact HB.out)⟩⟩
    · replace c6 := Bool.eq_false_iff.mpr c6
      subst c6
      have H1 : (shuttlecocklaw02_WireBack.j0 k l0 l1 a2 true) = some r := by rw [if_neg (show ¬ (false = true) by decide)] at H; exact H
      clear H
      have H := H1
      clear H1
      have H' := Aside0.mk H
      clear H
      go_wp2_with (first | ((with_reducible refine gate_callee (f := 9) rfl ?_); refine goesL_ (some 17) rfl rfl Try.func9 (by kernel_rfl) rfl #[] rfl (by (try simp only [List.map_toArray, List.map_cons, List.map_nil]); first | done | rfl | (simp only [List.length_drop, List.length_take]; rfl)) ?_; (with_reducible refine (shuttlecocklaw02_fixed.calls  false _ A5.out).mono ?_); rintro e w16 ⟨rfl, hb⟩; refine ⟨_, rfl, ?_⟩; have n0_ := Aside0.mk (below_step (by repeat (first | (with_reducible first | exact HB.out | apply below_alloc | apply pw_below_drewN | apply below_drew1) | exact HB.out)) hb); clear HB; have HB := n0_; clear n0_; (try clear hb); (try clear hb2); (try clear hk); (try clear hi)))
      go_meet
      case rel => exact ⟨_, (true), (by first | rfl | (simp; done) | (simp [*]; done)), H', ⟨by first | omega | exact Nat.le_refl _⟩, ⟨by repeat (first | (with_reducible first | exact HB.out | apply below_alloc | apply pw_below_drewN | apply below_drew1) | exact HB.out)⟩⟩
  case rest =>
    clear HC4
    try clear c1
    try clear p2
    try clear c5
    try clear c6
    try clear c7
    try clear c7b0
    try clear c7b1
    try clear c9
    try clear c9b0
    try clear c9b1
    try clear c11
    try clear c11b0
    try clear c11b1
    obtain ⟨kq, x38_3, rfl, HA, HJ3, HB⟩ := hcut
    cases kq with
    | zero => exact absurd HA.out (by simp [shuttlecocklaw02_WireBack.j0])
    | succ kj3 =>
      have H := HA.out
      clear HA
      simp only [shuttlecocklaw02_WireBack.j0] at H
      by_cases c17 : x38_3 = true
      · subst c17
        have H1 : ((shuttlecocklaw02_fixed.f).bind fun t296 => (some t296)) = some r := by rw [if_pos rfl] at H; exact H
        clear H
        have H := H1
        clear H1
        replace H := Option.bind_eq_some_iff.mp H
        obtain ⟨t296, A180, H⟩ := H
        replace H : (some t296) = some r := H
        have A18 := Aside0.mk A180
        clear A180
        obtain rfl := Option.some.inj H
        go_wp2_with (first | ((with_reducible refine gate_callee (f := 9) rfl ?_); refine goesL_ (some 39) rfl rfl Try.func9 (by kernel_rfl) rfl #[] rfl (by (try simp only [List.map_toArray, List.map_cons, List.map_nil]); first | done | rfl | (simp only [List.length_drop, List.length_take]; rfl)) ?_; (with_reducible refine (shuttlecocklaw02_fixed.calls  t296 _ A18.out).mono ?_); rintro e w19 ⟨rfl, hb⟩; refine ⟨_, rfl, ?_⟩; have n0_ := Aside0.mk (below_step (by repeat (first | (with_reducible first | exact HB.out | apply below_alloc | apply pw_below_drewN | apply below_drew1) | exact HB.out)) hb); clear HB; have HB := n0_; clear n0_; (try clear hb); (try clear hb2); (try clear hk); (try clear hi)))
        go_ret
        exact ⟨by first | rfl | (simp [errW_none, errW_some] <;> rfl) | (simp [*, errW_none, errW_some] <;> rfl) | (simp [Aid.ne_nil, Aid.eq_nil, errW_none, errW_some]; done), by repeat (first | (with_reducible first | exact HB.out | apply below_alloc | apply pw_below_drewN | apply below_drew1) | exact HB.out)⟩
      · replace c17 := Bool.eq_false_iff.mpr c17
        subst c17
        have H1 : ((wire_Nums.f kj3 l1).bind fun t297 => (shuttlecocklaw02_WireBack.l0 kj3 l0 l1 a2 t297 0)) = some r := by rw [if_neg (show ¬ (false = true) by decide)] at H; exact H
        clear H
        have H := H1
        clear H1
        replace H := Option.bind_eq_some_iff.mp H
        obtain ⟨t297, A200, H⟩ := H
        replace H : (shuttlecocklaw02_WireBack.l0 kj3 l0 l1 a2 t297 0) = some r := H
        have A20 := Aside0.mk A200
        clear A200
        have H' := Aside0.mk H
        clear H
        go_wp2_with (first | ((with_reducible refine gate_callee (f := 27) rfl ?_); refine goesL_ (some 41) rfl rfl Try.func27 (by kernel_rfl) rfl #[.slice A1 l1.length c1] rfl (by (try simp only [List.map_toArray, List.map_cons, List.map_nil]); first | done | rfl | (simp only [List.length_drop, List.length_take]; rfl)) ?_; (with_reducible refine (wire_Nums.calls kj3 _ _ l1 t297 _ ?side1 ?side2 A20.out).mono ?_); (case side1 => repeat (first | exact (Kd.C_below HR1.out HB.out) | (with_reducible refine Kd.C_alloc ?_ _) | (with_reducible refine Kd.C_drewN ?_ _) | (with_reducible refine Kd.C_drew ?_))); (case side2 => exact HC1.out); rintro e w21 ⟨rfl, hb⟩; refine ⟨_, rfl, ?_⟩; have n0_ := Aside0.mk (below_step (by repeat (first | (with_reducible first | exact HB.out | apply below_alloc | apply pw_below_drewN | apply below_drew1) | exact HB.out)) hb); clear HB; have HB := n0_; clear n0_; (try clear hb); (try clear hb2); (try clear hk); (try clear hi)))
        go_loopg [7, 8] kj3 (fun kq v7 v8 w' => ∃ (x7_2 : ByteArray) (x8_2 : Int), v7 = .string x7_2 ∧ v8 = .int .i64 x8_2 ∧ Aside0 (shuttlecocklaw02_WireBack.l0 kq l0 l1 a2 x7_2 x8_2 = some r) ∧ Aside0 (kq ≤ kj3) ∧ Aside0 (Below w.heap.size w w'))
        case atStart => exact ⟨(t297), (0), (by first | rfl | (simp; done) | (simp [*]; done)), (by first | rfl | (simp; done) | (simp [*]; done)), H', ⟨Nat.le_refl _⟩, ⟨by repeat (first | (with_reducible first | exact HB.out | apply below_alloc | apply pw_below_drewN | apply below_drew1) | exact HB.out)⟩⟩
        case round =>
          clear H'
          try clear c1
          try clear c2
          try clear p2
          try clear c5
          try clear c6
          try clear c7
          try clear c7b0
          try clear c7b1
          try clear c9
          try clear c9b0
          try clear c9b1
          try clear c11
          try clear c11b0
          try clear c11b1
          try clear c17
          try clear p2
          obtain ⟨x7_2, x8_2, rfl, rfl, HA, HK2, HB⟩ := hrel
          cases gk with
          | zero => exact absurd HA.out (by simp [shuttlecocklaw02_WireBack.l0])
          | succ k2 =>
            have H := HA.out
            clear HA
            simp only [shuttlecocklaw02_WireBack.l0] at H
            by_cases c22 : x8_2 < (l0.length : Int)
            · rw [if_pos c22] at H
              have c22b0 : decide (x8_2 < (l0.length : Int)) = true := decide_eq_true c22
              clear c22
              by_cases c23 : 0 ≤ x8_2
              · rw [if_pos c23] at H
                have c23b0 : decide (0 ≤ x8_2) = true := decide_eq_true c23
                clear c23
                by_cases c24 : ((rdOf ByteArray.empty l0 x8_2).size : Int) > 1000
                · rw [if_pos c24] at H
                  have c24b0 : decide (1000 < ((rdOf ByteArray.empty l0 x8_2).size : Int)) = true := decide_eq_true c24
                  have c24b1 : decide (1000 < (rdOf ByteArray.empty l0 x8_2).size) = true := decide_eq_true (by omega)
                  clear c24
                  obtain rfl := Option.some.inj H
                  have p298 : 0 ≤ (x8_2 : Int) := of_decide_eq_true (by first | (with_reducible assumption) | assumption)
                  have q298 : x8_2 < (l0.length : Int) := of_decide_eq_true (by first | (with_reducible assumption) | assumption)
                  obtain ⟨ad298, e298, hx298_0⟩ := Kd.at_string HR0.out x8_2 p298 q298
                  cases e298
                  replace hx298_0 := (HB.out.cell (World.block_lt_of_cell? w _ hx298_0)).trans hx298_0
                  replace p298 := eq_true p298
                  replace q298 := eq_true q298
                  go_wp2
                  go_ret
                  exact ⟨by first | rfl | (simp [errW_none, errW_some] <;> rfl) | (simp [*, errW_none, errW_some] <;> rfl) | (simp [Aid.ne_nil, Aid.eq_nil, errW_none, errW_some]; done), by repeat (first | (with_reducible first | exact HB.out | apply below_alloc | apply pw_below_drewN | apply below_drew1) | exact HB.out)⟩
                · rw [if_neg c24] at H
                  have c24b0 : decide (1000 < ((rdOf ByteArray.empty l0 x8_2).size : Int)) = false := decide_eq_false c24
                  have c24b1 : decide (1000 < (rdOf ByteArray.empty l0 x8_2).size) = false := decide_eq_false (by omega)
                  clear c24
                  replace H := Option.bind_eq_some_iff.mp H
                  obtain ⟨t300, A250, H⟩ := H
                  replace H : (if x7_2.size + t300.size ≤ 9223372036854775807 then (shuttlecocklaw02_WireBack.l0 k2 l0 l1 a2 (x7_2 ++ t300) (wrap64 (x8_2 + 1))) else (none)) = some r := H
                  have A25 := Aside0.mk A250
                  clear A250
                  by_cases c26 : x7_2.size + t300.size ≤ 9223372036854775807
                  · rw [if_pos c26] at H
                    have c26b0 := eq_true c26
                    have c26b1 : decide (x7_2.size + t300.size ≤ 9223372036854775807) = true := decide_eq_true c26
                    try have c26b2 : (9223372036854775807 < x7_2.size + t300.size) = False := eq_false (Nat.not_lt.2 c26)
                    have H' := Aside0.mk H
                    clear H
                    have p298 : 0 ≤ (x8_2 : Int) := of_decide_eq_true (by first | (with_reducible assumption) | assumption)
                    have q298 : x8_2 < (l0.length : Int) := of_decide_eq_true (by first | (with_reducible assumption) | assumption)
                    obtain ⟨ad298, e298, hx298_0⟩ := Kd.at_string HR0.out x8_2 p298 q298
                    cases e298
                    replace hx298_0 := (HB.out.cell (World.block_lt_of_cell? w _ hx298_0)).trans hx298_0
                    replace p298 := eq_true p298
                    replace q298 := eq_true q298
                    have p299 : 0 ≤ (x8_2 : Int) := of_decide_eq_true (by first | (with_reducible assumption) | assumption)
                    have q299 : x8_2 < (l0.length : Int) := of_decide_eq_true (by first | (with_reducible assumption) | assumption)
                    obtain ⟨ad299, e299, hx299_0⟩ := Kd.at_string HR0.out x8_2 p299 q299
                    obtain rfl : ad298 = ad299 := (by injection e299)
                    replace hx299_0 := (HB.out.cell (World.block_lt_of_cell? w _ hx299_0)).trans hx299_0
                    replace p299 := eq_true p299
                    replace q299 := eq_true q299
                    go_wp2_with (first | ((with_reducible refine gate_callee (f := 25) rfl ?_); refine goesL_ (some 59) rfl rfl Try.func25 (by kernel_rfl) rfl #[.string (rdOf ByteArray.empty l0 x8_2)] rfl (by (try simp only [List.map_toArray, List.map_cons, List.map_nil]); first | done | rfl | (simp only [List.length_drop, List.length_take]; rfl)) ?_; (with_reducible refine (wire_Text.calls k2 (rdOf ByteArray.empty l0 x8_2) t300 _ A25.out).mono ?_); rintro e w27 ⟨rfl, hb⟩; refine ⟨_, rfl, ?_⟩; have n0_ := Aside0.mk (below_step (by repeat (first | (with_reducible first | exact HB.out | apply below_alloc | apply pw_below_drewN | apply below_drew1) | exact HB.out)) hb); clear HB; have HB := n0_; clear n0_; (try clear hb); (try clear hb2); (try clear hk); (try clear hi)))
                    go_roundg k2
                    case measure => have := HJ3.out; have := HK2.out; omega
                    case rel => exact ⟨(x7_2 ++ t300), (wrap64 (x8_2 + 1)), (by first | rfl | (simp; done) | (simp [*]; done)), (by first | rfl | (simp; done) | (simp [*]; done)), H', ⟨by have := HJ3.out; have := HK2.out; omega⟩, ⟨by repeat (first | (with_reducible first | exact HB.out | apply below_alloc | apply pw_below_drewN | apply below_drew1) | exact HB.out)⟩⟩
                  · rw [if_neg c26] at H
                    exact absurd H (by simp)
              · rw [if_neg c23] at H
                exact absurd H (by simp)
            · rw [if_neg c22] at H
              have c22b0 : decide (x8_2 < (l0.length : Int)) = false := decide_eq_false c22
              clear c22
              replace H := Option.bind_eq_some_iff.mp H
              obtain ⟨⟨t301, t302, t303, t304⟩, A280, H⟩ := H
              replace H : (shuttlecocklaw02_WireBack.l1 k2 l0 l1 a2 x7_2 0 t301 t302 t303 t304) = some r := H
              have A28 := Aside0.mk A280
              clear A280
              have H' := Aside0.mk H
              clear H
              go_wp2_with (first | ((with_reducible refine gate_callee (f := 10) rfl ?_); refine goesL_ (some 62) rfl rfl Try.func10 (by kernel_rfl) rfl #[.string x7_2] rfl (by (try simp only [List.map_toArray, List.map_cons, List.map_nil]); first | done | rfl | (simp only [List.length_drop, List.length_take]; rfl)) ?_; (with_reducible refine (wire_New.calls x7_2 t301 t302 t303 t304 w _ ?side1 A28.out).mono ?_); (case side1 => repeat (first | (with_reducible first | exact HB.out | apply below_alloc | apply pw_below_drewN | apply below_drew1) | exact HB.out)); rintro e w29 ⟨g305, rfl, hi, hb, hb2⟩; refine ⟨_, rfl, ?_⟩; have n0_ := Aside0.mk (hb); have n1_ := Aside0.mk (hi); clear HB; have HB := n0_; have HI305 := n1_; clear n0_ n1_; (try clear hb); (try clear hb2); (try clear hk); (try clear hi)))
              go_loopg [10] k2 (fun kq v10 w' => ∃ (x10_3 : Int) (x306000_3 : ByteArray) (x306001_3 : Int) (x306002_3 : Int) (x306003_3 : Int), v10 = .int .i64 x10_3 ∧ Aside0 (shuttlecocklaw02_WireBack.l1 kq l0 l1 a2 x7_2 x10_3 x306000_3 x306001_3 x306002_3 x306003_3 = some r) ∧ Aside0 (kq ≤ k2) ∧ Aside0 (IsS50 w w' g305 x306000_3 x306001_3 x306002_3 x306003_3) ∧ Aside0 (Below w.heap.size w w'))
              case atStart => exact ⟨(0), (t301), (t302), (t303), (t304), (by first | rfl | (simp; done) | (simp [*]; done)), H', ⟨Nat.le_refl _⟩, ⟨by repeat (first | (with_reducible first | exact HI305.out | apply IsS50.alloc | apply IsS50.drewN | apply IsS50.drew | apply IsS50.set_0 | apply IsS50.set_1 | apply IsS50.set_2 | apply IsS50.set_3) | exact HI305.out)⟩, ⟨by repeat (first | (with_reducible first | exact HB.out | apply below_alloc | apply pw_below_drewN | apply below_drew1 | refine below_set ?_ (IsS50.ge HI305.out)) | exact HB.out)⟩⟩
              case round =>
                clear H'
                try clear c1
                try clear c2
                try clear p2
                try clear q2
                try clear hx2
                try clear c5
                try clear c6
                try clear p6
                try clear c7
                try clear c7b0
                try clear c7b1
                try clear c9
                try clear c9b0
                try clear c9b1
                try clear c10
                try clear c11
                try clear c11b0
                try clear c11b1
                try clear c17
                try clear c22
                try clear c22b0
                try clear c23
                try clear c23b0
                try clear c24
                try clear c24b0
                try clear c24b1
                try clear c25
                try clear c26
                try clear c26b0
                try clear c26b1
                try clear c26b2
                try clear c27
                try clear p29
                try clear q29
                try clear hx29
                try clear hx298_0
                try clear hx299_0
                try clear p2
                try clear p298
                try clear p299
                try clear q298
                try clear q299
                obtain ⟨x10_3, x306000_3, x306001_3, x306002_3, x306003_3, rfl, HA, HK3, HI305, HB⟩ := hrel
                cases gk with
                | zero => exact absurd HA.out (by simp [shuttlecocklaw02_WireBack.l1])
                | succ k3 =>
                  have H := HA.out
                  clear HA
                  simp only [shuttlecocklaw02_WireBack.l1] at H
                  by_cases c30 : x10_3 < (l1.length : Int)
                  · rw [if_pos c30] at H
                    have c30b0 : decide (x10_3 < (l1.length : Int)) = true := decide_eq_true c30
                    clear c30
                    replace H := Option.bind_eq_some_iff.mp H
                    obtain ⟨⟨t306, t307, t308, t309, t310⟩, A310, H⟩ := H
                    replace H : (if 0 ≤ x10_3 then (if t306 = (rd l1 x10_3) then (shuttlecocklaw02_WireBack.l1 k3 l0 l1 a2 x7_2 (wrap64 (x10_3 + 1)) t307 t308 t309 t310) else (some false)) else (none)) = some r := H
                    have A31 := Aside0.mk A310
                    clear A310
                    by_cases c32 : 0 ≤ x10_3
                    · rw [if_pos c32] at H
                      have c32b0 : decide (0 ≤ x10_3) = true := decide_eq_true c32
                      clear c32
                      by_cases c33 : t306 = (rd l1 x10_3)
                      · rw [if_pos c33] at H
                        have c33b0 : (t306 == (rd l1 x10_3)) = true := beq_iff_eq.mpr c33
                        have c33b1 : (t306 != (rd l1 x10_3)) = false := bne_eq_false_iff_eq.mpr c33
                        clear c33
                        have H' := Aside0.mk H
                        clear H
                        try go_wp2
                        have n0_ := Aside0.mk (IsS50.drew HI305.out)
                        have n1_ := Aside0.mk (below_drew1 HB.out)
                        clear HI305
                        clear HB
                        have HI305 := n0_
                        have HB := n1_
                        clear n0_ n1_
                        have p311 : 0 ≤ (x10_3 : Int) := of_decide_eq_true (by first | (with_reducible assumption) | assumption)
                        have q311 : x10_3 < (l1.length : Int) := of_decide_eq_true (by first | (with_reducible assumption) | assumption)
                        obtain ⟨ad311, e311, hx311_0⟩ := Kd.at_int HR1.out x10_3 p311 q311
                        have hw311_0 := hx311_0
                        cases e311
                        replace hx311_0 := (HB.out.cell (World.block_lt_of_cell? w _ hx311_0)).trans hx311_0
                        replace p311 := eq_true p311
                        replace q311 := eq_true q311
                        refine start_ (n := 7) (S := fun w' => w'.cell? (ad311.add (x10_3).toNat) = some (.int .i64 (rd l1 x10_3))) (ds := []) #[false, false, false, false, false, false, false] (by kernel_rfl) rfl rfl (((HB.out.cell (World.block_lt_of_cell? w _ hw311_0)).trans hw311_0)) (fun hHeld => ?_)
                        generalize wr.drew = w34 at HI305 HB hx311_0 hHeld ⊢
                        refine pure_ (i := 0) (N := some 69) (v := ?_) (a' := ?_) #[true, false, false, false, false, false, false] rfl rfl (by kernel_rfl) (fun _ _ _ h => h) (Or.inl ⟨by rfl, ?_⟩) ?_ ?_
                        rotate_left
                        · intro w'
                          go_simp
                          with_reducible rfl
                        rotate_left
                        · simp only [Act.put, List.setIfInBounds_toArray, List.set_cons_zero, List.set_cons_succ, i64_w, i32_w]
                          rfl
                        refine pure_ (i := 2) (N := some 71) (v := ?_) (a' := ?_) #[true, false, true, false, false, false, false] rfl rfl (by kernel_rfl) (fun _ _ _ h => h) (Or.inl ⟨by rfl, ?_⟩) ?_ ?_
                        rotate_left
                        · intro w'
                          go_simp
                          with_reducible rfl
                        rotate_left
                        · simp only [Act.put, List.setIfInBounds_toArray, List.set_cons_zero, List.set_cons_succ, i64_w, i32_w]
                          rfl
                        refine pure_ (i := 3) (N := some 72) (v := ?_) (a' := ?_) #[true, false, true, true, false, false, false] rfl rfl (by kernel_rfl) (fun _ _ _ h => h) (Or.inl ⟨by rfl, ?_⟩) ?_ ?_
                        rotate_left
                        · intro w'
                          go_simp
                          with_reducible rfl
                        rotate_left
                        · simp only [Act.put, List.setIfInBounds_toArray, List.set_cons_zero, List.set_cons_succ, i64_w, i32_w]
                          rfl
                        refine pure_ (i := 4) (N := some 73) (v := ?_) (a' := ?_) #[true, false, true, true, true, false, false] rfl rfl (by kernel_rfl) (fun _ _ _ h => h) (Or.inl ⟨by rfl, ?_⟩) ?_ ?_
                        rotate_left
                        · intro w'
                          go_simp
                          with_reducible rfl
                        rotate_left
                        · simp only [Act.put, List.setIfInBounds_toArray, List.set_cons_zero, List.set_cons_succ, i64_w, i32_w]
                          rfl
                        refine take_ (i := 5) (N := some 74) (v := ?_) (a' := ?_) #[true, false, true, true, true, true, false] rfl rfl (by kernel_rfl) (fun _ _ _ h => h) (Or.inl ⟨by rfl, ?_⟩) hHeld ?_ ?_
                        rotate_left
                        · intro w' s0
                          go_simp
                          with_reducible rfl
                        rotate_left
                        · simp only [Act.put, List.setIfInBounds_toArray, List.set_cons_zero, List.set_cons_succ, i64_w, i32_w]
                          rfl
                        refine one_ (i := 1) (N := some 70) #[true, true, true, true, true, true, false] rfl rfl (by kernel_rfl) (by decide) (fun K hK => ?_)
                        refine goes_ Try.func11 (by kernel_rfl) rfl #[.pointer (some ⟨g305, 0, none⟩)] (by rfl) rfl rfl (by (try simp only [List.map_toArray, List.map_cons, List.map_nil]); first | done | rfl | (simp only [List.length_drop, List.length_take]; rfl)) ?_
                        with_reducible refine (wire_Reader_Num.calls k3 g305 x306000_3 x306001_3 x306002_3 x306003_3 t306 t307 t308 t309 t310 w _ ?side1 ?side2 A31.out).mono ?_
                        (case side1 => repeat (first | (with_reducible first | exact HI305.out | apply IsS50.alloc | apply IsS50.drewN | apply IsS50.drew | apply IsS50.set_0 | apply IsS50.set_1 | apply IsS50.set_2 | apply IsS50.set_3) | exact HI305.out))
                        (case side2 => repeat (first | (with_reducible first | exact HB.out | apply below_alloc | apply pw_below_drewN | apply below_drew1 | refine below_set ?_ (IsS50.ge HI305.out)) | exact HB.out))
                        rintro e w35 ⟨rfl, hi, hb, hk⟩
                        refine ⟨_, rfl, ?_⟩
                        have n0_ := Aside0.mk (hb)
                        have n1_ := Aside0.mk (hi)
                        clear HB
                        clear HI305
                        have HB := n0_
                        have HI305 := n1_
                        clear n0_ n1_
                        (try clear hb)
                        (try clear hb2)
                        (try clear hk)
                        (try clear hi)
                        refine hK.out _ _ (((HB.out.cell (World.block_lt_of_cell? w _ hw311_0)).trans hw311_0)) (fun hHeld => ?_)
                        clear hK K
                        refine norm_ (a' := ?_) ?_ ?_
                        rotate_left
                        · show Act.put _ (some 70) _ = _
                          simp only [Act.put, List.setIfInBounds_toArray, List.set_cons_zero, List.set_cons_succ, i64_w, i32_w]
                          rfl
                        refine pure_ (i := 6) (N := some 75) (v := ?_) (a' := ?_) #[true, true, true, true, true, true, true] rfl rfl (by kernel_rfl) (fun _ _ _ h => h) (Or.inl ⟨by rfl, ?_⟩) ?_ ?_
                        rotate_left
                        · intro w'
                          go_simp
                          with_reducible rfl
                        rotate_left
                        · simp only [Act.put, List.setIfInBounds_toArray, List.set_cons_zero, List.set_cons_succ, i64_w, i32_w]
                          rfl
                        refine done_ (by kernel_rfl) ?_
                        try go_wp2
                        go_roundg k3
                        case measure => have := HJ3.out; have := HK2.out; have := HK3.out; omega
                        case rel => exact ⟨(wrap64 (x10_3 + 1)), (t307), (t308), (t309), (t310), (by first | rfl | (simp; done) | (simp [*]; done)), H', ⟨by have := HJ3.out; have := HK2.out; have := HK3.out; omega⟩, ⟨by repeat (first | (with_reducible first | exact HI305.out | apply IsS50.alloc | apply IsS50.drewN | apply IsS50.drew | apply IsS50.set_0 | apply IsS50.set_1 | apply IsS50.set_2 | apply IsS50.set_3) | exact HI305.out)⟩, ⟨by repeat (first | (with_reducible first | exact HB.out | apply below_alloc | apply pw_below_drewN | apply below_drew1 | refine below_set ?_ (IsS50.ge HI305.out)) | exact HB.out)⟩⟩
                      · rw [if_neg c33] at H
                        have c33b0 : (t306 == (rd l1 x10_3)) = false := beq_eq_false_iff_ne.mpr c33
                        have c33b1 : (t306 != (rd l1 x10_3)) = true := bne_iff_ne.mpr c33
                        obtain rfl := Option.some.inj H
                        try go_wp2
                        have n0_ := Aside0.mk (IsS50.drew HI305.out)
                        have n1_ := Aside0.mk (below_drew1 HB.out)
                        clear HI305
                        clear HB
                        have HI305 := n0_
                        have HB := n1_
                        clear n0_ n1_
                        have p311 : 0 ≤ (x10_3 : Int) := of_decide_eq_true (by first | (with_reducible assumption) | assumption)
                        have q311 : x10_3 < (l1.length : Int) := of_decide_eq_true (by first | (with_reducible assumption) | assumption)
                        obtain ⟨ad311, e311, hx311_0⟩ := Kd.at_int HR1.out x10_3 p311 q311
                        have hw311_0 := hx311_0
                        cases e311
                        replace hx311_0 := (HB.out.cell (World.block_lt_of_cell? w _ hx311_0)).trans hx311_0
                        replace p311 := eq_true p311
                        replace q311 := eq_true q311
                        refine start_ (n := 7) (S := fun w' => w'.cell? (ad311.add (x10_3).toNat) = some (.int .i64 (rd l1 x10_3))) (ds := []) #[false, false, false, false, false, false, false] (by kernel_rfl) rfl rfl (((HB.out.cell (World.block_lt_of_cell? w _ hw311_0)).trans hw311_0)) (fun hHeld => ?_)
                        generalize wr.drew = w36 at HI305 HB hx311_0 hHeld ⊢
                        refine pure_ (i := 0) (N := some 69) (v := ?_) (a' := ?_) #[true, false, false, false, false, false, false] rfl rfl (by kernel_rfl) (fun _ _ _ h => h) (Or.inl ⟨by rfl, ?_⟩) ?_ ?_
                        rotate_left
                        · intro w'
                          go_simp
                          with_reducible rfl
                        rotate_left
                        · simp only [Act.put, List.setIfInBounds_toArray, List.set_cons_zero, List.set_cons_succ, i64_w, i32_w]
                          rfl
                        refine pure_ (i := 2) (N := some 71) (v := ?_) (a' := ?_) #[true, false, true, false, false, false, false] rfl rfl (by kernel_rfl) (fun _ _ _ h => h) (Or.inl ⟨by rfl, ?_⟩) ?_ ?_
                        rotate_left
                        · intro w'
                          go_simp
                          with_reducible rfl
                        rotate_left
                        · simp only [Act.put, List.setIfInBounds_toArray, List.set_cons_zero, List.set_cons_succ, i64_w, i32_w]
                          rfl
                        refine pure_ (i := 3) (N := some 72) (v := ?_) (a' := ?_) #[true, false, true, true, false, false, false] rfl rfl (by kernel_rfl) (fun _ _ _ h => h) (Or.inl ⟨by rfl, ?_⟩) ?_ ?_
                        rotate_left
                        · intro w'
                          go_simp
                          with_reducible rfl
                        rotate_left
                        · simp only [Act.put, List.setIfInBounds_toArray, List.set_cons_zero, List.set_cons_succ, i64_w, i32_w]
                          rfl
                        refine pure_ (i := 4) (N := some 73) (v := ?_) (a' := ?_) #[true, false, true, true, true, false, false] rfl rfl (by kernel_rfl) (fun _ _ _ h => h) (Or.inl ⟨by rfl, ?_⟩) ?_ ?_
                        rotate_left
                        · intro w'
                          go_simp
                          with_reducible rfl
                        rotate_left
                        · simp only [Act.put, List.setIfInBounds_toArray, List.set_cons_zero, List.set_cons_succ, i64_w, i32_w]
                          rfl
                        refine take_ (i := 5) (N := some 74) (v := ?_) (a' := ?_) #[true, false, true, true, true, true, false] rfl rfl (by kernel_rfl) (fun _ _ _ h => h) (Or.inl ⟨by rfl, ?_⟩) hHeld ?_ ?_
                        rotate_left
                        · intro w' s0
                          go_simp
                          with_reducible rfl
                        rotate_left
                        · simp only [Act.put, List.setIfInBounds_toArray, List.set_cons_zero, List.set_cons_succ, i64_w, i32_w]
                          rfl
                        refine one_ (i := 1) (N := some 70) #[true, true, true, true, true, true, false] rfl rfl (by kernel_rfl) (by decide) (fun K hK => ?_)
                        refine goes_ Try.func11 (by kernel_rfl) rfl #[.pointer (some ⟨g305, 0, none⟩)] (by rfl) rfl rfl (by (try simp only [List.map_toArray, List.map_cons, List.map_nil]); first | done | rfl | (simp only [List.length_drop, List.length_take]; rfl)) ?_
                        with_reducible refine (wire_Reader_Num.calls k3 g305 x306000_3 x306001_3 x306002_3 x306003_3 t306 t307 t308 t309 t310 w _ ?side1 ?side2 A31.out).mono ?_
                        (case side1 => repeat (first | (with_reducible first | exact HI305.out | apply IsS50.alloc | apply IsS50.drewN | apply IsS50.drew | apply IsS50.set_0 | apply IsS50.set_1 | apply IsS50.set_2 | apply IsS50.set_3) | exact HI305.out))
                        (case side2 => repeat (first | (with_reducible first | exact HB.out | apply below_alloc | apply pw_below_drewN | apply below_drew1 | refine below_set ?_ (IsS50.ge HI305.out)) | exact HB.out))
                        rintro e w37 ⟨rfl, hi, hb, hk⟩
                        refine ⟨_, rfl, ?_⟩
                        have n0_ := Aside0.mk (hb)
                        have n1_ := Aside0.mk (hi)
                        clear HB
                        clear HI305
                        have HB := n0_
                        have HI305 := n1_
                        clear n0_ n1_
                        (try clear hb)
                        (try clear hb2)
                        (try clear hk)
                        (try clear hi)
                        refine hK.out _ _ (((HB.out.cell (World.block_lt_of_cell? w _ hw311_0)).trans hw311_0)) (fun hHeld => ?_)
                        clear hK K
                        refine norm_ (a' := ?_) ?_ ?_
                        rotate_left
                        · show Act.put _ (some 70) _ = _
                          simp only [Act.put, List.setIfInBounds_toArray, List.set_cons_zero, List.set_cons_succ, i64_w, i32_w]
                          rfl
                        refine pure_ (i := 6) (N := some 75) (v := ?_) (a' := ?_) #[true, true, true, true, true, true, true] rfl rfl (by kernel_rfl) (fun _ _ _ h => h) (Or.inl ⟨by rfl, ?_⟩) ?_ ?_
                        rotate_left
                        · intro w'
                          go_simp
                          with_reducible rfl
                        rotate_left
                        · simp only [Act.put, List.setIfInBounds_toArray, List.set_cons_zero, List.set_cons_succ, i64_w, i32_w]
                          rfl
                        refine done_ (by kernel_rfl) ?_
                        try go_wp2
                        go_ret
                        exact ⟨by first | rfl | (simp [errW_none, errW_some] <;> rfl) | (simp [*, errW_none, errW_some] <;> rfl) | (simp [Aid.ne_nil, Aid.eq_nil, errW_none, errW_some]; done), by repeat (first | (with_reducible first | exact HB.out | apply below_alloc | apply pw_below_drewN | apply below_drew1 | refine below_set ?_ (IsS50.ge HI305.out)) | exact HB.out)⟩
                    · rw [if_neg c32] at H
                      exact absurd H (by simp)
                  · rw [if_neg c30] at H
                    have c30b0 : decide (x10_3 < (l1.length : Int)) = false := decide_eq_false c30
                    clear c30
                    have H' := Aside0.mk H
                    clear H
                    go_wp2
                    go_loopg [11] k3 (fun kq v11 w' => ∃ (x11_4 : Int) (x306000_4 : ByteArray) (x306001_4 : Int) (x306002_4 : Int) (x306003_4 : Int), v11 = .int .i64 x11_4 ∧ Aside0 (shuttlecocklaw02_WireBack.l2 kq l0 l1 a2 x7_2 x11_4 x306000_4 x306001_4 x306002_4 x306003_4 = some r) ∧ Aside0 (kq ≤ k3) ∧ Aside0 (IsS50 w w' g305 x306000_4 x306001_4 x306002_4 x306003_4) ∧ Aside0 (Below w.heap.size w w'))
                    case atStart => exact ⟨(0), (x306000_3), (x306001_3), (x306002_3), (x306003_3), (by first | rfl | (simp; done) | (simp [*]; done)), H', ⟨Nat.le_refl _⟩, ⟨by repeat (first | (with_reducible first | exact HI305.out | apply IsS50.alloc | apply IsS50.drewN | apply IsS50.drew | apply IsS50.set_0 | apply IsS50.set_1 | apply IsS50.set_2 | apply IsS50.set_3) | exact HI305.out)⟩, ⟨by repeat (first | (with_reducible first | exact HB.out | apply below_alloc | apply pw_below_drewN | apply below_drew1 | refine below_set ?_ (IsS50.ge HI305.out)) | exact HB.out)⟩⟩
                    case round =>
                      clear H'
                      try clear c1
                      try clear c2
                      try clear p2
                      try clear q2
                      try clear hx2
                      try clear c3
                      try clear p3
                      try clear q3
                      try clear hx3
                      try clear c5
                      try clear c6
                      try clear p6
                      try clear c7
                      try clear c7b0
                      try clear c7b1
                      try clear c9
                      try clear c9b0
                      try clear c9b1
                      try clear c10
                      try clear c11
                      try clear c11b0
                      try clear c11b1
                      try clear c17
                      try clear c22
                      try clear c22b0
                      try clear c23
                      try clear c23b0
                      try clear c24
                      try clear c24b0
                      try clear c24b1
                      try clear c25
                      try clear c26
                      try clear c26b0
                      try clear c26b1
                      try clear c26b2
                      try clear c27
                      try clear p29
                      try clear q29
                      try clear hx29
                      try clear c30
                      try clear c30b0
                      try clear p31
                      try clear q31
                      try clear hx31
                      try clear c32
                      try clear c32b0
                      try clear c33
                      try clear c33b0
                      try clear c33b1
                      try clear hx298_0
                      try clear hx299_0
                      try clear hx311_0
                      try clear p2
                      try clear p29
                      try clear p298
                      try clear p299
                      try clear p311
                      try clear p6
                      try clear q2
                      try clear q29
                      try clear q298
                      try clear q299
                      try clear q311
                      obtain ⟨x11_4, x306000_4, x306001_4, x306002_4, x306003_4, rfl, HA, HK4, HI305, HB⟩ := hrel
                      cases gk with
                      | zero => exact absurd HA.out (by simp [shuttlecocklaw02_WireBack.l2])
                      | succ k4 =>
                        have H := HA.out
                        clear HA
                        simp only [shuttlecocklaw02_WireBack.l2] at H
                        by_cases c38 : x11_4 < (l0.length : Int)
                        · rw [if_pos c38] at H
                          have c38b0 : decide (x11_4 < (l0.length : Int)) = true := decide_eq_true c38
                          clear c38
                          replace H := Option.bind_eq_some_iff.mp H
                          obtain ⟨⟨t312, t313, t314, t315, t316⟩, A390, H⟩ := H
                          replace H : (if 0 ≤ x11_4 then (if t312.toList = (rdOf ByteArray.empty l0 x11_4).toList then (shuttlecocklaw02_WireBack.l2 k4 l0 l1 a2 x7_2 (wrap64 (x11_4 + 1)) t313 t314 t315 t316) else (some false)) else (none)) = some r := H
                          have A39 := Aside0.mk A390
                          clear A390
                          by_cases c40 : 0 ≤ x11_4
                          · rw [if_pos c40] at H
                            have c40b0 : decide (0 ≤ x11_4) = true := decide_eq_true c40
                            clear c40
                            by_cases c41 : t312.toList = (rdOf ByteArray.empty l0 x11_4).toList
                            · rw [if_pos c41] at H
                              have c41b0 : (t312.toList == (rdOf ByteArray.empty l0 x11_4).toList) = true := beq_iff_eq.mpr c41
                              have c41b1 : (t312.toList != (rdOf ByteArray.empty l0 x11_4).toList) = false := bne_eq_false_iff_eq.mpr c41
                              clear c41
                              have H' := Aside0.mk H
                              clear H
                              try go_wp2
                              have n0_ := Aside0.mk (IsS50.drew HI305.out)
                              have n1_ := Aside0.mk (below_drew1 HB.out)
                              clear HI305
                              clear HB
                              have HI305 := n0_
                              have HB := n1_
                              clear n0_ n1_
                              have p317 : 0 ≤ (x11_4 : Int) := of_decide_eq_true (by first | (with_reducible assumption) | assumption)
                              have q317 : x11_4 < (l0.length : Int) := of_decide_eq_true (by first | (with_reducible assumption) | assumption)
                              obtain ⟨ad317, e317, hx317_0⟩ := Kd.at_string HR0.out x11_4 p317 q317
                              have hw317_0 := hx317_0
                              cases e317
                              replace hx317_0 := (HB.out.cell (World.block_lt_of_cell? w _ hx317_0)).trans hx317_0
                              replace p317 := eq_true p317
                              replace q317 := eq_true q317
                              refine start_ (n := 7) (S := fun w' => w'.cell? (ad317.add (x11_4).toNat) = some (.string (rdOf ByteArray.empty l0 x11_4))) (ds := []) #[false, false, false, false, false, false, false] (by kernel_rfl) rfl rfl (((HB.out.cell (World.block_lt_of_cell? w _ hw317_0)).trans hw317_0)) (fun hHeld => ?_)
                              generalize wr.drew = w42 at HI305 HB hx317_0 hHeld ⊢
                              refine pure_ (i := 0) (N := some 82) (v := ?_) (a' := ?_) #[true, false, false, false, false, false, false] rfl rfl (by kernel_rfl) (fun _ _ _ h => h) (Or.inl ⟨by rfl, ?_⟩) ?_ ?_
                              rotate_left
                              · intro w'
                                go_simp
                                with_reducible rfl
                              rotate_left
                              · simp only [Act.put, List.setIfInBounds_toArray, List.set_cons_zero, List.set_cons_succ, i64_w, i32_w]
                                rfl
                              refine pure_ (i := 2) (N := some 84) (v := ?_) (a' := ?_) #[true, false, true, false, false, false, false] rfl rfl (by kernel_rfl) (fun _ _ _ h => h) (Or.inl ⟨by rfl, ?_⟩) ?_ ?_
                              rotate_left
                              · intro w'
                                go_simp
                                with_reducible rfl
                              rotate_left
                              · simp only [Act.put, List.setIfInBounds_toArray, List.set_cons_zero, List.set_cons_succ, i64_w, i32_w]
                                rfl
                              refine pure_ (i := 3) (N := some 85) (v := ?_) (a' := ?_) #[true, false, true, true, false, false, false] rfl rfl (by kernel_rfl) (fun _ _ _ h => h) (Or.inl ⟨by rfl, ?_⟩) ?_ ?_
                              rotate_left
                              · intro w'
                                go_simp
                                with_reducible rfl
                              rotate_left
                              · simp only [Act.put, List.setIfInBounds_toArray, List.set_cons_zero, List.set_cons_succ, i64_w, i32_w]
                                rfl
                              refine pure_ (i := 4) (N := some 86) (v := ?_) (a' := ?_) #[true, false, true, true, true, false, false] rfl rfl (by kernel_rfl) (fun _ _ _ h => h) (Or.inl ⟨by rfl, ?_⟩) ?_ ?_
                              rotate_left
                              · intro w'
                                go_simp
                                with_reducible rfl
                              rotate_left
                              · simp only [Act.put, List.setIfInBounds_toArray, List.set_cons_zero, List.set_cons_succ, i64_w, i32_w]
                                rfl
                              refine take_ (i := 5) (N := some 87) (v := ?_) (a' := ?_) #[true, false, true, true, true, true, false] rfl rfl (by kernel_rfl) (fun _ _ _ h => h) (Or.inl ⟨by rfl, ?_⟩) hHeld ?_ ?_
                              rotate_left
                              · intro w' s0
                                go_simp
                                with_reducible rfl
                              rotate_left
                              · simp only [Act.put, List.setIfInBounds_toArray, List.set_cons_zero, List.set_cons_succ, i64_w, i32_w]
                                rfl
                              refine one_ (i := 1) (N := some 83) #[true, true, true, true, true, true, false] rfl rfl (by kernel_rfl) (by decide) (fun K hK => ?_)
                              refine goes_ Try.func15 (by kernel_rfl) rfl #[.pointer (some ⟨g305, 0, none⟩)] (by rfl) rfl rfl (by (try simp only [List.map_toArray, List.map_cons, List.map_nil]); first | done | rfl | (simp only [List.length_drop, List.length_take]; rfl)) ?_
                              with_reducible refine (wire_Reader_Text.calls k4 g305 x306000_4 x306001_4 x306002_4 x306003_4 t312 t313 t314 t315 t316 w _ ?side1 ?side2 A39.out).mono ?_
                              (case side1 => repeat (first | (with_reducible first | exact HI305.out | apply IsS50.alloc | apply IsS50.drewN | apply IsS50.drew | apply IsS50.set_0 | apply IsS50.set_1 | apply IsS50.set_2 | apply IsS50.set_3) | exact HI305.out))
                              (case side2 => repeat (first | (with_reducible first | exact HB.out | apply below_alloc | apply pw_below_drewN | apply below_drew1 | refine below_set ?_ (IsS50.ge HI305.out)) | exact HB.out))
                              rintro e w43 ⟨rfl, hi, hb, hk⟩
                              refine ⟨_, rfl, ?_⟩
                              have n0_ := Aside0.mk (hb)
                              have n1_ := Aside0.mk (hi)
                              clear HB
                              clear HI305
                              have HB := n0_
                              have HI305 := n1_
                              clear n0_ n1_
                              (try clear hb)
                              (try clear hb2)
                              (try clear hk)
                              (try clear hi)
                              refine hK.out _ _ (((HB.out.cell (World.block_lt_of_cell? w _ hw317_0)).trans hw317_0)) (fun hHeld => ?_)
                              clear hK K
                              refine norm_ (a' := ?_) ?_ ?_
                              rotate_left
                              · show Act.put _ (some 83) _ = _
                                simp only [Act.put, List.setIfInBounds_toArray, List.set_cons_zero, List.set_cons_succ, i64_w, i32_w]
                                rfl
                              refine pure_ (i := 6) (N := some 88) (v := ?_) (a' := ?_) #[true, true, true, true, true, true, true] rfl rfl (by kernel_rfl) (fun _ _ _ h => h) (Or.inl ⟨by rfl, ?_⟩) ?_ ?_
                              rotate_left
                              · intro w'
                                go_simp
                                with_reducible rfl
                              rotate_left
                              · simp only [Act.put, List.setIfInBounds_toArray, List.set_cons_zero, List.set_cons_succ, i64_w, i32_w]
                                rfl
                              refine done_ (by kernel_rfl) ?_
                              try go_wp2
                              go_roundg k4
                              case measure => have := HJ3.out; have := HK2.out; have := HK3.out; have := HK4.out; omega
                              case rel => exact ⟨(wrap64 (x11_4 + 1)), (t313), (t314), (t315), (t316), (by first | rfl | (simp; done) | (simp [*]; done)), H', ⟨by have := HJ3.out; have := HK2.out; have := HK3.out; have := HK4.out; omega⟩, ⟨by repeat (first | (with_reducible first | exact HI305.out | apply IsS50.alloc | apply IsS50.drewN | apply IsS50.drew | apply IsS50.set_0 | apply IsS50.set_1 | apply IsS50.set_2 | apply IsS50.set_3) | exact HI305.out)⟩, ⟨by repeat (first | (with_reducible first | exact HB.out | apply below_alloc | apply pw_below_drewN | apply below_drew1 | refine below_set ?_ (IsS50.ge HI305.out)) | exact HB.out)⟩⟩
                            · rw [if_neg c41] at H
                              have c41b0 : (t312.toList == (rdOf ByteArray.empty l0 x11_4).toList) = false := beq_eq_false_iff_ne.mpr c41
                              have c41b1 : (t312.toList != (rdOf ByteArray.empty l0 x11_4).toList) = true := bne_iff_ne.mpr c41
                              obtain rfl := Option.some.inj H
                              try go_wp2
                              have n0_ := Aside0.mk (IsS50.drew HI305.out)
                              have n1_ := Aside0.mk (below_drew1 HB.out)
                              clear HI305
                              clear HB
                              have HI305 := n0_
                              have HB := n1_
                              clear n0_ n1_
                              have p317 : 0 ≤ (x11_4 : Int) := of_decide_eq_true (by first | (with_reducible assumption) | assumption)
                              have q317 : x11_4 < (l0.length : Int) := of_decide_eq_true (by first | (with_reducible assumption) | assumption)
                              obtain ⟨ad317, e317, hx317_0⟩ := Kd.at_string HR0.out x11_4 p317 q317
                              have hw317_0 := hx317_0
                              cases e317
                              replace hx317_0 := (HB.out.cell (World.block_lt_of_cell? w _ hx317_0)).trans hx317_0
                              replace p317 := eq_true p317
                              replace q317 := eq_true q317
                              refine start_ (n := 7) (S := fun w' => w'.cell? (ad317.add (x11_4).toNat) = some (.string (rdOf ByteArray.empty l0 x11_4))) (ds := []) #[false, false, false, false, false, false, false] (by kernel_rfl) rfl rfl (((HB.out.cell (World.block_lt_of_cell? w _ hw317_0)).trans hw317_0)) (fun hHeld => ?_)
                              generalize wr.drew = w44 at HI305 HB hx317_0 hHeld ⊢
                              refine pure_ (i := 0) (N := some 82) (v := ?_) (a' := ?_) #[true, false, false, false, false, false, false] rfl rfl (by kernel_rfl) (fun _ _ _ h => h) (Or.inl ⟨by rfl, ?_⟩) ?_ ?_
                              rotate_left
                              · intro w'
                                go_simp
                                with_reducible rfl
                              rotate_left
                              · simp only [Act.put, List.setIfInBounds_toArray, List.set_cons_zero, List.set_cons_succ, i64_w, i32_w]
                                rfl
                              refine pure_ (i := 2) (N := some 84) (v := ?_) (a' := ?_) #[true, false, true, false, false, false, false] rfl rfl (by kernel_rfl) (fun _ _ _ h => h) (Or.inl ⟨by rfl, ?_⟩) ?_ ?_
                              rotate_left
                              · intro w'
                                go_simp
                                with_reducible rfl
                              rotate_left
                              · simp only [Act.put, List.setIfInBounds_toArray, List.set_cons_zero, List.set_cons_succ, i64_w, i32_w]
                                rfl
                              refine pure_ (i := 3) (N := some 85) (v := ?_) (a' := ?_) #[true, false, true, true, false, false, false] rfl rfl (by kernel_rfl) (fun _ _ _ h => h) (Or.inl ⟨by rfl, ?_⟩) ?_ ?_
                              rotate_left
                              · intro w'
                                go_simp
                                with_reducible rfl
                              rotate_left
                              · simp only [Act.put, List.setIfInBounds_toArray, List.set_cons_zero, List.set_cons_succ, i64_w, i32_w]
                                rfl
                              refine pure_ (i := 4) (N := some 86) (v := ?_) (a' := ?_) #[true, false, true, true, true, false, false] rfl rfl (by kernel_rfl) (fun _ _ _ h => h) (Or.inl ⟨by rfl, ?_⟩) ?_ ?_
                              rotate_left
                              · intro w'
                                go_simp
                                with_reducible rfl
                              rotate_left
                              · simp only [Act.put, List.setIfInBounds_toArray, List.set_cons_zero, List.set_cons_succ, i64_w, i32_w]
                                rfl
                              refine take_ (i := 5) (N := some 87) (v := ?_) (a' := ?_) #[true, false, true, true, true, true, false] rfl rfl (by kernel_rfl) (fun _ _ _ h => h) (Or.inl ⟨by rfl, ?_⟩) hHeld ?_ ?_
                              rotate_left
                              · intro w' s0
                                go_simp
                                with_reducible rfl
                              rotate_left
                              · simp only [Act.put, List.setIfInBounds_toArray, List.set_cons_zero, List.set_cons_succ, i64_w, i32_w]
                                rfl
                              refine one_ (i := 1) (N := some 83) #[true, true, true, true, true, true, false] rfl rfl (by kernel_rfl) (by decide) (fun K hK => ?_)
                              refine goes_ Try.func15 (by kernel_rfl) rfl #[.pointer (some ⟨g305, 0, none⟩)] (by rfl) rfl rfl (by (try simp only [List.map_toArray, List.map_cons, List.map_nil]); first | done | rfl | (simp only [List.length_drop, List.length_take]; rfl)) ?_
                              with_reducible refine (wire_Reader_Text.calls k4 g305 x306000_4 x306001_4 x306002_4 x306003_4 t312 t313 t314 t315 t316 w _ ?side1 ?side2 A39.out).mono ?_
                              (case side1 => repeat (first | (with_reducible first | exact HI305.out | apply IsS50.alloc | apply IsS50.drewN | apply IsS50.drew | apply IsS50.set_0 | apply IsS50.set_1 | apply IsS50.set_2 | apply IsS50.set_3) | exact HI305.out))
                              (case side2 => repeat (first | (with_reducible first | exact HB.out | apply below_alloc | apply pw_below_drewN | apply below_drew1 | refine below_set ?_ (IsS50.ge HI305.out)) | exact HB.out))
                              rintro e w45 ⟨rfl, hi, hb, hk⟩
                              refine ⟨_, rfl, ?_⟩
                              have n0_ := Aside0.mk (hb)
                              have n1_ := Aside0.mk (hi)
                              clear HB
                              clear HI305
                              have HB := n0_
                              have HI305 := n1_
                              clear n0_ n1_
                              (try clear hb)
                              (try clear hb2)
                              (try clear hk)
                              (try clear hi)
                              refine hK.out _ _ (((HB.out.cell (World.block_lt_of_cell? w _ hw317_0)).trans hw317_0)) (fun hHeld => ?_)
                              clear hK K
                              refine norm_ (a' := ?_) ?_ ?_
                              rotate_left
                              · show Act.put _ (some 83) _ = _
                                simp only [Act.put, List.setIfInBounds_toArray, List.set_cons_zero, List.set_cons_succ, i64_w, i32_w]
                                rfl
                              refine pure_ (i := 6) (N := some 88) (v := ?_) (a' := ?_) #[true, true, true, true, true, true, true] rfl rfl (by kernel_rfl) (fun _ _ _ h => h) (Or.inl ⟨by rfl, ?_⟩) ?_ ?_
                              rotate_left
                              · intro w'
                                go_simp
                                with_reducible rfl
                              rotate_left
                              · simp only [Act.put, List.setIfInBounds_toArray, List.set_cons_zero, List.set_cons_succ, i64_w, i32_w]
                                rfl
                              refine done_ (by kernel_rfl) ?_
                              try go_wp2
                              go_ret
                              exact ⟨by first | rfl | (simp [errW_none, errW_some] <;> rfl) | (simp [*, errW_none, errW_some] <;> rfl) | (simp [Aid.ne_nil, Aid.eq_nil, errW_none, errW_some]; done), by repeat (first | (with_reducible first | exact HB.out | apply below_alloc | apply pw_below_drewN | apply below_drew1 | refine below_set ?_ (IsS50.ge HI305.out)) | exact HB.out)⟩
                          · rw [if_neg c40] at H
                            exact absurd H (by simp)
                        · rw [if_neg c38] at H
                          have c38b0 : decide (x11_4 < (l0.length : Int)) = false := decide_eq_false c38
                          clear c38
                          replace H := Option.bind_eq_some_iff.mp H
                          obtain ⟨⟨t318, t319, t320, t321, t322⟩, A460, H⟩ := H
                          replace H : (if t318 = true then (if a2 < 0 then (shuttlecocklaw02_WireBack.j4 k4 l0 l1 a2 x7_2 true) else (shuttlecocklaw02_WireBack.j4 k4 l0 l1 a2 x7_2 (decide (a2 ≥ (x7_2.size : Int))))) else (some false)) = some r := H
                          have A46 := Aside0.mk A460
                          clear A460
                          by_cases c47 : t318 = true
                          · subst c47
                            have H1 : (if a2 < 0 then (shuttlecocklaw02_WireBack.j4 k4 l0 l1 a2 x7_2 true) else (shuttlecocklaw02_WireBack.j4 k4 l0 l1 a2 x7_2 (decide (a2 ≥ (x7_2.size : Int))))) = some r := by rw [if_pos rfl] at H; exact H
                            clear H
                            have H := H1
                            clear H1
                            have HC48 := Aside0.mk H
                            clear H
                            go_upto_region 23 with (first | ((with_reducible refine gate_callee (f := 21) rfl ?_); refine goesL_ (some 90) rfl rfl Try.func21 (by kernel_rfl) rfl #[.pointer (some ⟨g305, 0, none⟩)] rfl (by (try simp only [List.map_toArray, List.map_cons, List.map_nil]); first | done | rfl | (simp only [List.length_drop, List.length_take]; rfl)) ?_; (with_reducible refine (wire_Reader_Done.calls g305 x306000_4 x306001_4 x306002_4 x306003_4 true t319 t320 t321 t322 w _ ?side1 ?side2 A46.out).mono ?_); (case side1 => repeat (first | (with_reducible first | exact HI305.out | apply IsS50.alloc | apply IsS50.drewN | apply IsS50.drew | apply IsS50.set_0 | apply IsS50.set_1 | apply IsS50.set_2 | apply IsS50.set_3) | exact HI305.out)); (case side2 => repeat (first | (with_reducible first | exact HB.out | apply below_alloc | apply pw_below_drewN | apply below_drew1 | refine below_set ?_ (IsS50.ge HI305.out)) | exact HB.out)); rintro e w49 ⟨rfl, hi, hb, hk⟩; refine ⟨_, rfl, ?_⟩; have n0_ := Aside0.mk (hb); have n1_ := Aside0.mk (hi); clear HB; clear HI305; have HB := n0_; have HI305 := n1_; clear n0_ n1_; (try clear hb); (try clear hb2); (try clear hk); (try clear hi)))
                            (try simp only [Act.put, List.setIfInBounds_toArray, List.set_cons_zero, List.set_cons_succ])
                            go_cut [99] (fun v99 wc => ∃ (kq : Nat) (x99_47 : Bool), v99 = .bool x99_47 ∧ Aside0 (shuttlecocklaw02_WireBack.j4 kq l0 l1 a2 x7_2 x99_47 = some r) ∧ Aside0 (kq ≤ k4) ∧ Aside0 (Below w.heap.size w wc))
                            case first =>
                              have H := HC48.out
                              clear HC48
                              by_cases c50 : a2 < 0
                              · rw [if_pos c50] at H
                                have c50b0 : decide (a2 < 0) = true := decide_eq_true c50
                                clear c50
                                (first | rw [c50b0] | (simp only [i64_w, i32_w]; rw [c50b0]) | skip)
                                have H' := Aside0.mk H
                                clear H
                                go_wp2
                                go_meet
                                case rel => exact ⟨_, (true), (by first | rfl | (simp; done) | (simp [*]; done)), H', ⟨by have := HJ3.out; have := HK2.out; have := HK3.out; have := HK4.out; first | omega | exact Nat.le_refl _⟩, ⟨by repeat (first | (with_reducible first | exact HB.out | apply below_alloc | apply pw_below_drewN | apply below_drew1 | refine below_set ?_ (IsS50.ge HI305.out)) | exact HB.out)⟩⟩
                              · rw [if_neg c50] at H
                                have c50b0 : decide (a2 < 0) = false := decide_eq_false c50
                                clear c50
                                (first | rw [c50b0] | (simp only [i64_w, i32_w]; rw [c50b0]) | skip)
                                have H' := Aside0.mk H
                                clear H
                                go_wp2
                                go_meet
                                case rel => exact ⟨_, (decide (a2 ≥ (x7_2.size : Int))), (by first | rfl | (simp; done) | (simp [*]; done)), H', ⟨by have := HJ3.out; have := HK2.out; have := HK3.out; have := HK4.out; first | omega | exact Nat.le_refl _⟩, ⟨by repeat (first | (with_reducible first | exact HB.out | apply below_alloc | apply pw_below_drewN | apply below_drew1 | refine below_set ?_ (IsS50.ge HI305.out)) | exact HB.out)⟩⟩
                            case rest =>
                              clear HC48
                              try clear c1
                              try clear c2
                              try clear p2
                              try clear q2
                              try clear hx2
                              try clear c3
                              try clear p3
                              try clear q3
                              try clear hx3
                              try clear c4
                              try clear c5
                              try clear c6
                              try clear p6
                              try clear c7
                              try clear c7b0
                              try clear c7b1
                              try clear c9
                              try clear c9b0
                              try clear c9b1
                              try clear c10
                              try clear c11
                              try clear c11b0
                              try clear c11b1
                              try clear c15
                              try clear c17
                              try clear c21
                              try clear c22
                              try clear c22b0
                              try clear c23
                              try clear c23b0
                              try clear c24
                              try clear c24b0
                              try clear c24b1
                              try clear c25
                              try clear c26
                              try clear c26b0
                              try clear c26b1
                              try clear c26b2
                              try clear c27
                              try clear p29
                              try clear q29
                              try clear hx29
                              try clear c30
                              try clear c30b0
                              try clear p31
                              try clear q31
                              try clear hx31
                              try clear c32
                              try clear c32b0
                              try clear c33
                              try clear c33b0
                              try clear c33b1
                              try clear c38
                              try clear c38b0
                              try clear c40
                              try clear c40b0
                              try clear c41
                              try clear c41b0
                              try clear c41b1
                              try clear c47
                              try clear c50
                              try clear c50b0
                              try clear hx298_0
                              try clear hx299_0
                              try clear hx311_0
                              try clear hx317_0
                              try clear p2
                              try clear p29
                              try clear p298
                              try clear p299
                              try clear p3
                              try clear p31
                              try clear p311
                              try clear p317
                              try clear p6
                              try clear q2
                              try clear q29
                              try clear q298
                              try clear q299
                              try clear q3
                              try clear q31
                              try clear q311
                              try clear q317
                              obtain ⟨kq, x99_47, rfl, HA, HJ47, HB⟩ := hcut
                              cases kq with
                              | zero => exact absurd HA.out (by simp [shuttlecocklaw02_WireBack.j4])
                              | succ kj47 =>
                                have H := HA.out
                                clear HA
                                simp only [shuttlecocklaw02_WireBack.j4] at H
                                by_cases c51 : x99_47 = true
                                · subst c51
                                  have H1 : (some true) = some r := by rw [if_pos rfl] at H; exact H
                                  clear H
                                  have H := H1
                                  clear H1
                                  obtain rfl := Option.some.inj H
                                  go_wp2
                                  go_ret
                                  exact ⟨by first | rfl | (simp [errW_none, errW_some] <;> rfl) | (simp [*, errW_none, errW_some] <;> rfl) | (simp [Aid.ne_nil, Aid.eq_nil, errW_none, errW_some]; done), by repeat (first | (with_reducible first | exact HB.out | apply below_alloc | apply pw_below_drewN | apply below_drew1) | exact HB.out)⟩
                                · replace c51 := Bool.eq_false_iff.mpr c51
                                  subst c51
                                  have H1 : (if 0 ≤ a2 then (if a2 ≤ (x7_2.size : Int) then ((wire_New.f (x7_2.extract 0 (a2 : Int).toNat)).bind fun bt323 => (shuttlecocklaw02_WireBack.l3 kj47 l0 l1 a2 0 bt323.1 bt323.2.1 bt323.2.2.1 bt323.2.2.2)) else (none)) else (none)) = some r := by rw [if_neg (show ¬ (false = true) by decide)] at H; exact H
                                  clear H
                                  have H := H1
                                  clear H1
                                  by_cases c52 : 0 ≤ a2
                                  · rw [if_pos c52] at H
                                    have c52b0 := eq_true c52
                                    have c52b1 : decide (0 ≤ a2) = true := decide_eq_true c52
                                    clear c52
                                    by_cases c53 : a2 ≤ (x7_2.size : Int)
                                    · rw [if_pos c53] at H
                                      have c53b0 := eq_true c53
                                      have c53b1 : decide (a2 ≤ (x7_2.size : Int)) = true := decide_eq_true c53
                                      clear c53
                                      replace H := Option.bind_eq_some_iff.mp H
                                      obtain ⟨⟨t323, t324, t325, t326⟩, A540, H⟩ := H
                                      replace H : (shuttlecocklaw02_WireBack.l3 kj47 l0 l1 a2 0 t323 t324 t325 t326) = some r := H
                                      have A54 := Aside0.mk A540
                                      clear A540
                                      have H' := Aside0.mk H
                                      clear H
                                      go_wp2_with (first | ((with_reducible refine gate_callee (f := 10) rfl ?_); refine goesL_ (some 103) rfl rfl Try.func10 (by kernel_rfl) rfl #[.string (x7_2.extract 0 (a2 : Int).toNat)] rfl (by (try simp only [List.map_toArray, List.map_cons, List.map_nil]); first | done | rfl | (simp only [List.length_drop, List.length_take]; rfl)) ?_; (with_reducible refine (wire_New.calls (x7_2.extract 0 (a2 : Int).toNat) t323 t324 t325 t326 w _ ?side1 A54.out).mono ?_); (case side1 => repeat (first | (with_reducible first | exact HB.out | apply below_alloc | apply pw_below_drewN | apply below_drew1) | exact HB.out)); rintro e w55 ⟨g327, rfl, hi, hb, hb2⟩; refine ⟨_, rfl, ?_⟩; have n0_ := Aside0.mk (hb); have n1_ := Aside0.mk (hi); clear HB; have HB := n0_; have HI327 := n1_; clear n0_ n1_; (try clear hb); (try clear hb2); (try clear hk); (try clear hi)))
                                      go_loopg [13] kj47 (fun kq v13 w' => ∃ (x13_6 : Int) (x328000_6 : ByteArray) (x328001_6 : Int) (x328002_6 : Int) (x328003_6 : Int), v13 = .int .i64 x13_6 ∧ Aside0 (shuttlecocklaw02_WireBack.l3 kq l0 l1 a2 x13_6 x328000_6 x328001_6 x328002_6 x328003_6 = some r) ∧ Aside0 (kq ≤ kj47) ∧ Aside0 (IsS50 w w' g327 x328000_6 x328001_6 x328002_6 x328003_6) ∧ Aside0 (Below w.heap.size w w'))
                                      case atStart => exact ⟨(0), (t323), (t324), (t325), (t326), (by first | rfl | (simp; done) | (simp [*]; done)), H', ⟨Nat.le_refl _⟩, ⟨by repeat (first | (with_reducible first | exact HI327.out | apply IsS50.alloc | apply IsS50.drewN | apply IsS50.drew | apply IsS50.set_0 | apply IsS50.set_1 | apply IsS50.set_2 | apply IsS50.set_3) | exact HI327.out)⟩, ⟨by repeat (first | (with_reducible first | exact HB.out | apply below_alloc | apply pw_below_drewN | apply below_drew1 | refine below_set ?_ (IsS50.ge HI327.out)) | exact HB.out)⟩⟩
                                      case round =>
                                        clear H'
                                        try clear c1
                                        try clear c2
                                        try clear p2
                                        try clear q2
                                        try clear hx2
                                        try clear c3
                                        try clear p3
                                        try clear q3
                                        try clear hx3
                                        try clear c4
                                        try clear c5
                                        try clear c6
                                        try clear p6
                                        try clear c7
                                        try clear c7b0
                                        try clear c7b1
                                        try clear c9
                                        try clear c9b0
                                        try clear c9b1
                                        try clear c10
                                        try clear c11
                                        try clear c11b0
                                        try clear c11b1
                                        try clear c15
                                        try clear c17
                                        try clear c21
                                        try clear c22
                                        try clear c22b0
                                        try clear c23
                                        try clear c23b0
                                        try clear c24
                                        try clear c24b0
                                        try clear c24b1
                                        try clear c25
                                        try clear c26
                                        try clear c26b0
                                        try clear c26b1
                                        try clear c26b2
                                        try clear c27
                                        try clear p29
                                        try clear q29
                                        try clear hx29
                                        try clear c30
                                        try clear c30b0
                                        try clear p31
                                        try clear q31
                                        try clear hx31
                                        try clear c32
                                        try clear c32b0
                                        try clear c33
                                        try clear c33b0
                                        try clear c33b1
                                        try clear c38
                                        try clear c38b0
                                        try clear c40
                                        try clear c40b0
                                        try clear c41
                                        try clear c41b0
                                        try clear c41b1
                                        try clear c47
                                        try clear c50
                                        try clear c50b0
                                        try clear c51
                                        try clear c52
                                        try clear c52b0
                                        try clear c52b1
                                        try clear c53
                                        try clear c53b0
                                        try clear c53b1
                                        try clear hx298_0
                                        try clear hx299_0
                                        try clear hx311_0
                                        try clear hx317_0
                                        try clear p2
                                        try clear p29
                                        try clear p298
                                        try clear p299
                                        try clear p3
                                        try clear p31
                                        try clear p311
                                        try clear p317
                                        try clear p6
                                        try clear q2
                                        try clear q29
                                        try clear q298
                                        try clear q299
                                        try clear q3
                                        try clear q31
                                        try clear q311
                                        try clear q317
                                        obtain ⟨x13_6, x328000_6, x328001_6, x328002_6, x328003_6, rfl, HA, HK6, HI327, HB⟩ := hrel
                                        cases gk with
                                        | zero => exact absurd HA.out (by simp [shuttlecocklaw02_WireBack.l3])
                                        | succ k6 =>
                                          have H := HA.out
                                          clear HA
                                          simp only [shuttlecocklaw02_WireBack.l3] at H
                                          by_cases c56 : x13_6 < (l1.length : Int)
                                          · rw [if_pos c56] at H
                                            have c56b0 : decide (x13_6 < (l1.length : Int)) = true := decide_eq_true c56
                                            clear c56
                                            replace H := Option.bind_eq_some_iff.mp H
                                            obtain ⟨⟨t328, t329, t330, t331, t332⟩, A570, H⟩ := H
                                            replace H : (shuttlecocklaw02_WireBack.l3 k6 l0 l1 a2 (wrap64 (x13_6 + 1)) t329 t330 t331 t332) = some r := H
                                            have A57 := Aside0.mk A570
                                            clear A570
                                            have H' := Aside0.mk H
                                            clear H
                                            go_wp2_with (first | ((with_reducible refine gate_callee (f := 11) rfl ?_); refine goesL_ (some 111) rfl rfl Try.func11 (by kernel_rfl) rfl #[.pointer (some ⟨g327, 0, none⟩)] rfl (by (try simp only [List.map_toArray, List.map_cons, List.map_nil]); first | done | rfl | (simp only [List.length_drop, List.length_take]; rfl)) ?_; (with_reducible refine (wire_Reader_Num.calls k6 g327 x328000_6 x328001_6 x328002_6 x328003_6 t328 t329 t330 t331 t332 w _ ?side1 ?side2 A57.out).mono ?_); (case side1 => repeat (first | (with_reducible first | exact HI327.out | apply IsS50.alloc | apply IsS50.drewN | apply IsS50.drew | apply IsS50.set_0 | apply IsS50.set_1 | apply IsS50.set_2 | apply IsS50.set_3) | exact HI327.out)); (case side2 => repeat (first | (with_reducible first | exact HB.out | apply below_alloc | apply pw_below_drewN | apply below_drew1 | refine below_set ?_ (IsS50.ge HI327.out)) | exact HB.out)); rintro e w58 ⟨rfl, hi, hb, hk⟩; refine ⟨_, rfl, ?_⟩; have n0_ := Aside0.mk (hb); have n1_ := Aside0.mk (hi); clear HB; clear HI327; have HB := n0_; have HI327 := n1_; clear n0_ n1_; (try clear hb); (try clear hb2); (try clear hk); (try clear hi)))
                                            go_roundg k6
                                            case measure => have := HJ3.out; have := HK2.out; have := HK3.out; have := HK4.out; have := HJ47.out; have := HK6.out; omega
                                            case rel => exact ⟨(wrap64 (x13_6 + 1)), (t329), (t330), (t331), (t332), (by first | rfl | (simp; done) | (simp [*]; done)), H', ⟨by have := HJ3.out; have := HK2.out; have := HK3.out; have := HK4.out; have := HJ47.out; have := HK6.out; omega⟩, ⟨by repeat (first | (with_reducible first | exact HI327.out | apply IsS50.alloc | apply IsS50.drewN | apply IsS50.drew | apply IsS50.set_0 | apply IsS50.set_1 | apply IsS50.set_2 | apply IsS50.set_3) | exact HI327.out)⟩, ⟨by repeat (first | (with_reducible first | exact HB.out | apply below_alloc | apply pw_below_drewN | apply below_drew1 | refine below_set ?_ (IsS50.ge HI327.out)) | exact HB.out)⟩⟩
                                          · rw [if_neg c56] at H
                                            have c56b0 : decide (x13_6 < (l1.length : Int)) = false := decide_eq_false c56
                                            clear c56
                                            have H' := Aside0.mk H
                                            clear H
                                            go_wp2
                                            go_loopg [14] k6 (fun kq v14 w' => ∃ (x14_7 : Int) (x328000_7 : ByteArray) (x328001_7 : Int) (x328002_7 : Int) (x328003_7 : Int), v14 = .int .i64 x14_7 ∧ Aside0 (shuttlecocklaw02_WireBack.l4 kq l0 a2 x14_7 x328000_7 x328001_7 x328002_7 x328003_7 = some r) ∧ Aside0 (kq ≤ k6) ∧ Aside0 (IsS50 w w' g327 x328000_7 x328001_7 x328002_7 x328003_7) ∧ Aside0 (Below w.heap.size w w'))
                                            case atStart => exact ⟨(0), (x328000_6), (x328001_6), (x328002_6), (x328003_6), (by first | rfl | (simp; done) | (simp [*]; done)), H', ⟨Nat.le_refl _⟩, ⟨by repeat (first | (with_reducible first | exact HI327.out | apply IsS50.alloc | apply IsS50.drewN | apply IsS50.drew | apply IsS50.set_0 | apply IsS50.set_1 | apply IsS50.set_2 | apply IsS50.set_3) | exact HI327.out)⟩, ⟨by repeat (first | (with_reducible first | exact HB.out | apply below_alloc | apply pw_below_drewN | apply below_drew1 | refine below_set ?_ (IsS50.ge HI327.out)) | exact HB.out)⟩⟩
                                            case round =>
                                              clear H'
                                              try clear c1
                                              try clear c2
                                              try clear p2
                                              try clear q2
                                              try clear hx2
                                              try clear c3
                                              try clear p3
                                              try clear q3
                                              try clear hx3
                                              try clear c4
                                              try clear c5
                                              try clear c6
                                              try clear p6
                                              try clear c7
                                              try clear c7b0
                                              try clear c7b1
                                              try clear c9
                                              try clear c9b0
                                              try clear c9b1
                                              try clear c10
                                              try clear c11
                                              try clear c11b0
                                              try clear c11b1
                                              try clear c15
                                              try clear c17
                                              try clear c21
                                              try clear c22
                                              try clear c22b0
                                              try clear c23
                                              try clear c23b0
                                              try clear c24
                                              try clear c24b0
                                              try clear c24b1
                                              try clear c25
                                              try clear c26
                                              try clear c26b0
                                              try clear c26b1
                                              try clear c26b2
                                              try clear c27
                                              try clear p29
                                              try clear q29
                                              try clear hx29
                                              try clear c30
                                              try clear c30b0
                                              try clear p31
                                              try clear q31
                                              try clear hx31
                                              try clear c32
                                              try clear c32b0
                                              try clear c33
                                              try clear c33b0
                                              try clear c33b1
                                              try clear c38
                                              try clear c38b0
                                              try clear c40
                                              try clear c40b0
                                              try clear c41
                                              try clear c41b0
                                              try clear c41b1
                                              try clear c47
                                              try clear c50
                                              try clear c50b0
                                              try clear c51
                                              try clear c52
                                              try clear c52b0
                                              try clear c52b1
                                              try clear c53
                                              try clear c53b0
                                              try clear c53b1
                                              try clear c56
                                              try clear c56b0
                                              try clear hx298_0
                                              try clear hx299_0
                                              try clear hx311_0
                                              try clear hx317_0
                                              try clear p2
                                              try clear p29
                                              try clear p298
                                              try clear p299
                                              try clear p3
                                              try clear p31
                                              try clear p311
                                              try clear p317
                                              try clear p6
                                              try clear q2
                                              try clear q29
                                              try clear q298
                                              try clear q299
                                              try clear q3
                                              try clear q31
                                              try clear q311
                                              try clear q317
                                              obtain ⟨x14_7, x328000_7, x328001_7, x328002_7, x328003_7, rfl, HA, HK7, HI327, HB⟩ := hrel
                                              cases gk with
                                              | zero => exact absurd HA.out (by simp [shuttlecocklaw02_WireBack.l4])
                                              | succ k7 =>
                                                have H := HA.out
                                                clear HA
                                                simp only [shuttlecocklaw02_WireBack.l4] at H
                                                by_cases c59 : x14_7 < (l0.length : Int)
                                                · rw [if_pos c59] at H
                                                  have c59b0 : decide (x14_7 < (l0.length : Int)) = true := decide_eq_true c59
                                                  clear c59
                                                  replace H := Option.bind_eq_some_iff.mp H
                                                  obtain ⟨⟨t333, t334, t335, t336, t337⟩, A600, H⟩ := H
                                                  replace H : (shuttlecocklaw02_WireBack.l4 k7 l0 a2 (wrap64 (x14_7 + 1)) t334 t335 t336 t337) = some r := H
                                                  have A60 := Aside0.mk A600
                                                  clear A600
                                                  have H' := Aside0.mk H
                                                  clear H
                                                  go_wp2_with (first | ((with_reducible refine gate_callee (f := 15) rfl ?_); refine goesL_ (some 119) rfl rfl Try.func15 (by kernel_rfl) rfl #[.pointer (some ⟨g327, 0, none⟩)] rfl (by (try simp only [List.map_toArray, List.map_cons, List.map_nil]); first | done | rfl | (simp only [List.length_drop, List.length_take]; rfl)) ?_; (with_reducible refine (wire_Reader_Text.calls k7 g327 x328000_7 x328001_7 x328002_7 x328003_7 t333 t334 t335 t336 t337 w _ ?side1 ?side2 A60.out).mono ?_); (case side1 => repeat (first | (with_reducible first | exact HI327.out | apply IsS50.alloc | apply IsS50.drewN | apply IsS50.drew | apply IsS50.set_0 | apply IsS50.set_1 | apply IsS50.set_2 | apply IsS50.set_3) | exact HI327.out)); (case side2 => repeat (first | (with_reducible first | exact HB.out | apply below_alloc | apply pw_below_drewN | apply below_drew1 | refine below_set ?_ (IsS50.ge HI327.out)) | exact HB.out)); rintro e w61 ⟨rfl, hi, hb, hk⟩; refine ⟨_, rfl, ?_⟩; have n0_ := Aside0.mk (hb); have n1_ := Aside0.mk (hi); clear HB; clear HI327; have HB := n0_; have HI327 := n1_; clear n0_ n1_; (try clear hb); (try clear hb2); (try clear hk); (try clear hi)))
                                                  go_roundg k7
                                                  case measure => have := HJ3.out; have := HK2.out; have := HK3.out; have := HK4.out; have := HJ47.out; have := HK6.out; have := HK7.out; omega
                                                  case rel => exact ⟨(wrap64 (x14_7 + 1)), (t334), (t335), (t336), (t337), (by first | rfl | (simp; done) | (simp [*]; done)), H', ⟨by have := HJ3.out; have := HK2.out; have := HK3.out; have := HK4.out; have := HJ47.out; have := HK6.out; have := HK7.out; omega⟩, ⟨by repeat (first | (with_reducible first | exact HI327.out | apply IsS50.alloc | apply IsS50.drewN | apply IsS50.drew | apply IsS50.set_0 | apply IsS50.set_1 | apply IsS50.set_2 | apply IsS50.set_3) | exact HI327.out)⟩, ⟨by repeat (first | (with_reducible first | exact HB.out | apply below_alloc | apply pw_below_drewN | apply below_drew1 | refine below_set ?_ (IsS50.ge HI327.out)) | exact HB.out)⟩⟩
                                                · rw [if_neg c59] at H
                                                  have c59b0 : decide (x14_7 < (l0.length : Int)) = false := decide_eq_false c59
                                                  clear c59
                                                  replace H := Option.bind_eq_some_iff.mp H
                                                  obtain ⟨⟨t338, t339, t340, t341, t342, t343⟩, A620, H⟩ := H
                                                  replace H : (if t338 = 10 then (if t339 ≤ a2 then ((wire_Reader_Done.f t340 t341 t342 t343).bind fun bt344 => (some (!bt344.1))) else (some false)) else (some false)) = some r := H
                                                  have A62 := Aside0.mk A620
                                                  clear A620
                                                  by_cases c63 : t338 = 10
                                                  · rw [if_pos c63] at H
                                                    have c63b0 : (t338 == 10) = true := beq_iff_eq.mpr c63
                                                    have c63b1 : (t338 != 10) = false := bne_eq_false_iff_eq.mpr c63
                                                    clear c63
                                                    by_cases c64 : t339 ≤ a2
                                                    · rw [if_pos c64] at H
                                                      have c64b0 : decide (t339 ≤ a2) = true := decide_eq_true c64
                                                      clear c64
                                                      replace H := Option.bind_eq_some_iff.mp H
                                                      obtain ⟨⟨t344, t345, t346, t347, t348⟩, A650, H⟩ := H
                                                      replace H : (some (!t344)) = some r := H
                                                      have A65 := Aside0.mk A650
                                                      clear A650
                                                      obtain rfl := Option.some.inj H
                                                      go_wp2_with (first | ((with_reducible refine gate_callee (f := 19) rfl ?_); refine goesL_ (some 122) rfl rfl Try.func19 (by kernel_rfl) rfl #[.pointer (some ⟨g327, 0, none⟩)] rfl (by (try simp only [List.map_toArray, List.map_cons, List.map_nil]); first | done | rfl | (simp only [List.length_drop, List.length_take]; rfl)) ?_; (with_reducible refine (wire_Reader_Err.calls g327 x328000_7 x328001_7 x328002_7 x328003_7 t338 t339 t340 t341 t342 t343 w _ ?side1 ?side2 A62.out).mono ?_); (case side1 => repeat (first | (with_reducible first | exact HI327.out | apply IsS50.alloc | apply IsS50.drewN | apply IsS50.drew | apply IsS50.set_0 | apply IsS50.set_1 | apply IsS50.set_2 | apply IsS50.set_3) | exact HI327.out)); (case side2 => repeat (first | (with_reducible first | exact HB.out | apply below_alloc | apply pw_below_drewN | apply below_drew1 | refine below_set ?_ (IsS50.ge HI327.out)) | exact HB.out)); rintro e w66 ⟨rfl, hi, hb, hk⟩; refine ⟨_, rfl, ?_⟩; have n0_ := Aside0.mk (hb); have n1_ := Aside0.mk (hi); clear HB; clear HI327; have HB := n0_; have HI327 := n1_; clear n0_ n1_; (try clear hb); (try clear hb2); (try clear hk); (try clear hi)) | (go_at_call 21; (with_reducible refine (wire_Reader_Done.calls g327 t340 t341 t342 t343 t344 t345 t346 t347 t348 w _ ?side1 ?side2 A65.out).mono ?_); (case side1 => repeat (first | (with_reducible first | exact HI327.out | apply IsS50.alloc | apply IsS50.drewN | apply IsS50.drew | apply IsS50.set_0 | apply IsS50.set_1 | apply IsS50.set_2 | apply IsS50.set_3) | exact HI327.out)); (case side2 => repeat (first | (with_reducible first | exact HB.out | apply below_alloc | apply pw_below_drewN | apply below_drew1 | refine below_set ?_ (IsS50.ge HI327.out)) | exact HB.out)); rintro e w67 ⟨rfl, hi, hb, hk⟩; have n0_ := Aside0.mk (hb); have n1_ := Aside0.mk (hi); clear HB; clear HI327; have HB := n0_; have HI327 := n1_; clear n0_ n1_; (try clear hb); (try clear hb2); (try clear hk); (try clear hi)))
                                                      go_ret
                                                      exact ⟨by first | rfl | (simp [errW_none, errW_some] <;> rfl) | (simp [*, errW_none, errW_some] <;> rfl) | (simp [Aid.ne_nil, Aid.eq_nil, errW_none, errW_some]; done), by repeat (first | (with_reducible first | exact HB.out | apply below_alloc | apply pw_below_drewN | apply below_drew1 | refine below_set ?_ (IsS50.ge HI327.out)) | exact HB.out)⟩
                                                    · rw [if_neg c64] at H
                                                      have c64b0 : decide (t339 ≤ a2) = false := decide_eq_false c64
                                                      clear c64
                                                      obtain rfl := Option.some.inj H
                                                      go_wp2_with (first | ((with_reducible refine gate_callee (f := 19) rfl ?_); refine goesL_ (some 122) rfl rfl Try.func19 (by kernel_rfl) rfl #[.pointer (some ⟨g327, 0, none⟩)] rfl (by (try simp only [List.map_toArray, List.map_cons, List.map_nil]); first | done | rfl | (simp only [List.length_drop, List.length_take]; rfl)) ?_; (with_reducible refine (wire_Reader_Err.calls g327 x328000_7 x328001_7 x328002_7 x328003_7 t338 t339 t340 t341 t342 t343 w _ ?side1 ?side2 A62.out).mono ?_); (case side1 => repeat (first | (with_reducible first | exact HI327.out | apply IsS50.alloc | apply IsS50.drewN | apply IsS50.drew | apply IsS50.set_0 | apply IsS50.set_1 | apply IsS50.set_2 | apply IsS50.set_3) | exact HI327.out)); (case side2 => repeat (first | (with_reducible first | exact HB.out | apply below_alloc | apply pw_below_drewN | apply below_drew1 | refine below_set ?_ (IsS50.ge HI327.out)) | exact HB.out)); rintro e w68 ⟨rfl, hi, hb, hk⟩; refine ⟨_, rfl, ?_⟩; have n0_ := Aside0.mk (hb); have n1_ := Aside0.mk (hi); clear HB; clear HI327; have HB := n0_; have HI327 := n1_; clear n0_ n1_; (try clear hb); (try clear hb2); (try clear hk); (try clear hi)))
                                                      go_ret
                                                      exact ⟨by first | rfl | (simp [errW_none, errW_some] <;> rfl) | (simp [*, errW_none, errW_some] <;> rfl) | (simp [Aid.ne_nil, Aid.eq_nil, errW_none, errW_some]; done), by repeat (first | (with_reducible first | exact HB.out | apply below_alloc | apply pw_below_drewN | apply below_drew1 | refine below_set ?_ (IsS50.ge HI327.out)) | exact HB.out)⟩
                                                  · rw [if_neg c63] at H
                                                    have c63b0 : (t338 == 10) = false := beq_eq_false_iff_ne.mpr c63
                                                    have c63b1 : (t338 != 10) = true := bne_iff_ne.mpr c63
                                                    obtain rfl := Option.some.inj H
                                                    go_wp2_with (first | ((with_reducible refine gate_callee (f := 19) rfl ?_); refine goesL_ (some 122) rfl rfl Try.func19 (by kernel_rfl) rfl #[.pointer (some ⟨g327, 0, none⟩)] rfl (by (try simp only [List.map_toArray, List.map_cons, List.map_nil]); first | done | rfl | (simp only [List.length_drop, List.length_take]; rfl)) ?_; (with_reducible refine (wire_Reader_Err.calls g327 x328000_7 x328001_7 x328002_7 x328003_7 t338 t339 t340 t341 t342 t343 w _ ?side1 ?side2 A62.out).mono ?_); (case side1 => repeat (first | (with_reducible first | exact HI327.out | apply IsS50.alloc | apply IsS50.drewN | apply IsS50.drew | apply IsS50.set_0 | apply IsS50.set_1 | apply IsS50.set_2 | apply IsS50.set_3) | exact HI327.out)); (case side2 => repeat (first | (with_reducible first | exact HB.out | apply below_alloc | apply pw_below_drewN | apply below_drew1 | refine below_set ?_ (IsS50.ge HI327.out)) | exact HB.out)); rintro e w69 ⟨rfl, hi, hb, hk⟩; refine ⟨_, rfl, ?_⟩; have n0_ := Aside0.mk (hb); have n1_ := Aside0.mk (hi); clear HB; clear HI327; have HB := n0_; have HI327 := n1_; clear n0_ n1_; (try clear hb); (try clear hb2); (try clear hk); (try clear hi)))
                                                    go_ret
                                                    exact ⟨by first | rfl | (simp [errW_none, errW_some] <;> rfl) | (simp [*, errW_none, errW_some] <;> rfl) | (simp [Aid.ne_nil, Aid.eq_nil, errW_none, errW_some]; done), by repeat (first | (with_reducible first | exact HB.out | apply below_alloc | apply pw_below_drewN | apply below_drew1 | refine below_set ?_ (IsS50.ge HI327.out)) | exact HB.out)⟩
                                    · rw [if_neg c53] at H
                                      exact absurd H (by simp)
                                  · rw [if_neg c52] at H
                                    exact absurd H (by simp)
                          · replace c47 := Bool.eq_false_iff.mpr c47
                            subst c47
                            have H1 : (some false) = some r := by rw [if_neg (show ¬ (false = true) by decide)] at H; exact H
                            clear H
                            have H := H1
                            clear H1
                            obtain rfl := Option.some.inj H
                            go_wp2_with (first | ((with_reducible refine gate_callee (f := 21) rfl ?_); refine goesL_ (some 90) rfl rfl Try.func21 (by kernel_rfl) rfl #[.pointer (some ⟨g305, 0, none⟩)] rfl (by (try simp only [List.map_toArray, List.map_cons, List.map_nil]); first | done | rfl | (simp only [List.length_drop, List.length_take]; rfl)) ?_; (with_reducible refine (wire_Reader_Done.calls g305 x306000_4 x306001_4 x306002_4 x306003_4 false t319 t320 t321 t322 w _ ?side1 ?side2 A46.out).mono ?_); (case side1 => repeat (first | (with_reducible first | exact HI305.out | apply IsS50.alloc | apply IsS50.drewN | apply IsS50.drew | apply IsS50.set_0 | apply IsS50.set_1 | apply IsS50.set_2 | apply IsS50.set_3) | exact HI305.out)); (case side2 => repeat (first | (with_reducible first | exact HB.out | apply below_alloc | apply pw_below_drewN | apply below_drew1 | refine below_set ?_ (IsS50.ge HI305.out)) | exact HB.out)); rintro e w70 ⟨rfl, hi, hb, hk⟩; refine ⟨_, rfl, ?_⟩; have n0_ := Aside0.mk (hb); have n1_ := Aside0.mk (hi); clear HB; clear HI305; have HB := n0_; have HI305 := n1_; clear n0_ n1_; (try clear hb); (try clear hb2); (try clear hk); (try clear hi)))
                            go_ret
                            exact ⟨by first | rfl | (simp [errW_none, errW_some] <;> rfl) | (simp [*, errW_none, errW_some] <;> rfl) | (simp [Aid.ne_nil, Aid.eq_nil, errW_none, errW_some]; done), by repeat (first | (with_reducible first | exact HB.out | apply below_alloc | apply pw_below_drewN | apply below_drew1 | refine below_set ?_ (IsS50.ge HI305.out)) | exact HB.out)⟩

/-- THE ONE PURE STATEMENT of shuttlecocklaw02_WireBack (own row). -/
def shuttlecocklaw02_WireBack.Pure : Prop := ∀ (y0 : List ByteArray) (y1 : List Int) (y2 : Int), ((∀ e2 ∈ y0, e2.size ≤ maxLen) ∧ y0.length ≤ maxLen) → ((∀ e2 ∈ y1, (Lit.int .i64 e2).wf = true) ∧ y1.length ≤ maxLen) → (Lit.int .i64 y2).wf = true → ∃ k, shuttlecocklaw02_WireBack.f k y0 y1 y2 = some true

end Go.Proofs.Ythbfgggpggjldaa.Q
