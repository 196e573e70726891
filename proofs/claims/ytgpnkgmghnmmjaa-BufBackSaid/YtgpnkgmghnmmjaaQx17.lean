-- printed by a program of this session (NOTES: hprint); not the kit's print
-- minified
-- halved
import Derived.Test.YtgpnkgmghnmmjaaAl
import Derived.Test.YtgpnkgmghnmmjaaQx0
import Derived.Test.YtgpnkgmghnmmjaaQy
import Derived.Test.YtgpnkgmghnmmjaaQx3
import Derived.Test.YtgpnkgmghnmmjaaQx7
import Derived.Test.YtgpnkgmghnmmjaaQx25
import Derived.Test.YtgpnkgmghnmmjaaQx8
import Derived.Test.YtgpnkgmghnmmjaaQx16
import Derived.Test.YtgpnkgmghnmmjaaQx21
import Derived.Test.YtgpnkgmghnmmjaaQx22
namespace Go.Proofs.Ytgpnkgmghnmmjaa.Q
open Go.RowKit Go.Proofs.YtgpnkgmghnmmjaaW.PrintWords Go.Proofs.YtgpnkgmghnmmjaaW.PrintLast Go.Proofs.YtgpnkgmghnmmjaaW.PrintMore
attribute [local go_sem] max2_int min2_int max_two min_two max_three min_three max_four min_four   -- for this text's walks alone
set_option linter.unusedVariables false
set_option linter.unusedSimpArgs false

attribute [local go_sem high] eqA23
def q17_0 : Array Bool := let o := true; let z := false; #[z,z,z,z,z,z,z,z,z,z,z,z,z,z,z,z]
def q17_1 : Array Bool := let o := true; let z := false; #[z,o,z,z,z,z,z,z,z,z,z,z,z,z,z,z]
def q17_2 : Array Bool := let o := true; let z := false; #[z,o,o,z,z,z,z,z,z,z,z,z,z,z,z,z]
def q17_3 : Array Bool := let o := true; let z := false; #[z,o,o,o,z,z,z,z,z,z,z,z,z,z,z,z]
def q17_4 : Array Bool := let o := true; let z := false; #[z,o,o,o,z,o,z,z,z,z,z,z,z,z,z,z]
def q17_5 : Array Bool := let o := true; let z := false; #[z,o,o,o,z,o,o,z,z,z,z,z,z,z,z,z]
def q17_6 : Array Bool := let o := true; let z := false; #[z,o,o,o,z,o,o,o,z,z,z,z,z,z,z,z]
def q17_7 : Array Bool := let o := true; let z := false; #[o,o,o,o,z,o,o,o,z,z,z,z,z,z,z,z]
def q17_8 : Array Bool := let o := true; let z := false; #[o,o,o,o,o,o,o,o,z,z,z,z,z,z,z,z]
def q17_9 : Array Bool := let o := true; let z := false; #[o,o,o,o,o,o,o,o,o,z,z,z,z,z,z,z]
def q17_10 : Array Bool := let o := true; let z := false; #[o,o,o,o,o,o,o,o,o,o,o,o,o,o,z,z]
def q17_11 : Array Bool := let o := true; let z := false; #[o,o,o,o,o,o,o,o,o,o,z,z,z,z,z,z]
def q17_12 : Array Bool := let o := true; let z := false; #[o,o,o,o,o,o,o,o,o,z,z,z,z,o,z,z]
def q17_13 : Array Bool := let o := true; let z := false; #[o,o,o,o,o,o,o,o,o,o,o,z,z,z,z,z]
def q17_14 : Array Bool := let o := true; let z := false; #[o,o,o,o,o,o,o,o,o,o,o,o,z,z,z,z]
def q17_15 : Array Bool := let o := true; let z := false; #[o,o,o,o,o,o,o,o,o,o,o,o,o,z,z,z]
def q17_16 : Array Bool := let o := true; let z := false; #[o,o,o,o,o,o,o,o,o,o,z,z,z,o,z,z]
def q17_17 : Array Bool := let o := true; let z := false; #[o,o,o,o,o,o,o,o,o,o,o,z,z,o,z,z]
def q17_18 : Array Bool := let o := true; let z := false; #[o,o,o,o,o,o,o,o,o,o,o,o,z,o,z,z]
def q17_19 : Array Bool := let o := true; let z := false; #[o,o,o,o,o,o,o,o,o,o,o,o,o,o,o,z]
def q17_20 : Array Bool := let o := true; let z := false; #[o,o,o,o,o,o,o,o,o,o,o,o,o,o,o,o]
def q17_21 : Array Bool := let o := true; let z := false; #[z,z,z,z,z,z,z]
def q17_22 : Array Bool := let o := true; let z := false; #[z,o,z,z,z,z,z]
def q17_23 : Array Bool := let o := true; let z := false; #[z,o,o,z,z,z,z]
def q17_24 : Array Bool := let o := true; let z := false; #[z,o,o,o,z,z,z]
def q17_25 : Array Bool := let o := true; let z := false; #[o,o,o,o,z,z,z]
def q17_26 : Array Bool := let o := true; let z := false; #[o,o,o,o,o,z,z]
def q17_27 : Array Bool := let o := true; let z := false; #[o,o,o,o,o,o,z]
def q17_28 : Array Bool := let o := true; let z := false; #[o,o,o,o,o,o,o]
/-! ### shuttlecocklaw19_BufBack: function 4 -/
mutual
def shuttlecocklaw19_BufBack.j0 : Nat → Int → List Int → List (S28) → Bool → Option (Bool)
 | 0, _, _, _, _ => none
 | k + 1, x0, x1, x2, x41 => if x41 = true then ((shuttlecocklaw19_fixed.f k).bind fun t341 => (some t341)) else (shuttlecocklaw19_BufBack.l0 k x0 x1 x2 0 x0 0 0 (⟨#[]⟩ : ByteArray))
def shuttlecocklaw19_BufBack.l0 : Nat → Int → List Int → List (S28) → Int → Int → Int → Int → ByteArray → Option (Bool)
 | 0, _, _, _, _, _, _, _, _ => none
 | k + 1, x0, x1, x2, x8, x343000, x343001, x343002, x343003 => if x8 < (x2.length : Int) then (if 0 ≤ x8 then (if x8 < (x1.length : Int) then ((buf_Put.f k x343000 x343001 x343002 x343003 (rd x1 x8) ((rd_T28 x2 x8).f0) ((rd_T28 x2 x8).f1) ((rd_T28 x2 x8).f2) ((rd_T28 x2 x8).f3)).bind fun bt345 => (if bt345.2.2.2.2 = true then (shuttlecocklaw19_BufBack.l0 k x0 x1 x2 (wrap64 (x8 + 1)) bt345.1 bt345.2.1 bt345.2.2.1 bt345.2.2.2.1) else (some true))) else (none)) else (none)) else ((buf_Seal.f x343000 x343001 x343002 x343003 1).bind fun bt351 => (if (x2.length : Int) = 0 then (some (!bt351.2.2.2.2.2.2.2.2)) else ((shuttlecockref05_Events.f k bt351.1 bt351.2.1 bt351.2.2.1 bt351.2.2.2.1).bind fun bt362 => (if bt351.2.2.2.2.2.2.2.2 = true then (if bt362.2.2.2 = 0 then (if (bt362.1.length : Int) = (x2.length : Int) then ((shuttlecockref01_Ints.f k bt362.2.1 x1).bind fun t370 => (if t370 = true then (if (!(bt351.2.2.2.2.1 == x0) || (!(bt351.2.2.2.2.2.1 == 0) || (!(bt351.2.2.2.2.2.2.1 == 0) || (!(bt351.2.2.2.2.2.2.2.1.toList == ([] : List UInt8)))))) = true then (shuttlecocklaw19_BufBack.j2 k x2 bt362.1 true) else (shuttlecocklaw19_BufBack.j2 k x2 bt362.1 (bt351.2.1 != (wrap64 (x0 + 1))))) else (shuttlecocklaw19_BufBack.j2 k x2 bt362.1 true))) else (shuttlecocklaw19_BufBack.j2 k x2 bt362.1 true)) else (shuttlecocklaw19_BufBack.j2 k x2 bt362.1 true)) else (shuttlecocklaw19_BufBack.j2 k x2 bt362.1 true)))))
def shuttlecocklaw19_BufBack.j2 : Nat → List (S28) → List (S28) → Bool → Option (Bool)
 | 0, _, _, _ => none
 | k + 1, x2, x14, x116 => if x116 = true then (none) else (shuttlecocklaw19_BufBack.l1 k x2 x14 0)
def shuttlecocklaw19_BufBack.l1 : Nat → List (S28) → List (S28) → Int → Option (Bool)
 | 0, _, _, _ => none
 | k + 1, x2, x14, x18 => if x18 < (x2.length : Int) then (if 0 ≤ x18 then (if x18 < (x14.length : Int) then ((shuttlecockref04_Same.f k ((rd_T28 x2 x18).f0) ((rd_T28 x14 x18).f1) ((rd_T28 x2 x18).f2) ((rd_T28 x2 x18).f3) ((rd_T28 x14 x18).f0) ((rd_T28 x14 x18).f1) ((rd_T28 x14 x18).f2) ((rd_T28 x14 x18).f3)).bind fun t375 => (if t375 = true then (shuttlecocklaw19_BufBack.l1 k x2 x14 (wrap64 (x18 + 1))) else (none))) else (none)) else (none)) else (some true)
end
def shuttlecocklaw19_BufBack.f (k : Nat) (a0 : Int) (l1 : List Int) (l2 : List (S28)) : Option (Bool) := (shuttlecocklaw19_fixed.f k).bind fun t339 => (if t339 = true then (if a0 < 1 then (shuttlecocklaw19_BufBack.j0 k a0 l1 l2 true) else (if a0 > 1000 then (shuttlecocklaw19_BufBack.j0 k a0 l1 l2 true) else ((shuttlecockref04_Short.f k l2).bind fun t340 => (if t340 = true then (shuttlecocklaw19_BufBack.j0 k a0 l1 l2 ((l1.length : Int) != (l2.length : Int))) else (shuttlecocklaw19_BufBack.j0 k a0 l1 l2 true))))) else (shuttlecocklaw19_BufBack.j0 k a0 l1 l2 true))
theorem shuttlecocklaw19_BufBack.mono_l : ∀ k, (∀ y0 y1 y2 y3, LeO (shuttlecocklaw19_BufBack.j0 k y0 y1 y2 y3) (shuttlecocklaw19_BufBack.j0 (k + 1) y0 y1 y2 y3)) ∧ (∀ y0 y1 y2 y3 y4 y5 y6 y7, LeO (shuttlecocklaw19_BufBack.l0 k y0 y1 y2 y3 y4 y5 y6 y7) (shuttlecocklaw19_BufBack.l0 (k + 1) y0 y1 y2 y3 y4 y5 y6 y7)) ∧ (∀ y0 y1 y2, LeO (shuttlecocklaw19_BufBack.j2 k y0 y1 y2) (shuttlecocklaw19_BufBack.j2 (k + 1) y0 y1 y2)) ∧ (∀ y0 y1 y2, LeO (shuttlecocklaw19_BufBack.l1 k y0 y1 y2) (shuttlecocklaw19_BufBack.l1 (k + 1) y0 y1 y2))
 | 0 => ⟨fun _ _ _ _ r h => by simp [shuttlecocklaw19_BufBack.j0] at h, fun _ _ _ _ _ _ _ _ r h => by simp [shuttlecocklaw19_BufBack.l0] at h, fun _ _ _ r h => by simp [shuttlecocklaw19_BufBack.j2] at h, fun _ _ _ r h => by simp [shuttlecocklaw19_BufBack.l1] at h⟩
 | k + 1 => by
  obtain ⟨ih0, ih1, ih2, ih3⟩ := shuttlecocklaw19_BufBack.mono_l k
  refine ⟨?_, ?_, ?_, ?_⟩
  ·
   intro y0 y1 y2 y3
   unfold shuttlecocklaw19_BufBack.j0
   repeat' first
   | (with_reducible exact ih0 _ _ _ _)
   | (with_reducible exact ih1 _ _ _ _ _ _ _ _)
   | (with_reducible exact ih2 _ _ _)
   | (with_reducible exact ih3 _ _ _)
   | (with_reducible exact buf_Put.mono _ _ _ _ _ _ _ _ _ _)
   | (with_reducible exact shuttlecocklaw19_fixed.mono _)
   | (with_reducible exact shuttlecockref01_Ints.mono _ _ _)
   | (with_reducible exact shuttlecockref04_Same.mono _ _ _ _ _ _ _ _ _)
   | (with_reducible exact shuttlecockref04_Short.mono _ _)
   | (with_reducible exact shuttlecockref05_Events.mono _ _ _ _ _)
   | (with_reducible exact LeO.refl _)
   | (with_reducible exact LeO.none _)
   | (with_reducible refine LeO.ite ?_ ?_)
   | (with_reducible refine LeO.bind ?_ (fun _ => ?_))
   | exact ih0 _ _ _ _
   | exact ih1 _ _ _ _ _ _ _ _
   | exact ih2 _ _ _
   | exact ih3 _ _ _
   | exact buf_Put.mono _ _ _ _ _ _ _ _ _ _
   | exact shuttlecocklaw19_fixed.mono _
   | exact shuttlecockref01_Ints.mono _ _ _
   | exact shuttlecockref04_Same.mono _ _ _ _ _ _ _ _ _
   | exact shuttlecockref04_Short.mono _ _
   | exact shuttlecockref05_Events.mono _ _ _ _ _
   | exact LeO.none _
   | refine LeO.ite ?_ ?_
   | refine LeO.bind ?_ (fun _ => ?_)
  ·
   intro y0 y1 y2 y3 y4 y5 y6 y7
   unfold shuttlecocklaw19_BufBack.l0
   repeat' first
   | (with_reducible exact ih0 _ _ _ _)
   | (with_reducible exact ih1 _ _ _ _ _ _ _ _)
   | (with_reducible exact ih2 _ _ _)
   | (with_reducible exact ih3 _ _ _)
   | (with_reducible exact buf_Put.mono _ _ _ _ _ _ _ _ _ _)
   | (with_reducible exact shuttlecocklaw19_fixed.mono _)
   | (with_reducible exact shuttlecockref01_Ints.mono _ _ _)
   | (with_reducible exact shuttlecockref04_Same.mono _ _ _ _ _ _ _ _ _)
   | (with_reducible exact shuttlecockref04_Short.mono _ _)
   | (with_reducible exact shuttlecockref05_Events.mono _ _ _ _ _)
   | (with_reducible exact LeO.refl _)
   | (with_reducible exact LeO.none _)
   | (with_reducible refine LeO.ite ?_ ?_)
   | (with_reducible refine LeO.bind ?_ (fun _ => ?_))
   | exact ih0 _ _ _ _
   | exact ih1 _ _ _ _ _ _ _ _
   | exact ih2 _ _ _
   | exact ih3 _ _ _
   | exact buf_Put.mono _ _ _ _ _ _ _ _ _ _
   | exact shuttlecocklaw19_fixed.mono _
   | exact shuttlecockref01_Ints.mono _ _ _
   | exact shuttlecockref04_Same.mono _ _ _ _ _ _ _ _ _
   | exact shuttlecockref04_Short.mono _ _
   | exact shuttlecockref05_Events.mono _ _ _ _ _
   | exact LeO.none _
   | refine LeO.ite ?_ ?_
   | refine LeO.bind ?_ (fun _ => ?_)
  ·
   intro y0 y1 y2
   unfold shuttlecocklaw19_BufBack.j2
   repeat' first
   | (with_reducible exact ih0 _ _ _ _)
   | (with_reducible exact ih1 _ _ _ _ _ _ _ _)
   | (with_reducible exact ih2 _ _ _)
   | (with_reducible exact ih3 _ _ _)
   | (with_reducible exact buf_Put.mono _ _ _ _ _ _ _ _ _ _)
   | (with_reducible exact shuttlecocklaw19_fixed.mono _)
   | (with_reducible exact shuttlecockref01_Ints.mono _ _ _)
   | (with_reducible exact shuttlecockref04_Same.mono _ _ _ _ _ _ _ _ _)
   | (with_reducible exact shuttlecockref04_Short.mono _ _)
   | (with_reducible exact shuttlecockref05_Events.mono _ _ _ _ _)
   | (with_reducible exact LeO.refl _)
   | (with_reducible exact LeO.none _)
   | (with_reducible refine LeO.ite ?_ ?_)
   | (with_reducible refine LeO.bind ?_ (fun _ => ?_))
   | exact ih0 _ _ _ _
   | exact ih1 _ _ _ _ _ _ _ _
   | exact ih2 _ _ _
   | exact ih3 _ _ _
   | exact buf_Put.mono _ _ _ _ _ _ _ _ _ _
   | exact shuttlecocklaw19_fixed.mono _
   | exact shuttlecockref01_Ints.mono _ _ _
   | exact shuttlecockref04_Same.mono _ _ _ _ _ _ _ _ _
   | exact shuttlecockref04_Short.mono _ _
   | exact shuttlecockref05_Events.mono _ _ _ _ _
   | exact LeO.none _
   | refine LeO.ite ?_ ?_
   | refine LeO.bind ?_ (fun _ => ?_)
  ·
   intro y0 y1 y2
   unfold shuttlecocklaw19_BufBack.l1
   repeat' first
   | (with_reducible exact ih0 _ _ _ _)
   | (with_reducible exact ih1 _ _ _ _ _ _ _ _)
   | (with_reducible exact ih2 _ _ _)
   | (with_reducible exact ih3 _ _ _)
   | (with_reducible exact buf_Put.mono _ _ _ _ _ _ _ _ _ _)
   | (with_reducible exact shuttlecocklaw19_fixed.mono _)
   | (with_reducible exact shuttlecockref01_Ints.mono _ _ _)
   | (with_reducible exact shuttlecockref04_Same.mono _ _ _ _ _ _ _ _ _)
   | (with_reducible exact shuttlecockref04_Short.mono _ _)
   | (with_reducible exact shuttlecockref05_Events.mono _ _ _ _ _)
   | (with_reducible exact LeO.refl _)
   | (with_reducible exact LeO.none _)
   | (with_reducible refine LeO.ite ?_ ?_)
   | (with_reducible refine LeO.bind ?_ (fun _ => ?_))
   | exact ih0 _ _ _ _
   | exact ih1 _ _ _ _ _ _ _ _
   | exact ih2 _ _ _
   | exact ih3 _ _ _
   | exact buf_Put.mono _ _ _ _ _ _ _ _ _ _
   | exact shuttlecocklaw19_fixed.mono _
   | exact shuttlecockref01_Ints.mono _ _ _
   | exact shuttlecockref04_Same.mono _ _ _ _ _ _ _ _ _
   | exact shuttlecockref04_Short.mono _ _
   | exact shuttlecockref05_Events.mono _ _ _ _ _
   | exact LeO.none _
   | refine LeO.ite ?_ ?_
   | refine LeO.bind ?_ (fun _ => ?_)
theorem shuttlecocklaw19_BufBack.mono : ∀ a0 a1 a2 k, LeO (shuttlecocklaw19_BufBack.f k a0 a1 a2) (shuttlecocklaw19_BufBack.f (k + 1) a0 a1 a2) := by
 intro a0 a1 a2 k
 obtain ⟨ih0, ih1, ih2, ih3⟩ := shuttlecocklaw19_BufBack.mono_l k
 unfold shuttlecocklaw19_BufBack.f
 repeat' first
   | (with_reducible exact ih0 _ _ _ _)
   | (with_reducible exact ih1 _ _ _ _ _ _ _ _)
   | (with_reducible exact ih2 _ _ _)
   | (with_reducible exact ih3 _ _ _)
   | (with_reducible exact buf_Put.mono _ _ _ _ _ _ _ _ _ _)
   | (with_reducible exact shuttlecocklaw19_fixed.mono _)
   | (with_reducible exact shuttlecockref01_Ints.mono _ _ _)
   | (with_reducible exact shuttlecockref04_Same.mono _ _ _ _ _ _ _ _ _)
   | (with_reducible exact shuttlecockref04_Short.mono _ _)
   | (with_reducible exact shuttlecockref05_Events.mono _ _ _ _ _)
   | (with_reducible exact LeO.refl _)
   | (with_reducible exact LeO.none _)
   | (with_reducible refine LeO.ite ?_ ?_)
   | (with_reducible refine LeO.bind ?_ (fun _ => ?_))
   | exact ih0 _ _ _ _
   | exact ih1 _ _ _ _ _ _ _ _
   | exact ih2 _ _ _
   | exact ih3 _ _ _
   | exact buf_Put.mono _ _ _ _ _ _ _ _ _ _
   | exact shuttlecocklaw19_fixed.mono _
   | exact shuttlecockref01_Ints.mono _ _ _
   | exact shuttlecockref04_Same.mono _ _ _ _ _ _ _ _ _
   | exact shuttlecockref04_Short.mono _ _
   | exact shuttlecockref05_Events.mono _ _ _ _ _
   | exact LeO.none _
   | refine LeO.ite ?_ ?_
   | refine LeO.bind ?_ (fun _ => ?_)
def shuttlecocklaw19_BufBack.T7 : Bool × List (List Nat × List Nat) := (true, [([], []), ([], []), ([], []), ([1, 2], [1, 2]), ([3], [3]), ([], []), ([], []), ([5, 6], [5, 6]), ([7], [7]), ([0, 4, 8], [0, 4, 8]), ([9], [9]), ([10], [10]), ([10], [10]), ([], []), ([13, 11, 9, 0, 1, 2, 3, 4, 5, 6, 7, 8, 9, 10, 11, 13], [11, 13]), ([12, 14, 0, 1, 2, 3, 4, 5, 6, 7, 8, 9, 10, 11, 12, 13, 14], [12])])
def shuttlecocklaw19_BufBack.B7 : List Nat := [0, 0, 0, 6, 14, 0, 0, 96, 224, 511, 1023, 2047, 2047, 0, 12287, 32767]
theorem shuttlecocklaw19_BufBack.tab7 : rtab .any (opsOf Try.f4 7) = shuttlecocklaw19_BufBack.T7 := by kernel_rfl
theorem shuttlecocklaw19_BufBack.bits7 : waitsOk shuttlecocklaw19_BufBack.T7.2 shuttlecocklaw19_BufBack.B7 = true := by kernel_rfl
set_option maxHeartbeats 8000000 in
set_option maxRecDepth 100000 in
theorem shuttlecocklaw19_BufBack.calls (k : Nat) (a0 : Int) (A1 : Option Addr) (c1 : Nat) (l1 : List Int) (A2 : Option Addr) (c2 : Nat) (l2 : List (S28)) (r : Bool) (w : World) (hr1 : Kd.C (Kd.int .i64) w A1 l1.length l1) (hc1 : l1.length ≤ c1) (hr2 : Kd.C k28 w A2 l2.length l2) (hc2 : l2.length ≤ c2) (h : shuttlecocklaw19_BufBack.f k a0 l1 l2 = some r) :
  Calls Try.prog 4 #[.int .i64 a0, .slice A1 l1.length c1, .slice A2 l2.length c2] w fun e w' => e = .returned (.bool r) ∧ Below w.heap.size w w' := by
 have hu23 := Try.underlying23
 have hu28 := Try.underlying28
 have hu35 := Try.underlying35
 have HR1 := Am hr1
 have HC1 := Am hc1
 clear hr1 hc1
 have HR2 := Am hr2
 have HC2 := Am hc2
 clear hr2 hc2
 have HB := Am (Below.refl w.heap.size w)
 have H : ((shuttlecocklaw19_fixed.f k).bind fun t339 => (if t339 = true then (if a0 < 1 then (shuttlecocklaw19_BufBack.j0 k a0 l1 l2 true) else (if a0 > 1000 then (shuttlecocklaw19_BufBack.j0 k a0 l1 l2 true) else ((shuttlecockref04_Short.f k l2).bind fun t340 => (if t340 = true then (shuttlecocklaw19_BufBack.j0 k a0 l1 l2 ((l1.length : Int) != (l2.length : Int))) else (shuttlecocklaw19_BufBack.j0 k a0 l1 l2 true))))) else (shuttlecocklaw19_BufBack.j0 k a0 l1 l2 true))) = some r := h
 clear h
 have HC4 := Am H
 clear H
 go_enter Try.func4, Try.ntmps4
 go_upto_region 1 with (fail)
 go_cut [41] (fun v41 wc => ∃ (kq : Nat) (x41_3 : Bool), v41 = .bool x41_3 ∧ Aside0 (shuttlecocklaw19_BufBack.j0 kq a0 l1 l2 x41_3 = some r) ∧ Aside0 (kq ≤ k) ∧ Aside0 (Below w.heap.size w wc))
 case first =>
  have H := HC4.out
  clear HC4
  replace H := ob H
  obtain ⟨t339, A50, H⟩ := H
  replace H : (if t339 = true then (if a0 < 1 then (shuttlecocklaw19_BufBack.j0 k a0 l1 l2 true) else (if a0 > 1000 then (shuttlecocklaw19_BufBack.j0 k a0 l1 l2 true) else ((shuttlecockref04_Short.f k l2).bind fun t340 => (if t340 = true then (shuttlecocklaw19_BufBack.j0 k a0 l1 l2 ((l1.length : Int) != (l2.length : Int))) else (shuttlecocklaw19_BufBack.j0 k a0 l1 l2 true))))) else (shuttlecocklaw19_BufBack.j0 k a0 l1 l2 true)) = some r := H
  have A5 := Am A50
  clear A50
  by_cases c6 : t339 = true
  ·
   subst c6
   have H1 : (if a0 < 1 then (shuttlecocklaw19_BufBack.j0 k a0 l1 l2 true) else (if a0 > 1000 then (shuttlecocklaw19_BufBack.j0 k a0 l1 l2 true) else ((shuttlecockref04_Short.f k l2).bind fun t340 => (if t340 = true then (shuttlecocklaw19_BufBack.j0 k a0 l1 l2 ((l1.length : Int) != (l2.length : Int))) else (shuttlecocklaw19_BufBack.j0 k a0 l1 l2 true))))) = some r := by rw [if_pos rfl] at H; exact H
   clear H
   have H := H1
   clear H1
   by_cases c7 : a0 < 1
   ·
    rw [if_pos c7] at H
    have c7b0 : decide (a0 < 1) = true := decide_eq_true c7
    clear c7
    (first | rw [c7b0] | (simp only [i64_w, i32_w]; rw [c7b0]) | skip)
    have H' := Am H
    clear H
    go_wp2_with (first | ((with_reducible refine gate_callee (f := 9) rfl ?_); refine goesL_ (some 20) rfl rfl Try.func9 (by kernel_rfl) rfl #[] rfl (by (try simp only [List.map_toArray, List.map_cons, List.map_nil]); first | done | rfl | (simp only [List.length_drop, List.length_take]; rfl)) ?_; (with_reducible refine (shuttlecocklaw19_fixed.calls k  true _ A5.out).mono ?_); rintro e w8 ⟨rfl, hb⟩; refine ⟨_, rfl, ?_⟩; have n0_ := Am (below_step (by repeat (first | (with_reducible first | exact HB.out | apply bl | apply pN | apply b1) | exact HB.out | exact HBo.out)) hb); clear HB; have HB := n0_; clear n0_; (try clear hb); (try clear hb2); (try clear hk); (try clear hi)))
    go_meet
    case rel => exact ⟨_, (true), (by first | rfl | (simp; done) | (simp [*]; done)), H', ⟨by first | omega | exact Nat.le_refl _⟩, ⟨by repeat (first | (with_reducible first | exact HB.out | apply bl | apply pN | apply b1) | exact HB.out | exact HBo.out)⟩⟩
   ·
    rw [if_neg c7] at H
    have c7b0 : decide (a0 < 1) = false := decide_eq_false c7
    clear c7
    (first | rw [c7b0] | (simp only [i64_w, i32_w]; rw [c7b0]) | skip)
    by_cases c9 : a0 > 1000
    ·
     rw [if_pos c9] at H
     have c9b0 : decide (1000 < a0) = true := decide_eq_true c9
     clear c9
     have H' := Am H
     clear H
     go_wp2_with (first | ((with_reducible refine gate_callee (f := 9) rfl ?_); refine goesL_ (some 20) rfl rfl Try.func9 (by kernel_rfl) rfl #[] rfl (by (try simp only [List.map_toArray, List.map_cons, List.map_nil]); first | done | rfl | (simp only [List.length_drop, List.length_take]; rfl)) ?_; (with_reducible refine (shuttlecocklaw19_fixed.calls k  true _ A5.out).mono ?_); rintro e w10 ⟨rfl, hb⟩; refine ⟨_, rfl, ?_⟩; have n0_ := Am (below_step (by repeat (first | (with_reducible first | exact HB.out | apply bl | apply pN | apply b1) | exact HB.out | exact HBo.out)) hb); clear HB; have HB := n0_; clear n0_; (try clear hb); (try clear hb2); (try clear hk); (try clear hi)))
     go_meet
     case rel => exact ⟨_, (true), (by first | rfl | (simp; done) | (simp [*]; done)), H', ⟨by first | omega | exact Nat.le_refl _⟩, ⟨by repeat (first | (with_reducible first | exact HB.out | apply bl | apply pN | apply b1) | exact HB.out | exact HBo.out)⟩⟩
    ·
     rw [if_neg c9] at H
     have c9b0 : decide (1000 < a0) = false := decide_eq_false c9
     clear c9
     replace H := ob H
     obtain ⟨t340, A110, H⟩ := H
     replace H : (if t340 = true then (shuttlecocklaw19_BufBack.j0 k a0 l1 l2 ((l1.length : Int) != (l2.length : Int))) else (shuttlecocklaw19_BufBack.j0 k a0 l1 l2 true)) = some r := H
     have A11 := Am A110
     clear A110
     by_cases c12 : t340 = true
     ·
      subst c12
      have H1 : (shuttlecocklaw19_BufBack.j0 k a0 l1 l2 ((l1.length : Int) != (l2.length : Int))) = some r := by rw [if_pos rfl] at H; exact H
      clear H
      have H := H1
      clear H1
      have H' := Am H
      clear H
      go_wp2_with (first | ((with_reducible refine gate_callee (f := 9) rfl ?_); refine goesL_ (some 20) rfl rfl Try.func9 (by kernel_rfl) rfl #[] rfl (by (try simp only [List.map_toArray, List.map_cons, List.map_nil]); first | done | rfl | (simp only [List.length_drop, List.length_take]; rfl)) ?_; (with_reducible refine (shuttlecocklaw19_fixed.calls k  true _ A5.out).mono ?_); rintro e w13 ⟨rfl, hb⟩; refine ⟨_, rfl, ?_⟩; have n0_ := Am (below_step (by repeat (first | (with_reducible first | exact HB.out | apply bl | apply pN | apply b1) | exact HB.out | exact HBo.out)) hb); clear HB; have HB := n0_; clear n0_; (try clear hb); (try clear hb2); (try clear hk); (try clear hi)) | (go_at_call 8; (with_reducible refine (shuttlecockref04_Short.calls k _ _ l2 true _ ?side1 ?side2 A11.out).mono ?_); (case side1 => repeat (first | exact (Kd.C_below HR2.out HB.out) | (with_reducible refine Kd.C_alloc ?_ _) | (with_reducible refine Kd.C_drewN ?_ _) | (with_reducible refine Kd.C_drew ?_))); (case side2 => exact HC2.out); rintro e w' ⟨rfl, ⟨nd, rfl⟩⟩))
      go_meet
      case rel => exact ⟨_, (((l1.length : Int) != (l2.length : Int))), (by first | rfl | (simp; done) | (simp [*]; done)), H', ⟨by first | omega | exact Nat.le_refl _⟩, ⟨by repeat (first | (with_reducible first | exact HB.out | apply bl | apply pN | apply b1) | exact HB.out | exact HBo.out)⟩⟩
     ·
      replace c12 := Bool.eq_false_iff.mpr c12
      subst c12
      have H1 : (shuttlecocklaw19_BufBack.j0 k a0 l1 l2 true) = some r := by rw [if_neg (show ¬ (false = true) by decide)] at H; exact H
      clear H
      have H := H1
      clear H1
      have H' := Am H
      clear H
      go_wp2_with (first | ((with_reducible refine gate_callee (f := 9) rfl ?_); refine goesL_ (some 20) rfl rfl Try.func9 (by kernel_rfl) rfl #[] rfl (by (try simp only [List.map_toArray, List.map_cons, List.map_nil]); first | done | rfl | (simp only [List.length_drop, List.length_take]; rfl)) ?_; (with_reducible refine (shuttlecocklaw19_fixed.calls k  true _ A5.out).mono ?_); rintro e w14 ⟨rfl, hb⟩; refine ⟨_, rfl, ?_⟩; have n0_ := Am (below_step (by repeat (first | (with_reducible first | exact HB.out | apply bl | apply pN | apply b1) | exact HB.out | exact HBo.out)) hb); clear HB; have HB := n0_; clear n0_; (try clear hb); (try clear hb2); (try clear hk); (try clear hi)) | (go_at_call 8; (with_reducible refine (shuttlecockref04_Short.calls k _ _ l2 false _ ?side1 ?side2 A11.out).mono ?_); (case side1 => repeat (first | exact (Kd.C_below HR2.out HB.out) | (with_reducible refine Kd.C_alloc ?_ _) | (with_reducible refine Kd.C_drewN ?_ _) | (with_reducible refine Kd.C_drew ?_))); (case side2 => exact HC2.out); rintro e w' ⟨rfl, ⟨nd, rfl⟩⟩))
      go_meet
      case rel => exact ⟨_, (true), (by first | rfl | (simp; done) | (simp [*]; done)), H', ⟨by first | omega | exact Nat.le_refl _⟩, ⟨by repeat (first | (with_reducible first | exact HB.out | apply bl | apply pN | apply b1) | exact HB.out | exact HBo.out)⟩⟩
  ·
   replace c6 := Bool.eq_false_iff.mpr c6
   subst c6
   have H1 : (shuttlecocklaw19_BufBack.j0 k a0 l1 l2 true) = some r := by rw [if_neg (show ¬ (false = true) by decide)] at H; exact H
   clear H
   have H := H1
   clear H1
   have H' := Am H
   clear H
   go_wp2_with (first | ((with_reducible refine gate_callee (f := 9) rfl ?_); refine goesL_ (some 20) rfl rfl Try.func9 (by kernel_rfl) rfl #[] rfl (by (try simp only [List.map_toArray, List.map_cons, List.map_nil]); first | done | rfl | (simp only [List.length_drop, List.length_take]; rfl)) ?_; (with_reducible refine (shuttlecocklaw19_fixed.calls k  false _ A5.out).mono ?_); rintro e w15 ⟨rfl, hb⟩; refine ⟨_, rfl, ?_⟩; have n0_ := Am (below_step (by repeat (first | (with_reducible first | exact HB.out | apply bl | apply pN | apply b1) | exact HB.out | exact HBo.out)) hb); clear HB; have HB := n0_; clear n0_; (try clear hb); (try clear hb2); (try clear hk); (try clear hi)))
   go_meet
   case rel => exact ⟨_, (true), (by first | rfl | (simp; done) | (simp [*]; done)), H', ⟨by first | omega | exact Nat.le_refl _⟩, ⟨by repeat (first | (with_reducible first | exact HB.out | apply bl | apply pN | apply b1) | exact HB.out | exact HBo.out)⟩⟩
 case rest =>
  clear HC4
  try clear c1
  try clear c2
  try clear p2
  try clear c4
  try clear c6
  try clear c7
  try clear c7b0
  try clear c9
  try clear c9b0
  try clear c12
  obtain ⟨kq, x41_3, rfl, HA, HJ3, HB⟩ := hcut
  cases kq with
  | zero => exact absurd HA.out (by simp [shuttlecocklaw19_BufBack.j0])
  | succ kj3 =>
   have H := HA.out
   clear HA
   simp only [shuttlecocklaw19_BufBack.j0] at H
   by_cases c16 : x41_3 = true
   ·
    subst c16
    have H1 : ((shuttlecocklaw19_fixed.f kj3).bind fun t341 => (some t341)) = some r := by rw [if_pos rfl] at H; exact H
    clear H
    have H := H1
    clear H1
    replace H := ob H
    obtain ⟨t341, A170, H⟩ := H
    replace H : (some t341) = some r := H
    have A17 := Am A170
    clear A170
    obtain rfl := Option.some.inj H
    go_wp2_with (first | ((with_reducible refine gate_callee (f := 9) rfl ?_); refine goesL_ (some 42) rfl rfl Try.func9 (by kernel_rfl) rfl #[] rfl (by (try simp only [List.map_toArray, List.map_cons, List.map_nil]); first | done | rfl | (simp only [List.length_drop, List.length_take]; rfl)) ?_; (with_reducible refine (shuttlecocklaw19_fixed.calls kj3  t341 _ A17.out).mono ?_); rintro e w18 ⟨rfl, hb⟩; refine ⟨_, rfl, ?_⟩; have n0_ := Am (below_step (by repeat (first | (with_reducible first | exact HB.out | apply bl | apply pN | apply b1) | exact HB.out | exact HBo.out)) hb); clear HB; have HB := n0_; clear n0_; (try clear hb); (try clear hb2); (try clear hk); (try clear hi)))
    go_ret
    exact ⟨by first | rfl | (simp [errW_none, errW_some] <;> rfl) | (simp [*, errW_none, errW_some] <;> rfl) | (simp [Aid.ne_nil, Aid.eq_nil, errW_none, errW_some]; done), by repeat (first | (with_reducible first | exact HB.out | apply bl | apply pN | apply b1) | exact HB.out | exact HBo.out)⟩
   ·
    replace c16 := Bool.eq_false_iff.mpr c16
    subst c16
    have H1 : (shuttlecocklaw19_BufBack.l0 kj3 a0 l1 l2 0 a0 0 0 (⟨#[]⟩ : ByteArray)) = some r := by rw [if_neg (show ¬ (false = true) by decide)] at H; exact H
    clear H
    have H := H1
    clear H1
    have H' := Am H
    clear H
    go_wp2_with (first | ((with_reducible refine gate_dst (N := 7) rfl ?_); (try (refine gate_guard (by rfl) ?_; dsimp only)); refine box_event ?hg (N := 7) ?hd (cs := #[.int .i64 0, .int .i64 0, .int .i64 0, .string (⟨#[]⟩ : ByteArray)]) (t := 23) ?hr ?_; (case hd => rfl); (case hg => rfl); (case hr => first | (go_simp; done) | (go_simp; rfl)); intro gb342 hg w19 hbox hb; have n0_ := Am (below_step (by repeat (first | (with_reducible first | exact HB.out | apply bl | apply pN | apply b1) | exact HB.out | exact HBo.out)) hb); have n1_ := Am (hbox); have n2_ := Am ((by rw [hg]; exact (below_size (by repeat (first | (with_reducible first | exact HB.out | apply bl | apply pN | apply b1) | exact HB.out | exact HBo.out))) : w.heap.size ≤ gb342)); have n3_ := Am ((by rw [hg]; exact (below_size (by repeat (first | (with_reducible first | exact HB.out | apply bl | apply pN | apply b1) | exact HB.out | exact HBo.out))) : w.heap.size ≤ gb342)); clear HB; have HB := n0_; have BK342 := n1_; have GW342 := n2_; have GE342 := n3_; clear n0_ n1_ n2_ n3_; clear hb hbox hg; have hcz20_0 : w19.cell? ⟨gb342, 0, none⟩ = some (.int .i64 0) := (bc BK342.out 0).trans rfl; have hcz20_1 : w19.cell? ⟨gb342, 1, none⟩ = some (.int .i64 0) := (bc BK342.out 1).trans rfl; have hcz20_2 : w19.cell? ⟨gb342, 2, none⟩ = some (.int .i64 0) := (bc BK342.out 2).trans rfl; have hcz20_3 : w19.cell? ⟨gb342, 3, none⟩ = some (.string (⟨#[]⟩ : ByteArray)) := (bc BK342.out 3).trans rfl; have hfz20_0 := bf BK342.out 0; have hfz20_1 := bf BK342.out 1; have hfz20_2 := bf BK342.out 2; have hfz20_3 := bf BK342.out 3))
    go_loopg [8] kj3 (fun kq v8 w' => ∃ (x8_2 : Int) (x343000_2 : Int) (x343001_2 : Int) (x343002_2 : Int) (x343003_2 : ByteArray), v8 = .int .i64 x8_2 ∧ Aside0 (shuttlecocklaw19_BufBack.l0 kq a0 l1 l2 x8_2 x343000_2 x343001_2 x343002_2 x343003_2 = some r) ∧ Aside0 (kq ≤ kj3) ∧ Aside0 (w'.heap[gb342]? = some (.cells #[.int .i64 x343000_2, .int .i64 x343001_2, .int .i64 x343002_2, .string x343003_2] 23 (0, 0))) ∧ Aside0 (Below w.heap.size w w'))
    case atStart => exact ⟨(0), (a0), (0), (0), ((⟨#[]⟩ : ByteArray)), (by first | rfl | (simp; done) | (simp [*]; done)), H', ⟨Nat.le_refl _⟩, ⟨by (with_reducible repeat (first | refine bn ?_ _ | refine bd ?_ | refine ba ?_ _)); refine blk_put (cs := #[.int .i64 a0, .int .i64 0, .int .i64 0, .string (⟨#[]⟩ : ByteArray)]) ?_ 3 _ rfl; (with_reducible repeat (first | refine bn ?_ _ | refine bd ?_ | refine ba ?_ _)); refine blk_put (cs := #[.int .i64 a0, .int .i64 0, .int .i64 0, .string (⟨#[]⟩ : ByteArray)]) ?_ 2 _ rfl; (with_reducible repeat (first | refine bn ?_ _ | refine bd ?_ | refine ba ?_ _)); refine blk_put (cs := #[.int .i64 a0, .int .i64 0, .int .i64 0, .string (⟨#[]⟩ : ByteArray)]) ?_ 1 _ rfl; (with_reducible repeat (first | refine bn ?_ _ | refine bd ?_ | refine ba ?_ _)); refine blk_put (cs := #[.int .i64 0, .int .i64 0, .int .i64 0, .string (⟨#[]⟩ : ByteArray)]) ?_ 0 _ rfl; (with_reducible repeat (first | refine bn ?_ _ | refine bd ?_ | refine ba ?_ _)); exact BK342.out⟩, ⟨by repeat (first | (with_reducible first | exact HB.out | apply bl | apply pN | apply b1 | refine bs ?_ GE342.out) | exact HB.out | exact HBo.out)⟩⟩
    case round =>
     clear H'
     try clear c1
     try clear c2
     try clear p2
     try clear c4
     try clear c6
     try clear c7
     try clear c7b0
     try clear c9
     try clear c9b0
     try clear c12
     try clear c16
     try clear hcz20_0
     try clear hcz20_1
     try clear hcz20_2
     try clear hcz20_3
     try clear hfz20_0
     try clear hfz20_1
     try clear hfz20_2
     try clear hfz20_3
     try clear p2
     obtain ⟨x8_2, x343000_2, x343001_2, x343002_2, x343003_2, rfl, HA, HK2, BK342, HB⟩ := hrel
     cases gk with
     | zero => exact absurd HA.out (by simp [shuttlecocklaw19_BufBack.l0])
     | succ k2 =>
      have H := HA.out
      clear HA
      simp only [shuttlecocklaw19_BufBack.l0] at H
      by_cases c21 : x8_2 < (l2.length : Int)
      ·
       rw [if_pos c21] at H
       have c21b0 : decide (x8_2 < (l2.length : Int)) = true := decide_eq_true c21
       clear c21
       by_cases c22 : 0 ≤ x8_2
       ·
        rw [if_pos c22] at H
        have c22b0 : decide (0 ≤ x8_2) = true := decide_eq_true c22
        clear c22
        by_cases c23 : x8_2 < (l1.length : Int)
        ·
         rw [if_pos c23] at H
         have c23b0 : decide (x8_2 < (l1.length : Int)) = true := decide_eq_true c23
         clear c23
         replace H := ob H
         obtain ⟨⟨t345, t346, t347, t348, t349⟩, A240, H⟩ := H
         replace H : (if t349 = true then (shuttlecocklaw19_BufBack.l0 k2 a0 l1 l2 (wrap64 (x8_2 + 1)) t345 t346 t347 t348) else (some true)) = some r := H
         have A24 := Am A240
         clear A240
         by_cases c25 : t349 = true
         ·
          subst c25
          have H1 : (shuttlecocklaw19_BufBack.l0 k2 a0 l1 l2 (wrap64 (x8_2 + 1)) t345 t346 t347 t348) = some r := by rw [if_pos rfl] at H; exact H
          clear H
          have H := H1
          clear H1
          have H' := Am H
          clear H
          try go_wp2
          have n0_ := Am (bd BK342.out)
          have n1_ := Am (b1 HB.out)
          clear BK342
          clear HB
          have BK342 := n0_
          have HB := n1_
          clear n0_ n1_
          have p343 : 0 ≤ (x8_2 : Int) := of_decide_eq_true (by first | (with_reducible assumption) | assumption)
          have q343 : x8_2 < (l1.length : Int) := of_decide_eq_true (by first | (with_reducible assumption) | assumption)
          obtain ⟨ad343, e343, hx343_0⟩ := Kd.at_int HR1.out x8_2 p343 q343
          have hw343_0 := hx343_0
          cases e343
          replace hx343_0 := (HB.out.cell (World.block_lt_of_cell? w _ hx343_0)).trans hx343_0
          replace p343 := eq_true p343
          replace q343 := eq_true q343
          have p344 : 0 ≤ (x8_2 : Int) := of_decide_eq_true (by first | (with_reducible assumption) | assumption)
          have q344 : x8_2 < (l2.length : Int) := of_decide_eq_true (by first | (with_reducible assumption) | assumption)
          obtain ⟨ad344, A344_2, c344_2, e344, hx344_0, hx344_1, hx344_2, hx344_3, hl344_2, hi344_2⟩ := at_T28 HR2.out x8_2 p344 q344
          have hw344_3 := hx344_3
          have hw344_2 := hx344_2
          have hw344_1 := hx344_1
          have hw344_0 := hx344_0
          cases e344
          replace hx344_0 := (HB.out.cell (World.block_lt_of_cell? w _ hx344_0)).trans hx344_0
          replace hx344_1 := (HB.out.cell (World.block_lt_of_cell? w _ hx344_1)).trans hx344_1
          replace hx344_2 := (HB.out.cell (World.block_lt_of_cell? w _ hx344_2)).trans hx344_2
          replace hx344_3 := (HB.out.cell (World.block_lt_of_cell? w _ hx344_3)).trans hx344_3
          have HR344_2 := Am hi344_2
          have HC344_2 := Am hl344_2
          clear hi344_2 hl344_2
          replace p344 := eq_true p344
          replace q344 := eq_true q344
          refine start_ (n := 16) (S := fun w' => w'.cell? ⟨gb342, 0, none⟩ = some (.int .i64 x343000_2) ∧ w'.cell? ⟨gb342, 1, none⟩ = some (.int .i64 x343001_2) ∧ w'.cell? ⟨gb342, 2, none⟩ = some (.int .i64 x343002_2) ∧ w'.cell? ⟨gb342, 3, none⟩ = some (.string x343003_2) ∧ w'.cell? (ad343.add (x8_2).toNat) = some (.int .i64 (rd l1 x8_2)) ∧ w'.cell? (ad344.add ((x8_2).toNat * 4)) = some (.int .i64 ((rd_T28 l2 x8_2).f0)) ∧ w'.cell? ⟨(ad344.add ((x8_2).toNat * 4)).block, (ad344.add ((x8_2).toNat * 4)).off + 1, none⟩ = some (.int .i64 ((rd_T28 l2 x8_2).f1)) ∧ w'.cell? ⟨(ad344.add ((x8_2).toNat * 4)).block, (ad344.add ((x8_2).toNat * 4)).off + 2, none⟩ = some (.slice A344_2 ((rd_T28 l2 x8_2).f2).length c344_2) ∧ w'.cell? ⟨(ad344.add ((x8_2).toNat * 4)).block, (ad344.add ((x8_2).toNat * 4)).off + 3, none⟩ = some (.string ((rd_T28 l2 x8_2).f3))) (ds := []) q17_0 (by kernel_rfl) rfl rfl ⟨(bc BK342.out 0).trans rfl, (bc BK342.out 1).trans rfl, (bc BK342.out 2).trans rfl, (bc BK342.out 3).trans rfl, ((HB.out.cell (World.block_lt_of_cell? w _ hw343_0)).trans hw343_0), ((HB.out.cell (World.block_lt_of_cell? w _ hw344_0)).trans hw344_0), ((HB.out.cell (World.block_lt_of_cell? w _ hw344_1)).trans hw344_1), ((HB.out.cell (World.block_lt_of_cell? w _ hw344_2)).trans hw344_2), ((HB.out.cell (World.block_lt_of_cell? w _ hw344_3)).trans hw344_3)⟩ (fun hHeld => ?_); refine with_tabW shuttlecocklaw19_BufBack.tab7 shuttlecocklaw19_BufBack.bits7 (fun HT_ HW_ => ?_)
          generalize wr.drew = w26 at BK342 HB HR344_2 hx343_0 hx344_0 hx344_1 hx344_2 hx344_3 hHeld ⊢
          refine Own.pr_ 1 (some 53) q17_1 HT_ (h := ?_)
          refine Own.pr_ 2 (some 54) q17_2 HT_ (h := ?_)
          refine Own.pr_ 3 (some 55) q17_3 HT_ (h := ?_)
          refine Own.pr_ 5 (some 57) q17_4 HT_ (h := ?_)
          refine Own.pr_ 6 (some 58) q17_5 HT_ (h := ?_)
          refine Own.pr_ 7 (some 59) q17_6 HT_ (h := ?_)
          refine Own.tk_ 0 (some 52) q17_7 HT_ HW_ hHeld (hy := by rintro w' ⟨s0, s1, s2, s3, s4, s5, s6, s7, s8⟩; go_simp; with_reducible rfl) (h := ?_)
          refine Own.tk_ 4 (some 56) q17_8 HT_ HW_ hHeld (hy := by rintro w' ⟨s0, s1, s2, s3, s4, s5, s6, s7, s8⟩; go_simp; with_reducible rfl) (h := ?_)
          refine Own.tk_ 8 (some 60) q17_9 HT_ HW_ hHeld (hy := by rintro w' ⟨s0, s1, s2, s3, s4, s5, s6, s7, s8⟩; go_simp; with_reducible rfl) (h := ?_)
          refine join_ (σ := Nat) 2 q17_10 (fun s_ => [(61, .tuple #[.agg #[.int .i64 t345, .int .i64 t346, .int .i64 t347, .string t348], .bool true]), (9, .pointer (some ⟨s_, 0, none⟩)), (51, .tuple #[.agg #[.int .i64 t345, .int .i64 t346, .int .i64 t347, .string t348], .bool true]), (62, .agg #[.int .i64 t345, .int .i64 t346, .int .i64 t347, .string t348]), (63, .bool true)]) (fun s_ w' => (w'.cell? ⟨gb342, 0, none⟩ = some (.int .i64 x343000_2) ∧ w'.cell? ⟨gb342, 1, none⟩ = some (.int .i64 x343001_2) ∧ w'.cell? ⟨gb342, 2, none⟩ = some (.int .i64 x343002_2) ∧ w'.cell? ⟨gb342, 3, none⟩ = some (.string x343003_2) ∧ w'.cell? (ad343.add (x8_2).toNat) = some (.int .i64 (rd l1 x8_2)) ∧ w'.cell? (ad344.add ((x8_2).toNat * 4)) = some (.int .i64 ((rd_T28 l2 x8_2).f0)) ∧ w'.cell? ⟨(ad344.add ((x8_2).toNat * 4)).block, (ad344.add ((x8_2).toNat * 4)).off + 1, none⟩ = some (.int .i64 ((rd_T28 l2 x8_2).f1)) ∧ w'.cell? ⟨(ad344.add ((x8_2).toNat * 4)).block, (ad344.add ((x8_2).toNat * 4)).off + 2, none⟩ = some (.slice A344_2 ((rd_T28 l2 x8_2).f2).length c344_2) ∧ w'.cell? ⟨(ad344.add ((x8_2).toNat * 4)).block, (ad344.add ((x8_2).toNat * 4)).off + 3, none⟩ = some (.string ((rd_T28 l2 x8_2).f3))) ∧ (w'.heap[gb342]? = some (.cells #[.int .i64 x343000_2, .int .i64 x343001_2, .int .i64 x343002_2, .string x343003_2] 23 (0, 0))) ∧ (w'.heap[s_]? = some (.cells #[.int .i64 0, .int .i64 0, .int .i64 0, .string (⟨#[]⟩ : ByteArray)] 23 (0, 0))) ∧ (w.heap.size ≤ s_) ∧ (w.heap.size ≤ s_) ∧ (gb342 ≠ s_) ∧ (s_ ≠ gb342) ∧ (Below w.heap.size w w')) ?_ ?_
          rotate_left
          ·
           intro hCont
           refine two_ (i := 9) (j := 13) (Ni := some 61) (Nj := some 9) q17_11 q17_12 rfl rfl rfl rfl (two_of HT_.out (by kernel_rfl)) (by decide) (by decide) (fun K hK => ?_) (fun K hK => ?_)
           ·
            skip
            refine goes_ Try.func10 (by kernel_rfl) rfl #[.agg #[.int .i64 x343000_2, .int .i64 x343001_2, .int .i64 x343002_2, .string x343003_2], .int .i64 (rd l1 x8_2), .agg #[.int .i64 ((rd_T28 l2 x8_2).f0), .int .i64 ((rd_T28 l2 x8_2).f1), .slice A344_2 ((rd_T28 l2 x8_2).f2).length c344_2, .string ((rd_T28 l2 x8_2).f3)]] (by rfl) rfl rfl (by (try simp only [List.map_toArray, List.map_cons, List.map_nil]); first | done | rfl | (simp only [List.length_drop, List.length_take]; rfl)) ?_
            with_reducible refine (buf_Put.calls k2 x343000_2 x343001_2 x343002_2 x343003_2 (rd l1 x8_2) ((rd_T28 l2 x8_2).f0) ((rd_T28 l2 x8_2).f1) _ _ ((rd_T28 l2 x8_2).f2) ((rd_T28 l2 x8_2).f3) t345 t346 t347 t348 true _ ?side1 ?side2 A24.out).mono ?_
            (case side1 => repeat (first | exact (Kd.C_below HR344_2.out HB.out) | (with_reducible refine Kd.C_alloc ?_ _) | (with_reducible refine Kd.C_drewN ?_ _) | (with_reducible refine Kd.C_drew ?_)))
            (case side2 => exact HC344_2.out)
            rintro e w27 ⟨rfl, hb⟩
            refine ⟨_, rfl, ?_⟩
            have n0_ := Am (blk_below (g := gb342) (o := .cells #[.int .i64 x343000_2, .int .i64 x343001_2, .int .i64 x343002_2, .string x343003_2] 23 (0, 0)) (by (with_reducible repeat (first | refine bn ?_ _ | refine bd ?_ | refine ba ?_ _)); exact BK342.out) hb)
            have n1_ := Am (below_step (by repeat (first | (with_reducible first | exact HB.out | apply bl | apply pN | apply b1 | refine bs ?_ GE342.out) | exact HB.out | exact HBo.out)) hb)
            clear BK342
            clear HB
            have BK342 := n0_
            have HB := n1_
            clear n0_ n1_
            (try clear hb)
            (try clear hb2)
            (try clear hk)
            (try clear hi)
            refine hK.out _ _ ⟨(bc BK342.out 0).trans rfl, (bc BK342.out 1).trans rfl, (bc BK342.out 2).trans rfl, (bc BK342.out 3).trans rfl, ((HB.out.cell (World.block_lt_of_cell? w _ hw343_0)).trans hw343_0), ((HB.out.cell (World.block_lt_of_cell? w _ hw344_0)).trans hw344_0), ((HB.out.cell (World.block_lt_of_cell? w _ hw344_1)).trans hw344_1), ((HB.out.cell (World.block_lt_of_cell? w _ hw344_2)).trans hw344_2), ((HB.out.cell (World.block_lt_of_cell? w _ hw344_3)).trans hw344_3)⟩ (fun hHeld => ?_)
            clear hK K
            refine norm_ (a' := ?_) ?_ ?_
            rotate_left
            ·
             show Act.put _ (some 61) _ = _
             simp only [Act.put, sI, sZ, sS, i64_w, i32_w]
             rfl
            refine Own.pr_ 10 (some 51) q17_13 HT_ (h := ?_)
            refine Own.pr_ 11 (some 62) q17_14 HT_ (h := ?_)
            refine Own.pr_ 12 (some 63) q17_15 HT_ (h := ?_)
            refine one_ (i := 13) (N := some 9) q17_10 rfl rfl (one_of HT_.out (by kernel_rfl)) (by decide) (fun K hK => ?_)
            refine box_step ?hg (N := 9) ?hd (cs := #[.int .i64 0, .int .i64 0, .int .i64 0, .string (⟨#[]⟩ : ByteArray)]) (t := 23) ?hr ?_; (case hd => rfl); (case hg => rfl); (case hr => first | (go_simp; done) | (go_simp; rfl))
            intro gb350 hg w28 hbox hb
            have n0_ := Am (blk_below (g := gb342) (o := .cells #[.int .i64 x343000_2, .int .i64 x343001_2, .int .i64 x343002_2, .string x343003_2] 23 (0, 0)) (by (with_reducible repeat (first | refine bn ?_ _ | refine bd ?_ | refine ba ?_ _)); exact BK342.out) hb)
            have n1_ := Am (below_step (by repeat (first | (with_reducible first | exact HB.out | apply bl | apply pN | apply b1 | refine bs ?_ GE342.out) | exact HB.out | exact HBo.out)) hb)
            have n2_ := Am (hbox)
            have n3_ := Am ((by rw [hg]; exact (below_size (by repeat (first | (with_reducible first | exact HB.out | apply bl | apply pN | apply b1 | refine bs ?_ GE342.out) | exact HB.out | exact HBo.out))) : w.heap.size ≤ gb350))
            have n4_ := Am ((by rw [hg]; exact (below_size (by repeat (first | (with_reducible first | exact HB.out | apply bl | apply pN | apply b1 | refine bs ?_ GE342.out) | exact HB.out | exact HBo.out))) : w.heap.size ≤ gb350))
            have n5_ := Am ((by rw [hg]; exact Nat.ne_of_lt (blk_lt (g := gb342) (o := .cells #[.int .i64 x343000_2, .int .i64 x343001_2, .int .i64 x343002_2, .string x343003_2] 23 (0, 0)) (by (with_reducible repeat (first | refine bn ?_ _ | refine bd ?_ | refine ba ?_ _)); exact BK342.out)) : gb342 ≠ gb350))
            have n6_ := Am ((by rw [hg]; exact Nat.ne_of_gt (blk_lt (g := gb342) (o := .cells #[.int .i64 x343000_2, .int .i64 x343001_2, .int .i64 x343002_2, .string x343003_2] 23 (0, 0)) (by (with_reducible repeat (first | refine bn ?_ _ | refine bd ?_ | refine ba ?_ _)); exact BK342.out)) : gb350 ≠ gb342))
            clear BK342
            clear HB
            have BK342 := n0_
            have HB := n1_
            have BK350 := n2_
            have GW350 := n3_
            have GE350 := n4_
            have NB342_350 := n5_
            have NB350_342 := n6_
            clear n0_ n1_ n2_ n3_ n4_ n5_ n6_
            clear hb hbox hg
            refine hK.out _ _ ⟨(bc BK342.out 0).trans rfl, (bc BK342.out 1).trans rfl, (bc BK342.out 2).trans rfl, (bc BK342.out 3).trans rfl, ((HB.out.cell (World.block_lt_of_cell? w _ hw343_0)).trans hw343_0), ((HB.out.cell (World.block_lt_of_cell? w _ hw344_0)).trans hw344_0), ((HB.out.cell (World.block_lt_of_cell? w _ hw344_1)).trans hw344_1), ((HB.out.cell (World.block_lt_of_cell? w _ hw344_2)).trans hw344_2), ((HB.out.cell (World.block_lt_of_cell? w _ hw344_3)).trans hw344_3)⟩ (fun hHeld => ?_)
            clear hK K
            refine norm_ (a' := ?_) ?_ ?_
            rotate_left
            ·
             show Act.put _ (some 9) _ = _
             simp only [Act.put, sI, sZ, sS, i64_w, i32_w]
             rfl
            exact norm_ (by simp only [putAll, Act.put, sI, sZ, sS]) (hCont (gb350) _ ⟨hHeld, (by (with_reducible repeat (first | refine bn ?_ _ | refine bd ?_ | refine ba ?_ _)); exact BK342.out), (by (with_reducible repeat (first | refine bn ?_ _ | refine bd ?_ | refine ba ?_ _)); exact BK350.out), GW350.out, GE350.out, NB342_350.out, NB350_342.out, (by repeat (first | (with_reducible first | exact HB.out | apply bl | apply pN | apply b1 | refine bs ?_ GE342.out | refine bs ?_ GE350.out) | exact HB.out | exact HBo.out))⟩)
           ·
            skip
            refine box_step ?hg (N := 9) ?hd (cs := #[.int .i64 0, .int .i64 0, .int .i64 0, .string (⟨#[]⟩ : ByteArray)]) (t := 23) ?hr ?_; (case hd => rfl); (case hg => rfl); (case hr => first | (go_simp; done) | (go_simp; rfl))
            intro gb350 hg w27 hbox hb
            have n0_ := Am (blk_below (g := gb342) (o := .cells #[.int .i64 x343000_2, .int .i64 x343001_2, .int .i64 x343002_2, .string x343003_2] 23 (0, 0)) (by (with_reducible repeat (first | refine bn ?_ _ | refine bd ?_ | refine ba ?_ _)); exact BK342.out) hb)
            have n1_ := Am (below_step (by repeat (first | (with_reducible first | exact HB.out | apply bl | apply pN | apply b1 | refine bs ?_ GE342.out) | exact HB.out | exact HBo.out)) hb)
            have n2_ := Am (hbox)
            have n3_ := Am ((by rw [hg]; exact (below_size (by repeat (first | (with_reducible first | exact HB.out | apply bl | apply pN | apply b1 | refine bs ?_ GE342.out) | exact HB.out | exact HBo.out))) : w.heap.size ≤ gb350))
            have n4_ := Am ((by rw [hg]; exact (below_size (by repeat (first | (with_reducible first | exact HB.out | apply bl | apply pN | apply b1 | refine bs ?_ GE342.out) | exact HB.out | exact HBo.out))) : w.heap.size ≤ gb350))
            have n5_ := Am ((by rw [hg]; exact Nat.ne_of_lt (blk_lt (g := gb342) (o := .cells #[.int .i64 x343000_2, .int .i64 x343001_2, .int .i64 x343002_2, .string x343003_2] 23 (0, 0)) (by (with_reducible repeat (first | refine bn ?_ _ | refine bd ?_ | refine ba ?_ _)); exact BK342.out)) : gb342 ≠ gb350))
            have n6_ := Am ((by rw [hg]; exact Nat.ne_of_gt (blk_lt (g := gb342) (o := .cells #[.int .i64 x343000_2, .int .i64 x343001_2, .int .i64 x343002_2, .string x343003_2] 23 (0, 0)) (by (with_reducible repeat (first | refine bn ?_ _ | refine bd ?_ | refine ba ?_ _)); exact BK342.out)) : gb350 ≠ gb342))
            clear BK342
            clear HB
            have BK342 := n0_
            have HB := n1_
            have BK350 := n2_
            have GW350 := n3_
            have GE350 := n4_
            have NB342_350 := n5_
            have NB350_342 := n6_
            clear n0_ n1_ n2_ n3_ n4_ n5_ n6_
            clear hb hbox hg
            refine hK.out _ _ ⟨(bc BK342.out 0).trans rfl, (bc BK342.out 1).trans rfl, (bc BK342.out 2).trans rfl, (bc BK342.out 3).trans rfl, ((HB.out.cell (World.block_lt_of_cell? w _ hw343_0)).trans hw343_0), ((HB.out.cell (World.block_lt_of_cell? w _ hw344_0)).trans hw344_0), ((HB.out.cell (World.block_lt_of_cell? w _ hw344_1)).trans hw344_1), ((HB.out.cell (World.block_lt_of_cell? w _ hw344_2)).trans hw344_2), ((HB.out.cell (World.block_lt_of_cell? w _ hw344_3)).trans hw344_3)⟩ (fun hHeld => ?_)
            clear hK K
            refine norm_ (a' := ?_) ?_ ?_
            rotate_left
            ·
             show Act.put _ (some 9) _ = _
             simp only [Act.put, sI, sZ, sS, i64_w, i32_w]
             rfl
            refine one_ (i := 9) (N := some 61) q17_16 rfl rfl (one_of HT_.out (by kernel_rfl)) (by decide) (fun K hK => ?_)
            refine goes_ Try.func10 (by kernel_rfl) rfl #[.agg #[.int .i64 x343000_2, .int .i64 x343001_2, .int .i64 x343002_2, .string x343003_2], .int .i64 (rd l1 x8_2), .agg #[.int .i64 ((rd_T28 l2 x8_2).f0), .int .i64 ((rd_T28 l2 x8_2).f1), .slice A344_2 ((rd_T28 l2 x8_2).f2).length c344_2, .string ((rd_T28 l2 x8_2).f3)]] (by rfl) rfl rfl (by (try simp only [List.map_toArray, List.map_cons, List.map_nil]); first | done | rfl | (simp only [List.length_drop, List.length_take]; rfl)) ?_
            with_reducible refine (buf_Put.calls k2 x343000_2 x343001_2 x343002_2 x343003_2 (rd l1 x8_2) ((rd_T28 l2 x8_2).f0) ((rd_T28 l2 x8_2).f1) _ _ ((rd_T28 l2 x8_2).f2) ((rd_T28 l2 x8_2).f3) t345 t346 t347 t348 true _ ?side1 ?side2 A24.out).mono ?_
            (case side1 => repeat (first | exact (Kd.C_below HR344_2.out HB.out) | (with_reducible refine Kd.C_alloc ?_ _) | (with_reducible refine Kd.C_drewN ?_ _) | (with_reducible refine Kd.C_drew ?_)))
            (case side2 => exact HC344_2.out)
            rintro e w28 ⟨rfl, hb⟩
            refine ⟨_, rfl, ?_⟩
            have n0_ := Am (blk_below (g := gb342) (o := .cells #[.int .i64 x343000_2, .int .i64 x343001_2, .int .i64 x343002_2, .string x343003_2] 23 (0, 0)) (by (with_reducible repeat (first | refine bn ?_ _ | refine bd ?_ | refine ba ?_ _)); exact BK342.out) hb)
            have n1_ := Am (blk_below (g := gb350) (o := .cells #[.int .i64 0, .int .i64 0, .int .i64 0, .string (⟨#[]⟩ : ByteArray)] 23 (0, 0)) (by (with_reducible repeat (first | refine bn ?_ _ | refine bd ?_ | refine ba ?_ _)); exact BK350.out) hb)
            have n2_ := Am (below_step (by repeat (first | (with_reducible first | exact HB.out | apply bl | apply pN | apply b1 | refine bs ?_ GE342.out | refine bs ?_ GE350.out) | exact HB.out | exact HBo.out)) hb)
            clear BK342
            clear BK350
            clear HB
            have BK342 := n0_
            have BK350 := n1_
            have HB := n2_
            clear n0_ n1_ n2_
            (try clear hb)
            (try clear hb2)
            (try clear hk)
            (try clear hi)
            refine hK.out _ _ ⟨(bc BK342.out 0).trans rfl, (bc BK342.out 1).trans rfl, (bc BK342.out 2).trans rfl, (bc BK342.out 3).trans rfl, ((HB.out.cell (World.block_lt_of_cell? w _ hw343_0)).trans hw343_0), ((HB.out.cell (World.block_lt_of_cell? w _ hw344_0)).trans hw344_0), ((HB.out.cell (World.block_lt_of_cell? w _ hw344_1)).trans hw344_1), ((HB.out.cell (World.block_lt_of_cell? w _ hw344_2)).trans hw344_2), ((HB.out.cell (World.block_lt_of_cell? w _ hw344_3)).trans hw344_3)⟩ (fun hHeld => ?_)
            clear hK K
            refine norm_ (a' := ?_) ?_ ?_
            rotate_left
            ·
             show Act.put _ (some 61) _ = _
             simp only [Act.put, sI, sZ, sS, i64_w, i32_w]
             rfl
            refine Own.pr_ 10 (some 51) q17_17 HT_ (h := ?_)
            refine Own.pr_ 11 (some 62) q17_18 HT_ (h := ?_)
            refine Own.pr_ 12 (some 63) q17_10 HT_ (h := ?_)
            exact norm_ (by simp only [putAll, Act.put, sI, sZ, sS]) (hCont (gb350) _ ⟨hHeld, (by (with_reducible repeat (first | refine bn ?_ _ | refine bd ?_ | refine ba ?_ _)); exact BK342.out), (by (with_reducible repeat (first | refine bn ?_ _ | refine bd ?_ | refine ba ?_ _)); exact BK350.out), GW350.out, GE350.out, NB342_350.out, NB350_342.out, (by repeat (first | (with_reducible first | exact HB.out | apply bl | apply pN | apply b1 | refine bs ?_ GE342.out | refine bs ?_ GE350.out) | exact HB.out | exact HBo.out))⟩)
          rintro gb350 w29 ⟨hS_, h0_, h1_, h2_, h3_, h4_, h5_, h6_⟩
          have n0_ : Aside0 (w29.heap[gb342]? = some (.cells #[.int .i64 x343000_2, .int .i64 x343001_2, .int .i64 x343002_2, .string x343003_2] 23 (0, 0))) := ⟨h0_⟩
          have n1_ : Aside0 (w29.heap[gb350]? = some (.cells #[.int .i64 0, .int .i64 0, .int .i64 0, .string (⟨#[]⟩ : ByteArray)] 23 (0, 0))) := ⟨h1_⟩
          have n2_ : Aside0 (w.heap.size ≤ gb350) := ⟨h2_⟩
          have n3_ : Aside0 (w.heap.size ≤ gb350) := ⟨h3_⟩
          have n4_ : Aside0 (gb342 ≠ gb350) := ⟨h4_⟩
          have n5_ : Aside0 (gb350 ≠ gb342) := ⟨h5_⟩
          have n6_ : Aside0 (Below w.heap.size w w29) := ⟨h6_⟩
          clear BK342
          clear HB
          clear h0_ h1_ h2_ h3_ h4_ h5_ h6_
          have BK342 := n0_
          have BK350 := n1_
          have GW350 := n2_
          have GE350 := n3_
          have NB342_350 := n4_
          have NB350_342 := n5_
          have HB := n6_
          clear n0_ n1_ n2_ n3_ n4_ n5_ n6_
          have hHeld : w29.cell? ⟨gb342, 0, none⟩ = some (.int .i64 x343000_2) ∧ w29.cell? ⟨gb342, 1, none⟩ = some (.int .i64 x343001_2) ∧ w29.cell? ⟨gb342, 2, none⟩ = some (.int .i64 x343002_2) ∧ w29.cell? ⟨gb342, 3, none⟩ = some (.string x343003_2) ∧ w29.cell? (ad343.add (x8_2).toNat) = some (.int .i64 (rd l1 x8_2)) ∧ w29.cell? (ad344.add ((x8_2).toNat * 4)) = some (.int .i64 ((rd_T28 l2 x8_2).f0)) ∧ w29.cell? ⟨(ad344.add ((x8_2).toNat * 4)).block, (ad344.add ((x8_2).toNat * 4)).off + 1, none⟩ = some (.int .i64 ((rd_T28 l2 x8_2).f1)) ∧ w29.cell? ⟨(ad344.add ((x8_2).toNat * 4)).block, (ad344.add ((x8_2).toNat * 4)).off + 2, none⟩ = some (.slice A344_2 ((rd_T28 l2 x8_2).f2).length c344_2) ∧ w29.cell? ⟨(ad344.add ((x8_2).toNat * 4)).block, (ad344.add ((x8_2).toNat * 4)).off + 3, none⟩ = some (.string ((rd_T28 l2 x8_2).f3)) := hS_
          refine norm_ (a' := ?_) ?_ ?_
          rotate_left
          ·
           simp only [putAll, Act.put, sI, sZ, sS]
           rfl
          refine one_ (i := 14) (N := none) q17_19 rfl rfl (one_of HT_.out (by kernel_rfl)) (by decide) (fun K hK => ?_)
          have hs30 : w29.cell? ⟨gb350, 0, none⟩ = some (.int .i64 0) := (bc BK350.out 0).trans rfl
          have hfs30 := bf BK350.out 0
          have hns30_0 := NB342_350.out
          have hms30_0 := NB350_342.out
          have hs31 : w29.cell? ⟨gb350, 1, none⟩ = some (.int .i64 0) := (bc BK350.out 1).trans rfl
          have hfs31 := bf BK350.out 1
          have hns31_0 := NB342_350.out
          have hms31_0 := NB350_342.out
          have hs32 : w29.cell? ⟨gb350, 2, none⟩ = some (.int .i64 0) := (bc BK350.out 2).trans rfl
          have hfs32 := bf BK350.out 2
          have hns32_0 := NB342_350.out
          have hms32_0 := NB350_342.out
          have hs33 : w29.cell? ⟨gb350, 3, none⟩ = some (.string (⟨#[]⟩ : ByteArray)) := (bc BK350.out 3).trans rfl
          have hfs33 := bf BK350.out 3
          have hns33_0 := NB342_350.out
          have hms33_0 := NB350_342.out
          refine skip_ (w1 := ?_) (by rfl) rfl ?_ ?_
          rotate_left
          ·
           go_simp
           rfl
          refine hK.out _ _ ⟨((cell_far (p := ⟨gb350, _, none⟩) NB342_350.out _).trans (((cell_far (p := ⟨gb350, _, none⟩) NB342_350.out _).trans (((cell_far (p := ⟨gb350, _, none⟩) NB342_350.out _).trans (((cell_far (p := ⟨gb350, _, none⟩) NB342_350.out _).trans (hHeld.1)))))))), ((cell_far (p := ⟨gb350, _, none⟩) NB342_350.out _).trans (((cell_far (p := ⟨gb350, _, none⟩) NB342_350.out _).trans (((cell_far (p := ⟨gb350, _, none⟩) NB342_350.out _).trans (((cell_far (p := ⟨gb350, _, none⟩) NB342_350.out _).trans (hHeld.2.1)))))))), ((cell_far (p := ⟨gb350, _, none⟩) NB342_350.out _).trans (((cell_far (p := ⟨gb350, _, none⟩) NB342_350.out _).trans (((cell_far (p := ⟨gb350, _, none⟩) NB342_350.out _).trans (((cell_far (p := ⟨gb350, _, none⟩) NB342_350.out _).trans (hHeld.2.2.1)))))))), ((cell_far (p := ⟨gb350, _, none⟩) NB342_350.out _).trans (((cell_far (p := ⟨gb350, _, none⟩) NB342_350.out _).trans (((cell_far (p := ⟨gb350, _, none⟩) NB342_350.out _).trans (((cell_far (p := ⟨gb350, _, none⟩) NB342_350.out _).trans (hHeld.2.2.2.1)))))))), ((cell_far (p := ⟨gb350, _, none⟩) (by first | exact Nat.ne_of_lt (Nat.lt_of_lt_of_le (by have := World.block_lt_of_cell? _ _ hw343_0; first | rwa [add_block] at this | exact this) GW350.out) | (rw [add_block]; exact Nat.ne_of_lt (Nat.lt_of_lt_of_le (by have := World.block_lt_of_cell? _ _ hw343_0; first | rwa [add_block] at this | exact this) GW350.out)) | (show (Addr.add _ _).block ≠ _; rw [add_block]; exact Nat.ne_of_lt (Nat.lt_of_lt_of_le (by have := World.block_lt_of_cell? _ _ hw343_0; first | rwa [add_block] at this | exact this) GW350.out)) | (dsimp only; exact Nat.ne_of_lt (Nat.lt_of_lt_of_le (by have := World.block_lt_of_cell? _ _ hw343_0; first | rwa [add_block] at this | exact this) GW350.out))) _).trans (((cell_far (p := ⟨gb350, _, none⟩) (by first | exact Nat.ne_of_lt (Nat.lt_of_lt_of_le (by have := World.block_lt_of_cell? _ _ hw343_0; first | rwa [add_block] at this | exact this) GW350.out) | (rw [add_block]; exact Nat.ne_of_lt (Nat.lt_of_lt_of_le (by have := World.block_lt_of_cell? _ _ hw343_0; first | rwa [add_block] at this | exact this) GW350.out)) | (show (Addr.add _ _).block ≠ _; rw [add_block]; exact Nat.ne_of_lt (Nat.lt_of_lt_of_le (by have := World.block_lt_of_cell? _ _ hw343_0; first | rwa [add_block] at this | exact this) GW350.out)) | (dsimp only; exact Nat.ne_of_lt (Nat.lt_of_lt_of_le (by have := World.block_lt_of_cell? _ _ hw343_0; first | rwa [add_block] at this | exact this) GW350.out))) _).trans (((cell_far (p := ⟨gb350, _, none⟩) (by first | exact Nat.ne_of_lt (Nat.lt_of_lt_of_le (by have := World.block_lt_of_cell? _ _ hw343_0; first | rwa [add_block] at this | exact this) GW350.out) | (rw [add_block]; exact Nat.ne_of_lt (Nat.lt_of_lt_of_le (by have := World.block_lt_of_cell? _ _ hw343_0; first | rwa [add_block] at this | exact this) GW350.out)) | (show (Addr.add _ _).block ≠ _; rw [add_block]; exact Nat.ne_of_lt (Nat.lt_of_lt_of_le (by have := World.block_lt_of_cell? _ _ hw343_0; first | rwa [add_block] at this | exact this) GW350.out)) | (dsimp only; exact Nat.ne_of_lt (Nat.lt_of_lt_of_le (by have := World.block_lt_of_cell? _ _ hw343_0; first | rwa [add_block] at this | exact this) GW350.out))) _).trans (((cell_far (p := ⟨gb350, _, none⟩) (by first | exact Nat.ne_of_lt (Nat.lt_of_lt_of_le (by have := World.block_lt_of_cell? _ _ hw343_0; first | rwa [add_block] at this | exact this) GW350.out) | (rw [add_block]; exact Nat.ne_of_lt (Nat.lt_of_lt_of_le (by have := World.block_lt_of_cell? _ _ hw343_0; first | rwa [add_block] at this | exact this) GW350.out)) | (show (Addr.add _ _).block ≠ _; rw [add_block]; exact Nat.ne_of_lt (Nat.lt_of_lt_of_le (by have := World.block_lt_of_cell? _ _ hw343_0; first | rwa [add_block] at this | exact this) GW350.out)) | (dsimp only; exact Nat.ne_of_lt (Nat.lt_of_lt_of_le (by have := World.block_lt_of_cell? _ _ hw343_0; first | rwa [add_block] at this | exact this) GW350.out))) _).trans (hHeld.2.2.2.2.1)))))))), ((cell_far (p := ⟨gb350, _, none⟩) (by first | exact Nat.ne_of_lt (Nat.lt_of_lt_of_le (by have := World.block_lt_of_cell? _ _ hw344_0; first | rwa [add_block] at this | exact this) GW350.out) | (rw [add_block]; exact Nat.ne_of_lt (Nat.lt_of_lt_of_le (by have := World.block_lt_of_cell? _ _ hw344_0; first | rwa [add_block] at this | exact this) GW350.out)) | (show (Addr.add _ _).block ≠ _; rw [add_block]; exact Nat.ne_of_lt (Nat.lt_of_lt_of_le (by have := World.block_lt_of_cell? _ _ hw344_0; first | rwa [add_block] at this | exact this) GW350.out)) | (dsimp only; exact Nat.ne_of_lt (Nat.lt_of_lt_of_le (by have := World.block_lt_of_cell? _ _ hw344_0; first | rwa [add_block] at this | exact this) GW350.out))) _).trans (((cell_far (p := ⟨gb350, _, none⟩) (by first | exact Nat.ne_of_lt (Nat.lt_of_lt_of_le (by have := World.block_lt_of_cell? _ _ hw344_0; first | rwa [add_block] at this | exact this) GW350.out) | (rw [add_block]; exact Nat.ne_of_lt (Nat.lt_of_lt_of_le (by have := World.block_lt_of_cell? _ _ hw344_0; first | rwa [add_block] at this | exact this) GW350.out)) | (show (Addr.add _ _).block ≠ _; rw [add_block]; exact Nat.ne_of_lt (Nat.lt_of_lt_of_le (by have := World.block_lt_of_cell? _ _ hw344_0; first | rwa [add_block] at this | exact this) GW350.out)) | (dsimp only; exact Nat.ne_of_lt (Nat.lt_of_lt_of_le (by have := World.block_lt_of_cell? _ _ hw344_0; first | rwa [add_block] at this | exact this) GW350.out))) _).trans (((cell_far (p := ⟨gb350, _, none⟩) (by first | exact Nat.ne_of_lt (Nat.lt_of_lt_of_le (by have := World.block_lt_of_cell? _ _ hw344_0; first | rwa [add_block] at this | exact this) GW350.out) | (rw [add_block]; exact Nat.ne_of_lt (Nat.lt_of_lt_of_le (by have := World.block_lt_of_cell? _ _ hw344_0; first | rwa [add_block] at this | exact this) GW350.out)) | (show (Addr.add _ _).block ≠ _; rw [add_block]; exact Nat.ne_of_lt (Nat.lt_of_lt_of_le (by have := World.block_lt_of_cell? _ _ hw344_0; first | rwa [add_block] at this | exact this) GW350.out)) | (dsimp only; exact Nat.ne_of_lt (Nat.lt_of_lt_of_le (by have := World.block_lt_of_cell? _ _ hw344_0; first | rwa [add_block] at this | exact this) GW350.out))) _).trans (((cell_far (p := ⟨gb350, _, none⟩) (by first | exact Nat.ne_of_lt (Nat.lt_of_lt_of_le (by have := World.block_lt_of_cell? _ _ hw344_0; first | rwa [add_block] at this | exact this) GW350.out) | (rw [add_block]; exact Nat.ne_of_lt (Nat.lt_of_lt_of_le (by have := World.block_lt_of_cell? _ _ hw344_0; first | rwa [add_block] at this | exact this) GW350.out)) | (show (Addr.add _ _).block ≠ _; rw [add_block]; exact Nat.ne_of_lt (Nat.lt_of_lt_of_le (by have := World.block_lt_of_cell? _ _ hw344_0; first | rwa [add_block] at this | exact this) GW350.out)) | (dsimp only; exact Nat.ne_of_lt (Nat.lt_of_lt_of_le (by have := World.block_lt_of_cell? _ _ hw344_0; first | rwa [add_block] at this | exact this) GW350.out))) _).trans (hHeld.2.2.2.2.2.1)))))))), ((cell_far (p := ⟨gb350, _, none⟩) (by first | exact Nat.ne_of_lt (Nat.lt_of_lt_of_le (by have := World.block_lt_of_cell? _ _ hw344_1; first | rwa [add_block] at this | exact this) GW350.out) | (rw [add_block]; exact Nat.ne_of_lt (Nat.lt_of_lt_of_le (by have := World.block_lt_of_cell? _ _ hw344_1; first | rwa [add_block] at this | exact this) GW350.out)) | (show (Addr.add _ _).block ≠ _; rw [add_block]; exact Nat.ne_of_lt (Nat.lt_of_lt_of_le (by have := World.block_lt_of_cell? _ _ hw344_1; first | rwa [add_block] at this | exact this) GW350.out)) | (dsimp only; exact Nat.ne_of_lt (Nat.lt_of_lt_of_le (by have := World.block_lt_of_cell? _ _ hw344_1; first | rwa [add_block] at this | exact this) GW350.out))) _).trans (((cell_far (p := ⟨gb350, _, none⟩) (by first | exact Nat.ne_of_lt (Nat.lt_of_lt_of_le (by have := World.block_lt_of_cell? _ _ hw344_1; first | rwa [add_block] at this | exact this) GW350.out) | (rw [add_block]; exact Nat.ne_of_lt (Nat.lt_of_lt_of_le (by have := World.block_lt_of_cell? _ _ hw344_1; first | rwa [add_block] at this | exact this) GW350.out)) | (show (Addr.add _ _).block ≠ _; rw [add_block]; exact Nat.ne_of_lt (Nat.lt_of_lt_of_le (by have := World.block_lt_of_cell? _ _ hw344_1; first | rwa [add_block] at this | exact this) GW350.out)) | (dsimp only; exact Nat.ne_of_lt (Nat.lt_of_lt_of_le (by have := World.block_lt_of_cell? _ _ hw344_1; first | rwa [add_block] at this | exact this) GW350.out))) _).trans (((cell_far (p := ⟨gb350, _, none⟩) (by first | exact Nat.ne_of_lt (Nat.lt_of_lt_of_le (by have := World.block_lt_of_cell? _ _ hw344_1; first | rwa [add_block] at this | exact this) GW350.out) | (rw [add_block]; exact Nat.ne_of_lt (Nat.lt_of_lt_of_le (by have := World.block_lt_of_cell? _ _ hw344_1; first | rwa [add_block] at this | exact this) GW350.out)) | (show (Addr.add _ _).block ≠ _; rw [add_block]; exact Nat.ne_of_lt (Nat.lt_of_lt_of_le (by have := World.block_lt_of_cell? _ _ hw344_1; first | rwa [add_block] at this | exact this) GW350.out)) | (dsimp only; exact Nat.ne_of_lt (Nat.lt_of_lt_of_le (by have := World.block_lt_of_cell? _ _ hw344_1; first | rwa [add_block] at this | exact this) GW350.out))) _).trans (((cell_far (p := ⟨gb350, _, none⟩) (by first | exact Nat.ne_of_lt (Nat.lt_of_lt_of_le (by have := World.block_lt_of_cell? _ _ hw344_1; first | rwa [add_block] at this | exact this) GW350.out) | (rw [add_block]; exact Nat.ne_of_lt (Nat.lt_of_lt_of_le (by have := World.block_lt_of_cell? _ _ hw344_1; first | rwa [add_block] at this | exact this) GW350.out)) | (show (Addr.add _ _).block ≠ _; rw [add_block]; exact Nat.ne_of_lt (Nat.lt_of_lt_of_le (by have := World.block_lt_of_cell? _ _ hw344_1; first | rwa [add_block] at this | exact this) GW350.out)) | (dsimp only; exact Nat.ne_of_lt (Nat.lt_of_lt_of_le (by have := World.block_lt_of_cell? _ _ hw344_1; first | rwa [add_block] at this | exact this) GW350.out))) _).trans (hHeld.2.2.2.2.2.2.1)))))))), ((cell_far (p := ⟨gb350, _, none⟩) (by first | exact Nat.ne_of_lt (Nat.lt_of_lt_of_le (by have := World.block_lt_of_cell? _ _ hw344_2; first | rwa [add_block] at this | exact this) GW350.out) | (rw [add_block]; exact Nat.ne_of_lt (Nat.lt_of_lt_of_le (by have := World.block_lt_of_cell? _ _ hw344_2; first | rwa [add_block] at this | exact this) GW350.out)) | (show (Addr.add _ _).block ≠ _; rw [add_block]; exact Nat.ne_of_lt (Nat.lt_of_lt_of_le (by have := World.block_lt_of_cell? _ _ hw344_2; first | rwa [add_block] at this | exact this) GW350.out)) | (dsimp only; exact Nat.ne_of_lt (Nat.lt_of_lt_of_le (by have := World.block_lt_of_cell? _ _ hw344_2; first | rwa [add_block] at this | exact this) GW350.out))) _).trans (((cell_far (p := ⟨gb350, _, none⟩) (by first | exact Nat.ne_of_lt (Nat.lt_of_lt_of_le (by have := World.block_lt_of_cell? _ _ hw344_2; first | rwa [add_block] at this | exact this) GW350.out) | (rw [add_block]; exact Nat.ne_of_lt (Nat.lt_of_lt_of_le (by have := World.block_lt_of_cell? _ _ hw344_2; first | rwa [add_block] at this | exact this) GW350.out)) | (show (Addr.add _ _).block ≠ _; rw [add_block]; exact Nat.ne_of_lt (Nat.lt_of_lt_of_le (by have := World.block_lt_of_cell? _ _ hw344_2; first | rwa [add_block] at this | exact this) GW350.out)) | (dsimp only; exact Nat.ne_of_lt (Nat.lt_of_lt_of_le (by have := World.block_lt_of_cell? _ _ hw344_2; first | rwa [add_block] at this | exact this) GW350.out))) _).trans (((cell_far (p := ⟨gb350, _, none⟩) (by first | exact Nat.ne_of_lt (Nat.lt_of_lt_of_le (by have := World.block_lt_of_cell? _ _ hw344_2; first | rwa [add_block] at this | exact this) GW350.out) | (rw [add_block]; exact Nat.ne_of_lt (Nat.lt_of_lt_of_le (by have := World.block_lt_of_cell? _ _ hw344_2; first | rwa [add_block] at this | exact this) GW350.out)) | (show (Addr.add _ _).block ≠ _; rw [add_block]; exact Nat.ne_of_lt (Nat.lt_of_lt_of_le (by have := World.block_lt_of_cell? _ _ hw344_2; first | rwa [add_block] at this | exact this) GW350.out)) | (dsimp only; exact Nat.ne_of_lt (Nat.lt_of_lt_of_le (by have := World.block_lt_of_cell? _ _ hw344_2; first | rwa [add_block] at this | exact this) GW350.out))) _).trans (((cell_far (p := ⟨gb350, _, none⟩) (by first | exact Nat.ne_of_lt (Nat.lt_of_lt_of_le (by have := World.block_lt_of_cell? _ _ hw344_2; first | rwa [add_block] at this | exact this) GW350.out) | (rw [add_block]; exact Nat.ne_of_lt (Nat.lt_of_lt_of_le (by have := World.block_lt_of_cell? _ _ hw344_2; first | rwa [add_block] at this | exact this) GW350.out)) | (show (Addr.add _ _).block ≠ _; rw [add_block]; exact Nat.ne_of_lt (Nat.lt_of_lt_of_le (by have := World.block_lt_of_cell? _ _ hw344_2; first | rwa [add_block] at this | exact this) GW350.out)) | (dsimp only; exact Nat.ne_of_lt (Nat.lt_of_lt_of_le (by have := World.block_lt_of_cell? _ _ hw344_2; first | rwa [add_block] at this | exact this) GW350.out))) _).trans (hHeld.2.2.2.2.2.2.2.1)))))))), ((cell_far (p := ⟨gb350, _, none⟩) (by first | exact Nat.ne_of_lt (Nat.lt_of_lt_of_le (by have := World.block_lt_of_cell? _ _ hw344_3; first | rwa [add_block] at this | exact this) GW350.out) | (rw [add_block]; exact Nat.ne_of_lt (Nat.lt_of_lt_of_le (by have := World.block_lt_of_cell? _ _ hw344_3; first | rwa [add_block] at this | exact this) GW350.out)) | (show (Addr.add _ _).block ≠ _; rw [add_block]; exact Nat.ne_of_lt (Nat.lt_of_lt_of_le (by have := World.block_lt_of_cell? _ _ hw344_3; first | rwa [add_block] at this | exact this) GW350.out)) | (dsimp only; exact Nat.ne_of_lt (Nat.lt_of_lt_of_le (by have := World.block_lt_of_cell? _ _ hw344_3; first | rwa [add_block] at this | exact this) GW350.out))) _).trans (((cell_far (p := ⟨gb350, _, none⟩) (by first | exact Nat.ne_of_lt (Nat.lt_of_lt_of_le (by have := World.block_lt_of_cell? _ _ hw344_3; first | rwa [add_block] at this | exact this) GW350.out) | (rw [add_block]; exact Nat.ne_of_lt (Nat.lt_of_lt_of_le (by have := World.block_lt_of_cell? _ _ hw344_3; first | rwa [add_block] at this | exact this) GW350.out)) | (show (Addr.add _ _).block ≠ _; rw [add_block]; exact Nat.ne_of_lt (Nat.lt_of_lt_of_le (by have := World.block_lt_of_cell? _ _ hw344_3; first | rwa [add_block] at this | exact this) GW350.out)) | (dsimp only; exact Nat.ne_of_lt (Nat.lt_of_lt_of_le (by have := World.block_lt_of_cell? _ _ hw344_3; first | rwa [add_block] at this | exact this) GW350.out))) _).trans (((cell_far (p := ⟨gb350, _, none⟩) (by first | exact Nat.ne_of_lt (Nat.lt_of_lt_of_le (by have := World.block_lt_of_cell? _ _ hw344_3; first | rwa [add_block] at this | exact this) GW350.out) | (rw [add_block]; exact Nat.ne_of_lt (Nat.lt_of_lt_of_le (by have := World.block_lt_of_cell? _ _ hw344_3; first | rwa [add_block] at this | exact this) GW350.out)) | (show (Addr.add _ _).block ≠ _; rw [add_block]; exact Nat.ne_of_lt (Nat.lt_of_lt_of_le (by have := World.block_lt_of_cell? _ _ hw344_3; first | rwa [add_block] at this | exact this) GW350.out)) | (dsimp only; exact Nat.ne_of_lt (Nat.lt_of_lt_of_le (by have := World.block_lt_of_cell? _ _ hw344_3; first | rwa [add_block] at this | exact this) GW350.out))) _).trans (((cell_far (p := ⟨gb350, _, none⟩) (by first | exact Nat.ne_of_lt (Nat.lt_of_lt_of_le (by have := World.block_lt_of_cell? _ _ hw344_3; first | rwa [add_block] at this | exact this) GW350.out) | (rw [add_block]; exact Nat.ne_of_lt (Nat.lt_of_lt_of_le (by have := World.block_lt_of_cell? _ _ hw344_3; first | rwa [add_block] at this | exact this) GW350.out)) | (show (Addr.add _ _).block ≠ _; rw [add_block]; exact Nat.ne_of_lt (Nat.lt_of_lt_of_le (by have := World.block_lt_of_cell? _ _ hw344_3; first | rwa [add_block] at this | exact this) GW350.out)) | (dsimp only; exact Nat.ne_of_lt (Nat.lt_of_lt_of_le (by have := World.block_lt_of_cell? _ _ hw344_3; first | rwa [add_block] at this | exact this) GW350.out))) _).trans (hHeld.2.2.2.2.2.2.2.2))))))))⟩ (fun hHeld => ?_)
          clear hK K
          refine Own.pr_ 15 (some 10) q17_20 HT_ (h := ?_)
          refine done_ (done_of HT_.out (by kernel_rfl)) ?_
          have hnb34 := NB350_342.out
          have hnc34 := NB342_350.out
          have hcz35_0 : w29.cell? ⟨gb350, 0, none⟩ = some (.int .i64 0) := (bc BK350.out 0).trans rfl
          have hcz35_1 : w29.cell? ⟨gb350, 1, none⟩ = some (.int .i64 0) := (bc BK350.out 1).trans rfl
          have hcz35_2 : w29.cell? ⟨gb350, 2, none⟩ = some (.int .i64 0) := (bc BK350.out 2).trans rfl
          have hcz35_3 : w29.cell? ⟨gb350, 3, none⟩ = some (.string (⟨#[]⟩ : ByteArray)) := (bc BK350.out 3).trans rfl
          have hfz35_0 := bf BK350.out 0
          have hfz35_1 := bf BK350.out 1
          have hfz35_2 := bf BK350.out 2
          have hfz35_3 := bf BK350.out 3
          have hcz36_0 : w29.cell? ⟨gb342, 0, none⟩ = some (.int .i64 x343000_2) := (bc BK342.out 0).trans rfl
          have hcz36_1 : w29.cell? ⟨gb342, 1, none⟩ = some (.int .i64 x343001_2) := (bc BK342.out 1).trans rfl
          have hcz36_2 : w29.cell? ⟨gb342, 2, none⟩ = some (.int .i64 x343002_2) := (bc BK342.out 2).trans rfl
          have hcz36_3 : w29.cell? ⟨gb342, 3, none⟩ = some (.string x343003_2) := (bc BK342.out 3).trans rfl
          have hfz36_0 := bf BK342.out 0
          have hfz36_1 := bf BK342.out 1
          have hfz36_2 := bf BK342.out 2
          have hfz36_3 := bf BK342.out 3
          try go_wp2
          go_roundg k2
          case measure => have := HJ3.out; have := HK2.out; omega
          case rel => exact ⟨(wrap64 (x8_2 + 1)), (t345), (t346), (t347), (t348), (by first | rfl | (simp; done) | (simp [*]; done)), H', ⟨by have := HJ3.out; have := HK2.out; omega⟩, ⟨by (with_reducible repeat (first | refine bn ?_ _ | refine bd ?_ | refine ba ?_ _)); refine blk_put (cs := #[.int .i64 t345, .int .i64 t346, .int .i64 t347, .string x343003_2]) ?_ 3 _ rfl; (with_reducible repeat (first | refine bn ?_ _ | refine bd ?_ | refine ba ?_ _)); refine blk_put (cs := #[.int .i64 t345, .int .i64 t346, .int .i64 x343002_2, .string x343003_2]) ?_ 2 _ rfl; (with_reducible repeat (first | refine bn ?_ _ | refine bd ?_ | refine ba ?_ _)); refine blk_put (cs := #[.int .i64 t345, .int .i64 x343001_2, .int .i64 x343002_2, .string x343003_2]) ?_ 1 _ rfl; (with_reducible repeat (first | refine bn ?_ _ | refine bd ?_ | refine ba ?_ _)); refine blk_put (cs := #[.int .i64 x343000_2, .int .i64 x343001_2, .int .i64 x343002_2, .string x343003_2]) ?_ 0 _ rfl; (with_reducible repeat (first | refine bn ?_ _ | refine bd ?_ | refine ba ?_ _)); refine blk_far ?_ NB342_350.out _; (with_reducible repeat (first | refine bn ?_ _ | refine bd ?_ | refine ba ?_ _)); refine blk_far ?_ NB342_350.out _; (with_reducible repeat (first | refine bn ?_ _ | refine bd ?_ | refine ba ?_ _)); refine blk_far ?_ NB342_350.out _; (with_reducible repeat (first | refine bn ?_ _ | refine bd ?_ | refine ba ?_ _)); refine blk_far ?_ NB342_350.out _; (with_reducible repeat (first | refine bn ?_ _ | refine bd ?_ | refine ba ?_ _)); exact BK342.out⟩, ⟨by repeat (first | (with_reducible first | exact HB.out | apply bl | apply pN | apply b1 | refine bs ?_ GE342.out | refine bs ?_ GE350.out) | exact HB.out | exact HBo.out)⟩⟩
         ·
          replace c25 := Bool.eq_false_iff.mpr c25
          subst c25
          have H1 : (some true) = some r := by rw [if_neg (show ¬ (false = true) by decide)] at H; exact H
          clear H
          have H := H1
          clear H1
          obtain rfl := Option.some.inj H
          try go_wp2
          have n0_ := Am (bd BK342.out)
          have n1_ := Am (b1 HB.out)
          clear BK342
          clear HB
          have BK342 := n0_
          have HB := n1_
          clear n0_ n1_
          have p343 : 0 ≤ (x8_2 : Int) := of_decide_eq_true (by first | (with_reducible assumption) | assumption)
          have q343 : x8_2 < (l1.length : Int) := of_decide_eq_true (by first | (with_reducible assumption) | assumption)
          obtain ⟨ad343, e343, hx343_0⟩ := Kd.at_int HR1.out x8_2 p343 q343
          have hw343_0 := hx343_0
          cases e343
          replace hx343_0 := (HB.out.cell (World.block_lt_of_cell? w _ hx343_0)).trans hx343_0
          replace p343 := eq_true p343
          replace q343 := eq_true q343
          have p344 : 0 ≤ (x8_2 : Int) := of_decide_eq_true (by first | (with_reducible assumption) | assumption)
          have q344 : x8_2 < (l2.length : Int) := of_decide_eq_true (by first | (with_reducible assumption) | assumption)
          obtain ⟨ad344, A344_2, c344_2, e344, hx344_0, hx344_1, hx344_2, hx344_3, hl344_2, hi344_2⟩ := at_T28 HR2.out x8_2 p344 q344
          have hw344_3 := hx344_3
          have hw344_2 := hx344_2
          have hw344_1 := hx344_1
          have hw344_0 := hx344_0
          cases e344
          replace hx344_0 := (HB.out.cell (World.block_lt_of_cell? w _ hx344_0)).trans hx344_0
          replace hx344_1 := (HB.out.cell (World.block_lt_of_cell? w _ hx344_1)).trans hx344_1
          replace hx344_2 := (HB.out.cell (World.block_lt_of_cell? w _ hx344_2)).trans hx344_2
          replace hx344_3 := (HB.out.cell (World.block_lt_of_cell? w _ hx344_3)).trans hx344_3
          have HR344_2 := Am hi344_2
          have HC344_2 := Am hl344_2
          clear hi344_2 hl344_2
          replace p344 := eq_true p344
          replace q344 := eq_true q344
          refine start_ (n := 16) (S := fun w' => w'.cell? ⟨gb342, 0, none⟩ = some (.int .i64 x343000_2) ∧ w'.cell? ⟨gb342, 1, none⟩ = some (.int .i64 x343001_2) ∧ w'.cell? ⟨gb342, 2, none⟩ = some (.int .i64 x343002_2) ∧ w'.cell? ⟨gb342, 3, none⟩ = some (.string x343003_2) ∧ w'.cell? (ad343.add (x8_2).toNat) = some (.int .i64 (rd l1 x8_2)) ∧ w'.cell? (ad344.add ((x8_2).toNat * 4)) = some (.int .i64 ((rd_T28 l2 x8_2).f0)) ∧ w'.cell? ⟨(ad344.add ((x8_2).toNat * 4)).block, (ad344.add ((x8_2).toNat * 4)).off + 1, none⟩ = some (.int .i64 ((rd_T28 l2 x8_2).f1)) ∧ w'.cell? ⟨(ad344.add ((x8_2).toNat * 4)).block, (ad344.add ((x8_2).toNat * 4)).off + 2, none⟩ = some (.slice A344_2 ((rd_T28 l2 x8_2).f2).length c344_2) ∧ w'.cell? ⟨(ad344.add ((x8_2).toNat * 4)).block, (ad344.add ((x8_2).toNat * 4)).off + 3, none⟩ = some (.string ((rd_T28 l2 x8_2).f3))) (ds := []) q17_0 (by kernel_rfl) rfl rfl ⟨(bc BK342.out 0).trans rfl, (bc BK342.out 1).trans rfl, (bc BK342.out 2).trans rfl, (bc BK342.out 3).trans rfl, ((HB.out.cell (World.block_lt_of_cell? w _ hw343_0)).trans hw343_0), ((HB.out.cell (World.block_lt_of_cell? w _ hw344_0)).trans hw344_0), ((HB.out.cell (World.block_lt_of_cell? w _ hw344_1)).trans hw344_1), ((HB.out.cell (World.block_lt_of_cell? w _ hw344_2)).trans hw344_2), ((HB.out.cell (World.block_lt_of_cell? w _ hw344_3)).trans hw344_3)⟩ (fun hHeld => ?_); refine with_tabW shuttlecocklaw19_BufBack.tab7 shuttlecocklaw19_BufBack.bits7 (fun HT_ HW_ => ?_)
          generalize wr.drew = w37 at BK342 HB HR344_2 hx343_0 hx344_0 hx344_1 hx344_2 hx344_3 hHeld ⊢
          refine Own.pr_ 1 (some 53) q17_1 HT_ (h := ?_)
          refine Own.pr_ 2 (some 54) q17_2 HT_ (h := ?_)
          refine Own.pr_ 3 (some 55) q17_3 HT_ (h := ?_)
          refine Own.pr_ 5 (some 57) q17_4 HT_ (h := ?_)
          refine Own.pr_ 6 (some 58) q17_5 HT_ (h := ?_)
          refine Own.pr_ 7 (some 59) q17_6 HT_ (h := ?_)
          refine Own.tk_ 0 (some 52) q17_7 HT_ HW_ hHeld (hy := by rintro w' ⟨s0, s1, s2, s3, s4, s5, s6, s7, s8⟩; go_simp; with_reducible rfl) (h := ?_)
          refine Own.tk_ 4 (some 56) q17_8 HT_ HW_ hHeld (hy := by rintro w' ⟨s0, s1, s2, s3, s4, s5, s6, s7, s8⟩; go_simp; with_reducible rfl) (h := ?_)
          refine Own.tk_ 8 (some 60) q17_9 HT_ HW_ hHeld (hy := by rintro w' ⟨s0, s1, s2, s3, s4, s5, s6, s7, s8⟩; go_simp; with_reducible rfl) (h := ?_)
          refine join_ (σ := Nat) 2 q17_10 (fun s_ => [(61, .tuple #[.agg #[.int .i64 t345, .int .i64 t346, .int .i64 t347, .string t348], .bool false]), (9, .pointer (some ⟨s_, 0, none⟩)), (51, .tuple #[.agg #[.int .i64 t345, .int .i64 t346, .int .i64 t347, .string t348], .bool false]), (62, .agg #[.int .i64 t345, .int .i64 t346, .int .i64 t347, .string t348]), (63, .bool false)]) (fun s_ w' => (w'.cell? ⟨gb342, 0, none⟩ = some (.int .i64 x343000_2) ∧ w'.cell? ⟨gb342, 1, none⟩ = some (.int .i64 x343001_2) ∧ w'.cell? ⟨gb342, 2, none⟩ = some (.int .i64 x343002_2) ∧ w'.cell? ⟨gb342, 3, none⟩ = some (.string x343003_2) ∧ w'.cell? (ad343.add (x8_2).toNat) = some (.int .i64 (rd l1 x8_2)) ∧ w'.cell? (ad344.add ((x8_2).toNat * 4)) = some (.int .i64 ((rd_T28 l2 x8_2).f0)) ∧ w'.cell? ⟨(ad344.add ((x8_2).toNat * 4)).block, (ad344.add ((x8_2).toNat * 4)).off + 1, none⟩ = some (.int .i64 ((rd_T28 l2 x8_2).f1)) ∧ w'.cell? ⟨(ad344.add ((x8_2).toNat * 4)).block, (ad344.add ((x8_2).toNat * 4)).off + 2, none⟩ = some (.slice A344_2 ((rd_T28 l2 x8_2).f2).length c344_2) ∧ w'.cell? ⟨(ad344.add ((x8_2).toNat * 4)).block, (ad344.add ((x8_2).toNat * 4)).off + 3, none⟩ = some (.string ((rd_T28 l2 x8_2).f3))) ∧ (w'.heap[gb342]? = some (.cells #[.int .i64 x343000_2, .int .i64 x343001_2, .int .i64 x343002_2, .string x343003_2] 23 (0, 0))) ∧ (w'.heap[s_]? = some (.cells #[.int .i64 0, .int .i64 0, .int .i64 0, .string (⟨#[]⟩ : ByteArray)] 23 (0, 0))) ∧ (w.heap.size ≤ s_) ∧ (w.heap.size ≤ s_) ∧ (gb342 ≠ s_) ∧ (s_ ≠ gb342) ∧ (Below w.heap.size w w')) ?_ ?_
          rotate_left
          ·
           intro hCont
           refine two_ (i := 9) (j := 13) (Ni := some 61) (Nj := some 9) q17_11 q17_12 rfl rfl rfl rfl (two_of HT_.out (by kernel_rfl)) (by decide) (by decide) (fun K hK => ?_) (fun K hK => ?_)
           ·
            skip
            refine goes_ Try.func10 (by kernel_rfl) rfl #[.agg #[.int .i64 x343000_2, .int .i64 x343001_2, .int .i64 x343002_2, .string x343003_2], .int .i64 (rd l1 x8_2), .agg #[.int .i64 ((rd_T28 l2 x8_2).f0), .int .i64 ((rd_T28 l2 x8_2).f1), .slice A344_2 ((rd_T28 l2 x8_2).f2).length c344_2, .string ((rd_T28 l2 x8_2).f3)]] (by rfl) rfl rfl (by (try simp only [List.map_toArray, List.map_cons, List.map_nil]); first | done | rfl | (simp only [List.length_drop, List.length_take]; rfl)) ?_
            with_reducible refine (buf_Put.calls k2 x343000_2 x343001_2 x343002_2 x343003_2 (rd l1 x8_2) ((rd_T28 l2 x8_2).f0) ((rd_T28 l2 x8_2).f1) _ _ ((rd_T28 l2 x8_2).f2) ((rd_T28 l2 x8_2).f3) t345 t346 t347 t348 false _ ?side1 ?side2 A24.out).mono ?_
            (case side1 => repeat (first | exact (Kd.C_below HR344_2.out HB.out) | (with_reducible refine Kd.C_alloc ?_ _) | (with_reducible refine Kd.C_drewN ?_ _) | (with_reducible refine Kd.C_drew ?_)))
            (case side2 => exact HC344_2.out)
            rintro e w38 ⟨rfl, hb⟩
            refine ⟨_, rfl, ?_⟩
            have n0_ := Am (blk_below (g := gb342) (o := .cells #[.int .i64 x343000_2, .int .i64 x343001_2, .int .i64 x343002_2, .string x343003_2] 23 (0, 0)) (by (with_reducible repeat (first | refine bn ?_ _ | refine bd ?_ | refine ba ?_ _)); exact BK342.out) hb)
            have n1_ := Am (below_step (by repeat (first | (with_reducible first | exact HB.out | apply bl | apply pN | apply b1 | refine bs ?_ GE342.out) | exact HB.out | exact HBo.out)) hb)
            clear BK342
            clear HB
            have BK342 := n0_
            have HB := n1_
            clear n0_ n1_
            (try clear hb)
            (try clear hb2)
            (try clear hk)
            (try clear hi)
            refine hK.out _ _ ⟨(bc BK342.out 0).trans rfl, (bc BK342.out 1).trans rfl, (bc BK342.out 2).trans rfl, (bc BK342.out 3).trans rfl, ((HB.out.cell (World.block_lt_of_cell? w _ hw343_0)).trans hw343_0), ((HB.out.cell (World.block_lt_of_cell? w _ hw344_0)).trans hw344_0), ((HB.out.cell (World.block_lt_of_cell? w _ hw344_1)).trans hw344_1), ((HB.out.cell (World.block_lt_of_cell? w _ hw344_2)).trans hw344_2), ((HB.out.cell (World.block_lt_of_cell? w _ hw344_3)).trans hw344_3)⟩ (fun hHeld => ?_)
            clear hK K
            refine norm_ (a' := ?_) ?_ ?_
            rotate_left
            ·
             show Act.put _ (some 61) _ = _
             simp only [Act.put, sI, sZ, sS, i64_w, i32_w]
             rfl
            refine Own.pr_ 10 (some 51) q17_13 HT_ (h := ?_)
            refine Own.pr_ 11 (some 62) q17_14 HT_ (h := ?_)
            refine Own.pr_ 12 (some 63) q17_15 HT_ (h := ?_)
            refine one_ (i := 13) (N := some 9) q17_10 rfl rfl (one_of HT_.out (by kernel_rfl)) (by decide) (fun K hK => ?_)
            refine box_step ?hg (N := 9) ?hd (cs := #[.int .i64 0, .int .i64 0, .int .i64 0, .string (⟨#[]⟩ : ByteArray)]) (t := 23) ?hr ?_; (case hd => rfl); (case hg => rfl); (case hr => first | (go_simp; done) | (go_simp; rfl))
            intro gb350 hg w39 hbox hb
            have n0_ := Am (blk_below (g := gb342) (o := .cells #[.int .i64 x343000_2, .int .i64 x343001_2, .int .i64 x343002_2, .string x343003_2] 23 (0, 0)) (by (with_reducible repeat (first | refine bn ?_ _ | refine bd ?_ | refine ba ?_ _)); exact BK342.out) hb)
            have n1_ := Am (below_step (by repeat (first | (with_reducible first | exact HB.out | apply bl | apply pN | apply b1 | refine bs ?_ GE342.out) | exact HB.out | exact HBo.out)) hb)
            have n2_ := Am (hbox)
            have n3_ := Am ((by rw [hg]; exact (below_size (by repeat (first | (with_reducible first | exact HB.out | apply bl | apply pN | apply b1 | refine bs ?_ GE342.out) | exact HB.out | exact HBo.out))) : w.heap.size ≤ gb350))
            have n4_ := Am ((by rw [hg]; exact (below_size (by repeat (first | (with_reducible first | exact HB.out | apply bl | apply pN | apply b1 | refine bs ?_ GE342.out) | exact HB.out | exact HBo.out))) : w.heap.size ≤ gb350))
            have n5_ := Am ((by rw [hg]; exact Nat.ne_of_lt (blk_lt (g := gb342) (o := .cells #[.int .i64 x343000_2, .int .i64 x343001_2, .int .i64 x343002_2, .string x343003_2] 23 (0, 0)) (by (with_reducible repeat (first | refine bn ?_ _ | refine bd ?_ | refine ba ?_ _)); exact BK342.out)) : gb342 ≠ gb350))
            have n6_ := Am ((by rw [hg]; exact Nat.ne_of_gt (blk_lt (g := gb342) (o := .cells #[.int .i64 x343000_2, .int .i64 x343001_2, .int .i64 x343002_2, .string x343003_2] 23 (0, 0)) (by (with_reducible repeat (first | refine bn ?_ _ | refine bd ?_ | refine ba ?_ _)); exact BK342.out)) : gb350 ≠ gb342))
            clear BK342
            clear HB
            have BK342 := n0_
            have HB := n1_
            have BK350 := n2_
            have GW350 := n3_
            have GE350 := n4_
            have NB342_350 := n5_
            have NB350_342 := n6_
            clear n0_ n1_ n2_ n3_ n4_ n5_ n6_
            clear hb hbox hg
            refine hK.out _ _ ⟨(bc BK342.out 0).trans rfl, (bc BK342.out 1).trans rfl, (bc BK342.out 2).trans rfl, (bc BK342.out 3).trans rfl, ((HB.out.cell (World.block_lt_of_cell? w _ hw343_0)).trans hw343_0), ((HB.out.cell (World.block_lt_of_cell? w _ hw344_0)).trans hw344_0), ((HB.out.cell (World.block_lt_of_cell? w _ hw344_1)).trans hw344_1), ((HB.out.cell (World.block_lt_of_cell? w _ hw344_2)).trans hw344_2), ((HB.out.cell (World.block_lt_of_cell? w _ hw344_3)).trans hw344_3)⟩ (fun hHeld => ?_)
            clear hK K
            refine norm_ (a' := ?_) ?_ ?_
            rotate_left
            ·
             show Act.put _ (some 9) _ = _
             simp only [Act.put, sI, sZ, sS, i64_w, i32_w]
             rfl
            exact norm_ (by simp only [putAll, Act.put, sI, sZ, sS]) (hCont (gb350) _ ⟨hHeld, (by (with_reducible repeat (first | refine bn ?_ _ | refine bd ?_ | refine ba ?_ _)); exact BK342.out), (by (with_reducible repeat (first | refine bn ?_ _ | refine bd ?_ | refine ba ?_ _)); exact BK350.out), GW350.out, GE350.out, NB342_350.out, NB350_342.out, (by repeat (first | (with_reducible first | exact HB.out | apply bl | apply pN | apply b1 | refine bs ?_ GE342.out | refine bs ?_ GE350.out) | exact HB.out | exact HBo.out))⟩)
           ·
            skip
            refine box_step ?hg (N := 9) ?hd (cs := #[.int .i64 0, .int .i64 0, .int .i64 0, .string (⟨#[]⟩ : ByteArray)]) (t := 23) ?hr ?_; (case hd => rfl); (case hg => rfl); (case hr => first | (go_simp; done) | (go_simp; rfl))
            intro gb350 hg w38 hbox hb
            have n0_ := Am (blk_below (g := gb342) (o := .cells #[.int .i64 x343000_2, .int .i64 x343001_2, .int .i64 x343002_2, .string x343003_2] 23 (0, 0)) (by (with_reducible repeat (first | refine bn ?_ _ | refine bd ?_ | refine ba ?_ _)); exact BK342.out) hb)
            have n1_ := Am (below_step (by repeat (first | (with_reducible first | exact HB.out | apply bl | apply pN | apply b1 | refine bs ?_ GE342.out) | exact HB.out | exact HBo.out)) hb)
            have n2_ := Am (hbox)
            have n3_ := Am ((by rw [hg]; exact (below_size (by repeat (first | (with_reducible first | exact HB.out | apply bl | apply pN | apply b1 | refine bs ?_ GE342.out) | exact HB.out | exact HBo.out))) : w.heap.size ≤ gb350))
            have n4_ := Am ((by rw [hg]; exact (below_size (by repeat (first | (with_reducible first | exact HB.out | apply bl | apply pN | apply b1 | refine bs ?_ GE342.out) | exact HB.out | exact HBo.out))) : w.heap.size ≤ gb350))
            have n5_ := Am ((by rw [hg]; exact Nat.ne_of_lt (blk_lt (g := gb342) (o := .cells #[.int .i64 x343000_2, .int .i64 x343001_2, .int .i64 x343002_2, .string x343003_2] 23 (0, 0)) (by (with_reducible repeat (first | refine bn ?_ _ | refine bd ?_ | refine ba ?_ _)); exact BK342.out)) : gb342 ≠ gb350))
            have n6_ := Am ((by rw [hg]; exact Nat.ne_of_gt (blk_lt (g := gb342) (o := .cells #[.int .i64 x343000_2, .int .i64 x343001_2, .int .i64 x343002_2, .string x343003_2] 23 (0, 0)) (by (with_reducible repeat (first | refine bn ?_ _ | refine bd ?_ | refine ba ?_ _)); exact BK342.out)) : gb350 ≠ gb342))
            clear BK342
            clear HB
            have BK342 := n0_
            have HB := n1_
            have BK350 := n2_
            have GW350 := n3_
            have GE350 := n4_
            have NB342_350 := n5_
            have NB350_342 := n6_
            clear n0_ n1_ n2_ n3_ n4_ n5_ n6_
            clear hb hbox hg
            refine hK.out _ _ ⟨(bc BK342.out 0).trans rfl, (bc BK342.out 1).trans rfl, (bc BK342.out 2).trans rfl, (bc BK342.out 3).trans rfl, ((HB.out.cell (World.block_lt_of_cell? w _ hw343_0)).trans hw343_0), ((HB.out.cell (World.block_lt_of_cell? w _ hw344_0)).trans hw344_0), ((HB.out.cell (World.block_lt_of_cell? w _ hw344_1)).trans hw344_1), ((HB.out.cell (World.block_lt_of_cell? w _ hw344_2)).trans hw344_2), ((HB.out.cell (World.block_lt_of_cell? w _ hw344_3)).trans hw344_3)⟩ (fun hHeld => ?_)
            clear hK K
            refine norm_ (a' := ?_) ?_ ?_
            rotate_left
            ·
             show Act.put _ (some 9) _ = _
             simp only [Act.put, sI, sZ, sS, i64_w, i32_w]
             rfl
            refine one_ (i := 9) (N := some 61) q17_16 rfl rfl (one_of HT_.out (by kernel_rfl)) (by decide) (fun K hK => ?_)
            refine goes_ Try.func10 (by kernel_rfl) rfl #[.agg #[.int .i64 x343000_2, .int .i64 x343001_2, .int .i64 x343002_2, .string x343003_2], .int .i64 (rd l1 x8_2), .agg #[.int .i64 ((rd_T28 l2 x8_2).f0), .int .i64 ((rd_T28 l2 x8_2).f1), .slice A344_2 ((rd_T28 l2 x8_2).f2).length c344_2, .string ((rd_T28 l2 x8_2).f3)]] (by rfl) rfl rfl (by (try simp only [List.map_toArray, List.map_cons, List.map_nil]); first | done | rfl | (simp only [List.length_drop, List.length_take]; rfl)) ?_
            with_reducible refine (buf_Put.calls k2 x343000_2 x343001_2 x343002_2 x343003_2 (rd l1 x8_2) ((rd_T28 l2 x8_2).f0) ((rd_T28 l2 x8_2).f1) _ _ ((rd_T28 l2 x8_2).f2) ((rd_T28 l2 x8_2).f3) t345 t346 t347 t348 false _ ?side1 ?side2 A24.out).mono ?_
            (case side1 => repeat (first | exact (Kd.C_below HR344_2.out HB.out) | (with_reducible refine Kd.C_alloc ?_ _) | (with_reducible refine Kd.C_drewN ?_ _) | (with_reducible refine Kd.C_drew ?_)))
            (case side2 => exact HC344_2.out)
            rintro e w39 ⟨rfl, hb⟩
            refine ⟨_, rfl, ?_⟩
            have n0_ := Am (blk_below (g := gb342) (o := .cells #[.int .i64 x343000_2, .int .i64 x343001_2, .int .i64 x343002_2, .string x343003_2] 23 (0, 0)) (by (with_reducible repeat (first | refine bn ?_ _ | refine bd ?_ | refine ba ?_ _)); exact BK342.out) hb)
            have n1_ := Am (blk_below (g := gb350) (o := .cells #[.int .i64 0, .int .i64 0, .int .i64 0, .string (⟨#[]⟩ : ByteArray)] 23 (0, 0)) (by (with_reducible repeat (first | refine bn ?_ _ | refine bd ?_ | refine ba ?_ _)); exact BK350.out) hb)
            have n2_ := Am (below_step (by repeat (first | (with_reducible first | exact HB.out | apply bl | apply pN | apply b1 | refine bs ?_ GE342.out | refine bs ?_ GE350.out) | exact HB.out | exact HBo.out)) hb)
            clear BK342
            clear BK350
            clear HB
            have BK342 := n0_
            have BK350 := n1_
            have HB := n2_
            clear n0_ n1_ n2_
            (try clear hb)
            (try clear hb2)
            (try clear hk)
            (try clear hi)
            refine hK.out _ _ ⟨(bc BK342.out 0).trans rfl, (bc BK342.out 1).trans rfl, (bc BK342.out 2).trans rfl, (bc BK342.out 3).trans rfl, ((HB.out.cell (World.block_lt_of_cell? w _ hw343_0)).trans hw343_0), ((HB.out.cell (World.block_lt_of_cell? w _ hw344_0)).trans hw344_0), ((HB.out.cell (World.block_lt_of_cell? w _ hw344_1)).trans hw344_1), ((HB.out.cell (World.block_lt_of_cell? w _ hw344_2)).trans hw344_2), ((HB.out.cell (World.block_lt_of_cell? w _ hw344_3)).trans hw344_3)⟩ (fun hHeld => ?_)
            clear hK K
            refine norm_ (a' := ?_) ?_ ?_
            rotate_left
            ·
             show Act.put _ (some 61) _ = _
             simp only [Act.put, sI, sZ, sS, i64_w, i32_w]
             rfl
            refine Own.pr_ 10 (some 51) q17_17 HT_ (h := ?_)
            refine Own.pr_ 11 (some 62) q17_18 HT_ (h := ?_)
            refine Own.pr_ 12 (some 63) q17_10 HT_ (h := ?_)
            exact norm_ (by simp only [putAll, Act.put, sI, sZ, sS]) (hCont (gb350) _ ⟨hHeld, (by (with_reducible repeat (first | refine bn ?_ _ | refine bd ?_ | refine ba ?_ _)); exact BK342.out), (by (with_reducible repeat (first | refine bn ?_ _ | refine bd ?_ | refine ba ?_ _)); exact BK350.out), GW350.out, GE350.out, NB342_350.out, NB350_342.out, (by repeat (first | (with_reducible first | exact HB.out | apply bl | apply pN | apply b1 | refine bs ?_ GE342.out | refine bs ?_ GE350.out) | exact HB.out | exact HBo.out))⟩)
          rintro gb350 w40 ⟨hS_, h0_, h1_, h2_, h3_, h4_, h5_, h6_⟩
          have n0_ : Aside0 (w40.heap[gb342]? = some (.cells #[.int .i64 x343000_2, .int .i64 x343001_2, .int .i64 x343002_2, .string x343003_2] 23 (0, 0))) := ⟨h0_⟩
          have n1_ : Aside0 (w40.heap[gb350]? = some (.cells #[.int .i64 0, .int .i64 0, .int .i64 0, .string (⟨#[]⟩ : ByteArray)] 23 (0, 0))) := ⟨h1_⟩
          have n2_ : Aside0 (w.heap.size ≤ gb350) := ⟨h2_⟩
          have n3_ : Aside0 (w.heap.size ≤ gb350) := ⟨h3_⟩
          have n4_ : Aside0 (gb342 ≠ gb350) := ⟨h4_⟩
          have n5_ : Aside0 (gb350 ≠ gb342) := ⟨h5_⟩
          have n6_ : Aside0 (Below w.heap.size w w40) := ⟨h6_⟩
          clear BK342
          clear HB
          clear h0_ h1_ h2_ h3_ h4_ h5_ h6_
          have BK342 := n0_
          have BK350 := n1_
          have GW350 := n2_
          have GE350 := n3_
          have NB342_350 := n4_
          have NB350_342 := n5_
          have HB := n6_
          clear n0_ n1_ n2_ n3_ n4_ n5_ n6_
          have hHeld : w40.cell? ⟨gb342, 0, none⟩ = some (.int .i64 x343000_2) ∧ w40.cell? ⟨gb342, 1, none⟩ = some (.int .i64 x343001_2) ∧ w40.cell? ⟨gb342, 2, none⟩ = some (.int .i64 x343002_2) ∧ w40.cell? ⟨gb342, 3, none⟩ = some (.string x343003_2) ∧ w40.cell? (ad343.add (x8_2).toNat) = some (.int .i64 (rd l1 x8_2)) ∧ w40.cell? (ad344.add ((x8_2).toNat * 4)) = some (.int .i64 ((rd_T28 l2 x8_2).f0)) ∧ w40.cell? ⟨(ad344.add ((x8_2).toNat * 4)).block, (ad344.add ((x8_2).toNat * 4)).off + 1, none⟩ = some (.int .i64 ((rd_T28 l2 x8_2).f1)) ∧ w40.cell? ⟨(ad344.add ((x8_2).toNat * 4)).block, (ad344.add ((x8_2).toNat * 4)).off + 2, none⟩ = some (.slice A344_2 ((rd_T28 l2 x8_2).f2).length c344_2) ∧ w40.cell? ⟨(ad344.add ((x8_2).toNat * 4)).block, (ad344.add ((x8_2).toNat * 4)).off + 3, none⟩ = some (.string ((rd_T28 l2 x8_2).f3)) := hS_
          refine norm_ (a' := ?_) ?_ ?_
          rotate_left
          ·
           simp only [putAll, Act.put, sI, sZ, sS]
           rfl
          refine one_ (i := 14) (N := none) q17_19 rfl rfl (one_of HT_.out (by kernel_rfl)) (by decide) (fun K hK => ?_)
          have hs41 : w40.cell? ⟨gb350, 0, none⟩ = some (.int .i64 0) := (bc BK350.out 0).trans rfl
          have hfs41 := bf BK350.out 0
          have hns41_0 := NB342_350.out
          have hms41_0 := NB350_342.out
          have hs42 : w40.cell? ⟨gb350, 1, none⟩ = some (.int .i64 0) := (bc BK350.out 1).trans rfl
          have hfs42 := bf BK350.out 1
          have hns42_0 := NB342_350.out
          have hms42_0 := NB350_342.out
          have hs43 : w40.cell? ⟨gb350, 2, none⟩ = some (.int .i64 0) := (bc BK350.out 2).trans rfl
          have hfs43 := bf BK350.out 2
          have hns43_0 := NB342_350.out
          have hms43_0 := NB350_342.out
          have hs44 : w40.cell? ⟨gb350, 3, none⟩ = some (.string (⟨#[]⟩ : ByteArray)) := (bc BK350.out 3).trans rfl
          have hfs44 := bf BK350.out 3
          have hns44_0 := NB342_350.out
          have hms44_0 := NB350_342.out
          refine skip_ (w1 := ?_) (by rfl) rfl ?_ ?_
          rotate_left
          ·
           go_simp
           rfl
          refine hK.out _ _ ⟨((cell_far (p := ⟨gb350, _, none⟩) NB342_350.out _).trans (((cell_far (p := ⟨gb350, _, none⟩) NB342_350.out _).trans (((cell_far (p := ⟨gb350, _, none⟩) NB342_350.out _).trans (((cell_far (p := ⟨gb350, _, none⟩) NB342_350.out _).trans (hHeld.1)))))))), ((cell_far (p := ⟨gb350, _, none⟩) NB342_350.out _).trans (((cell_far (p := ⟨gb350, _, none⟩) NB342_350.out _).trans (((cell_far (p := ⟨gb350, _, none⟩) NB342_350.out _).trans (((cell_far (p := ⟨gb350, _, none⟩) NB342_350.out _).trans (hHeld.2.1)))))))), ((cell_far (p := ⟨gb350, _, none⟩) NB342_350.out _).trans (((cell_far (p := ⟨gb350, _, none⟩) NB342_350.out _).trans (((cell_far (p := ⟨gb350, _, none⟩) NB342_350.out _).trans (((cell_far (p := ⟨gb350, _, none⟩) NB342_350.out _).trans (hHeld.2.2.1)))))))), ((cell_far (p := ⟨gb350, _, none⟩) NB342_350.out _).trans (((cell_far (p := ⟨gb350, _, none⟩) NB342_350.out _).trans (((cell_far (p := ⟨gb350, _, none⟩) NB342_350.out _).trans (((cell_far (p := ⟨gb350, _, none⟩) NB342_350.out _).trans (hHeld.2.2.2.1)))))))), ((cell_far (p := ⟨gb350, _, none⟩) (by first | exact Nat.ne_of_lt (Nat.lt_of_lt_of_le (by have := World.block_lt_of_cell? _ _ hw343_0; first | rwa [add_block] at this | exact this) GW350.out) | (rw [add_block]; exact Nat.ne_of_lt (Nat.lt_of_lt_of_le (by have := World.block_lt_of_cell? _ _ hw343_0; first | rwa [add_block] at this | exact this) GW350.out)) | (show (Addr.add _ _).block ≠ _; rw [add_block]; exact Nat.ne_of_lt (Nat.lt_of_lt_of_le (by have := World.block_lt_of_cell? _ _ hw343_0; first | rwa [add_block] at this | exact this) GW350.out)) | (dsimp only; exact Nat.ne_of_lt (Nat.lt_of_lt_of_le (by have := World.block_lt_of_cell? _ _ hw343_0; first | rwa [add_block] at this | exact this) GW350.out))) _).trans (((cell_far (p := ⟨gb350, _, none⟩) (by first | exact Nat.ne_of_lt (Nat.lt_of_lt_of_le (by have := World.block_lt_of_cell? _ _ hw343_0; first | rwa [add_block] at this | exact this) GW350.out) | (rw [add_block]; exact Nat.ne_of_lt (Nat.lt_of_lt_of_le (by have := World.block_lt_of_cell? _ _ hw343_0; first | rwa [add_block] at this | exact this) GW350.out)) | (show (Addr.add _ _).block ≠ _; rw [add_block]; exact Nat.ne_of_lt (Nat.lt_of_lt_of_le (by have := World.block_lt_of_cell? _ _ hw343_0; first | rwa [add_block] at this | exact this) GW350.out)) | (dsimp only; exact Nat.ne_of_lt (Nat.lt_of_lt_of_le (by have := World.block_lt_of_cell? _ _ hw343_0; first | rwa [add_block] at this | exact this) GW350.out))) _).trans (((cell_far (p := ⟨gb350, _, none⟩) (by first | exact Nat.ne_of_lt (Nat.lt_of_lt_of_le (by have := World.block_lt_of_cell? _ _ hw343_0; first | rwa [add_block] at this | exact this) GW350.out) | (rw [add_block]; exact Nat.ne_of_lt (Nat.lt_of_lt_of_le (by have := World.block_lt_of_cell? _ _ hw343_0; first | rwa [add_block] at this | exact this) GW350.out)) | (show (Addr.add _ _).block ≠ _; rw [add_block]; exact Nat.ne_of_lt (Nat.lt_of_lt_of_le (by have := World.block_lt_of_cell? _ _ hw343_0; first | rwa [add_block] at this | exact this) GW350.out)) | (dsimp only; exact Nat.ne_of_lt (Nat.lt_of_lt_of_le (by have := World.block_lt_of_cell? _ _ hw343_0; first | rwa [add_block] at this | exact this) GW350.out))) _).trans (((cell_far (p := ⟨gb350, _, none⟩) (by first | exact Nat.ne_of_lt (Nat.lt_of_lt_of_le (by have := World.block_lt_of_cell? _ _ hw343_0; first | rwa [add_block] at this | exact this) GW350.out) | (rw [add_block]; exact Nat.ne_of_lt (Nat.lt_of_lt_of_le (by have := World.block_lt_of_cell? _ _ hw343_0; first | rwa [add_block] at this | exact this) GW350.out)) | (show (Addr.add _ _).block ≠ _; rw [add_block]; exact Nat.ne_of_lt (Nat.lt_of_lt_of_le (by have := World.block_lt_of_cell? _ _ hw343_0; first | rwa [add_block] at this | exact this) GW350.out)) | (dsimp only; exact Nat.ne_of_lt (Nat.lt_of_lt_of_le (by have := World.block_lt_of_cell? _ _ hw343_0; first | rwa [add_block] at this | exact this) GW350.out))) _).trans (hHeld.2.2.2.2.1)))))))), ((cell_far (p := ⟨gb350, _, none⟩) (by first | exact Nat.ne_of_lt (Nat.lt_of_lt_of_le (by have := World.block_lt_of_cell? _ _ hw344_0; first | rwa [add_block] at this | exact this) GW350.out) | (rw [add_block]; exact Nat.ne_of_lt (Nat.lt_of_lt_of_le (by have := World.block_lt_of_cell? _ _ hw344_0; first | rwa [add_block] at this | exact this) GW350.out)) | (show (Addr.add _ _).block ≠ _; rw [add_block]; exact Nat.ne_of_lt (Nat.lt_of_lt_of_le (by have := World.block_lt_of_cell? _ _ hw344_0; first | rwa [add_block] at this | exact this) GW350.out)) | (dsimp only; exact Nat.ne_of_lt (Nat.lt_of_lt_of_le (by have := World.block_lt_of_cell? _ _ hw344_0; first | rwa [add_block] at this | exact this) GW350.out))) _).trans (((cell_far (p := ⟨gb350, _, none⟩) (by first | exact Nat.ne_of_lt (Nat.lt_of_lt_of_le (by have := World.block_lt_of_cell? _ _ hw344_0; first | rwa [add_block] at this | exact this) GW350.out) | (rw [add_block]; exact Nat.ne_of_lt (Nat.lt_of_lt_of_le (by have := World.block_lt_of_cell? _ _ hw344_0; first | rwa [add_block] at this | exact this) GW350.out)) | (show (Addr.add _ _).block ≠ _; rw [add_block]; exact Nat.ne_of_lt (Nat.lt_of_lt_of_le (by have := World.block_lt_of_cell? _ _ hw344_0; first | rwa [add_block] at this | exact this) GW350.out)) | (dsimp only; exact Nat.ne_of_lt (Nat.lt_of_lt_of_le (by have := World.block_lt_of_cell? _ _ hw344_0; first | rwa [add_block] at this | exact this) GW350.out))) _).trans (((cell_far (p := ⟨gb350, _, none⟩) (by first | exact Nat.ne_of_lt (Nat.lt_of_lt_of_le (by have := World.block_lt_of_cell? _ _ hw344_0; first | rwa [add_block] at this | exact this) GW350.out) | (rw [add_block]; exact Nat.ne_of_lt (Nat.lt_of_lt_of_le (by have := World.block_lt_of_cell? _ _ hw344_0; first | rwa [add_block] at this | exact this) GW350.out)) | (show (Addr.add _ _).block ≠ _; rw [add_block]; exact Nat.ne_of_lt (Nat.lt_of_lt_of_le (by have := World.block_lt_of_cell? _ _ hw344_0; first | rwa [add_block] at this | exact this) GW350.out)) | (dsimp only; exact Nat.ne_of_lt (Nat.lt_of_lt_of_le (by have := World.block_lt_of_cell? _ _ hw344_0; first | rwa [add_block] at this | exact this) GW350.out))) _).trans (((cell_far (p := ⟨gb350, _, none⟩) (by first | exact Nat.ne_of_lt (Nat.lt_of_lt_of_le (by have := World.block_lt_of_cell? _ _ hw344_0; first | rwa [add_block] at this | exact this) GW350.out) | (rw [add_block]; exact Nat.ne_of_lt (Nat.lt_of_lt_of_le (by have := World.block_lt_of_cell? _ _ hw344_0; first | rwa [add_block] at this | exact this) GW350.out)) | (show (Addr.add _ _).block ≠ _; rw [add_block]; exact Nat.ne_of_lt (Nat.lt_of_lt_of_le (by have := World.block_lt_of_cell? _ _ hw344_0; first | rwa [add_block] at this | exact this) GW350.out)) | (dsimp only; exact Nat.ne_of_lt (Nat.lt_of_lt_of_le (by have := World.block_lt_of_cell? _ _ hw344_0; first | rwa [add_block] at this | exact this) GW350.out))) _).trans (hHeld.2.2.2.2.2.1)))))))), ((cell_far (p := ⟨gb350, _, none⟩) (by first | exact Nat.ne_of_lt (Nat.lt_of_lt_of_le (by have := World.block_lt_of_cell? _ _ hw344_1; first | rwa [add_block] at this | exact this) GW350.out) | (rw [add_block]; exact Nat.ne_of_lt (Nat.lt_of_lt_of_le (by have := World.block_lt_of_cell? _ _ hw344_1; first | rwa [add_block] at this | exact this) GW350.out)) | (show (Addr.add _ _).block ≠ _; rw [add_block]; exact Nat.ne_of_lt (Nat.lt_of_lt_of_le (by have := World.block_lt_of_cell? _ _ hw344_1; first | rwa [add_block] at this | exact this) GW350.out)) | (dsimp only; exact Nat.ne_of_lt (Nat.lt_of_lt_of_le (by have := World.block_lt_of_cell? _ _ hw344_1; first | rwa [add_block] at this | exact this) GW350.out))) _).trans (((cell_far (p := ⟨gb350, _, none⟩) (by first | exact Nat.ne_of_lt (Nat.lt_of_lt_of_le (by have := World.block_lt_of_cell? _ _ hw344_1; first | rwa [add_block] at this | exact this) GW350.out) | (rw [add_block]; exact Nat.ne_of_lt (Nat.lt_of_lt_of_le (by have := World.block_lt_of_cell? _ _ hw344_1; first | rwa [add_block] at this | exact this) GW350.out)) | (show (Addr.add _ _).block ≠ _; rw [add_block]; exact Nat.ne_of_lt (Nat.lt_of_lt_of_le (by have := World.block_lt_of_cell? _ _ hw344_1; first | rwa [add_block] at this | exact this) GW350.out)) | (dsimp only; exact Nat.ne_of_lt (Nat.lt_of_lt_of_le (by have := World.block_lt_of_cell? _ _ hw344_1; first | rwa [add_block] at this | exact this) GW350.out))) _).trans (((cell_far (p := ⟨gb350, _, none⟩) (by first | exact Nat.ne_of_lt (Nat.lt_of_lt_of_le (by have := World.block_lt_of_cell? _ _ hw344_1; first | rwa [add_block] at this | exact this) GW350.out) | (rw [add_block]; exact Nat.ne_of_lt (Nat.lt_of_lt_of_le (by have := World.block_lt_of_cell? _ _ hw344_1; first | rwa [add_block] at this | exact this) GW350.out)) | (show (Addr.add _ _).block ≠ _; rw [add_block]; exact Nat.ne_of_lt (Nat.lt_of_lt_of_le (by have := World.block_lt_of_cell? _ _ hw344_1; first | rwa [add_block] at this | exact this) GW350.out)) | (dsimp only; exact Nat.ne_of_lt (Nat.lt_of_lt_of_le (by have := World.block_lt_of_cell? _ _ hw344_1; first | rwa [add_block] at this | exact this) GW350.out))) _).trans (((cell_far (p := ⟨gb350, _, none⟩) (by first | exact Nat.ne_of_lt (Nat.lt_of_lt_of_le (by have := World.block_lt_of_cell? _ _ hw344_1; first | rwa [add_block] at this | exact this) GW350.out) | (rw [add_block]; exact Nat.ne_of_lt (Nat.lt_of_lt_of_le (by have := World.block_lt_of_cell? _ _ hw344_1; first | rwa [add_block] at this | exact this) GW350.out)) | (show (Addr.add _ _).block ≠ _; rw [add_block]; exact Nat.ne_of_lt (Nat.lt_of_lt_of_le (by have := World.block_lt_of_cell? _ _ hw344_1; first | rwa [add_block] at this | exact this) GW350.out)) | (dsimp only; exact Nat.ne_of_lt (Nat.lt_of_lt_of_le (by have := World.block_lt_of_cell? _ _ hw344_1; first | rwa [add_block] at this | exact this) GW350.out))) _).trans (hHeld.2.2.2.2.2.2.1)))))))), ((cell_far (p := ⟨gb350, _, none⟩) (by first | exact Nat.ne_of_lt (Nat.lt_of_lt_of_le (by have := World.block_lt_of_cell? _ _ hw344_2; first | rwa [add_block] at this | exact this) GW350.out) | (rw [add_block]; exact Nat.ne_of_lt (Nat.lt_of_lt_of_le (by have := World.block_lt_of_cell? _ _ hw344_2; first | rwa [add_block] at this | exact this) GW350.out)) | (show (Addr.add _ _).block ≠ _; rw [add_block]; exact Nat.ne_of_lt (Nat.lt_of_lt_of_le (by have := World.block_lt_of_cell? _ _ hw344_2; first | rwa [add_block] at this | exact this) GW350.out)) | (dsimp only; exact Nat.ne_of_lt (Nat.lt_of_lt_of_le (by have := World.block_lt_of_cell? _ _ hw344_2; first | rwa [add_block] at this | exact this) GW350.out))) _).trans (((cell_far (p := ⟨gb350, _, none⟩) (by first | exact Nat.ne_of_lt (Nat.lt_of_lt_of_le (by have := World.block_lt_of_cell? _ _ hw344_2; first | rwa [add_block] at this | exact this) GW350.out) | (rw [add_block]; exact Nat.ne_of_lt (Nat.lt_of_lt_of_le (by have := World.block_lt_of_cell? _ _ hw344_2; first | rwa [add_block] at this | exact this) GW350.out)) | (show (Addr.add _ _).block ≠ _; rw [add_block]; exact Nat.ne_of_lt (Nat.lt_of_lt_of_le (by have := World.block_lt_of_cell? _ _ hw344_2; first | rwa [add_block] at this | exact this) GW350.out)) | (dsimp only; exact Nat.ne_of_lt (Nat.lt_of_lt_of_le (by have := World.block_lt_of_cell? _ _ hw344_2; first | rwa [add_block] at this | exact this) GW350.out))) _).trans (((cell_far (p := ⟨gb350, _, none⟩) (by first | exact Nat.ne_of_lt (Nat.lt_of_lt_of_le (by have := World.block_lt_of_cell? _ _ hw344_2; first | rwa [add_block] at this | exact this) GW350.out) | (rw [add_block]; exact Nat.ne_of_lt (Nat.lt_of_lt_of_le (by have := World.block_lt_of_cell? _ _ hw344_2; first | rwa [add_block] at this | exact this) GW350.out)) | (show (Addr.add _ _).block ≠ _; rw [add_block]; exact Nat.ne_of_lt (Nat.lt_of_lt_of_le (by have := World.block_lt_of_cell? _ _ hw344_2; first | rwa [add_block] at this | exact this) GW350.out)) | (dsimp only; exact Nat.ne_of_lt (Nat.lt_of_lt_of_le (by have := World.block_lt_of_cell? _ _ hw344_2; first | rwa [add_block] at this | exact this) GW350.out))) _).trans (((cell_far (p := ⟨gb350, _, none⟩) (by first | exact Nat.ne_of_lt (Nat.lt_of_lt_of_le (by have := World.block_lt_of_cell? _ _ hw344_2; first | rwa [add_block] at this | exact this) GW350.out) | (rw [add_block]; exact Nat.ne_of_lt (Nat.lt_of_lt_of_le (by have := World.block_lt_of_cell? _ _ hw344_2; first | rwa [add_block] at this | exact this) GW350.out)) | (show (Addr.add _ _).block ≠ _; rw [add_block]; exact Nat.ne_of_lt (Nat.lt_of_lt_of_le (by have := World.block_lt_of_cell? _ _ hw344_2; first | rwa [add_block] at this | exact this) GW350.out)) | (dsimp only; exact Nat.ne_of_lt (Nat.lt_of_lt_of_le (by have := World.block_lt_of_cell? _ _ hw344_2; first | rwa [add_block] at this | exact this) GW350.out))) _).trans (hHeld.2.2.2.2.2.2.2.1)))))))), ((cell_far (p := ⟨gb350, _, none⟩) (by first | exact Nat.ne_of_lt (Nat.lt_of_lt_of_le (by have := World.block_lt_of_cell? _ _ hw344_3; first | rwa [add_block] at this | exact this) GW350.out) | (rw [add_block]; exact Nat.ne_of_lt (Nat.lt_of_lt_of_le (by have := World.block_lt_of_cell? _ _ hw344_3; first | rwa [add_block] at this | exact this) GW350.out)) | (show (Addr.add _ _).block ≠ _; rw [add_block]; exact Nat.ne_of_lt (Nat.lt_of_lt_of_le (by have := World.block_lt_of_cell? _ _ hw344_3; first | rwa [add_block] at this | exact this) GW350.out)) | (dsimp only; exact Nat.ne_of_lt (Nat.lt_of_lt_of_le (by have := World.block_lt_of_cell? _ _ hw344_3; first | rwa [add_block] at this | exact this) GW350.out))) _).trans (((cell_far (p := ⟨gb350, _, none⟩) (by first | exact Nat.ne_of_lt (Nat.lt_of_lt_of_le (by have := World.block_lt_of_cell? _ _ hw344_3; first | rwa [add_block] at this | exact this) GW350.out) | (rw [add_block]; exact Nat.ne_of_lt (Nat.lt_of_lt_of_le (by have := World.block_lt_of_cell? _ _ hw344_3; first | rwa [add_block] at this | exact this) GW350.out)) | (show (Addr.add _ _).block ≠ _; rw [add_block]; exact Nat.ne_of_lt (Nat.lt_of_lt_of_le (by have := World.block_lt_of_cell? _ _ hw344_3; first | rwa [add_block] at this | exact this) GW350.out)) | (dsimp only; exact Nat.ne_of_lt (Nat.lt_of_lt_of_le (by have := World.block_lt_of_cell? _ _ hw344_3; first | rwa [add_block] at this | exact this) GW350.out))) _).trans (((cell_far (p := ⟨gb350, _, none⟩) (by first | exact Nat.ne_of_lt (Nat.lt_of_lt_of_le (by have := World.block_lt_of_cell? _ _ hw344_3; first | rwa [add_block] at this | exact this) GW350.out) | (rw [add_block]; exact Nat.ne_of_lt (Nat.lt_of_lt_of_le (by have := World.block_lt_of_cell? _ _ hw344_3; first | rwa [add_block] at this | exact this) GW350.out)) | (show (Addr.add _ _).block ≠ _; rw [add_block]; exact Nat.ne_of_lt (Nat.lt_of_lt_of_le (by have := World.block_lt_of_cell? _ _ hw344_3; first | rwa [add_block] at this | exact this) GW350.out)) | (dsimp only; exact Nat.ne_of_lt (Nat.lt_of_lt_of_le (by have := World.block_lt_of_cell? _ _ hw344_3; first | rwa [add_block] at this | exact this) GW350.out))) _).trans (((cell_far (p := ⟨gb350, _, none⟩) (by first | exact Nat.ne_of_lt (Nat.lt_of_lt_of_le (by have := World.block_lt_of_cell? _ _ hw344_3; first | rwa [add_block] at this | exact this) GW350.out) | (rw [add_block]; exact Nat.ne_of_lt (Nat.lt_of_lt_of_le (by have := World.block_lt_of_cell? _ _ hw344_3; first | rwa [add_block] at this | exact this) GW350.out)) | (show (Addr.add _ _).block ≠ _; rw [add_block]; exact Nat.ne_of_lt (Nat.lt_of_lt_of_le (by have := World.block_lt_of_cell? _ _ hw344_3; first | rwa [add_block] at this | exact this) GW350.out)) | (dsimp only; exact Nat.ne_of_lt (Nat.lt_of_lt_of_le (by have := World.block_lt_of_cell? _ _ hw344_3; first | rwa [add_block] at this | exact this) GW350.out))) _).trans (hHeld.2.2.2.2.2.2.2.2))))))))⟩ (fun hHeld => ?_)
          clear hK K
          refine Own.pr_ 15 (some 10) q17_20 HT_ (h := ?_)
          refine done_ (done_of HT_.out (by kernel_rfl)) ?_
          try go_wp2
          go_ret
          exact ⟨by first | rfl | (simp [errW_none, errW_some] <;> rfl) | (simp [*, errW_none, errW_some] <;> rfl) | (simp [Aid.ne_nil, Aid.eq_nil, errW_none, errW_some]; done), by repeat (first | (with_reducible first | exact HB.out | apply bl | apply pN | apply b1 | refine bs ?_ GE342.out | refine bs ?_ GE350.out) | exact HB.out | exact HBo.out)⟩
        ·
         rw [if_neg c23] at H
         exact absurd H (by simp)
       ·
        rw [if_neg c22] at H
        exact absurd H (by simp)
      ·
       rw [if_neg c21] at H
       have c21b0 : decide (x8_2 < (l2.length : Int)) = false := decide_eq_false c21
       clear c21
       replace H := ob H
       obtain ⟨⟨t351, t352, t353, t354, t355, t356, t357, t358, t359⟩, A450, H⟩ := H
       replace H : (if (l2.length : Int) = 0 then (some (!t359)) else ((shuttlecockref05_Events.f k2 t351 t352 t353 t354).bind fun bt362 => (if t359 = true then (if bt362.2.2.2 = 0 then (if (bt362.1.length : Int) = (l2.length : Int) then ((shuttlecockref01_Ints.f k2 bt362.2.1 l1).bind fun t370 => (if t370 = true then (if (!(t355 == a0) || (!(t356 == 0) || (!(t357 == 0) || (!(t358.toList == ([] : List UInt8)))))) = true then (shuttlecocklaw19_BufBack.j2 k2 l2 bt362.1 true) else (shuttlecocklaw19_BufBack.j2 k2 l2 bt362.1 (t352 != (wrap64 (a0 + 1))))) else (shuttlecocklaw19_BufBack.j2 k2 l2 bt362.1 true))) else (shuttlecocklaw19_BufBack.j2 k2 l2 bt362.1 true)) else (shuttlecocklaw19_BufBack.j2 k2 l2 bt362.1 true)) else (shuttlecocklaw19_BufBack.j2 k2 l2 bt362.1 true)))) = some r := H
       have A45 := Am A450
       clear A450
       by_cases c46 : (l2.length : Int) = 0
       ·
        rw [if_pos c46] at H
        have c46b0 : ((l2.length : Int) == 0) = true := beq_iff_eq.mpr c46
        have c46b1 : ((l2.length : Int) != 0) = false := bne_eq_false_iff_eq.mpr c46
        clear c46
        obtain rfl := Option.some.inj H
        have hcz47_0 : wr.cell? ⟨gb342, 0, none⟩ = some (.int .i64 x343000_2) := (bc BK342.out 0).trans rfl
        have hcz47_1 : wr.cell? ⟨gb342, 1, none⟩ = some (.int .i64 x343001_2) := (bc BK342.out 1).trans rfl
        have hcz47_2 : wr.cell? ⟨gb342, 2, none⟩ = some (.int .i64 x343002_2) := (bc BK342.out 2).trans rfl
        have hcz47_3 : wr.cell? ⟨gb342, 3, none⟩ = some (.string x343003_2) := (bc BK342.out 3).trans rfl
        have hfz47_0 := bf BK342.out 0
        have hfz47_1 := bf BK342.out 1
        have hfz47_2 := bf BK342.out 2
        have hfz47_3 := bf BK342.out 3
        go_wp2_with (first | ((with_reducible refine gate_callee (f := 12) rfl ?_); refine goesL_ (some 69) rfl rfl Try.func12 (by kernel_rfl) rfl #[.agg #[.int .i64 x343000_2, .int .i64 x343001_2, .int .i64 x343002_2, .string x343003_2], .int .i64 1] rfl (by (try simp only [List.map_toArray, List.map_cons, List.map_nil]); first | done | rfl | (simp only [List.length_drop, List.length_take]; rfl)) ?_; (with_reducible refine (buf_Seal.calls x343000_2 x343001_2 x343002_2 x343003_2 1 t351 t352 t353 t354 t355 t356 t357 t358 t359 _ A45.out).mono ?_); rintro e w48 ⟨rfl, hb⟩; refine ⟨_, rfl, ?_⟩; have n0_ := Am (blk_below (g := gb342) (o := .cells #[.int .i64 x343000_2, .int .i64 x343001_2, .int .i64 x343002_2, .string x343003_2] 23 (0, 0)) (by (with_reducible repeat (first | refine bn ?_ _ | refine bd ?_ | refine ba ?_ _)); exact BK342.out) hb); have n1_ := Am (below_step (by repeat (first | (with_reducible first | exact HB.out | apply bl | apply pN | apply b1 | refine bs ?_ GE342.out) | exact HB.out | exact HBo.out)) hb); clear BK342; clear HB; have BK342 := n0_; have HB := n1_; clear n0_ n1_; (try clear hb); (try clear hb2); (try clear hk); (try clear hi)) | ((with_reducible refine gate_dst (N := 11) rfl ?_); (try (refine gate_guard (by rfl) ?_; dsimp only)); refine box_event ?hg (N := 11) ?hd (cs := #[.int .i64 0, .int .i64 0, .int .i64 0, .string (⟨#[]⟩ : ByteArray)]) (t := 35) ?hr ?_; (case hd => rfl); (case hg => rfl); (case hr => first | (go_simp; done) | (go_simp; rfl)); intro gb360 hg w49 hbox hb; have n0_ := Am (blk_below (g := gb342) (o := .cells #[.int .i64 x343000_2, .int .i64 x343001_2, .int .i64 x343002_2, .string x343003_2] 23 (0, 0)) (by (with_reducible repeat (first | refine bn ?_ _ | refine bd ?_ | refine ba ?_ _)); exact BK342.out) hb); have n1_ := Am (below_step (by repeat (first | (with_reducible first | exact HB.out | apply bl | apply pN | apply b1 | refine bs ?_ GE342.out) | exact HB.out | exact HBo.out)) hb); have n2_ := Am (hbox); have n3_ := Am ((by rw [hg]; exact (below_size (by repeat (first | (with_reducible first | exact HB.out | apply bl | apply pN | apply b1 | refine bs ?_ GE342.out) | exact HB.out | exact HBo.out))) : w.heap.size ≤ gb360)); have n4_ := Am ((by rw [hg]; exact (below_size (by repeat (first | (with_reducible first | exact HB.out | apply bl | apply pN | apply b1 | refine bs ?_ GE342.out) | exact HB.out | exact HBo.out))) : w.heap.size ≤ gb360)); have n5_ := Am ((by rw [hg]; exact Nat.ne_of_lt (blk_lt (g := gb342) (o := .cells #[.int .i64 x343000_2, .int .i64 x343001_2, .int .i64 x343002_2, .string x343003_2] 23 (0, 0)) (by (with_reducible repeat (first | refine bn ?_ _ | refine bd ?_ | refine ba ?_ _)); exact BK342.out)) : gb342 ≠ gb360)); have n6_ := Am ((by rw [hg]; exact Nat.ne_of_gt (blk_lt (g := gb342) (o := .cells #[.int .i64 x343000_2, .int .i64 x343001_2, .int .i64 x343002_2, .string x343003_2] 23 (0, 0)) (by (with_reducible repeat (first | refine bn ?_ _ | refine bd ?_ | refine ba ?_ _)); exact BK342.out)) : gb360 ≠ gb342)); clear BK342; clear HB; have BK342 := n0_; have HB := n1_; have BK360 := n2_; have GW360 := n3_; have GE360 := n4_; have NB342_360 := n5_; have NB360_342 := n6_; clear n0_ n1_ n2_ n3_ n4_ n5_ n6_; clear hb hbox hg) | ((with_reducible refine gate_dst (N := 12) rfl ?_); (try (refine gate_guard (by rfl) ?_; dsimp only)); refine box_event ?hg (N := 12) ?hd (cs := #[.int .i64 0, .int .i64 0, .int .i64 0, .string (⟨#[]⟩ : ByteArray)]) (t := 23) ?hr ?_; (case hd => rfl); (case hg => rfl); (case hr => first | (go_simp; done) | (go_simp; rfl)); intro gb361 hg w50 hbox hb; have n0_ := Am (blk_below (g := gb342) (o := .cells #[.int .i64 x343000_2, .int .i64 x343001_2, .int .i64 x343002_2, .string x343003_2] 23 (0, 0)) (by (with_reducible repeat (first | refine bn ?_ _ | refine bd ?_ | refine ba ?_ _)); exact BK342.out) hb); have n1_ := Am (blk_below (g := gb360) (o := .cells #[.int .i64 0, .int .i64 0, .int .i64 0, .string (⟨#[]⟩ : ByteArray)] 35 (0, 0)) (by (with_reducible repeat (first | refine bn ?_ _ | refine bd ?_ | refine ba ?_ _)); exact BK360.out) hb); have n2_ := Am (below_step (by repeat (first | (with_reducible first | exact HB.out | apply bl | apply pN | apply b1 | refine bs ?_ GE342.out | refine bs ?_ GE360.out) | exact HB.out | exact HBo.out)) hb); have n3_ := Am (hbox); have n4_ := Am ((by rw [hg]; exact (below_size (by repeat (first | (with_reducible first | exact HB.out | apply bl | apply pN | apply b1 | refine bs ?_ GE342.out | refine bs ?_ GE360.out) | exact HB.out | exact HBo.out))) : w.heap.size ≤ gb361)); have n5_ := Am ((by rw [hg]; exact (below_size (by repeat (first | (with_reducible first | exact HB.out | apply bl | apply pN | apply b1 | refine bs ?_ GE342.out | refine bs ?_ GE360.out) | exact HB.out | exact HBo.out))) : w.heap.size ≤ gb361)); have n6_ := Am ((by rw [hg]; exact Nat.ne_of_lt (blk_lt (g := gb342) (o := .cells #[.int .i64 x343000_2, .int .i64 x343001_2, .int .i64 x343002_2, .string x343003_2] 23 (0, 0)) (by (with_reducible repeat (first | refine bn ?_ _ | refine bd ?_ | refine ba ?_ _)); exact BK342.out)) : gb342 ≠ gb361)); have n7_ := Am ((by rw [hg]; exact Nat.ne_of_gt (blk_lt (g := gb342) (o := .cells #[.int .i64 x343000_2, .int .i64 x343001_2, .int .i64 x343002_2, .string x343003_2] 23 (0, 0)) (by (with_reducible repeat (first | refine bn ?_ _ | refine bd ?_ | refine ba ?_ _)); exact BK342.out)) : gb361 ≠ gb342)); have n8_ := Am ((by rw [hg]; exact Nat.ne_of_lt (blk_lt (g := gb360) (o := .cells #[.int .i64 0, .int .i64 0, .int .i64 0, .string (⟨#[]⟩ : ByteArray)] 35 (0, 0)) (by (with_reducible repeat (first | refine bn ?_ _ | refine bd ?_ | refine ba ?_ _)); exact BK360.out)) : gb360 ≠ gb361)); have n9_ := Am ((by rw [hg]; exact Nat.ne_of_gt (blk_lt (g := gb360) (o := .cells #[.int .i64 0, .int .i64 0, .int .i64 0, .string (⟨#[]⟩ : ByteArray)] 35 (0, 0)) (by (with_reducible repeat (first | refine bn ?_ _ | refine bd ?_ | refine ba ?_ _)); exact BK360.out)) : gb361 ≠ gb360)); clear BK342; clear BK360; clear HB; have BK342 := n0_; have BK360 := n1_; have HB := n2_; have BK361 := n3_; have GW361 := n4_; have GE361 := n5_; have NB342_361 := n6_; have NB361_342 := n7_; have NB360_361 := n8_; have NB361_360 := n9_; clear n0_ n1_ n2_ n3_ n4_ n5_ n6_ n7_ n8_ n9_; clear hb hbox hg; have hnb51 := NB360_342.out; have hnc51 := NB342_360.out; have hnb52 := NB360_361.out; have hnc52 := NB361_360.out; have hcz53_0 : w50.cell? ⟨gb360, 0, none⟩ = some (.int .i64 0) := (bc BK360.out 0).trans rfl; have hcz53_1 : w50.cell? ⟨gb360, 1, none⟩ = some (.int .i64 0) := (bc BK360.out 1).trans rfl; have hcz53_2 : w50.cell? ⟨gb360, 2, none⟩ = some (.int .i64 0) := (bc BK360.out 2).trans rfl; have hcz53_3 : w50.cell? ⟨gb360, 3, none⟩ = some (.string (⟨#[]⟩ : ByteArray)) := (bc BK360.out 3).trans rfl; have hfz53_0 := bf BK360.out 0; have hfz53_1 := bf BK360.out 1; have hfz53_2 := bf BK360.out 2; have hfz53_3 := bf BK360.out 3; have hnb54 := NB361_342.out; have hnc54 := NB342_361.out; have hcz55_0 : w50.cell? ⟨gb361, 0, none⟩ = some (.int .i64 0) := (bc BK361.out 0).trans rfl; have hcz55_1 : w50.cell? ⟨gb361, 1, none⟩ = some (.int .i64 0) := (bc BK361.out 1).trans rfl; have hcz55_2 : w50.cell? ⟨gb361, 2, none⟩ = some (.int .i64 0) := (bc BK361.out 2).trans rfl; have hcz55_3 : w50.cell? ⟨gb361, 3, none⟩ = some (.string (⟨#[]⟩ : ByteArray)) := (bc BK361.out 3).trans rfl; have hfz55_0 := bf BK361.out 0; have hfz55_1 := bf BK361.out 1; have hfz55_2 := bf BK361.out 2; have hfz55_3 := bf BK361.out 3))
        go_ret
        exact ⟨by first | rfl | (simp [errW_none, errW_some] <;> rfl) | (simp [*, errW_none, errW_some] <;> rfl) | (simp [Aid.ne_nil, Aid.eq_nil, errW_none, errW_some]; done), by repeat (first | (with_reducible first | exact HB.out | apply bl | apply pN | apply b1 | refine bs ?_ GE342.out | refine bs ?_ GE360.out | refine bs ?_ GE361.out) | exact HB.out | exact HBo.out)⟩
       ·
        rw [if_neg c46] at H
        have c46b0 : ((l2.length : Int) == 0) = false := beq_eq_false_iff_ne.mpr c46
        have c46b1 : ((l2.length : Int) != 0) = true := bne_iff_ne.mpr c46
        have c46b2 : ¬ (l2 = []) := fun h_ => c46 (by rw [h_]; rfl)
        replace H := ob H
        obtain ⟨⟨t362, t365, t368, t369⟩, A560, H⟩ := H
        replace H : (if t359 = true then (if t369 = 0 then (if (t362.length : Int) = (l2.length : Int) then ((shuttlecockref01_Ints.f k2 t365 l1).bind fun t370 => (if t370 = true then (if (!(t355 == a0) || (!(t356 == 0) || (!(t357 == 0) || (!(t358.toList == ([] : List UInt8)))))) = true then (shuttlecocklaw19_BufBack.j2 k2 l2 t362 true) else (shuttlecocklaw19_BufBack.j2 k2 l2 t362 (t352 != (wrap64 (a0 + 1))))) else (shuttlecocklaw19_BufBack.j2 k2 l2 t362 true))) else (shuttlecocklaw19_BufBack.j2 k2 l2 t362 true)) else (shuttlecocklaw19_BufBack.j2 k2 l2 t362 true)) else (shuttlecocklaw19_BufBack.j2 k2 l2 t362 true)) = some r := H
        have A56 := Am A560
        clear A560
        have HC57 := Am H
        clear H
        have hcz58_0 : wr.cell? ⟨gb342, 0, none⟩ = some (.int .i64 x343000_2) := (bc BK342.out 0).trans rfl
        have hcz58_1 : wr.cell? ⟨gb342, 1, none⟩ = some (.int .i64 x343001_2) := (bc BK342.out 1).trans rfl
        have hcz58_2 : wr.cell? ⟨gb342, 2, none⟩ = some (.int .i64 x343002_2) := (bc BK342.out 2).trans rfl
        have hcz58_3 : wr.cell? ⟨gb342, 3, none⟩ = some (.string x343003_2) := (bc BK342.out 3).trans rfl
        have hfz58_0 := bf BK342.out 0
        have hfz58_1 := bf BK342.out 1
        have hfz58_2 := bf BK342.out 2
        have hfz58_3 := bf BK342.out 3
        go_upto_region 15 with (first | ((with_reducible refine gate_callee (f := 12) rfl ?_); refine goesL_ (some 69) rfl rfl Try.func12 (by kernel_rfl) rfl #[.agg #[.int .i64 x343000_2, .int .i64 x343001_2, .int .i64 x343002_2, .string x343003_2], .int .i64 1] rfl (by (try simp only [List.map_toArray, List.map_cons, List.map_nil]); first | done | rfl | (simp only [List.length_drop, List.length_take]; rfl)) ?_; (with_reducible refine (buf_Seal.calls x343000_2 x343001_2 x343002_2 x343003_2 1 t351 t352 t353 t354 t355 t356 t357 t358 t359 _ A45.out).mono ?_); rintro e w59 ⟨rfl, hb⟩; refine ⟨_, rfl, ?_⟩; have n0_ := Am (blk_below (g := gb342) (o := .cells #[.int .i64 x343000_2, .int .i64 x343001_2, .int .i64 x343002_2, .string x343003_2] 23 (0, 0)) (by (with_reducible repeat (first | refine bn ?_ _ | refine bd ?_ | refine ba ?_ _)); exact BK342.out) hb); have n1_ := Am (below_step (by repeat (first | (with_reducible first | exact HB.out | apply bl | apply pN | apply b1 | refine bs ?_ GE342.out) | exact HB.out | exact HBo.out)) hb); clear BK342; clear HB; have BK342 := n0_; have HB := n1_; clear n0_ n1_; (try clear hb); (try clear hb2); (try clear hk); (try clear hi)) | ((with_reducible refine gate_dst (N := 11) rfl ?_); (try (refine gate_guard (by rfl) ?_; dsimp only)); refine box_event ?hg (N := 11) ?hd (cs := #[.int .i64 0, .int .i64 0, .int .i64 0, .string (⟨#[]⟩ : ByteArray)]) (t := 35) ?hr ?_; (case hd => rfl); (case hg => rfl); (case hr => first | (go_simp; done) | (go_simp; rfl)); intro gb360 hg w60 hbox hb; have n0_ := Am (blk_below (g := gb342) (o := .cells #[.int .i64 x343000_2, .int .i64 x343001_2, .int .i64 x343002_2, .string x343003_2] 23 (0, 0)) (by (with_reducible repeat (first | refine bn ?_ _ | refine bd ?_ | refine ba ?_ _)); exact BK342.out) hb); have n1_ := Am (below_step (by repeat (first | (with_reducible first | exact HB.out | apply bl | apply pN | apply b1 | refine bs ?_ GE342.out) | exact HB.out | exact HBo.out)) hb); have n2_ := Am (hbox); have n3_ := Am ((by rw [hg]; exact (below_size (by repeat (first | (with_reducible first | exact HB.out | apply bl | apply pN | apply b1 | refine bs ?_ GE342.out) | exact HB.out | exact HBo.out))) : w.heap.size ≤ gb360)); have n4_ := Am ((by rw [hg]; exact (below_size (by repeat (first | (with_reducible first | exact HB.out | apply bl | apply pN | apply b1 | refine bs ?_ GE342.out) | exact HB.out | exact HBo.out))) : w.heap.size ≤ gb360)); have n5_ := Am ((by rw [hg]; exact Nat.ne_of_lt (blk_lt (g := gb342) (o := .cells #[.int .i64 x343000_2, .int .i64 x343001_2, .int .i64 x343002_2, .string x343003_2] 23 (0, 0)) (by (with_reducible repeat (first | refine bn ?_ _ | refine bd ?_ | refine ba ?_ _)); exact BK342.out)) : gb342 ≠ gb360)); have n6_ := Am ((by rw [hg]; exact Nat.ne_of_gt (blk_lt (g := gb342) (o := .cells #[.int .i64 x343000_2, .int .i64 x343001_2, .int .i64 x343002_2, .string x343003_2] 23 (0, 0)) (by (with_reducible repeat (first | refine bn ?_ _ | refine bd ?_ | refine ba ?_ _)); exact BK342.out)) : gb360 ≠ gb342)); clear BK342; clear HB; have BK342 := n0_; have HB := n1_; have BK360 := n2_; have GW360 := n3_; have GE360 := n4_; have NB342_360 := n5_; have NB360_342 := n6_; clear n0_ n1_ n2_ n3_ n4_ n5_ n6_; clear hb hbox hg) | ((with_reducible refine gate_dst (N := 12) rfl ?_); (try (refine gate_guard (by rfl) ?_; dsimp only)); refine box_event ?hg (N := 12) ?hd (cs := #[.int .i64 0, .int .i64 0, .int .i64 0, .string (⟨#[]⟩ : ByteArray)]) (t := 23) ?hr ?_; (case hd => rfl); (case hg => rfl); (case hr => first | (go_simp; done) | (go_simp; rfl)); intro gb361 hg w61 hbox hb; have n0_ := Am (blk_below (g := gb342) (o := .cells #[.int .i64 x343000_2, .int .i64 x343001_2, .int .i64 x343002_2, .string x343003_2] 23 (0, 0)) (by (with_reducible repeat (first | refine bn ?_ _ | refine bd ?_ | refine ba ?_ _)); exact BK342.out) hb); have n1_ := Am (blk_below (g := gb360) (o := .cells #[.int .i64 0, .int .i64 0, .int .i64 0, .string (⟨#[]⟩ : ByteArray)] 35 (0, 0)) (by (with_reducible repeat (first | refine bn ?_ _ | refine bd ?_ | refine ba ?_ _)); exact BK360.out) hb); have n2_ := Am (below_step (by repeat (first | (with_reducible first | exact HB.out | apply bl | apply pN | apply b1 | refine bs ?_ GE342.out | refine bs ?_ GE360.out) | exact HB.out | exact HBo.out)) hb); have n3_ := Am (hbox); have n4_ := Am ((by rw [hg]; exact (below_size (by repeat (first | (with_reducible first | exact HB.out | apply bl | apply pN | apply b1 | refine bs ?_ GE342.out | refine bs ?_ GE360.out) | exact HB.out | exact HBo.out))) : w.heap.size ≤ gb361)); have n5_ := Am ((by rw [hg]; exact (below_size (by repeat (first | (with_reducible first | exact HB.out | apply bl | apply pN | apply b1 | refine bs ?_ GE342.out | refine bs ?_ GE360.out) | exact HB.out | exact HBo.out))) : w.heap.size ≤ gb361)); have n6_ := Am ((by rw [hg]; exact Nat.ne_of_lt (blk_lt (g := gb342) (o := .cells #[.int .i64 x343000_2, .int .i64 x343001_2, .int .i64 x343002_2, .string x343003_2] 23 (0, 0)) (by (with_reducible repeat (first | refine bn ?_ _ | refine bd ?_ | refine ba ?_ _)); exact BK342.out)) : gb342 ≠ gb361)); have n7_ := Am ((by rw [hg]; exact Nat.ne_of_gt (blk_lt (g := gb342) (o := .cells #[.int .i64 x343000_2, .int .i64 x343001_2, .int .i64 x343002_2, .string x343003_2] 23 (0, 0)) (by (with_reducible repeat (first | refine bn ?_ _ | refine bd ?_ | refine ba ?_ _)); exact BK342.out)) : gb361 ≠ gb342)); have n8_ := Am ((by rw [hg]; exact Nat.ne_of_lt (blk_lt (g := gb360) (o := .cells #[.int .i64 0, .int .i64 0, .int .i64 0, .string (⟨#[]⟩ : ByteArray)] 35 (0, 0)) (by (with_reducible repeat (first | refine bn ?_ _ | refine bd ?_ | refine ba ?_ _)); exact BK360.out)) : gb360 ≠ gb361)); have n9_ := Am ((by rw [hg]; exact Nat.ne_of_gt (blk_lt (g := gb360) (o := .cells #[.int .i64 0, .int .i64 0, .int .i64 0, .string (⟨#[]⟩ : ByteArray)] 35 (0, 0)) (by (with_reducible repeat (first | refine bn ?_ _ | refine bd ?_ | refine ba ?_ _)); exact BK360.out)) : gb361 ≠ gb360)); clear BK342; clear BK360; clear HB; have BK342 := n0_; have BK360 := n1_; have HB := n2_; have BK361 := n3_; have GW361 := n4_; have GE361 := n5_; have NB342_361 := n6_; have NB361_342 := n7_; have NB360_361 := n8_; have NB361_360 := n9_; clear n0_ n1_ n2_ n3_ n4_ n5_ n6_ n7_ n8_ n9_; clear hb hbox hg; have hnb62 := NB360_342.out; have hnc62 := NB342_360.out; have hnb63 := NB360_361.out; have hnc63 := NB361_360.out; have hcz64_0 : w61.cell? ⟨gb360, 0, none⟩ = some (.int .i64 0) := (bc BK360.out 0).trans rfl; have hcz64_1 : w61.cell? ⟨gb360, 1, none⟩ = some (.int .i64 0) := (bc BK360.out 1).trans rfl; have hcz64_2 : w61.cell? ⟨gb360, 2, none⟩ = some (.int .i64 0) := (bc BK360.out 2).trans rfl; have hcz64_3 : w61.cell? ⟨gb360, 3, none⟩ = some (.string (⟨#[]⟩ : ByteArray)) := (bc BK360.out 3).trans rfl; have hfz64_0 := bf BK360.out 0; have hfz64_1 := bf BK360.out 1; have hfz64_2 := bf BK360.out 2; have hfz64_3 := bf BK360.out 3; have hnb65 := NB361_342.out; have hnc65 := NB342_361.out; have hcz66_0 : w61.cell? ⟨gb361, 0, none⟩ = some (.int .i64 0) := (bc BK361.out 0).trans rfl; have hcz66_1 : w61.cell? ⟨gb361, 1, none⟩ = some (.int .i64 0) := (bc BK361.out 1).trans rfl; have hcz66_2 : w61.cell? ⟨gb361, 2, none⟩ = some (.int .i64 0) := (bc BK361.out 2).trans rfl; have hcz66_3 : w61.cell? ⟨gb361, 3, none⟩ = some (.string (⟨#[]⟩ : ByteArray)) := (bc BK361.out 3).trans rfl; have hfz66_0 := bf BK361.out 0; have hfz66_1 := bf BK361.out 1; have hfz66_2 := bf BK361.out 2; have hfz66_3 := bf BK361.out 3) | ((with_reducible refine gate_callee (f := 15) rfl ?_); refine goesL_ (some 80) rfl rfl Try.func15 (by kernel_rfl) rfl #[.agg #[.int .i64 t351, .int .i64 t352, .int .i64 t353, .string t354]] rfl (by (try simp only [List.map_toArray, List.map_cons, List.map_nil]); first | done | rfl | (simp only [List.length_drop, List.length_take]; rfl)) ?_; (with_reducible refine (shuttlecockref05_Events.calls k2 t351 t352 t353 t354 t362 t365 t368 t369 _ A56.out).mono ?_); rintro e w67 ⟨v363, v366, rfl, ho0, ho1, hb⟩; refine ⟨_, rfl, ?_⟩; have n0_ := Am (Kd.S_lower ho0 (below_size (by repeat (first | (with_reducible first | exact HB.out | apply bl | apply pN | apply b1 | refine bs ?_ GE342.out | refine bs ?_ GE360.out | refine bs ?_ GE361.out) | exact HB.out | exact HBo.out)))); have n1_ := Am (Kd.R_lower ho1 (below_size (by repeat (first | (with_reducible first | exact HB.out | apply bl | apply pN | apply b1 | refine bs ?_ GE342.out | refine bs ?_ GE360.out | refine bs ?_ GE361.out) | exact HB.out | exact HBo.out)))); have n2_ := Am (blk_below (g := gb342) (o := .cells #[.int .i64 x343000_2, .int .i64 x343001_2, .int .i64 x343002_2, .string x343003_2] 23 (0, 0)) (by (with_reducible repeat (first | refine bn ?_ _ | refine bd ?_ | refine ba ?_ _)); refine blk_far ?_ NB342_361.out _; (with_reducible repeat (first | refine bn ?_ _ | refine bd ?_ | refine ba ?_ _)); refine blk_far ?_ NB342_361.out _; (with_reducible repeat (first | refine bn ?_ _ | refine bd ?_ | refine ba ?_ _)); refine blk_far ?_ NB342_361.out _; (with_reducible repeat (first | refine bn ?_ _ | refine bd ?_ | refine ba ?_ _)); refine blk_far ?_ NB342_361.out _; (with_reducible repeat (first | refine bn ?_ _ | refine bd ?_ | refine ba ?_ _)); refine blk_far ?_ NB342_360.out _; (with_reducible repeat (first | refine bn ?_ _ | refine bd ?_ | refine ba ?_ _)); refine blk_far ?_ NB342_360.out _; (with_reducible repeat (first | refine bn ?_ _ | refine bd ?_ | refine ba ?_ _)); refine blk_far ?_ NB342_360.out _; (with_reducible repeat (first | refine bn ?_ _ | refine bd ?_ | refine ba ?_ _)); refine blk_far ?_ NB342_360.out _; (with_reducible repeat (first | refine bn ?_ _ | refine bd ?_ | refine ba ?_ _)); exact BK342.out) hb); have n3_ := Am (blk_below (g := gb360) (o := .cells #[.int .i64 t351, .int .i64 t352, .int .i64 t353, .string t354] 35 (0, 0)) (by (with_reducible repeat (first | refine bn ?_ _ | refine bd ?_ | refine ba ?_ _)); refine blk_far ?_ NB360_361.out _; (with_reducible repeat (first | refine bn ?_ _ | refine bd ?_ | refine ba ?_ _)); refine blk_far ?_ NB360_361.out _; (with_reducible repeat (first | refine bn ?_ _ | refine bd ?_ | refine ba ?_ _)); refine blk_far ?_ NB360_361.out _; (with_reducible repeat (first | refine bn ?_ _ | refine bd ?_ | refine ba ?_ _)); refine blk_far ?_ NB360_361.out _; (with_reducible repeat (first | refine bn ?_ _ | refine bd ?_ | refine ba ?_ _)); refine blk_put (cs := #[.int .i64 t351, .int .i64 t352, .int .i64 t353, .string (⟨#[]⟩ : ByteArray)]) ?_ 3 _ rfl; (with_reducible repeat (first | refine bn ?_ _ | refine bd ?_ | refine ba ?_ _)); refine blk_put (cs := #[.int .i64 t351, .int .i64 t352, .int .i64 0, .string (⟨#[]⟩ : ByteArray)]) ?_ 2 _ rfl; (with_reducible repeat (first | refine bn ?_ _ | refine bd ?_ | refine ba ?_ _)); refine blk_put (cs := #[.int .i64 t351, .int .i64 0, .int .i64 0, .string (⟨#[]⟩ : ByteArray)]) ?_ 1 _ rfl; (with_reducible repeat (first | refine bn ?_ _ | refine bd ?_ | refine ba ?_ _)); refine blk_put (cs := #[.int .i64 0, .int .i64 0, .int .i64 0, .string (⟨#[]⟩ : ByteArray)]) ?_ 0 _ rfl; (with_reducible repeat (first | refine bn ?_ _ | refine bd ?_ | refine ba ?_ _)); exact BK360.out) hb); have n4_ := Am (blk_below (g := gb361) (o := .cells #[.int .i64 t355, .int .i64 t356, .int .i64 t357, .string t358] 23 (0, 0)) (by (with_reducible repeat (first | refine bn ?_ _ | refine bd ?_ | refine ba ?_ _)); refine blk_put (cs := #[.int .i64 t355, .int .i64 t356, .int .i64 t357, .string (⟨#[]⟩ : ByteArray)]) ?_ 3 _ rfl; (with_reducible repeat (first | refine bn ?_ _ | refine bd ?_ | refine ba ?_ _)); refine blk_put (cs := #[.int .i64 t355, .int .i64 t356, .int .i64 0, .string (⟨#[]⟩ : ByteArray)]) ?_ 2 _ rfl; (with_reducible repeat (first | refine bn ?_ _ | refine bd ?_ | refine ba ?_ _)); refine blk_put (cs := #[.int .i64 t355, .int .i64 0, .int .i64 0, .string (⟨#[]⟩ : ByteArray)]) ?_ 1 _ rfl; (with_reducible repeat (first | refine bn ?_ _ | refine bd ?_ | refine ba ?_ _)); refine blk_put (cs := #[.int .i64 0, .int .i64 0, .int .i64 0, .string (⟨#[]⟩ : ByteArray)]) ?_ 0 _ rfl; (with_reducible repeat (first | refine bn ?_ _ | refine bd ?_ | refine ba ?_ _)); refine blk_far ?_ NB361_360.out _; (with_reducible repeat (first | refine bn ?_ _ | refine bd ?_ | refine ba ?_ _)); refine blk_far ?_ NB361_360.out _; (with_reducible repeat (first | refine bn ?_ _ | refine bd ?_ | refine ba ?_ _)); refine blk_far ?_ NB361_360.out _; (with_reducible repeat (first | refine bn ?_ _ | refine bd ?_ | refine ba ?_ _)); refine blk_far ?_ NB361_360.out _; (with_reducible repeat (first | refine bn ?_ _ | refine bd ?_ | refine ba ?_ _)); exact BK361.out) hb); have n5_ := Am (below_step (by repeat (first | (with_reducible first | exact HB.out | apply bl | apply pN | apply b1 | refine bs ?_ GE342.out | refine bs ?_ GE360.out | refine bs ?_ GE361.out) | exact HB.out | exact HBo.out)) hb); clear BK342; clear BK360; clear BK361; clear HB; have HO364 := n0_; have HO367 := n1_; have BK342 := n2_; have BK360 := n3_; have BK361 := n4_; have HB := n5_; clear n0_ n1_ n2_ n3_ n4_ n5_; (try clear hb); (try clear hb2); (try clear hk); (try clear hi); (try clear ho0); (try clear ho1)))
        (try simp only [Act.put, sI, sZ, sS])
        go_cut [116] (fun v116 wc => ∃ (kq : Nat) (x116_56 : Bool), v116 = .bool x116_56 ∧ Aside0 (shuttlecocklaw19_BufBack.j2 kq l2 t362 x116_56 = some r) ∧ Aside0 (kq ≤ k2) ∧ Aside0 (Kd.S k28 28 wc w.heap.size (fun _ => True) v363 t362) ∧ Aside0 (wc.heap[gb342]? = some (.cells #[.int .i64 x343000_2, .int .i64 x343001_2, .int .i64 x343002_2, .string x343003_2] 23 (0, 0))) ∧ Aside0 (wc.heap[gb360]? = some (.cells #[.int .i64 t351, .int .i64 t352, .int .i64 t353, .string t354] 35 (0, 0))) ∧ Aside0 (wc.heap[gb361]? = some (.cells #[.int .i64 t355, .int .i64 t356, .int .i64 t357, .string t358] 23 (0, 0))) ∧ Aside0 (Below w.heap.size w wc))
        case first =>
         have H := HC57.out
         clear HC57
         by_cases c68 : t359 = true
         ·
          subst c68
          have H1 : (if t369 = 0 then (if (t362.length : Int) = (l2.length : Int) then ((shuttlecockref01_Ints.f k2 t365 l1).bind fun t370 => (if t370 = true then (if (!(t355 == a0) || (!(t356 == 0) || (!(t357 == 0) || (!(t358.toList == ([] : List UInt8)))))) = true then (shuttlecocklaw19_BufBack.j2 k2 l2 t362 true) else (shuttlecocklaw19_BufBack.j2 k2 l2 t362 (t352 != (wrap64 (a0 + 1))))) else (shuttlecocklaw19_BufBack.j2 k2 l2 t362 true))) else (shuttlecocklaw19_BufBack.j2 k2 l2 t362 true)) else (shuttlecocklaw19_BufBack.j2 k2 l2 t362 true)) = some r := by rw [if_pos rfl] at H; exact H
          clear H
          have H := H1
          clear H1
          by_cases c69 : t369 = 0
          ·
           rw [if_pos c69] at H
           have c69b0 : (t369 == 0) = true := beq_iff_eq.mpr c69
           have c69b1 : (t369 != 0) = false := bne_eq_false_iff_eq.mpr c69
           clear c69
           (first | rw [c69b0] | (simp only [i64_w, i32_w]; rw [c69b0]) | skip)
           by_cases c70 : (t362.length : Int) = (l2.length : Int)
           ·
            rw [if_pos c70] at H
            have c70b0 : ((t362.length : Int) == (l2.length : Int)) = true := beq_iff_eq.mpr c70
            have c70b1 : ((t362.length : Int) != (l2.length : Int)) = false := bne_eq_false_iff_eq.mpr c70
            have c70b2 : (t362.length == l2.length) = true := by first | simpa using c70 | (simp at c70 ⊢; omega)
            clear c70
            replace H := ob H
            obtain ⟨t370, A710, H⟩ := H
            replace H : (if t370 = true then (if (!(t355 == a0) || (!(t356 == 0) || (!(t357 == 0) || (!(t358.toList == ([] : List UInt8)))))) = true then (shuttlecocklaw19_BufBack.j2 k2 l2 t362 true) else (shuttlecocklaw19_BufBack.j2 k2 l2 t362 (t352 != (wrap64 (a0 + 1))))) else (shuttlecocklaw19_BufBack.j2 k2 l2 t362 true)) = some r := H
            have A71 := Am A710
            clear A710
            by_cases c72 : t370 = true
            ·
             subst c72
             have H1 : (if (!(t355 == a0) || (!(t356 == 0) || (!(t357 == 0) || (!(t358.toList == ([] : List UInt8)))))) = true then (shuttlecocklaw19_BufBack.j2 k2 l2 t362 true) else (shuttlecocklaw19_BufBack.j2 k2 l2 t362 (t352 != (wrap64 (a0 + 1))))) = some r := by rw [if_pos rfl] at H; exact H
             clear H
             have H := H1
             clear H1
             by_cases c73 : (!(t355 == a0) || (!(t356 == 0) || (!(t357 == 0) || (!(t358.toList == ([] : List UInt8)))))) = true
             ·
              rw [if_pos c73] at H
              have c73b0 : (!(t355 == a0) || (!(t356 == 0) || (!(t357 == 0) || (!(t358.toList == ([] : List UInt8)))))) = true := c73
              try have c73b6 : (¬ t355 = a0 ∨ ¬ t356 = 0 ∨ ¬ t357 = 0 ∨ ¬ t358.toList = ([] : List UInt8)) = True := eq_true (by first | (simpa using c73) | exact Classical.byContradiction (fun hh_ => by simp only [not_or, Classical.not_not] at hh_; simp [hh_] at c73))
              try have c73b7 : (t355 = a0 ∧ t356 = 0 ∧ t357 = 0 ∧ t358.toList = ([] : List UInt8)) = False := eq_false (by first | (intro hh_; simp [hh_] at c73; done) | simpa using c73)
              clear c73
              have H' := Am H
              clear H
              obtain ⟨Ao74, co74, eo74⟩ := Kd.S_slice HO364.out
              subst eo74
              obtain ⟨Ao75, co75, eo75⟩ := Kd.R_slice HO367.out
              subst eo75
              go_wp2_with (first | (go_at_call 16; (with_reducible refine (shuttlecockref01_Ints.calls k2 _ _ t365 _ _ l1 true _ ?side1 ?side2 ?side3 ?side4 A71.out).mono ?_); (case side1 => repeat (first | exact (Kd.R_reads' HO367.out).2.2 | (with_reducible refine Kd.C_alloc ?_ _) | (with_reducible refine Kd.C_drewN ?_ _) | (with_reducible refine Kd.C_drew ?_))); (case side2 => exact (Kd.R_reads' HO367.out).2.1); (case side3 => repeat (first | exact (Kd.C_below HR1.out HB.out) | (with_reducible refine Kd.C_alloc ?_ _) | (with_reducible refine Kd.C_drewN ?_ _) | (with_reducible refine Kd.C_drew ?_))); (case side4 => exact HC1.out); rintro e w' ⟨rfl, ⟨nd, rfl⟩⟩; have hnb76 := NB361_342.out; have hnc76 := NB342_361.out; have hnb77 := NB361_360.out; have hnc77 := NB360_361.out; have hcz78_0 : w67.cell? ⟨gb361, 0, none⟩ = some (.int .i64 t355) := (bc BK361.out 0).trans rfl; have hcz78_1 : w67.cell? ⟨gb361, 1, none⟩ = some (.int .i64 t356) := (bc BK361.out 1).trans rfl; have hcz78_2 : w67.cell? ⟨gb361, 2, none⟩ = some (.int .i64 t357) := (bc BK361.out 2).trans rfl; have hcz78_3 : w67.cell? ⟨gb361, 3, none⟩ = some (.string t358) := (bc BK361.out 3).trans rfl; have hfz78_0 := bf BK361.out 0; have hfz78_1 := bf BK361.out 1; have hfz78_2 := bf BK361.out 2; have hfz78_3 := bf BK361.out 3))
              go_meet
              case rel => exact ⟨_, (true), (by first | rfl | (simp; done) | (simp [*]; done)), H', ⟨by have := HJ3.out; have := HK2.out; first | omega | exact Nat.le_refl _⟩, ⟨by (with_reducible repeat (first | apply Kd.S_alloc | apply Kd.S_drewN | apply Kd.S_drew)); exact Kd.S_mono HO364.out (fun _ hk => trivial)⟩, ⟨by (with_reducible repeat (first | refine bn ?_ _ | refine bd ?_ | refine ba ?_ _)); exact BK342.out⟩, ⟨by (with_reducible repeat (first | refine bn ?_ _ | refine bd ?_ | refine ba ?_ _)); exact BK360.out⟩, ⟨by (with_reducible repeat (first | refine bn ?_ _ | refine bd ?_ | refine ba ?_ _)); exact BK361.out⟩, ⟨by repeat (first | (with_reducible first | exact HB.out | apply bl | apply pN | apply b1 | refine bs ?_ GE342.out | refine bs ?_ GE360.out | refine bs ?_ GE361.out) | exact HB.out | exact HBo.out)⟩⟩
             ·
              rw [if_neg c73] at H
              have c73b0 : (!(t355 == a0) || (!(t356 == 0) || (!(t357 == 0) || (!(t358.toList == ([] : List UInt8)))))) = false := by simpa using c73
              try have c73b6 : (¬ t355 = a0 ∨ ¬ t356 = 0 ∨ ¬ t357 = 0 ∨ ¬ t358.toList = ([] : List UInt8)) = False := eq_false (by simpa using c73)
              try have c73b7 : (t355 = a0 ∧ t356 = 0 ∧ t357 = 0 ∧ t358.toList = ([] : List UInt8)) = True := eq_true (by simpa using c73)
              clear c73
              have H' := Am H
              clear H
              obtain ⟨Ao79, co79, eo79⟩ := Kd.S_slice HO364.out
              subst eo79
              obtain ⟨Ao80, co80, eo80⟩ := Kd.R_slice HO367.out
              subst eo80
              go_wp2_with (first | (go_at_call 16; (with_reducible refine (shuttlecockref01_Ints.calls k2 _ _ t365 _ _ l1 true _ ?side1 ?side2 ?side3 ?side4 A71.out).mono ?_); (case side1 => repeat (first | exact (Kd.R_reads' HO367.out).2.2 | (with_reducible refine Kd.C_alloc ?_ _) | (with_reducible refine Kd.C_drewN ?_ _) | (with_reducible refine Kd.C_drew ?_))); (case side2 => exact (Kd.R_reads' HO367.out).2.1); (case side3 => repeat (first | exact (Kd.C_below HR1.out HB.out) | (with_reducible refine Kd.C_alloc ?_ _) | (with_reducible refine Kd.C_drewN ?_ _) | (with_reducible refine Kd.C_drew ?_))); (case side4 => exact HC1.out); rintro e w' ⟨rfl, ⟨nd, rfl⟩⟩; have hnb81 := NB361_342.out; have hnc81 := NB342_361.out; have hnb82 := NB361_360.out; have hnc82 := NB360_361.out; have hcz83_0 : w67.cell? ⟨gb361, 0, none⟩ = some (.int .i64 t355) := (bc BK361.out 0).trans rfl; have hcz83_1 : w67.cell? ⟨gb361, 1, none⟩ = some (.int .i64 t356) := (bc BK361.out 1).trans rfl; have hcz83_2 : w67.cell? ⟨gb361, 2, none⟩ = some (.int .i64 t357) := (bc BK361.out 2).trans rfl; have hcz83_3 : w67.cell? ⟨gb361, 3, none⟩ = some (.string t358) := (bc BK361.out 3).trans rfl; have hfz83_0 := bf BK361.out 0; have hfz83_1 := bf BK361.out 1; have hfz83_2 := bf BK361.out 2; have hfz83_3 := bf BK361.out 3; have hnb84 := NB360_342.out; have hnc84 := NB342_360.out; have hcz85_0 : w67.cell? ⟨gb360, 0, none⟩ = some (.int .i64 t351) := (bc BK360.out 0).trans rfl; have hcz85_1 : w67.cell? ⟨gb360, 1, none⟩ = some (.int .i64 t352) := (bc BK360.out 1).trans rfl; have hcz85_2 : w67.cell? ⟨gb360, 2, none⟩ = some (.int .i64 t353) := (bc BK360.out 2).trans rfl; have hcz85_3 : w67.cell? ⟨gb360, 3, none⟩ = some (.string t354) := (bc BK360.out 3).trans rfl; have hfz85_0 := bf BK360.out 0; have hfz85_1 := bf BK360.out 1; have hfz85_2 := bf BK360.out 2; have hfz85_3 := bf BK360.out 3))
              go_meet
              case rel => exact ⟨_, ((t352 != (wrap64 (a0 + 1)))), (by first | rfl | (simp; done) | (simp [*]; done)), H', ⟨by have := HJ3.out; have := HK2.out; first | omega | exact Nat.le_refl _⟩, ⟨by (with_reducible repeat (first | apply Kd.S_alloc | apply Kd.S_drewN | apply Kd.S_drew)); exact Kd.S_mono HO364.out (fun _ hk => trivial)⟩, ⟨by (with_reducible repeat (first | refine bn ?_ _ | refine bd ?_ | refine ba ?_ _)); exact BK342.out⟩, ⟨by (with_reducible repeat (first | refine bn ?_ _ | refine bd ?_ | refine ba ?_ _)); exact BK360.out⟩, ⟨by (with_reducible repeat (first | refine bn ?_ _ | refine bd ?_ | refine ba ?_ _)); exact BK361.out⟩, ⟨by repeat (first | (with_reducible first | exact HB.out | apply bl | apply pN | apply b1 | refine bs ?_ GE342.out | refine bs ?_ GE360.out | refine bs ?_ GE361.out) | exact HB.out | exact HBo.out)⟩⟩
            ·
             replace c72 := Bool.eq_false_iff.mpr c72
             subst c72
             have H1 : (shuttlecocklaw19_BufBack.j2 k2 l2 t362 true) = some r := by rw [if_neg (show ¬ (false = true) by decide)] at H; exact H
             clear H
             have H := H1
             clear H1
             have H' := Am H
             clear H
             obtain ⟨Ao86, co86, eo86⟩ := Kd.S_slice HO364.out
             subst eo86
             obtain ⟨Ao87, co87, eo87⟩ := Kd.R_slice HO367.out
             subst eo87
             go_wp2_with (first | (go_at_call 16; (with_reducible refine (shuttlecockref01_Ints.calls k2 _ _ t365 _ _ l1 false _ ?side1 ?side2 ?side3 ?side4 A71.out).mono ?_); (case side1 => repeat (first | exact (Kd.R_reads' HO367.out).2.2 | (with_reducible refine Kd.C_alloc ?_ _) | (with_reducible refine Kd.C_drewN ?_ _) | (with_reducible refine Kd.C_drew ?_))); (case side2 => exact (Kd.R_reads' HO367.out).2.1); (case side3 => repeat (first | exact (Kd.C_below HR1.out HB.out) | (with_reducible refine Kd.C_alloc ?_ _) | (with_reducible refine Kd.C_drewN ?_ _) | (with_reducible refine Kd.C_drew ?_))); (case side4 => exact HC1.out); rintro e w' ⟨rfl, ⟨nd, rfl⟩⟩))
             go_meet
             case rel => exact ⟨_, (true), (by first | rfl | (simp; done) | (simp [*]; done)), H', ⟨by have := HJ3.out; have := HK2.out; first | omega | exact Nat.le_refl _⟩, ⟨by (with_reducible repeat (first | apply Kd.S_alloc | apply Kd.S_drewN | apply Kd.S_drew)); exact Kd.S_mono HO364.out (fun _ hk => trivial)⟩, ⟨by (with_reducible repeat (first | refine bn ?_ _ | refine bd ?_ | refine ba ?_ _)); exact BK342.out⟩, ⟨by (with_reducible repeat (first | refine bn ?_ _ | refine bd ?_ | refine ba ?_ _)); exact BK360.out⟩, ⟨by (with_reducible repeat (first | refine bn ?_ _ | refine bd ?_ | refine ba ?_ _)); exact BK361.out⟩, ⟨by repeat (first | (with_reducible first | exact HB.out | apply bl | apply pN | apply b1 | refine bs ?_ GE342.out | refine bs ?_ GE360.out | refine bs ?_ GE361.out) | exact HB.out | exact HBo.out)⟩⟩
           ·
            rw [if_neg c70] at H
            have c70b0 : ((t362.length : Int) == (l2.length : Int)) = false := beq_eq_false_iff_ne.mpr c70
            have c70b1 : ((t362.length : Int) != (l2.length : Int)) = true := bne_iff_ne.mpr c70
            have c70b2 : (t362.length == l2.length) = false := by first | simpa using c70 | (simp at c70 ⊢; omega)
            have H' := Am H
            clear H
            obtain ⟨Ao88, co88, eo88⟩ := Kd.S_slice HO364.out
            subst eo88
            go_wp2
            go_meet
            case rel => exact ⟨_, (true), (by first | rfl | (simp; done) | (simp [*]; done)), H', ⟨by have := HJ3.out; have := HK2.out; first | omega | exact Nat.le_refl _⟩, ⟨by (with_reducible repeat (first | apply Kd.S_alloc | apply Kd.S_drewN | apply Kd.S_drew)); exact Kd.S_mono HO364.out (fun _ hk => trivial)⟩, ⟨by (with_reducible repeat (first | refine bn ?_ _ | refine bd ?_ | refine ba ?_ _)); exact BK342.out⟩, ⟨by (with_reducible repeat (first | refine bn ?_ _ | refine bd ?_ | refine ba ?_ _)); exact BK360.out⟩, ⟨by (with_reducible repeat (first | refine bn ?_ _ | refine bd ?_ | refine ba ?_ _)); exact BK361.out⟩, ⟨by repeat (first | (with_reducible first | exact HB.out | apply bl | apply pN | apply b1 | refine bs ?_ GE342.out | refine bs ?_ GE360.out | refine bs ?_ GE361.out) | exact HB.out | exact HBo.out)⟩⟩
          ·
           rw [if_neg c69] at H
           have c69b0 : (t369 == 0) = false := beq_eq_false_iff_ne.mpr c69
           have c69b1 : (t369 != 0) = true := bne_iff_ne.mpr c69
           (first | rw [c69b0] | (simp only [i64_w, i32_w]; rw [c69b0]) | skip)
           have H' := Am H
           clear H
           go_wp2
           go_meet
           case rel => exact ⟨_, (true), (by first | rfl | (simp; done) | (simp [*]; done)), H', ⟨by have := HJ3.out; have := HK2.out; first | omega | exact Nat.le_refl _⟩, ⟨by (with_reducible repeat (first | apply Kd.S_alloc | apply Kd.S_drewN | apply Kd.S_drew)); exact Kd.S_mono HO364.out (fun _ hk => trivial)⟩, ⟨by (with_reducible repeat (first | refine bn ?_ _ | refine bd ?_ | refine ba ?_ _)); exact BK342.out⟩, ⟨by (with_reducible repeat (first | refine bn ?_ _ | refine bd ?_ | refine ba ?_ _)); exact BK360.out⟩, ⟨by (with_reducible repeat (first | refine bn ?_ _ | refine bd ?_ | refine ba ?_ _)); exact BK361.out⟩, ⟨by repeat (first | (with_reducible first | exact HB.out | apply bl | apply pN | apply b1 | refine bs ?_ GE342.out | refine bs ?_ GE360.out | refine bs ?_ GE361.out) | exact HB.out | exact HBo.out)⟩⟩
         ·
          replace c68 := Bool.eq_false_iff.mpr c68
          subst c68
          have H1 : (shuttlecocklaw19_BufBack.j2 k2 l2 t362 true) = some r := by rw [if_neg (show ¬ (false = true) by decide)] at H; exact H
          clear H
          have H := H1
          clear H1
          have H' := Am H
          clear H
          go_wp2
          go_meet
          case rel => exact ⟨_, (true), (by first | rfl | (simp; done) | (simp [*]; done)), H', ⟨by have := HJ3.out; have := HK2.out; first | omega | exact Nat.le_refl _⟩, ⟨by (with_reducible repeat (first | apply Kd.S_alloc | apply Kd.S_drewN | apply Kd.S_drew)); exact Kd.S_mono HO364.out (fun _ hk => trivial)⟩, ⟨by (with_reducible repeat (first | refine bn ?_ _ | refine bd ?_ | refine ba ?_ _)); exact BK342.out⟩, ⟨by (with_reducible repeat (first | refine bn ?_ _ | refine bd ?_ | refine ba ?_ _)); exact BK360.out⟩, ⟨by (with_reducible repeat (first | refine bn ?_ _ | refine bd ?_ | refine ba ?_ _)); exact BK361.out⟩, ⟨by repeat (first | (with_reducible first | exact HB.out | apply bl | apply pN | apply b1 | refine bs ?_ GE342.out | refine bs ?_ GE360.out | refine bs ?_ GE361.out) | exact HB.out | exact HBo.out)⟩⟩
        case rest =>
         clear HC57
         try clear c1
         try clear c2
         try clear p2
         try clear c3
         try clear p3
         try clear q3
         try clear hx3
         try clear c4
         try clear c5
         try clear c6
         try clear p6
         try clear c7
         try clear c8
         try clear c10
         try clear c12
         try clear c15
         try clear c21
         try clear c21b0
         try clear c22
         try clear c23
         try clear c25
         try clear c34
         try clear p34
         try clear q34
         try clear hx34
         try clear c46
         try clear c46b0
         try clear c46b1
         try clear c46b2
         try clear c51
         try clear c52
         try clear c54
         try clear c62
         try clear c63
         try clear p64
         try clear c65
         try clear c68
         try clear c69
         try clear c69b0
         try clear c69b1
         try clear c70
         try clear c70b0
         try clear c70b1
         try clear c70b2
         try clear c72
         try clear c73
         try clear c73b0
         try clear c76
         try clear c77
         try clear c81
         try clear c82
         try clear c84
         try clear hcz35_0
         try clear hcz35_1
         try clear hcz35_2
         try clear hcz35_3
         try clear hcz36_0
         try clear hcz36_1
         try clear hcz36_2
         try clear hcz36_3
         try clear hcz47_0
         try clear hcz47_1
         try clear hcz47_2
         try clear hcz47_3
         try clear hcz53_0
         try clear hcz53_1
         try clear hcz53_2
         try clear hcz53_3
         try clear hcz55_0
         try clear hcz55_1
         try clear hcz55_2
         try clear hcz55_3
         try clear hcz58_0
         try clear hcz58_1
         try clear hcz58_2
         try clear hcz58_3
         try clear hcz64_0
         try clear hcz64_1
         try clear hcz64_2
         try clear hcz64_3
         try clear hcz66_0
         try clear hcz66_1
         try clear hcz66_2
         try clear hcz66_3
         try clear hcz78_0
         try clear hcz78_1
         try clear hcz78_2
         try clear hcz78_3
         try clear hcz83_0
         try clear hcz83_1
         try clear hcz83_2
         try clear hcz83_3
         try clear hcz85_0
         try clear hcz85_1
         try clear hcz85_2
         try clear hcz85_3
         try clear hfz35_0
         try clear hfz35_1
         try clear hfz35_2
         try clear hfz35_3
         try clear hfz36_0
         try clear hfz36_1
         try clear hfz36_2
         try clear hfz36_3
         try clear hfz47_0
         try clear hfz47_1
         try clear hfz47_2
         try clear hfz47_3
         try clear hfz53_0
         try clear hfz53_1
         try clear hfz53_2
         try clear hfz53_3
         try clear hfz55_0
         try clear hfz55_1
         try clear hfz55_2
         try clear hfz55_3
         try clear hfz58_0
         try clear hfz58_1
         try clear hfz58_2
         try clear hfz58_3
         try clear hfz64_0
         try clear hfz64_1
         try clear hfz64_2
         try clear hfz64_3
         try clear hfz66_0
         try clear hfz66_1
         try clear hfz66_2
         try clear hfz66_3
         try clear hfz78_0
         try clear hfz78_1
         try clear hfz78_2
         try clear hfz78_3
         try clear hfz83_0
         try clear hfz83_1
         try clear hfz83_2
         try clear hfz83_3
         try clear hfz85_0
         try clear hfz85_1
         try clear hfz85_2
         try clear hfz85_3
         try clear hx343_0
         try clear hx344_0
         try clear hx344_1
         try clear hx344_2
         try clear hx344_3
         try clear p343
         try clear p344
         try clear q343
         try clear q344
         obtain ⟨kq, x116_56, rfl, HA, HJ56, HO_14, BK342, BK360, BK361, HB⟩ := hcut
         cases kq with
         | zero => exact absurd HA.out (by simp [shuttlecocklaw19_BufBack.j2])
         | succ kj56 =>
          have H := HA.out
          clear HA
          simp only [shuttlecocklaw19_BufBack.j2] at H
          by_cases c89 : x116_56 = true
          ·
           subst c89
           have H1 : (none) = some r := by rw [if_pos rfl] at H; exact H
           clear H
           have H := H1
           clear H1
           exact absurd H (by simp)
          ·
           replace c89 := Bool.eq_false_iff.mpr c89
           subst c89
           have H1 : (shuttlecocklaw19_BufBack.l1 kj56 l2 t362 0) = some r := by rw [if_neg (show ¬ (false = true) by decide)] at H; exact H
           clear H
           have H := H1
           clear H1
           have H' := Am H
           clear H
           go_wp2
           go_loopg [18] kj56 (fun kq v18 w' => ∃ (x18_4 : Int), v18 = .int .i64 x18_4 ∧ Aside0 (shuttlecocklaw19_BufBack.l1 kq l2 t362 x18_4 = some r) ∧ Aside0 (kq ≤ kj56) ∧ Aside0 (Kd.S k28 28 w' w.heap.size (fun _ => True) v363 t362) ∧ Aside0 (w'.heap[gb342]? = some (.cells #[.int .i64 x343000_2, .int .i64 x343001_2, .int .i64 x343002_2, .string x343003_2] 23 (0, 0))) ∧ Aside0 (w'.heap[gb360]? = some (.cells #[.int .i64 t351, .int .i64 t352, .int .i64 t353, .string t354] 35 (0, 0))) ∧ Aside0 (w'.heap[gb361]? = some (.cells #[.int .i64 t355, .int .i64 t356, .int .i64 t357, .string t358] 23 (0, 0))) ∧ Aside0 (Below w.heap.size w w'))
           case atStart => exact ⟨(0), (by first | rfl | (simp; done) | (simp [*]; done)), H', ⟨Nat.le_refl _⟩, ⟨by (with_reducible repeat (first | apply Kd.S_alloc | apply Kd.S_drewN | apply Kd.S_drew)); exact HO_14.out⟩, ⟨by (with_reducible repeat (first | refine bn ?_ _ | refine bd ?_ | refine ba ?_ _)); exact BK342.out⟩, ⟨by (with_reducible repeat (first | refine bn ?_ _ | refine bd ?_ | refine ba ?_ _)); exact BK360.out⟩, ⟨by (with_reducible repeat (first | refine bn ?_ _ | refine bd ?_ | refine ba ?_ _)); exact BK361.out⟩, ⟨by repeat (first | (with_reducible first | exact HB.out | apply bl | apply pN | apply b1 | refine bs ?_ GE342.out | refine bs ?_ GE360.out | refine bs ?_ GE361.out) | exact HB.out | exact HBo.out)⟩⟩
           case round =>
            clear H'
            try clear c1
            try clear c2
            try clear p2
            try clear c3
            try clear p3
            try clear q3
            try clear hx3
            try clear c4
            try clear c5
            try clear c6
            try clear p6
            try clear c7
            try clear c8
            try clear c10
            try clear c12
            try clear c15
            try clear c21
            try clear c21b0
            try clear c22
            try clear c23
            try clear c25
            try clear c34
            try clear p34
            try clear q34
            try clear hx34
            try clear c46
            try clear c46b0
            try clear c46b1
            try clear c46b2
            try clear c51
            try clear c52
            try clear c54
            try clear c62
            try clear c63
            try clear p64
            try clear c65
            try clear c68
            try clear c69
            try clear c69b0
            try clear c69b1
            try clear c70
            try clear c70b0
            try clear c70b1
            try clear c70b2
            try clear c72
            try clear c73
            try clear c73b0
            try clear c76
            try clear c77
            try clear c81
            try clear c82
            try clear c84
            try clear c89
            try clear hcz35_0
            try clear hcz35_1
            try clear hcz35_2
            try clear hcz35_3
            try clear hcz36_0
            try clear hcz36_1
            try clear hcz36_2
            try clear hcz36_3
            try clear hcz47_0
            try clear hcz47_1
            try clear hcz47_2
            try clear hcz47_3
            try clear hcz53_0
            try clear hcz53_1
            try clear hcz53_2
            try clear hcz53_3
            try clear hcz55_0
            try clear hcz55_1
            try clear hcz55_2
            try clear hcz55_3
            try clear hcz58_0
            try clear hcz58_1
            try clear hcz58_2
            try clear hcz58_3
            try clear hcz64_0
            try clear hcz64_1
            try clear hcz64_2
            try clear hcz64_3
            try clear hcz66_0
            try clear hcz66_1
            try clear hcz66_2
            try clear hcz66_3
            try clear hcz78_0
            try clear hcz78_1
            try clear hcz78_2
            try clear hcz78_3
            try clear hcz83_0
            try clear hcz83_1
            try clear hcz83_2
            try clear hcz83_3
            try clear hcz85_0
            try clear hcz85_1
            try clear hcz85_2
            try clear hcz85_3
            try clear hfz35_0
            try clear hfz35_1
            try clear hfz35_2
            try clear hfz35_3
            try clear hfz36_0
            try clear hfz36_1
            try clear hfz36_2
            try clear hfz36_3
            try clear hfz47_0
            try clear hfz47_1
            try clear hfz47_2
            try clear hfz47_3
            try clear hfz53_0
            try clear hfz53_1
            try clear hfz53_2
            try clear hfz53_3
            try clear hfz55_0
            try clear hfz55_1
            try clear hfz55_2
            try clear hfz55_3
            try clear hfz58_0
            try clear hfz58_1
            try clear hfz58_2
            try clear hfz58_3
            try clear hfz64_0
            try clear hfz64_1
            try clear hfz64_2
            try clear hfz64_3
            try clear hfz66_0
            try clear hfz66_1
            try clear hfz66_2
            try clear hfz66_3
            try clear hfz78_0
            try clear hfz78_1
            try clear hfz78_2
            try clear hfz78_3
            try clear hfz83_0
            try clear hfz83_1
            try clear hfz83_2
            try clear hfz83_3
            try clear hfz85_0
            try clear hfz85_1
            try clear hfz85_2
            try clear hfz85_3
            try clear hx343_0
            try clear hx344_0
            try clear hx344_1
            try clear hx344_2
            try clear hx344_3
            try clear p2
            try clear p3
            try clear p34
            try clear p343
            try clear p344
            try clear p6
            try clear p64
            try clear q3
            try clear q34
            try clear q343
            try clear q344
            obtain ⟨x18_4, rfl, HA, HK4, HO_14, BK342, BK360, BK361, HB⟩ := hrel
            cases gk with
            | zero => exact absurd HA.out (by simp [shuttlecocklaw19_BufBack.l1])
            | succ k4 =>
             have H := HA.out
             clear HA
             simp only [shuttlecocklaw19_BufBack.l1] at H
             by_cases c90 : x18_4 < (l2.length : Int)
             ·
              rw [if_pos c90] at H
              have c90b0 : decide (x18_4 < (l2.length : Int)) = true := decide_eq_true c90
              clear c90
              by_cases c91 : 0 ≤ x18_4
              ·
               rw [if_pos c91] at H
               have c91b0 : decide (0 ≤ x18_4) = true := decide_eq_true c91
               clear c91
               by_cases c92 : x18_4 < (t362.length : Int)
               ·
                rw [if_pos c92] at H
                have c92b0 : decide (x18_4 < (t362.length : Int)) = true := decide_eq_true c92
                clear c92
                replace H := ob H
                obtain ⟨t375, A930, H⟩ := H
                replace H : (if t375 = true then (shuttlecocklaw19_BufBack.l1 k4 l2 t362 (wrap64 (x18_4 + 1))) else (none)) = some r := H
                have A93 := Am A930
                clear A930
                by_cases c94 : t375 = true
                ·
                 subst c94
                 have H1 : (shuttlecocklaw19_BufBack.l1 k4 l2 t362 (wrap64 (x18_4 + 1))) = some r := by rw [if_pos rfl] at H; exact H
                 clear H
                 have H := H1
                 clear H1
                 have H' := Am H
                 clear H
                 have p371 : 0 ≤ (x18_4 : Int) := of_decide_eq_true (by first | (with_reducible assumption) | assumption)
                 have q371 : x18_4 < (l2.length : Int) := of_decide_eq_true (by first | (with_reducible assumption) | assumption)
                 obtain ⟨ad371, A371_2, c371_2, e371, hx371_0, hx371_1, hx371_2, hx371_3, hl371_2, hi371_2⟩ := at_T28 HR2.out x18_4 p371 q371
                 cases e371
                 replace hx371_0 := (HB.out.cell (World.block_lt_of_cell? w _ hx371_0)).trans hx371_0
                 replace hx371_1 := (HB.out.cell (World.block_lt_of_cell? w _ hx371_1)).trans hx371_1
                 replace hx371_2 := (HB.out.cell (World.block_lt_of_cell? w _ hx371_2)).trans hx371_2
                 replace hx371_3 := (HB.out.cell (World.block_lt_of_cell? w _ hx371_3)).trans hx371_3
                 have HR371_2 := Am hi371_2
                 have HC371_2 := Am hl371_2
                 clear hi371_2 hl371_2
                 replace p371 := eq_true p371
                 replace q371 := eq_true q371
                 try go_wp2_with (first | ((with_reducible refine gate_dst (N := 19) rfl ?_); (try (refine gate_guard (by rfl) ?_; dsimp only)); refine box_event ?hg (N := 19) ?hd (cs := #[.int .i64 0, .int .i64 0, .slice none 0 0, .string (⟨#[]⟩ : ByteArray)]) (t := 28) ?hr ?_; (case hd => rfl); (case hg => rfl); (case hr => first | (go_simp; done) | (go_simp; rfl)); intro gb372 hg w95 hbox hb; have n0_ := Am (Kd.S_below (Kd.S_elderB (by (with_reducible repeat (first | apply Kd.S_alloc | apply Kd.S_drewN | apply Kd.S_drew)); exact HO_14.out) gb372 (Nat.le_of_eq hg.symm)) hb); have n1_ := Am (blk_below (g := gb342) (o := .cells #[.int .i64 x343000_2, .int .i64 x343001_2, .int .i64 x343002_2, .string x343003_2] 23 (0, 0)) (by (with_reducible repeat (first | refine bn ?_ _ | refine bd ?_ | refine ba ?_ _)); exact BK342.out) hb); have n2_ := Am (blk_below (g := gb360) (o := .cells #[.int .i64 t351, .int .i64 t352, .int .i64 t353, .string t354] 35 (0, 0)) (by (with_reducible repeat (first | refine bn ?_ _ | refine bd ?_ | refine ba ?_ _)); exact BK360.out) hb); have n3_ := Am (blk_below (g := gb361) (o := .cells #[.int .i64 t355, .int .i64 t356, .int .i64 t357, .string t358] 23 (0, 0)) (by (with_reducible repeat (first | refine bn ?_ _ | refine bd ?_ | refine ba ?_ _)); exact BK361.out) hb); have n4_ := Am (below_step (by repeat (first | (with_reducible first | exact HB.out | apply bl | apply pN | apply b1 | refine bs ?_ GE342.out | refine bs ?_ GE360.out | refine bs ?_ GE361.out) | exact HB.out | exact HBo.out)) hb); have n5_ := Am (hbox); have n6_ := Am ((by rw [hg]; exact (below_size (by repeat (first | (with_reducible first | exact HB.out | apply bl | apply pN | apply b1 | refine bs ?_ GE342.out | refine bs ?_ GE360.out | refine bs ?_ GE361.out) | exact HB.out | exact HBo.out))) : w.heap.size ≤ gb372)); have n7_ := Am ((by rw [hg]; exact (below_size (by repeat (first | (with_reducible first | exact HB.out | apply bl | apply pN | apply b1 | refine bs ?_ GE342.out | refine bs ?_ GE360.out | refine bs ?_ GE361.out) | exact HB.out | exact HBo.out))) : w.heap.size ≤ gb372)); have n8_ := Am ((by rw [hg]; exact Nat.ne_of_lt (blk_lt (g := gb342) (o := .cells #[.int .i64 x343000_2, .int .i64 x343001_2, .int .i64 x343002_2, .string x343003_2] 23 (0, 0)) (by (with_reducible repeat (first | refine bn ?_ _ | refine bd ?_ | refine ba ?_ _)); exact BK342.out)) : gb342 ≠ gb372)); have n9_ := Am ((by rw [hg]; exact Nat.ne_of_gt (blk_lt (g := gb342) (o := .cells #[.int .i64 x343000_2, .int .i64 x343001_2, .int .i64 x343002_2, .string x343003_2] 23 (0, 0)) (by (with_reducible repeat (first | refine bn ?_ _ | refine bd ?_ | refine ba ?_ _)); exact BK342.out)) : gb372 ≠ gb342)); have n10_ := Am ((by rw [hg]; exact Nat.ne_of_lt (blk_lt (g := gb360) (o := .cells #[.int .i64 t351, .int .i64 t352, .int .i64 t353, .string t354] 35 (0, 0)) (by (with_reducible repeat (first | refine bn ?_ _ | refine bd ?_ | refine ba ?_ _)); exact BK360.out)) : gb360 ≠ gb372)); have n11_ := Am ((by rw [hg]; exact Nat.ne_of_gt (blk_lt (g := gb360) (o := .cells #[.int .i64 t351, .int .i64 t352, .int .i64 t353, .string t354] 35 (0, 0)) (by (with_reducible repeat (first | refine bn ?_ _ | refine bd ?_ | refine ba ?_ _)); exact BK360.out)) : gb372 ≠ gb360)); have n12_ := Am ((by rw [hg]; exact Nat.ne_of_lt (blk_lt (g := gb361) (o := .cells #[.int .i64 t355, .int .i64 t356, .int .i64 t357, .string t358] 23 (0, 0)) (by (with_reducible repeat (first | refine bn ?_ _ | refine bd ?_ | refine ba ?_ _)); exact BK361.out)) : gb361 ≠ gb372)); have n13_ := Am ((by rw [hg]; exact Nat.ne_of_gt (blk_lt (g := gb361) (o := .cells #[.int .i64 t355, .int .i64 t356, .int .i64 t357, .string t358] 23 (0, 0)) (by (with_reducible repeat (first | refine bn ?_ _ | refine bd ?_ | refine ba ?_ _)); exact BK361.out)) : gb372 ≠ gb361)); clear HO_14; clear BK342; clear BK360; clear BK361; clear HB; have HO_14 := n0_; have BK342 := n1_; have BK360 := n2_; have BK361 := n3_; have HB := n4_; have BK372 := n5_; have GW372 := n6_; have GE372 := n7_; have NB342_372 := n8_; have NB372_342 := n9_; have NB360_372 := n10_; have NB372_360 := n11_; have NB361_372 := n12_; have NB372_361 := n13_; clear n0_ n1_ n2_ n3_ n4_ n5_ n6_ n7_ n8_ n9_ n10_ n11_ n12_ n13_; clear hb hbox hg; have hnb96 := NB372_342.out; have hnc96 := NB342_372.out; have hnb97 := NB372_360.out; have hnc97 := NB360_372.out; have hnb98 := NB372_361.out; have hnc98 := NB361_372.out; have hcz99_0 : w95.cell? ⟨gb372, 0, none⟩ = some (.int .i64 0) := (bc BK372.out 0).trans rfl; have hcz99_1 : w95.cell? ⟨gb372, 1, none⟩ = some (.int .i64 0) := (bc BK372.out 1).trans rfl; have hcz99_2 : w95.cell? ⟨gb372, 2, none⟩ = some (.slice none 0 0) := (bc BK372.out 2).trans rfl; have hcz99_3 : w95.cell? ⟨gb372, 3, none⟩ = some (.string (⟨#[]⟩ : ByteArray)) := (bc BK372.out 3).trans rfl; have hfz99_0 := bf BK372.out 0; have hfz99_1 := bf BK372.out 1; have hfz99_2 := bf BK372.out 2; have hfz99_3 := bf BK372.out 3) | ((with_reducible refine gate_store (t := 28) (p := 19) rfl ?_); refine store_event (t := 28) (p := 19) (v := ?vo_w100) (w1 := ((((w95.setCell ⟨gb372, 0, none⟩ (.int .i64 ((rd_T28 l2 x18_4).f0))).setCell ⟨gb372, 1, none⟩ (.int .i64 ((rd_T28 l2 x18_4).f1))).setCell ⟨gb372, 2, none⟩ (.slice A371_2 ((rd_T28 l2 x18_4).f2).length c371_2)).setCell ⟨gb372, 3, none⟩ (.string ((rd_T28 l2 x18_4).f3)))) ?hg ?ho ?hn ?hr ?_; (case ho => rfl); (case hg => rfl); (case hn => rfl); (case hr => first | (go_simp; done) | (go_simp; rfl)); intro w100 hw; have n0_ : Aside0 (Kd.S k28 28 w100 w.heap.size (fun k_ => k_ ≠ gb372) v363 t362) := ⟨(by rw [hw]; exact (by (with_reducible repeat (first | apply Kd.S_alloc | apply Kd.S_drewN | apply Kd.S_drew)); exact Kd.S_mono (Kd.S_far (p := ⟨gb372, 3, none⟩) (Kd.S_far (p := ⟨gb372, 2, none⟩) (Kd.S_far (p := ⟨gb372, 1, none⟩) (Kd.S_far (p := ⟨gb372, 0, none⟩) (Kd.S_mono HO_14.out (fun k_ hk => (⟨hk, hk.2⟩ : _ ∧ k_ ≠ gb372))) (fun _ hk => hk.2) (.int .i64 ((rd_T28 l2 x18_4).f0))) (fun _ hk => hk.2) (.int .i64 ((rd_T28 l2 x18_4).f1))) (fun _ hk => hk.2) (.slice A371_2 ((rd_T28 l2 x18_4).f2).length c371_2)) (fun _ hk => hk.2) (.string ((rd_T28 l2 x18_4).f3))) (fun _ hk => hk.1.2)))⟩; have n1_ : Aside0 (w100.heap[gb342]? = some (.cells #[.int .i64 x343000_2, .int .i64 x343001_2, .int .i64 x343002_2, .string x343003_2] 23 (0, 0))) := ⟨(by rw [hw]; exact (by (with_reducible repeat (first | refine bn ?_ _ | refine bd ?_ | refine ba ?_ _)); refine blk_far ?_ NB342_372.out _; (with_reducible repeat (first | refine bn ?_ _ | refine bd ?_ | refine ba ?_ _)); refine blk_far ?_ NB342_372.out _; (with_reducible repeat (first | refine bn ?_ _ | refine bd ?_ | refine ba ?_ _)); refine blk_far ?_ NB342_372.out _; (with_reducible repeat (first | refine bn ?_ _ | refine bd ?_ | refine ba ?_ _)); refine blk_far ?_ NB342_372.out _; (with_reducible repeat (first | refine bn ?_ _ | refine bd ?_ | refine ba ?_ _)); exact BK342.out))⟩; have n2_ : Aside0 (w100.heap[gb360]? = some (.cells #[.int .i64 t351, .int .i64 t352, .int .i64 t353, .string t354] 35 (0, 0))) := ⟨(by rw [hw]; exact (by (with_reducible repeat (first | refine bn ?_ _ | refine bd ?_ | refine ba ?_ _)); refine blk_far ?_ NB360_372.out _; (with_reducible repeat (first | refine bn ?_ _ | refine bd ?_ | refine ba ?_ _)); refine blk_far ?_ NB360_372.out _; (with_reducible repeat (first | refine bn ?_ _ | refine bd ?_ | refine ba ?_ _)); refine blk_far ?_ NB360_372.out _; (with_reducible repeat (first | refine bn ?_ _ | refine bd ?_ | refine ba ?_ _)); refine blk_far ?_ NB360_372.out _; (with_reducible repeat (first | refine bn ?_ _ | refine bd ?_ | refine ba ?_ _)); exact BK360.out))⟩; have n3_ : Aside0 (w100.heap[gb361]? = some (.cells #[.int .i64 t355, .int .i64 t356, .int .i64 t357, .string t358] 23 (0, 0))) := ⟨(by rw [hw]; exact (by (with_reducible repeat (first | refine bn ?_ _ | refine bd ?_ | refine ba ?_ _)); refine blk_far ?_ NB361_372.out _; (with_reducible repeat (first | refine bn ?_ _ | refine bd ?_ | refine ba ?_ _)); refine blk_far ?_ NB361_372.out _; (with_reducible repeat (first | refine bn ?_ _ | refine bd ?_ | refine ba ?_ _)); refine blk_far ?_ NB361_372.out _; (with_reducible repeat (first | refine bn ?_ _ | refine bd ?_ | refine ba ?_ _)); refine blk_far ?_ NB361_372.out _; (with_reducible repeat (first | refine bn ?_ _ | refine bd ?_ | refine ba ?_ _)); exact BK361.out))⟩; have n4_ : Aside0 (w100.heap[gb372]? = some (.cells #[.int .i64 ((rd_T28 l2 x18_4).f0), .int .i64 ((rd_T28 l2 x18_4).f1), .slice A371_2 ((rd_T28 l2 x18_4).f2).length c371_2, .string ((rd_T28 l2 x18_4).f3)] 28 (0, 0))) := ⟨(by rw [hw]; exact (by (with_reducible repeat (first | refine bn ?_ _ | refine bd ?_ | refine ba ?_ _)); refine blk_put (cs := #[.int .i64 ((rd_T28 l2 x18_4).f0), .int .i64 ((rd_T28 l2 x18_4).f1), .slice A371_2 ((rd_T28 l2 x18_4).f2).length c371_2, .string (⟨#[]⟩ : ByteArray)]) ?_ 3 _ rfl; (with_reducible repeat (first | refine bn ?_ _ | refine bd ?_ | refine ba ?_ _)); refine blk_put (cs := #[.int .i64 ((rd_T28 l2 x18_4).f0), .int .i64 ((rd_T28 l2 x18_4).f1), .slice none 0 0, .string (⟨#[]⟩ : ByteArray)]) ?_ 2 _ rfl; (with_reducible repeat (first | refine bn ?_ _ | refine bd ?_ | refine ba ?_ _)); refine blk_put (cs := #[.int .i64 ((rd_T28 l2 x18_4).f0), .int .i64 0, .slice none 0 0, .string (⟨#[]⟩ : ByteArray)]) ?_ 1 _ rfl; (with_reducible repeat (first | refine bn ?_ _ | refine bd ?_ | refine ba ?_ _)); refine blk_put (cs := #[.int .i64 0, .int .i64 0, .slice none 0 0, .string (⟨#[]⟩ : ByteArray)]) ?_ 0 _ rfl; (with_reducible repeat (first | refine bn ?_ _ | refine bd ?_ | refine ba ?_ _)); exact BK372.out))⟩; have n5_ : Aside0 (Below w.heap.size w w100) := ⟨(by rw [hw]; exact (by repeat (first | (with_reducible first | exact HB.out | apply bl | apply pN | apply b1 | refine bs ?_ GE342.out | refine bs ?_ GE360.out | refine bs ?_ GE361.out | refine bs ?_ GE372.out) | exact HB.out | exact HBo.out)))⟩; clear hw; clear HO_14; clear BK342; clear BK360; clear BK361; clear BK372; clear HB; have HO_14 := n0_; have BK342 := n1_; have BK360 := n2_; have BK361 := n3_; have BK372 := n4_; have HB := n5_; clear n0_ n1_ n2_ n3_ n4_ n5_; obtain ⟨Ao101, co101, eo101⟩ := Kd.S_slice HO_14.out; subst eo101; have p373 : 0 ≤ (x18_4 : Int) := of_decide_eq_true (by first | (with_reducible assumption) | assumption); have q373 : x18_4 < (t362.length : Int) := of_decide_eq_true (by first | (with_reducible assumption) | assumption); obtain ⟨ad373, A373_2, c373_2, e373, hx373_0, hx373_1, hx373_2, hx373_3, hl373_2, hi373_2⟩ := at_T28 (Kd.S_reads' HO_14.out).2.2 x18_4 p373 q373; cases e373; obtain ⟨ce373, hce373, hMe373, hcc373⟩ := Kd.S_get HO_14.out z28 x18_4 p373 (by first | exact q373 | exact of_decide_eq_true (by first | (with_reducible assumption) | assumption) | (have e_ := (Kd.S_reads' HO_14.out).1; omega)); obtain ⟨ve373_2, rfl, ge373_2⟩ := k28_openM hMe373; have hv373_2 := hcc373 2 _ rfl; rw [add_field _ _ 2 (by omega)] at hv373_2; replace hv373_2 := Option.some.inj (hv373_2.symm.trans hx373_2); rw [hv373_2] at ge373_2; have HL373_2 := Am (show Kd.R (Kd.int .i64) 3 _ _ _ _ ((rd_T28 t362 x18_4).f2) from ge373_2); clear hv373_2 ge373_2; clear hcc373 hce373; have HR373_2 := Am hi373_2; have HC373_2 := Am hl373_2; clear hi373_2 hl373_2; replace p373 := eq_true p373; replace q373 := eq_true q373; have hcz102_0 : w100.cell? ⟨gb372, 0, none⟩ = some (.int .i64 ((rd_T28 l2 x18_4).f0)) := (bc BK372.out 0).trans rfl; have hcz102_1 : w100.cell? ⟨gb372, 1, none⟩ = some (.int .i64 ((rd_T28 l2 x18_4).f1)) := (bc BK372.out 1).trans rfl; have hcz102_2 : w100.cell? ⟨gb372, 2, none⟩ = some (.slice A371_2 ((rd_T28 l2 x18_4).f2).length c371_2) := (bc BK372.out 2).trans rfl; have hcz102_3 : w100.cell? ⟨gb372, 3, none⟩ = some (.string ((rd_T28 l2 x18_4).f3)) := (bc BK372.out 3).trans rfl; have hfz102_0 := bf BK372.out 0; have hfz102_1 := bf BK372.out 1; have hfz102_2 := bf BK372.out 2; have hfz102_3 := bf BK372.out 3))
                 have n0_ : Aside0 (Kd.S k28 28 (w100.setCell ⟨gb372, 1, none⟩ (.int .i64 ((rd_T28 t362 x18_4).f1))) w.heap.size (fun k_ => k_ ≠ gb372) (.slice (some ad373) t362.length co101) t362) := ⟨by (with_reducible repeat (first | apply Kd.S_alloc | apply Kd.S_drewN | apply Kd.S_drew)); exact Kd.S_mono (Kd.S_far (p := ⟨gb372, 1, none⟩) (Kd.S_mono HO_14.out (fun k_ hk => (⟨hk, hk⟩ : _ ∧ k_ ≠ gb372))) (fun _ hk => hk.2) (.int .i64 ((rd_T28 t362 x18_4).f1))) (fun _ hk => hk.1)⟩
                 have n1_ : Aside0 (Kd.R (Kd.int .i64) 3 (w100.setCell ⟨gb372, 1, none⟩ (.int .i64 ((rd_T28 t362 x18_4).f1))) w.heap.size (fun k_ => some k_ ≠ (.slice (some ad373) t362.length co101 : Value).ownBlock ∧ k_ ≠ gb372) (.slice A373_2 ((rd_T28 t362 x18_4).f2).length c373_2) ((rd_T28 t362 x18_4).f2)) := ⟨by (with_reducible repeat (first | apply Kd.R_alloc | apply Kd.R_drewN | apply Kd.R_drew)); exact Kd.R_mono (Kd.R_far (p := ⟨gb372, 1, none⟩) (Kd.R_types HL373_2.out BK372.out (by decide)) (fun _ hk => hk.2) (.int .i64 ((rd_T28 t362 x18_4).f1))) (fun _ hk => ⟨hk.1.2, hk.1.1⟩)⟩
                 have n2_ : Aside0 ((w100.setCell ⟨gb372, 1, none⟩ (.int .i64 ((rd_T28 t362 x18_4).f1))).heap[gb342]? = some (.cells #[.int .i64 x343000_2, .int .i64 x343001_2, .int .i64 x343002_2, .string x343003_2] 23 (0, 0))) := ⟨by (with_reducible repeat (first | refine bn ?_ _ | refine bd ?_ | refine ba ?_ _)); refine blk_far ?_ NB342_372.out _; (with_reducible repeat (first | refine bn ?_ _ | refine bd ?_ | refine ba ?_ _)); exact BK342.out⟩
                 have n3_ : Aside0 ((w100.setCell ⟨gb372, 1, none⟩ (.int .i64 ((rd_T28 t362 x18_4).f1))).heap[gb360]? = some (.cells #[.int .i64 t351, .int .i64 t352, .int .i64 t353, .string t354] 35 (0, 0))) := ⟨by (with_reducible repeat (first | refine bn ?_ _ | refine bd ?_ | refine ba ?_ _)); refine blk_far ?_ NB360_372.out _; (with_reducible repeat (first | refine bn ?_ _ | refine bd ?_ | refine ba ?_ _)); exact BK360.out⟩
                 have n4_ : Aside0 ((w100.setCell ⟨gb372, 1, none⟩ (.int .i64 ((rd_T28 t362 x18_4).f1))).heap[gb361]? = some (.cells #[.int .i64 t355, .int .i64 t356, .int .i64 t357, .string t358] 23 (0, 0))) := ⟨by (with_reducible repeat (first | refine bn ?_ _ | refine bd ?_ | refine ba ?_ _)); refine blk_far ?_ NB361_372.out _; (with_reducible repeat (first | refine bn ?_ _ | refine bd ?_ | refine ba ?_ _)); exact BK361.out⟩
                 have n5_ : Aside0 ((w100.setCell ⟨gb372, 1, none⟩ (.int .i64 ((rd_T28 t362 x18_4).f1))).heap[gb372]? = some (.cells #[.int .i64 ((rd_T28 l2 x18_4).f0), .int .i64 ((rd_T28 t362 x18_4).f1), .slice A371_2 ((rd_T28 l2 x18_4).f2).length c371_2, .string ((rd_T28 l2 x18_4).f3)] 28 (0, 0))) := ⟨by (with_reducible repeat (first | refine bn ?_ _ | refine bd ?_ | refine ba ?_ _)); refine blk_put (cs := #[.int .i64 ((rd_T28 l2 x18_4).f0), .int .i64 ((rd_T28 l2 x18_4).f1), .slice A371_2 ((rd_T28 l2 x18_4).f2).length c371_2, .string ((rd_T28 l2 x18_4).f3)]) ?_ 1 _ rfl; (with_reducible repeat (first | refine bn ?_ _ | refine bd ?_ | refine ba ?_ _)); exact BK372.out⟩
                 have n6_ : Aside0 (Below w.heap.size w (w100.setCell ⟨gb372, 1, none⟩ (.int .i64 ((rd_T28 t362 x18_4).f1)))) := ⟨by repeat (first | (with_reducible first | exact HB.out | apply bl | apply pN | apply b1 | refine bs ?_ GE342.out | refine bs ?_ GE360.out | refine bs ?_ GE361.out | refine bs ?_ GE372.out) | exact HB.out | exact HBo.out)⟩
                 (try clear HO_14)
                 (try clear HL373_2)
                 (try clear BK342)
                 (try clear BK360)
                 (try clear BK361)
                 (try clear BK372)
                 (try clear HB)
                 generalize (w100.setCell ⟨gb372, 1, none⟩ (.int .i64 ((rd_T28 t362 x18_4).f1))) = w103 at n0_ n1_ n2_ n3_ n4_ n5_ n6_ ⊢
                 have HO_14 := n0_
                 have HL373_2 := n1_
                 have BK342 := n2_
                 have BK360 := n3_
                 have BK361 := n4_
                 have BK372 := n5_
                 have HB := n6_
                 clear n0_ n1_ n2_ n3_ n4_ n5_ n6_
                 have n0_ := Am (Kd.S_drew HO_14.out)
                 have n1_ := Am (Kd.R_drew HL373_2.out)
                 have n2_ := Am (bd BK342.out)
                 have n3_ := Am (bd BK360.out)
                 have n4_ := Am (bd BK361.out)
                 have n5_ := Am (bd BK372.out)
                 have n6_ := Am (b1 HB.out)
                 clear HO_14
                 clear HL373_2
                 clear BK342
                 clear BK360
                 clear BK361
                 clear BK372
                 clear HB
                 have HO_14 := n0_
                 have HL373_2 := n1_
                 have BK342 := n2_
                 have BK360 := n3_
                 have BK361 := n4_
                 have BK372 := n5_
                 have HB := n6_
                 clear n0_ n1_ n2_ n3_ n4_ n5_ n6_
                 have p374 : 0 ≤ (x18_4 : Int) := of_decide_eq_true (by first | (with_reducible assumption) | assumption)
                 have q374 : x18_4 < (t362.length : Int) := of_decide_eq_true (by first | (with_reducible assumption) | assumption)
                 obtain ⟨ad374, A374_2, c374_2, e374, hx374_0, hx374_1, hx374_2, hx374_3, hl374_2, hi374_2⟩ := at_T28 (Kd.S_reads' HO_14.out).2.2 x18_4 p374 q374
                 obtain rfl : ad373 = ad374 := (by injection e374)
                 obtain ⟨ce374, hce374, hMe374, hcc374⟩ := Kd.S_get HO_14.out z28 x18_4 p374 (by first | exact q374 | exact of_decide_eq_true (by first | (with_reducible assumption) | assumption) | (have e_ := (Kd.S_reads' HO_14.out).1; omega))
                 obtain ⟨ve374_2, rfl, ge374_2⟩ := k28_openM hMe374
                 have hv374_2 := hcc374 2 _ rfl
                 rw [add_field _ _ 2 (by omega)] at hv374_2
                 replace hv374_2 := Option.some.inj (hv374_2.symm.trans hx374_2)
                 rw [hv374_2] at ge374_2
                 have HL374_2 := Am (show Kd.R (Kd.int .i64) 3 _ _ _ _ ((rd_T28 t362 x18_4).f2) from ge374_2)
                 clear hv374_2 ge374_2
                 clear hcc374 hce374
                 have HR374_2 := Am hi374_2
                 have HC374_2 := Am hl374_2
                 clear hi374_2 hl374_2
                 replace p374 := eq_true p374
                 replace q374 := eq_true q374
                 refine start_ (n := 7) (S := fun w' => w'.cell? ⟨gb372, 0, none⟩ = some (.int .i64 ((rd_T28 l2 x18_4).f0)) ∧ w'.cell? ⟨gb372, 1, none⟩ = some (.int .i64 ((rd_T28 t362 x18_4).f1)) ∧ w'.cell? ⟨gb372, 2, none⟩ = some (.slice A371_2 ((rd_T28 l2 x18_4).f2).length c371_2) ∧ w'.cell? ⟨gb372, 3, none⟩ = some (.string ((rd_T28 l2 x18_4).f3)) ∧ w'.cell? (ad373.add ((x18_4).toNat * 4)) = some (.int .i64 ((rd_T28 t362 x18_4).f0)) ∧ w'.cell? ⟨(ad373.add ((x18_4).toNat * 4)).block, (ad373.add ((x18_4).toNat * 4)).off + 1, none⟩ = some (.int .i64 ((rd_T28 t362 x18_4).f1)) ∧ w'.cell? ⟨(ad373.add ((x18_4).toNat * 4)).block, (ad373.add ((x18_4).toNat * 4)).off + 2, none⟩ = some (.slice A374_2 ((rd_T28 t362 x18_4).f2).length c374_2) ∧ w'.cell? ⟨(ad373.add ((x18_4).toNat * 4)).block, (ad373.add ((x18_4).toNat * 4)).off + 3, none⟩ = some (.string ((rd_T28 t362 x18_4).f3))) (ds := []) q17_21 (by kernel_rfl) rfl rfl ⟨(bc BK372.out 0).trans rfl, (bc BK372.out 1).trans rfl, (bc BK372.out 2).trans rfl, (bc BK372.out 3).trans rfl, hx374_0, hx374_1, hx374_2, hx374_3⟩ (fun hHeld => ?_)
                 generalize w103.drew = w104 at HO_14 HL373_2 BK342 BK360 BK361 BK372 HB HL374_2 HR374_2 hx374_0 hx374_1 hx374_2 hx374_3 hHeld ⊢
                 refine pure_ (i := 1) (N := some 134) (v := ?_) (a' := ?_) q17_22 rfl rfl (by kernel_rfl) (fun _ _ _ h => h) (Or.inl ⟨by rfl, ?_⟩) ?_ ?_
                 rotate_left
                 ·
                  intro w'
                  go_simp
                  with_reducible rfl
                 rotate_left
                 ·
                  simp only [Act.put, sI, sZ, sS, i64_w, i32_w]
                  rfl
                 refine pure_ (i := 2) (N := some 135) (v := ?_) (a' := ?_) q17_23 rfl rfl (by kernel_rfl) (fun _ _ _ h => h) (Or.inl ⟨by rfl, ?_⟩) ?_ ?_
                 rotate_left
                 ·
                  intro w'
                  go_simp
                  with_reducible rfl
                 rotate_left
                 ·
                  simp only [Act.put, sI, sZ, sS, i64_w, i32_w]
                  rfl
                 refine pure_ (i := 3) (N := some 136) (v := ?_) (a' := ?_) q17_24 rfl rfl (by kernel_rfl) (fun _ _ _ h => h) (Or.inl ⟨by rfl, ?_⟩) ?_ ?_
                 rotate_left
                 ·
                  intro w'
                  go_simp
                  with_reducible rfl
                 rotate_left
                 ·
                  simp only [Act.put, sI, sZ, sS, i64_w, i32_w]
                  rfl
                 refine take_ (i := 0) (N := some 133) (v := ?_) (a' := ?_) q17_25 rfl rfl (by kernel_rfl) (fun _ _ _ h => h) (Or.inl ⟨by rfl, ?_⟩) hHeld ?_ ?_
                 rotate_left
                 ·
                  rintro w' ⟨s0, s1, s2, s3, s4, s5, s6, s7⟩
                  go_simp
                  with_reducible rfl
                 rotate_left
                 ·
                  simp only [Act.put, sI, sZ, sS, i64_w, i32_w]
                  rfl
                 refine take_ (i := 4) (N := some 137) (v := ?_) (a' := ?_) q17_26 rfl rfl (by kernel_rfl) (fun _ _ _ h => h) (Or.inl ⟨by rfl, ?_⟩) hHeld ?_ ?_
                 rotate_left
                 ·
                  rintro w' ⟨s0, s1, s2, s3, s4, s5, s6, s7⟩
                  go_simp
                  with_reducible rfl
                 rotate_left
                 ·
                  simp only [Act.put, sI, sZ, sS, i64_w, i32_w]
                  rfl
                 refine one_ (i := 5) (N := some 138) q17_27 rfl rfl (by kernel_rfl) (by decide) (fun K hK => ?_)
                 refine goes_ Try.func17 (by kernel_rfl) rfl #[.agg #[.int .i64 ((rd_T28 l2 x18_4).f0), .int .i64 ((rd_T28 t362 x18_4).f1), .slice A371_2 ((rd_T28 l2 x18_4).f2).length c371_2, .string ((rd_T28 l2 x18_4).f3)], .agg #[.int .i64 ((rd_T28 t362 x18_4).f0), .int .i64 ((rd_T28 t362 x18_4).f1), .slice A374_2 ((rd_T28 t362 x18_4).f2).length c374_2, .string ((rd_T28 t362 x18_4).f3)]] (by rfl) rfl rfl (by (try simp only [List.map_toArray, List.map_cons, List.map_nil]); first | done | rfl | (simp only [List.length_drop, List.length_take]; rfl)) ?_
                 with_reducible refine (shuttlecockref04_Same.calls k4 ((rd_T28 l2 x18_4).f0) ((rd_T28 t362 x18_4).f1) _ _ ((rd_T28 l2 x18_4).f2) ((rd_T28 l2 x18_4).f3) ((rd_T28 t362 x18_4).f0) ((rd_T28 t362 x18_4).f1) _ _ ((rd_T28 t362 x18_4).f2) ((rd_T28 t362 x18_4).f3) true _ ?side1 ?side2 ?side3 ?side4 A93.out).mono ?_
                 (case side1 => repeat (first | exact (Kd.C_below HR371_2.out HB.out) | (with_reducible refine Kd.C_alloc ?_ _) | (with_reducible refine Kd.C_drewN ?_ _) | (with_reducible refine Kd.C_drew ?_)))
                 (case side2 => exact HC371_2.out)
                 (case side3 => repeat (first | exact (by repeat (first | (with_reducible exact HR374_2.out) | (with_reducible refine Kd.C_alloc ?_ _) | (with_reducible refine Kd.C_drewN ?_ _) | (with_reducible refine Kd.C_drew ?_) | exact HR374_2.out)) | (with_reducible refine Kd.C_alloc ?_ _) | (with_reducible refine Kd.C_drewN ?_ _) | (with_reducible refine Kd.C_drew ?_)))
                 (case side4 => exact HC374_2.out)
                 rintro e w105 ⟨rfl, hb⟩
                 have HS4_ := (hb.cell (World.block_lt_of_cell? _ _ (hHeld.2.2.2.2.1))).trans (hHeld.2.2.2.2.1)
                 have HS5_ := (hb.cell (World.block_lt_of_cell? _ _ (hHeld.2.2.2.2.2.1))).trans (hHeld.2.2.2.2.2.1)
                 have HS6_ := (hb.cell (World.block_lt_of_cell? _ _ (hHeld.2.2.2.2.2.2.1))).trans (hHeld.2.2.2.2.2.2.1)
                 have HS7_ := (hb.cell (World.block_lt_of_cell? _ _ (hHeld.2.2.2.2.2.2.2))).trans (hHeld.2.2.2.2.2.2.2)
                 refine ⟨_, rfl, ?_⟩
                 have n0_ := Am (Kd.S_below (by (with_reducible repeat (first | apply Kd.S_alloc | apply Kd.S_drewN | apply Kd.S_drew)); exact HO_14.out) hb)
                 have n1_ := Am (Kd.R_below (by (with_reducible repeat (first | apply Kd.R_alloc | apply Kd.R_drewN | apply Kd.R_drew)); exact HL373_2.out) hb)
                 have n2_ := Am (Kd.R_below (by (with_reducible repeat (first | apply Kd.R_alloc | apply Kd.R_drewN | apply Kd.R_drew)); exact HL374_2.out) hb)
                 have n3_ := Am (blk_below (g := gb342) (o := .cells #[.int .i64 x343000_2, .int .i64 x343001_2, .int .i64 x343002_2, .string x343003_2] 23 (0, 0)) (by (with_reducible repeat (first | refine bn ?_ _ | refine bd ?_ | refine ba ?_ _)); exact BK342.out) hb)
                 have n4_ := Am (blk_below (g := gb360) (o := .cells #[.int .i64 t351, .int .i64 t352, .int .i64 t353, .string t354] 35 (0, 0)) (by (with_reducible repeat (first | refine bn ?_ _ | refine bd ?_ | refine ba ?_ _)); exact BK360.out) hb)
                 have n5_ := Am (blk_below (g := gb361) (o := .cells #[.int .i64 t355, .int .i64 t356, .int .i64 t357, .string t358] 23 (0, 0)) (by (with_reducible repeat (first | refine bn ?_ _ | refine bd ?_ | refine ba ?_ _)); exact BK361.out) hb)
                 have n6_ := Am (blk_below (g := gb372) (o := .cells #[.int .i64 ((rd_T28 l2 x18_4).f0), .int .i64 ((rd_T28 t362 x18_4).f1), .slice A371_2 ((rd_T28 l2 x18_4).f2).length c371_2, .string ((rd_T28 l2 x18_4).f3)] 28 (0, 0)) (by (with_reducible repeat (first | refine bn ?_ _ | refine bd ?_ | refine ba ?_ _)); exact BK372.out) hb)
                 have n7_ := Am (Kd.C_below (by repeat (first | (with_reducible exact HR374_2.out) | (with_reducible refine Kd.C_alloc ?_ _) | (with_reducible refine Kd.C_drewN ?_ _) | (with_reducible refine Kd.C_drew ?_) | exact HR374_2.out)) hb)
                 have n8_ := Am (below_step (by repeat (first | (with_reducible first | exact HB.out | apply bl | apply pN | apply b1 | refine bs ?_ GE342.out | refine bs ?_ GE360.out | refine bs ?_ GE361.out | refine bs ?_ GE372.out) | exact HB.out | exact HBo.out)) hb)
                 clear HO_14
                 clear HL373_2
                 clear HL374_2
                 clear BK342
                 clear BK360
                 clear BK361
                 clear BK372
                 clear HR374_2
                 clear HB
                 have HO_14 := n0_
                 have HL373_2 := n1_
                 have HL374_2 := n2_
                 have BK342 := n3_
                 have BK360 := n4_
                 have BK361 := n5_
                 have BK372 := n6_
                 have HR374_2 := n7_
                 have HB := n8_
                 clear n0_ n1_ n2_ n3_ n4_ n5_ n6_ n7_ n8_
                 (try clear hb)
                 (try clear hb2)
                 (try clear hk)
                 (try clear hi)
                 refine hK.out _ _ ⟨(bc BK372.out 0).trans rfl, (bc BK372.out 1).trans rfl, (bc BK372.out 2).trans rfl, (bc BK372.out 3).trans rfl, HS4_, HS5_, HS6_, HS7_⟩ (fun hHeld => ?_)
                 clear hK K
                 refine norm_ (a' := ?_) ?_ ?_
                 rotate_left
                 ·
                  show Act.put _ (some 138) _ = _
                  simp only [Act.put, sI, sZ, sS, i64_w, i32_w]
                  rfl
                 refine pure_ (i := 6) (N := some 139) (v := ?_) (a' := ?_) q17_28 rfl rfl (by kernel_rfl) (fun _ _ _ h => h) (Or.inl ⟨by rfl, ?_⟩) ?_ ?_
                 rotate_left
                 ·
                  intro w'
                  go_simp
                  with_reducible rfl
                 rotate_left
                 ·
                  simp only [Act.put, sI, sZ, sS, i64_w, i32_w]
                  rfl
                 refine done_ (by kernel_rfl) ?_
                 try go_wp2
                 go_roundg k4
                 case measure => have := HJ3.out; have := HK2.out; have := HJ56.out; have := HK4.out; omega
                 case rel => exact ⟨(wrap64 (x18_4 + 1)), (by first | rfl | (simp; done) | (simp [*]; done)), H', ⟨by have := HJ3.out; have := HK2.out; have := HJ56.out; have := HK4.out; omega⟩, ⟨by (with_reducible repeat (first | apply Kd.S_alloc | apply Kd.S_drewN | apply Kd.S_drew)); exact Kd.S_mono HO_14.out (fun _ hk => trivial)⟩, ⟨by (with_reducible repeat (first | refine bn ?_ _ | refine bd ?_ | refine ba ?_ _)); exact BK342.out⟩, ⟨by (with_reducible repeat (first | refine bn ?_ _ | refine bd ?_ | refine ba ?_ _)); exact BK360.out⟩, ⟨by (with_reducible repeat (first | refine bn ?_ _ | refine bd ?_ | refine ba ?_ _)); exact BK361.out⟩, ⟨by repeat (first | (with_reducible first | exact HB.out | apply bl | apply pN | apply b1 | refine bs ?_ GE342.out | refine bs ?_ GE360.out | refine bs ?_ GE361.out | refine bs ?_ GE372.out) | exact HB.out | exact HBo.out)⟩⟩
                ·
                 replace c94 := Bool.eq_false_iff.mpr c94
                 subst c94
                 have H1 : (none) = some r := by rw [if_neg (show ¬ (false = true) by decide)] at H; exact H
                 clear H
                 have H := H1
                 clear H1
                 exact absurd H (by simp)
               ·
                rw [if_neg c92] at H
                exact absurd H (by simp)
              ·
               rw [if_neg c91] at H
               exact absurd H (by simp)
             ·
              rw [if_neg c90] at H
              have c90b0 : decide (x18_4 < (l2.length : Int)) = false := decide_eq_false c90
              clear c90
              obtain rfl := Option.some.inj H
              go_wp2
              go_ret
              exact ⟨by first | rfl | (simp [errW_none, errW_some] <;> rfl) | (simp [*, errW_none, errW_some] <;> rfl) | (simp [Aid.ne_nil, Aid.eq_nil, errW_none, errW_some]; done), by repeat (first | (with_reducible first | exact HB.out | apply bl | apply pN | apply b1 | refine bs ?_ GE342.out | refine bs ?_ GE360.out | refine bs ?_ GE361.out) | exact HB.out | exact HBo.out)⟩

/-- THE ONE PURE STATEMENT of shuttlecocklaw19_BufBack (own row). -/
def shuttlecocklaw19_BufBack.Pure : Prop := ∀ (y0 : Int) (y1 : List Int) (y2 : List (S28)), (Lit.int .i64 y0).wf = true → ((∀ e2 ∈ y1, (Lit.int .i64 e2).wf = true) ∧ y1.length ≤ 140737488351232) → ((∀ e2 ∈ y2, ((Lit.int .i64 e2.f0).wf = true ∧ (Lit.int .i64 e2.f1).wf = true ∧ ((∀ e6 ∈ e2.f2, (Lit.int .i64 e6).wf = true) ∧ e2.f2.length ≤ 140737488351232) ∧ e2.f3.size ≤ 140737488351232)) ∧ y2.length ≤ 140737488351232) → ∃ k, shuttlecocklaw19_BufBack.f k y0 y1 y2 = some true

end Go.Proofs.Ytgpnkgmghnmmjaa.Q
