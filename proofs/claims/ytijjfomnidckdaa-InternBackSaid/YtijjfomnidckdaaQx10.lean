-- printed by a program of this session (NOTES: hprint); not the kit's print
-- minified
-- halved
import Derived.Test.YtijjfomnidckdaaAl
import Derived.Test.YtijjfomnidckdaaQx0
import Derived.Test.YtijjfomnidckdaaQx3
import Derived.Test.YtijjfomnidckdaaQx4
import Derived.Test.YtijjfomnidckdaaQx5
import Derived.Test.YtijjfomnidckdaaQx6
import Derived.Test.YtijjfomnidckdaaQx7
import Derived.Test.YtijjfomnidckdaaQx8
import Derived.Test.YtijjfomnidckdaaQx9
namespace Go.Proofs.Ytijjfomnidckdaa.Q
open Go.RowKit Go.Proofs.YtijjfomnidckdaaW.PrintWords Go.Proofs.YtijjfomnidckdaaW.PrintLast Go.Proofs.YtijjfomnidckdaaW.PrintMore
attribute [local go_sem] max2_int min2_int max_two min_two max_three min_three max_four min_four   -- for this text's walks alone
set_option linter.unusedVariables false
set_option linter.unusedSimpArgs false

/-! ### shuttlecocklaw06_InternBack: function 4 -/
mutual
def shuttlecocklaw06_InternBack.j0 : Nat → Bool → List ByteArray → List (List (S50)) → ByteArray → List (S45) → Int → Option (Bool)
 | 0, _, _, _, _, _, _ => none
 | k + 1, x50, x215000, x215001, x216000, x216001, x216002 => if x50 = true then ((shuttlecocklaw06_fixed.f k).bind fun t220 => (some t220)) else ((intern_String.f k x215000 x215001 x216000).bind fun bt221 => ((intern_Name.f k bt221.1 bt221.2.1 bt221.2.2).bind fun bt229 => ((intern_String.f k bt221.1 bt221.2.1 x216000).bind fun bt231 => (if bt229.2 = true then (if bt229.1.toList = x216000.toList then (if bt231.2.2 = bt221.2.2 then ((shuttlecockref06_Same.f k bt221.1 bt221.2.1 bt231.1 bt231.2.1).bind fun t239 => (if t239 = true then ((intern_May.f k bt221.1 bt221.2.1).bind fun t240 => (shuttlecocklaw06_InternBack.j1 k (!t240) x215000 x215001 x216000 x216001 x216002 bt221.1 bt221.2.1)) else (shuttlecocklaw06_InternBack.j1 k true x215000 x215001 x216000 x216001 x216002 bt221.1 bt221.2.1))) else (shuttlecocklaw06_InternBack.j1 k true x215000 x215001 x216000 x216001 x216002 bt221.1 bt221.2.1)) else (shuttlecocklaw06_InternBack.j1 k true x215000 x215001 x216000 x216001 x216002 bt221.1 bt221.2.1)) else (shuttlecocklaw06_InternBack.j1 k true x215000 x215001 x216000 x216001 x216002 bt221.1 bt221.2.1)))))
def shuttlecocklaw06_InternBack.j1 : Nat → Bool → List ByteArray → List (List (S50)) → ByteArray → List (S45) → Int → List ByteArray → List (List (S50)) → Option (Bool)
 | 0, _, _, _, _, _, _, _, _ => none
 | k + 1, x95, x215000, x215001, x216000, x216001, x216002, x229000, x229001 => if x95 = true then (none) else ((intern_Stack.f k x229000 x229001 x216001).bind fun bt241 => (if bt241.2.2 = 0 then (if (x216001.length : Int) = 0 then (some true) else ((shuttlecockref06_Same.f k bt241.1 bt241.2.1 ([] : List ByteArray) ([] : List (List (S50)))).bind fun t249 => (some t249))) else ((intern_Frames.f k bt241.1 bt241.2.1 bt241.2.2).bind fun bt250 => ((intern_Stack.f k bt241.1 bt241.2.1 x216001).bind fun bt254 => (shuttlecocklaw06_InternBack.l0 k bt241.2.2 bt250.1 bt250.2 bt254.2.2 0 x215000 x215001 x216000 x216001 x216002 bt241.1 bt241.2.1 bt254.1 bt254.2.1)))))
def shuttlecocklaw06_InternBack.l0 : Nat → Int → List (S45) → Bool → Int → Int → List ByteArray → List (List (S50)) → ByteArray → List (S45) → Int → List ByteArray → List (List (S50)) → List ByteArray → List (List (S50)) → Option (Bool)
 | 0, _, _, _, _, _, _, _, _, _, _, _, _, _, _ => none
 | k + 1, x12, x13, x14, x16, x17, x215000, x215001, x216000, x216001, x216002, x249000, x249001, x262000, x262001 => if x17 ≤ (x215000.length : Int) then ((intern_Name.f k x215000 x215001 x17).bind fun bt262 => ((intern_Name.f k x249000 x249001 x17).bind fun bt264 => (if bt262.1.toList = bt264.1.toList then (shuttlecocklaw06_InternBack.l0 k x12 x13 x14 x16 (wrap64 (x17 + 1)) x215000 x215001 x216000 x216001 x216002 x249000 x249001 x262000 x262001) else (none)))) else (shuttlecocklaw06_InternBack.l1 k x12 x13 x14 x16 0 x215000 x215001 x216000 x216001 x216002 x249000 x249001 x262000 x262001)
def shuttlecocklaw06_InternBack.l1 : Nat → Int → List (S45) → Bool → Int → Int → List ByteArray → List (List (S50)) → ByteArray → List (S45) → Int → List ByteArray → List (List (S50)) → List ByteArray → List (List (S50)) → Option (Bool)
 | 0, _, _, _, _, _, _, _, _, _, _, _, _, _, _ => none
 | k + 1, x12, x13, x14, x16, x22, x215000, x215001, x216000, x216001, x216002, x249000, x249001, x262000, x262001 => if x22 ≤ (x215001.length : Int) then ((intern_Frames.f k x215000 x215001 x22).bind fun bt268 => ((intern_Frames.f k x249000 x249001 x22).bind fun bt272 => ((shuttlecockref06_SameFrames.f k bt268.1 bt272.1).bind fun t276 => (if t276 = true then (shuttlecocklaw06_InternBack.l1 k x12 x13 x14 x16 (wrap64 (x22 + 1)) x215000 x215001 x216000 x216001 x216002 x249000 x249001 x262000 x262001) else (none))))) else (if x14 = true then ((shuttlecockref06_SameFrames.f k x13 x216001).bind fun t266 => (if t266 = true then (if x16 = x12 then ((shuttlecockref06_Same.f k x249000 x249001 x262000 x262001).bind fun t267 => (some t267)) else (none)) else (none))) else (none))
end
def shuttlecocklaw06_InternBack.f (k : Nat) (l0_0 : List ByteArray) (l0_1 : List (List (S50))) (a1_0 : ByteArray) (l1_1 : List (S45)) (a1_2 : Int) : Option (Bool) := (shuttlecocklaw06_fixed.f k).bind fun t216 => (if t216 = true then ((shuttlecockref06_Small.f k l0_0 l0_1).bind fun t217 => (if t217 = true then ((shuttlecockref06_Few.f k l1_1).bind fun t218 => (if t218 = true then (if (a1_0.size : Int) > 1000 then (shuttlecocklaw06_InternBack.j0 k true l0_0 l0_1 a1_0 l1_1 a1_2) else ((shuttlecockref06_May.f k l0_0 l0_1).bind fun t219 => (shuttlecocklaw06_InternBack.j0 k (!t219) l0_0 l0_1 a1_0 l1_1 a1_2))) else (shuttlecocklaw06_InternBack.j0 k true l0_0 l0_1 a1_0 l1_1 a1_2))) else (shuttlecocklaw06_InternBack.j0 k true l0_0 l0_1 a1_0 l1_1 a1_2))) else (shuttlecocklaw06_InternBack.j0 k true l0_0 l0_1 a1_0 l1_1 a1_2))
theorem shuttlecocklaw06_InternBack.mono_l : ∀ k, (∀ y0 y1 y2 y3 y4 y5, LeO (shuttlecocklaw06_InternBack.j0 k y0 y1 y2 y3 y4 y5) (shuttlecocklaw06_InternBack.j0 (k + 1) y0 y1 y2 y3 y4 y5)) ∧ (∀ y0 y1 y2 y3 y4 y5 y6 y7, LeO (shuttlecocklaw06_InternBack.j1 k y0 y1 y2 y3 y4 y5 y6 y7) (shuttlecocklaw06_InternBack.j1 (k + 1) y0 y1 y2 y3 y4 y5 y6 y7)) ∧ (∀ y0 y1 y2 y3 y4 y5 y6 y7 y8 y9 y10 y11 y12 y13, LeO (shuttlecocklaw06_InternBack.l0 k y0 y1 y2 y3 y4 y5 y6 y7 y8 y9 y10 y11 y12 y13) (shuttlecocklaw06_InternBack.l0 (k + 1) y0 y1 y2 y3 y4 y5 y6 y7 y8 y9 y10 y11 y12 y13)) ∧ (∀ y0 y1 y2 y3 y4 y5 y6 y7 y8 y9 y10 y11 y12 y13, LeO (shuttlecocklaw06_InternBack.l1 k y0 y1 y2 y3 y4 y5 y6 y7 y8 y9 y10 y11 y12 y13) (shuttlecocklaw06_InternBack.l1 (k + 1) y0 y1 y2 y3 y4 y5 y6 y7 y8 y9 y10 y11 y12 y13))
 | 0 => ⟨fun _ _ _ _ _ _ r h => by simp [shuttlecocklaw06_InternBack.j0] at h, fun _ _ _ _ _ _ _ _ r h => by simp [shuttlecocklaw06_InternBack.j1] at h, fun _ _ _ _ _ _ _ _ _ _ _ _ _ _ r h => by simp [shuttlecocklaw06_InternBack.l0] at h, fun _ _ _ _ _ _ _ _ _ _ _ _ _ _ r h => by simp [shuttlecocklaw06_InternBack.l1] at h⟩
 | k + 1 => by
  obtain ⟨ih0, ih1, ih2, ih3⟩ := shuttlecocklaw06_InternBack.mono_l k
  refine ⟨?_, ?_, ?_, ?_⟩
  ·
   intro y0 y1 y2 y3 y4 y5
   unfold shuttlecocklaw06_InternBack.j0
   repeat' first
   | (with_reducible exact ih0 _ _ _ _ _ _)
   | (with_reducible exact ih1 _ _ _ _ _ _ _ _)
   | (with_reducible exact ih2 _ _ _ _ _ _ _ _ _ _ _ _ _ _)
   | (with_reducible exact ih3 _ _ _ _ _ _ _ _ _ _ _ _ _ _)
   | (with_reducible exact intern_Frames.mono _ _ _ _)
   | (with_reducible exact intern_May.mono _ _ _)
   | (with_reducible exact intern_Name.mono _ _ _ _)
   | (with_reducible exact intern_Stack.mono _ _ _ _)
   | (with_reducible exact intern_String.mono _ _ _ _)
   | (with_reducible exact shuttlecocklaw06_fixed.mono _)
   | (with_reducible exact shuttlecockref06_Few.mono _ _)
   | (with_reducible exact shuttlecockref06_May.mono _ _ _)
   | (with_reducible exact shuttlecockref06_Same.mono _ _ _ _ _)
   | (with_reducible exact shuttlecockref06_SameFrames.mono _ _ _)
   | (with_reducible exact shuttlecockref06_Small.mono _ _ _)
   | (with_reducible exact LeO.refl _)
   | (with_reducible exact LeO.none _)
   | (with_reducible refine LeO.ite ?_ ?_)
   | (with_reducible refine LeO.bind ?_ (fun _ => ?_))
   | exact ih0 _ _ _ _ _ _
   | exact ih1 _ _ _ _ _ _ _ _
   | exact ih2 _ _ _ _ _ _ _ _ _ _ _ _ _ _
   | exact ih3 _ _ _ _ _ _ _ _ _ _ _ _ _ _
   | exact intern_Frames.mono _ _ _ _
   | exact intern_May.mono _ _ _
   | exact intern_Name.mono _ _ _ _
   | exact intern_Stack.mono _ _ _ _
   | exact intern_String.mono _ _ _ _
   | exact shuttlecocklaw06_fixed.mono _
   | exact shuttlecockref06_Few.mono _ _
   | exact shuttlecockref06_May.mono _ _ _
   | exact shuttlecockref06_Same.mono _ _ _ _ _
   | exact shuttlecockref06_SameFrames.mono _ _ _
   | exact shuttlecockref06_Small.mono _ _ _
   | exact LeO.none _
   | refine LeO.ite ?_ ?_
   | refine LeO.bind ?_ (fun _ => ?_)
  ·
   intro y0 y1 y2 y3 y4 y5 y6 y7
   unfold shuttlecocklaw06_InternBack.j1
   repeat' first
   | (with_reducible exact ih0 _ _ _ _ _ _)
   | (with_reducible exact ih1 _ _ _ _ _ _ _ _)
   | (with_reducible exact ih2 _ _ _ _ _ _ _ _ _ _ _ _ _ _)
   | (with_reducible exact ih3 _ _ _ _ _ _ _ _ _ _ _ _ _ _)
   | (with_reducible exact intern_Frames.mono _ _ _ _)
   | (with_reducible exact intern_May.mono _ _ _)
   | (with_reducible exact intern_Name.mono _ _ _ _)
   | (with_reducible exact intern_Stack.mono _ _ _ _)
   | (with_reducible exact intern_String.mono _ _ _ _)
   | (with_reducible exact shuttlecocklaw06_fixed.mono _)
   | (with_reducible exact shuttlecockref06_Few.mono _ _)
   | (with_reducible exact shuttlecockref06_May.mono _ _ _)
   | (with_reducible exact shuttlecockref06_Same.mono _ _ _ _ _)
   | (with_reducible exact shuttlecockref06_SameFrames.mono _ _ _)
   | (with_reducible exact shuttlecockref06_Small.mono _ _ _)
   | (with_reducible exact LeO.refl _)
   | (with_reducible exact LeO.none _)
   | (with_reducible refine LeO.ite ?_ ?_)
   | (with_reducible refine LeO.bind ?_ (fun _ => ?_))
   | exact ih0 _ _ _ _ _ _
   | exact ih1 _ _ _ _ _ _ _ _
   | exact ih2 _ _ _ _ _ _ _ _ _ _ _ _ _ _
   | exact ih3 _ _ _ _ _ _ _ _ _ _ _ _ _ _
   | exact intern_Frames.mono _ _ _ _
   | exact intern_May.mono _ _ _
   | exact intern_Name.mono _ _ _ _
   | exact intern_Stack.mono _ _ _ _
   | exact intern_String.mono _ _ _ _
   | exact shuttlecocklaw06_fixed.mono _
   | exact shuttlecockref06_Few.mono _ _
   | exact shuttlecockref06_May.mono _ _ _
   | exact shuttlecockref06_Same.mono _ _ _ _ _
   | exact shuttlecockref06_SameFrames.mono _ _ _
   | exact shuttlecockref06_Small.mono _ _ _
   | exact LeO.none _
   | refine LeO.ite ?_ ?_
   | refine LeO.bind ?_ (fun _ => ?_)
  ·
   intro y0 y1 y2 y3 y4 y5 y6 y7 y8 y9 y10 y11 y12 y13
   unfold shuttlecocklaw06_InternBack.l0
   repeat' first
   | (with_reducible exact ih0 _ _ _ _ _ _)
   | (with_reducible exact ih1 _ _ _ _ _ _ _ _)
   | (with_reducible exact ih2 _ _ _ _ _ _ _ _ _ _ _ _ _ _)
   | (with_reducible exact ih3 _ _ _ _ _ _ _ _ _ _ _ _ _ _)
   | (with_reducible exact intern_Frames.mono _ _ _ _)
   | (with_reducible exact intern_May.mono _ _ _)
   | (with_reducible exact intern_Name.mono _ _ _ _)
   | (with_reducible exact intern_Stack.mono _ _ _ _)
   | (with_reducible exact intern_String.mono _ _ _ _)
   | (with_reducible exact shuttlecocklaw06_fixed.mono _)
   | (with_reducible exact shuttlecockref06_Few.mono _ _)
   | (with_reducible exact shuttlecockref06_May.mono _ _ _)
   | (with_reducible exact shuttlecockref06_Same.mono _ _ _ _ _)
   | (with_reducible exact shuttlecockref06_SameFrames.mono _ _ _)
   | (with_reducible exact shuttlecockref06_Small.mono _ _ _)
   | (with_reducible exact LeO.refl _)
   | (with_reducible exact LeO.none _)
   | (with_reducible refine LeO.ite ?_ ?_)
   | (with_reducible refine LeO.bind ?_ (fun _ => ?_))
   | exact ih0 _ _ _ _ _ _
   | exact ih1 _ _ _ _ _ _ _ _
   | exact ih2 _ _ _ _ _ _ _ _ _ _ _ _ _ _
   | exact ih3 _ _ _ _ _ _ _ _ _ _ _ _ _ _
   | exact intern_Frames.mono _ _ _ _
   | exact intern_May.mono _ _ _
   | exact intern_Name.mono _ _ _ _
   | exact intern_Stack.mono _ _ _ _
   | exact intern_String.mono _ _ _ _
   | exact shuttlecocklaw06_fixed.mono _
   | exact shuttlecockref06_Few.mono _ _
   | exact shuttlecockref06_May.mono _ _ _
   | exact shuttlecockref06_Same.mono _ _ _ _ _
   | exact shuttlecockref06_SameFrames.mono _ _ _
   | exact shuttlecockref06_Small.mono _ _ _
   | exact LeO.none _
   | refine LeO.ite ?_ ?_
   | refine LeO.bind ?_ (fun _ => ?_)
  ·
   intro y0 y1 y2 y3 y4 y5 y6 y7 y8 y9 y10 y11 y12 y13
   unfold shuttlecocklaw06_InternBack.l1
   repeat' first
   | (with_reducible exact ih0 _ _ _ _ _ _)
   | (with_reducible exact ih1 _ _ _ _ _ _ _ _)
   | (with_reducible exact ih2 _ _ _ _ _ _ _ _ _ _ _ _ _ _)
   | (with_reducible exact ih3 _ _ _ _ _ _ _ _ _ _ _ _ _ _)
   | (with_reducible exact intern_Frames.mono _ _ _ _)
   | (with_reducible exact intern_May.mono _ _ _)
   | (with_reducible exact intern_Name.mono _ _ _ _)
   | (with_reducible exact intern_Stack.mono _ _ _ _)
   | (with_reducible exact intern_String.mono _ _ _ _)
   | (with_reducible exact shuttlecocklaw06_fixed.mono _)
   | (with_reducible exact shuttlecockref06_Few.mono _ _)
   | (with_reducible exact shuttlecockref06_May.mono _ _ _)
   | (with_reducible exact shuttlecockref06_Same.mono _ _ _ _ _)
   | (with_reducible exact shuttlecockref06_SameFrames.mono _ _ _)
   | (with_reducible exact shuttlecockref06_Small.mono _ _ _)
   | (with_reducible exact LeO.refl _)
   | (with_reducible exact LeO.none _)
   | (with_reducible refine LeO.ite ?_ ?_)
   | (with_reducible refine LeO.bind ?_ (fun _ => ?_))
   | exact ih0 _ _ _ _ _ _
   | exact ih1 _ _ _ _ _ _ _ _
   | exact ih2 _ _ _ _ _ _ _ _ _ _ _ _ _ _
   | exact ih3 _ _ _ _ _ _ _ _ _ _ _ _ _ _
   | exact intern_Frames.mono _ _ _ _
   | exact intern_May.mono _ _ _
   | exact intern_Name.mono _ _ _ _
   | exact intern_Stack.mono _ _ _ _
   | exact intern_String.mono _ _ _ _
   | exact shuttlecocklaw06_fixed.mono _
   | exact shuttlecockref06_Few.mono _ _
   | exact shuttlecockref06_May.mono _ _ _
   | exact shuttlecockref06_Same.mono _ _ _ _ _
   | exact shuttlecockref06_SameFrames.mono _ _ _
   | exact shuttlecockref06_Small.mono _ _ _
   | exact LeO.none _
   | refine LeO.ite ?_ ?_
   | refine LeO.bind ?_ (fun _ => ?_)
theorem shuttlecocklaw06_InternBack.mono : ∀ a0 a1 a2 a3 a4 k, LeO (shuttlecocklaw06_InternBack.f k a0 a1 a2 a3 a4) (shuttlecocklaw06_InternBack.f (k + 1) a0 a1 a2 a3 a4) := by
 intro a0 a1 a2 a3 a4 k
 obtain ⟨ih0, ih1, ih2, ih3⟩ := shuttlecocklaw06_InternBack.mono_l k
 unfold shuttlecocklaw06_InternBack.f
 repeat' first
   | (with_reducible exact ih0 _ _ _ _ _ _)
   | (with_reducible exact ih1 _ _ _ _ _ _ _ _)
   | (with_reducible exact ih2 _ _ _ _ _ _ _ _ _ _ _ _ _ _)
   | (with_reducible exact ih3 _ _ _ _ _ _ _ _ _ _ _ _ _ _)
   | (with_reducible exact intern_Frames.mono _ _ _ _)
   | (with_reducible exact intern_May.mono _ _ _)
   | (with_reducible exact intern_Name.mono _ _ _ _)
   | (with_reducible exact intern_Stack.mono _ _ _ _)
   | (with_reducible exact intern_String.mono _ _ _ _)
   | (with_reducible exact shuttlecocklaw06_fixed.mono _)
   | (with_reducible exact shuttlecockref06_Few.mono _ _)
   | (with_reducible exact shuttlecockref06_May.mono _ _ _)
   | (with_reducible exact shuttlecockref06_Same.mono _ _ _ _ _)
   | (with_reducible exact shuttlecockref06_SameFrames.mono _ _ _)
   | (with_reducible exact shuttlecockref06_Small.mono _ _ _)
   | (with_reducible exact LeO.refl _)
   | (with_reducible exact LeO.none _)
   | (with_reducible refine LeO.ite ?_ ?_)
   | (with_reducible refine LeO.bind ?_ (fun _ => ?_))
   | exact ih0 _ _ _ _ _ _
   | exact ih1 _ _ _ _ _ _ _ _
   | exact ih2 _ _ _ _ _ _ _ _ _ _ _ _ _ _
   | exact ih3 _ _ _ _ _ _ _ _ _ _ _ _ _ _
   | exact intern_Frames.mono _ _ _ _
   | exact intern_May.mono _ _ _
   | exact intern_Name.mono _ _ _ _
   | exact intern_Stack.mono _ _ _ _
   | exact intern_String.mono _ _ _ _
   | exact shuttlecocklaw06_fixed.mono _
   | exact shuttlecockref06_Few.mono _ _
   | exact shuttlecockref06_May.mono _ _ _
   | exact shuttlecockref06_Same.mono _ _ _ _ _
   | exact shuttlecockref06_SameFrames.mono _ _ _
   | exact shuttlecockref06_Small.mono _ _ _
   | exact LeO.none _
   | refine LeO.ite ?_ ?_
   | refine LeO.bind ?_ (fun _ => ?_)
set_option maxHeartbeats 8000000 in
set_option maxRecDepth 100000 in
theorem shuttlecocklaw06_InternBack.calls (k : Nat) (A0_0 : Option Addr) (c0_0 : Nat) (l0_0 : List ByteArray) (A0_1 : Option Addr) (c0_1 : Nat) (l0_1 : List (List (S50))) (a1_0 : ByteArray) (A1_1 : Option Addr) (c1_1 : Nat) (l1_1 : List (S45)) (a1_2 : Int) (r : Bool) (w : World) (hr0_0 : Kd.C Kd.string w A0_0 l0_0.length l0_0) (hc0_0 : l0_0.length ≤ c0_0) (hr0_1 : Kd.C (Kd.slice 50 k50) w A0_1 l0_1.length l0_1) (hc0_1 : l0_1.length ≤ c0_1) (hr1_1 : Kd.C k45 w A1_1 l1_1.length l1_1) (hc1_1 : l1_1.length ≤ c1_1) (h : shuttlecocklaw06_InternBack.f k l0_0 l0_1 a1_0 l1_1 a1_2 = some r) :
  Calls Try.prog 4 #[.agg #[.slice A0_0 l0_0.length c0_0, .slice A0_1 l0_1.length c0_1], .agg #[.string a1_0, .slice A1_1 l1_1.length c1_1, .int .i64 a1_2]] w fun e w' => e = .returned (.bool r) ∧ Below w.heap.size w w' := by
 have hu25 := Try.underlying25
 have hu28 := Try.underlying28
 have HR0_0 := Am hr0_0
 have HC0_0 := Am hc0_0
 clear hr0_0 hc0_0
 have HR0_1 := Am hr0_1
 have HC0_1 := Am hc0_1
 clear hr0_1 hc0_1
 have HR1_1 := Am hr1_1
 have HC1_1 := Am hc1_1
 clear hr1_1 hc1_1
 have HB := Am (Below.refl w.heap.size w)
 have H : ((shuttlecocklaw06_fixed.f k).bind fun t216 => (if t216 = true then ((shuttlecockref06_Small.f k l0_0 l0_1).bind fun t217 => (if t217 = true then ((shuttlecockref06_Few.f k l1_1).bind fun t218 => (if t218 = true then (if (a1_0.size : Int) > 1000 then (shuttlecocklaw06_InternBack.j0 k true l0_0 l0_1 a1_0 l1_1 a1_2) else ((shuttlecockref06_May.f k l0_0 l0_1).bind fun t219 => (shuttlecocklaw06_InternBack.j0 k (!t219) l0_0 l0_1 a1_0 l1_1 a1_2))) else (shuttlecocklaw06_InternBack.j0 k true l0_0 l0_1 a1_0 l1_1 a1_2))) else (shuttlecocklaw06_InternBack.j0 k true l0_0 l0_1 a1_0 l1_1 a1_2))) else (shuttlecocklaw06_InternBack.j0 k true l0_0 l0_1 a1_0 l1_1 a1_2))) = some r := h
 clear h
 have HC3 := Am H
 clear H
 go_enter Try.func4, Try.ntmps4
 go_upto_region 1 with (first | ((with_reducible refine gate_dst (N := 2) rfl ?_); (try (refine gate_guard (by rfl) ?_; dsimp only)); refine box_event ?hg (N := 2) ?hd (cs := #[.slice A0_0 l0_0.length c0_0, .slice A0_1 l0_1.length c0_1]) (t := 25) ?hr ?_; (case hd => rfl); (case hg => rfl); (case hr => first | (go_simp; done) | (go_simp; rfl)); intro gb214 hg w4 hbox hb; have n0_ := Am (below_step (by repeat (first | (with_reducible first | exact HB.out | apply bl | apply pN | apply b1) | exact HB.out | exact HBo.out)) hb); have n1_ := Am (hbox); have n2_ := Am ((by rw [hg]; exact (below_size (by repeat (first | (with_reducible first | exact HB.out | apply bl | apply pN | apply b1) | exact HB.out | exact HBo.out))) : w.heap.size ≤ gb214)); have n3_ := Am ((by rw [hg]; exact (below_size (by repeat (first | (with_reducible first | exact HB.out | apply bl | apply pN | apply b1) | exact HB.out | exact HBo.out))) : w.heap.size ≤ gb214)); clear HB; have HB := n0_; have BK214 := n1_; have GW214 := n2_; have GE214 := n3_; clear n0_ n1_ n2_ n3_; clear hb hbox hg) | ((with_reducible refine gate_dst (N := 3) rfl ?_); (try (refine gate_guard (by rfl) ?_; dsimp only)); refine box_event ?hg (N := 3) ?hd (cs := #[.string a1_0, .slice A1_1 l1_1.length c1_1, .int .i64 a1_2]) (t := 28) ?hr ?_; (case hd => rfl); (case hg => rfl); (case hr => first | (go_simp; done) | (go_simp; rfl)); intro gb215 hg w5 hbox hb; have n0_ := Am (blk_below (g := gb214) (o := .cells #[.slice A0_0 l0_0.length c0_0, .slice A0_1 l0_1.length c0_1] 25 (0, 0)) (by (with_reducible repeat (first | refine bn ?_ _ | refine bd ?_ | refine ba ?_ _)); exact BK214.out) hb); have n1_ := Am (below_step (by repeat (first | (with_reducible first | exact HB.out | apply bl | apply pN | apply b1 | refine bs ?_ GE214.out) | exact HB.out | exact HBo.out)) hb); have n2_ := Am (hbox); have n3_ := Am ((by rw [hg]; exact (below_size (by repeat (first | (with_reducible first | exact HB.out | apply bl | apply pN | apply b1 | refine bs ?_ GE214.out) | exact HB.out | exact HBo.out))) : w.heap.size ≤ gb215)); have n4_ := Am ((by rw [hg]; exact (below_size (by repeat (first | (with_reducible first | exact HB.out | apply bl | apply pN | apply b1 | refine bs ?_ GE214.out) | exact HB.out | exact HBo.out))) : w.heap.size ≤ gb215)); have n5_ := Am ((by rw [hg]; exact Nat.ne_of_lt (blk_lt (g := gb214) (o := .cells #[.slice A0_0 l0_0.length c0_0, .slice A0_1 l0_1.length c0_1] 25 (0, 0)) (by (with_reducible repeat (first | refine bn ?_ _ | refine bd ?_ | refine ba ?_ _)); exact BK214.out)) : gb214 ≠ gb215)); have n6_ := Am ((by rw [hg]; exact Nat.ne_of_gt (blk_lt (g := gb214) (o := .cells #[.slice A0_0 l0_0.length c0_0, .slice A0_1 l0_1.length c0_1] 25 (0, 0)) (by (with_reducible repeat (first | refine bn ?_ _ | refine bd ?_ | refine ba ?_ _)); exact BK214.out)) : gb215 ≠ gb214)); clear BK214; clear HB; have BK214 := n0_; have HB := n1_; have BK215 := n2_; have GW215 := n3_; have GE215 := n4_; have NB214_215 := n5_; have NB215_214 := n6_; clear n0_ n1_ n2_ n3_ n4_ n5_ n6_; clear hb hbox hg))
 (try simp only [Act.put, sI, sZ, sS])
 go_cut [50] (fun v50 wc => ∃ (kq : Nat) (x50_2 : Bool), v50 = .bool x50_2 ∧ Aside0 (shuttlecocklaw06_InternBack.j0 kq x50_2 l0_0 l0_1 a1_0 l1_1 a1_2 = some r) ∧ Aside0 (kq ≤ k) ∧ Aside0 (wc.heap[gb214]? = some (.cells #[(.slice A0_0 l0_0.length c0_0), (.slice A0_1 l0_1.length c0_1)] 25 (0, 0))) ∧ Aside0 (wc.heap[gb215]? = some (.cells #[.string a1_0, (.slice A1_1 l1_1.length c1_1), .int .i64 a1_2] 28 (0, 0))) ∧ Aside0 (Below w.heap.size w wc))
 case first =>
  have H := HC3.out
  clear HC3
  replace H := ob H
  obtain ⟨t216, A60, H⟩ := H
  replace H : (if t216 = true then ((shuttlecockref06_Small.f k l0_0 l0_1).bind fun t217 => (if t217 = true then ((shuttlecockref06_Few.f k l1_1).bind fun t218 => (if t218 = true then (if (a1_0.size : Int) > 1000 then (shuttlecocklaw06_InternBack.j0 k true l0_0 l0_1 a1_0 l1_1 a1_2) else ((shuttlecockref06_May.f k l0_0 l0_1).bind fun t219 => (shuttlecocklaw06_InternBack.j0 k (!t219) l0_0 l0_1 a1_0 l1_1 a1_2))) else (shuttlecocklaw06_InternBack.j0 k true l0_0 l0_1 a1_0 l1_1 a1_2))) else (shuttlecocklaw06_InternBack.j0 k true l0_0 l0_1 a1_0 l1_1 a1_2))) else (shuttlecocklaw06_InternBack.j0 k true l0_0 l0_1 a1_0 l1_1 a1_2)) = some r := H
  have A6 := Am A60
  clear A60
  by_cases c7 : t216 = true
  ·
   subst c7
   have H1 : ((shuttlecockref06_Small.f k l0_0 l0_1).bind fun t217 => (if t217 = true then ((shuttlecockref06_Few.f k l1_1).bind fun t218 => (if t218 = true then (if (a1_0.size : Int) > 1000 then (shuttlecocklaw06_InternBack.j0 k true l0_0 l0_1 a1_0 l1_1 a1_2) else ((shuttlecockref06_May.f k l0_0 l0_1).bind fun t219 => (shuttlecocklaw06_InternBack.j0 k (!t219) l0_0 l0_1 a1_0 l1_1 a1_2))) else (shuttlecocklaw06_InternBack.j0 k true l0_0 l0_1 a1_0 l1_1 a1_2))) else (shuttlecocklaw06_InternBack.j0 k true l0_0 l0_1 a1_0 l1_1 a1_2))) = some r := by rw [if_pos rfl] at H; exact H
   clear H
   have H := H1
   clear H1
   replace H := ob H
   obtain ⟨t217, A80, H⟩ := H
   replace H : (if t217 = true then ((shuttlecockref06_Few.f k l1_1).bind fun t218 => (if t218 = true then (if (a1_0.size : Int) > 1000 then (shuttlecocklaw06_InternBack.j0 k true l0_0 l0_1 a1_0 l1_1 a1_2) else ((shuttlecockref06_May.f k l0_0 l0_1).bind fun t219 => (shuttlecocklaw06_InternBack.j0 k (!t219) l0_0 l0_1 a1_0 l1_1 a1_2))) else (shuttlecocklaw06_InternBack.j0 k true l0_0 l0_1 a1_0 l1_1 a1_2))) else (shuttlecocklaw06_InternBack.j0 k true l0_0 l0_1 a1_0 l1_1 a1_2)) = some r := H
   have A8 := Am A80
   clear A80
   by_cases c9 : t217 = true
   ·
    subst c9
    have H1 : ((shuttlecockref06_Few.f k l1_1).bind fun t218 => (if t218 = true then (if (a1_0.size : Int) > 1000 then (shuttlecocklaw06_InternBack.j0 k true l0_0 l0_1 a1_0 l1_1 a1_2) else ((shuttlecockref06_May.f k l0_0 l0_1).bind fun t219 => (shuttlecocklaw06_InternBack.j0 k (!t219) l0_0 l0_1 a1_0 l1_1 a1_2))) else (shuttlecocklaw06_InternBack.j0 k true l0_0 l0_1 a1_0 l1_1 a1_2))) = some r := by rw [if_pos rfl] at H; exact H
    clear H
    have H := H1
    clear H1
    replace H := ob H
    obtain ⟨t218, A100, H⟩ := H
    replace H : (if t218 = true then (if (a1_0.size : Int) > 1000 then (shuttlecocklaw06_InternBack.j0 k true l0_0 l0_1 a1_0 l1_1 a1_2) else ((shuttlecockref06_May.f k l0_0 l0_1).bind fun t219 => (shuttlecocklaw06_InternBack.j0 k (!t219) l0_0 l0_1 a1_0 l1_1 a1_2))) else (shuttlecocklaw06_InternBack.j0 k true l0_0 l0_1 a1_0 l1_1 a1_2)) = some r := H
    have A10 := Am A100
    clear A100
    by_cases c11 : t218 = true
    ·
     subst c11
     have H1 : (if (a1_0.size : Int) > 1000 then (shuttlecocklaw06_InternBack.j0 k true l0_0 l0_1 a1_0 l1_1 a1_2) else ((shuttlecockref06_May.f k l0_0 l0_1).bind fun t219 => (shuttlecocklaw06_InternBack.j0 k (!t219) l0_0 l0_1 a1_0 l1_1 a1_2))) = some r := by rw [if_pos rfl] at H; exact H
     clear H
     have H := H1
     clear H1
     by_cases c12 : (a1_0.size : Int) > 1000
     ·
      rw [if_pos c12] at H
      have c12b0 : decide (1000 < (a1_0.size : Int)) = true := decide_eq_true c12
      have c12b1 : decide (1000 < a1_0.size) = true := decide_eq_true (by omega)
      clear c12
      (first | rw [c12b0] | (simp only [i64_w, i32_w]; rw [c12b0]) | skip)
      have H' := Am H
      clear H
      go_wp2_with (first | ((with_reducible refine gate_callee (f := 10) rfl ?_); refine goesL_ (some 27) rfl rfl Try.func10 (by kernel_rfl) rfl #[] rfl (by (try simp only [List.map_toArray, List.map_cons, List.map_nil]); first | done | rfl | (simp only [List.length_drop, List.length_take]; rfl)) ?_; (with_reducible refine (shuttlecocklaw06_fixed.calls k  true _ A6.out).mono ?_); rintro e w13 ⟨rfl, hb⟩; refine ⟨_, rfl, ?_⟩; have n0_ := Am (blk_below (g := gb214) (o := .cells #[.slice A0_0 l0_0.length c0_0, .slice A0_1 l0_1.length c0_1] 25 (0, 0)) (by (with_reducible repeat (first | refine bn ?_ _ | refine bd ?_ | refine ba ?_ _)); exact BK214.out) hb); have n1_ := Am (blk_below (g := gb215) (o := .cells #[.string a1_0, .slice A1_1 l1_1.length c1_1, .int .i64 a1_2] 28 (0, 0)) (by (with_reducible repeat (first | refine bn ?_ _ | refine bd ?_ | refine ba ?_ _)); exact BK215.out) hb); have n2_ := Am (below_step (by repeat (first | (with_reducible first | exact HB.out | apply bl | apply pN | apply b1 | refine bs ?_ GE214.out | refine bs ?_ GE215.out) | exact HB.out | exact HBo.out)) hb); clear BK214; clear BK215; clear HB; have BK214 := n0_; have BK215 := n1_; have HB := n2_; clear n0_ n1_ n2_; (try clear hb); (try clear hb2); (try clear hk); (try clear hi); have hnb14 := NB214_215.out; have hnc14 := NB215_214.out; have hcz15_0 : w13.cell? ⟨gb214, 0, none⟩ = some (.slice A0_0 l0_0.length c0_0) := (bc BK214.out 0).trans rfl; have hcz15_1 : w13.cell? ⟨gb214, 1, none⟩ = some (.slice A0_1 l0_1.length c0_1) := (bc BK214.out 1).trans rfl; have hfz15_0 := bf BK214.out 0; have hfz15_1 := bf BK214.out 1) | (go_at_call 8; (with_reducible refine (shuttlecockref06_Small.calls k _ _ l0_0 _ _ l0_1 true _ ?side1 ?side2 ?side3 ?side4 A8.out).mono ?_); (case side1 => repeat (first | exact (Kd.C_below HR0_0.out HB.out) | (with_reducible refine Kd.C_alloc ?_ _) | (with_reducible refine Kd.C_drewN ?_ _) | (with_reducible refine Kd.C_drew ?_))); (case side2 => exact HC0_0.out); (case side3 => repeat (first | exact (Kd.C_below HR0_1.out HB.out) | (with_reducible refine Kd.C_alloc ?_ _) | (with_reducible refine Kd.C_drewN ?_ _) | (with_reducible refine Kd.C_drew ?_))); (case side4 => exact HC0_1.out); rintro e w16 ⟨rfl, hb⟩; have n0_ := Am (blk_below (g := gb214) (o := .cells #[.slice A0_0 l0_0.length c0_0, .slice A0_1 l0_1.length c0_1] 25 (0, 0)) (by (with_reducible repeat (first | refine bn ?_ _ | refine bd ?_ | refine ba ?_ _)); exact BK214.out) hb); have n1_ := Am (blk_below (g := gb215) (o := .cells #[.string a1_0, .slice A1_1 l1_1.length c1_1, .int .i64 a1_2] 28 (0, 0)) (by (with_reducible repeat (first | refine bn ?_ _ | refine bd ?_ | refine ba ?_ _)); exact BK215.out) hb); have n2_ := Am (below_step (by repeat (first | (with_reducible first | exact HB.out | apply bl | apply pN | apply b1 | refine bs ?_ GE214.out | refine bs ?_ GE215.out) | exact HB.out | exact HBo.out)) hb); clear BK214; clear BK215; clear HB; have BK214 := n0_; have BK215 := n1_; have HB := n2_; clear n0_ n1_ n2_; (try clear hb); (try clear hb2); (try clear hk); (try clear hi); have hcz17_0 : w16.cell? ⟨gb215, 0, none⟩ = some (.string a1_0) := (bc BK215.out 0).trans rfl; have hcz17_1 : w16.cell? ⟨gb215, 1, none⟩ = some (.slice A1_1 l1_1.length c1_1) := (bc BK215.out 1).trans rfl; have hcz17_2 : w16.cell? ⟨gb215, 2, none⟩ = some (.int .i64 a1_2) := (bc BK215.out 2).trans rfl; have hfz17_0 := bf BK215.out 0; have hfz17_1 := bf BK215.out 1; have hfz17_2 := bf BK215.out 2) | (go_at_call 9; (with_reducible refine (shuttlecockref06_Few.calls k _ _ l1_1 true _ ?side1 ?side2 A10.out).mono ?_); (case side1 => repeat (first | exact (Kd.C_below HR1_1.out HB.out) | (with_reducible refine Kd.C_alloc ?_ _) | (with_reducible refine Kd.C_drewN ?_ _) | (with_reducible refine Kd.C_drew ?_))); (case side2 => exact HC1_1.out); rintro e w' ⟨rfl, ⟨nd, rfl⟩⟩))
      go_meet
      case rel => exact ⟨_, (true), (by first | rfl | (simp; done) | (simp [*]; done)), H', ⟨by first | omega | exact Nat.le_refl _⟩, ⟨by (with_reducible repeat (first | refine bn ?_ _ | refine bd ?_ | refine ba ?_ _)); exact BK214.out⟩, ⟨by (with_reducible repeat (first | refine bn ?_ _ | refine bd ?_ | refine ba ?_ _)); exact BK215.out⟩, ⟨by repeat (first | (with_reducible first | exact HB.out | apply bl | apply pN | apply b1 | refine bs ?_ GE214.out | refine bs ?_ GE215.out) | exact HB.out | exact HBo.out)⟩⟩
     ·
      rw [if_neg c12] at H
      have c12b0 : decide (1000 < (a1_0.size : Int)) = false := decide_eq_false c12
      have c12b1 : decide (1000 < a1_0.size) = false := decide_eq_false (by omega)
      clear c12
      (first | rw [c12b0] | (simp only [i64_w, i32_w]; rw [c12b0]) | skip)
      replace H := ob H
      obtain ⟨t219, A180, H⟩ := H
      replace H : (shuttlecocklaw06_InternBack.j0 k (!t219) l0_0 l0_1 a1_0 l1_1 a1_2) = some r := H
      have A18 := Am A180
      clear A180
      have H' := Am H
      clear H
      go_wp2_with (first | ((with_reducible refine gate_callee (f := 10) rfl ?_); refine goesL_ (some 27) rfl rfl Try.func10 (by kernel_rfl) rfl #[] rfl (by (try simp only [List.map_toArray, List.map_cons, List.map_nil]); first | done | rfl | (simp only [List.length_drop, List.length_take]; rfl)) ?_; (with_reducible refine (shuttlecocklaw06_fixed.calls k  true _ A6.out).mono ?_); rintro e w19 ⟨rfl, hb⟩; refine ⟨_, rfl, ?_⟩; have n0_ := Am (blk_below (g := gb214) (o := .cells #[.slice A0_0 l0_0.length c0_0, .slice A0_1 l0_1.length c0_1] 25 (0, 0)) (by (with_reducible repeat (first | refine bn ?_ _ | refine bd ?_ | refine ba ?_ _)); exact BK214.out) hb); have n1_ := Am (blk_below (g := gb215) (o := .cells #[.string a1_0, .slice A1_1 l1_1.length c1_1, .int .i64 a1_2] 28 (0, 0)) (by (with_reducible repeat (first | refine bn ?_ _ | refine bd ?_ | refine ba ?_ _)); exact BK215.out) hb); have n2_ := Am (below_step (by repeat (first | (with_reducible first | exact HB.out | apply bl | apply pN | apply b1 | refine bs ?_ GE214.out | refine bs ?_ GE215.out) | exact HB.out | exact HBo.out)) hb); clear BK214; clear BK215; clear HB; have BK214 := n0_; have BK215 := n1_; have HB := n2_; clear n0_ n1_ n2_; (try clear hb); (try clear hb2); (try clear hk); (try clear hi); have hnb20 := NB214_215.out; have hnc20 := NB215_214.out; have hcz21_0 : w19.cell? ⟨gb214, 0, none⟩ = some (.slice A0_0 l0_0.length c0_0) := (bc BK214.out 0).trans rfl; have hcz21_1 : w19.cell? ⟨gb214, 1, none⟩ = some (.slice A0_1 l0_1.length c0_1) := (bc BK214.out 1).trans rfl; have hfz21_0 := bf BK214.out 0; have hfz21_1 := bf BK214.out 1) | (go_at_call 8; (with_reducible refine (shuttlecockref06_Small.calls k _ _ l0_0 _ _ l0_1 true _ ?side1 ?side2 ?side3 ?side4 A8.out).mono ?_); (case side1 => repeat (first | exact (Kd.C_below HR0_0.out HB.out) | (with_reducible refine Kd.C_alloc ?_ _) | (with_reducible refine Kd.C_drewN ?_ _) | (with_reducible refine Kd.C_drew ?_))); (case side2 => exact HC0_0.out); (case side3 => repeat (first | exact (Kd.C_below HR0_1.out HB.out) | (with_reducible refine Kd.C_alloc ?_ _) | (with_reducible refine Kd.C_drewN ?_ _) | (with_reducible refine Kd.C_drew ?_))); (case side4 => exact HC0_1.out); rintro e w22 ⟨rfl, hb⟩; have n0_ := Am (blk_below (g := gb214) (o := .cells #[.slice A0_0 l0_0.length c0_0, .slice A0_1 l0_1.length c0_1] 25 (0, 0)) (by (with_reducible repeat (first | refine bn ?_ _ | refine bd ?_ | refine ba ?_ _)); exact BK214.out) hb); have n1_ := Am (blk_below (g := gb215) (o := .cells #[.string a1_0, .slice A1_1 l1_1.length c1_1, .int .i64 a1_2] 28 (0, 0)) (by (with_reducible repeat (first | refine bn ?_ _ | refine bd ?_ | refine ba ?_ _)); exact BK215.out) hb); have n2_ := Am (below_step (by repeat (first | (with_reducible first | exact HB.out | apply bl | apply pN | apply b1 | refine bs ?_ GE214.out | refine bs ?_ GE215.out) | exact HB.out | exact HBo.out)) hb); clear BK214; clear BK215; clear HB; have BK214 := n0_; have BK215 := n1_; have HB := n2_; clear n0_ n1_ n2_; (try clear hb); (try clear hb2); (try clear hk); (try clear hi); have hcz23_0 : w22.cell? ⟨gb215, 0, none⟩ = some (.string a1_0) := (bc BK215.out 0).trans rfl; have hcz23_1 : w22.cell? ⟨gb215, 1, none⟩ = some (.slice A1_1 l1_1.length c1_1) := (bc BK215.out 1).trans rfl; have hcz23_2 : w22.cell? ⟨gb215, 2, none⟩ = some (.int .i64 a1_2) := (bc BK215.out 2).trans rfl; have hfz23_0 := bf BK215.out 0; have hfz23_1 := bf BK215.out 1; have hfz23_2 := bf BK215.out 2) | (go_at_call 9; (with_reducible refine (shuttlecockref06_Few.calls k _ _ l1_1 true _ ?side1 ?side2 A10.out).mono ?_); (case side1 => repeat (first | exact (Kd.C_below HR1_1.out HB.out) | (with_reducible refine Kd.C_alloc ?_ _) | (with_reducible refine Kd.C_drewN ?_ _) | (with_reducible refine Kd.C_drew ?_))); (case side2 => exact HC1_1.out); rintro e w' ⟨rfl, ⟨nd, rfl⟩⟩; have hcz24_0 : w22.cell? ⟨gb214, 0, none⟩ = some (.slice A0_0 l0_0.length c0_0) := (bc BK214.out 0).trans rfl; have hcz24_1 : w22.cell? ⟨gb214, 1, none⟩ = some (.slice A0_1 l0_1.length c0_1) := (bc BK214.out 1).trans rfl; have hfz24_0 := bf BK214.out 0; have hfz24_1 := bf BK214.out 1) | (go_at_call 20; (with_reducible refine (shuttlecockref06_May.calls k _ _ l0_0 _ _ l0_1 t219 _ ?side1 ?side2 ?side3 ?side4 A18.out).mono ?_); (case side1 => repeat (first | exact (Kd.C_below HR0_0.out (by repeat (first | (with_reducible first | exact HB.out | apply bl | apply pN | apply b1 | refine bs ?_ GE214.out | refine bs ?_ GE215.out) | exact HB.out | exact HBo.out))) | (with_reducible refine Kd.C_alloc ?_ _) | (with_reducible refine Kd.C_drewN ?_ _) | (with_reducible refine Kd.C_drew ?_))); (case side2 => exact HC0_0.out); (case side3 => repeat (first | exact (Kd.C_below HR0_1.out (by repeat (first | (with_reducible first | exact HB.out | apply bl | apply pN | apply b1 | refine bs ?_ GE214.out | refine bs ?_ GE215.out) | exact HB.out | exact HBo.out))) | (with_reducible refine Kd.C_alloc ?_ _) | (with_reducible refine Kd.C_drewN ?_ _) | (with_reducible refine Kd.C_drew ?_))); (case side4 => exact HC0_1.out); rintro e w25 ⟨rfl, hb⟩; have n0_ := Am (blk_below (g := gb214) (o := .cells #[.slice A0_0 l0_0.length c0_0, .slice A0_1 l0_1.length c0_1] 25 (0, 0)) (by (with_reducible repeat (first | refine bn ?_ _ | refine bd ?_ | refine ba ?_ _)); exact BK214.out) hb); have n1_ := Am (blk_below (g := gb215) (o := .cells #[.string a1_0, .slice A1_1 l1_1.length c1_1, .int .i64 a1_2] 28 (0, 0)) (by (with_reducible repeat (first | refine bn ?_ _ | refine bd ?_ | refine ba ?_ _)); exact BK215.out) hb); have n2_ := Am (below_step (by repeat (first | (with_reducible first | exact HB.out | apply bl | apply pN | apply b1 | refine bs ?_ GE214.out | refine bs ?_ GE215.out) | exact HB.out | exact HBo.out)) hb); clear BK214; clear BK215; clear HB; have BK214 := n0_; have BK215 := n1_; have HB := n2_; clear n0_ n1_ n2_; (try clear hb); (try clear hb2); (try clear hk); (try clear hi)))
      go_meet
      case rel => exact ⟨_, (!t219), (by first | rfl | (simp; done) | (simp [*]; done)), H', ⟨by first | omega | exact Nat.le_refl _⟩, ⟨by (with_reducible repeat (first | refine bn ?_ _ | refine bd ?_ | refine ba ?_ _)); exact BK214.out⟩, ⟨by (with_reducible repeat (first | refine bn ?_ _ | refine bd ?_ | refine ba ?_ _)); exact BK215.out⟩, ⟨by repeat (first | (with_reducible first | exact HB.out | apply bl | apply pN | apply b1 | refine bs ?_ GE214.out | refine bs ?_ GE215.out) | exact HB.out | exact HBo.out)⟩⟩
    ·
     replace c11 := Bool.eq_false_iff.mpr c11
     subst c11
     have H1 : (shuttlecocklaw06_InternBack.j0 k true l0_0 l0_1 a1_0 l1_1 a1_2) = some r := by rw [if_neg (show ¬ (false = true) by decide)] at H; exact H
     clear H
     have H := H1
     clear H1
     have H' := Am H
     clear H
     go_wp2_with (first | ((with_reducible refine gate_callee (f := 10) rfl ?_); refine goesL_ (some 27) rfl rfl Try.func10 (by kernel_rfl) rfl #[] rfl (by (try simp only [List.map_toArray, List.map_cons, List.map_nil]); first | done | rfl | (simp only [List.length_drop, List.length_take]; rfl)) ?_; (with_reducible refine (shuttlecocklaw06_fixed.calls k  true _ A6.out).mono ?_); rintro e w26 ⟨rfl, hb⟩; refine ⟨_, rfl, ?_⟩; have n0_ := Am (blk_below (g := gb214) (o := .cells #[.slice A0_0 l0_0.length c0_0, .slice A0_1 l0_1.length c0_1] 25 (0, 0)) (by (with_reducible repeat (first | refine bn ?_ _ | refine bd ?_ | refine ba ?_ _)); exact BK214.out) hb); have n1_ := Am (blk_below (g := gb215) (o := .cells #[.string a1_0, .slice A1_1 l1_1.length c1_1, .int .i64 a1_2] 28 (0, 0)) (by (with_reducible repeat (first | refine bn ?_ _ | refine bd ?_ | refine ba ?_ _)); exact BK215.out) hb); have n2_ := Am (below_step (by repeat (first | (with_reducible first | exact HB.out | apply bl | apply pN | apply b1 | refine bs ?_ GE214.out | refine bs ?_ GE215.out) | exact HB.out | exact HBo.out)) hb); clear BK214; clear BK215; clear HB; have BK214 := n0_; have BK215 := n1_; have HB := n2_; clear n0_ n1_ n2_; (try clear hb); (try clear hb2); (try clear hk); (try clear hi); have hnb27 := NB214_215.out; have hnc27 := NB215_214.out; have hcz28_0 : w26.cell? ⟨gb214, 0, none⟩ = some (.slice A0_0 l0_0.length c0_0) := (bc BK214.out 0).trans rfl; have hcz28_1 : w26.cell? ⟨gb214, 1, none⟩ = some (.slice A0_1 l0_1.length c0_1) := (bc BK214.out 1).trans rfl; have hfz28_0 := bf BK214.out 0; have hfz28_1 := bf BK214.out 1) | (go_at_call 8; (with_reducible refine (shuttlecockref06_Small.calls k _ _ l0_0 _ _ l0_1 true _ ?side1 ?side2 ?side3 ?side4 A8.out).mono ?_); (case side1 => repeat (first | exact (Kd.C_below HR0_0.out HB.out) | (with_reducible refine Kd.C_alloc ?_ _) | (with_reducible refine Kd.C_drewN ?_ _) | (with_reducible refine Kd.C_drew ?_))); (case side2 => exact HC0_0.out); (case side3 => repeat (first | exact (Kd.C_below HR0_1.out HB.out) | (with_reducible refine Kd.C_alloc ?_ _) | (with_reducible refine Kd.C_drewN ?_ _) | (with_reducible refine Kd.C_drew ?_))); (case side4 => exact HC0_1.out); rintro e w29 ⟨rfl, hb⟩; have n0_ := Am (blk_below (g := gb214) (o := .cells #[.slice A0_0 l0_0.length c0_0, .slice A0_1 l0_1.length c0_1] 25 (0, 0)) (by (with_reducible repeat (first | refine bn ?_ _ | refine bd ?_ | refine ba ?_ _)); exact BK214.out) hb); have n1_ := Am (blk_below (g := gb215) (o := .cells #[.string a1_0, .slice A1_1 l1_1.length c1_1, .int .i64 a1_2] 28 (0, 0)) (by (with_reducible repeat (first | refine bn ?_ _ | refine bd ?_ | refine ba ?_ _)); exact BK215.out) hb); have n2_ := Am (below_step (by repeat (first | (with_reducible first | exact HB.out | apply bl | apply pN | apply b1 | refine bs ?_ GE214.out | refine bs ?_ GE215.out) | exact HB.out | exact HBo.out)) hb); clear BK214; clear BK215; clear HB; have BK214 := n0_; have BK215 := n1_; have HB := n2_; clear n0_ n1_ n2_; (try clear hb); (try clear hb2); (try clear hk); (try clear hi); have hcz30_0 : w29.cell? ⟨gb215, 0, none⟩ = some (.string a1_0) := (bc BK215.out 0).trans rfl; have hcz30_1 : w29.cell? ⟨gb215, 1, none⟩ = some (.slice A1_1 l1_1.length c1_1) := (bc BK215.out 1).trans rfl; have hcz30_2 : w29.cell? ⟨gb215, 2, none⟩ = some (.int .i64 a1_2) := (bc BK215.out 2).trans rfl; have hfz30_0 := bf BK215.out 0; have hfz30_1 := bf BK215.out 1; have hfz30_2 := bf BK215.out 2) | (go_at_call 9; (with_reducible refine (shuttlecockref06_Few.calls k _ _ l1_1 false _ ?side1 ?side2 A10.out).mono ?_); (case side1 => repeat (first | exact (Kd.C_below HR1_1.out HB.out) | (with_reducible refine Kd.C_alloc ?_ _) | (with_reducible refine Kd.C_drewN ?_ _) | (with_reducible refine Kd.C_drew ?_))); (case side2 => exact HC1_1.out); rintro e w' ⟨rfl, ⟨nd, rfl⟩⟩))
     go_meet
     case rel => exact ⟨_, (true), (by first | rfl | (simp; done) | (simp [*]; done)), H', ⟨by first | omega | exact Nat.le_refl _⟩, ⟨by (with_reducible repeat (first | refine bn ?_ _ | refine bd ?_ | refine ba ?_ _)); exact BK214.out⟩, ⟨by (with_reducible repeat (first | refine bn ?_ _ | refine bd ?_ | refine ba ?_ _)); exact BK215.out⟩, ⟨by repeat (first | (with_reducible first | exact HB.out | apply bl | apply pN | apply b1 | refine bs ?_ GE214.out | refine bs ?_ GE215.out) | exact HB.out | exact HBo.out)⟩⟩
   ·
    replace c9 := Bool.eq_false_iff.mpr c9
    subst c9
    have H1 : (shuttlecocklaw06_InternBack.j0 k true l0_0 l0_1 a1_0 l1_1 a1_2) = some r := by rw [if_neg (show ¬ (false = true) by decide)] at H; exact H
    clear H
    have H := H1
    clear H1
    have H' := Am H
    clear H
    go_wp2_with (first | ((with_reducible refine gate_callee (f := 10) rfl ?_); refine goesL_ (some 27) rfl rfl Try.func10 (by kernel_rfl) rfl #[] rfl (by (try simp only [List.map_toArray, List.map_cons, List.map_nil]); first | done | rfl | (simp only [List.length_drop, List.length_take]; rfl)) ?_; (with_reducible refine (shuttlecocklaw06_fixed.calls k  true _ A6.out).mono ?_); rintro e w31 ⟨rfl, hb⟩; refine ⟨_, rfl, ?_⟩; have n0_ := Am (blk_below (g := gb214) (o := .cells #[.slice A0_0 l0_0.length c0_0, .slice A0_1 l0_1.length c0_1] 25 (0, 0)) (by (with_reducible repeat (first | refine bn ?_ _ | refine bd ?_ | refine ba ?_ _)); exact BK214.out) hb); have n1_ := Am (blk_below (g := gb215) (o := .cells #[.string a1_0, .slice A1_1 l1_1.length c1_1, .int .i64 a1_2] 28 (0, 0)) (by (with_reducible repeat (first | refine bn ?_ _ | refine bd ?_ | refine ba ?_ _)); exact BK215.out) hb); have n2_ := Am (below_step (by repeat (first | (with_reducible first | exact HB.out | apply bl | apply pN | apply b1 | refine bs ?_ GE214.out | refine bs ?_ GE215.out) | exact HB.out | exact HBo.out)) hb); clear BK214; clear BK215; clear HB; have BK214 := n0_; have BK215 := n1_; have HB := n2_; clear n0_ n1_ n2_; (try clear hb); (try clear hb2); (try clear hk); (try clear hi); have hnb32 := NB214_215.out; have hnc32 := NB215_214.out; have hcz33_0 : w31.cell? ⟨gb214, 0, none⟩ = some (.slice A0_0 l0_0.length c0_0) := (bc BK214.out 0).trans rfl; have hcz33_1 : w31.cell? ⟨gb214, 1, none⟩ = some (.slice A0_1 l0_1.length c0_1) := (bc BK214.out 1).trans rfl; have hfz33_0 := bf BK214.out 0; have hfz33_1 := bf BK214.out 1) | (go_at_call 8; (with_reducible refine (shuttlecockref06_Small.calls k _ _ l0_0 _ _ l0_1 false _ ?side1 ?side2 ?side3 ?side4 A8.out).mono ?_); (case side1 => repeat (first | exact (Kd.C_below HR0_0.out HB.out) | (with_reducible refine Kd.C_alloc ?_ _) | (with_reducible refine Kd.C_drewN ?_ _) | (with_reducible refine Kd.C_drew ?_))); (case side2 => exact HC0_0.out); (case side3 => repeat (first | exact (Kd.C_below HR0_1.out HB.out) | (with_reducible refine Kd.C_alloc ?_ _) | (with_reducible refine Kd.C_drewN ?_ _) | (with_reducible refine Kd.C_drew ?_))); (case side4 => exact HC0_1.out); rintro e w34 ⟨rfl, hb⟩; have n0_ := Am (blk_below (g := gb214) (o := .cells #[.slice A0_0 l0_0.length c0_0, .slice A0_1 l0_1.length c0_1] 25 (0, 0)) (by (with_reducible repeat (first | refine bn ?_ _ | refine bd ?_ | refine ba ?_ _)); exact BK214.out) hb); have n1_ := Am (blk_below (g := gb215) (o := .cells #[.string a1_0, .slice A1_1 l1_1.length c1_1, .int .i64 a1_2] 28 (0, 0)) (by (with_reducible repeat (first | refine bn ?_ _ | refine bd ?_ | refine ba ?_ _)); exact BK215.out) hb); have n2_ := Am (below_step (by repeat (first | (with_reducible first | exact HB.out | apply bl | apply pN | apply b1 | refine bs ?_ GE214.out | refine bs ?_ GE215.out) | exact HB.out | exact HBo.out)) hb); clear BK214; clear BK215; clear HB; have BK214 := n0_; have BK215 := n1_; have HB := n2_; clear n0_ n1_ n2_; (try clear hb); (try clear hb2); (try clear hk); (try clear hi)))
    go_meet
    case rel => exact ⟨_, (true), (by first | rfl | (simp; done) | (simp [*]; done)), H', ⟨by first | omega | exact Nat.le_refl _⟩, ⟨by (with_reducible repeat (first | refine bn ?_ _ | refine bd ?_ | refine ba ?_ _)); exact BK214.out⟩, ⟨by (with_reducible repeat (first | refine bn ?_ _ | refine bd ?_ | refine ba ?_ _)); exact BK215.out⟩, ⟨by repeat (first | (with_reducible first | exact HB.out | apply bl | apply pN | apply b1 | refine bs ?_ GE214.out | refine bs ?_ GE215.out) | exact HB.out | exact HBo.out)⟩⟩
  ·
   replace c7 := Bool.eq_false_iff.mpr c7
   subst c7
   have H1 : (shuttlecocklaw06_InternBack.j0 k true l0_0 l0_1 a1_0 l1_1 a1_2) = some r := by rw [if_neg (show ¬ (false = true) by decide)] at H; exact H
   clear H
   have H := H1
   clear H1
   have H' := Am H
   clear H
   go_wp2_with (first | ((with_reducible refine gate_callee (f := 10) rfl ?_); refine goesL_ (some 27) rfl rfl Try.func10 (by kernel_rfl) rfl #[] rfl (by (try simp only [List.map_toArray, List.map_cons, List.map_nil]); first | done | rfl | (simp only [List.length_drop, List.length_take]; rfl)) ?_; (with_reducible refine (shuttlecocklaw06_fixed.calls k  false _ A6.out).mono ?_); rintro e w35 ⟨rfl, hb⟩; refine ⟨_, rfl, ?_⟩; have n0_ := Am (blk_below (g := gb214) (o := .cells #[.slice A0_0 l0_0.length c0_0, .slice A0_1 l0_1.length c0_1] 25 (0, 0)) (by (with_reducible repeat (first | refine bn ?_ _ | refine bd ?_ | refine ba ?_ _)); exact BK214.out) hb); have n1_ := Am (blk_below (g := gb215) (o := .cells #[.string a1_0, .slice A1_1 l1_1.length c1_1, .int .i64 a1_2] 28 (0, 0)) (by (with_reducible repeat (first | refine bn ?_ _ | refine bd ?_ | refine ba ?_ _)); exact BK215.out) hb); have n2_ := Am (below_step (by repeat (first | (with_reducible first | exact HB.out | apply bl | apply pN | apply b1 | refine bs ?_ GE214.out | refine bs ?_ GE215.out) | exact HB.out | exact HBo.out)) hb); clear BK214; clear BK215; clear HB; have BK214 := n0_; have BK215 := n1_; have HB := n2_; clear n0_ n1_ n2_; (try clear hb); (try clear hb2); (try clear hk); (try clear hi)))
   go_meet
   case rel => exact ⟨_, (true), (by first | rfl | (simp; done) | (simp [*]; done)), H', ⟨by first | omega | exact Nat.le_refl _⟩, ⟨by (with_reducible repeat (first | refine bn ?_ _ | refine bd ?_ | refine ba ?_ _)); exact BK214.out⟩, ⟨by (with_reducible repeat (first | refine bn ?_ _ | refine bd ?_ | refine ba ?_ _)); exact BK215.out⟩, ⟨by repeat (first | (with_reducible first | exact HB.out | apply bl | apply pN | apply b1 | refine bs ?_ GE214.out | refine bs ?_ GE215.out) | exact HB.out | exact HBo.out)⟩⟩
 case rest =>
  clear HC3
  try clear c1
  try clear c2
  try clear p2
  try clear c3
  try clear c4
  try clear c7
  try clear c9
  try clear c10
  try clear c11
  try clear c12
  try clear c12b0
  try clear c12b1
  try clear c14
  try clear c20
  try clear c27
  try clear c32
  try clear hcz15_0
  try clear hcz15_1
  try clear hcz17_0
  try clear hcz17_1
  try clear hcz17_2
  try clear hcz21_0
  try clear hcz21_1
  try clear hcz23_0
  try clear hcz23_1
  try clear hcz23_2
  try clear hcz24_0
  try clear hcz24_1
  try clear hcz28_0
  try clear hcz28_1
  try clear hcz30_0
  try clear hcz30_1
  try clear hcz30_2
  try clear hcz33_0
  try clear hcz33_1
  try clear hfz15_0
  try clear hfz15_1
  try clear hfz17_0
  try clear hfz17_1
  try clear hfz17_2
  try clear hfz21_0
  try clear hfz21_1
  try clear hfz23_0
  try clear hfz23_1
  try clear hfz23_2
  try clear hfz24_0
  try clear hfz24_1
  try clear hfz28_0
  try clear hfz28_1
  try clear hfz30_0
  try clear hfz30_1
  try clear hfz30_2
  try clear hfz33_0
  try clear hfz33_1
  obtain ⟨kq, x50_2, rfl, HA, HJ2, BK214, BK215, HB⟩ := hcut
  cases kq with
  | zero => exact absurd HA.out (by simp [shuttlecocklaw06_InternBack.j0])
  | succ kj2 =>
   have H := HA.out
   clear HA
   simp only [shuttlecocklaw06_InternBack.j0] at H
   by_cases c36 : x50_2 = true
   ·
    subst c36
    have H1 : ((shuttlecocklaw06_fixed.f kj2).bind fun t220 => (some t220)) = some r := by rw [if_pos rfl] at H; exact H
    clear H
    have H := H1
    clear H1
    replace H := ob H
    obtain ⟨t220, A370, H⟩ := H
    replace H : (some t220) = some r := H
    have A37 := Am A370
    clear A370
    obtain rfl := Option.some.inj H
    go_wp2_with (first | ((with_reducible refine gate_callee (f := 10) rfl ?_); refine goesL_ (some 51) rfl rfl Try.func10 (by kernel_rfl) rfl #[] rfl (by (try simp only [List.map_toArray, List.map_cons, List.map_nil]); first | done | rfl | (simp only [List.length_drop, List.length_take]; rfl)) ?_; (with_reducible refine (shuttlecocklaw06_fixed.calls kj2  t220 _ A37.out).mono ?_); rintro e w38 ⟨rfl, hb⟩; refine ⟨_, rfl, ?_⟩; have n0_ := Am (blk_below (g := gb214) (o := .cells #[.slice A0_0 l0_0.length c0_0, .slice A0_1 l0_1.length c0_1] 25 (0, 0)) (by (with_reducible repeat (first | refine bn ?_ _ | refine bd ?_ | refine ba ?_ _)); exact BK214.out) hb); have n1_ := Am (blk_below (g := gb215) (o := .cells #[.string a1_0, .slice A1_1 l1_1.length c1_1, .int .i64 a1_2] 28 (0, 0)) (by (with_reducible repeat (first | refine bn ?_ _ | refine bd ?_ | refine ba ?_ _)); exact BK215.out) hb); have n2_ := Am (below_step (by repeat (first | (with_reducible first | exact HB.out | apply bl | apply pN | apply b1 | refine bs ?_ GE214.out | refine bs ?_ GE215.out) | exact HB.out | exact HBo.out)) hb); clear BK214; clear BK215; clear HB; have BK214 := n0_; have BK215 := n1_; have HB := n2_; clear n0_ n1_ n2_; (try clear hb); (try clear hb2); (try clear hk); (try clear hi)))
    go_ret
    exact ⟨by first | rfl | (simp [errW_none, errW_some] <;> rfl) | (simp [*, errW_none, errW_some] <;> rfl) | (simp [Aid.ne_nil, Aid.eq_nil, errW_none, errW_some]; done), by repeat (first | (with_reducible first | exact HB.out | apply bl | apply pN | apply b1 | refine bs ?_ GE214.out | refine bs ?_ GE215.out) | exact HB.out | exact HBo.out)⟩
   ·
    replace c36 := Bool.eq_false_iff.mpr c36
    subst c36
    have H1 : ((intern_String.f kj2 l0_0 l0_1 a1_0).bind fun bt221 => ((intern_Name.f kj2 bt221.1 bt221.2.1 bt221.2.2).bind fun bt229 => ((intern_String.f kj2 bt221.1 bt221.2.1 a1_0).bind fun bt231 => (if bt229.2 = true then (if bt229.1.toList = a1_0.toList then (if bt231.2.2 = bt221.2.2 then ((shuttlecockref06_Same.f kj2 bt221.1 bt221.2.1 bt231.1 bt231.2.1).bind fun t239 => (if t239 = true then ((intern_May.f kj2 bt221.1 bt221.2.1).bind fun t240 => (shuttlecocklaw06_InternBack.j1 kj2 (!t240) l0_0 l0_1 a1_0 l1_1 a1_2 bt221.1 bt221.2.1)) else (shuttlecocklaw06_InternBack.j1 kj2 true l0_0 l0_1 a1_0 l1_1 a1_2 bt221.1 bt221.2.1))) else (shuttlecocklaw06_InternBack.j1 kj2 true l0_0 l0_1 a1_0 l1_1 a1_2 bt221.1 bt221.2.1)) else (shuttlecocklaw06_InternBack.j1 kj2 true l0_0 l0_1 a1_0 l1_1 a1_2 bt221.1 bt221.2.1)) else (shuttlecocklaw06_InternBack.j1 kj2 true l0_0 l0_1 a1_0 l1_1 a1_2 bt221.1 bt221.2.1))))) = some r := by rw [if_neg (show ¬ (false = true) by decide)] at H; exact H
    clear H
    have H := H1
    clear H1
    replace H := ob H
    obtain ⟨⟨t221, t224, t227⟩, A390, H⟩ := H
    replace H : ((intern_Name.f kj2 t221 t224 t227).bind fun bt229 => ((intern_String.f kj2 t221 t224 a1_0).bind fun bt231 => (if bt229.2 = true then (if bt229.1.toList = a1_0.toList then (if bt231.2.2 = t227 then ((shuttlecockref06_Same.f kj2 t221 t224 bt231.1 bt231.2.1).bind fun t239 => (if t239 = true then ((intern_May.f kj2 t221 t224).bind fun t240 => (shuttlecocklaw06_InternBack.j1 kj2 (!t240) l0_0 l0_1 a1_0 l1_1 a1_2 t221 t224)) else (shuttlecocklaw06_InternBack.j1 kj2 true l0_0 l0_1 a1_0 l1_1 a1_2 t221 t224))) else (shuttlecocklaw06_InternBack.j1 kj2 true l0_0 l0_1 a1_0 l1_1 a1_2 t221 t224)) else (shuttlecocklaw06_InternBack.j1 kj2 true l0_0 l0_1 a1_0 l1_1 a1_2 t221 t224)) else (shuttlecocklaw06_InternBack.j1 kj2 true l0_0 l0_1 a1_0 l1_1 a1_2 t221 t224)))) = some r := H
    have A39 := Am A390
    clear A390
    replace H := ob H
    obtain ⟨⟨t229, t230⟩, A400, H⟩ := H
    replace H : ((intern_String.f kj2 t221 t224 a1_0).bind fun bt231 => (if t230 = true then (if t229.toList = a1_0.toList then (if bt231.2.2 = t227 then ((shuttlecockref06_Same.f kj2 t221 t224 bt231.1 bt231.2.1).bind fun t239 => (if t239 = true then ((intern_May.f kj2 t221 t224).bind fun t240 => (shuttlecocklaw06_InternBack.j1 kj2 (!t240) l0_0 l0_1 a1_0 l1_1 a1_2 t221 t224)) else (shuttlecocklaw06_InternBack.j1 kj2 true l0_0 l0_1 a1_0 l1_1 a1_2 t221 t224))) else (shuttlecocklaw06_InternBack.j1 kj2 true l0_0 l0_1 a1_0 l1_1 a1_2 t221 t224)) else (shuttlecocklaw06_InternBack.j1 kj2 true l0_0 l0_1 a1_0 l1_1 a1_2 t221 t224)) else (shuttlecocklaw06_InternBack.j1 kj2 true l0_0 l0_1 a1_0 l1_1 a1_2 t221 t224))) = some r := H
    have A40 := Am A400
    clear A400
    replace H := ob H
    obtain ⟨⟨t231, t234, t237⟩, A410, H⟩ := H
    replace H : (if t230 = true then (if t229.toList = a1_0.toList then (if t237 = t227 then ((shuttlecockref06_Same.f kj2 t221 t224 t231 t234).bind fun t239 => (if t239 = true then ((intern_May.f kj2 t221 t224).bind fun t240 => (shuttlecocklaw06_InternBack.j1 kj2 (!t240) l0_0 l0_1 a1_0 l1_1 a1_2 t221 t224)) else (shuttlecocklaw06_InternBack.j1 kj2 true l0_0 l0_1 a1_0 l1_1 a1_2 t221 t224))) else (shuttlecocklaw06_InternBack.j1 kj2 true l0_0 l0_1 a1_0 l1_1 a1_2 t221 t224)) else (shuttlecocklaw06_InternBack.j1 kj2 true l0_0 l0_1 a1_0 l1_1 a1_2 t221 t224)) else (shuttlecocklaw06_InternBack.j1 kj2 true l0_0 l0_1 a1_0 l1_1 a1_2 t221 t224)) = some r := H
    have A41 := Am A410
    clear A410
    have HC42 := Am H
    clear H
    have hnb43 := NB214_215.out
    have hnc43 := NB215_214.out
    have hcz44_0 : wc.cell? ⟨gb214, 0, none⟩ = some (.slice A0_0 l0_0.length c0_0) := (bc BK214.out 0).trans rfl
    have hcz44_1 : wc.cell? ⟨gb214, 1, none⟩ = some (.slice A0_1 l0_1.length c0_1) := (bc BK214.out 1).trans rfl
    have hfz44_0 := bf BK214.out 0
    have hfz44_1 := bf BK214.out 1
    have hcz45_0 : wc.cell? ⟨gb215, 0, none⟩ = some (.string a1_0) := (bc BK215.out 0).trans rfl
    have hcz45_1 : wc.cell? ⟨gb215, 1, none⟩ = some (.slice A1_1 l1_1.length c1_1) := (bc BK215.out 1).trans rfl
    have hcz45_2 : wc.cell? ⟨gb215, 2, none⟩ = some (.int .i64 a1_2) := (bc BK215.out 2).trans rfl
    have hfz45_0 := bf BK215.out 0
    have hfz45_1 := bf BK215.out 1
    have hfz45_2 := bf BK215.out 2
    go_upto_region 6 with (first | ((with_reducible refine gate_callee (f := 11) rfl ?_); refine goesL_ (some 56) rfl rfl Try.func11 (by kernel_rfl) rfl #[.agg #[.slice A0_0 l0_0.length c0_0, .slice A0_1 l0_1.length c0_1], .string a1_0] rfl (by (try simp only [List.map_toArray, List.map_cons, List.map_nil]); first | done | rfl | (simp only [List.length_drop, List.length_take]; rfl)) ?_; (with_reducible refine (intern_String.calls kj2 _ _ l0_0 _ _ l0_1 a1_0 t221 t224 t227 _ ?side1 ?side2 ?side3 ?side4 A39.out).mono ?_); (case side1 => repeat (first | exact (Kd.C_below HR0_0.out HB.out) | (with_reducible refine Kd.C_alloc ?_ _) | (with_reducible refine Kd.C_drewN ?_ _) | (with_reducible refine Kd.C_drew ?_))); (case side2 => exact HC0_0.out); (case side3 => repeat (first | exact (Kd.C_below HR0_1.out HB.out) | (with_reducible refine Kd.C_alloc ?_ _) | (with_reducible refine Kd.C_drewN ?_ _) | (with_reducible refine Kd.C_drew ?_))); (case side4 => exact HC0_1.out); rintro e w46 ⟨v222, v225, rfl, ho0, ho1, hb⟩; refine ⟨_, rfl, ?_⟩; have n0_ := Am (Kd.R_lower ho0 (below_size (by repeat (first | (with_reducible first | exact HB.out | apply bl | apply pN | apply b1 | refine bs ?_ GE214.out | refine bs ?_ GE215.out) | exact HB.out | exact HBo.out)))); have n1_ := Am (Kd.S_lower ho1 (below_size (by repeat (first | (with_reducible first | exact HB.out | apply bl | apply pN | apply b1 | refine bs ?_ GE214.out | refine bs ?_ GE215.out) | exact HB.out | exact HBo.out)))); have n2_ := Am (blk_below (g := gb214) (o := .cells #[.slice A0_0 l0_0.length c0_0, .slice A0_1 l0_1.length c0_1] 25 (0, 0)) (by (with_reducible repeat (first | refine bn ?_ _ | refine bd ?_ | refine ba ?_ _)); exact BK214.out) hb); have n3_ := Am (blk_below (g := gb215) (o := .cells #[.string a1_0, .slice A1_1 l1_1.length c1_1, .int .i64 a1_2] 28 (0, 0)) (by (with_reducible repeat (first | refine bn ?_ _ | refine bd ?_ | refine ba ?_ _)); exact BK215.out) hb); have n4_ := Am (below_step (by repeat (first | (with_reducible first | exact HB.out | apply bl | apply pN | apply b1 | refine bs ?_ GE214.out | refine bs ?_ GE215.out) | exact HB.out | exact HBo.out)) hb); clear BK214; clear BK215; clear HB; have HO223 := n0_; have HO226 := n1_; have BK214 := n2_; have BK215 := n3_; have HB := n4_; clear n0_ n1_ n2_ n3_ n4_; (try clear hb); (try clear hb2); (try clear hk); (try clear hi); (try clear ho0); (try clear ho1)) | ((with_reducible refine gate_dst (N := 5) rfl ?_); (try (refine gate_guard (by rfl) ?_; dsimp only)); refine box_event ?hg (N := 5) ?hd (cs := #[.slice none 0 0, .slice none 0 0]) (t := 25) ?hr ?_; (case hd => rfl); (case hg => rfl); (case hr => first | (go_simp; done) | (go_simp; rfl)); intro gb228 hg w47 hbox hb; have n0_ := Am (Kd.R_below (by (with_reducible repeat (first | apply Kd.R_alloc | apply Kd.R_drewN | apply Kd.R_drew)); exact HO223.out) hb); have n1_ := Am (Kd.S_below (by (with_reducible repeat (first | apply Kd.S_alloc | apply Kd.S_drewN | apply Kd.S_drew)); exact HO226.out) hb); have n2_ := Am (blk_below (g := gb214) (o := .cells #[.slice A0_0 l0_0.length c0_0, .slice A0_1 l0_1.length c0_1] 25 (0, 0)) (by (with_reducible repeat (first | refine bn ?_ _ | refine bd ?_ | refine ba ?_ _)); exact BK214.out) hb); have n3_ := Am (blk_below (g := gb215) (o := .cells #[.string a1_0, .slice A1_1 l1_1.length c1_1, .int .i64 a1_2] 28 (0, 0)) (by (with_reducible repeat (first | refine bn ?_ _ | refine bd ?_ | refine ba ?_ _)); exact BK215.out) hb); have n4_ := Am (below_step (by repeat (first | (with_reducible first | exact HB.out | apply bl | apply pN | apply b1 | refine bs ?_ GE214.out | refine bs ?_ GE215.out) | exact HB.out | exact HBo.out)) hb); have n5_ := Am (hbox); have n6_ := Am ((by rw [hg]; exact (below_size (by repeat (first | (with_reducible first | exact HB.out | apply bl | apply pN | apply b1 | refine bs ?_ GE214.out | refine bs ?_ GE215.out) | exact HB.out | exact HBo.out))) : w.heap.size ≤ gb228)); have n7_ := Am ((by rw [hg]; exact (below_size (by repeat (first | (with_reducible first | exact HB.out | apply bl | apply pN | apply b1 | refine bs ?_ GE214.out | refine bs ?_ GE215.out) | exact HB.out | exact HBo.out))) : w.heap.size ≤ gb228)); have n8_ := Am ((by rw [hg]; exact Nat.ne_of_lt (blk_lt (g := gb214) (o := .cells #[.slice A0_0 l0_0.length c0_0, .slice A0_1 l0_1.length c0_1] 25 (0, 0)) (by (with_reducible repeat (first | refine bn ?_ _ | refine bd ?_ | refine ba ?_ _)); exact BK214.out)) : gb214 ≠ gb228)); have n9_ := Am ((by rw [hg]; exact Nat.ne_of_gt (blk_lt (g := gb214) (o := .cells #[.slice A0_0 l0_0.length c0_0, .slice A0_1 l0_1.length c0_1] 25 (0, 0)) (by (with_reducible repeat (first | refine bn ?_ _ | refine bd ?_ | refine ba ?_ _)); exact BK214.out)) : gb228 ≠ gb214)); have n10_ := Am ((by rw [hg]; exact Nat.ne_of_lt (blk_lt (g := gb215) (o := .cells #[.string a1_0, .slice A1_1 l1_1.length c1_1, .int .i64 a1_2] 28 (0, 0)) (by (with_reducible repeat (first | refine bn ?_ _ | refine bd ?_ | refine ba ?_ _)); exact BK215.out)) : gb215 ≠ gb228)); have n11_ := Am ((by rw [hg]; exact Nat.ne_of_gt (blk_lt (g := gb215) (o := .cells #[.string a1_0, .slice A1_1 l1_1.length c1_1, .int .i64 a1_2] 28 (0, 0)) (by (with_reducible repeat (first | refine bn ?_ _ | refine bd ?_ | refine ba ?_ _)); exact BK215.out)) : gb228 ≠ gb215)); clear HO223; clear HO226; clear BK214; clear BK215; clear HB; have HO223 := n0_; have HO226 := n1_; have BK214 := n2_; have BK215 := n3_; have HB := n4_; have BK228 := n5_; have GW228 := n6_; have GE228 := n7_; have NB214_228 := n8_; have NB228_214 := n9_; have NB215_228 := n10_; have NB228_215 := n11_; clear n0_ n1_ n2_ n3_ n4_ n5_ n6_ n7_ n8_ n9_ n10_ n11_; clear hb hbox hg; obtain ⟨Ao48, co48, eo48⟩ := Kd.R_slice HO223.out; subst eo48; have hnb49 := NB228_214.out; have hnc49 := NB214_228.out; have hnb50 := NB228_215.out; have hnc50 := NB215_228.out; have hcz51_0 : w47.cell? ⟨gb228, 0, none⟩ = some (.slice none 0 0) := (bc BK228.out 0).trans rfl; have hcz51_1 : w47.cell? ⟨gb228, 1, none⟩ = some (.slice none 0 0) := (bc BK228.out 1).trans rfl; have hfz51_0 := bf BK228.out 0; have hfz51_1 := bf BK228.out 1; obtain ⟨Ao52, co52, eo52⟩ := Kd.S_slice HO226.out; subst eo52) | ((with_reducible refine gate_callee (f := 15) rfl ?_); refine goesL_ (some 62) rfl rfl Try.func15 (by kernel_rfl) rfl #[.agg #[.slice Ao48 t221.length co48, .slice Ao52 t224.length co52], .int .i64 t227] rfl (by (try simp only [List.map_toArray, List.map_cons, List.map_nil]); first | done | rfl | (simp only [List.length_drop, List.length_take]; rfl)) ?_; (with_reducible refine (intern_Name.calls kj2 _ _ t221 _ _ t224 t227 t229 t230 _ ?side1 ?side2 ?side3 ?side4 A40.out).mono ?_); (case side1 => refine (Kd.R_reads' (e := 9) (base := w.heap.size) (ok := fun k_ => True) (n := t221.length) (c := co48) ?_).2.2; exact (by (with_reducible repeat (first | apply Kd.R_alloc | apply Kd.R_drewN | apply Kd.R_drew)); exact (Kd.R_mono (Kd.R_far (p := ⟨gb228, 1, none⟩) (Kd.R_far (p := ⟨gb228, 0, none⟩) (Kd.R_types HO223.out BK228.out (by decide)) (fun _ hk => hk.2) (.slice Ao48 t221.length co48)) (fun _ hk => hk.2) (.slice Ao52 t224.length co52)) (fun _ h_ => h_.1)))); (case side2 => exact (Kd.R_reads' HO223.out).2.1); (case side3 => refine (Kd.S_reads' (e := 46) (base := w.heap.size) (ok := fun k_ => True) (n := t224.length) (c := co52) ?_).2.2; exact (by (with_reducible repeat (first | apply Kd.S_alloc | apply Kd.S_drewN | apply Kd.S_drew)); exact (Kd.S_mono (Kd.S_far (p := ⟨gb228, 1, none⟩) (Kd.S_far (p := ⟨gb228, 0, none⟩) (Kd.S_types HO226.out BK228.out (by decide)) (fun _ hk => hk.2) (.slice Ao48 t221.length co48)) (fun _ hk => hk.2) (.slice Ao52 t224.length co52)) (fun _ h_ => h_.1)))); (case side4 => exact (Kd.S_reads' HO226.out).2.1); rintro e w53 ⟨rfl, hb⟩; refine ⟨_, rfl, ?_⟩; have n0_ := Am (Kd.R_below (by (with_reducible repeat (first | apply Kd.R_alloc | apply Kd.R_drewN | apply Kd.R_drew)); exact (Kd.R_mono (Kd.R_far (p := ⟨gb228, 1, none⟩) (Kd.R_far (p := ⟨gb228, 0, none⟩) (Kd.R_types HO223.out BK228.out (by decide)) (fun _ hk => hk.2) (.slice Ao48 t221.length co48)) (fun _ hk => hk.2) (.slice Ao52 t224.length co52)) (fun _ h_ => h_.1))) hb); have n1_ := Am (Kd.S_below (by (with_reducible repeat (first | apply Kd.S_alloc | apply Kd.S_drewN | apply Kd.S_drew)); exact (Kd.S_mono (Kd.S_far (p := ⟨gb228, 1, none⟩) (Kd.S_far (p := ⟨gb228, 0, none⟩) (Kd.S_types HO226.out BK228.out (by decide)) (fun _ hk => hk.2) (.slice Ao48 t221.length co48)) (fun _ hk => hk.2) (.slice Ao52 t224.length co52)) (fun _ h_ => h_.1))) hb); have n2_ := Am (blk_below (g := gb214) (o := .cells #[.slice A0_0 l0_0.length c0_0, .slice A0_1 l0_1.length c0_1] 25 (0, 0)) (by (with_reducible repeat (first | refine bn ?_ _ | refine bd ?_ | refine ba ?_ _)); refine blk_far ?_ NB214_228.out _; (with_reducible repeat (first | refine bn ?_ _ | refine bd ?_ | refine ba ?_ _)); refine blk_far ?_ NB214_228.out _; (with_reducible repeat (first | refine bn ?_ _ | refine bd ?_ | refine ba ?_ _)); exact BK214.out) hb); have n3_ := Am (blk_below (g := gb215) (o := .cells #[.string a1_0, .slice A1_1 l1_1.length c1_1, .int .i64 a1_2] 28 (0, 0)) (by (with_reducible repeat (first | refine bn ?_ _ | refine bd ?_ | refine ba ?_ _)); refine blk_far ?_ NB215_228.out _; (with_reducible repeat (first | refine bn ?_ _ | refine bd ?_ | refine ba ?_ _)); refine blk_far ?_ NB215_228.out _; (with_reducible repeat (first | refine bn ?_ _ | refine bd ?_ | refine ba ?_ _)); exact BK215.out) hb); have n4_ := Am (blk_below (g := gb228) (o := .cells #[.slice Ao48 t221.length co48, .slice Ao52 t224.length co52] 25 (0, 0)) (by (with_reducible repeat (first | refine bn ?_ _ | refine bd ?_ | refine ba ?_ _)); refine blk_put (cs := #[.slice Ao48 t221.length co48, .slice none 0 0]) ?_ 1 _ rfl; (with_reducible repeat (first | refine bn ?_ _ | refine bd ?_ | refine ba ?_ _)); refine blk_put (cs := #[.slice none 0 0, .slice none 0 0]) ?_ 0 _ rfl; (with_reducible repeat (first | refine bn ?_ _ | refine bd ?_ | refine ba ?_ _)); exact BK228.out) hb); have n5_ := Am (below_step (by repeat (first | (with_reducible first | exact HB.out | apply bl | apply pN | apply b1 | refine bs ?_ GE214.out | refine bs ?_ GE215.out | refine bs ?_ GE228.out) | exact HB.out | exact HBo.out)) hb); clear HO223; clear HO226; clear BK214; clear BK215; clear BK228; clear HB; have HO223 := n0_; have HO226 := n1_; have BK214 := n2_; have BK215 := n3_; have BK228 := n4_; have HB := n5_; clear n0_ n1_ n2_ n3_ n4_ n5_; (try clear hb); (try clear hb2); (try clear hk); (try clear hi); have hcz54_0 : w53.cell? ⟨gb228, 0, none⟩ = some (.slice Ao48 t221.length co48) := (bc BK228.out 0).trans rfl; have hcz54_1 : w53.cell? ⟨gb228, 1, none⟩ = some (.slice Ao52 t224.length co52) := (bc BK228.out 1).trans rfl; have hfz54_0 := bf BK228.out 0; have hfz54_1 := bf BK228.out 1; have hcz55_0 : w53.cell? ⟨gb215, 0, none⟩ = some (.string a1_0) := (bc BK215.out 0).trans rfl; have hcz55_1 : w53.cell? ⟨gb215, 1, none⟩ = some (.slice A1_1 l1_1.length c1_1) := (bc BK215.out 1).trans rfl; have hcz55_2 : w53.cell? ⟨gb215, 2, none⟩ = some (.int .i64 a1_2) := (bc BK215.out 2).trans rfl; have hfz55_0 := bf BK215.out 0; have hfz55_1 := bf BK215.out 1; have hfz55_2 := bf BK215.out 2) | ((with_reducible refine gate_callee (f := 11) rfl ?_); refine goesL_ (some 69) rfl rfl Try.func11 (by kernel_rfl) rfl #[.agg #[.slice Ao48 t221.length co48, .slice Ao52 t224.length co52], .string a1_0] rfl (by (try simp only [List.map_toArray, List.map_cons, List.map_nil]); first | done | rfl | (simp only [List.length_drop, List.length_take]; rfl)) ?_; (with_reducible refine (intern_String.calls kj2 _ _ t221 _ _ t224 a1_0 t231 t234 t237 _ ?side1 ?side2 ?side3 ?side4 A41.out).mono ?_); (case side1 => repeat (first | exact (Kd.R_reads' HO223.out).2.2 | (with_reducible refine Kd.C_alloc ?_ _) | (with_reducible refine Kd.C_drewN ?_ _) | (with_reducible refine Kd.C_drew ?_))); (case side2 => exact (Kd.R_reads' HO223.out).2.1); (case side3 => repeat (first | exact (Kd.S_reads' HO226.out).2.2 | (with_reducible refine Kd.C_alloc ?_ _) | (with_reducible refine Kd.C_drewN ?_ _) | (with_reducible refine Kd.C_drew ?_))); (case side4 => exact (Kd.S_reads' HO226.out).2.1); rintro e w56 ⟨v232, v235, rfl, ho0, ho1, hb⟩; refine ⟨_, rfl, ?_⟩; have n0_ := Am (Kd.R_elder' (by (with_reducible repeat (first | apply Kd.R_alloc | apply Kd.R_drewN | apply Kd.R_drew)); exact HO223.out) (Kd.R_base ho0) hb); have n1_ := Am (Kd.S_elder' (by (with_reducible repeat (first | apply Kd.S_alloc | apply Kd.S_drewN | apply Kd.S_drew)); exact HO226.out) (Kd.S_base ho1) hb); have n2_ := Am (Kd.R_lower (Kd.R_new' ho0 (Kd.R_lt (by (with_reducible repeat (first | apply Kd.R_alloc | apply Kd.R_drewN | apply Kd.R_drew)); exact HO223.out))) (below_size (by repeat (first | (with_reducible first | exact HB.out | apply bl | apply pN | apply b1 | refine bs ?_ GE214.out | refine bs ?_ GE215.out | refine bs ?_ GE228.out) | exact HB.out | exact HBo.out)))); have n3_ := Am (Kd.S_lower (Kd.S_new' ho1 (Kd.S_lt (by (with_reducible repeat (first | apply Kd.S_alloc | apply Kd.S_drewN | apply Kd.S_drew)); exact HO226.out))) (below_size (by repeat (first | (with_reducible first | exact HB.out | apply bl | apply pN | apply b1 | refine bs ?_ GE214.out | refine bs ?_ GE215.out | refine bs ?_ GE228.out) | exact HB.out | exact HBo.out)))); have n4_ := Am (blk_below (g := gb214) (o := .cells #[.slice A0_0 l0_0.length c0_0, .slice A0_1 l0_1.length c0_1] 25 (0, 0)) (by (with_reducible repeat (first | refine bn ?_ _ | refine bd ?_ | refine ba ?_ _)); exact BK214.out) hb); have n5_ := Am (blk_below (g := gb215) (o := .cells #[.string a1_0, .slice A1_1 l1_1.length c1_1, .int .i64 a1_2] 28 (0, 0)) (by (with_reducible repeat (first | refine bn ?_ _ | refine bd ?_ | refine ba ?_ _)); exact BK215.out) hb); have n6_ := Am (blk_below (g := gb228) (o := .cells #[.slice Ao48 t221.length co48, .slice Ao52 t224.length co52] 25 (0, 0)) (by (with_reducible repeat (first | refine bn ?_ _ | refine bd ?_ | refine ba ?_ _)); exact BK228.out) hb); have n7_ := Am (below_step (by repeat (first | (with_reducible first | exact HB.out | apply bl | apply pN | apply b1 | refine bs ?_ GE214.out | refine bs ?_ GE215.out | refine bs ?_ GE228.out) | exact HB.out | exact HBo.out)) hb); clear HO223; clear HO226; clear BK214; clear BK215; clear BK228; clear HB; have HO223 := n0_; have HO226 := n1_; have HO233 := n2_; have HO236 := n3_; have BK214 := n4_; have BK215 := n5_; have BK228 := n6_; have HB := n7_; clear n0_ n1_ n2_ n3_ n4_ n5_ n6_ n7_; (try clear hb); (try clear hb2); (try clear hk); (try clear hi); (try clear ho0); (try clear ho1)) | ((with_reducible refine gate_dst (N := 9) rfl ?_); (try (refine gate_guard (by rfl) ?_; dsimp only)); refine box_event ?hg (N := 9) ?hd (cs := #[.slice none 0 0, .slice none 0 0]) (t := 25) ?hr ?_; (case hd => rfl); (case hg => rfl); (case hr => first | (go_simp; done) | (go_simp; rfl)); intro gb238 hg w57 hbox hb; have n0_ := Am (Kd.R_below (by (with_reducible repeat (first | apply Kd.R_alloc | apply Kd.R_drewN | apply Kd.R_drew)); exact HO223.out) hb); have n1_ := Am (Kd.S_below (by (with_reducible repeat (first | apply Kd.S_alloc | apply Kd.S_drewN | apply Kd.S_drew)); exact HO226.out) hb); have n2_ := Am (Kd.R_below (by (with_reducible repeat (first | apply Kd.R_alloc | apply Kd.R_drewN | apply Kd.R_drew)); exact HO233.out) hb); have n3_ := Am (Kd.S_below (by (with_reducible repeat (first | apply Kd.S_alloc | apply Kd.S_drewN | apply Kd.S_drew)); exact HO236.out) hb); have n4_ := Am (blk_below (g := gb214) (o := .cells #[.slice A0_0 l0_0.length c0_0, .slice A0_1 l0_1.length c0_1] 25 (0, 0)) (by (with_reducible repeat (first | refine bn ?_ _ | refine bd ?_ | refine ba ?_ _)); exact BK214.out) hb); have n5_ := Am (blk_below (g := gb215) (o := .cells #[.string a1_0, .slice A1_1 l1_1.length c1_1, .int .i64 a1_2] 28 (0, 0)) (by (with_reducible repeat (first | refine bn ?_ _ | refine bd ?_ | refine ba ?_ _)); exact BK215.out) hb); have n6_ := Am (blk_below (g := gb228) (o := .cells #[.slice Ao48 t221.length co48, .slice Ao52 t224.length co52] 25 (0, 0)) (by (with_reducible repeat (first | refine bn ?_ _ | refine bd ?_ | refine ba ?_ _)); exact BK228.out) hb); have n7_ := Am (below_step (by repeat (first | (with_reducible first | exact HB.out | apply bl | apply pN | apply b1 | refine bs ?_ GE214.out | refine bs ?_ GE215.out | refine bs ?_ GE228.out) | exact HB.out | exact HBo.out)) hb); have n8_ := Am (hbox); have n9_ := Am ((by rw [hg]; exact (below_size (by repeat (first | (with_reducible first | exact HB.out | apply bl | apply pN | apply b1 | refine bs ?_ GE214.out | refine bs ?_ GE215.out | refine bs ?_ GE228.out) | exact HB.out | exact HBo.out))) : w.heap.size ≤ gb238)); have n10_ := Am ((by rw [hg]; exact (below_size (by repeat (first | (with_reducible first | exact HB.out | apply bl | apply pN | apply b1 | refine bs ?_ GE214.out | refine bs ?_ GE215.out | refine bs ?_ GE228.out) | exact HB.out | exact HBo.out))) : w.heap.size ≤ gb238)); have n11_ := Am ((by rw [hg]; exact Nat.ne_of_lt (blk_lt (g := gb214) (o := .cells #[.slice A0_0 l0_0.length c0_0, .slice A0_1 l0_1.length c0_1] 25 (0, 0)) (by (with_reducible repeat (first | refine bn ?_ _ | refine bd ?_ | refine ba ?_ _)); exact BK214.out)) : gb214 ≠ gb238)); have n12_ := Am ((by rw [hg]; exact Nat.ne_of_gt (blk_lt (g := gb214) (o := .cells #[.slice A0_0 l0_0.length c0_0, .slice A0_1 l0_1.length c0_1] 25 (0, 0)) (by (with_reducible repeat (first | refine bn ?_ _ | refine bd ?_ | refine ba ?_ _)); exact BK214.out)) : gb238 ≠ gb214)); have n13_ := Am ((by rw [hg]; exact Nat.ne_of_lt (blk_lt (g := gb215) (o := .cells #[.string a1_0, .slice A1_1 l1_1.length c1_1, .int .i64 a1_2] 28 (0, 0)) (by (with_reducible repeat (first | refine bn ?_ _ | refine bd ?_ | refine ba ?_ _)); exact BK215.out)) : gb215 ≠ gb238)); have n14_ := Am ((by rw [hg]; exact Nat.ne_of_gt (blk_lt (g := gb215) (o := .cells #[.string a1_0, .slice A1_1 l1_1.length c1_1, .int .i64 a1_2] 28 (0, 0)) (by (with_reducible repeat (first | refine bn ?_ _ | refine bd ?_ | refine ba ?_ _)); exact BK215.out)) : gb238 ≠ gb215)); have n15_ := Am ((by rw [hg]; exact Nat.ne_of_lt (blk_lt (g := gb228) (o := .cells #[.slice Ao48 t221.length co48, .slice Ao52 t224.length co52] 25 (0, 0)) (by (with_reducible repeat (first | refine bn ?_ _ | refine bd ?_ | refine ba ?_ _)); exact BK228.out)) : gb228 ≠ gb238)); have n16_ := Am ((by rw [hg]; exact Nat.ne_of_gt (blk_lt (g := gb228) (o := .cells #[.slice Ao48 t221.length co48, .slice Ao52 t224.length co52] 25 (0, 0)) (by (with_reducible repeat (first | refine bn ?_ _ | refine bd ?_ | refine ba ?_ _)); exact BK228.out)) : gb238 ≠ gb228)); clear HO223; clear HO226; clear HO233; clear HO236; clear BK214; clear BK215; clear BK228; clear HB; have HO223 := n0_; have HO226 := n1_; have HO233 := n2_; have HO236 := n3_; have BK214 := n4_; have BK215 := n5_; have BK228 := n6_; have HB := n7_; have BK238 := n8_; have GW238 := n9_; have GE238 := n10_; have NB214_238 := n11_; have NB238_214 := n12_; have NB215_238 := n13_; have NB238_215 := n14_; have NB228_238 := n15_; have NB238_228 := n16_; clear n0_ n1_ n2_ n3_ n4_ n5_ n6_ n7_ n8_ n9_ n10_ n11_ n12_ n13_ n14_ n15_ n16_; clear hb hbox hg; obtain ⟨Ao58, co58, eo58⟩ := Kd.R_slice HO233.out; subst eo58; have hnb59 := NB238_214.out; have hnc59 := NB214_238.out; have hnb60 := NB238_215.out; have hnc60 := NB215_238.out; have hnb61 := NB238_228.out; have hnc61 := NB228_238.out; have hcz62_0 : w57.cell? ⟨gb238, 0, none⟩ = some (.slice none 0 0) := (bc BK238.out 0).trans rfl; have hcz62_1 : w57.cell? ⟨gb238, 1, none⟩ = some (.slice none 0 0) := (bc BK238.out 1).trans rfl; have hfz62_0 := bf BK238.out 0; have hfz62_1 := bf BK238.out 1; obtain ⟨Ao63, co63, eo63⟩ := Kd.S_slice HO236.out; subst eo63))
    (try simp only [Act.put, sI, sZ, sS])
    go_cut [95] (fun v95 wc => ∃ (kq : Nat) (x95_41 : Bool), v95 = .bool x95_41 ∧ Aside0 (shuttlecocklaw06_InternBack.j1 kq x95_41 l0_0 l0_1 a1_0 l1_1 a1_2 t221 t224 = some r) ∧ Aside0 (kq ≤ kj2) ∧ Aside0 (Kd.R Kd.string 9 wc w.heap.size (fun k_ => some k_ ≠ ((.slice Ao58 t231.length co58) : Value).ownBlock) (.slice Ao48 t221.length co48) t221) ∧ Aside0 (Kd.S (Kd.slice 50 k50) 46 wc w.heap.size (fun k_ => some k_ ≠ ((.slice Ao63 t234.length co63) : Value).ownBlock) (.slice Ao52 t224.length co52) t224) ∧ Aside0 (Kd.R Kd.string 9 wc w.heap.size (fun k_ => some k_ ≠ ((.slice Ao48 t221.length co48) : Value).ownBlock) (.slice Ao58 t231.length co58) t231) ∧ Aside0 (Kd.S (Kd.slice 50 k50) 46 wc w.heap.size (fun k_ => some k_ ≠ ((.slice Ao52 t224.length co52) : Value).ownBlock) (.slice Ao63 t234.length co63) t234) ∧ Aside0 (wc.heap[gb214]? = some (.cells #[(.slice A0_0 l0_0.length c0_0), (.slice A0_1 l0_1.length c0_1)] 25 (0, 0))) ∧ Aside0 (wc.heap[gb215]? = some (.cells #[.string a1_0, (.slice A1_1 l1_1.length c1_1), .int .i64 a1_2] 28 (0, 0))) ∧ Aside0 (wc.heap[gb228]? = some (.cells #[(.slice Ao48 t221.length co48), (.slice Ao52 t224.length co52)] 25 (0, 0))) ∧ Aside0 (wc.heap[gb238]? = some (.cells #[(.slice Ao58 t231.length co58), (.slice Ao63 t234.length co63)] 25 (0, 0))) ∧ Aside0 (Below w.heap.size w wc))
    case first =>
     have H := HC42.out
     clear HC42
     by_cases c64 : t230 = true
     ·
      subst c64
      have H1 : (if t229.toList = a1_0.toList then (if t237 = t227 then ((shuttlecockref06_Same.f kj2 t221 t224 t231 t234).bind fun t239 => (if t239 = true then ((intern_May.f kj2 t221 t224).bind fun t240 => (shuttlecocklaw06_InternBack.j1 kj2 (!t240) l0_0 l0_1 a1_0 l1_1 a1_2 t221 t224)) else (shuttlecocklaw06_InternBack.j1 kj2 true l0_0 l0_1 a1_0 l1_1 a1_2 t221 t224))) else (shuttlecocklaw06_InternBack.j1 kj2 true l0_0 l0_1 a1_0 l1_1 a1_2 t221 t224)) else (shuttlecocklaw06_InternBack.j1 kj2 true l0_0 l0_1 a1_0 l1_1 a1_2 t221 t224)) = some r := by rw [if_pos rfl] at H; exact H
      clear H
      have H := H1
      clear H1
      by_cases c65 : t229.toList = a1_0.toList
      ·
       rw [if_pos c65] at H
       have c65b0 : (t229.toList == a1_0.toList) = true := beq_iff_eq.mpr c65
       have c65b1 : (t229.toList != a1_0.toList) = false := bne_eq_false_iff_eq.mpr c65
       clear c65
       (first | rw [c65b0] | (simp only [i64_w, i32_w]; rw [c65b0]) | skip)
       by_cases c66 : t237 = t227
       ·
        rw [if_pos c66] at H
        have c66b0 : (t237 == t227) = true := beq_iff_eq.mpr c66
        have c66b1 : (t237 != t227) = false := bne_eq_false_iff_eq.mpr c66
        clear c66
        replace H := ob H
        obtain ⟨t239, A670, H⟩ := H
        replace H : (if t239 = true then ((intern_May.f kj2 t221 t224).bind fun t240 => (shuttlecocklaw06_InternBack.j1 kj2 (!t240) l0_0 l0_1 a1_0 l1_1 a1_2 t221 t224)) else (shuttlecocklaw06_InternBack.j1 kj2 true l0_0 l0_1 a1_0 l1_1 a1_2 t221 t224)) = some r := H
        have A67 := Am A670
        clear A670
        by_cases c68 : t239 = true
        ·
         subst c68
         have H1 : ((intern_May.f kj2 t221 t224).bind fun t240 => (shuttlecocklaw06_InternBack.j1 kj2 (!t240) l0_0 l0_1 a1_0 l1_1 a1_2 t221 t224)) = some r := by rw [if_pos rfl] at H; exact H
         clear H
         have H := H1
         clear H1
         replace H := ob H
         obtain ⟨t240, A690, H⟩ := H
         replace H : (shuttlecocklaw06_InternBack.j1 kj2 (!t240) l0_0 l0_1 a1_0 l1_1 a1_2 t221 t224) = some r := H
         have A69 := Am A690
         clear A690
         have H' := Am H
         clear H
         have hnb70 := NB215_214.out
         have hnc70 := NB214_215.out
         have hnb71 := NB215_228.out
         have hnc71 := NB228_215.out
         have hnb72 := NB215_238.out
         have hnc72 := NB238_215.out
         have hcz73_0 : w57.cell? ⟨gb215, 0, none⟩ = some (.string a1_0) := (bc BK215.out 0).trans rfl
         have hcz73_1 : w57.cell? ⟨gb215, 1, none⟩ = some (.slice A1_1 l1_1.length c1_1) := (bc BK215.out 1).trans rfl
         have hcz73_2 : w57.cell? ⟨gb215, 2, none⟩ = some (.int .i64 a1_2) := (bc BK215.out 2).trans rfl
         have hfz73_0 := bf BK215.out 0
         have hfz73_1 := bf BK215.out 1
         have hfz73_2 := bf BK215.out 2
         have hnb74 := NB228_214.out
         have hnc74 := NB214_228.out
         have hnb75 := NB228_238.out
         have hnc75 := NB238_228.out
         have hcz76_0 : w57.cell? ⟨gb228, 0, none⟩ = some (.slice Ao48 t221.length co48) := (bc BK228.out 0).trans rfl
         have hcz76_1 : w57.cell? ⟨gb228, 1, none⟩ = some (.slice Ao52 t224.length co52) := (bc BK228.out 1).trans rfl
         have hfz76_0 := bf BK228.out 0
         have hfz76_1 := bf BK228.out 1
         have hnb77 := NB238_214.out
         have hnc77 := NB214_238.out
         have hcz78_0 : w57.cell? ⟨gb238, 0, none⟩ = some (.slice none 0 0) := (bc BK238.out 0).trans rfl
         have hcz78_1 : w57.cell? ⟨gb238, 1, none⟩ = some (.slice none 0 0) := (bc BK238.out 1).trans rfl
         have hfz78_0 := bf BK238.out 0
         have hfz78_1 := bf BK238.out 1
         go_wp2_with (first | (go_at_call 21; (with_reducible refine (shuttlecockref06_Same.calls kj2 _ _ t221 _ _ t224 _ _ t231 _ _ t234 true _ ?side1 ?side2 ?side3 ?side4 ?side5 ?side6 ?side7 ?side8 A67.out).mono ?_); (case side1 => refine (Kd.R_reads' (e := 9) (base := w.heap.size) (ok := fun k_ => (True ∧ some k_ ≠ (.slice Ao58 t231.length co58 : Value).ownBlock)) (n := t221.length) (c := co48) ?_).2.2; exact (by (with_reducible repeat (first | apply Kd.R_alloc | apply Kd.R_drewN | apply Kd.R_drew)); exact (Kd.R_mono (Kd.R_far (p := ⟨gb238, 1, none⟩) (Kd.R_far (p := ⟨gb238, 0, none⟩) (Kd.R_types HO223.out BK238.out (by decide)) (fun _ hk => hk.2) (.slice Ao58 t231.length co58)) (fun _ hk => hk.2) (.slice Ao63 t234.length co63)) (fun _ h_ => h_.1)))); (case side2 => exact (Kd.R_reads' HO223.out).2.1); (case side3 => refine (Kd.S_reads' (e := 46) (base := w.heap.size) (ok := fun k_ => (True ∧ some k_ ≠ (.slice Ao63 t234.length co63 : Value).ownBlock)) (n := t224.length) (c := co52) ?_).2.2; exact (by (with_reducible repeat (first | apply Kd.S_alloc | apply Kd.S_drewN | apply Kd.S_drew)); exact (Kd.S_mono (Kd.S_far (p := ⟨gb238, 1, none⟩) (Kd.S_far (p := ⟨gb238, 0, none⟩) (Kd.S_types HO226.out BK238.out (by decide)) (fun _ hk => hk.2) (.slice Ao58 t231.length co58)) (fun _ hk => hk.2) (.slice Ao63 t234.length co63)) (fun _ h_ => h_.1)))); (case side4 => exact (Kd.S_reads' HO226.out).2.1); (case side5 => refine (Kd.R_reads' (e := 9) (base := w.heap.size) (ok := fun k_ => (True ∧ some k_ ≠ (.slice Ao48 t221.length co48 : Value).ownBlock)) (n := t231.length) (c := co58) ?_).2.2; exact (by (with_reducible repeat (first | apply Kd.R_alloc | apply Kd.R_drewN | apply Kd.R_drew)); exact (Kd.R_mono (Kd.R_far (p := ⟨gb238, 1, none⟩) (Kd.R_far (p := ⟨gb238, 0, none⟩) (Kd.R_types HO233.out BK238.out (by decide)) (fun _ hk => hk.2) (.slice Ao58 t231.length co58)) (fun _ hk => hk.2) (.slice Ao63 t234.length co63)) (fun _ h_ => h_.1)))); (case side6 => exact (Kd.R_reads' HO233.out).2.1); (case side7 => refine (Kd.S_reads' (e := 46) (base := w.heap.size) (ok := fun k_ => (True ∧ some k_ ≠ (.slice Ao52 t224.length co52 : Value).ownBlock)) (n := t234.length) (c := co63) ?_).2.2; exact (by (with_reducible repeat (first | apply Kd.S_alloc | apply Kd.S_drewN | apply Kd.S_drew)); exact (Kd.S_mono (Kd.S_far (p := ⟨gb238, 1, none⟩) (Kd.S_far (p := ⟨gb238, 0, none⟩) (Kd.S_types HO236.out BK238.out (by decide)) (fun _ hk => hk.2) (.slice Ao58 t231.length co58)) (fun _ hk => hk.2) (.slice Ao63 t234.length co63)) (fun _ h_ => h_.1)))); (case side8 => exact (Kd.S_reads' HO236.out).2.1); rintro e w79 ⟨rfl, hb⟩; have n0_ := Am (Kd.R_below (by (with_reducible repeat (first | apply Kd.R_alloc | apply Kd.R_drewN | apply Kd.R_drew)); exact (Kd.R_mono (Kd.R_far (p := ⟨gb238, 1, none⟩) (Kd.R_far (p := ⟨gb238, 0, none⟩) (Kd.R_types HO223.out BK238.out (by decide)) (fun _ hk => hk.2) (.slice Ao58 t231.length co58)) (fun _ hk => hk.2) (.slice Ao63 t234.length co63)) (fun _ h_ => h_.1))) hb); have n1_ := Am (Kd.S_below (by (with_reducible repeat (first | apply Kd.S_alloc | apply Kd.S_drewN | apply Kd.S_drew)); exact (Kd.S_mono (Kd.S_far (p := ⟨gb238, 1, none⟩) (Kd.S_far (p := ⟨gb238, 0, none⟩) (Kd.S_types HO226.out BK238.out (by decide)) (fun _ hk => hk.2) (.slice Ao58 t231.length co58)) (fun _ hk => hk.2) (.slice Ao63 t234.length co63)) (fun _ h_ => h_.1))) hb); have n2_ := Am (Kd.R_below (by (with_reducible repeat (first | apply Kd.R_alloc | apply Kd.R_drewN | apply Kd.R_drew)); exact (Kd.R_mono (Kd.R_far (p := ⟨gb238, 1, none⟩) (Kd.R_far (p := ⟨gb238, 0, none⟩) (Kd.R_types HO233.out BK238.out (by decide)) (fun _ hk => hk.2) (.slice Ao58 t231.length co58)) (fun _ hk => hk.2) (.slice Ao63 t234.length co63)) (fun _ h_ => h_.1))) hb); have n3_ := Am (Kd.S_below (by (with_reducible repeat (first | apply Kd.S_alloc | apply Kd.S_drewN | apply Kd.S_drew)); exact (Kd.S_mono (Kd.S_far (p := ⟨gb238, 1, none⟩) (Kd.S_far (p := ⟨gb238, 0, none⟩) (Kd.S_types HO236.out BK238.out (by decide)) (fun _ hk => hk.2) (.slice Ao58 t231.length co58)) (fun _ hk => hk.2) (.slice Ao63 t234.length co63)) (fun _ h_ => h_.1))) hb); have n4_ := Am (blk_below (g := gb214) (o := .cells #[.slice A0_0 l0_0.length c0_0, .slice A0_1 l0_1.length c0_1] 25 (0, 0)) (by (with_reducible repeat (first | refine bn ?_ _ | refine bd ?_ | refine ba ?_ _)); refine blk_far ?_ NB214_238.out _; (with_reducible repeat (first | refine bn ?_ _ | refine bd ?_ | refine ba ?_ _)); refine blk_far ?_ NB214_238.out _; (with_reducible repeat (first | refine bn ?_ _ | refine bd ?_ | refine ba ?_ _)); exact BK214.out) hb); have n5_ := Am (blk_below (g := gb215) (o := .cells #[.string a1_0, .slice A1_1 l1_1.length c1_1, .int .i64 a1_2] 28 (0, 0)) (by (with_reducible repeat (first | refine bn ?_ _ | refine bd ?_ | refine ba ?_ _)); refine blk_far ?_ NB215_238.out _; (with_reducible repeat (first | refine bn ?_ _ | refine bd ?_ | refine ba ?_ _)); refine blk_far ?_ NB215_238.out _; (with_reducible repeat (first | refine bn ?_ _ | refine bd ?_ | refine ba ?_ _)); exact BK215.out) hb); have n6_ := Am (blk_below (g := gb228) (o := .cells #[.slice Ao48 t221.length co48, .slice Ao52 t224.length co52] 25 (0, 0)) (by (with_reducible repeat (first | refine bn ?_ _ | refine bd ?_ | refine ba ?_ _)); refine blk_far ?_ NB228_238.out _; (with_reducible repeat (first | refine bn ?_ _ | refine bd ?_ | refine ba ?_ _)); refine blk_far ?_ NB228_238.out _; (with_reducible repeat (first | refine bn ?_ _ | refine bd ?_ | refine ba ?_ _)); exact BK228.out) hb); have n7_ := Am (blk_below (g := gb238) (o := .cells #[.slice Ao58 t231.length co58, .slice Ao63 t234.length co63] 25 (0, 0)) (by (with_reducible repeat (first | refine bn ?_ _ | refine bd ?_ | refine ba ?_ _)); refine blk_put (cs := #[.slice Ao58 t231.length co58, .slice none 0 0]) ?_ 1 _ rfl; (with_reducible repeat (first | refine bn ?_ _ | refine bd ?_ | refine ba ?_ _)); refine blk_put (cs := #[.slice none 0 0, .slice none 0 0]) ?_ 0 _ rfl; (with_reducible repeat (first | refine bn ?_ _ | refine bd ?_ | refine ba ?_ _)); exact BK238.out) hb); have n8_ := Am (below_step (by repeat (first | (with_reducible first | exact HB.out | apply bl | apply pN | apply b1 | refine bs ?_ GE214.out | refine bs ?_ GE215.out | refine bs ?_ GE228.out | refine bs ?_ GE238.out) | exact HB.out | exact HBo.out)) hb); clear HO223; clear HO226; clear HO233; clear HO236; clear BK214; clear BK215; clear BK228; clear BK238; clear HB; have HO223 := n0_; have HO226 := n1_; have HO233 := n2_; have HO236 := n3_; have BK214 := n4_; have BK215 := n5_; have BK228 := n6_; have BK238 := n7_; have HB := n8_; clear n0_ n1_ n2_ n3_ n4_ n5_ n6_ n7_ n8_; (try clear hb); (try clear hb2); (try clear hk); (try clear hi); have hcz80_0 : w79.cell? ⟨gb228, 0, none⟩ = some (.slice Ao48 t221.length co48) := (bc BK228.out 0).trans rfl; have hcz80_1 : w79.cell? ⟨gb228, 1, none⟩ = some (.slice Ao52 t224.length co52) := (bc BK228.out 1).trans rfl; have hfz80_0 := bf BK228.out 0; have hfz80_1 := bf BK228.out 1) | (go_at_call 19; (with_reducible refine (intern_May.calls kj2 _ _ t221 _ _ t224 t240 _ ?side1 ?side2 ?side3 ?side4 A69.out).mono ?_); (case side1 => repeat (first | exact (Kd.R_reads' HO223.out).2.2 | (with_reducible refine Kd.C_alloc ?_ _) | (with_reducible refine Kd.C_drewN ?_ _) | (with_reducible refine Kd.C_drew ?_))); (case side2 => exact (Kd.R_reads' HO223.out).2.1); (case side3 => repeat (first | exact (Kd.S_reads' HO226.out).2.2 | (with_reducible refine Kd.C_alloc ?_ _) | (with_reducible refine Kd.C_drewN ?_ _) | (with_reducible refine Kd.C_drew ?_))); (case side4 => exact (Kd.S_reads' HO226.out).2.1); rintro e w81 ⟨rfl, hb⟩; have n0_ := Am (Kd.R_below (by (with_reducible repeat (first | apply Kd.R_alloc | apply Kd.R_drewN | apply Kd.R_drew)); exact HO223.out) hb); have n1_ := Am (Kd.S_below (by (with_reducible repeat (first | apply Kd.S_alloc | apply Kd.S_drewN | apply Kd.S_drew)); exact HO226.out) hb); have n2_ := Am (Kd.R_below (by (with_reducible repeat (first | apply Kd.R_alloc | apply Kd.R_drewN | apply Kd.R_drew)); exact HO233.out) hb); have n3_ := Am (Kd.S_below (by (with_reducible repeat (first | apply Kd.S_alloc | apply Kd.S_drewN | apply Kd.S_drew)); exact HO236.out) hb); have n4_ := Am (blk_below (g := gb214) (o := .cells #[.slice A0_0 l0_0.length c0_0, .slice A0_1 l0_1.length c0_1] 25 (0, 0)) (by (with_reducible repeat (first | refine bn ?_ _ | refine bd ?_ | refine ba ?_ _)); exact BK214.out) hb); have n5_ := Am (blk_below (g := gb215) (o := .cells #[.string a1_0, .slice A1_1 l1_1.length c1_1, .int .i64 a1_2] 28 (0, 0)) (by (with_reducible repeat (first | refine bn ?_ _ | refine bd ?_ | refine ba ?_ _)); exact BK215.out) hb); have n6_ := Am (blk_below (g := gb228) (o := .cells #[.slice Ao48 t221.length co48, .slice Ao52 t224.length co52] 25 (0, 0)) (by (with_reducible repeat (first | refine bn ?_ _ | refine bd ?_ | refine ba ?_ _)); exact BK228.out) hb); have n7_ := Am (blk_below (g := gb238) (o := .cells #[.slice Ao58 t231.length co58, .slice Ao63 t234.length co63] 25 (0, 0)) (by (with_reducible repeat (first | refine bn ?_ _ | refine bd ?_ | refine ba ?_ _)); exact BK238.out) hb); have n8_ := Am (below_step (by repeat (first | (with_reducible first | exact HB.out | apply bl | apply pN | apply b1 | refine bs ?_ GE214.out | refine bs ?_ GE215.out | refine bs ?_ GE228.out | refine bs ?_ GE238.out) | exact HB.out | exact HBo.out)) hb); clear HO223; clear HO226; clear HO233; clear HO236; clear BK214; clear BK215; clear BK228; clear BK238; clear HB; have HO223 := n0_; have HO226 := n1_; have HO233 := n2_; have HO236 := n3_; have BK214 := n4_; have BK215 := n5_; have BK228 := n6_; have BK238 := n7_; have HB := n8_; clear n0_ n1_ n2_ n3_ n4_ n5_ n6_ n7_ n8_; (try clear hb); (try clear hb2); (try clear hk); (try clear hi)))
         go_meet
         case rel => exact ⟨_, (!t240), (by first | rfl | (simp; done) | (simp [*]; done)), H', ⟨by have := HJ2.out; first | omega | exact Nat.le_refl _⟩, ⟨by (with_reducible repeat (first | apply Kd.R_alloc | apply Kd.R_drewN | apply Kd.R_drew)); exact Kd.R_mono HO223.out (fun _ hk => hk.2)⟩, ⟨by (with_reducible repeat (first | apply Kd.S_alloc | apply Kd.S_drewN | apply Kd.S_drew)); exact Kd.S_mono HO226.out (fun _ hk => hk.2)⟩, ⟨by (with_reducible repeat (first | apply Kd.R_alloc | apply Kd.R_drewN | apply Kd.R_drew)); exact Kd.R_mono HO233.out (fun _ hk => hk.2)⟩, ⟨by (with_reducible repeat (first | apply Kd.S_alloc | apply Kd.S_drewN | apply Kd.S_drew)); exact Kd.S_mono HO236.out (fun _ hk => hk.2)⟩, ⟨by (with_reducible repeat (first | refine bn ?_ _ | refine bd ?_ | refine ba ?_ _)); exact BK214.out⟩, ⟨by (with_reducible repeat (first | refine bn ?_ _ | refine bd ?_ | refine ba ?_ _)); exact BK215.out⟩, ⟨by (with_reducible repeat (first | refine bn ?_ _ | refine bd ?_ | refine ba ?_ _)); exact BK228.out⟩, ⟨by (with_reducible repeat (first | refine bn ?_ _ | refine bd ?_ | refine ba ?_ _)); exact BK238.out⟩, ⟨by repeat (first | (with_reducible first | exact HB.out | apply bl | apply pN | apply b1 | refine bs ?_ GE214.out | refine bs ?_ GE215.out | refine bs ?_ GE228.out | refine bs ?_ GE238.out) | exact HB.out | exact HBo.out)⟩⟩
        ·
         replace c68 := Bool.eq_false_iff.mpr c68
         subst c68
         have H1 : (shuttlecocklaw06_InternBack.j1 kj2 true l0_0 l0_1 a1_0 l1_1 a1_2 t221 t224) = some r := by rw [if_neg (show ¬ (false = true) by decide)] at H; exact H
         clear H
         have H := H1
         clear H1
         have H' := Am H
         clear H
         have hnb82 := NB215_214.out
         have hnc82 := NB214_215.out
         have hnb83 := NB215_228.out
         have hnc83 := NB228_215.out
         have hnb84 := NB215_238.out
         have hnc84 := NB238_215.out
         have hcz85_0 : w57.cell? ⟨gb215, 0, none⟩ = some (.string a1_0) := (bc BK215.out 0).trans rfl
         have hcz85_1 : w57.cell? ⟨gb215, 1, none⟩ = some (.slice A1_1 l1_1.length c1_1) := (bc BK215.out 1).trans rfl
         have hcz85_2 : w57.cell? ⟨gb215, 2, none⟩ = some (.int .i64 a1_2) := (bc BK215.out 2).trans rfl
         have hfz85_0 := bf BK215.out 0
         have hfz85_1 := bf BK215.out 1
         have hfz85_2 := bf BK215.out 2
         have hnb86 := NB228_214.out
         have hnc86 := NB214_228.out
         have hnb87 := NB228_238.out
         have hnc87 := NB238_228.out
         have hcz88_0 : w57.cell? ⟨gb228, 0, none⟩ = some (.slice Ao48 t221.length co48) := (bc BK228.out 0).trans rfl
         have hcz88_1 : w57.cell? ⟨gb228, 1, none⟩ = some (.slice Ao52 t224.length co52) := (bc BK228.out 1).trans rfl
         have hfz88_0 := bf BK228.out 0
         have hfz88_1 := bf BK228.out 1
         have hnb89 := NB238_214.out
         have hnc89 := NB214_238.out
         have hcz90_0 : w57.cell? ⟨gb238, 0, none⟩ = some (.slice none 0 0) := (bc BK238.out 0).trans rfl
         have hcz90_1 : w57.cell? ⟨gb238, 1, none⟩ = some (.slice none 0 0) := (bc BK238.out 1).trans rfl
         have hfz90_0 := bf BK238.out 0
         have hfz90_1 := bf BK238.out 1
         go_wp2_with (first | (go_at_call 21; (with_reducible refine (shuttlecockref06_Same.calls kj2 _ _ t221 _ _ t224 _ _ t231 _ _ t234 false _ ?side1 ?side2 ?side3 ?side4 ?side5 ?side6 ?side7 ?side8 A67.out).mono ?_); (case side1 => refine (Kd.R_reads' (e := 9) (base := w.heap.size) (ok := fun k_ => (True ∧ some k_ ≠ (.slice Ao58 t231.length co58 : Value).ownBlock)) (n := t221.length) (c := co48) ?_).2.2; exact (by (with_reducible repeat (first | apply Kd.R_alloc | apply Kd.R_drewN | apply Kd.R_drew)); exact (Kd.R_mono (Kd.R_far (p := ⟨gb238, 1, none⟩) (Kd.R_far (p := ⟨gb238, 0, none⟩) (Kd.R_types HO223.out BK238.out (by decide)) (fun _ hk => hk.2) (.slice Ao58 t231.length co58)) (fun _ hk => hk.2) (.slice Ao63 t234.length co63)) (fun _ h_ => h_.1)))); (case side2 => exact (Kd.R_reads' HO223.out).2.1); (case side3 => refine (Kd.S_reads' (e := 46) (base := w.heap.size) (ok := fun k_ => (True ∧ some k_ ≠ (.slice Ao63 t234.length co63 : Value).ownBlock)) (n := t224.length) (c := co52) ?_).2.2; exact (by (with_reducible repeat (first | apply Kd.S_alloc | apply Kd.S_drewN | apply Kd.S_drew)); exact (Kd.S_mono (Kd.S_far (p := ⟨gb238, 1, none⟩) (Kd.S_far (p := ⟨gb238, 0, none⟩) (Kd.S_types HO226.out BK238.out (by decide)) (fun _ hk => hk.2) (.slice Ao58 t231.length co58)) (fun _ hk => hk.2) (.slice Ao63 t234.length co63)) (fun _ h_ => h_.1)))); (case side4 => exact (Kd.S_reads' HO226.out).2.1); (case side5 => refine (Kd.R_reads' (e := 9) (base := w.heap.size) (ok := fun k_ => (True ∧ some k_ ≠ (.slice Ao48 t221.length co48 : Value).ownBlock)) (n := t231.length) (c := co58) ?_).2.2; exact (by (with_reducible repeat (first | apply Kd.R_alloc | apply Kd.R_drewN | apply Kd.R_drew)); exact (Kd.R_mono (Kd.R_far (p := ⟨gb238, 1, none⟩) (Kd.R_far (p := ⟨gb238, 0, none⟩) (Kd.R_types HO233.out BK238.out (by decide)) (fun _ hk => hk.2) (.slice Ao58 t231.length co58)) (fun _ hk => hk.2) (.slice Ao63 t234.length co63)) (fun _ h_ => h_.1)))); (case side6 => exact (Kd.R_reads' HO233.out).2.1); (case side7 => refine (Kd.S_reads' (e := 46) (base := w.heap.size) (ok := fun k_ => (True ∧ some k_ ≠ (.slice Ao52 t224.length co52 : Value).ownBlock)) (n := t234.length) (c := co63) ?_).2.2; exact (by (with_reducible repeat (first | apply Kd.S_alloc | apply Kd.S_drewN | apply Kd.S_drew)); exact (Kd.S_mono (Kd.S_far (p := ⟨gb238, 1, none⟩) (Kd.S_far (p := ⟨gb238, 0, none⟩) (Kd.S_types HO236.out BK238.out (by decide)) (fun _ hk => hk.2) (.slice Ao58 t231.length co58)) (fun _ hk => hk.2) (.slice Ao63 t234.length co63)) (fun _ h_ => h_.1)))); (case side8 => exact (Kd.S_reads' HO236.out).2.1); rintro e w91 ⟨rfl, hb⟩; have n0_ := Am (Kd.R_below (by (with_reducible repeat (first | apply Kd.R_alloc | apply Kd.R_drewN | apply Kd.R_drew)); exact (Kd.R_mono (Kd.R_far (p := ⟨gb238, 1, none⟩) (Kd.R_far (p := ⟨gb238, 0, none⟩) (Kd.R_types HO223.out BK238.out (by decide)) (fun _ hk => hk.2) (.slice Ao58 t231.length co58)) (fun _ hk => hk.2) (.slice Ao63 t234.length co63)) (fun _ h_ => h_.1))) hb); have n1_ := Am (Kd.S_below (by (with_reducible repeat (first | apply Kd.S_alloc | apply Kd.S_drewN | apply Kd.S_drew)); exact (Kd.S_mono (Kd.S_far (p := ⟨gb238, 1, none⟩) (Kd.S_far (p := ⟨gb238, 0, none⟩) (Kd.S_types HO226.out BK238.out (by decide)) (fun _ hk => hk.2) (.slice Ao58 t231.length co58)) (fun _ hk => hk.2) (.slice Ao63 t234.length co63)) (fun _ h_ => h_.1))) hb); have n2_ := Am (Kd.R_below (by (with_reducible repeat (first | apply Kd.R_alloc | apply Kd.R_drewN | apply Kd.R_drew)); exact (Kd.R_mono (Kd.R_far (p := ⟨gb238, 1, none⟩) (Kd.R_far (p := ⟨gb238, 0, none⟩) (Kd.R_types HO233.out BK238.out (by decide)) (fun _ hk => hk.2) (.slice Ao58 t231.length co58)) (fun _ hk => hk.2) (.slice Ao63 t234.length co63)) (fun _ h_ => h_.1))) hb); have n3_ := Am (Kd.S_below (by (with_reducible repeat (first | apply Kd.S_alloc | apply Kd.S_drewN | apply Kd.S_drew)); exact (Kd.S_mono (Kd.S_far (p := ⟨gb238, 1, none⟩) (Kd.S_far (p := ⟨gb238, 0, none⟩) (Kd.S_types HO236.out BK238.out (by decide)) (fun _ hk => hk.2) (.slice Ao58 t231.length co58)) (fun _ hk => hk.2) (.slice Ao63 t234.length co63)) (fun _ h_ => h_.1))) hb); have n4_ := Am (blk_below (g := gb214) (o := .cells #[.slice A0_0 l0_0.length c0_0, .slice A0_1 l0_1.length c0_1] 25 (0, 0)) (by (with_reducible repeat (first | refine bn ?_ _ | refine bd ?_ | refine ba ?_ _)); refine blk_far ?_ NB214_238.out _; (with_reducible repeat (first | refine bn ?_ _ | refine bd ?_ | refine ba ?_ _)); refine blk_far ?_ NB214_238.out _; (with_reducible repeat (first | refine bn ?_ _ | refine bd ?_ | refine ba ?_ _)); exact BK214.out) hb); have n5_ := Am (blk_below (g := gb215) (o := .cells #[.string a1_0, .slice A1_1 l1_1.length c1_1, .int .i64 a1_2] 28 (0, 0)) (by (with_reducible repeat (first | refine bn ?_ _ | refine bd ?_ | refine ba ?_ _)); refine blk_far ?_ NB215_238.out _; (with_reducible repeat (first | refine bn ?_ _ | refine bd ?_ | refine ba ?_ _)); refine blk_far ?_ NB215_238.out _; (with_reducible repeat (first | refine bn ?_ _ | refine bd ?_ | refine ba ?_ _)); exact BK215.out) hb); have n6_ := Am (blk_below (g := gb228) (o := .cells #[.slice Ao48 t221.length co48, .slice Ao52 t224.length co52] 25 (0, 0)) (by (with_reducible repeat (first | refine bn ?_ _ | refine bd ?_ | refine ba ?_ _)); refine blk_far ?_ NB228_238.out _; (with_reducible repeat (first | refine bn ?_ _ | refine bd ?_ | refine ba ?_ _)); refine blk_far ?_ NB228_238.out _; (with_reducible repeat (first | refine bn ?_ _ | refine bd ?_ | refine ba ?_ _)); exact BK228.out) hb); have n7_ := Am (blk_below (g := gb238) (o := .cells #[.slice Ao58 t231.length co58, .slice Ao63 t234.length co63] 25 (0, 0)) (by (with_reducible repeat (first | refine bn ?_ _ | refine bd ?_ | refine ba ?_ _)); refine blk_put (cs := #[.slice Ao58 t231.length co58, .slice none 0 0]) ?_ 1 _ rfl; (with_reducible repeat (first | refine bn ?_ _ | refine bd ?_ | refine ba ?_ _)); refine blk_put (cs := #[.slice none 0 0, .slice none 0 0]) ?_ 0 _ rfl; (with_reducible repeat (first | refine bn ?_ _ | refine bd ?_ | refine ba ?_ _)); exact BK238.out) hb); have n8_ := Am (below_step (by repeat (first | (with_reducible first | exact HB.out | apply bl | apply pN | apply b1 | refine bs ?_ GE214.out | refine bs ?_ GE215.out | refine bs ?_ GE228.out | refine bs ?_ GE238.out) | exact HB.out | exact HBo.out)) hb); clear HO223; clear HO226; clear HO233; clear HO236; clear BK214; clear BK215; clear BK228; clear BK238; clear HB; have HO223 := n0_; have HO226 := n1_; have HO233 := n2_; have HO236 := n3_; have BK214 := n4_; have BK215 := n5_; have BK228 := n6_; have BK238 := n7_; have HB := n8_; clear n0_ n1_ n2_ n3_ n4_ n5_ n6_ n7_ n8_; (try clear hb); (try clear hb2); (try clear hk); (try clear hi)))
         go_meet
         case rel => exact ⟨_, (true), (by first | rfl | (simp; done) | (simp [*]; done)), H', ⟨by have := HJ2.out; first | omega | exact Nat.le_refl _⟩, ⟨by (with_reducible repeat (first | apply Kd.R_alloc | apply Kd.R_drewN | apply Kd.R_drew)); exact Kd.R_mono HO223.out (fun _ hk => hk.2)⟩, ⟨by (with_reducible repeat (first | apply Kd.S_alloc | apply Kd.S_drewN | apply Kd.S_drew)); exact Kd.S_mono HO226.out (fun _ hk => hk.2)⟩, ⟨by (with_reducible repeat (first | apply Kd.R_alloc | apply Kd.R_drewN | apply Kd.R_drew)); exact Kd.R_mono HO233.out (fun _ hk => hk.2)⟩, ⟨by (with_reducible repeat (first | apply Kd.S_alloc | apply Kd.S_drewN | apply Kd.S_drew)); exact Kd.S_mono HO236.out (fun _ hk => hk.2)⟩, ⟨by (with_reducible repeat (first | refine bn ?_ _ | refine bd ?_ | refine ba ?_ _)); exact BK214.out⟩, ⟨by (with_reducible repeat (first | refine bn ?_ _ | refine bd ?_ | refine ba ?_ _)); exact BK215.out⟩, ⟨by (with_reducible repeat (first | refine bn ?_ _ | refine bd ?_ | refine ba ?_ _)); exact BK228.out⟩, ⟨by (with_reducible repeat (first | refine bn ?_ _ | refine bd ?_ | refine ba ?_ _)); exact BK238.out⟩, ⟨by repeat (first | (with_reducible first | exact HB.out | apply bl | apply pN | apply b1 | refine bs ?_ GE214.out | refine bs ?_ GE215.out | refine bs ?_ GE228.out | refine bs ?_ GE238.out) | exact HB.out | exact HBo.out)⟩⟩
       ·
        rw [if_neg c66] at H
        have c66b0 : (t237 == t227) = false := beq_eq_false_iff_ne.mpr c66
        have c66b1 : (t237 != t227) = true := bne_iff_ne.mpr c66
        have H' := Am H
        clear H
        have hnb92 := NB215_214.out
        have hnc92 := NB214_215.out
        have hnb93 := NB215_228.out
        have hnc93 := NB228_215.out
        have hnb94 := NB215_238.out
        have hnc94 := NB238_215.out
        have hcz95_0 : w57.cell? ⟨gb215, 0, none⟩ = some (.string a1_0) := (bc BK215.out 0).trans rfl
        have hcz95_1 : w57.cell? ⟨gb215, 1, none⟩ = some (.slice A1_1 l1_1.length c1_1) := (bc BK215.out 1).trans rfl
        have hcz95_2 : w57.cell? ⟨gb215, 2, none⟩ = some (.int .i64 a1_2) := (bc BK215.out 2).trans rfl
        have hfz95_0 := bf BK215.out 0
        have hfz95_1 := bf BK215.out 1
        have hfz95_2 := bf BK215.out 2
        go_wp2
        go_meet
        case rel => exact ⟨_, (true), (by first | rfl | (simp; done) | (simp [*]; done)), H', ⟨by have := HJ2.out; first | omega | exact Nat.le_refl _⟩, ⟨by (with_reducible repeat (first | apply Kd.R_alloc | apply Kd.R_drewN | apply Kd.R_drew)); exact Kd.R_mono (Kd.R_far (p := ⟨gb238, 1, none⟩) (Kd.R_far (p := ⟨gb238, 0, none⟩) (Kd.R_types HO223.out BK238.out (by decide)) (fun _ hk => hk.2) (.slice Ao58 t231.length co58)) (fun _ hk => hk.2) (.slice Ao63 t234.length co63)) (fun _ hk => hk.1.2)⟩, ⟨by (with_reducible repeat (first | apply Kd.S_alloc | apply Kd.S_drewN | apply Kd.S_drew)); exact Kd.S_mono (Kd.S_far (p := ⟨gb238, 1, none⟩) (Kd.S_far (p := ⟨gb238, 0, none⟩) (Kd.S_types HO226.out BK238.out (by decide)) (fun _ hk => hk.2) (.slice Ao58 t231.length co58)) (fun _ hk => hk.2) (.slice Ao63 t234.length co63)) (fun _ hk => hk.1.2)⟩, ⟨by (with_reducible repeat (first | apply Kd.R_alloc | apply Kd.R_drewN | apply Kd.R_drew)); exact Kd.R_mono (Kd.R_far (p := ⟨gb238, 1, none⟩) (Kd.R_far (p := ⟨gb238, 0, none⟩) (Kd.R_types HO233.out BK238.out (by decide)) (fun _ hk => hk.2) (.slice Ao58 t231.length co58)) (fun _ hk => hk.2) (.slice Ao63 t234.length co63)) (fun _ hk => hk.1.2)⟩, ⟨by (with_reducible repeat (first | apply Kd.S_alloc | apply Kd.S_drewN | apply Kd.S_drew)); exact Kd.S_mono (Kd.S_far (p := ⟨gb238, 1, none⟩) (Kd.S_far (p := ⟨gb238, 0, none⟩) (Kd.S_types HO236.out BK238.out (by decide)) (fun _ hk => hk.2) (.slice Ao58 t231.length co58)) (fun _ hk => hk.2) (.slice Ao63 t234.length co63)) (fun _ hk => hk.1.2)⟩, ⟨by (with_reducible repeat (first | refine bn ?_ _ | refine bd ?_ | refine ba ?_ _)); refine blk_far ?_ NB214_238.out _; (with_reducible repeat (first | refine bn ?_ _ | refine bd ?_ | refine ba ?_ _)); refine blk_far ?_ NB214_238.out _; (with_reducible repeat (first | refine bn ?_ _ | refine bd ?_ | refine ba ?_ _)); exact BK214.out⟩, ⟨by (with_reducible repeat (first | refine bn ?_ _ | refine bd ?_ | refine ba ?_ _)); refine blk_far ?_ NB215_238.out _; (with_reducible repeat (first | refine bn ?_ _ | refine bd ?_ | refine ba ?_ _)); refine blk_far ?_ NB215_238.out _; (with_reducible repeat (first | refine bn ?_ _ | refine bd ?_ | refine ba ?_ _)); exact BK215.out⟩, ⟨by (with_reducible repeat (first | refine bn ?_ _ | refine bd ?_ | refine ba ?_ _)); refine blk_far ?_ NB228_238.out _; (with_reducible repeat (first | refine bn ?_ _ | refine bd ?_ | refine ba ?_ _)); refine blk_far ?_ NB228_238.out _; (with_reducible repeat (first | refine bn ?_ _ | refine bd ?_ | refine ba ?_ _)); exact BK228.out⟩, ⟨by (with_reducible repeat (first | refine bn ?_ _ | refine bd ?_ | refine ba ?_ _)); refine blk_put (cs := #[.slice Ao58 t231.length co58, .slice none 0 0]) ?_ 1 _ rfl; (with_reducible repeat (first | refine bn ?_ _ | refine bd ?_ | refine ba ?_ _)); refine blk_put (cs := #[.slice none 0 0, .slice none 0 0]) ?_ 0 _ rfl; (with_reducible repeat (first | refine bn ?_ _ | refine bd ?_ | refine ba ?_ _)); exact BK238.out⟩, ⟨by repeat (first | (with_reducible first | exact HB.out | apply bl | apply pN | apply b1 | refine bs ?_ GE214.out | refine bs ?_ GE215.out | refine bs ?_ GE228.out | refine bs ?_ GE238.out) | exact HB.out | exact HBo.out)⟩⟩
      ·
       rw [if_neg c65] at H
       have c65b0 : (t229.toList == a1_0.toList) = false := beq_eq_false_iff_ne.mpr c65
       have c65b1 : (t229.toList != a1_0.toList) = true := bne_iff_ne.mpr c65
       (first | rw [c65b0] | (simp only [i64_w, i32_w]; rw [c65b0]) | skip)
       have H' := Am H
       clear H
       have hnb96 := NB215_214.out
       have hnc96 := NB214_215.out
       have hnb97 := NB215_228.out
       have hnc97 := NB228_215.out
       have hnb98 := NB215_238.out
       have hnc98 := NB238_215.out
       have hcz99_0 : w57.cell? ⟨gb215, 0, none⟩ = some (.string a1_0) := (bc BK215.out 0).trans rfl
       have hcz99_1 : w57.cell? ⟨gb215, 1, none⟩ = some (.slice A1_1 l1_1.length c1_1) := (bc BK215.out 1).trans rfl
       have hcz99_2 : w57.cell? ⟨gb215, 2, none⟩ = some (.int .i64 a1_2) := (bc BK215.out 2).trans rfl
       have hfz99_0 := bf BK215.out 0
       have hfz99_1 := bf BK215.out 1
       have hfz99_2 := bf BK215.out 2
       go_wp2
       go_meet
       case rel => exact ⟨_, (true), (by first | rfl | (simp; done) | (simp [*]; done)), H', ⟨by have := HJ2.out; first | omega | exact Nat.le_refl _⟩, ⟨by (with_reducible repeat (first | apply Kd.R_alloc | apply Kd.R_drewN | apply Kd.R_drew)); exact Kd.R_mono (Kd.R_far (p := ⟨gb238, 1, none⟩) (Kd.R_far (p := ⟨gb238, 0, none⟩) (Kd.R_types HO223.out BK238.out (by decide)) (fun _ hk => hk.2) (.slice Ao58 t231.length co58)) (fun _ hk => hk.2) (.slice Ao63 t234.length co63)) (fun _ hk => hk.1.2)⟩, ⟨by (with_reducible repeat (first | apply Kd.S_alloc | apply Kd.S_drewN | apply Kd.S_drew)); exact Kd.S_mono (Kd.S_far (p := ⟨gb238, 1, none⟩) (Kd.S_far (p := ⟨gb238, 0, none⟩) (Kd.S_types HO226.out BK238.out (by decide)) (fun _ hk => hk.2) (.slice Ao58 t231.length co58)) (fun _ hk => hk.2) (.slice Ao63 t234.length co63)) (fun _ hk => hk.1.2)⟩, ⟨by (with_reducible repeat (first | apply Kd.R_alloc | apply Kd.R_drewN | apply Kd.R_drew)); exact Kd.R_mono (Kd.R_far (p := ⟨gb238, 1, none⟩) (Kd.R_far (p := ⟨gb238, 0, none⟩) (Kd.R_types HO233.out BK238.out (by decide)) (fun _ hk => hk.2) (.slice Ao58 t231.length co58)) (fun _ hk => hk.2) (.slice Ao63 t234.length co63)) (fun _ hk => hk.1.2)⟩, ⟨by (with_reducible repeat (first | apply Kd.S_alloc | apply Kd.S_drewN | apply Kd.S_drew)); exact Kd.S_mono (Kd.S_far (p := ⟨gb238, 1, none⟩) (Kd.S_far (p := ⟨gb238, 0, none⟩) (Kd.S_types HO236.out BK238.out (by decide)) (fun _ hk => hk.2) (.slice Ao58 t231.length co58)) (fun _ hk => hk.2) (.slice Ao63 t234.length co63)) (fun _ hk => hk.1.2)⟩, ⟨by (with_reducible repeat (first | refine bn ?_ _ | refine bd ?_ | refine ba ?_ _)); refine blk_far ?_ NB214_238.out _; (with_reducible repeat (first | refine bn ?_ _ | refine bd ?_ | refine ba ?_ _)); refine blk_far ?_ NB214_238.out _; (with_reducible repeat (first | refine bn ?_ _ | refine bd ?_ | refine ba ?_ _)); exact BK214.out⟩, ⟨by (with_reducible repeat (first | refine bn ?_ _ | refine bd ?_ | refine ba ?_ _)); refine blk_far ?_ NB215_238.out _; (with_reducible repeat (first | refine bn ?_ _ | refine bd ?_ | refine ba ?_ _)); refine blk_far ?_ NB215_238.out _; (with_reducible repeat (first | refine bn ?_ _ | refine bd ?_ | refine ba ?_ _)); exact BK215.out⟩, ⟨by (with_reducible repeat (first | refine bn ?_ _ | refine bd ?_ | refine ba ?_ _)); refine blk_far ?_ NB228_238.out _; (with_reducible repeat (first | refine bn ?_ _ | refine bd ?_ | refine ba ?_ _)); refine blk_far ?_ NB228_238.out _; (with_reducible repeat (first | refine bn ?_ _ | refine bd ?_ | refine ba ?_ _)); exact BK228.out⟩, ⟨by (with_reducible repeat (first | refine bn ?_ _ | refine bd ?_ | refine ba ?_ _)); refine blk_put (cs := #[.slice Ao58 t231.length co58, .slice none 0 0]) ?_ 1 _ rfl; (with_reducible repeat (first | refine bn ?_ _ | refine bd ?_ | refine ba ?_ _)); refine blk_put (cs := #[.slice none 0 0, .slice none 0 0]) ?_ 0 _ rfl; (with_reducible repeat (first | refine bn ?_ _ | refine bd ?_ | refine ba ?_ _)); exact BK238.out⟩, ⟨by repeat (first | (with_reducible first | exact HB.out | apply bl | apply pN | apply b1 | refine bs ?_ GE214.out | refine bs ?_ GE215.out | refine bs ?_ GE228.out | refine bs ?_ GE238.out) | exact HB.out | exact HBo.out)⟩⟩
     ·
      replace c64 := Bool.eq_false_iff.mpr c64
      subst c64
      have H1 : (shuttlecocklaw06_InternBack.j1 kj2 true l0_0 l0_1 a1_0 l1_1 a1_2 t221 t224) = some r := by rw [if_neg (show ¬ (false = true) by decide)] at H; exact H
      clear H
      have H := H1
      clear H1
      have H' := Am H
      clear H
      go_wp2
      go_meet
      case rel => exact ⟨_, (true), (by first | rfl | (simp; done) | (simp [*]; done)), H', ⟨by have := HJ2.out; first | omega | exact Nat.le_refl _⟩, ⟨by (with_reducible repeat (first | apply Kd.R_alloc | apply Kd.R_drewN | apply Kd.R_drew)); exact Kd.R_mono (Kd.R_far (p := ⟨gb238, 1, none⟩) (Kd.R_far (p := ⟨gb238, 0, none⟩) (Kd.R_types HO223.out BK238.out (by decide)) (fun _ hk => hk.2) (.slice Ao58 t231.length co58)) (fun _ hk => hk.2) (.slice Ao63 t234.length co63)) (fun _ hk => hk.1.2)⟩, ⟨by (with_reducible repeat (first | apply Kd.S_alloc | apply Kd.S_drewN | apply Kd.S_drew)); exact Kd.S_mono (Kd.S_far (p := ⟨gb238, 1, none⟩) (Kd.S_far (p := ⟨gb238, 0, none⟩) (Kd.S_types HO226.out BK238.out (by decide)) (fun _ hk => hk.2) (.slice Ao58 t231.length co58)) (fun _ hk => hk.2) (.slice Ao63 t234.length co63)) (fun _ hk => hk.1.2)⟩, ⟨by (with_reducible repeat (first | apply Kd.R_alloc | apply Kd.R_drewN | apply Kd.R_drew)); exact Kd.R_mono (Kd.R_far (p := ⟨gb238, 1, none⟩) (Kd.R_far (p := ⟨gb238, 0, none⟩) (Kd.R_types HO233.out BK238.out (by decide)) (fun _ hk => hk.2) (.slice Ao58 t231.length co58)) (fun _ hk => hk.2) (.slice Ao63 t234.length co63)) (fun _ hk => hk.1.2)⟩, ⟨by (with_reducible repeat (first | apply Kd.S_alloc | apply Kd.S_drewN | apply Kd.S_drew)); exact Kd.S_mono (Kd.S_far (p := ⟨gb238, 1, none⟩) (Kd.S_far (p := ⟨gb238, 0, none⟩) (Kd.S_types HO236.out BK238.out (by decide)) (fun _ hk => hk.2) (.slice Ao58 t231.length co58)) (fun _ hk => hk.2) (.slice Ao63 t234.length co63)) (fun _ hk => hk.1.2)⟩, ⟨by (with_reducible repeat (first | refine bn ?_ _ | refine bd ?_ | refine ba ?_ _)); refine blk_far ?_ NB214_238.out _; (with_reducible repeat (first | refine bn ?_ _ | refine bd ?_ | refine ba ?_ _)); refine blk_far ?_ NB214_238.out _; (with_reducible repeat (first | refine bn ?_ _ | refine bd ?_ | refine ba ?_ _)); exact BK214.out⟩, ⟨by (with_reducible repeat (first | refine bn ?_ _ | refine bd ?_ | refine ba ?_ _)); refine blk_far ?_ NB215_238.out _; (with_reducible repeat (first | refine bn ?_ _ | refine bd ?_ | refine ba ?_ _)); refine blk_far ?_ NB215_238.out _; (with_reducible repeat (first | refine bn ?_ _ | refine bd ?_ | refine ba ?_ _)); exact BK215.out⟩, ⟨by (with_reducible repeat (first | refine bn ?_ _ | refine bd ?_ | refine ba ?_ _)); refine blk_far ?_ NB228_238.out _; (with_reducible repeat (first | refine bn ?_ _ | refine bd ?_ | refine ba ?_ _)); refine blk_far ?_ NB228_238.out _; (with_reducible repeat (first | refine bn ?_ _ | refine bd ?_ | refine ba ?_ _)); exact BK228.out⟩, ⟨by (with_reducible repeat (first | refine bn ?_ _ | refine bd ?_ | refine ba ?_ _)); refine blk_put (cs := #[.slice Ao58 t231.length co58, .slice none 0 0]) ?_ 1 _ rfl; (with_reducible repeat (first | refine bn ?_ _ | refine bd ?_ | refine ba ?_ _)); refine blk_put (cs := #[.slice none 0 0, .slice none 0 0]) ?_ 0 _ rfl; (with_reducible repeat (first | refine bn ?_ _ | refine bd ?_ | refine ba ?_ _)); exact BK238.out⟩, ⟨by repeat (first | (with_reducible first | exact HB.out | apply bl | apply pN | apply b1 | refine bs ?_ GE214.out | refine bs ?_ GE215.out | refine bs ?_ GE228.out | refine bs ?_ GE238.out) | exact HB.out | exact HBo.out)⟩⟩
    case rest =>
     clear HC42
     try clear c1
     try clear c2
     try clear p2
     try clear c3
     try clear c4
     try clear c5
     try clear c6
     try clear c7
     try clear c8
     try clear c9
     try clear c10
     try clear c11
     try clear c12
     try clear c12b0
     try clear c12b1
     try clear c14
     try clear c15
     try clear c20
     try clear c27
     try clear c32
     try clear c36
     try clear c43
     try clear c49
     try clear c50
     try clear c59
     try clear c60
     try clear c61
     try clear c64
     try clear c65
     try clear c65b0
     try clear c65b1
     try clear c66
     try clear c66b0
     try clear c66b1
     try clear c68
     try clear c70
     try clear c71
     try clear c72
     try clear c74
     try clear c75
     try clear c77
     try clear c82
     try clear c83
     try clear c84
     try clear c86
     try clear c87
     try clear c89
     try clear c92
     try clear c93
     try clear c94
     try clear c96
     try clear c97
     try clear c98
     try clear hcz15_0
     try clear hcz15_1
     try clear hcz17_0
     try clear hcz17_1
     try clear hcz17_2
     try clear hcz21_0
     try clear hcz21_1
     try clear hcz23_0
     try clear hcz23_1
     try clear hcz23_2
     try clear hcz24_0
     try clear hcz24_1
     try clear hcz28_0
     try clear hcz28_1
     try clear hcz30_0
     try clear hcz30_1
     try clear hcz30_2
     try clear hcz33_0
     try clear hcz33_1
     try clear hcz44_0
     try clear hcz44_1
     try clear hcz45_0
     try clear hcz45_1
     try clear hcz45_2
     try clear hcz51_0
     try clear hcz51_1
     try clear hcz54_0
     try clear hcz54_1
     try clear hcz55_0
     try clear hcz55_1
     try clear hcz55_2
     try clear hcz62_0
     try clear hcz62_1
     try clear hcz73_0
     try clear hcz73_1
     try clear hcz73_2
     try clear hcz76_0
     try clear hcz76_1
     try clear hcz78_0
     try clear hcz78_1
     try clear hcz80_0
     try clear hcz80_1
     try clear hcz85_0
     try clear hcz85_1
     try clear hcz85_2
     try clear hcz88_0
     try clear hcz88_1
     try clear hcz90_0
     try clear hcz90_1
     try clear hcz95_0
     try clear hcz95_1
     try clear hcz95_2
     try clear hcz99_0
     try clear hcz99_1
     try clear hcz99_2
     try clear hfz15_0
     try clear hfz15_1
     try clear hfz17_0
     try clear hfz17_1
     try clear hfz17_2
     try clear hfz21_0
     try clear hfz21_1
     try clear hfz23_0
     try clear hfz23_1
     try clear hfz23_2
     try clear hfz24_0
     try clear hfz24_1
     try clear hfz28_0
     try clear hfz28_1
     try clear hfz30_0
     try clear hfz30_1
     try clear hfz30_2
     try clear hfz33_0
     try clear hfz33_1
     try clear hfz44_0
     try clear hfz44_1
     try clear hfz45_0
     try clear hfz45_1
     try clear hfz45_2
     try clear hfz51_0
     try clear hfz51_1
     try clear hfz54_0
     try clear hfz54_1
     try clear hfz55_0
     try clear hfz55_1
     try clear hfz55_2
     try clear hfz62_0
     try clear hfz62_1
     try clear hfz73_0
     try clear hfz73_1
     try clear hfz73_2
     try clear hfz76_0
     try clear hfz76_1
     try clear hfz78_0
     try clear hfz78_1
     try clear hfz80_0
     try clear hfz80_1
     try clear hfz85_0
     try clear hfz85_1
     try clear hfz85_2
     try clear hfz88_0
     try clear hfz88_1
     try clear hfz90_0
     try clear hfz90_1
     try clear hfz95_0
     try clear hfz95_1
     try clear hfz95_2
     try clear hfz99_0
     try clear hfz99_1
     try clear hfz99_2
     try clear p2
     obtain ⟨kq, x95_41, rfl, HA, HJ41, HO_229000, HO_229001, HO_239000, HO_239001, BK214, BK215, BK228, BK238, HB⟩ := hcut
     cases kq with
     | zero => exact absurd HA.out (by simp [shuttlecocklaw06_InternBack.j1])
     | succ kj41 =>
      have H := HA.out
      clear HA
      simp only [shuttlecocklaw06_InternBack.j1] at H
      by_cases c100 : x95_41 = true
      ·
       subst c100
       have H1 : (none) = some r := by rw [if_pos rfl] at H; exact H
       clear H
       have H := H1
       clear H1
       exact absurd H (by simp)
      ·
       replace c100 := Bool.eq_false_iff.mpr c100
       subst c100
       have H1 : ((intern_Stack.f kj41 t221 t224 l1_1).bind fun bt241 => (if bt241.2.2 = 0 then (if (l1_1.length : Int) = 0 then (some true) else ((shuttlecockref06_Same.f kj41 bt241.1 bt241.2.1 ([] : List ByteArray) ([] : List (List (S50)))).bind fun t249 => (some t249))) else ((intern_Frames.f kj41 bt241.1 bt241.2.1 bt241.2.2).bind fun bt250 => ((intern_Stack.f kj41 bt241.1 bt241.2.1 l1_1).bind fun bt254 => (shuttlecocklaw06_InternBack.l0 kj41 bt241.2.2 bt250.1 bt250.2 bt254.2.2 0 l0_0 l0_1 a1_0 l1_1 a1_2 bt241.1 bt241.2.1 bt254.1 bt254.2.1))))) = some r := by rw [if_neg (show ¬ (false = true) by decide)] at H; exact H
       clear H
       have H := H1
       clear H1
       replace H := ob H
       obtain ⟨⟨t241, t244, t247⟩, A1010, H⟩ := H
       replace H : (if t247 = 0 then (if (l1_1.length : Int) = 0 then (some true) else ((shuttlecockref06_Same.f kj41 t241 t244 ([] : List ByteArray) ([] : List (List (S50)))).bind fun t249 => (some t249))) else ((intern_Frames.f kj41 t241 t244 t247).bind fun bt250 => ((intern_Stack.f kj41 t241 t244 l1_1).bind fun bt254 => (shuttlecocklaw06_InternBack.l0 kj41 t247 bt250.1 bt250.2 bt254.2.2 0 l0_0 l0_1 a1_0 l1_1 a1_2 t241 t244 bt254.1 bt254.2.1)))) = some r := H
       have A101 := Am A1010
       clear A1010
       by_cases c102 : t247 = 0
       ·
        rw [if_pos c102] at H
        have c102b0 : (t247 == 0) = true := beq_iff_eq.mpr c102
        have c102b1 : (t247 != 0) = false := bne_eq_false_iff_eq.mpr c102
        clear c102
        by_cases c103 : (l1_1.length : Int) = 0
        ·
         rw [if_pos c103] at H
         have c103b0 : ((l1_1.length : Int) == 0) = true := beq_iff_eq.mpr c103
         have c103b1 : ((l1_1.length : Int) != 0) = false := bne_eq_false_iff_eq.mpr c103
         clear c103
         obtain rfl := Option.some.inj H
         have hnb104 := NB228_214.out
         have hnc104 := NB214_228.out
         have hnb105 := NB228_215.out
         have hnc105 := NB215_228.out
         have hnb106 := NB228_238.out
         have hnc106 := NB238_228.out
         have hcz107_0 : wc.cell? ⟨gb228, 0, none⟩ = some (.slice Ao48 t221.length co48) := (bc BK228.out 0).trans rfl
         have hcz107_1 : wc.cell? ⟨gb228, 1, none⟩ = some (.slice Ao52 t224.length co52) := (bc BK228.out 1).trans rfl
         have hfz107_0 := bf BK228.out 0
         have hfz107_1 := bf BK228.out 1
         have hnb108 := NB215_214.out
         have hnc108 := NB214_215.out
         have hnb109 := NB215_238.out
         have hnc109 := NB238_215.out
         have hcz110_0 : wc.cell? ⟨gb215, 0, none⟩ = some (.string a1_0) := (bc BK215.out 0).trans rfl
         have hcz110_1 : wc.cell? ⟨gb215, 1, none⟩ = some (.slice A1_1 l1_1.length c1_1) := (bc BK215.out 1).trans rfl
         have hcz110_2 : wc.cell? ⟨gb215, 2, none⟩ = some (.int .i64 a1_2) := (bc BK215.out 2).trans rfl
         have hfz110_0 := bf BK215.out 0
         have hfz110_1 := bf BK215.out 1
         have hfz110_2 := bf BK215.out 2
         go_wp2_with (first | ((with_reducible refine gate_callee (f := 13) rfl ?_); refine goesL_ (some 100) rfl rfl Try.func13 (by kernel_rfl) rfl #[.agg #[.slice Ao48 t221.length co48, .slice Ao52 t224.length co52], .slice A1_1 l1_1.length c1_1] rfl (by (try simp only [List.map_toArray, List.map_cons, List.map_nil]); first | done | rfl | (simp only [List.length_drop, List.length_take]; rfl)) ?_; (with_reducible refine (intern_Stack.calls kj41 _ _ t221 _ _ t224 _ _ l1_1 t241 t244 t247 _ ?side1 ?side2 ?side3 ?side4 ?side5 ?side6 A101.out).mono ?_); (case side1 => repeat (first | exact (Kd.R_reads' HO_229000.out).2.2 | (with_reducible refine Kd.C_alloc ?_ _) | (with_reducible refine Kd.C_drewN ?_ _) | (with_reducible refine Kd.C_drew ?_))); (case side2 => exact (Kd.R_reads' HO_229000.out).2.1); (case side3 => repeat (first | exact (Kd.S_reads' HO_229001.out).2.2 | (with_reducible refine Kd.C_alloc ?_ _) | (with_reducible refine Kd.C_drewN ?_ _) | (with_reducible refine Kd.C_drew ?_))); (case side4 => exact (Kd.S_reads' HO_229001.out).2.1); (case side5 => repeat (first | exact (Kd.C_below HR1_1.out HB.out) | (with_reducible refine Kd.C_alloc ?_ _) | (with_reducible refine Kd.C_drewN ?_ _) | (with_reducible refine Kd.C_drew ?_))); (case side6 => exact HC1_1.out); rintro e w111 ⟨v242, v245, rfl, ho0, ho1, hb⟩; refine ⟨_, rfl, ?_⟩; have n0_ := Am (Kd.R_elder' (by (with_reducible repeat (first | apply Kd.R_alloc | apply Kd.R_drewN | apply Kd.R_drew)); exact HO_229000.out) (Kd.R_base ho0) hb); have n1_ := Am (Kd.S_elder' (by (with_reducible repeat (first | apply Kd.S_alloc | apply Kd.S_drewN | apply Kd.S_drew)); exact HO_229001.out) (Kd.S_base ho1) hb); have n2_ := Am (Kd.R_elder' (by (with_reducible repeat (first | apply Kd.R_alloc | apply Kd.R_drewN | apply Kd.R_drew)); exact HO_239000.out) (Kd.R_base ho0) hb); have n3_ := Am (Kd.S_elder' (by (with_reducible repeat (first | apply Kd.S_alloc | apply Kd.S_drewN | apply Kd.S_drew)); exact HO_239001.out) (Kd.S_base ho1) hb); have n4_ := Am (Kd.R_lower (Kd.R_new' (Kd.R_new' ho0 (Kd.R_lt (by (with_reducible repeat (first | apply Kd.R_alloc | apply Kd.R_drewN | apply Kd.R_drew)); exact HO_229000.out))) (Kd.R_lt (by (with_reducible repeat (first | apply Kd.R_alloc | apply Kd.R_drewN | apply Kd.R_drew)); exact HO_239000.out))) (below_size (by repeat (first | (with_reducible first | exact HB.out | apply bl | apply pN | apply b1 | refine bs ?_ GE214.out | refine bs ?_ GE215.out | refine bs ?_ GE228.out | refine bs ?_ GE238.out) | exact HB.out | exact HBo.out)))); have n5_ := Am (Kd.S_lower (Kd.S_new' (Kd.S_new' ho1 (Kd.S_lt (by (with_reducible repeat (first | apply Kd.S_alloc | apply Kd.S_drewN | apply Kd.S_drew)); exact HO_229001.out))) (Kd.S_lt (by (with_reducible repeat (first | apply Kd.S_alloc | apply Kd.S_drewN | apply Kd.S_drew)); exact HO_239001.out))) (below_size (by repeat (first | (with_reducible first | exact HB.out | apply bl | apply pN | apply b1 | refine bs ?_ GE214.out | refine bs ?_ GE215.out | refine bs ?_ GE228.out | refine bs ?_ GE238.out) | exact HB.out | exact HBo.out)))); have n6_ := Am (blk_below (g := gb214) (o := .cells #[.slice A0_0 l0_0.length c0_0, .slice A0_1 l0_1.length c0_1] 25 (0, 0)) (by (with_reducible repeat (first | refine bn ?_ _ | refine bd ?_ | refine ba ?_ _)); exact BK214.out) hb); have n7_ := Am (blk_below (g := gb215) (o := .cells #[.string a1_0, .slice A1_1 l1_1.length c1_1, .int .i64 a1_2] 28 (0, 0)) (by (with_reducible repeat (first | refine bn ?_ _ | refine bd ?_ | refine ba ?_ _)); exact BK215.out) hb); have n8_ := Am (blk_below (g := gb228) (o := .cells #[.slice Ao48 t221.length co48, .slice Ao52 t224.length co52] 25 (0, 0)) (by (with_reducible repeat (first | refine bn ?_ _ | refine bd ?_ | refine ba ?_ _)); exact BK228.out) hb); have n9_ := Am (blk_below (g := gb238) (o := .cells #[.slice Ao58 t231.length co58, .slice Ao63 t234.length co63] 25 (0, 0)) (by (with_reducible repeat (first | refine bn ?_ _ | refine bd ?_ | refine ba ?_ _)); exact BK238.out) hb); have n10_ := Am (below_step (by repeat (first | (with_reducible first | exact HB.out | apply bl | apply pN | apply b1 | refine bs ?_ GE214.out | refine bs ?_ GE215.out | refine bs ?_ GE228.out | refine bs ?_ GE238.out) | exact HB.out | exact HBo.out)) hb); clear HO_229000; clear HO_229001; clear HO_239000; clear HO_239001; clear BK214; clear BK215; clear BK228; clear BK238; clear HB; have HO_229000 := n0_; have HO_229001 := n1_; have HO_239000 := n2_; have HO_239001 := n3_; have HO243 := n4_; have HO246 := n5_; have BK214 := n6_; have BK215 := n7_; have BK228 := n8_; have BK238 := n9_; have HB := n10_; clear n0_ n1_ n2_ n3_ n4_ n5_ n6_ n7_ n8_ n9_ n10_; (try clear hb); (try clear hb2); (try clear hk); (try clear hi); (try clear ho0); (try clear ho1)) | ((with_reducible refine gate_dst (N := 11) rfl ?_); (try (refine gate_guard (by rfl) ?_; dsimp only)); refine box_event ?hg (N := 11) ?hd (cs := #[.slice none 0 0, .slice none 0 0]) (t := 25) ?hr ?_; (case hd => rfl); (case hg => rfl); (case hr => first | (go_simp; done) | (go_simp; rfl)); intro gb248 hg w112 hbox hb; have n0_ := Am (Kd.R_below (by (with_reducible repeat (first | apply Kd.R_alloc | apply Kd.R_drewN | apply Kd.R_drew)); exact HO_229000.out) hb); have n1_ := Am (Kd.S_below (by (with_reducible repeat (first | apply Kd.S_alloc | apply Kd.S_drewN | apply Kd.S_drew)); exact HO_229001.out) hb); have n2_ := Am (Kd.R_below (by (with_reducible repeat (first | apply Kd.R_alloc | apply Kd.R_drewN | apply Kd.R_drew)); exact HO_239000.out) hb); have n3_ := Am (Kd.S_below (by (with_reducible repeat (first | apply Kd.S_alloc | apply Kd.S_drewN | apply Kd.S_drew)); exact HO_239001.out) hb); have n4_ := Am (Kd.R_below (by (with_reducible repeat (first | apply Kd.R_alloc | apply Kd.R_drewN | apply Kd.R_drew)); exact HO243.out) hb); have n5_ := Am (Kd.S_below (by (with_reducible repeat (first | apply Kd.S_alloc | apply Kd.S_drewN | apply Kd.S_drew)); exact HO246.out) hb); have n6_ := Am (blk_below (g := gb214) (o := .cells #[.slice A0_0 l0_0.length c0_0, .slice A0_1 l0_1.length c0_1] 25 (0, 0)) (by (with_reducible repeat (first | refine bn ?_ _ | refine bd ?_ | refine ba ?_ _)); exact BK214.out) hb); have n7_ := Am (blk_below (g := gb215) (o := .cells #[.string a1_0, .slice A1_1 l1_1.length c1_1, .int .i64 a1_2] 28 (0, 0)) (by (with_reducible repeat (first | refine bn ?_ _ | refine bd ?_ | refine ba ?_ _)); exact BK215.out) hb); have n8_ := Am (blk_below (g := gb228) (o := .cells #[.slice Ao48 t221.length co48, .slice Ao52 t224.length co52] 25 (0, 0)) (by (with_reducible repeat (first | refine bn ?_ _ | refine bd ?_ | refine ba ?_ _)); exact BK228.out) hb); have n9_ := Am (blk_below (g := gb238) (o := .cells #[.slice Ao58 t231.length co58, .slice Ao63 t234.length co63] 25 (0, 0)) (by (with_reducible repeat (first | refine bn ?_ _ | refine bd ?_ | refine ba ?_ _)); exact BK238.out) hb); have n10_ := Am (below_step (by repeat (first | (with_reducible first | exact HB.out | apply bl | apply pN | apply b1 | refine bs ?_ GE214.out | refine bs ?_ GE215.out | refine bs ?_ GE228.out | refine bs ?_ GE238.out) | exact HB.out | exact HBo.out)) hb); have n11_ := Am (hbox); have n12_ := Am ((by rw [hg]; exact (below_size (by repeat (first | (with_reducible first | exact HB.out | apply bl | apply pN | apply b1 | refine bs ?_ GE214.out | refine bs ?_ GE215.out | refine bs ?_ GE228.out | refine bs ?_ GE238.out) | exact HB.out | exact HBo.out))) : w.heap.size ≤ gb248)); have n13_ := Am ((by rw [hg]; exact (below_size (by repeat (first | (with_reducible first | exact HB.out | apply bl | apply pN | apply b1 | refine bs ?_ GE214.out | refine bs ?_ GE215.out | refine bs ?_ GE228.out | refine bs ?_ GE238.out) | exact HB.out | exact HBo.out))) : w.heap.size ≤ gb248)); have n14_ := Am ((by rw [hg]; exact Nat.ne_of_lt (blk_lt (g := gb214) (o := .cells #[.slice A0_0 l0_0.length c0_0, .slice A0_1 l0_1.length c0_1] 25 (0, 0)) (by (with_reducible repeat (first | refine bn ?_ _ | refine bd ?_ | refine ba ?_ _)); exact BK214.out)) : gb214 ≠ gb248)); have n15_ := Am ((by rw [hg]; exact Nat.ne_of_gt (blk_lt (g := gb214) (o := .cells #[.slice A0_0 l0_0.length c0_0, .slice A0_1 l0_1.length c0_1] 25 (0, 0)) (by (with_reducible repeat (first | refine bn ?_ _ | refine bd ?_ | refine ba ?_ _)); exact BK214.out)) : gb248 ≠ gb214)); have n16_ := Am ((by rw [hg]; exact Nat.ne_of_lt (blk_lt (g := gb215) (o := .cells #[.string a1_0, .slice A1_1 l1_1.length c1_1, .int .i64 a1_2] 28 (0, 0)) (by (with_reducible repeat (first | refine bn ?_ _ | refine bd ?_ | refine ba ?_ _)); exact BK215.out)) : gb215 ≠ gb248)); have n17_ := Am ((by rw [hg]; exact Nat.ne_of_gt (blk_lt (g := gb215) (o := .cells #[.string a1_0, .slice A1_1 l1_1.length c1_1, .int .i64 a1_2] 28 (0, 0)) (by (with_reducible repeat (first | refine bn ?_ _ | refine bd ?_ | refine ba ?_ _)); exact BK215.out)) : gb248 ≠ gb215)); have n18_ := Am ((by rw [hg]; exact Nat.ne_of_lt (blk_lt (g := gb228) (o := .cells #[.slice Ao48 t221.length co48, .slice Ao52 t224.length co52] 25 (0, 0)) (by (with_reducible repeat (first | refine bn ?_ _ | refine bd ?_ | refine ba ?_ _)); exact BK228.out)) : gb228 ≠ gb248)); have n19_ := Am ((by rw [hg]; exact Nat.ne_of_gt (blk_lt (g := gb228) (o := .cells #[.slice Ao48 t221.length co48, .slice Ao52 t224.length co52] 25 (0, 0)) (by (with_reducible repeat (first | refine bn ?_ _ | refine bd ?_ | refine ba ?_ _)); exact BK228.out)) : gb248 ≠ gb228)); have n20_ := Am ((by rw [hg]; exact Nat.ne_of_lt (blk_lt (g := gb238) (o := .cells #[.slice Ao58 t231.length co58, .slice Ao63 t234.length co63] 25 (0, 0)) (by (with_reducible repeat (first | refine bn ?_ _ | refine bd ?_ | refine ba ?_ _)); exact BK238.out)) : gb238 ≠ gb248)); have n21_ := Am ((by rw [hg]; exact Nat.ne_of_gt (blk_lt (g := gb238) (o := .cells #[.slice Ao58 t231.length co58, .slice Ao63 t234.length co63] 25 (0, 0)) (by (with_reducible repeat (first | refine bn ?_ _ | refine bd ?_ | refine ba ?_ _)); exact BK238.out)) : gb248 ≠ gb238)); clear HO_229000; clear HO_229001; clear HO_239000; clear HO_239001; clear HO243; clear HO246; clear BK214; clear BK215; clear BK228; clear BK238; clear HB; have HO_229000 := n0_; have HO_229001 := n1_; have HO_239000 := n2_; have HO_239001 := n3_; have HO243 := n4_; have HO246 := n5_; have BK214 := n6_; have BK215 := n7_; have BK228 := n8_; have BK238 := n9_; have HB := n10_; have BK248 := n11_; have GW248 := n12_; have GE248 := n13_; have NB214_248 := n14_; have NB248_214 := n15_; have NB215_248 := n16_; have NB248_215 := n17_; have NB228_248 := n18_; have NB248_228 := n19_; have NB238_248 := n20_; have NB248_238 := n21_; clear n0_ n1_ n2_ n3_ n4_ n5_ n6_ n7_ n8_ n9_ n10_ n11_ n12_ n13_ n14_ n15_ n16_ n17_ n18_ n19_ n20_ n21_; clear hb hbox hg; obtain ⟨Ao113, co113, eo113⟩ := Kd.R_slice HO243.out; subst eo113; have hnb114 := NB248_214.out; have hnc114 := NB214_248.out; have hnb115 := NB248_215.out; have hnc115 := NB215_248.out; have hnb116 := NB248_228.out; have hnc116 := NB228_248.out; have hnb117 := NB248_238.out; have hnc117 := NB238_248.out; have hcz118_0 : w112.cell? ⟨gb248, 0, none⟩ = some (.slice none 0 0) := (bc BK248.out 0).trans rfl; have hcz118_1 : w112.cell? ⟨gb248, 1, none⟩ = some (.slice none 0 0) := (bc BK248.out 1).trans rfl; have hfz118_0 := bf BK248.out 0; have hfz118_1 := bf BK248.out 1; obtain ⟨Ao119, co119, eo119⟩ := Kd.S_slice HO246.out; subst eo119; have hcz120_0 : w112.cell? ⟨gb215, 0, none⟩ = some (.string a1_0) := (bc BK215.out 0).trans rfl; have hcz120_1 : w112.cell? ⟨gb215, 1, none⟩ = some (.slice A1_1 l1_1.length c1_1) := (bc BK215.out 1).trans rfl; have hcz120_2 : w112.cell? ⟨gb215, 2, none⟩ = some (.int .i64 a1_2) := (bc BK215.out 2).trans rfl; have hfz120_0 := bf BK215.out 0; have hfz120_1 := bf BK215.out 1; have hfz120_2 := bf BK215.out 2))
         go_ret
         exact ⟨by first | rfl | (simp [errW_none, errW_some] <;> rfl) | (simp [*, errW_none, errW_some] <;> rfl) | (simp [Aid.ne_nil, Aid.eq_nil, errW_none, errW_some]; done), by repeat (first | (with_reducible first | exact HB.out | apply bl | apply pN | apply b1 | refine bs ?_ GE214.out | refine bs ?_ GE215.out | refine bs ?_ GE228.out | refine bs ?_ GE238.out | refine bs ?_ GE248.out) | exact HB.out | exact HBo.out)⟩
        ·
         rw [if_neg c103] at H
         have c103b0 : ((l1_1.length : Int) == 0) = false := beq_eq_false_iff_ne.mpr c103
         have c103b1 : ((l1_1.length : Int) != 0) = true := bne_iff_ne.mpr c103
         have c103b2 : ¬ (l1_1 = []) := fun h_ => c103 (by rw [h_]; rfl)
         replace H := ob H
         obtain ⟨t249, A1210, H⟩ := H
         replace H : (some t249) = some r := H
         have A121 := Am A1210
         clear A1210
         obtain rfl := Option.some.inj H
         have hnb122 := NB228_214.out
         have hnc122 := NB214_228.out
         have hnb123 := NB228_215.out
         have hnc123 := NB215_228.out
         have hnb124 := NB228_238.out
         have hnc124 := NB238_228.out
         have hcz125_0 : wc.cell? ⟨gb228, 0, none⟩ = some (.slice Ao48 t221.length co48) := (bc BK228.out 0).trans rfl
         have hcz125_1 : wc.cell? ⟨gb228, 1, none⟩ = some (.slice Ao52 t224.length co52) := (bc BK228.out 1).trans rfl
         have hfz125_0 := bf BK228.out 0
         have hfz125_1 := bf BK228.out 1
         have hnb126 := NB215_214.out
         have hnc126 := NB214_215.out
         have hnb127 := NB215_238.out
         have hnc127 := NB238_215.out
         have hcz128_0 : wc.cell? ⟨gb215, 0, none⟩ = some (.string a1_0) := (bc BK215.out 0).trans rfl
         have hcz128_1 : wc.cell? ⟨gb215, 1, none⟩ = some (.slice A1_1 l1_1.length c1_1) := (bc BK215.out 1).trans rfl
         have hcz128_2 : wc.cell? ⟨gb215, 2, none⟩ = some (.int .i64 a1_2) := (bc BK215.out 2).trans rfl
         have hfz128_0 := bf BK215.out 0
         have hfz128_1 := bf BK215.out 1
         have hfz128_2 := bf BK215.out 2
         go_wp2_with (first | ((with_reducible refine gate_callee (f := 13) rfl ?_); refine goesL_ (some 100) rfl rfl Try.func13 (by kernel_rfl) rfl #[.agg #[.slice Ao48 t221.length co48, .slice Ao52 t224.length co52], .slice A1_1 l1_1.length c1_1] rfl (by (try simp only [List.map_toArray, List.map_cons, List.map_nil]); first | done | rfl | (simp only [List.length_drop, List.length_take]; rfl)) ?_; (with_reducible refine (intern_Stack.calls kj41 _ _ t221 _ _ t224 _ _ l1_1 t241 t244 t247 _ ?side1 ?side2 ?side3 ?side4 ?side5 ?side6 A101.out).mono ?_); (case side1 => repeat (first | exact (Kd.R_reads' HO_229000.out).2.2 | (with_reducible refine Kd.C_alloc ?_ _) | (with_reducible refine Kd.C_drewN ?_ _) | (with_reducible refine Kd.C_drew ?_))); (case side2 => exact (Kd.R_reads' HO_229000.out).2.1); (case side3 => repeat (first | exact (Kd.S_reads' HO_229001.out).2.2 | (with_reducible refine Kd.C_alloc ?_ _) | (with_reducible refine Kd.C_drewN ?_ _) | (with_reducible refine Kd.C_drew ?_))); (case side4 => exact (Kd.S_reads' HO_229001.out).2.1); (case side5 => repeat (first | exact (Kd.C_below HR1_1.out HB.out) | (with_reducible refine Kd.C_alloc ?_ _) | (with_reducible refine Kd.C_drewN ?_ _) | (with_reducible refine Kd.C_drew ?_))); (case side6 => exact HC1_1.out); rintro e w129 ⟨v242, v245, rfl, ho0, ho1, hb⟩; refine ⟨_, rfl, ?_⟩; have n0_ := Am (Kd.R_elder' (by (with_reducible repeat (first | apply Kd.R_alloc | apply Kd.R_drewN | apply Kd.R_drew)); exact HO_229000.out) (Kd.R_base ho0) hb); have n1_ := Am (Kd.S_elder' (by (with_reducible repeat (first | apply Kd.S_alloc | apply Kd.S_drewN | apply Kd.S_drew)); exact HO_229001.out) (Kd.S_base ho1) hb); have n2_ := Am (Kd.R_elder' (by (with_reducible repeat (first | apply Kd.R_alloc | apply Kd.R_drewN | apply Kd.R_drew)); exact HO_239000.out) (Kd.R_base ho0) hb); have n3_ := Am (Kd.S_elder' (by (with_reducible repeat (first | apply Kd.S_alloc | apply Kd.S_drewN | apply Kd.S_drew)); exact HO_239001.out) (Kd.S_base ho1) hb); have n4_ := Am (Kd.R_lower (Kd.R_new' (Kd.R_new' ho0 (Kd.R_lt (by (with_reducible repeat (first | apply Kd.R_alloc | apply Kd.R_drewN | apply Kd.R_drew)); exact HO_229000.out))) (Kd.R_lt (by (with_reducible repeat (first | apply Kd.R_alloc | apply Kd.R_drewN | apply Kd.R_drew)); exact HO_239000.out))) (below_size (by repeat (first | (with_reducible first | exact HB.out | apply bl | apply pN | apply b1 | refine bs ?_ GE214.out | refine bs ?_ GE215.out | refine bs ?_ GE228.out | refine bs ?_ GE238.out) | exact HB.out | exact HBo.out)))); have n5_ := Am (Kd.S_lower (Kd.S_new' (Kd.S_new' ho1 (Kd.S_lt (by (with_reducible repeat (first | apply Kd.S_alloc | apply Kd.S_drewN | apply Kd.S_drew)); exact HO_229001.out))) (Kd.S_lt (by (with_reducible repeat (first | apply Kd.S_alloc | apply Kd.S_drewN | apply Kd.S_drew)); exact HO_239001.out))) (below_size (by repeat (first | (with_reducible first | exact HB.out | apply bl | apply pN | apply b1 | refine bs ?_ GE214.out | refine bs ?_ GE215.out | refine bs ?_ GE228.out | refine bs ?_ GE238.out) | exact HB.out | exact HBo.out)))); have n6_ := Am (blk_below (g := gb214) (o := .cells #[.slice A0_0 l0_0.length c0_0, .slice A0_1 l0_1.length c0_1] 25 (0, 0)) (by (with_reducible repeat (first | refine bn ?_ _ | refine bd ?_ | refine ba ?_ _)); exact BK214.out) hb); have n7_ := Am (blk_below (g := gb215) (o := .cells #[.string a1_0, .slice A1_1 l1_1.length c1_1, .int .i64 a1_2] 28 (0, 0)) (by (with_reducible repeat (first | refine bn ?_ _ | refine bd ?_ | refine ba ?_ _)); exact BK215.out) hb); have n8_ := Am (blk_below (g := gb228) (o := .cells #[.slice Ao48 t221.length co48, .slice Ao52 t224.length co52] 25 (0, 0)) (by (with_reducible repeat (first | refine bn ?_ _ | refine bd ?_ | refine ba ?_ _)); exact BK228.out) hb); have n9_ := Am (blk_below (g := gb238) (o := .cells #[.slice Ao58 t231.length co58, .slice Ao63 t234.length co63] 25 (0, 0)) (by (with_reducible repeat (first | refine bn ?_ _ | refine bd ?_ | refine ba ?_ _)); exact BK238.out) hb); have n10_ := Am (below_step (by repeat (first | (with_reducible first | exact HB.out | apply bl | apply pN | apply b1 | refine bs ?_ GE214.out | refine bs ?_ GE215.out | refine bs ?_ GE228.out | refine bs ?_ GE238.out) | exact HB.out | exact HBo.out)) hb); clear HO_229000; clear HO_229001; clear HO_239000; clear HO_239001; clear BK214; clear BK215; clear BK228; clear BK238; clear HB; have HO_229000 := n0_; have HO_229001 := n1_; have HO_239000 := n2_; have HO_239001 := n3_; have HO243 := n4_; have HO246 := n5_; have BK214 := n6_; have BK215 := n7_; have BK228 := n8_; have BK238 := n9_; have HB := n10_; clear n0_ n1_ n2_ n3_ n4_ n5_ n6_ n7_ n8_ n9_ n10_; (try clear hb); (try clear hb2); (try clear hk); (try clear hi); (try clear ho0); (try clear ho1)) | ((with_reducible refine gate_dst (N := 11) rfl ?_); (try (refine gate_guard (by rfl) ?_; dsimp only)); refine box_event ?hg (N := 11) ?hd (cs := #[.slice none 0 0, .slice none 0 0]) (t := 25) ?hr ?_; (case hd => rfl); (case hg => rfl); (case hr => first | (go_simp; done) | (go_simp; rfl)); intro gb248 hg w130 hbox hb; have n0_ := Am (Kd.R_below (by (with_reducible repeat (first | apply Kd.R_alloc | apply Kd.R_drewN | apply Kd.R_drew)); exact HO_229000.out) hb); have n1_ := Am (Kd.S_below (by (with_reducible repeat (first | apply Kd.S_alloc | apply Kd.S_drewN | apply Kd.S_drew)); exact HO_229001.out) hb); have n2_ := Am (Kd.R_below (by (with_reducible repeat (first | apply Kd.R_alloc | apply Kd.R_drewN | apply Kd.R_drew)); exact HO_239000.out) hb); have n3_ := Am (Kd.S_below (by (with_reducible repeat (first | apply Kd.S_alloc | apply Kd.S_drewN | apply Kd.S_drew)); exact HO_239001.out) hb); have n4_ := Am (Kd.R_below (by (with_reducible repeat (first | apply Kd.R_alloc | apply Kd.R_drewN | apply Kd.R_drew)); exact HO243.out) hb); have n5_ := Am (Kd.S_below (by (with_reducible repeat (first | apply Kd.S_alloc | apply Kd.S_drewN | apply Kd.S_drew)); exact HO246.out) hb); have n6_ := Am (blk_below (g := gb214) (o := .cells #[.slice A0_0 l0_0.length c0_0, .slice A0_1 l0_1.length c0_1] 25 (0, 0)) (by (with_reducible repeat (first | refine bn ?_ _ | refine bd ?_ | refine ba ?_ _)); exact BK214.out) hb); have n7_ := Am (blk_below (g := gb215) (o := .cells #[.string a1_0, .slice A1_1 l1_1.length c1_1, .int .i64 a1_2] 28 (0, 0)) (by (with_reducible repeat (first | refine bn ?_ _ | refine bd ?_ | refine ba ?_ _)); exact BK215.out) hb); have n8_ := Am (blk_below (g := gb228) (o := .cells #[.slice Ao48 t221.length co48, .slice Ao52 t224.length co52] 25 (0, 0)) (by (with_reducible repeat (first | refine bn ?_ _ | refine bd ?_ | refine ba ?_ _)); exact BK228.out) hb); have n9_ := Am (blk_below (g := gb238) (o := .cells #[.slice Ao58 t231.length co58, .slice Ao63 t234.length co63] 25 (0, 0)) (by (with_reducible repeat (first | refine bn ?_ _ | refine bd ?_ | refine ba ?_ _)); exact BK238.out) hb); have n10_ := Am (below_step (by repeat (first | (with_reducible first | exact HB.out | apply bl | apply pN | apply b1 | refine bs ?_ GE214.out | refine bs ?_ GE215.out | refine bs ?_ GE228.out | refine bs ?_ GE238.out) | exact HB.out | exact HBo.out)) hb); have n11_ := Am (hbox); have n12_ := Am ((by rw [hg]; exact (below_size (by repeat (first | (with_reducible first | exact HB.out | apply bl | apply pN | apply b1 | refine bs ?_ GE214.out | refine bs ?_ GE215.out | refine bs ?_ GE228.out | refine bs ?_ GE238.out) | exact HB.out | exact HBo.out))) : w.heap.size ≤ gb248)); have n13_ := Am ((by rw [hg]; exact (below_size (by repeat (first | (with_reducible first | exact HB.out | apply bl | apply pN | apply b1 | refine bs ?_ GE214.out | refine bs ?_ GE215.out | refine bs ?_ GE228.out | refine bs ?_ GE238.out) | exact HB.out | exact HBo.out))) : w.heap.size ≤ gb248)); have n14_ := Am ((by rw [hg]; exact Nat.ne_of_lt (blk_lt (g := gb214) (o := .cells #[.slice A0_0 l0_0.length c0_0, .slice A0_1 l0_1.length c0_1] 25 (0, 0)) (by (with_reducible repeat (first | refine bn ?_ _ | refine bd ?_ | refine ba ?_ _)); exact BK214.out)) : gb214 ≠ gb248)); have n15_ := Am ((by rw [hg]; exact Nat.ne_of_gt (blk_lt (g := gb214) (o := .cells #[.slice A0_0 l0_0.length c0_0, .slice A0_1 l0_1.length c0_1] 25 (0, 0)) (by (with_reducible repeat (first | refine bn ?_ _ | refine bd ?_ | refine ba ?_ _)); exact BK214.out)) : gb248 ≠ gb214)); have n16_ := Am ((by rw [hg]; exact Nat.ne_of_lt (blk_lt (g := gb215) (o := .cells #[.string a1_0, .slice A1_1 l1_1.length c1_1, .int .i64 a1_2] 28 (0, 0)) (by (with_reducible repeat (first | refine bn ?_ _ | refine bd ?_ | refine ba ?_ _)); exact BK215.out)) : gb215 ≠ gb248)); have n17_ := Am ((by rw [hg]; exact Nat.ne_of_gt (blk_lt (g := gb215) (o := .cells #[.string a1_0, .slice A1_1 l1_1.length c1_1, .int .i64 a1_2] 28 (0, 0)) (by (with_reducible repeat (first | refine bn ?_ _ | refine bd ?_ | refine ba ?_ _)); exact BK215.out)) : gb248 ≠ gb215)); have n18_ := Am ((by rw [hg]; exact Nat.ne_of_lt (blk_lt (g := gb228) (o := .cells #[.slice Ao48 t221.length co48, .slice Ao52 t224.length co52] 25 (0, 0)) (by (with_reducible repeat (first | refine bn ?_ _ | refine bd ?_ | refine ba ?_ _)); exact BK228.out)) : gb228 ≠ gb248)); have n19_ := Am ((by rw [hg]; exact Nat.ne_of_gt (blk_lt (g := gb228) (o := .cells #[.slice Ao48 t221.length co48, .slice Ao52 t224.length co52] 25 (0, 0)) (by (with_reducible repeat (first | refine bn ?_ _ | refine bd ?_ | refine ba ?_ _)); exact BK228.out)) : gb248 ≠ gb228)); have n20_ := Am ((by rw [hg]; exact Nat.ne_of_lt (blk_lt (g := gb238) (o := .cells #[.slice Ao58 t231.length co58, .slice Ao63 t234.length co63] 25 (0, 0)) (by (with_reducible repeat (first | refine bn ?_ _ | refine bd ?_ | refine ba ?_ _)); exact BK238.out)) : gb238 ≠ gb248)); have n21_ := Am ((by rw [hg]; exact Nat.ne_of_gt (blk_lt (g := gb238) (o := .cells #[.slice Ao58 t231.length co58, .slice Ao63 t234.length co63] 25 (0, 0)) (by (with_reducible repeat (first | refine bn ?_ _ | refine bd ?_ | refine ba ?_ _)); exact BK238.out)) : gb248 ≠ gb238)); clear HO_229000; clear HO_229001; clear HO_239000; clear HO_239001; clear HO243; clear HO246; clear BK214; clear BK215; clear BK228; clear BK238; clear HB; have HO_229000 := n0_; have HO_229001 := n1_; have HO_239000 := n2_; have HO_239001 := n3_; have HO243 := n4_; have HO246 := n5_; have BK214 := n6_; have BK215 := n7_; have BK228 := n8_; have BK238 := n9_; have HB := n10_; have BK248 := n11_; have GW248 := n12_; have GE248 := n13_; have NB214_248 := n14_; have NB248_214 := n15_; have NB215_248 := n16_; have NB248_215 := n17_; have NB228_248 := n18_; have NB248_228 := n19_; have NB238_248 := n20_; have NB248_238 := n21_; clear n0_ n1_ n2_ n3_ n4_ n5_ n6_ n7_ n8_ n9_ n10_ n11_ n12_ n13_ n14_ n15_ n16_ n17_ n18_ n19_ n20_ n21_; clear hb hbox hg; obtain ⟨Ao131, co131, eo131⟩ := Kd.R_slice HO243.out; subst eo131; have hnb132 := NB248_214.out; have hnc132 := NB214_248.out; have hnb133 := NB248_215.out; have hnc133 := NB215_248.out; have hnb134 := NB248_228.out; have hnc134 := NB228_248.out; have hnb135 := NB248_238.out; have hnc135 := NB238_248.out; have hcz136_0 : w130.cell? ⟨gb248, 0, none⟩ = some (.slice none 0 0) := (bc BK248.out 0).trans rfl; have hcz136_1 : w130.cell? ⟨gb248, 1, none⟩ = some (.slice none 0 0) := (bc BK248.out 1).trans rfl; have hfz136_0 := bf BK248.out 0; have hfz136_1 := bf BK248.out 1; obtain ⟨Ao137, co137, eo137⟩ := Kd.S_slice HO246.out; subst eo137; have hcz138_0 : w130.cell? ⟨gb215, 0, none⟩ = some (.string a1_0) := (bc BK215.out 0).trans rfl; have hcz138_1 : w130.cell? ⟨gb215, 1, none⟩ = some (.slice A1_1 l1_1.length c1_1) := (bc BK215.out 1).trans rfl; have hcz138_2 : w130.cell? ⟨gb215, 2, none⟩ = some (.int .i64 a1_2) := (bc BK215.out 2).trans rfl; have hfz138_0 := bf BK215.out 0; have hfz138_1 := bf BK215.out 1; have hfz138_2 := bf BK215.out 2) | (go_at_call 21; (refine (shuttlecockref06_Same.calls kj41 _ _ t241 _ _ t244 _ _ ([] : List ByteArray) _ _ ([] : List (List (S50))) t249 _ ?side1 ?side2 ?side3 ?side4 ?side5 ?side6 ?side7 ?side8 A121.out).mono ?_); (case side1 => refine (Kd.R_reads' (e := 9) (base := w.heap.size) (ok := fun k_ => ((True ∧ some k_ ≠ (.slice Ao48 t221.length co48 : Value).ownBlock) ∧ some k_ ≠ (.slice Ao58 t231.length co58 : Value).ownBlock)) (n := t241.length) (c := co131) ?_).2.2; exact (by (with_reducible repeat (first | apply Kd.R_alloc | apply Kd.R_drewN | apply Kd.R_drew)); exact (Kd.R_mono (Kd.R_far (p := ⟨gb248, 1, none⟩) (Kd.R_far (p := ⟨gb248, 0, none⟩) (Kd.R_types HO243.out BK248.out (by decide)) (fun _ hk => hk.2) (.slice Ao131 t241.length co131)) (fun _ hk => hk.2) (.slice Ao137 t244.length co137)) (fun _ h_ => h_.1)))); (case side2 => exact (Kd.R_reads' HO243.out).2.1); (case side3 => refine (Kd.S_reads' (e := 46) (base := w.heap.size) (ok := fun k_ => ((True ∧ some k_ ≠ (.slice Ao52 t224.length co52 : Value).ownBlock) ∧ some k_ ≠ (.slice Ao63 t234.length co63 : Value).ownBlock)) (n := t244.length) (c := co137) ?_).2.2; exact (by (with_reducible repeat (first | apply Kd.S_alloc | apply Kd.S_drewN | apply Kd.S_drew)); exact (Kd.S_mono (Kd.S_far (p := ⟨gb248, 1, none⟩) (Kd.S_far (p := ⟨gb248, 0, none⟩) (Kd.S_types HO246.out BK248.out (by decide)) (fun _ hk => hk.2) (.slice Ao131 t241.length co131)) (fun _ hk => hk.2) (.slice Ao137 t244.length co137)) (fun _ h_ => h_.1)))); (case side4 => exact (Kd.S_reads' HO246.out).2.1); (case side5 => exact Kd.C_nil _ _); (case side6 => exact Nat.le_refl _); (case side7 => exact Kd.C_nil _ _); (case side8 => exact Nat.le_refl _); rintro e w139 ⟨rfl, hb⟩; have n0_ := Am (Kd.R_below (by (with_reducible repeat (first | apply Kd.R_alloc | apply Kd.R_drewN | apply Kd.R_drew)); exact (Kd.R_mono (Kd.R_far (p := ⟨gb248, 1, none⟩) (Kd.R_far (p := ⟨gb248, 0, none⟩) (Kd.R_types HO_229000.out BK248.out (by decide)) (fun _ hk => hk.2) (.slice Ao131 t241.length co131)) (fun _ hk => hk.2) (.slice Ao137 t244.length co137)) (fun _ h_ => h_.1))) hb); have n1_ := Am (Kd.S_below (by (with_reducible repeat (first | apply Kd.S_alloc | apply Kd.S_drewN | apply Kd.S_drew)); exact (Kd.S_mono (Kd.S_far (p := ⟨gb248, 1, none⟩) (Kd.S_far (p := ⟨gb248, 0, none⟩) (Kd.S_types HO_229001.out BK248.out (by decide)) (fun _ hk => hk.2) (.slice Ao131 t241.length co131)) (fun _ hk => hk.2) (.slice Ao137 t244.length co137)) (fun _ h_ => h_.1))) hb); have n2_ := Am (Kd.R_below (by (with_reducible repeat (first | apply Kd.R_alloc | apply Kd.R_drewN | apply Kd.R_drew)); exact (Kd.R_mono (Kd.R_far (p := ⟨gb248, 1, none⟩) (Kd.R_far (p := ⟨gb248, 0, none⟩) (Kd.R_types HO_239000.out BK248.out (by decide)) (fun _ hk => hk.2) (.slice Ao131 t241.length co131)) (fun _ hk => hk.2) (.slice Ao137 t244.length co137)) (fun _ h_ => h_.1))) hb); have n3_ := Am (Kd.S_below (by (with_reducible repeat (first | apply Kd.S_alloc | apply Kd.S_drewN | apply Kd.S_drew)); exact (Kd.S_mono (Kd.S_far (p := ⟨gb248, 1, none⟩) (Kd.S_far (p := ⟨gb248, 0, none⟩) (Kd.S_types HO_239001.out BK248.out (by decide)) (fun _ hk => hk.2) (.slice Ao131 t241.length co131)) (fun _ hk => hk.2) (.slice Ao137 t244.length co137)) (fun _ h_ => h_.1))) hb); have n4_ := Am (Kd.R_below (by (with_reducible repeat (first | apply Kd.R_alloc | apply Kd.R_drewN | apply Kd.R_drew)); exact (Kd.R_mono (Kd.R_far (p := ⟨gb248, 1, none⟩) (Kd.R_far (p := ⟨gb248, 0, none⟩) (Kd.R_types HO243.out BK248.out (by decide)) (fun _ hk => hk.2) (.slice Ao131 t241.length co131)) (fun _ hk => hk.2) (.slice Ao137 t244.length co137)) (fun _ h_ => h_.1))) hb); have n5_ := Am (Kd.S_below (by (with_reducible repeat (first | apply Kd.S_alloc | apply Kd.S_drewN | apply Kd.S_drew)); exact (Kd.S_mono (Kd.S_far (p := ⟨gb248, 1, none⟩) (Kd.S_far (p := ⟨gb248, 0, none⟩) (Kd.S_types HO246.out BK248.out (by decide)) (fun _ hk => hk.2) (.slice Ao131 t241.length co131)) (fun _ hk => hk.2) (.slice Ao137 t244.length co137)) (fun _ h_ => h_.1))) hb); have n6_ := Am (blk_below (g := gb214) (o := .cells #[.slice A0_0 l0_0.length c0_0, .slice A0_1 l0_1.length c0_1] 25 (0, 0)) (by (with_reducible repeat (first | refine bn ?_ _ | refine bd ?_ | refine ba ?_ _)); refine blk_far ?_ NB214_248.out _; (with_reducible repeat (first | refine bn ?_ _ | refine bd ?_ | refine ba ?_ _)); refine blk_far ?_ NB214_248.out _; (with_reducible repeat (first | refine bn ?_ _ | refine bd ?_ | refine ba ?_ _)); exact BK214.out) hb); have n7_ := Am (blk_below (g := gb215) (o := .cells #[.string a1_0, .slice A1_1 l1_1.length c1_1, .int .i64 a1_2] 28 (0, 0)) (by (with_reducible repeat (first | refine bn ?_ _ | refine bd ?_ | refine ba ?_ _)); refine blk_far ?_ NB215_248.out _; (with_reducible repeat (first | refine bn ?_ _ | refine bd ?_ | refine ba ?_ _)); refine blk_far ?_ NB215_248.out _; (with_reducible repeat (first | refine bn ?_ _ | refine bd ?_ | refine ba ?_ _)); exact BK215.out) hb); have n8_ := Am (blk_below (g := gb228) (o := .cells #[.slice Ao48 t221.length co48, .slice Ao52 t224.length co52] 25 (0, 0)) (by (with_reducible repeat (first | refine bn ?_ _ | refine bd ?_ | refine ba ?_ _)); refine blk_far ?_ NB228_248.out _; (with_reducible repeat (first | refine bn ?_ _ | refine bd ?_ | refine ba ?_ _)); refine blk_far ?_ NB228_248.out _; (with_reducible repeat (first | refine bn ?_ _ | refine bd ?_ | refine ba ?_ _)); exact BK228.out) hb); have n9_ := Am (blk_below (g := gb238) (o := .cells #[.slice Ao58 t231.length co58, .slice Ao63 t234.length co63] 25 (0, 0)) (by (with_reducible repeat (first | refine bn ?_ _ | refine bd ?_ | refine ba ?_ _)); refine blk_far ?_ NB238_248.out _; (with_reducible repeat (first | refine bn ?_ _ | refine bd ?_ | refine ba ?_ _)); refine blk_far ?_ NB238_248.out _; (with_reducible repeat (first | refine bn ?_ _ | refine bd ?_ | refine ba ?_ _)); exact BK238.out) hb); have n10_ := Am (blk_below (g := gb248) (o := .cells #[.slice Ao131 t241.length co131, .slice Ao137 t244.length co137] 25 (0, 0)) (by (with_reducible repeat (first | refine bn ?_ _ | refine bd ?_ | refine ba ?_ _)); refine blk_put (cs := #[.slice Ao131 t241.length co131, .slice none 0 0]) ?_ 1 _ rfl; (with_reducible repeat (first | refine bn ?_ _ | refine bd ?_ | refine ba ?_ _)); refine blk_put (cs := #[.slice none 0 0, .slice none 0 0]) ?_ 0 _ rfl; (with_reducible repeat (first | refine bn ?_ _ | refine bd ?_ | refine ba ?_ _)); exact BK248.out) hb); have n11_ := Am (below_step (by repeat (first | (with_reducible first | exact HB.out | apply bl | apply pN | apply b1 | refine bs ?_ GE214.out | refine bs ?_ GE215.out | refine bs ?_ GE228.out | refine bs ?_ GE238.out | refine bs ?_ GE248.out) | exact HB.out | exact HBo.out)) hb); clear HO_229000; clear HO_229001; clear HO_239000; clear HO_239001; clear HO243; clear HO246; clear BK214; clear BK215; clear BK228; clear BK238; clear BK248; clear HB; have HO_229000 := n0_; have HO_229001 := n1_; have HO_239000 := n2_; have HO_239001 := n3_; have HO243 := n4_; have HO246 := n5_; have BK214 := n6_; have BK215 := n7_; have BK228 := n8_; have BK238 := n9_; have BK248 := n10_; have HB := n11_; clear n0_ n1_ n2_ n3_ n4_ n5_ n6_ n7_ n8_ n9_ n10_ n11_; (try clear hb); (try clear hb2); (try clear hk); (try clear hi)))
         go_ret
         exact ⟨by first | rfl | (simp [errW_none, errW_some] <;> rfl) | (simp [*, errW_none, errW_some] <;> rfl) | (simp [Aid.ne_nil, Aid.eq_nil, errW_none, errW_some]; done), by repeat (first | (with_reducible first | exact HB.out | apply bl | apply pN | apply b1 | refine bs ?_ GE214.out | refine bs ?_ GE215.out | refine bs ?_ GE228.out | refine bs ?_ GE238.out | refine bs ?_ GE248.out) | exact HB.out | exact HBo.out)⟩
       ·
        rw [if_neg c102] at H
        have c102b0 : (t247 == 0) = false := beq_eq_false_iff_ne.mpr c102
        have c102b1 : (t247 != 0) = true := bne_iff_ne.mpr c102
        replace H := ob H
        obtain ⟨⟨t250, t253⟩, A1400, H⟩ := H
        replace H : ((intern_Stack.f kj41 t241 t244 l1_1).bind fun bt254 => (shuttlecocklaw06_InternBack.l0 kj41 t247 t250 t253 bt254.2.2 0 l0_0 l0_1 a1_0 l1_1 a1_2 t241 t244 bt254.1 bt254.2.1)) = some r := H
        have A140 := Am A1400
        clear A1400
        replace H := ob H
        obtain ⟨⟨t254, t257, t260⟩, A1410, H⟩ := H
        replace H : (shuttlecocklaw06_InternBack.l0 kj41 t247 t250 t253 t260 0 l0_0 l0_1 a1_0 l1_1 a1_2 t241 t244 t254 t257) = some r := H
        have A141 := Am A1410
        clear A1410
        have H' := Am H
        clear H
        have hnb142 := NB228_214.out
        have hnc142 := NB214_228.out
        have hnb143 := NB228_215.out
        have hnc143 := NB215_228.out
        have hnb144 := NB228_238.out
        have hnc144 := NB238_228.out
        have hcz145_0 : wc.cell? ⟨gb228, 0, none⟩ = some (.slice Ao48 t221.length co48) := (bc BK228.out 0).trans rfl
        have hcz145_1 : wc.cell? ⟨gb228, 1, none⟩ = some (.slice Ao52 t224.length co52) := (bc BK228.out 1).trans rfl
        have hfz145_0 := bf BK228.out 0
        have hfz145_1 := bf BK228.out 1
        have hnb146 := NB215_214.out
        have hnc146 := NB214_215.out
        have hnb147 := NB215_238.out
        have hnc147 := NB238_215.out
        have hcz148_0 : wc.cell? ⟨gb215, 0, none⟩ = some (.string a1_0) := (bc BK215.out 0).trans rfl
        have hcz148_1 : wc.cell? ⟨gb215, 1, none⟩ = some (.slice A1_1 l1_1.length c1_1) := (bc BK215.out 1).trans rfl
        have hcz148_2 : wc.cell? ⟨gb215, 2, none⟩ = some (.int .i64 a1_2) := (bc BK215.out 2).trans rfl
        have hfz148_0 := bf BK215.out 0
        have hfz148_1 := bf BK215.out 1
        have hfz148_2 := bf BK215.out 2
        go_wp2_with (first | ((with_reducible refine gate_callee (f := 13) rfl ?_); refine goesL_ (some 100) rfl rfl Try.func13 (by kernel_rfl) rfl #[.agg #[.slice Ao48 t221.length co48, .slice Ao52 t224.length co52], .slice A1_1 l1_1.length c1_1] rfl (by (try simp only [List.map_toArray, List.map_cons, List.map_nil]); first | done | rfl | (simp only [List.length_drop, List.length_take]; rfl)) ?_; (with_reducible refine (intern_Stack.calls kj41 _ _ t221 _ _ t224 _ _ l1_1 t241 t244 t247 _ ?side1 ?side2 ?side3 ?side4 ?side5 ?side6 A101.out).mono ?_); (case side1 => repeat (first | exact (Kd.R_reads' HO_229000.out).2.2 | (with_reducible refine Kd.C_alloc ?_ _) | (with_reducible refine Kd.C_drewN ?_ _) | (with_reducible refine Kd.C_drew ?_))); (case side2 => exact (Kd.R_reads' HO_229000.out).2.1); (case side3 => repeat (first | exact (Kd.S_reads' HO_229001.out).2.2 | (with_reducible refine Kd.C_alloc ?_ _) | (with_reducible refine Kd.C_drewN ?_ _) | (with_reducible refine Kd.C_drew ?_))); (case side4 => exact (Kd.S_reads' HO_229001.out).2.1); (case side5 => repeat (first | exact (Kd.C_below HR1_1.out HB.out) | (with_reducible refine Kd.C_alloc ?_ _) | (with_reducible refine Kd.C_drewN ?_ _) | (with_reducible refine Kd.C_drew ?_))); (case side6 => exact HC1_1.out); rintro e w149 ⟨v242, v245, rfl, ho0, ho1, hb⟩; refine ⟨_, rfl, ?_⟩; have n0_ := Am (Kd.R_elder' (by (with_reducible repeat (first | apply Kd.R_alloc | apply Kd.R_drewN | apply Kd.R_drew)); exact HO_229000.out) (Kd.R_base ho0) hb); have n1_ := Am (Kd.S_elder' (by (with_reducible repeat (first | apply Kd.S_alloc | apply Kd.S_drewN | apply Kd.S_drew)); exact HO_229001.out) (Kd.S_base ho1) hb); have n2_ := Am (Kd.R_elder' (by (with_reducible repeat (first | apply Kd.R_alloc | apply Kd.R_drewN | apply Kd.R_drew)); exact HO_239000.out) (Kd.R_base ho0) hb); have n3_ := Am (Kd.S_elder' (by (with_reducible repeat (first | apply Kd.S_alloc | apply Kd.S_drewN | apply Kd.S_drew)); exact HO_239001.out) (Kd.S_base ho1) hb); have n4_ := Am (Kd.R_lower (Kd.R_new' (Kd.R_new' ho0 (Kd.R_lt (by (with_reducible repeat (first | apply Kd.R_alloc | apply Kd.R_drewN | apply Kd.R_drew)); exact HO_229000.out))) (Kd.R_lt (by (with_reducible repeat (first | apply Kd.R_alloc | apply Kd.R_drewN | apply Kd.R_drew)); exact HO_239000.out))) (below_size (by repeat (first | (with_reducible first | exact HB.out | apply bl | apply pN | apply b1 | refine bs ?_ GE214.out | refine bs ?_ GE215.out | refine bs ?_ GE228.out | refine bs ?_ GE238.out) | exact HB.out | exact HBo.out)))); have n5_ := Am (Kd.S_lower (Kd.S_new' (Kd.S_new' ho1 (Kd.S_lt (by (with_reducible repeat (first | apply Kd.S_alloc | apply Kd.S_drewN | apply Kd.S_drew)); exact HO_229001.out))) (Kd.S_lt (by (with_reducible repeat (first | apply Kd.S_alloc | apply Kd.S_drewN | apply Kd.S_drew)); exact HO_239001.out))) (below_size (by repeat (first | (with_reducible first | exact HB.out | apply bl | apply pN | apply b1 | refine bs ?_ GE214.out | refine bs ?_ GE215.out | refine bs ?_ GE228.out | refine bs ?_ GE238.out) | exact HB.out | exact HBo.out)))); have n6_ := Am (blk_below (g := gb214) (o := .cells #[.slice A0_0 l0_0.length c0_0, .slice A0_1 l0_1.length c0_1] 25 (0, 0)) (by (with_reducible repeat (first | refine bn ?_ _ | refine bd ?_ | refine ba ?_ _)); exact BK214.out) hb); have n7_ := Am (blk_below (g := gb215) (o := .cells #[.string a1_0, .slice A1_1 l1_1.length c1_1, .int .i64 a1_2] 28 (0, 0)) (by (with_reducible repeat (first | refine bn ?_ _ | refine bd ?_ | refine ba ?_ _)); exact BK215.out) hb); have n8_ := Am (blk_below (g := gb228) (o := .cells #[.slice Ao48 t221.length co48, .slice Ao52 t224.length co52] 25 (0, 0)) (by (with_reducible repeat (first | refine bn ?_ _ | refine bd ?_ | refine ba ?_ _)); exact BK228.out) hb); have n9_ := Am (blk_below (g := gb238) (o := .cells #[.slice Ao58 t231.length co58, .slice Ao63 t234.length co63] 25 (0, 0)) (by (with_reducible repeat (first | refine bn ?_ _ | refine bd ?_ | refine ba ?_ _)); exact BK238.out) hb); have n10_ := Am (below_step (by repeat (first | (with_reducible first | exact HB.out | apply bl | apply pN | apply b1 | refine bs ?_ GE214.out | refine bs ?_ GE215.out | refine bs ?_ GE228.out | refine bs ?_ GE238.out) | exact HB.out | exact HBo.out)) hb); clear HO_229000; clear HO_229001; clear HO_239000; clear HO_239001; clear BK214; clear BK215; clear BK228; clear BK238; clear HB; have HO_229000 := n0_; have HO_229001 := n1_; have HO_239000 := n2_; have HO_239001 := n3_; have HO243 := n4_; have HO246 := n5_; have BK214 := n6_; have BK215 := n7_; have BK228 := n8_; have BK238 := n9_; have HB := n10_; clear n0_ n1_ n2_ n3_ n4_ n5_ n6_ n7_ n8_ n9_ n10_; (try clear hb); (try clear hb2); (try clear hk); (try clear hi); (try clear ho0); (try clear ho1)) | ((with_reducible refine gate_dst (N := 11) rfl ?_); (try (refine gate_guard (by rfl) ?_; dsimp only)); refine box_event ?hg (N := 11) ?hd (cs := #[.slice none 0 0, .slice none 0 0]) (t := 25) ?hr ?_; (case hd => rfl); (case hg => rfl); (case hr => first | (go_simp; done) | (go_simp; rfl)); intro gb248 hg w150 hbox hb; have n0_ := Am (Kd.R_below (by (with_reducible repeat (first | apply Kd.R_alloc | apply Kd.R_drewN | apply Kd.R_drew)); exact HO_229000.out) hb); have n1_ := Am (Kd.S_below (by (with_reducible repeat (first | apply Kd.S_alloc | apply Kd.S_drewN | apply Kd.S_drew)); exact HO_229001.out) hb); have n2_ := Am (Kd.R_below (by (with_reducible repeat (first | apply Kd.R_alloc | apply Kd.R_drewN | apply Kd.R_drew)); exact HO_239000.out) hb); have n3_ := Am (Kd.S_below (by (with_reducible repeat (first | apply Kd.S_alloc | apply Kd.S_drewN | apply Kd.S_drew)); exact HO_239001.out) hb); have n4_ := Am (Kd.R_below (by (with_reducible repeat (first | apply Kd.R_alloc | apply Kd.R_drewN | apply Kd.R_drew)); exact HO243.out) hb); have n5_ := Am (Kd.S_below (by (with_reducible repeat (first | apply Kd.S_alloc | apply Kd.S_drewN | apply Kd.S_drew)); exact HO246.out) hb); have n6_ := Am (blk_below (g := gb214) (o := .cells #[.slice A0_0 l0_0.length c0_0, .slice A0_1 l0_1.length c0_1] 25 (0, 0)) (by (with_reducible repeat (first | refine bn ?_ _ | refine bd ?_ | refine ba ?_ _)); exact BK214.out) hb); have n7_ := Am (blk_below (g := gb215) (o := .cells #[.string a1_0, .slice A1_1 l1_1.length c1_1, .int .i64 a1_2] 28 (0, 0)) (by (with_reducible repeat (first | refine bn ?_ _ | refine bd ?_ | refine ba ?_ _)); exact BK215.out) hb); have n8_ := Am (blk_below (g := gb228) (o := .cells #[.slice Ao48 t221.length co48, .slice Ao52 t224.length co52] 25 (0, 0)) (by (with_reducible repeat (first | refine bn ?_ _ | refine bd ?_ | refine ba ?_ _)); exact BK228.out) hb); have n9_ := Am (blk_below (g := gb238) (o := .cells #[.slice Ao58 t231.length co58, .slice Ao63 t234.length co63] 25 (0, 0)) (by (with_reducible repeat (first | refine bn ?_ _ | refine bd ?_ | refine ba ?_ _)); exact BK238.out) hb); have n10_ := Am (below_step (by repeat (first | (with_reducible first | exact HB.out | apply bl | apply pN | apply b1 | refine bs ?_ GE214.out | refine bs ?_ GE215.out | refine bs ?_ GE228.out | refine bs ?_ GE238.out) | exact HB.out | exact HBo.out)) hb); have n11_ := Am (hbox); have n12_ := Am ((by rw [hg]; exact (below_size (by repeat (first | (with_reducible first | exact HB.out | apply bl | apply pN | apply b1 | refine bs ?_ GE214.out | refine bs ?_ GE215.out | refine bs ?_ GE228.out | refine bs ?_ GE238.out) | exact HB.out | exact HBo.out))) : w.heap.size ≤ gb248)); have n13_ := Am ((by rw [hg]; exact (below_size (by repeat (first | (with_reducible first | exact HB.out | apply bl | apply pN | apply b1 | refine bs ?_ GE214.out | refine bs ?_ GE215.out | refine bs ?_ GE228.out | refine bs ?_ GE238.out) | exact HB.out | exact HBo.out))) : w.heap.size ≤ gb248)); have n14_ := Am ((by rw [hg]; exact Nat.ne_of_lt (blk_lt (g := gb214) (o := .cells #[.slice A0_0 l0_0.length c0_0, .slice A0_1 l0_1.length c0_1] 25 (0, 0)) (by (with_reducible repeat (first | refine bn ?_ _ | refine bd ?_ | refine ba ?_ _)); exact BK214.out)) : gb214 ≠ gb248)); have n15_ := Am ((by rw [hg]; exact Nat.ne_of_gt (blk_lt (g := gb214) (o := .cells #[.slice A0_0 l0_0.length c0_0, .slice A0_1 l0_1.length c0_1] 25 (0, 0)) (by (with_reducible repeat (first | refine bn ?_ _ | refine bd ?_ | refine ba ?_ _)); exact BK214.out)) : gb248 ≠ gb214)); have n16_ := Am ((by rw [hg]; exact Nat.ne_of_lt (blk_lt (g := gb215) (o := .cells #[.string a1_0, .slice A1_1 l1_1.length c1_1, .int .i64 a1_2] 28 (0, 0)) (by (with_reducible repeat (first | refine bn ?_ _ | refine bd ?_ | refine ba ?_ _)); exact BK215.out)) : gb215 ≠ gb248)); have n17_ := Am ((by rw [hg]; exact Nat.ne_of_gt (blk_lt (g := gb215) (o := .cells #[.string a1_0, .slice A1_1 l1_1.length c1_1, .int .i64 a1_2] 28 (0, 0)) (by (with_reducible repeat (first | refine bn ?_ _ | refine bd ?_ | refine ba ?_ _)); exact BK215.out)) : gb248 ≠ gb215)); have n18_ := Am ((by rw [hg]; exact Nat.ne_of_lt (blk_lt (g := gb228) (o := .cells #[.slice Ao48 t221.length co48, .slice Ao52 t224.length co52] 25 (0, 0)) (by (with_reducible repeat (first | refine bn ?_ _ | refine bd ?_ | refine ba ?_ _)); exact BK228.out)) : gb228 ≠ gb248)); have n19_ := Am ((by rw [hg]; exact Nat.ne_of_gt (blk_lt (g := gb228) (o := .cells #[.slice Ao48 t221.length co48, .slice Ao52 t224.length co52] 25 (0, 0)) (by (with_reducible repeat (first | refine bn ?_ _ | refine bd ?_ | refine ba ?_ _)); exact BK228.out)) : gb248 ≠ gb228)); have n20_ := Am ((by rw [hg]; exact Nat.ne_of_lt (blk_lt (g := gb238) (o := .cells #[.slice Ao58 t231.length co58, .slice Ao63 t234.length co63] 25 (0, 0)) (by (with_reducible repeat (first | refine bn ?_ _ | refine bd ?_ | refine ba ?_ _)); exact BK238.out)) : gb238 ≠ gb248)); have n21_ := Am ((by rw [hg]; exact Nat.ne_of_gt (blk_lt (g := gb238) (o := .cells #[.slice Ao58 t231.length co58, .slice Ao63 t234.length co63] 25 (0, 0)) (by (with_reducible repeat (first | refine bn ?_ _ | refine bd ?_ | refine ba ?_ _)); exact BK238.out)) : gb248 ≠ gb238)); clear HO_229000; clear HO_229001; clear HO_239000; clear HO_239001; clear HO243; clear HO246; clear BK214; clear BK215; clear BK228; clear BK238; clear HB; have HO_229000 := n0_; have HO_229001 := n1_; have HO_239000 := n2_; have HO_239001 := n3_; have HO243 := n4_; have HO246 := n5_; have BK214 := n6_; have BK215 := n7_; have BK228 := n8_; have BK238 := n9_; have HB := n10_; have BK248 := n11_; have GW248 := n12_; have GE248 := n13_; have NB214_248 := n14_; have NB248_214 := n15_; have NB215_248 := n16_; have NB248_215 := n17_; have NB228_248 := n18_; have NB248_228 := n19_; have NB238_248 := n20_; have NB248_238 := n21_; clear n0_ n1_ n2_ n3_ n4_ n5_ n6_ n7_ n8_ n9_ n10_ n11_ n12_ n13_ n14_ n15_ n16_ n17_ n18_ n19_ n20_ n21_; clear hb hbox hg; obtain ⟨Ao151, co151, eo151⟩ := Kd.R_slice HO243.out; subst eo151; have hnb152 := NB248_214.out; have hnc152 := NB214_248.out; have hnb153 := NB248_215.out; have hnc153 := NB215_248.out; have hnb154 := NB248_228.out; have hnc154 := NB228_248.out; have hnb155 := NB248_238.out; have hnc155 := NB238_248.out; have hcz156_0 : w150.cell? ⟨gb248, 0, none⟩ = some (.slice none 0 0) := (bc BK248.out 0).trans rfl; have hcz156_1 : w150.cell? ⟨gb248, 1, none⟩ = some (.slice none 0 0) := (bc BK248.out 1).trans rfl; have hfz156_0 := bf BK248.out 0; have hfz156_1 := bf BK248.out 1; obtain ⟨Ao157, co157, eo157⟩ := Kd.S_slice HO246.out; subst eo157) | ((with_reducible refine gate_callee (f := 17) rfl ?_); refine goesL_ (some 117) rfl rfl Try.func17 (by kernel_rfl) rfl #[.agg #[.slice Ao151 t241.length co151, .slice Ao157 t244.length co157], .int .i64 t247] rfl (by (try simp only [List.map_toArray, List.map_cons, List.map_nil]); first | done | rfl | (simp only [List.length_drop, List.length_take]; rfl)) ?_; (with_reducible refine (intern_Frames.calls kj41 _ _ t241 _ _ t244 t247 t250 t253 _ ?side1 ?side2 ?side3 ?side4 A140.out).mono ?_); (case side1 => refine (Kd.R_reads' (e := 9) (base := w.heap.size) (ok := fun k_ => ((True ∧ some k_ ≠ (.slice Ao48 t221.length co48 : Value).ownBlock) ∧ some k_ ≠ (.slice Ao58 t231.length co58 : Value).ownBlock)) (n := t241.length) (c := co151) ?_).2.2; exact (by (with_reducible repeat (first | apply Kd.R_alloc | apply Kd.R_drewN | apply Kd.R_drew)); exact (Kd.R_mono (Kd.R_far (p := ⟨gb248, 1, none⟩) (Kd.R_far (p := ⟨gb248, 0, none⟩) (Kd.R_types HO243.out BK248.out (by decide)) (fun _ hk => hk.2) (.slice Ao151 t241.length co151)) (fun _ hk => hk.2) (.slice Ao157 t244.length co157)) (fun _ h_ => h_.1)))); (case side2 => exact (Kd.R_reads' HO243.out).2.1); (case side3 => refine (Kd.S_reads' (e := 46) (base := w.heap.size) (ok := fun k_ => ((True ∧ some k_ ≠ (.slice Ao52 t224.length co52 : Value).ownBlock) ∧ some k_ ≠ (.slice Ao63 t234.length co63 : Value).ownBlock)) (n := t244.length) (c := co157) ?_).2.2; exact (by (with_reducible repeat (first | apply Kd.S_alloc | apply Kd.S_drewN | apply Kd.S_drew)); exact (Kd.S_mono (Kd.S_far (p := ⟨gb248, 1, none⟩) (Kd.S_far (p := ⟨gb248, 0, none⟩) (Kd.S_types HO246.out BK248.out (by decide)) (fun _ hk => hk.2) (.slice Ao151 t241.length co151)) (fun _ hk => hk.2) (.slice Ao157 t244.length co157)) (fun _ h_ => h_.1)))); (case side4 => exact (Kd.S_reads' HO246.out).2.1); rintro e w158 ⟨v251, rfl, ho0, hb⟩; refine ⟨_, rfl, ?_⟩; have n0_ := Am (Kd.R_below (by (with_reducible repeat (first | apply Kd.R_alloc | apply Kd.R_drewN | apply Kd.R_drew)); exact (Kd.R_mono (Kd.R_far (p := ⟨gb248, 1, none⟩) (Kd.R_far (p := ⟨gb248, 0, none⟩) (Kd.R_types HO_229000.out BK248.out (by decide)) (fun _ hk => hk.2) (.slice Ao151 t241.length co151)) (fun _ hk => hk.2) (.slice Ao157 t244.length co157)) (fun _ h_ => h_.1))) hb); have n1_ := Am (Kd.S_below (by (with_reducible repeat (first | apply Kd.S_alloc | apply Kd.S_drewN | apply Kd.S_drew)); exact (Kd.S_mono (Kd.S_far (p := ⟨gb248, 1, none⟩) (Kd.S_far (p := ⟨gb248, 0, none⟩) (Kd.S_types HO_229001.out BK248.out (by decide)) (fun _ hk => hk.2) (.slice Ao151 t241.length co151)) (fun _ hk => hk.2) (.slice Ao157 t244.length co157)) (fun _ h_ => h_.1))) hb); have n2_ := Am (Kd.R_below (by (with_reducible repeat (first | apply Kd.R_alloc | apply Kd.R_drewN | apply Kd.R_drew)); exact (Kd.R_mono (Kd.R_far (p := ⟨gb248, 1, none⟩) (Kd.R_far (p := ⟨gb248, 0, none⟩) (Kd.R_types HO_239000.out BK248.out (by decide)) (fun _ hk => hk.2) (.slice Ao151 t241.length co151)) (fun _ hk => hk.2) (.slice Ao157 t244.length co157)) (fun _ h_ => h_.1))) hb); have n3_ := Am (Kd.S_below (by (with_reducible repeat (first | apply Kd.S_alloc | apply Kd.S_drewN | apply Kd.S_drew)); exact (Kd.S_mono (Kd.S_far (p := ⟨gb248, 1, none⟩) (Kd.S_far (p := ⟨gb248, 0, none⟩) (Kd.S_types HO_239001.out BK248.out (by decide)) (fun _ hk => hk.2) (.slice Ao151 t241.length co151)) (fun _ hk => hk.2) (.slice Ao157 t244.length co157)) (fun _ h_ => h_.1))) hb); have n4_ := Am (Kd.R_below (by (with_reducible repeat (first | apply Kd.R_alloc | apply Kd.R_drewN | apply Kd.R_drew)); exact (Kd.R_mono (Kd.R_far (p := ⟨gb248, 1, none⟩) (Kd.R_far (p := ⟨gb248, 0, none⟩) (Kd.R_types HO243.out BK248.out (by decide)) (fun _ hk => hk.2) (.slice Ao151 t241.length co151)) (fun _ hk => hk.2) (.slice Ao157 t244.length co157)) (fun _ h_ => h_.1))) hb); have n5_ := Am (Kd.S_below (by (with_reducible repeat (first | apply Kd.S_alloc | apply Kd.S_drewN | apply Kd.S_drew)); exact (Kd.S_mono (Kd.S_far (p := ⟨gb248, 1, none⟩) (Kd.S_far (p := ⟨gb248, 0, none⟩) (Kd.S_types HO246.out BK248.out (by decide)) (fun _ hk => hk.2) (.slice Ao151 t241.length co151)) (fun _ hk => hk.2) (.slice Ao157 t244.length co157)) (fun _ h_ => h_.1))) hb); have n6_ := Am (Kd.R_lower ho0 (below_size (by repeat (first | (with_reducible first | exact HB.out | apply bl | apply pN | apply b1 | refine bs ?_ GE214.out | refine bs ?_ GE215.out | refine bs ?_ GE228.out | refine bs ?_ GE238.out | refine bs ?_ GE248.out) | exact HB.out | exact HBo.out)))); have n7_ := Am (blk_below (g := gb214) (o := .cells #[.slice A0_0 l0_0.length c0_0, .slice A0_1 l0_1.length c0_1] 25 (0, 0)) (by (with_reducible repeat (first | refine bn ?_ _ | refine bd ?_ | refine ba ?_ _)); refine blk_far ?_ NB214_248.out _; (with_reducible repeat (first | refine bn ?_ _ | refine bd ?_ | refine ba ?_ _)); refine blk_far ?_ NB214_248.out _; (with_reducible repeat (first | refine bn ?_ _ | refine bd ?_ | refine ba ?_ _)); exact BK214.out) hb); have n8_ := Am (blk_below (g := gb215) (o := .cells #[.string a1_0, .slice A1_1 l1_1.length c1_1, .int .i64 a1_2] 28 (0, 0)) (by (with_reducible repeat (first | refine bn ?_ _ | refine bd ?_ | refine ba ?_ _)); refine blk_far ?_ NB215_248.out _; (with_reducible repeat (first | refine bn ?_ _ | refine bd ?_ | refine ba ?_ _)); refine blk_far ?_ NB215_248.out _; (with_reducible repeat (first | refine bn ?_ _ | refine bd ?_ | refine ba ?_ _)); exact BK215.out) hb); have n9_ := Am (blk_below (g := gb228) (o := .cells #[.slice Ao48 t221.length co48, .slice Ao52 t224.length co52] 25 (0, 0)) (by (with_reducible repeat (first | refine bn ?_ _ | refine bd ?_ | refine ba ?_ _)); refine blk_far ?_ NB228_248.out _; (with_reducible repeat (first | refine bn ?_ _ | refine bd ?_ | refine ba ?_ _)); refine blk_far ?_ NB228_248.out _; (with_reducible repeat (first | refine bn ?_ _ | refine bd ?_ | refine ba ?_ _)); exact BK228.out) hb); have n10_ := Am (blk_below (g := gb238) (o := .cells #[.slice Ao58 t231.length co58, .slice Ao63 t234.length co63] 25 (0, 0)) (by (with_reducible repeat (first | refine bn ?_ _ | refine bd ?_ | refine ba ?_ _)); refine blk_far ?_ NB238_248.out _; (with_reducible repeat (first | refine bn ?_ _ | refine bd ?_ | refine ba ?_ _)); refine blk_far ?_ NB238_248.out _; (with_reducible repeat (first | refine bn ?_ _ | refine bd ?_ | refine ba ?_ _)); exact BK238.out) hb); have n11_ := Am (blk_below (g := gb248) (o := .cells #[.slice Ao151 t241.length co151, .slice Ao157 t244.length co157] 25 (0, 0)) (by (with_reducible repeat (first | refine bn ?_ _ | refine bd ?_ | refine ba ?_ _)); refine blk_put (cs := #[.slice Ao151 t241.length co151, .slice none 0 0]) ?_ 1 _ rfl; (with_reducible repeat (first | refine bn ?_ _ | refine bd ?_ | refine ba ?_ _)); refine blk_put (cs := #[.slice none 0 0, .slice none 0 0]) ?_ 0 _ rfl; (with_reducible repeat (first | refine bn ?_ _ | refine bd ?_ | refine ba ?_ _)); exact BK248.out) hb); have n12_ := Am (below_step (by repeat (first | (with_reducible first | exact HB.out | apply bl | apply pN | apply b1 | refine bs ?_ GE214.out | refine bs ?_ GE215.out | refine bs ?_ GE228.out | refine bs ?_ GE238.out | refine bs ?_ GE248.out) | exact HB.out | exact HBo.out)) hb); clear HO_229000; clear HO_229001; clear HO_239000; clear HO_239001; clear HO243; clear HO246; clear BK214; clear BK215; clear BK228; clear BK238; clear BK248; clear HB; have HO_229000 := n0_; have HO_229001 := n1_; have HO_239000 := n2_; have HO_239001 := n3_; have HO243 := n4_; have HO246 := n5_; have HO252 := n6_; have BK214 := n7_; have BK215 := n8_; have BK228 := n9_; have BK238 := n10_; have BK248 := n11_; have HB := n12_; clear n0_ n1_ n2_ n3_ n4_ n5_ n6_ n7_ n8_ n9_ n10_ n11_ n12_; (try clear hb); (try clear hb2); (try clear hk); (try clear hi); (try clear ho0); have hcz159_0 : w158.cell? ⟨gb248, 0, none⟩ = some (.slice Ao151 t241.length co151) := (bc BK248.out 0).trans rfl; have hcz159_1 : w158.cell? ⟨gb248, 1, none⟩ = some (.slice Ao157 t244.length co157) := (bc BK248.out 1).trans rfl; have hfz159_0 := bf BK248.out 0; have hfz159_1 := bf BK248.out 1; have hcz160_0 : w158.cell? ⟨gb215, 0, none⟩ = some (.string a1_0) := (bc BK215.out 0).trans rfl; have hcz160_1 : w158.cell? ⟨gb215, 1, none⟩ = some (.slice A1_1 l1_1.length c1_1) := (bc BK215.out 1).trans rfl; have hcz160_2 : w158.cell? ⟨gb215, 2, none⟩ = some (.int .i64 a1_2) := (bc BK215.out 2).trans rfl; have hfz160_0 := bf BK215.out 0; have hfz160_1 := bf BK215.out 1; have hfz160_2 := bf BK215.out 2) | ((with_reducible refine gate_callee (f := 13) rfl ?_); refine goesL_ (some 124) rfl rfl Try.func13 (by kernel_rfl) rfl #[.agg #[.slice Ao151 t241.length co151, .slice Ao157 t244.length co157], .slice A1_1 l1_1.length c1_1] rfl (by (try simp only [List.map_toArray, List.map_cons, List.map_nil]); first | done | rfl | (simp only [List.length_drop, List.length_take]; rfl)) ?_; (with_reducible refine (intern_Stack.calls kj41 _ _ t241 _ _ t244 _ _ l1_1 t254 t257 t260 _ ?side1 ?side2 ?side3 ?side4 ?side5 ?side6 A141.out).mono ?_); (case side1 => repeat (first | exact (Kd.R_reads' HO243.out).2.2 | (with_reducible refine Kd.C_alloc ?_ _) | (with_reducible refine Kd.C_drewN ?_ _) | (with_reducible refine Kd.C_drew ?_))); (case side2 => exact (Kd.R_reads' HO243.out).2.1); (case side3 => repeat (first | exact (Kd.S_reads' HO246.out).2.2 | (with_reducible refine Kd.C_alloc ?_ _) | (with_reducible refine Kd.C_drewN ?_ _) | (with_reducible refine Kd.C_drew ?_))); (case side4 => exact (Kd.S_reads' HO246.out).2.1); (case side5 => repeat (first | exact (Kd.C_below HR1_1.out HB.out) | (with_reducible refine Kd.C_alloc ?_ _) | (with_reducible refine Kd.C_drewN ?_ _) | (with_reducible refine Kd.C_drew ?_))); (case side6 => exact HC1_1.out); rintro e w161 ⟨v255, v258, rfl, ho0, ho1, hb⟩; refine ⟨_, rfl, ?_⟩; have n0_ := Am (Kd.R_elder' (by (with_reducible repeat (first | apply Kd.R_alloc | apply Kd.R_drewN | apply Kd.R_drew)); exact HO_229000.out) (Kd.R_base ho0) hb); have n1_ := Am (Kd.S_elder' (by (with_reducible repeat (first | apply Kd.S_alloc | apply Kd.S_drewN | apply Kd.S_drew)); exact HO_229001.out) (Kd.S_base ho1) hb); have n2_ := Am (Kd.R_elder' (by (with_reducible repeat (first | apply Kd.R_alloc | apply Kd.R_drewN | apply Kd.R_drew)); exact HO_239000.out) (Kd.R_base ho0) hb); have n3_ := Am (Kd.S_elder' (by (with_reducible repeat (first | apply Kd.S_alloc | apply Kd.S_drewN | apply Kd.S_drew)); exact HO_239001.out) (Kd.S_base ho1) hb); have n4_ := Am (Kd.R_elder' (by (with_reducible repeat (first | apply Kd.R_alloc | apply Kd.R_drewN | apply Kd.R_drew)); exact HO243.out) (Kd.R_base ho0) hb); have n5_ := Am (Kd.S_elder' (by (with_reducible repeat (first | apply Kd.S_alloc | apply Kd.S_drewN | apply Kd.S_drew)); exact HO246.out) (Kd.S_base ho1) hb); have n6_ := Am (Kd.R_below (by (with_reducible repeat (first | apply Kd.R_alloc | apply Kd.R_drewN | apply Kd.R_drew)); exact HO252.out) hb); have n7_ := Am (Kd.R_lower (Kd.R_new' (Kd.R_new' (Kd.R_new' ho0 (Kd.R_lt (by (with_reducible repeat (first | apply Kd.R_alloc | apply Kd.R_drewN | apply Kd.R_drew)); exact HO_229000.out))) (Kd.R_lt (by (with_reducible repeat (first | apply Kd.R_alloc | apply Kd.R_drewN | apply Kd.R_drew)); exact HO_239000.out))) (Kd.R_lt (by (with_reducible repeat (first | apply Kd.R_alloc | apply Kd.R_drewN | apply Kd.R_drew)); exact HO243.out))) (below_size (by repeat (first | (with_reducible first | exact HB.out | apply bl | apply pN | apply b1 | refine bs ?_ GE214.out | refine bs ?_ GE215.out | refine bs ?_ GE228.out | refine bs ?_ GE238.out | refine bs ?_ GE248.out) | exact HB.out | exact HBo.out)))); have n8_ := Am (Kd.S_lower (Kd.S_new' (Kd.S_new' (Kd.S_new' ho1 (Kd.S_lt (by (with_reducible repeat (first | apply Kd.S_alloc | apply Kd.S_drewN | apply Kd.S_drew)); exact HO_229001.out))) (Kd.S_lt (by (with_reducible repeat (first | apply Kd.S_alloc | apply Kd.S_drewN | apply Kd.S_drew)); exact HO_239001.out))) (Kd.S_lt (by (with_reducible repeat (first | apply Kd.S_alloc | apply Kd.S_drewN | apply Kd.S_drew)); exact HO246.out))) (below_size (by repeat (first | (with_reducible first | exact HB.out | apply bl | apply pN | apply b1 | refine bs ?_ GE214.out | refine bs ?_ GE215.out | refine bs ?_ GE228.out | refine bs ?_ GE238.out | refine bs ?_ GE248.out) | exact HB.out | exact HBo.out)))); have n9_ := Am (blk_below (g := gb214) (o := .cells #[.slice A0_0 l0_0.length c0_0, .slice A0_1 l0_1.length c0_1] 25 (0, 0)) (by (with_reducible repeat (first | refine bn ?_ _ | refine bd ?_ | refine ba ?_ _)); exact BK214.out) hb); have n10_ := Am (blk_below (g := gb215) (o := .cells #[.string a1_0, .slice A1_1 l1_1.length c1_1, .int .i64 a1_2] 28 (0, 0)) (by (with_reducible repeat (first | refine bn ?_ _ | refine bd ?_ | refine ba ?_ _)); exact BK215.out) hb); have n11_ := Am (blk_below (g := gb228) (o := .cells #[.slice Ao48 t221.length co48, .slice Ao52 t224.length co52] 25 (0, 0)) (by (with_reducible repeat (first | refine bn ?_ _ | refine bd ?_ | refine ba ?_ _)); exact BK228.out) hb); have n12_ := Am (blk_below (g := gb238) (o := .cells #[.slice Ao58 t231.length co58, .slice Ao63 t234.length co63] 25 (0, 0)) (by (with_reducible repeat (first | refine bn ?_ _ | refine bd ?_ | refine ba ?_ _)); exact BK238.out) hb); have n13_ := Am (blk_below (g := gb248) (o := .cells #[.slice Ao151 t241.length co151, .slice Ao157 t244.length co157] 25 (0, 0)) (by (with_reducible repeat (first | refine bn ?_ _ | refine bd ?_ | refine ba ?_ _)); exact BK248.out) hb); have n14_ := Am (below_step (by repeat (first | (with_reducible first | exact HB.out | apply bl | apply pN | apply b1 | refine bs ?_ GE214.out | refine bs ?_ GE215.out | refine bs ?_ GE228.out | refine bs ?_ GE238.out | refine bs ?_ GE248.out) | exact HB.out | exact HBo.out)) hb); clear HO_229000; clear HO_229001; clear HO_239000; clear HO_239001; clear HO243; clear HO246; clear HO252; clear BK214; clear BK215; clear BK228; clear BK238; clear BK248; clear HB; have HO_229000 := n0_; have HO_229001 := n1_; have HO_239000 := n2_; have HO_239001 := n3_; have HO243 := n4_; have HO246 := n5_; have HO252 := n6_; have HO256 := n7_; have HO259 := n8_; have BK214 := n9_; have BK215 := n10_; have BK228 := n11_; have BK238 := n12_; have BK248 := n13_; have HB := n14_; clear n0_ n1_ n2_ n3_ n4_ n5_ n6_ n7_ n8_ n9_ n10_ n11_ n12_ n13_ n14_; (try clear hb); (try clear hb2); (try clear hk); (try clear hi); (try clear ho0); (try clear ho1)) | ((with_reducible refine gate_dst (N := 15) rfl ?_); (try (refine gate_guard (by rfl) ?_; dsimp only)); refine box_event ?hg (N := 15) ?hd (cs := #[.slice none 0 0, .slice none 0 0]) (t := 25) ?hr ?_; (case hd => rfl); (case hg => rfl); (case hr => first | (go_simp; done) | (go_simp; rfl)); intro gb261 hg w162 hbox hb; have n0_ := Am (Kd.R_below (by (with_reducible repeat (first | apply Kd.R_alloc | apply Kd.R_drewN | apply Kd.R_drew)); exact HO_229000.out) hb); have n1_ := Am (Kd.S_below (by (with_reducible repeat (first | apply Kd.S_alloc | apply Kd.S_drewN | apply Kd.S_drew)); exact HO_229001.out) hb); have n2_ := Am (Kd.R_below (by (with_reducible repeat (first | apply Kd.R_alloc | apply Kd.R_drewN | apply Kd.R_drew)); exact HO_239000.out) hb); have n3_ := Am (Kd.S_below (by (with_reducible repeat (first | apply Kd.S_alloc | apply Kd.S_drewN | apply Kd.S_drew)); exact HO_239001.out) hb); have n4_ := Am (Kd.R_below (by (with_reducible repeat (first | apply Kd.R_alloc | apply Kd.R_drewN | apply Kd.R_drew)); exact HO243.out) hb); have n5_ := Am (Kd.S_below (by (with_reducible repeat (first | apply Kd.S_alloc | apply Kd.S_drewN | apply Kd.S_drew)); exact HO246.out) hb); have n6_ := Am (Kd.R_below (by (with_reducible repeat (first | apply Kd.R_alloc | apply Kd.R_drewN | apply Kd.R_drew)); exact HO252.out) hb); have n7_ := Am (Kd.R_below (by (with_reducible repeat (first | apply Kd.R_alloc | apply Kd.R_drewN | apply Kd.R_drew)); exact HO256.out) hb); have n8_ := Am (Kd.S_below (by (with_reducible repeat (first | apply Kd.S_alloc | apply Kd.S_drewN | apply Kd.S_drew)); exact HO259.out) hb); have n9_ := Am (blk_below (g := gb214) (o := .cells #[.slice A0_0 l0_0.length c0_0, .slice A0_1 l0_1.length c0_1] 25 (0, 0)) (by (with_reducible repeat (first | refine bn ?_ _ | refine bd ?_ | refine ba ?_ _)); exact BK214.out) hb); have n10_ := Am (blk_below (g := gb215) (o := .cells #[.string a1_0, .slice A1_1 l1_1.length c1_1, .int .i64 a1_2] 28 (0, 0)) (by (with_reducible repeat (first | refine bn ?_ _ | refine bd ?_ | refine ba ?_ _)); exact BK215.out) hb); have n11_ := Am (blk_below (g := gb228) (o := .cells #[.slice Ao48 t221.length co48, .slice Ao52 t224.length co52] 25 (0, 0)) (by (with_reducible repeat (first | refine bn ?_ _ | refine bd ?_ | refine ba ?_ _)); exact BK228.out) hb); have n12_ := Am (blk_below (g := gb238) (o := .cells #[.slice Ao58 t231.length co58, .slice Ao63 t234.length co63] 25 (0, 0)) (by (with_reducible repeat (first | refine bn ?_ _ | refine bd ?_ | refine ba ?_ _)); exact BK238.out) hb); have n13_ := Am (blk_below (g := gb248) (o := .cells #[.slice Ao151 t241.length co151, .slice Ao157 t244.length co157] 25 (0, 0)) (by (with_reducible repeat (first | refine bn ?_ _ | refine bd ?_ | refine ba ?_ _)); exact BK248.out) hb); have n14_ := Am (below_step (by repeat (first | (with_reducible first | exact HB.out | apply bl | apply pN | apply b1 | refine bs ?_ GE214.out | refine bs ?_ GE215.out | refine bs ?_ GE228.out | refine bs ?_ GE238.out | refine bs ?_ GE248.out) | exact HB.out | exact HBo.out)) hb); have n15_ := Am (hbox); have n16_ := Am ((by rw [hg]; exact (below_size (by repeat (first | (with_reducible first | exact HB.out | apply bl | apply pN | apply b1 | refine bs ?_ GE214.out | refine bs ?_ GE215.out | refine bs ?_ GE228.out | refine bs ?_ GE238.out | refine bs ?_ GE248.out) | exact HB.out | exact HBo.out))) : w.heap.size ≤ gb261)); have n17_ := Am ((by rw [hg]; exact (below_size (by repeat (first | (with_reducible first | exact HB.out | apply bl | apply pN | apply b1 | refine bs ?_ GE214.out | refine bs ?_ GE215.out | refine bs ?_ GE228.out | refine bs ?_ GE238.out | refine bs ?_ GE248.out) | exact HB.out | exact HBo.out))) : w.heap.size ≤ gb261)); have n18_ := Am ((by rw [hg]; exact Nat.ne_of_lt (blk_lt (g := gb214) (o := .cells #[.slice A0_0 l0_0.length c0_0, .slice A0_1 l0_1.length c0_1] 25 (0, 0)) (by (with_reducible repeat (first | refine bn ?_ _ | refine bd ?_ | refine ba ?_ _)); exact BK214.out)) : gb214 ≠ gb261)); have n19_ := Am ((by rw [hg]; exact Nat.ne_of_gt (blk_lt (g := gb214) (o := .cells #[.slice A0_0 l0_0.length c0_0, .slice A0_1 l0_1.length c0_1] 25 (0, 0)) (by (with_reducible repeat (first | refine bn ?_ _ | refine bd ?_ | refine ba ?_ _)); exact BK214.out)) : gb261 ≠ gb214)); have n20_ := Am ((by rw [hg]; exact Nat.ne_of_lt (blk_lt (g := gb215) (o := .cells #[.string a1_0, .slice A1_1 l1_1.length c1_1, .int .i64 a1_2] 28 (0, 0)) (by (with_reducible repeat (first | refine bn ?_ _ | refine bd ?_ | refine ba ?_ _)); exact BK215.out)) : gb215 ≠ gb261)); have n21_ := Am ((by rw [hg]; exact Nat.ne_of_gt (blk_lt (g := gb215) (o := .cells #[.string a1_0, .slice A1_1 l1_1.length c1_1, .int .i64 a1_2] 28 (0, 0)) (by (with_reducible repeat (first | refine bn ?_ _ | refine bd ?_ | refine ba ?_ _)); exact BK215.out)) : gb261 ≠ gb215)); have n22_ := Am ((by rw [hg]; exact Nat.ne_of_lt (blk_lt (g := gb228) (o := .cells #[.slice Ao48 t221.length co48, .slice Ao52 t224.length co52] 25 (0, 0)) (by (with_reducible repeat (first | refine bn ?_ _ | refine bd ?_ | refine ba ?_ _)); exact BK228.out)) : gb228 ≠ gb261)); have n23_ := Am ((by rw [hg]; exact Nat.ne_of_gt (blk_lt (g := gb228) (o := .cells #[.slice Ao48 t221.length co48, .slice Ao52 t224.length co52] 25 (0, 0)) (by (with_reducible repeat (first | refine bn ?_ _ | refine bd ?_ | refine ba ?_ _)); exact BK228.out)) : gb261 ≠ gb228)); have n24_ := Am ((by rw [hg]; exact Nat.ne_of_lt (blk_lt (g := gb238) (o := .cells #[.slice Ao58 t231.length co58, .slice Ao63 t234.length co63] 25 (0, 0)) (by (with_reducible repeat (first | refine bn ?_ _ | refine bd ?_ | refine ba ?_ _)); exact BK238.out)) : gb238 ≠ gb261)); have n25_ := Am ((by rw [hg]; exact Nat.ne_of_gt (blk_lt (g := gb238) (o := .cells #[.slice Ao58 t231.length co58, .slice Ao63 t234.length co63] 25 (0, 0)) (by (with_reducible repeat (first | refine bn ?_ _ | refine bd ?_ | refine ba ?_ _)); exact BK238.out)) : gb261 ≠ gb238)); have n26_ := Am ((by rw [hg]; exact Nat.ne_of_lt (blk_lt (g := gb248) (o := .cells #[.slice Ao151 t241.length co151, .slice Ao157 t244.length co157] 25 (0, 0)) (by (with_reducible repeat (first | refine bn ?_ _ | refine bd ?_ | refine ba ?_ _)); exact BK248.out)) : gb248 ≠ gb261)); have n27_ := Am ((by rw [hg]; exact Nat.ne_of_gt (blk_lt (g := gb248) (o := .cells #[.slice Ao151 t241.length co151, .slice Ao157 t244.length co157] 25 (0, 0)) (by (with_reducible repeat (first | refine bn ?_ _ | refine bd ?_ | refine ba ?_ _)); exact BK248.out)) : gb261 ≠ gb248)); clear HO_229000; clear HO_229001; clear HO_239000; clear HO_239001; clear HO243; clear HO246; clear HO252; clear HO256; clear HO259; clear BK214; clear BK215; clear BK228; clear BK238; clear BK248; clear HB; have HO_229000 := n0_; have HO_229001 := n1_; have HO_239000 := n2_; have HO_239001 := n3_; have HO243 := n4_; have HO246 := n5_; have HO252 := n6_; have HO256 := n7_; have HO259 := n8_; have BK214 := n9_; have BK215 := n10_; have BK228 := n11_; have BK238 := n12_; have BK248 := n13_; have HB := n14_; have BK261 := n15_; have GW261 := n16_; have GE261 := n17_; have NB214_261 := n18_; have NB261_214 := n19_; have NB215_261 := n20_; have NB261_215 := n21_; have NB228_261 := n22_; have NB261_228 := n23_; have NB238_261 := n24_; have NB261_238 := n25_; have NB248_261 := n26_; have NB261_248 := n27_; clear n0_ n1_ n2_ n3_ n4_ n5_ n6_ n7_ n8_ n9_ n10_ n11_ n12_ n13_ n14_ n15_ n16_ n17_ n18_ n19_ n20_ n21_ n22_ n23_ n24_ n25_ n26_ n27_; clear hb hbox hg; obtain ⟨Ao163, co163, eo163⟩ := Kd.R_slice HO256.out; subst eo163; have hnb164 := NB261_214.out; have hnc164 := NB214_261.out; have hnb165 := NB261_215.out; have hnc165 := NB215_261.out; have hnb166 := NB261_228.out; have hnc166 := NB228_261.out; have hnb167 := NB261_238.out; have hnc167 := NB238_261.out; have hnb168 := NB261_248.out; have hnc168 := NB248_261.out; have hcz169_0 : w162.cell? ⟨gb261, 0, none⟩ = some (.slice none 0 0) := (bc BK261.out 0).trans rfl; have hcz169_1 : w162.cell? ⟨gb261, 1, none⟩ = some (.slice none 0 0) := (bc BK261.out 1).trans rfl; have hfz169_0 := bf BK261.out 0; have hfz169_1 := bf BK261.out 1; obtain ⟨Ao170, co170, eo170⟩ := Kd.S_slice HO259.out; subst eo170))
        go_loopg [17] kj41 (fun kq v17 w' => ∃ (x17_3 : Int), v17 = .int .i64 x17_3 ∧ Aside0 (shuttlecocklaw06_InternBack.l0 kq t247 t250 t253 t260 x17_3 l0_0 l0_1 a1_0 l1_1 a1_2 t241 t244 t254 t257 = some r) ∧ Aside0 (kq ≤ kj41) ∧ Aside0 (Kd.R k45 45 w' w.heap.size (fun _ => True) v251 t250) ∧ Aside0 (Kd.R Kd.string 9 w' w.heap.size (fun k_ => some k_ ≠ ((.slice Ao58 t231.length co58) : Value).ownBlock ∧ some k_ ≠ ((.slice Ao151 t241.length co151) : Value).ownBlock ∧ some k_ ≠ ((.slice Ao163 t254.length co163) : Value).ownBlock) (.slice Ao48 t221.length co48) t221) ∧ Aside0 (Kd.S (Kd.slice 50 k50) 46 w' w.heap.size (fun k_ => some k_ ≠ ((.slice Ao63 t234.length co63) : Value).ownBlock ∧ some k_ ≠ ((.slice Ao157 t244.length co157) : Value).ownBlock ∧ some k_ ≠ ((.slice Ao170 t257.length co170) : Value).ownBlock) (.slice Ao52 t224.length co52) t224) ∧ Aside0 (Kd.R Kd.string 9 w' w.heap.size (fun k_ => some k_ ≠ ((.slice Ao48 t221.length co48) : Value).ownBlock ∧ some k_ ≠ ((.slice Ao151 t241.length co151) : Value).ownBlock ∧ some k_ ≠ ((.slice Ao163 t254.length co163) : Value).ownBlock) (.slice Ao58 t231.length co58) t231) ∧ Aside0 (Kd.S (Kd.slice 50 k50) 46 w' w.heap.size (fun k_ => some k_ ≠ ((.slice Ao52 t224.length co52) : Value).ownBlock ∧ some k_ ≠ ((.slice Ao157 t244.length co157) : Value).ownBlock ∧ some k_ ≠ ((.slice Ao170 t257.length co170) : Value).ownBlock) (.slice Ao63 t234.length co63) t234) ∧ Aside0 (Kd.R Kd.string 9 w' w.heap.size (fun k_ => some k_ ≠ ((.slice Ao48 t221.length co48) : Value).ownBlock ∧ some k_ ≠ ((.slice Ao58 t231.length co58) : Value).ownBlock ∧ some k_ ≠ ((.slice Ao163 t254.length co163) : Value).ownBlock) (.slice Ao151 t241.length co151) t241) ∧ Aside0 (Kd.S (Kd.slice 50 k50) 46 w' w.heap.size (fun k_ => some k_ ≠ ((.slice Ao52 t224.length co52) : Value).ownBlock ∧ some k_ ≠ ((.slice Ao63 t234.length co63) : Value).ownBlock ∧ some k_ ≠ ((.slice Ao170 t257.length co170) : Value).ownBlock) (.slice Ao157 t244.length co157) t244) ∧ Aside0 (Kd.R Kd.string 9 w' w.heap.size (fun k_ => some k_ ≠ ((.slice Ao48 t221.length co48) : Value).ownBlock ∧ some k_ ≠ ((.slice Ao58 t231.length co58) : Value).ownBlock ∧ some k_ ≠ ((.slice Ao151 t241.length co151) : Value).ownBlock) (.slice Ao163 t254.length co163) t254) ∧ Aside0 (Kd.S (Kd.slice 50 k50) 46 w' w.heap.size (fun k_ => some k_ ≠ ((.slice Ao52 t224.length co52) : Value).ownBlock ∧ some k_ ≠ ((.slice Ao63 t234.length co63) : Value).ownBlock ∧ some k_ ≠ ((.slice Ao157 t244.length co157) : Value).ownBlock) (.slice Ao170 t257.length co170) t257) ∧ Aside0 (w'.heap[gb214]? = some (.cells #[(.slice A0_0 l0_0.length c0_0), (.slice A0_1 l0_1.length c0_1)] 25 (0, 0))) ∧ Aside0 (w'.heap[gb215]? = some (.cells #[.string a1_0, (.slice A1_1 l1_1.length c1_1), .int .i64 a1_2] 28 (0, 0))) ∧ Aside0 (w'.heap[gb228]? = some (.cells #[(.slice Ao48 t221.length co48), (.slice Ao52 t224.length co52)] 25 (0, 0))) ∧ Aside0 (w'.heap[gb238]? = some (.cells #[(.slice Ao58 t231.length co58), (.slice Ao63 t234.length co63)] 25 (0, 0))) ∧ Aside0 (w'.heap[gb248]? = some (.cells #[(.slice Ao151 t241.length co151), (.slice Ao157 t244.length co157)] 25 (0, 0))) ∧ Aside0 (w'.heap[gb261]? = some (.cells #[(.slice Ao163 t254.length co163), (.slice Ao170 t257.length co170)] 25 (0, 0))) ∧ Aside0 (Below w.heap.size w w'))
        case atStart => exact ⟨(0), (by first | rfl | (simp; done) | (simp [*]; done)), H', ⟨Nat.le_refl _⟩, ⟨by (with_reducible repeat (first | apply Kd.R_alloc | apply Kd.R_drewN | apply Kd.R_drew)); exact Kd.R_mono (Kd.R_far (p := ⟨gb261, 1, none⟩) (Kd.R_far (p := ⟨gb261, 0, none⟩) (Kd.R_types HO252.out BK261.out (by decide)) (fun _ hk => hk.2) (.slice Ao163 t254.length co163)) (fun _ hk => hk.2) (.slice Ao170 t257.length co170)) (fun _ hk => trivial)⟩, ⟨by (with_reducible repeat (first | apply Kd.R_alloc | apply Kd.R_drewN | apply Kd.R_drew)); exact Kd.R_mono (Kd.R_far (p := ⟨gb261, 1, none⟩) (Kd.R_far (p := ⟨gb261, 0, none⟩) (Kd.R_types HO_229000.out BK261.out (by decide)) (fun _ hk => hk.2) (.slice Ao163 t254.length co163)) (fun _ hk => hk.2) (.slice Ao170 t257.length co170)) (fun _ hk => ⟨hk.1.1.1, ⟨hk.1.1.2, hk.1.2⟩⟩)⟩, ⟨by (with_reducible repeat (first | apply Kd.S_alloc | apply Kd.S_drewN | apply Kd.S_drew)); exact Kd.S_mono (Kd.S_far (p := ⟨gb261, 1, none⟩) (Kd.S_far (p := ⟨gb261, 0, none⟩) (Kd.S_types HO_229001.out BK261.out (by decide)) (fun _ hk => hk.2) (.slice Ao163 t254.length co163)) (fun _ hk => hk.2) (.slice Ao170 t257.length co170)) (fun _ hk => ⟨hk.1.1.1, ⟨hk.1.1.2, hk.1.2⟩⟩)⟩, ⟨by (with_reducible repeat (first | apply Kd.R_alloc | apply Kd.R_drewN | apply Kd.R_drew)); exact Kd.R_mono (Kd.R_far (p := ⟨gb261, 1, none⟩) (Kd.R_far (p := ⟨gb261, 0, none⟩) (Kd.R_types HO_239000.out BK261.out (by decide)) (fun _ hk => hk.2) (.slice Ao163 t254.length co163)) (fun _ hk => hk.2) (.slice Ao170 t257.length co170)) (fun _ hk => ⟨hk.1.1.1, ⟨hk.1.1.2, hk.1.2⟩⟩)⟩, ⟨by (with_reducible repeat (first | apply Kd.S_alloc | apply Kd.S_drewN | apply Kd.S_drew)); exact Kd.S_mono (Kd.S_far (p := ⟨gb261, 1, none⟩) (Kd.S_far (p := ⟨gb261, 0, none⟩) (Kd.S_types HO_239001.out BK261.out (by decide)) (fun _ hk => hk.2) (.slice Ao163 t254.length co163)) (fun _ hk => hk.2) (.slice Ao170 t257.length co170)) (fun _ hk => ⟨hk.1.1.1, ⟨hk.1.1.2, hk.1.2⟩⟩)⟩, ⟨by (with_reducible repeat (first | apply Kd.R_alloc | apply Kd.R_drewN | apply Kd.R_drew)); exact Kd.R_mono (Kd.R_far (p := ⟨gb261, 1, none⟩) (Kd.R_far (p := ⟨gb261, 0, none⟩) (Kd.R_types HO243.out BK261.out (by decide)) (fun _ hk => hk.2) (.slice Ao163 t254.length co163)) (fun _ hk => hk.2) (.slice Ao170 t257.length co170)) (fun _ hk => ⟨hk.1.1.1.2, ⟨hk.1.1.2, hk.1.2⟩⟩)⟩, ⟨by (with_reducible repeat (first | apply Kd.S_alloc | apply Kd.S_drewN | apply Kd.S_drew)); exact Kd.S_mono (Kd.S_far (p := ⟨gb261, 1, none⟩) (Kd.S_far (p := ⟨gb261, 0, none⟩) (Kd.S_types HO246.out BK261.out (by decide)) (fun _ hk => hk.2) (.slice Ao163 t254.length co163)) (fun _ hk => hk.2) (.slice Ao170 t257.length co170)) (fun _ hk => ⟨hk.1.1.1.2, ⟨hk.1.1.2, hk.1.2⟩⟩)⟩, ⟨by (with_reducible repeat (first | apply Kd.R_alloc | apply Kd.R_drewN | apply Kd.R_drew)); exact Kd.R_mono (Kd.R_far (p := ⟨gb261, 1, none⟩) (Kd.R_far (p := ⟨gb261, 0, none⟩) (Kd.R_types HO256.out BK261.out (by decide)) (fun _ hk => hk.2) (.slice Ao163 t254.length co163)) (fun _ hk => hk.2) (.slice Ao170 t257.length co170)) (fun _ hk => ⟨hk.1.1.1.2, ⟨hk.1.1.2, hk.1.2⟩⟩)⟩, ⟨by (with_reducible repeat (first | apply Kd.S_alloc | apply Kd.S_drewN | apply Kd.S_drew)); exact Kd.S_mono (Kd.S_far (p := ⟨gb261, 1, none⟩) (Kd.S_far (p := ⟨gb261, 0, none⟩) (Kd.S_types HO259.out BK261.out (by decide)) (fun _ hk => hk.2) (.slice Ao163 t254.length co163)) (fun _ hk => hk.2) (.slice Ao170 t257.length co170)) (fun _ hk => ⟨hk.1.1.1.2, ⟨hk.1.1.2, hk.1.2⟩⟩)⟩, ⟨by (with_reducible repeat (first | refine bn ?_ _ | refine bd ?_ | refine ba ?_ _)); refine blk_far ?_ NB214_261.out _; (with_reducible repeat (first | refine bn ?_ _ | refine bd ?_ | refine ba ?_ _)); refine blk_far ?_ NB214_261.out _; (with_reducible repeat (first | refine bn ?_ _ | refine bd ?_ | refine ba ?_ _)); exact BK214.out⟩, ⟨by (with_reducible repeat (first | refine bn ?_ _ | refine bd ?_ | refine ba ?_ _)); refine blk_far ?_ NB215_261.out _; (with_reducible repeat (first | refine bn ?_ _ | refine bd ?_ | refine ba ?_ _)); refine blk_far ?_ NB215_261.out _; (with_reducible repeat (first | refine bn ?_ _ | refine bd ?_ | refine ba ?_ _)); exact BK215.out⟩, ⟨by (with_reducible repeat (first | refine bn ?_ _ | refine bd ?_ | refine ba ?_ _)); refine blk_far ?_ NB228_261.out _; (with_reducible repeat (first | refine bn ?_ _ | refine bd ?_ | refine ba ?_ _)); refine blk_far ?_ NB228_261.out _; (with_reducible repeat (first | refine bn ?_ _ | refine bd ?_ | refine ba ?_ _)); exact BK228.out⟩, ⟨by (with_reducible repeat (first | refine bn ?_ _ | refine bd ?_ | refine ba ?_ _)); refine blk_far ?_ NB238_261.out _; (with_reducible repeat (first | refine bn ?_ _ | refine bd ?_ | refine ba ?_ _)); refine blk_far ?_ NB238_261.out _; (with_reducible repeat (first | refine bn ?_ _ | refine bd ?_ | refine ba ?_ _)); exact BK238.out⟩, ⟨by (with_reducible repeat (first | refine bn ?_ _ | refine bd ?_ | refine ba ?_ _)); refine blk_far ?_ NB248_261.out _; (with_reducible repeat (first | refine bn ?_ _ | refine bd ?_ | refine ba ?_ _)); refine blk_far ?_ NB248_261.out _; (with_reducible repeat (first | refine bn ?_ _ | refine bd ?_ | refine ba ?_ _)); exact BK248.out⟩, ⟨by (with_reducible repeat (first | refine bn ?_ _ | refine bd ?_ | refine ba ?_ _)); refine blk_put (cs := #[.slice Ao163 t254.length co163, .slice none 0 0]) ?_ 1 _ rfl; (with_reducible repeat (first | refine bn ?_ _ | refine bd ?_ | refine ba ?_ _)); refine blk_put (cs := #[.slice none 0 0, .slice none 0 0]) ?_ 0 _ rfl; (with_reducible repeat (first | refine bn ?_ _ | refine bd ?_ | refine ba ?_ _)); exact BK261.out⟩, ⟨by repeat (first | (with_reducible first | exact HB.out | apply bl | apply pN | apply b1 | refine bs ?_ GE214.out | refine bs ?_ GE215.out | refine bs ?_ GE228.out | refine bs ?_ GE238.out | refine bs ?_ GE248.out | refine bs ?_ GE261.out) | exact HB.out | exact HBo.out)⟩⟩
        case round =>
         clear H'
         try clear c1
         try clear c2
         try clear p2
         try clear c3
         try clear c4
         try clear c5
         try clear c6
         try clear c7
         try clear c8
         try clear c9
         try clear c10
         try clear c11
         try clear c12
         try clear c12b0
         try clear c12b1
         try clear c13
         try clear c14
         try clear c15
         try clear c16
         try clear c17
         try clear c20
         try clear c27
         try clear c32
         try clear c36
         try clear c43
         try clear c49
         try clear c50
         try clear c59
         try clear c60
         try clear c61
         try clear c64
         try clear c65
         try clear c65b0
         try clear c65b1
         try clear c66
         try clear c66b0
         try clear c66b1
         try clear c68
         try clear c70
         try clear c71
         try clear c72
         try clear c74
         try clear c75
         try clear c77
         try clear c82
         try clear c83
         try clear c84
         try clear c86
         try clear c87
         try clear c89
         try clear c92
         try clear c93
         try clear c94
         try clear c96
         try clear c97
         try clear c98
         try clear c100
         try clear c102
         try clear c102b0
         try clear c102b1
         try clear c103
         try clear c103b0
         try clear c103b1
         try clear c103b2
         try clear c104
         try clear c105
         try clear c106
         try clear c108
         try clear c109
         try clear c114
         try clear c115
         try clear c116
         try clear c117
         try clear c122
         try clear c123
         try clear c124
         try clear c126
         try clear c127
         try clear c132
         try clear c133
         try clear c134
         try clear c135
         try clear c142
         try clear c143
         try clear c144
         try clear c146
         try clear c147
         try clear c152
         try clear c153
         try clear c154
         try clear c155
         try clear c164
         try clear c165
         try clear c166
         try clear c167
         try clear c168
         try clear hcz107_0
         try clear hcz107_1
         try clear hcz110_0
         try clear hcz110_1
         try clear hcz110_2
         try clear hcz118_0
         try clear hcz118_1
         try clear hcz120_0
         try clear hcz120_1
         try clear hcz120_2
         try clear hcz125_0
         try clear hcz125_1
         try clear hcz128_0
         try clear hcz128_1
         try clear hcz128_2
         try clear hcz136_0
         try clear hcz136_1
         try clear hcz138_0
         try clear hcz138_1
         try clear hcz138_2
         try clear hcz145_0
         try clear hcz145_1
         try clear hcz148_0
         try clear hcz148_1
         try clear hcz148_2
         try clear hcz156_0
         try clear hcz156_1
         try clear hcz159_0
         try clear hcz159_1
         try clear hcz15_0
         try clear hcz15_1
         try clear hcz160_0
         try clear hcz160_1
         try clear hcz160_2
         try clear hcz169_0
         try clear hcz169_1
         try clear hcz17_0
         try clear hcz17_1
         try clear hcz17_2
         try clear hcz21_0
         try clear hcz21_1
         try clear hcz23_0
         try clear hcz23_1
         try clear hcz23_2
         try clear hcz24_0
         try clear hcz24_1
         try clear hcz28_0
         try clear hcz28_1
         try clear hcz30_0
         try clear hcz30_1
         try clear hcz30_2
         try clear hcz33_0
         try clear hcz33_1
         try clear hcz44_0
         try clear hcz44_1
         try clear hcz45_0
         try clear hcz45_1
         try clear hcz45_2
         try clear hcz51_0
         try clear hcz51_1
         try clear hcz54_0
         try clear hcz54_1
         try clear hcz55_0
         try clear hcz55_1
         try clear hcz55_2
         try clear hcz62_0
         try clear hcz62_1
         try clear hcz73_0
         try clear hcz73_1
         try clear hcz73_2
         try clear hcz76_0
         try clear hcz76_1
         try clear hcz78_0
         try clear hcz78_1
         try clear hcz80_0
         try clear hcz80_1
         try clear hcz85_0
         try clear hcz85_1
         try clear hcz85_2
         try clear hcz88_0
         try clear hcz88_1
         try clear hcz90_0
         try clear hcz90_1
         try clear hcz95_0
         try clear hcz95_1
         try clear hcz95_2
         try clear hcz99_0
         try clear hcz99_1
         try clear hcz99_2
         try clear hfz107_0
         try clear hfz107_1
         try clear hfz110_0
         try clear hfz110_1
         try clear hfz110_2
         try clear hfz118_0
         try clear hfz118_1
         try clear hfz120_0
         try clear hfz120_1
         try clear hfz120_2
         try clear hfz125_0
         try clear hfz125_1
         try clear hfz128_0
         try clear hfz128_1
         try clear hfz128_2
         try clear hfz136_0
         try clear hfz136_1
         try clear hfz138_0
         try clear hfz138_1
         try clear hfz138_2
         try clear hfz145_0
         try clear hfz145_1
         try clear hfz148_0
         try clear hfz148_1
         try clear hfz148_2
         try clear hfz156_0
         try clear hfz156_1
         try clear hfz159_0
         try clear hfz159_1
         try clear hfz15_0
         try clear hfz15_1
         try clear hfz160_0
         try clear hfz160_1
         try clear hfz160_2
         try clear hfz169_0
         try clear hfz169_1
         try clear hfz17_0
         try clear hfz17_1
         try clear hfz17_2
         try clear hfz21_0
         try clear hfz21_1
         try clear hfz23_0
         try clear hfz23_1
         try clear hfz23_2
         try clear hfz24_0
         try clear hfz24_1
         try clear hfz28_0
         try clear hfz28_1
         try clear hfz30_0
         try clear hfz30_1
         try clear hfz30_2
         try clear hfz33_0
         try clear hfz33_1
         try clear hfz44_0
         try clear hfz44_1
         try clear hfz45_0
         try clear hfz45_1
         try clear hfz45_2
         try clear hfz51_0
         try clear hfz51_1
         try clear hfz54_0
         try clear hfz54_1
         try clear hfz55_0
         try clear hfz55_1
         try clear hfz55_2
         try clear hfz62_0
         try clear hfz62_1
         try clear hfz73_0
         try clear hfz73_1
         try clear hfz73_2
         try clear hfz76_0
         try clear hfz76_1
         try clear hfz78_0
         try clear hfz78_1
         try clear hfz80_0
         try clear hfz80_1
         try clear hfz85_0
         try clear hfz85_1
         try clear hfz85_2
         try clear hfz88_0
         try clear hfz88_1
         try clear hfz90_0
         try clear hfz90_1
         try clear hfz95_0
         try clear hfz95_1
         try clear hfz95_2
         try clear hfz99_0
         try clear hfz99_1
         try clear hfz99_2
         try clear p2
         obtain ⟨x17_3, rfl, HA, HK3, HO_13, HO_229000, HO_229001, HO_239000, HO_239001, HO_249000, HO_249001, HO_262000, HO_262001, BK214, BK215, BK228, BK238, BK248, BK261, HB⟩ := hrel
         cases gk with
         | zero => exact absurd HA.out (by simp [shuttlecocklaw06_InternBack.l0])
         | succ k3 =>
          have H := HA.out
          clear HA
          simp only [shuttlecocklaw06_InternBack.l0] at H
          by_cases c171 : x17_3 ≤ (l0_0.length : Int)
          ·
           rw [if_pos c171] at H
           have c171b0 : decide (x17_3 ≤ (l0_0.length : Int)) = true := decide_eq_true c171
           clear c171
           replace H := ob H
           obtain ⟨⟨t262, t263⟩, A1720, H⟩ := H
           replace H : ((intern_Name.f k3 t241 t244 x17_3).bind fun bt264 => (if t262.toList = bt264.1.toList then (shuttlecocklaw06_InternBack.l0 k3 t247 t250 t253 t260 (wrap64 (x17_3 + 1)) l0_0 l0_1 a1_0 l1_1 a1_2 t241 t244 t254 t257) else (none))) = some r := H
           have A172 := Am A1720
           clear A1720
           replace H := ob H
           obtain ⟨⟨t264, t265⟩, A1730, H⟩ := H
           replace H : (if t262.toList = t264.toList then (shuttlecocklaw06_InternBack.l0 k3 t247 t250 t253 t260 (wrap64 (x17_3 + 1)) l0_0 l0_1 a1_0 l1_1 a1_2 t241 t244 t254 t257) else (none)) = some r := H
           have A173 := Am A1730
           clear A1730
           by_cases c174 : t262.toList = t264.toList
           ·
            rw [if_pos c174] at H
            have c174b0 : (t262.toList == t264.toList) = true := beq_iff_eq.mpr c174
            have c174b1 : (t262.toList != t264.toList) = false := bne_eq_false_iff_eq.mpr c174
            clear c174
            have H' := Am H
            clear H
            have hnb175 := NB214_215.out
            have hnc175 := NB215_214.out
            have hnb176 := NB214_228.out
            have hnc176 := NB228_214.out
            have hnb177 := NB214_238.out
            have hnc177 := NB238_214.out
            have hnb178 := NB214_248.out
            have hnc178 := NB248_214.out
            have hnb179 := NB214_261.out
            have hnc179 := NB261_214.out
            have hcz180_0 : wr.cell? ⟨gb214, 0, none⟩ = some (.slice A0_0 l0_0.length c0_0) := (bc BK214.out 0).trans rfl
            have hcz180_1 : wr.cell? ⟨gb214, 1, none⟩ = some (.slice A0_1 l0_1.length c0_1) := (bc BK214.out 1).trans rfl
            have hfz180_0 := bf BK214.out 0
            have hfz180_1 := bf BK214.out 1
            go_wp2_with (first | ((with_reducible refine gate_callee (f := 15) rfl ?_); refine goesL_ (some 137) rfl rfl Try.func15 (by kernel_rfl) rfl #[.agg #[.slice A0_0 l0_0.length c0_0, .slice A0_1 l0_1.length c0_1], .int .i64 x17_3] rfl (by (try simp only [List.map_toArray, List.map_cons, List.map_nil]); first | done | rfl | (simp only [List.length_drop, List.length_take]; rfl)) ?_; (with_reducible refine (intern_Name.calls k3 _ _ l0_0 _ _ l0_1 x17_3 t262 t263 _ ?side1 ?side2 ?side3 ?side4 A172.out).mono ?_); (case side1 => repeat (first | exact (Kd.C_below HR0_0.out HB.out) | (with_reducible refine Kd.C_alloc ?_ _) | (with_reducible refine Kd.C_drewN ?_ _) | (with_reducible refine Kd.C_drew ?_))); (case side2 => exact HC0_0.out); (case side3 => repeat (first | exact (Kd.C_below HR0_1.out HB.out) | (with_reducible refine Kd.C_alloc ?_ _) | (with_reducible refine Kd.C_drewN ?_ _) | (with_reducible refine Kd.C_drew ?_))); (case side4 => exact HC0_1.out); rintro e w181 ⟨rfl, hb⟩; refine ⟨_, rfl, ?_⟩; have n0_ := Am (Kd.R_below (by (with_reducible repeat (first | apply Kd.R_alloc | apply Kd.R_drewN | apply Kd.R_drew)); exact HO_13.out) hb); have n1_ := Am (Kd.R_below (by (with_reducible repeat (first | apply Kd.R_alloc | apply Kd.R_drewN | apply Kd.R_drew)); exact HO_229000.out) hb); have n2_ := Am (Kd.S_below (by (with_reducible repeat (first | apply Kd.S_alloc | apply Kd.S_drewN | apply Kd.S_drew)); exact HO_229001.out) hb); have n3_ := Am (Kd.R_below (by (with_reducible repeat (first | apply Kd.R_alloc | apply Kd.R_drewN | apply Kd.R_drew)); exact HO_239000.out) hb); have n4_ := Am (Kd.S_below (by (with_reducible repeat (first | apply Kd.S_alloc | apply Kd.S_drewN | apply Kd.S_drew)); exact HO_239001.out) hb); have n5_ := Am (Kd.R_below (by (with_reducible repeat (first | apply Kd.R_alloc | apply Kd.R_drewN | apply Kd.R_drew)); exact HO_249000.out) hb); have n6_ := Am (Kd.S_below (by (with_reducible repeat (first | apply Kd.S_alloc | apply Kd.S_drewN | apply Kd.S_drew)); exact HO_249001.out) hb); have n7_ := Am (Kd.R_below (by (with_reducible repeat (first | apply Kd.R_alloc | apply Kd.R_drewN | apply Kd.R_drew)); exact HO_262000.out) hb); have n8_ := Am (Kd.S_below (by (with_reducible repeat (first | apply Kd.S_alloc | apply Kd.S_drewN | apply Kd.S_drew)); exact HO_262001.out) hb); have n9_ := Am (blk_below (g := gb214) (o := .cells #[.slice A0_0 l0_0.length c0_0, .slice A0_1 l0_1.length c0_1] 25 (0, 0)) (by (with_reducible repeat (first | refine bn ?_ _ | refine bd ?_ | refine ba ?_ _)); exact BK214.out) hb); have n10_ := Am (blk_below (g := gb215) (o := .cells #[.string a1_0, .slice A1_1 l1_1.length c1_1, .int .i64 a1_2] 28 (0, 0)) (by (with_reducible repeat (first | refine bn ?_ _ | refine bd ?_ | refine ba ?_ _)); exact BK215.out) hb); have n11_ := Am (blk_below (g := gb228) (o := .cells #[.slice Ao48 t221.length co48, .slice Ao52 t224.length co52] 25 (0, 0)) (by (with_reducible repeat (first | refine bn ?_ _ | refine bd ?_ | refine ba ?_ _)); exact BK228.out) hb); have n12_ := Am (blk_below (g := gb238) (o := .cells #[.slice Ao58 t231.length co58, .slice Ao63 t234.length co63] 25 (0, 0)) (by (with_reducible repeat (first | refine bn ?_ _ | refine bd ?_ | refine ba ?_ _)); exact BK238.out) hb); have n13_ := Am (blk_below (g := gb248) (o := .cells #[.slice Ao151 t241.length co151, .slice Ao157 t244.length co157] 25 (0, 0)) (by (with_reducible repeat (first | refine bn ?_ _ | refine bd ?_ | refine ba ?_ _)); exact BK248.out) hb); have n14_ := Am (blk_below (g := gb261) (o := .cells #[.slice Ao163 t254.length co163, .slice Ao170 t257.length co170] 25 (0, 0)) (by (with_reducible repeat (first | refine bn ?_ _ | refine bd ?_ | refine ba ?_ _)); exact BK261.out) hb); have n15_ := Am (below_step (by repeat (first | (with_reducible first | exact HB.out | apply bl | apply pN | apply b1 | refine bs ?_ GE214.out | refine bs ?_ GE215.out | refine bs ?_ GE228.out | refine bs ?_ GE238.out | refine bs ?_ GE248.out | refine bs ?_ GE261.out) | exact HB.out | exact HBo.out)) hb); clear HO_13; clear HO_229000; clear HO_229001; clear HO_239000; clear HO_239001; clear HO_249000; clear HO_249001; clear HO_262000; clear HO_262001; clear BK214; clear BK215; clear BK228; clear BK238; clear BK248; clear BK261; clear HB; have HO_13 := n0_; have HO_229000 := n1_; have HO_229001 := n2_; have HO_239000 := n3_; have HO_239001 := n4_; have HO_249000 := n5_; have HO_249001 := n6_; have HO_262000 := n7_; have HO_262001 := n8_; have BK214 := n9_; have BK215 := n10_; have BK228 := n11_; have BK238 := n12_; have BK248 := n13_; have BK261 := n14_; have HB := n15_; clear n0_ n1_ n2_ n3_ n4_ n5_ n6_ n7_ n8_ n9_ n10_ n11_ n12_ n13_ n14_ n15_; (try clear hb); (try clear hb2); (try clear hk); (try clear hi); have hnb182 := NB248_215.out; have hnc182 := NB215_248.out; have hnb183 := NB248_228.out; have hnc183 := NB228_248.out; have hnb184 := NB248_238.out; have hnc184 := NB238_248.out; have hnb185 := NB248_261.out; have hnc185 := NB261_248.out; have hcz186_0 : w181.cell? ⟨gb248, 0, none⟩ = some (.slice Ao151 t241.length co151) := (bc BK248.out 0).trans rfl; have hcz186_1 : w181.cell? ⟨gb248, 1, none⟩ = some (.slice Ao157 t244.length co157) := (bc BK248.out 1).trans rfl; have hfz186_0 := bf BK248.out 0; have hfz186_1 := bf BK248.out 1) | ((with_reducible refine gate_callee (f := 15) rfl ?_); refine goesL_ (some 143) rfl rfl Try.func15 (by kernel_rfl) rfl #[.agg #[.slice Ao151 t241.length co151, .slice Ao157 t244.length co157], .int .i64 x17_3] rfl (by (try simp only [List.map_toArray, List.map_cons, List.map_nil]); first | done | rfl | (simp only [List.length_drop, List.length_take]; rfl)) ?_; (with_reducible refine (intern_Name.calls k3 _ _ t241 _ _ t244 x17_3 t264 t265 _ ?side1 ?side2 ?side3 ?side4 A173.out).mono ?_); (case side1 => repeat (first | exact (Kd.R_reads' HO_249000.out).2.2 | (with_reducible refine Kd.C_alloc ?_ _) | (with_reducible refine Kd.C_drewN ?_ _) | (with_reducible refine Kd.C_drew ?_))); (case side2 => exact (Kd.R_reads' HO_249000.out).2.1); (case side3 => repeat (first | exact (Kd.S_reads' HO_249001.out).2.2 | (with_reducible refine Kd.C_alloc ?_ _) | (with_reducible refine Kd.C_drewN ?_ _) | (with_reducible refine Kd.C_drew ?_))); (case side4 => exact (Kd.S_reads' HO_249001.out).2.1); rintro e w187 ⟨rfl, hb⟩; refine ⟨_, rfl, ?_⟩; have n0_ := Am (Kd.R_below (by (with_reducible repeat (first | apply Kd.R_alloc | apply Kd.R_drewN | apply Kd.R_drew)); exact HO_13.out) hb); have n1_ := Am (Kd.R_below (by (with_reducible repeat (first | apply Kd.R_alloc | apply Kd.R_drewN | apply Kd.R_drew)); exact HO_229000.out) hb); have n2_ := Am (Kd.S_below (by (with_reducible repeat (first | apply Kd.S_alloc | apply Kd.S_drewN | apply Kd.S_drew)); exact HO_229001.out) hb); have n3_ := Am (Kd.R_below (by (with_reducible repeat (first | apply Kd.R_alloc | apply Kd.R_drewN | apply Kd.R_drew)); exact HO_239000.out) hb); have n4_ := Am (Kd.S_below (by (with_reducible repeat (first | apply Kd.S_alloc | apply Kd.S_drewN | apply Kd.S_drew)); exact HO_239001.out) hb); have n5_ := Am (Kd.R_below (by (with_reducible repeat (first | apply Kd.R_alloc | apply Kd.R_drewN | apply Kd.R_drew)); exact HO_249000.out) hb); have n6_ := Am (Kd.S_below (by (with_reducible repeat (first | apply Kd.S_alloc | apply Kd.S_drewN | apply Kd.S_drew)); exact HO_249001.out) hb); have n7_ := Am (Kd.R_below (by (with_reducible repeat (first | apply Kd.R_alloc | apply Kd.R_drewN | apply Kd.R_drew)); exact HO_262000.out) hb); have n8_ := Am (Kd.S_below (by (with_reducible repeat (first | apply Kd.S_alloc | apply Kd.S_drewN | apply Kd.S_drew)); exact HO_262001.out) hb); have n9_ := Am (blk_below (g := gb214) (o := .cells #[.slice A0_0 l0_0.length c0_0, .slice A0_1 l0_1.length c0_1] 25 (0, 0)) (by (with_reducible repeat (first | refine bn ?_ _ | refine bd ?_ | refine ba ?_ _)); exact BK214.out) hb); have n10_ := Am (blk_below (g := gb215) (o := .cells #[.string a1_0, .slice A1_1 l1_1.length c1_1, .int .i64 a1_2] 28 (0, 0)) (by (with_reducible repeat (first | refine bn ?_ _ | refine bd ?_ | refine ba ?_ _)); exact BK215.out) hb); have n11_ := Am (blk_below (g := gb228) (o := .cells #[.slice Ao48 t221.length co48, .slice Ao52 t224.length co52] 25 (0, 0)) (by (with_reducible repeat (first | refine bn ?_ _ | refine bd ?_ | refine ba ?_ _)); exact BK228.out) hb); have n12_ := Am (blk_below (g := gb238) (o := .cells #[.slice Ao58 t231.length co58, .slice Ao63 t234.length co63] 25 (0, 0)) (by (with_reducible repeat (first | refine bn ?_ _ | refine bd ?_ | refine ba ?_ _)); exact BK238.out) hb); have n13_ := Am (blk_below (g := gb248) (o := .cells #[.slice Ao151 t241.length co151, .slice Ao157 t244.length co157] 25 (0, 0)) (by (with_reducible repeat (first | refine bn ?_ _ | refine bd ?_ | refine ba ?_ _)); exact BK248.out) hb); have n14_ := Am (blk_below (g := gb261) (o := .cells #[.slice Ao163 t254.length co163, .slice Ao170 t257.length co170] 25 (0, 0)) (by (with_reducible repeat (first | refine bn ?_ _ | refine bd ?_ | refine ba ?_ _)); exact BK261.out) hb); have n15_ := Am (below_step (by repeat (first | (with_reducible first | exact HB.out | apply bl | apply pN | apply b1 | refine bs ?_ GE214.out | refine bs ?_ GE215.out | refine bs ?_ GE228.out | refine bs ?_ GE238.out | refine bs ?_ GE248.out | refine bs ?_ GE261.out) | exact HB.out | exact HBo.out)) hb); clear HO_13; clear HO_229000; clear HO_229001; clear HO_239000; clear HO_239001; clear HO_249000; clear HO_249001; clear HO_262000; clear HO_262001; clear BK214; clear BK215; clear BK228; clear BK238; clear BK248; clear BK261; clear HB; have HO_13 := n0_; have HO_229000 := n1_; have HO_229001 := n2_; have HO_239000 := n3_; have HO_239001 := n4_; have HO_249000 := n5_; have HO_249001 := n6_; have HO_262000 := n7_; have HO_262001 := n8_; have BK214 := n9_; have BK215 := n10_; have BK228 := n11_; have BK238 := n12_; have BK248 := n13_; have BK261 := n14_; have HB := n15_; clear n0_ n1_ n2_ n3_ n4_ n5_ n6_ n7_ n8_ n9_ n10_ n11_ n12_ n13_ n14_ n15_; (try clear hb); (try clear hb2); (try clear hk); (try clear hi)))
            go_roundg k3
            case measure => have := HJ2.out; have := HJ41.out; have := HK3.out; omega
            case rel => exact ⟨(wrap64 (x17_3 + 1)), (by first | rfl | (simp; done) | (simp [*]; done)), H', ⟨by have := HJ2.out; have := HJ41.out; have := HK3.out; omega⟩, ⟨by (with_reducible repeat (first | apply Kd.R_alloc | apply Kd.R_drewN | apply Kd.R_drew)); exact HO_13.out⟩, ⟨by (with_reducible repeat (first | apply Kd.R_alloc | apply Kd.R_drewN | apply Kd.R_drew)); exact HO_229000.out⟩, ⟨by (with_reducible repeat (first | apply Kd.S_alloc | apply Kd.S_drewN | apply Kd.S_drew)); exact HO_229001.out⟩, ⟨by (with_reducible repeat (first | apply Kd.R_alloc | apply Kd.R_drewN | apply Kd.R_drew)); exact HO_239000.out⟩, ⟨by (with_reducible repeat (first | apply Kd.S_alloc | apply Kd.S_drewN | apply Kd.S_drew)); exact HO_239001.out⟩, ⟨by (with_reducible repeat (first | apply Kd.R_alloc | apply Kd.R_drewN | apply Kd.R_drew)); exact HO_249000.out⟩, ⟨by (with_reducible repeat (first | apply Kd.S_alloc | apply Kd.S_drewN | apply Kd.S_drew)); exact HO_249001.out⟩, ⟨by (with_reducible repeat (first | apply Kd.R_alloc | apply Kd.R_drewN | apply Kd.R_drew)); exact HO_262000.out⟩, ⟨by (with_reducible repeat (first | apply Kd.S_alloc | apply Kd.S_drewN | apply Kd.S_drew)); exact HO_262001.out⟩, ⟨by (with_reducible repeat (first | refine bn ?_ _ | refine bd ?_ | refine ba ?_ _)); exact BK214.out⟩, ⟨by (with_reducible repeat (first | refine bn ?_ _ | refine bd ?_ | refine ba ?_ _)); exact BK215.out⟩, ⟨by (with_reducible repeat (first | refine bn ?_ _ | refine bd ?_ | refine ba ?_ _)); exact BK228.out⟩, ⟨by (with_reducible repeat (first | refine bn ?_ _ | refine bd ?_ | refine ba ?_ _)); exact BK238.out⟩, ⟨by (with_reducible repeat (first | refine bn ?_ _ | refine bd ?_ | refine ba ?_ _)); exact BK248.out⟩, ⟨by (with_reducible repeat (first | refine bn ?_ _ | refine bd ?_ | refine ba ?_ _)); exact BK261.out⟩, ⟨by repeat (first | (with_reducible first | exact HB.out | apply bl | apply pN | apply b1 | refine bs ?_ GE214.out | refine bs ?_ GE215.out | refine bs ?_ GE228.out | refine bs ?_ GE238.out | refine bs ?_ GE248.out | refine bs ?_ GE261.out) | exact HB.out | exact HBo.out)⟩⟩
           ·
            rw [if_neg c174] at H
            exact absurd H (by simp)
          ·
           rw [if_neg c171] at H
           have c171b0 : decide (x17_3 ≤ (l0_0.length : Int)) = false := decide_eq_false c171
           clear c171
           have H' := Am H
           clear H
           have hnb188 := NB214_215.out
           have hnc188 := NB215_214.out
           have hnb189 := NB214_228.out
           have hnc189 := NB228_214.out
           have hnb190 := NB214_238.out
           have hnc190 := NB238_214.out
           have hnb191 := NB214_248.out
           have hnc191 := NB248_214.out
           have hnb192 := NB214_261.out
           have hnc192 := NB261_214.out
           have hcz193_0 : wr.cell? ⟨gb214, 0, none⟩ = some (.slice A0_0 l0_0.length c0_0) := (bc BK214.out 0).trans rfl
           have hcz193_1 : wr.cell? ⟨gb214, 1, none⟩ = some (.slice A0_1 l0_1.length c0_1) := (bc BK214.out 1).trans rfl
           have hfz193_0 := bf BK214.out 0
           have hfz193_1 := bf BK214.out 1
           go_wp2
           go_loopg [22] k3 (fun kq v22 w' => ∃ (x22_4 : Int), v22 = .int .i64 x22_4 ∧ Aside0 (shuttlecocklaw06_InternBack.l1 kq t247 t250 t253 t260 x22_4 l0_0 l0_1 a1_0 l1_1 a1_2 t241 t244 t254 t257 = some r) ∧ Aside0 (kq ≤ k3) ∧ Aside0 (Kd.R k45 45 w' w.heap.size (fun _ => True) v251 t250) ∧ Aside0 (Kd.R Kd.string 9 w' w.heap.size (fun k_ => some k_ ≠ ((.slice Ao58 t231.length co58) : Value).ownBlock ∧ some k_ ≠ ((.slice Ao151 t241.length co151) : Value).ownBlock ∧ some k_ ≠ ((.slice Ao163 t254.length co163) : Value).ownBlock) (.slice Ao48 t221.length co48) t221) ∧ Aside0 (Kd.S (Kd.slice 50 k50) 46 w' w.heap.size (fun k_ => some k_ ≠ ((.slice Ao63 t234.length co63) : Value).ownBlock ∧ some k_ ≠ ((.slice Ao157 t244.length co157) : Value).ownBlock ∧ some k_ ≠ ((.slice Ao170 t257.length co170) : Value).ownBlock) (.slice Ao52 t224.length co52) t224) ∧ Aside0 (Kd.R Kd.string 9 w' w.heap.size (fun k_ => some k_ ≠ ((.slice Ao48 t221.length co48) : Value).ownBlock ∧ some k_ ≠ ((.slice Ao151 t241.length co151) : Value).ownBlock ∧ some k_ ≠ ((.slice Ao163 t254.length co163) : Value).ownBlock) (.slice Ao58 t231.length co58) t231) ∧ Aside0 (Kd.S (Kd.slice 50 k50) 46 w' w.heap.size (fun k_ => some k_ ≠ ((.slice Ao52 t224.length co52) : Value).ownBlock ∧ some k_ ≠ ((.slice Ao157 t244.length co157) : Value).ownBlock ∧ some k_ ≠ ((.slice Ao170 t257.length co170) : Value).ownBlock) (.slice Ao63 t234.length co63) t234) ∧ Aside0 (Kd.R Kd.string 9 w' w.heap.size (fun k_ => some k_ ≠ ((.slice Ao48 t221.length co48) : Value).ownBlock ∧ some k_ ≠ ((.slice Ao58 t231.length co58) : Value).ownBlock ∧ some k_ ≠ ((.slice Ao163 t254.length co163) : Value).ownBlock) (.slice Ao151 t241.length co151) t241) ∧ Aside0 (Kd.S (Kd.slice 50 k50) 46 w' w.heap.size (fun k_ => some k_ ≠ ((.slice Ao52 t224.length co52) : Value).ownBlock ∧ some k_ ≠ ((.slice Ao63 t234.length co63) : Value).ownBlock ∧ some k_ ≠ ((.slice Ao170 t257.length co170) : Value).ownBlock) (.slice Ao157 t244.length co157) t244) ∧ Aside0 (Kd.R Kd.string 9 w' w.heap.size (fun k_ => some k_ ≠ ((.slice Ao48 t221.length co48) : Value).ownBlock ∧ some k_ ≠ ((.slice Ao58 t231.length co58) : Value).ownBlock ∧ some k_ ≠ ((.slice Ao151 t241.length co151) : Value).ownBlock) (.slice Ao163 t254.length co163) t254) ∧ Aside0 (Kd.S (Kd.slice 50 k50) 46 w' w.heap.size (fun k_ => some k_ ≠ ((.slice Ao52 t224.length co52) : Value).ownBlock ∧ some k_ ≠ ((.slice Ao63 t234.length co63) : Value).ownBlock ∧ some k_ ≠ ((.slice Ao157 t244.length co157) : Value).ownBlock) (.slice Ao170 t257.length co170) t257) ∧ Aside0 (w'.heap[gb214]? = some (.cells #[(.slice A0_0 l0_0.length c0_0), (.slice A0_1 l0_1.length c0_1)] 25 (0, 0))) ∧ Aside0 (w'.heap[gb215]? = some (.cells #[.string a1_0, (.slice A1_1 l1_1.length c1_1), .int .i64 a1_2] 28 (0, 0))) ∧ Aside0 (w'.heap[gb228]? = some (.cells #[(.slice Ao48 t221.length co48), (.slice Ao52 t224.length co52)] 25 (0, 0))) ∧ Aside0 (w'.heap[gb238]? = some (.cells #[(.slice Ao58 t231.length co58), (.slice Ao63 t234.length co63)] 25 (0, 0))) ∧ Aside0 (w'.heap[gb248]? = some (.cells #[(.slice Ao151 t241.length co151), (.slice Ao157 t244.length co157)] 25 (0, 0))) ∧ Aside0 (w'.heap[gb261]? = some (.cells #[(.slice Ao163 t254.length co163), (.slice Ao170 t257.length co170)] 25 (0, 0))) ∧ Aside0 (Below w.heap.size w w'))
           case atStart => exact ⟨(0), (by first | rfl | (simp; done) | (simp [*]; done)), H', ⟨Nat.le_refl _⟩, ⟨by (with_reducible repeat (first | apply Kd.R_alloc | apply Kd.R_drewN | apply Kd.R_drew)); exact HO_13.out⟩, ⟨by (with_reducible repeat (first | apply Kd.R_alloc | apply Kd.R_drewN | apply Kd.R_drew)); exact HO_229000.out⟩, ⟨by (with_reducible repeat (first | apply Kd.S_alloc | apply Kd.S_drewN | apply Kd.S_drew)); exact HO_229001.out⟩, ⟨by (with_reducible repeat (first | apply Kd.R_alloc | apply Kd.R_drewN | apply Kd.R_drew)); exact HO_239000.out⟩, ⟨by (with_reducible repeat (first | apply Kd.S_alloc | apply Kd.S_drewN | apply Kd.S_drew)); exact HO_239001.out⟩, ⟨by (with_reducible repeat (first | apply Kd.R_alloc | apply Kd.R_drewN | apply Kd.R_drew)); exact HO_249000.out⟩, ⟨by (with_reducible repeat (first | apply Kd.S_alloc | apply Kd.S_drewN | apply Kd.S_drew)); exact HO_249001.out⟩, ⟨by (with_reducible repeat (first | apply Kd.R_alloc | apply Kd.R_drewN | apply Kd.R_drew)); exact HO_262000.out⟩, ⟨by (with_reducible repeat (first | apply Kd.S_alloc | apply Kd.S_drewN | apply Kd.S_drew)); exact HO_262001.out⟩, ⟨by (with_reducible repeat (first | refine bn ?_ _ | refine bd ?_ | refine ba ?_ _)); exact BK214.out⟩, ⟨by (with_reducible repeat (first | refine bn ?_ _ | refine bd ?_ | refine ba ?_ _)); exact BK215.out⟩, ⟨by (with_reducible repeat (first | refine bn ?_ _ | refine bd ?_ | refine ba ?_ _)); exact BK228.out⟩, ⟨by (with_reducible repeat (first | refine bn ?_ _ | refine bd ?_ | refine ba ?_ _)); exact BK238.out⟩, ⟨by (with_reducible repeat (first | refine bn ?_ _ | refine bd ?_ | refine ba ?_ _)); exact BK248.out⟩, ⟨by (with_reducible repeat (first | refine bn ?_ _ | refine bd ?_ | refine ba ?_ _)); exact BK261.out⟩, ⟨by repeat (first | (with_reducible first | exact HB.out | apply bl | apply pN | apply b1 | refine bs ?_ GE214.out | refine bs ?_ GE215.out | refine bs ?_ GE228.out | refine bs ?_ GE238.out | refine bs ?_ GE248.out | refine bs ?_ GE261.out) | exact HB.out | exact HBo.out)⟩⟩
           case round =>
            clear H'
            try clear c1
            try clear c2
            try clear p2
            try clear c3
            try clear c4
            try clear c5
            try clear c6
            try clear p6
            try clear c7
            try clear c8
            try clear c9
            try clear c10
            try clear c11
            try clear c12
            try clear c12b0
            try clear c12b1
            try clear c13
            try clear c14
            try clear c15
            try clear c16
            try clear c17
            try clear c18
            try clear c19
            try clear c20
            try clear c27
            try clear c32
            try clear c36
            try clear c43
            try clear c49
            try clear c50
            try clear c59
            try clear c60
            try clear c61
            try clear c64
            try clear p64
            try clear c65
            try clear c65b0
            try clear c65b1
            try clear c66
            try clear c66b0
            try clear c66b1
            try clear c68
            try clear c70
            try clear c71
            try clear c72
            try clear c74
            try clear c75
            try clear c77
            try clear c82
            try clear c83
            try clear c84
            try clear c86
            try clear c87
            try clear c89
            try clear c92
            try clear c93
            try clear c94
            try clear c96
            try clear c97
            try clear c98
            try clear c100
            try clear c102
            try clear c102b0
            try clear c102b1
            try clear c103
            try clear c103b0
            try clear c103b1
            try clear c103b2
            try clear c104
            try clear c105
            try clear c106
            try clear c108
            try clear c109
            try clear c114
            try clear c115
            try clear c116
            try clear c117
            try clear c122
            try clear c123
            try clear c124
            try clear c126
            try clear c127
            try clear c132
            try clear c133
            try clear c134
            try clear c135
            try clear c142
            try clear c143
            try clear c144
            try clear c146
            try clear c147
            try clear c152
            try clear c153
            try clear c154
            try clear c155
            try clear c164
            try clear c165
            try clear c166
            try clear c167
            try clear c168
            try clear c171
            try clear c171b0
            try clear c174
            try clear c174b0
            try clear c174b1
            try clear c175
            try clear c176
            try clear c177
            try clear c178
            try clear c179
            try clear c182
            try clear c183
            try clear c184
            try clear c185
            try clear c188
            try clear c189
            try clear c190
            try clear c191
            try clear c192
            try clear hcz107_0
            try clear hcz107_1
            try clear hcz110_0
            try clear hcz110_1
            try clear hcz110_2
            try clear hcz118_0
            try clear hcz118_1
            try clear hcz120_0
            try clear hcz120_1
            try clear hcz120_2
            try clear hcz125_0
            try clear hcz125_1
            try clear hcz128_0
            try clear hcz128_1
            try clear hcz128_2
            try clear hcz136_0
            try clear hcz136_1
            try clear hcz138_0
            try clear hcz138_1
            try clear hcz138_2
            try clear hcz145_0
            try clear hcz145_1
            try clear hcz148_0
            try clear hcz148_1
            try clear hcz148_2
            try clear hcz156_0
            try clear hcz156_1
            try clear hcz159_0
            try clear hcz159_1
            try clear hcz15_0
            try clear hcz15_1
            try clear hcz160_0
            try clear hcz160_1
            try clear hcz160_2
            try clear hcz169_0
            try clear hcz169_1
            try clear hcz17_0
            try clear hcz17_1
            try clear hcz17_2
            try clear hcz180_0
            try clear hcz180_1
            try clear hcz186_0
            try clear hcz186_1
            try clear hcz193_0
            try clear hcz193_1
            try clear hcz21_0
            try clear hcz21_1
            try clear hcz23_0
            try clear hcz23_1
            try clear hcz23_2
            try clear hcz24_0
            try clear hcz24_1
            try clear hcz28_0
            try clear hcz28_1
            try clear hcz30_0
            try clear hcz30_1
            try clear hcz30_2
            try clear hcz33_0
            try clear hcz33_1
            try clear hcz44_0
            try clear hcz44_1
            try clear hcz45_0
            try clear hcz45_1
            try clear hcz45_2
            try clear hcz51_0
            try clear hcz51_1
            try clear hcz54_0
            try clear hcz54_1
            try clear hcz55_0
            try clear hcz55_1
            try clear hcz55_2
            try clear hcz62_0
            try clear hcz62_1
            try clear hcz73_0
            try clear hcz73_1
            try clear hcz73_2
            try clear hcz76_0
            try clear hcz76_1
            try clear hcz78_0
            try clear hcz78_1
            try clear hcz80_0
            try clear hcz80_1
            try clear hcz85_0
            try clear hcz85_1
            try clear hcz85_2
            try clear hcz88_0
            try clear hcz88_1
            try clear hcz90_0
            try clear hcz90_1
            try clear hcz95_0
            try clear hcz95_1
            try clear hcz95_2
            try clear hcz99_0
            try clear hcz99_1
            try clear hcz99_2
            try clear hfz107_0
            try clear hfz107_1
            try clear hfz110_0
            try clear hfz110_1
            try clear hfz110_2
            try clear hfz118_0
            try clear hfz118_1
            try clear hfz120_0
            try clear hfz120_1
            try clear hfz120_2
            try clear hfz125_0
            try clear hfz125_1
            try clear hfz128_0
            try clear hfz128_1
            try clear hfz128_2
            try clear hfz136_0
            try clear hfz136_1
            try clear hfz138_0
            try clear hfz138_1
            try clear hfz138_2
            try clear hfz145_0
            try clear hfz145_1
            try clear hfz148_0
            try clear hfz148_1
            try clear hfz148_2
            try clear hfz156_0
            try clear hfz156_1
            try clear hfz159_0
            try clear hfz159_1
            try clear hfz15_0
            try clear hfz15_1
            try clear hfz160_0
            try clear hfz160_1
            try clear hfz160_2
            try clear hfz169_0
            try clear hfz169_1
            try clear hfz17_0
            try clear hfz17_1
            try clear hfz17_2
            try clear hfz180_0
            try clear hfz180_1
            try clear hfz186_0
            try clear hfz186_1
            try clear hfz193_0
            try clear hfz193_1
            try clear hfz21_0
            try clear hfz21_1
            try clear hfz23_0
            try clear hfz23_1
            try clear hfz23_2
            try clear hfz24_0
            try clear hfz24_1
            try clear hfz28_0
            try clear hfz28_1
            try clear hfz30_0
            try clear hfz30_1
            try clear hfz30_2
            try clear hfz33_0
            try clear hfz33_1
            try clear hfz44_0
            try clear hfz44_1
            try clear hfz45_0
            try clear hfz45_1
            try clear hfz45_2
            try clear hfz51_0
            try clear hfz51_1
            try clear hfz54_0
            try clear hfz54_1
            try clear hfz55_0
            try clear hfz55_1
            try clear hfz55_2
            try clear hfz62_0
            try clear hfz62_1
            try clear hfz73_0
            try clear hfz73_1
            try clear hfz73_2
            try clear hfz76_0
            try clear hfz76_1
            try clear hfz78_0
            try clear hfz78_1
            try clear hfz80_0
            try clear hfz80_1
            try clear hfz85_0
            try clear hfz85_1
            try clear hfz85_2
            try clear hfz88_0
            try clear hfz88_1
            try clear hfz90_0
            try clear hfz90_1
            try clear hfz95_0
            try clear hfz95_1
            try clear hfz95_2
            try clear hfz99_0
            try clear hfz99_1
            try clear hfz99_2
            try clear p2
            obtain ⟨x22_4, rfl, HA, HK4, HO_13, HO_229000, HO_229001, HO_239000, HO_239001, HO_249000, HO_249001, HO_262000, HO_262001, BK214, BK215, BK228, BK238, BK248, BK261, HB⟩ := hrel
            cases gk with
            | zero => exact absurd HA.out (by simp [shuttlecocklaw06_InternBack.l1])
            | succ k4 =>
             have H := HA.out
             clear HA
             simp only [shuttlecocklaw06_InternBack.l1] at H
             by_cases c194 : x22_4 ≤ (l0_1.length : Int)
             ·
              rw [if_pos c194] at H
              have c194b0 : decide (x22_4 ≤ (l0_1.length : Int)) = true := decide_eq_true c194
              clear c194
              replace H := ob H
              obtain ⟨⟨t268, t271⟩, A1950, H⟩ := H
              replace H : ((intern_Frames.f k4 t241 t244 x22_4).bind fun bt272 => ((shuttlecockref06_SameFrames.f k4 t268 bt272.1).bind fun t276 => (if t276 = true then (shuttlecocklaw06_InternBack.l1 k4 t247 t250 t253 t260 (wrap64 (x22_4 + 1)) l0_0 l0_1 a1_0 l1_1 a1_2 t241 t244 t254 t257) else (none)))) = some r := H
              have A195 := Am A1950
              clear A1950
              replace H := ob H
              obtain ⟨⟨t272, t275⟩, A1960, H⟩ := H
              replace H : ((shuttlecockref06_SameFrames.f k4 t268 t272).bind fun t276 => (if t276 = true then (shuttlecocklaw06_InternBack.l1 k4 t247 t250 t253 t260 (wrap64 (x22_4 + 1)) l0_0 l0_1 a1_0 l1_1 a1_2 t241 t244 t254 t257) else (none))) = some r := H
              have A196 := Am A1960
              clear A1960
              replace H := ob H
              obtain ⟨t276, A1970, H⟩ := H
              replace H : (if t276 = true then (shuttlecocklaw06_InternBack.l1 k4 t247 t250 t253 t260 (wrap64 (x22_4 + 1)) l0_0 l0_1 a1_0 l1_1 a1_2 t241 t244 t254 t257) else (none)) = some r := H
              have A197 := Am A1970
              clear A1970
              by_cases c198 : t276 = true
              ·
               subst c198
               have H1 : (shuttlecocklaw06_InternBack.l1 k4 t247 t250 t253 t260 (wrap64 (x22_4 + 1)) l0_0 l0_1 a1_0 l1_1 a1_2 t241 t244 t254 t257) = some r := by rw [if_pos rfl] at H; exact H
               clear H
               have H := H1
               clear H1
               have H' := Am H
               clear H
               have hnb199 := NB214_215.out
               have hnc199 := NB215_214.out
               have hnb200 := NB214_228.out
               have hnc200 := NB228_214.out
               have hnb201 := NB214_238.out
               have hnc201 := NB238_214.out
               have hnb202 := NB214_248.out
               have hnc202 := NB248_214.out
               have hnb203 := NB214_261.out
               have hnc203 := NB261_214.out
               have hcz204_0 : wr.cell? ⟨gb214, 0, none⟩ = some (.slice A0_0 l0_0.length c0_0) := (bc BK214.out 0).trans rfl
               have hcz204_1 : wr.cell? ⟨gb214, 1, none⟩ = some (.slice A0_1 l0_1.length c0_1) := (bc BK214.out 1).trans rfl
               have hfz204_0 := bf BK214.out 0
               have hfz204_1 := bf BK214.out 1
               go_wp2_with (first | ((with_reducible refine gate_callee (f := 17) rfl ?_); refine goesL_ (some 159) rfl rfl Try.func17 (by kernel_rfl) rfl #[.agg #[.slice A0_0 l0_0.length c0_0, .slice A0_1 l0_1.length c0_1], .int .i64 x22_4] rfl (by (try simp only [List.map_toArray, List.map_cons, List.map_nil]); first | done | rfl | (simp only [List.length_drop, List.length_take]; rfl)) ?_; (with_reducible refine (intern_Frames.calls k4 _ _ l0_0 _ _ l0_1 x22_4 t268 t271 _ ?side1 ?side2 ?side3 ?side4 A195.out).mono ?_); (case side1 => repeat (first | exact (Kd.C_below HR0_0.out HB.out) | (with_reducible refine Kd.C_alloc ?_ _) | (with_reducible refine Kd.C_drewN ?_ _) | (with_reducible refine Kd.C_drew ?_))); (case side2 => exact HC0_0.out); (case side3 => repeat (first | exact (Kd.C_below HR0_1.out HB.out) | (with_reducible refine Kd.C_alloc ?_ _) | (with_reducible refine Kd.C_drewN ?_ _) | (with_reducible refine Kd.C_drew ?_))); (case side4 => exact HC0_1.out); rintro e w205 ⟨v269, rfl, ho0, hb⟩; refine ⟨_, rfl, ?_⟩; have n0_ := Am (Kd.R_elder' (by (with_reducible repeat (first | apply Kd.R_alloc | apply Kd.R_drewN | apply Kd.R_drew)); exact HO_13.out) (Kd.R_base ho0) hb); have n1_ := Am (Kd.R_below (by (with_reducible repeat (first | apply Kd.R_alloc | apply Kd.R_drewN | apply Kd.R_drew)); exact HO_229000.out) hb); have n2_ := Am (Kd.S_below (by (with_reducible repeat (first | apply Kd.S_alloc | apply Kd.S_drewN | apply Kd.S_drew)); exact HO_229001.out) hb); have n3_ := Am (Kd.R_below (by (with_reducible repeat (first | apply Kd.R_alloc | apply Kd.R_drewN | apply Kd.R_drew)); exact HO_239000.out) hb); have n4_ := Am (Kd.S_below (by (with_reducible repeat (first | apply Kd.S_alloc | apply Kd.S_drewN | apply Kd.S_drew)); exact HO_239001.out) hb); have n5_ := Am (Kd.R_below (by (with_reducible repeat (first | apply Kd.R_alloc | apply Kd.R_drewN | apply Kd.R_drew)); exact HO_249000.out) hb); have n6_ := Am (Kd.S_below (by (with_reducible repeat (first | apply Kd.S_alloc | apply Kd.S_drewN | apply Kd.S_drew)); exact HO_249001.out) hb); have n7_ := Am (Kd.R_below (by (with_reducible repeat (first | apply Kd.R_alloc | apply Kd.R_drewN | apply Kd.R_drew)); exact HO_262000.out) hb); have n8_ := Am (Kd.S_below (by (with_reducible repeat (first | apply Kd.S_alloc | apply Kd.S_drewN | apply Kd.S_drew)); exact HO_262001.out) hb); have n9_ := Am (Kd.R_lower (Kd.R_new' ho0 (Kd.R_lt (by (with_reducible repeat (first | apply Kd.R_alloc | apply Kd.R_drewN | apply Kd.R_drew)); exact HO_13.out))) (below_size (by repeat (first | (with_reducible first | exact HB.out | apply bl | apply pN | apply b1 | refine bs ?_ GE214.out | refine bs ?_ GE215.out | refine bs ?_ GE228.out | refine bs ?_ GE238.out | refine bs ?_ GE248.out | refine bs ?_ GE261.out) | exact HB.out | exact HBo.out)))); have n10_ := Am (blk_below (g := gb214) (o := .cells #[.slice A0_0 l0_0.length c0_0, .slice A0_1 l0_1.length c0_1] 25 (0, 0)) (by (with_reducible repeat (first | refine bn ?_ _ | refine bd ?_ | refine ba ?_ _)); exact BK214.out) hb); have n11_ := Am (blk_below (g := gb215) (o := .cells #[.string a1_0, .slice A1_1 l1_1.length c1_1, .int .i64 a1_2] 28 (0, 0)) (by (with_reducible repeat (first | refine bn ?_ _ | refine bd ?_ | refine ba ?_ _)); exact BK215.out) hb); have n12_ := Am (blk_below (g := gb228) (o := .cells #[.slice Ao48 t221.length co48, .slice Ao52 t224.length co52] 25 (0, 0)) (by (with_reducible repeat (first | refine bn ?_ _ | refine bd ?_ | refine ba ?_ _)); exact BK228.out) hb); have n13_ := Am (blk_below (g := gb238) (o := .cells #[.slice Ao58 t231.length co58, .slice Ao63 t234.length co63] 25 (0, 0)) (by (with_reducible repeat (first | refine bn ?_ _ | refine bd ?_ | refine ba ?_ _)); exact BK238.out) hb); have n14_ := Am (blk_below (g := gb248) (o := .cells #[.slice Ao151 t241.length co151, .slice Ao157 t244.length co157] 25 (0, 0)) (by (with_reducible repeat (first | refine bn ?_ _ | refine bd ?_ | refine ba ?_ _)); exact BK248.out) hb); have n15_ := Am (blk_below (g := gb261) (o := .cells #[.slice Ao163 t254.length co163, .slice Ao170 t257.length co170] 25 (0, 0)) (by (with_reducible repeat (first | refine bn ?_ _ | refine bd ?_ | refine ba ?_ _)); exact BK261.out) hb); have n16_ := Am (below_step (by repeat (first | (with_reducible first | exact HB.out | apply bl | apply pN | apply b1 | refine bs ?_ GE214.out | refine bs ?_ GE215.out | refine bs ?_ GE228.out | refine bs ?_ GE238.out | refine bs ?_ GE248.out | refine bs ?_ GE261.out) | exact HB.out | exact HBo.out)) hb); clear HO_13; clear HO_229000; clear HO_229001; clear HO_239000; clear HO_239001; clear HO_249000; clear HO_249001; clear HO_262000; clear HO_262001; clear BK214; clear BK215; clear BK228; clear BK238; clear BK248; clear BK261; clear HB; have HO_13 := n0_; have HO_229000 := n1_; have HO_229001 := n2_; have HO_239000 := n3_; have HO_239001 := n4_; have HO_249000 := n5_; have HO_249001 := n6_; have HO_262000 := n7_; have HO_262001 := n8_; have HO270 := n9_; have BK214 := n10_; have BK215 := n11_; have BK228 := n12_; have BK238 := n13_; have BK248 := n14_; have BK261 := n15_; have HB := n16_; clear n0_ n1_ n2_ n3_ n4_ n5_ n6_ n7_ n8_ n9_ n10_ n11_ n12_ n13_ n14_ n15_ n16_; (try clear hb); (try clear hb2); (try clear hk); (try clear hi); (try clear ho0); have hnb206 := NB248_215.out; have hnc206 := NB215_248.out; have hnb207 := NB248_228.out; have hnc207 := NB228_248.out; have hnb208 := NB248_238.out; have hnc208 := NB238_248.out; have hnb209 := NB248_261.out; have hnc209 := NB261_248.out; have hcz210_0 : w205.cell? ⟨gb248, 0, none⟩ = some (.slice Ao151 t241.length co151) := (bc BK248.out 0).trans rfl; have hcz210_1 : w205.cell? ⟨gb248, 1, none⟩ = some (.slice Ao157 t244.length co157) := (bc BK248.out 1).trans rfl; have hfz210_0 := bf BK248.out 0; have hfz210_1 := bf BK248.out 1) | ((with_reducible refine gate_callee (f := 17) rfl ?_); refine goesL_ (some 165) rfl rfl Try.func17 (by kernel_rfl) rfl #[.agg #[.slice Ao151 t241.length co151, .slice Ao157 t244.length co157], .int .i64 x22_4] rfl (by (try simp only [List.map_toArray, List.map_cons, List.map_nil]); first | done | rfl | (simp only [List.length_drop, List.length_take]; rfl)) ?_; (with_reducible refine (intern_Frames.calls k4 _ _ t241 _ _ t244 x22_4 t272 t275 _ ?side1 ?side2 ?side3 ?side4 A196.out).mono ?_); (case side1 => repeat (first | exact (Kd.R_reads' HO_249000.out).2.2 | (with_reducible refine Kd.C_alloc ?_ _) | (with_reducible refine Kd.C_drewN ?_ _) | (with_reducible refine Kd.C_drew ?_))); (case side2 => exact (Kd.R_reads' HO_249000.out).2.1); (case side3 => repeat (first | exact (Kd.S_reads' HO_249001.out).2.2 | (with_reducible refine Kd.C_alloc ?_ _) | (with_reducible refine Kd.C_drewN ?_ _) | (with_reducible refine Kd.C_drew ?_))); (case side4 => exact (Kd.S_reads' HO_249001.out).2.1); rintro e w211 ⟨v273, rfl, ho0, hb⟩; refine ⟨_, rfl, ?_⟩; have n0_ := Am (Kd.R_elder' (by (with_reducible repeat (first | apply Kd.R_alloc | apply Kd.R_drewN | apply Kd.R_drew)); exact HO_13.out) (Kd.R_base ho0) hb); have n1_ := Am (Kd.R_below (by (with_reducible repeat (first | apply Kd.R_alloc | apply Kd.R_drewN | apply Kd.R_drew)); exact HO_229000.out) hb); have n2_ := Am (Kd.S_below (by (with_reducible repeat (first | apply Kd.S_alloc | apply Kd.S_drewN | apply Kd.S_drew)); exact HO_229001.out) hb); have n3_ := Am (Kd.R_below (by (with_reducible repeat (first | apply Kd.R_alloc | apply Kd.R_drewN | apply Kd.R_drew)); exact HO_239000.out) hb); have n4_ := Am (Kd.S_below (by (with_reducible repeat (first | apply Kd.S_alloc | apply Kd.S_drewN | apply Kd.S_drew)); exact HO_239001.out) hb); have n5_ := Am (Kd.R_below (by (with_reducible repeat (first | apply Kd.R_alloc | apply Kd.R_drewN | apply Kd.R_drew)); exact HO_249000.out) hb); have n6_ := Am (Kd.S_below (by (with_reducible repeat (first | apply Kd.S_alloc | apply Kd.S_drewN | apply Kd.S_drew)); exact HO_249001.out) hb); have n7_ := Am (Kd.R_below (by (with_reducible repeat (first | apply Kd.R_alloc | apply Kd.R_drewN | apply Kd.R_drew)); exact HO_262000.out) hb); have n8_ := Am (Kd.S_below (by (with_reducible repeat (first | apply Kd.S_alloc | apply Kd.S_drewN | apply Kd.S_drew)); exact HO_262001.out) hb); have n9_ := Am (Kd.R_elder' (by (with_reducible repeat (first | apply Kd.R_alloc | apply Kd.R_drewN | apply Kd.R_drew)); exact HO270.out) (Kd.R_base ho0) hb); have n10_ := Am (Kd.R_lower (Kd.R_new' (Kd.R_new' ho0 (Kd.R_lt (by (with_reducible repeat (first | apply Kd.R_alloc | apply Kd.R_drewN | apply Kd.R_drew)); exact HO_13.out))) (Kd.R_lt (by (with_reducible repeat (first | apply Kd.R_alloc | apply Kd.R_drewN | apply Kd.R_drew)); exact HO270.out))) (below_size (by repeat (first | (with_reducible first | exact HB.out | apply bl | apply pN | apply b1 | refine bs ?_ GE214.out | refine bs ?_ GE215.out | refine bs ?_ GE228.out | refine bs ?_ GE238.out | refine bs ?_ GE248.out | refine bs ?_ GE261.out) | exact HB.out | exact HBo.out)))); have n11_ := Am (blk_below (g := gb214) (o := .cells #[.slice A0_0 l0_0.length c0_0, .slice A0_1 l0_1.length c0_1] 25 (0, 0)) (by (with_reducible repeat (first | refine bn ?_ _ | refine bd ?_ | refine ba ?_ _)); exact BK214.out) hb); have n12_ := Am (blk_below (g := gb215) (o := .cells #[.string a1_0, .slice A1_1 l1_1.length c1_1, .int .i64 a1_2] 28 (0, 0)) (by (with_reducible repeat (first | refine bn ?_ _ | refine bd ?_ | refine ba ?_ _)); exact BK215.out) hb); have n13_ := Am (blk_below (g := gb228) (o := .cells #[.slice Ao48 t221.length co48, .slice Ao52 t224.length co52] 25 (0, 0)) (by (with_reducible repeat (first | refine bn ?_ _ | refine bd ?_ | refine ba ?_ _)); exact BK228.out) hb); have n14_ := Am (blk_below (g := gb238) (o := .cells #[.slice Ao58 t231.length co58, .slice Ao63 t234.length co63] 25 (0, 0)) (by (with_reducible repeat (first | refine bn ?_ _ | refine bd ?_ | refine ba ?_ _)); exact BK238.out) hb); have n15_ := Am (blk_below (g := gb248) (o := .cells #[.slice Ao151 t241.length co151, .slice Ao157 t244.length co157] 25 (0, 0)) (by (with_reducible repeat (first | refine bn ?_ _ | refine bd ?_ | refine ba ?_ _)); exact BK248.out) hb); have n16_ := Am (blk_below (g := gb261) (o := .cells #[.slice Ao163 t254.length co163, .slice Ao170 t257.length co170] 25 (0, 0)) (by (with_reducible repeat (first | refine bn ?_ _ | refine bd ?_ | refine ba ?_ _)); exact BK261.out) hb); have n17_ := Am (below_step (by repeat (first | (with_reducible first | exact HB.out | apply bl | apply pN | apply b1 | refine bs ?_ GE214.out | refine bs ?_ GE215.out | refine bs ?_ GE228.out | refine bs ?_ GE238.out | refine bs ?_ GE248.out | refine bs ?_ GE261.out) | exact HB.out | exact HBo.out)) hb); clear HO_13; clear HO_229000; clear HO_229001; clear HO_239000; clear HO_239001; clear HO_249000; clear HO_249001; clear HO_262000; clear HO_262001; clear HO270; clear BK214; clear BK215; clear BK228; clear BK238; clear BK248; clear BK261; clear HB; have HO_13 := n0_; have HO_229000 := n1_; have HO_229001 := n2_; have HO_239000 := n3_; have HO_239001 := n4_; have HO_249000 := n5_; have HO_249001 := n6_; have HO_262000 := n7_; have HO_262001 := n8_; have HO270 := n9_; have HO274 := n10_; have BK214 := n11_; have BK215 := n12_; have BK228 := n13_; have BK238 := n14_; have BK248 := n15_; have BK261 := n16_; have HB := n17_; clear n0_ n1_ n2_ n3_ n4_ n5_ n6_ n7_ n8_ n9_ n10_ n11_ n12_ n13_ n14_ n15_ n16_ n17_; (try clear hb); (try clear hb2); (try clear hk); (try clear hi); (try clear ho0); obtain ⟨Ao212, co212, eo212⟩ := Kd.R_slice HO270.out; subst eo212; obtain ⟨Ao213, co213, eo213⟩ := Kd.R_slice HO274.out; subst eo213) | ((with_reducible refine gate_callee (f := 22) rfl ?_); refine goesL_ (some 170) rfl rfl Try.func22 (by kernel_rfl) rfl #[.slice Ao212 t268.length co212, .slice Ao213 t272.length co213] rfl (by (try simp only [List.map_toArray, List.map_cons, List.map_nil]); first | done | rfl | (simp only [List.length_drop, List.length_take]; rfl)) ?_; (with_reducible refine (shuttlecockref06_SameFrames.calls k4 _ _ t268 _ _ t272 true _ ?side1 ?side2 ?side3 ?side4 A197.out).mono ?_); (case side1 => repeat (first | exact (Kd.R_reads' HO270.out).2.2 | (with_reducible refine Kd.C_alloc ?_ _) | (with_reducible refine Kd.C_drewN ?_ _) | (with_reducible refine Kd.C_drew ?_))); (case side2 => exact (Kd.R_reads' HO270.out).2.1); (case side3 => repeat (first | exact (Kd.R_reads' HO274.out).2.2 | (with_reducible refine Kd.C_alloc ?_ _) | (with_reducible refine Kd.C_drewN ?_ _) | (with_reducible refine Kd.C_drew ?_))); (case side4 => exact (Kd.R_reads' HO274.out).2.1); rintro e w' ⟨rfl, ⟨nd, rfl⟩⟩; refine ⟨_, rfl, ?_⟩))
               go_roundg k4
               case measure => have := HJ2.out; have := HJ41.out; have := HK3.out; have := HK4.out; omega
               case rel => exact ⟨(wrap64 (x22_4 + 1)), (by first | rfl | (simp; done) | (simp [*]; done)), H', ⟨by have := HJ2.out; have := HJ41.out; have := HK3.out; have := HK4.out; omega⟩, ⟨by (with_reducible repeat (first | apply Kd.R_alloc | apply Kd.R_drewN | apply Kd.R_drew)); exact Kd.R_mono HO_13.out (fun _ hk => trivial)⟩, ⟨by (with_reducible repeat (first | apply Kd.R_alloc | apply Kd.R_drewN | apply Kd.R_drew)); exact HO_229000.out⟩, ⟨by (with_reducible repeat (first | apply Kd.S_alloc | apply Kd.S_drewN | apply Kd.S_drew)); exact HO_229001.out⟩, ⟨by (with_reducible repeat (first | apply Kd.R_alloc | apply Kd.R_drewN | apply Kd.R_drew)); exact HO_239000.out⟩, ⟨by (with_reducible repeat (first | apply Kd.S_alloc | apply Kd.S_drewN | apply Kd.S_drew)); exact HO_239001.out⟩, ⟨by (with_reducible repeat (first | apply Kd.R_alloc | apply Kd.R_drewN | apply Kd.R_drew)); exact HO_249000.out⟩, ⟨by (with_reducible repeat (first | apply Kd.S_alloc | apply Kd.S_drewN | apply Kd.S_drew)); exact HO_249001.out⟩, ⟨by (with_reducible repeat (first | apply Kd.R_alloc | apply Kd.R_drewN | apply Kd.R_drew)); exact HO_262000.out⟩, ⟨by (with_reducible repeat (first | apply Kd.S_alloc | apply Kd.S_drewN | apply Kd.S_drew)); exact HO_262001.out⟩, ⟨by (with_reducible repeat (first | refine bn ?_ _ | refine bd ?_ | refine ba ?_ _)); exact BK214.out⟩, ⟨by (with_reducible repeat (first | refine bn ?_ _ | refine bd ?_ | refine ba ?_ _)); exact BK215.out⟩, ⟨by (with_reducible repeat (first | refine bn ?_ _ | refine bd ?_ | refine ba ?_ _)); exact BK228.out⟩, ⟨by (with_reducible repeat (first | refine bn ?_ _ | refine bd ?_ | refine ba ?_ _)); exact BK238.out⟩, ⟨by (with_reducible repeat (first | refine bn ?_ _ | refine bd ?_ | refine ba ?_ _)); exact BK248.out⟩, ⟨by (with_reducible repeat (first | refine bn ?_ _ | refine bd ?_ | refine ba ?_ _)); exact BK261.out⟩, ⟨by repeat (first | (with_reducible first | exact HB.out | apply bl | apply pN | apply b1 | refine bs ?_ GE214.out | refine bs ?_ GE215.out | refine bs ?_ GE228.out | refine bs ?_ GE238.out | refine bs ?_ GE248.out | refine bs ?_ GE261.out) | exact HB.out | exact HBo.out)⟩⟩
              ·
               replace c198 := Bool.eq_false_iff.mpr c198
               subst c198
               have H1 : (none) = some r := by rw [if_neg (show ¬ (false = true) by decide)] at H; exact H
               clear H
               have H := H1
               clear H1
               exact absurd H (by simp)
             ·
              rw [if_neg c194] at H
              have c194b0 : decide (x22_4 ≤ (l0_1.length : Int)) = false := decide_eq_false c194
              clear c194
              by_cases c214 : t253 = true
              ·
               subst c214
               have H1 : ((shuttlecockref06_SameFrames.f k4 t250 l1_1).bind fun t266 => (if t266 = true then (if t260 = t247 then ((shuttlecockref06_Same.f k4 t241 t244 t254 t257).bind fun t267 => (some t267)) else (none)) else (none))) = some r := by rw [if_pos rfl] at H; exact H
               clear H
               have H := H1
               clear H1
               replace H := ob H
               obtain ⟨t266, A2150, H⟩ := H
               replace H : (if t266 = true then (if t260 = t247 then ((shuttlecockref06_Same.f k4 t241 t244 t254 t257).bind fun t267 => (some t267)) else (none)) else (none)) = some r := H
               have A215 := Am A2150
               clear A2150
               by_cases c216 : t266 = true
               ·
                subst c216
                have H1 : (if t260 = t247 then ((shuttlecockref06_Same.f k4 t241 t244 t254 t257).bind fun t267 => (some t267)) else (none)) = some r := by rw [if_pos rfl] at H; exact H
                clear H
                have H := H1
                clear H1
                by_cases c217 : t260 = t247
                ·
                 rw [if_pos c217] at H
                 have c217b0 : (t260 == t247) = true := beq_iff_eq.mpr c217
                 have c217b1 : (t260 != t247) = false := bne_eq_false_iff_eq.mpr c217
                 clear c217
                 replace H := ob H
                 obtain ⟨t267, A2180, H⟩ := H
                 replace H : (some t267) = some r := H
                 have A218 := Am A2180
                 clear A2180
                 obtain rfl := Option.some.inj H
                 have hnb219 := NB214_215.out
                 have hnc219 := NB215_214.out
                 have hnb220 := NB214_228.out
                 have hnc220 := NB228_214.out
                 have hnb221 := NB214_238.out
                 have hnc221 := NB238_214.out
                 have hnb222 := NB214_248.out
                 have hnc222 := NB248_214.out
                 have hnb223 := NB214_261.out
                 have hnc223 := NB261_214.out
                 have hcz224_0 : wr.cell? ⟨gb214, 0, none⟩ = some (.slice A0_0 l0_0.length c0_0) := (bc BK214.out 0).trans rfl
                 have hcz224_1 : wr.cell? ⟨gb214, 1, none⟩ = some (.slice A0_1 l0_1.length c0_1) := (bc BK214.out 1).trans rfl
                 have hfz224_0 := bf BK214.out 0
                 have hfz224_1 := bf BK214.out 1
                 have hnb225 := NB215_228.out
                 have hnc225 := NB228_215.out
                 have hnb226 := NB215_238.out
                 have hnc226 := NB238_215.out
                 have hnb227 := NB215_248.out
                 have hnc227 := NB248_215.out
                 have hnb228 := NB215_261.out
                 have hnc228 := NB261_215.out
                 have hcz229_0 : wr.cell? ⟨gb215, 0, none⟩ = some (.string a1_0) := (bc BK215.out 0).trans rfl
                 have hcz229_1 : wr.cell? ⟨gb215, 1, none⟩ = some (.slice A1_1 l1_1.length c1_1) := (bc BK215.out 1).trans rfl
                 have hcz229_2 : wr.cell? ⟨gb215, 2, none⟩ = some (.int .i64 a1_2) := (bc BK215.out 2).trans rfl
                 have hfz229_0 := bf BK215.out 0
                 have hfz229_1 := bf BK215.out 1
                 have hfz229_2 := bf BK215.out 2
                 obtain ⟨Ao230, co230, eo230⟩ := Kd.R_slice HO_13.out
                 subst eo230
                 go_wp2_with (first | (go_at_call 22; (with_reducible refine (shuttlecockref06_SameFrames.calls k4 _ _ t250 _ _ l1_1 true _ ?side1 ?side2 ?side3 ?side4 A215.out).mono ?_); (case side1 => repeat (first | exact (Kd.R_reads' HO_13.out).2.2 | (with_reducible refine Kd.C_alloc ?_ _) | (with_reducible refine Kd.C_drewN ?_ _) | (with_reducible refine Kd.C_drew ?_))); (case side2 => exact (Kd.R_reads' HO_13.out).2.1); (case side3 => repeat (first | exact (Kd.C_below HR1_1.out HB.out) | (with_reducible refine Kd.C_alloc ?_ _) | (with_reducible refine Kd.C_drewN ?_ _) | (with_reducible refine Kd.C_drew ?_))); (case side4 => exact HC1_1.out); rintro e w' ⟨rfl, ⟨nd, rfl⟩⟩; have hnb231 := NB248_228.out; have hnc231 := NB228_248.out; have hnb232 := NB248_238.out; have hnc232 := NB238_248.out; have hnb233 := NB248_261.out; have hnc233 := NB261_248.out; have hcz234_0 : wr.cell? ⟨gb248, 0, none⟩ = some (.slice Ao151 t241.length co151) := (bc BK248.out 0).trans rfl; have hcz234_1 : wr.cell? ⟨gb248, 1, none⟩ = some (.slice Ao157 t244.length co157) := (bc BK248.out 1).trans rfl; have hfz234_0 := bf BK248.out 0; have hfz234_1 := bf BK248.out 1; have hnb235 := NB261_228.out; have hnc235 := NB228_261.out; have hnb236 := NB261_238.out; have hnc236 := NB238_261.out; have hcz237_0 : wr.cell? ⟨gb261, 0, none⟩ = some (.slice Ao163 t254.length co163) := (bc BK261.out 0).trans rfl; have hcz237_1 : wr.cell? ⟨gb261, 1, none⟩ = some (.slice Ao170 t257.length co170) := (bc BK261.out 1).trans rfl; have hfz237_0 := bf BK261.out 0; have hfz237_1 := bf BK261.out 1) | (go_at_call 21; (with_reducible refine (shuttlecockref06_Same.calls k4 _ _ t241 _ _ t244 _ _ t254 _ _ t257 t267 _ ?side1 ?side2 ?side3 ?side4 ?side5 ?side6 ?side7 ?side8 A218.out).mono ?_); (case side1 => repeat (first | exact (Kd.R_reads' HO_249000.out).2.2 | (with_reducible refine Kd.C_alloc ?_ _) | (with_reducible refine Kd.C_drewN ?_ _) | (with_reducible refine Kd.C_drew ?_))); (case side2 => exact (Kd.R_reads' HO_249000.out).2.1); (case side3 => repeat (first | exact (Kd.S_reads' HO_249001.out).2.2 | (with_reducible refine Kd.C_alloc ?_ _) | (with_reducible refine Kd.C_drewN ?_ _) | (with_reducible refine Kd.C_drew ?_))); (case side4 => exact (Kd.S_reads' HO_249001.out).2.1); (case side5 => repeat (first | exact (Kd.R_reads' HO_262000.out).2.2 | (with_reducible refine Kd.C_alloc ?_ _) | (with_reducible refine Kd.C_drewN ?_ _) | (with_reducible refine Kd.C_drew ?_))); (case side6 => exact (Kd.R_reads' HO_262000.out).2.1); (case side7 => repeat (first | exact (Kd.S_reads' HO_262001.out).2.2 | (with_reducible refine Kd.C_alloc ?_ _) | (with_reducible refine Kd.C_drewN ?_ _) | (with_reducible refine Kd.C_drew ?_))); (case side8 => exact (Kd.S_reads' HO_262001.out).2.1); rintro e w238 ⟨rfl, hb⟩; have n0_ := Am (Kd.R_below (by (with_reducible repeat (first | apply Kd.R_alloc | apply Kd.R_drewN | apply Kd.R_drew)); exact HO_13.out) hb); have n1_ := Am (Kd.R_below (by (with_reducible repeat (first | apply Kd.R_alloc | apply Kd.R_drewN | apply Kd.R_drew)); exact HO_229000.out) hb); have n2_ := Am (Kd.S_below (by (with_reducible repeat (first | apply Kd.S_alloc | apply Kd.S_drewN | apply Kd.S_drew)); exact HO_229001.out) hb); have n3_ := Am (Kd.R_below (by (with_reducible repeat (first | apply Kd.R_alloc | apply Kd.R_drewN | apply Kd.R_drew)); exact HO_239000.out) hb); have n4_ := Am (Kd.S_below (by (with_reducible repeat (first | apply Kd.S_alloc | apply Kd.S_drewN | apply Kd.S_drew)); exact HO_239001.out) hb); have n5_ := Am (Kd.R_below (by (with_reducible repeat (first | apply Kd.R_alloc | apply Kd.R_drewN | apply Kd.R_drew)); exact HO_249000.out) hb); have n6_ := Am (Kd.S_below (by (with_reducible repeat (first | apply Kd.S_alloc | apply Kd.S_drewN | apply Kd.S_drew)); exact HO_249001.out) hb); have n7_ := Am (Kd.R_below (by (with_reducible repeat (first | apply Kd.R_alloc | apply Kd.R_drewN | apply Kd.R_drew)); exact HO_262000.out) hb); have n8_ := Am (Kd.S_below (by (with_reducible repeat (first | apply Kd.S_alloc | apply Kd.S_drewN | apply Kd.S_drew)); exact HO_262001.out) hb); have n9_ := Am (blk_below (g := gb214) (o := .cells #[.slice A0_0 l0_0.length c0_0, .slice A0_1 l0_1.length c0_1] 25 (0, 0)) (by (with_reducible repeat (first | refine bn ?_ _ | refine bd ?_ | refine ba ?_ _)); exact BK214.out) hb); have n10_ := Am (blk_below (g := gb215) (o := .cells #[.string a1_0, .slice A1_1 l1_1.length c1_1, .int .i64 a1_2] 28 (0, 0)) (by (with_reducible repeat (first | refine bn ?_ _ | refine bd ?_ | refine ba ?_ _)); exact BK215.out) hb); have n11_ := Am (blk_below (g := gb228) (o := .cells #[.slice Ao48 t221.length co48, .slice Ao52 t224.length co52] 25 (0, 0)) (by (with_reducible repeat (first | refine bn ?_ _ | refine bd ?_ | refine ba ?_ _)); exact BK228.out) hb); have n12_ := Am (blk_below (g := gb238) (o := .cells #[.slice Ao58 t231.length co58, .slice Ao63 t234.length co63] 25 (0, 0)) (by (with_reducible repeat (first | refine bn ?_ _ | refine bd ?_ | refine ba ?_ _)); exact BK238.out) hb); have n13_ := Am (blk_below (g := gb248) (o := .cells #[.slice Ao151 t241.length co151, .slice Ao157 t244.length co157] 25 (0, 0)) (by (with_reducible repeat (first | refine bn ?_ _ | refine bd ?_ | refine ba ?_ _)); exact BK248.out) hb); have n14_ := Am (blk_below (g := gb261) (o := .cells #[.slice Ao163 t254.length co163, .slice Ao170 t257.length co170] 25 (0, 0)) (by (with_reducible repeat (first | refine bn ?_ _ | refine bd ?_ | refine ba ?_ _)); exact BK261.out) hb); have n15_ := Am (below_step (by repeat (first | (with_reducible first | exact HB.out | apply bl | apply pN | apply b1 | refine bs ?_ GE214.out | refine bs ?_ GE215.out | refine bs ?_ GE228.out | refine bs ?_ GE238.out | refine bs ?_ GE248.out | refine bs ?_ GE261.out) | exact HB.out | exact HBo.out)) hb); clear HO_13; clear HO_229000; clear HO_229001; clear HO_239000; clear HO_239001; clear HO_249000; clear HO_249001; clear HO_262000; clear HO_262001; clear BK214; clear BK215; clear BK228; clear BK238; clear BK248; clear BK261; clear HB; have HO_13 := n0_; have HO_229000 := n1_; have HO_229001 := n2_; have HO_239000 := n3_; have HO_239001 := n4_; have HO_249000 := n5_; have HO_249001 := n6_; have HO_262000 := n7_; have HO_262001 := n8_; have BK214 := n9_; have BK215 := n10_; have BK228 := n11_; have BK238 := n12_; have BK248 := n13_; have BK261 := n14_; have HB := n15_; clear n0_ n1_ n2_ n3_ n4_ n5_ n6_ n7_ n8_ n9_ n10_ n11_ n12_ n13_ n14_ n15_; (try clear hb); (try clear hb2); (try clear hk); (try clear hi)))
                 go_ret
                 exact ⟨by first | rfl | (simp [errW_none, errW_some] <;> rfl) | (simp [*, errW_none, errW_some] <;> rfl) | (simp [Aid.ne_nil, Aid.eq_nil, errW_none, errW_some]; done), by repeat (first | (with_reducible first | exact HB.out | apply bl | apply pN | apply b1 | refine bs ?_ GE214.out | refine bs ?_ GE215.out | refine bs ?_ GE228.out | refine bs ?_ GE238.out | refine bs ?_ GE248.out | refine bs ?_ GE261.out) | exact HB.out | exact HBo.out)⟩
                ·
                 rw [if_neg c217] at H
                 exact absurd H (by simp)
               ·
                replace c216 := Bool.eq_false_iff.mpr c216
                subst c216
                have H1 : (none) = some r := by rw [if_neg (show ¬ (false = true) by decide)] at H; exact H
                clear H
                have H := H1
                clear H1
                exact absurd H (by simp)
              ·
               replace c214 := Bool.eq_false_iff.mpr c214
               subst c214
               have H1 : (none) = some r := by rw [if_neg (show ¬ (false = true) by decide)] at H; exact H
               clear H
               have H := H1
               clear H1
               exact absurd H (by simp)

/-- THE ONE PURE STATEMENT of shuttlecocklaw06_InternBack (own row). -/
def shuttlecocklaw06_InternBack.Pure : Prop := ∀ (y0 : S25) (y1 : S28), (((∀ e5 ∈ y0.f0, e5.size ≤ 140737488351232) ∧ y0.f0.length ≤ 140737488351232) ∧ ((∀ e5 ∈ y0.f1, ((∀ e3 ∈ e5, ((Lit.int .i64 e3.f0).wf = true ∧ (Lit.int .i64 e3.f1).wf = true)) ∧ e5.length ≤ 140737488351232)) ∧ y0.f1.length ≤ 140737488351232)) → (y1.f0.size ≤ 140737488351232 ∧ ((∀ e5 ∈ y1.f1, (e5.f0.size ≤ 140737488351232 ∧ (Lit.int .i64 e5.f1).wf = true)) ∧ y1.f1.length ≤ 140737488351232) ∧ (Lit.int .i64 y1.f2).wf = true) → ∃ k, shuttlecocklaw06_InternBack.f k y0.f0 y0.f1 y1.f0 y1.f1 y1.f2 = some true

end Go.Proofs.Ytijjfomnidckdaa.Q
