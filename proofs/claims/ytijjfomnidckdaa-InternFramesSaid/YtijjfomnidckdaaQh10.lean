-- printed by a program of this session (NOTES: hprint); not the kit's print
-- minified3
-- minified2
-- minified
-- halved
import Derived.Test.YtijjfomnidckdaaOg
import Derived.Test.YtijjfomnidckdaaAl
import Derived.Test.YtijjfomnidckdaaQx0
import Derived.Test.YtijjfomnidckdaaQx3
import Derived.Test.YtijjfomnidckdaaQx5
import Derived.Test.YtijjfomnidckdaaQx7
import Derived.Test.YtijjfomnidckdaaQx8
import Derived.Test.YtijjfomnidckdaaQx9
namespace Go.Proofs.Ytijjfomnidckdaa.Q
open Go.RowKit Go.Proofs.YtijjfomnidckdaaW.PrintWords Go.Proofs.YtijjfomnidckdaaW.PrintLast Go.Proofs.YtijjfomnidckdaaW.PrintMore
attribute [local go_sem] max2_int min2_int max_two min_two max_three min_three max_four min_four   -- for this text's walks alone
set_option linter.unusedVariables false
set_option linter.unusedSimpArgs false

def q10_0 : Array Bool := let o := true; let z := false; #[z,z,z,z,z,z,z,z,z,z,z,z,z,z]
def q10_1 : Array Bool := let o := true; let z := false; #[z,o,z,z,z,z,z,z,z,z,z,z,z,z]
def q10_2 : Array Bool := let o := true; let z := false; #[z,o,z,o,z,z,z,z,z,z,z,z,z,z]
def q10_3 : Array Bool := let o := true; let z := false; #[o,o,z,o,z,z,z,z,z,z,z,z,z,z]
def q10_4 : Array Bool := let o := true; let z := false; #[o,o,o,o,z,z,z,z,z,z,z,z,z,z]
def q10_5 : Array Bool := let o := true; let z := false; #[o,o,o,o,o,z,z,z,z,z,z,z,z,z]
def q10_6 : Array Bool := let o := true; let z := false; #[o,o,o,o,o,o,z,z,z,z,z,z,z,z]
def q10_7 : Array Bool := let o := true; let z := false; #[o,o,o,o,o,o,o,z,z,z,z,z,z,z]
def q10_8 : Array Bool := let o := true; let z := false; #[o,o,o,o,o,o,o,o,o,o,o,o,z,z]
def q10_9 : Array Bool := let o := true; let z := false; #[o,o,o,o,o,o,o,o,z,z,z,z,z,z]
def q10_10 : Array Bool := let o := true; let z := false; #[o,o,o,o,o,o,o,z,z,z,z,o,z,z]
def q10_11 : Array Bool := let o := true; let z := false; #[o,o,o,o,o,o,o,o,o,z,z,z,z,z]
def q10_12 : Array Bool := let o := true; let z := false; #[o,o,o,o,o,o,o,o,o,o,z,z,z,z]
def q10_13 : Array Bool := let o := true; let z := false; #[o,o,o,o,o,o,o,o,o,o,o,z,z,z]
def q10_14 : Array Bool := let o := true; let z := false; #[o,o,o,o,o,o,o,o,z,z,z,o,z,z]
def q10_15 : Array Bool := let o := true; let z := false; #[o,o,o,o,o,o,o,o,o,z,z,o,z,z]
def q10_16 : Array Bool := let o := true; let z := false; #[o,o,o,o,o,o,o,o,o,o,z,o,z,z]
def q10_17 : Array Bool := let o := true; let z := false; #[o,o,o,o,o,o,o,o,o,o,o,o,o,z]
def q10_18 : Array Bool := let o := true; let z := false; #[o,o,o,o,o,o,o,o,o,o,o,o,o,o]
def q10_19 : Array Bool := let o := true; let z := false; #[z,z,z,z,z,z,z,z,z,z,z,z,z,z,z]
def q10_20 : Array Bool := let o := true; let z := false; #[z,z,o,z,z,z,z,z,z,z,z,z,z,z,z]
def q10_21 : Array Bool := let o := true; let z := false; #[z,z,o,z,z,o,z,z,z,z,z,z,z,z,z]
def q10_22 : Array Bool := let o := true; let z := false; #[o,z,o,z,z,o,z,z,z,z,z,z,z,z,z]
def q10_23 : Array Bool := let o := true; let z := false; #[o,z,o,o,z,o,z,z,z,z,z,z,z,z,z]
def q10_24 : Array Bool := let o := true; let z := false; #[o,o,o,o,o,o,o,o,o,o,o,o,o,z,z]
def q10_25 : Array Bool := let o := true; let z := false; #[o,o,o,o,o,o,o,o,o,o,o,o,z,z,z]
def q10_26 : Array Bool := let o := true; let z := false; #[o,o,o,o,o,o,o,o,z,z,z,z,o,z,z]
def q10_27 : Array Bool := let o := true; let z := false; #[o,o,o,o,o,o,o,o,z,z,z,z,z,z,z]
def q10_28 : Array Bool := let o := true; let z := false; #[o,o,o,o,o,o,o,z,z,z,z,z,o,z,z]
def q10_29 : Array Bool := let o := true; let z := false; #[o,o,o,o,o,o,o,z,z,z,z,z,z,z,z]
def q10_30 : Array Bool := let o := true; let z := false; #[o,o,o,o,o,o,z,z,z,z,z,z,o,z,z]
def q10_31 : Array Bool := let o := true; let z := false; #[o,o,o,o,z,o,o,z,z,z,z,z,o,z,z]
def q10_32 : Array Bool := let o := true; let z := false; #[o,o,o,o,o,o,z,z,z,z,z,z,z,z,z]
def q10_33 : Array Bool := let o := true; let z := false; #[o,o,o,o,z,o,o,z,z,z,z,z,z,z,z]
def q10_34 : Array Bool := let o := true; let z := false; #[o,o,o,o,z,o,z,z,z,z,z,z,o,z,z]
def q10_35 : Array Bool := let o := true; let z := false; #[o,z,o,o,z,o,o,z,z,z,z,z,o,z,z]
def q10_36 : Array Bool := let o := true; let z := false; #[o,o,o,o,z,o,z,z,z,z,z,z,z,z,z]
def q10_37 : Array Bool := let o := true; let z := false; #[o,z,o,o,z,o,o,z,z,z,z,z,z,z,z]
def q10_38 : Array Bool := let o := true; let z := false; #[o,z,o,o,z,o,z,z,z,z,z,z,o,z,z]
def q10_39 : Array Bool := let o := true; let z := false; #[o,o,o,o,o,o,o,o,o,z,z,z,z,z,z]
def q10_40 : Array Bool := let o := true; let z := false; #[o,o,o,o,o,o,o,o,o,o,z,z,z,z,z]
def q10_41 : Array Bool := let o := true; let z := false; #[o,o,o,o,o,o,o,o,o,o,o,z,z,z,z]
def q10_42 : Array Bool := let o := true; let z := false; #[o,o,o,o,o,o,o,o,o,z,z,z,o,z,z]
def q10_43 : Array Bool := let o := true; let z := false; #[o,o,o,o,o,o,o,o,o,o,z,z,o,z,z]
def q10_44 : Array Bool := let o := true; let z := false; #[o,o,o,o,o,o,o,o,o,o,o,z,o,z,z]
def q10_45 : Array Bool := let o := true; let z := false; #[o,o,o,o,o,o,o,o,o,o,o,o,o,o,z]
def q10_46 : Array Bool := let o := true; let z := false; #[o,o,o,o,o,o,o,o,o,o,o,o,o,o,o]
/-! ### shuttlecocklaw06_InternFrames: function 7 -/
mutual
def shuttlecocklaw06_InternFrames.j0 : Nat → Bool → List ByteArray → List (List (S50)) → ByteArray → List (S45) → Int → Option (Bool)
 | 0, _, _, _, _, _, _ => none
 | k + 1, x35, x215000, x215001, x216000, x216001, x216002 => if x35 = true then ((shuttlecocklaw06_fixed.f k).bind fun t220 => (some t220)) else ((intern_Stack.f k x215000 x215001 x216001).bind fun bt221 => (if bt221.2.2 = 0 then (some true) else (shuttlecocklaw06_InternFrames.l0 k bt221.2.2 0 x216000 x216001 x216002 bt221.1 bt221.2.1)))
def shuttlecocklaw06_InternFrames.l0 : Nat → Int → Int → ByteArray → List (S45) → Int → List ByteArray → List (List (S50)) → Option (Bool)
 | 0, _, _, _, _, _, _, _ => none
 | k + 1, x6, x7, x216000, x216001, x216002, x229000, x229001 => if x7 < (x216001.length : Int) then (if 0 ≤ x7 then ((intern_String.f k x229000 x229001 ((rd_T45 x216001 x7).f0)).bind fun bt250 => (if bt250.2.2 < 1 then (none) else ((shuttlecockref06_Same.f k x229000 x229001 bt250.1 bt250.2.1).bind fun t258 => (if t258 = true then (shuttlecocklaw06_InternFrames.l0 k x6 (wrap64 (x7 + 1)) x216000 x216001 x216002 x229000 x229001) else (none))))) else (none)) else ((some (([] : List (S45)) : List (S45))).bind fun y229 => (if y229.length + x216001.length < 5864062014805 then ((some (y229 ++ x216001 : List (S45))).bind fun y232 => ((some (([(⟨(⟨#[109, 111, 114, 101]⟩ : ByteArray), 1⟩ : S45)] : List (S45)) : List (S45))).bind fun y235 => (if y232.length + y235.length < 5864062014805 then ((intern_Stack.f k x229000 x229001 (y232 ++ y235)).bind fun bt241 => (if bt241.2.2 = x6 then (none) else (some (decide (bt241.2.2 > 0))))) else (none)))) else (none)))
end
def shuttlecocklaw06_InternFrames.f (k : Nat) (l0_0 : List ByteArray) (l0_1 : List (List (S50))) (a1_0 : ByteArray) (l1_1 : List (S45)) (a1_2 : Int) : Option (Bool) := (shuttlecocklaw06_fixed.f k).bind fun t216 => (if t216 = true then ((shuttlecockref06_Small.f k l0_0 l0_1).bind fun t217 => (if t217 = true then ((shuttlecockref06_May.f k l0_0 l0_1).bind fun t218 => (if t218 = true then ((shuttlecockref06_Few.f k l1_1).bind fun t219 => (if t219 = true then (shuttlecocklaw06_InternFrames.j0 k (decide ((l1_1.length : Int) > 20)) l0_0 l0_1 a1_0 l1_1 a1_2) else (shuttlecocklaw06_InternFrames.j0 k true l0_0 l0_1 a1_0 l1_1 a1_2))) else (shuttlecocklaw06_InternFrames.j0 k true l0_0 l0_1 a1_0 l1_1 a1_2))) else (shuttlecocklaw06_InternFrames.j0 k true l0_0 l0_1 a1_0 l1_1 a1_2))) else (shuttlecocklaw06_InternFrames.j0 k true l0_0 l0_1 a1_0 l1_1 a1_2))
theorem shuttlecocklaw06_InternFrames.mono_l : ∀ k, (∀ y0 y1 y2 y3 y4 y5, LeO (shuttlecocklaw06_InternFrames.j0 k y0 y1 y2 y3 y4 y5) (shuttlecocklaw06_InternFrames.j0 (k + 1) y0 y1 y2 y3 y4 y5)) ∧ (∀ y0 y1 y2 y3 y4 y5 y6, LeO (shuttlecocklaw06_InternFrames.l0 k y0 y1 y2 y3 y4 y5 y6) (shuttlecocklaw06_InternFrames.l0 (k + 1) y0 y1 y2 y3 y4 y5 y6))
 | 0 => ⟨fun _ _ _ _ _ _ r h => by simp [shuttlecocklaw06_InternFrames.j0] at h, fun _ _ _ _ _ _ _ r h => by simp [shuttlecocklaw06_InternFrames.l0] at h⟩
 | k + 1 => by
  obtain ⟨ih0, ih1⟩ := shuttlecocklaw06_InternFrames.mono_l k
  refine ⟨?_, ?_⟩
  ·
   intro y0 y1 y2 y3 y4 y5
   unfold shuttlecocklaw06_InternFrames.j0
   repeat' first
   | (with_reducible exact ih0 _ _ _ _ _ _)
   | (with_reducible exact ih1 _ _ _ _ _ _ _)
   | (with_reducible exact intern_Stack.mono _ _ _ _)
   | (with_reducible exact intern_String.mono _ _ _ _)
   | (with_reducible exact shuttlecocklaw06_fixed.mono _)
   | (with_reducible exact shuttlecockref06_Few.mono _ _)
   | (with_reducible exact shuttlecockref06_May.mono _ _ _)
   | (with_reducible exact shuttlecockref06_Same.mono _ _ _ _ _)
   | (with_reducible exact shuttlecockref06_Small.mono _ _ _)
   | (with_reducible exact LeO.refl _)
   | (with_reducible exact LeO.none _)
   | (with_reducible refine LeO.ite ?_ ?_)
   | (with_reducible refine LeO.bind ?_ (fun _ => ?_))
   | exact LeO.none _
   | refine LeO.ite ?_ ?_
   | refine LeO.bind ?_ (fun _ => ?_)
  ·
   intro y0 y1 y2 y3 y4 y5 y6
   unfold shuttlecocklaw06_InternFrames.l0
   repeat' first
   | (with_reducible exact ih0 _ _ _ _ _ _)
   | (with_reducible exact ih1 _ _ _ _ _ _ _)
   | (with_reducible exact intern_Stack.mono _ _ _ _)
   | (with_reducible exact intern_String.mono _ _ _ _)
   | (with_reducible exact shuttlecocklaw06_fixed.mono _)
   | (with_reducible exact shuttlecockref06_Few.mono _ _)
   | (with_reducible exact shuttlecockref06_May.mono _ _ _)
   | (with_reducible exact shuttlecockref06_Same.mono _ _ _ _ _)
   | (with_reducible exact shuttlecockref06_Small.mono _ _ _)
   | (with_reducible exact LeO.refl _)
   | (with_reducible exact LeO.none _)
   | (with_reducible refine LeO.ite ?_ ?_)
   | (with_reducible refine LeO.bind ?_ (fun _ => ?_))
   | exact LeO.none _
   | refine LeO.ite ?_ ?_
   | refine LeO.bind ?_ (fun _ => ?_)
theorem shuttlecocklaw06_InternFrames.mono : ∀ a0 a1 a2 a3 a4 k, LeO (shuttlecocklaw06_InternFrames.f k a0 a1 a2 a3 a4) (shuttlecocklaw06_InternFrames.f (k + 1) a0 a1 a2 a3 a4) := by
 intro a0 a1 a2 a3 a4 k
 obtain ⟨ih0, ih1⟩ := shuttlecocklaw06_InternFrames.mono_l k
 unfold shuttlecocklaw06_InternFrames.f
 repeat' first
   | (with_reducible exact ih0 _ _ _ _ _ _)
   | (with_reducible exact ih1 _ _ _ _ _ _ _)
   | (with_reducible exact intern_Stack.mono _ _ _ _)
   | (with_reducible exact intern_String.mono _ _ _ _)
   | (with_reducible exact shuttlecocklaw06_fixed.mono _)
   | (with_reducible exact shuttlecockref06_Few.mono _ _)
   | (with_reducible exact shuttlecockref06_May.mono _ _ _)
   | (with_reducible exact shuttlecockref06_Same.mono _ _ _ _ _)
   | (with_reducible exact shuttlecockref06_Small.mono _ _ _)
   | (with_reducible exact LeO.refl _)
   | (with_reducible exact LeO.none _)
   | (with_reducible refine LeO.ite ?_ ?_)
   | (with_reducible refine LeO.bind ?_ (fun _ => ?_))
   | exact LeO.none _
   | refine LeO.ite ?_ ?_
   | refine LeO.bind ?_ (fun _ => ?_)
def shuttlecocklaw06_InternFrames.T9 : Bool × List (List Nat × List Nat) := (true, [([], []), ([], []), ([1], [1]), ([], []), ([2, 3], [2, 3]), ([4], [4]), ([5], [5]), ([0, 6], [0, 6]), ([7], [7]), ([8], [8]), ([8], [8]), ([], []), ([11, 9, 7, 0, 1, 2, 3, 4, 5, 6, 7, 8, 9, 11], [9, 11]), ([10, 12, 0, 1, 2, 3, 4, 5, 6, 7, 8, 9, 10, 11, 12], [10])])
def shuttlecocklaw06_InternFrames.B9 : List Nat := [0, 0, 2, 0, 14, 30, 62, 127, 255, 511, 511, 0, 3071, 8191]
theorem shuttlecocklaw06_InternFrames.tab9 : rtab .any (opsOf Try.f7 9) = shuttlecocklaw06_InternFrames.T9 := by kernel_rfl
theorem shuttlecocklaw06_InternFrames.bits9 : waitsOk shuttlecocklaw06_InternFrames.T9.2 shuttlecocklaw06_InternFrames.B9 = true := by kernel_rfl
def shuttlecocklaw06_InternFrames.T12 : Bool × List (List Nat × List Nat) := (true, [([], []), ([], []), ([], []), ([2], [2]), ([1, 3], [1, 3]), ([], []), ([5], [5]), ([4, 6, 4], [4, 6]), ([0, 7, 7], [0, 7]), ([8], [8]), ([9], [9]), ([9], [9]), ([], []), ([12, 10, 8, 0, 1, 2, 3, 4, 5, 6, 7, 8, 9, 10, 12], [10, 12]), ([11, 13, 0, 1, 2, 3, 4, 5, 6, 7, 8, 9, 10, 11, 12, 13], [11])])
def shuttlecocklaw06_InternFrames.B12 : List Nat := [0, 0, 0, 4, 14, 0, 32, 126, 255, 511, 1023, 1023, 0, 6143, 16383]
theorem shuttlecocklaw06_InternFrames.tab12 : rtab .any (opsOf Try.f7 12) = shuttlecocklaw06_InternFrames.T12 := by kernel_rfl
theorem shuttlecocklaw06_InternFrames.bits12 : waitsOk shuttlecocklaw06_InternFrames.T12.2 shuttlecocklaw06_InternFrames.B12 = true := by kernel_rfl
theorem rA {α : Type} {d : Kd α} {e base : Nat} {ok : Nat → Prop} {w : World} {v : Value} {xs : List α} (h : d.R e w base ok v xs) (o : Obj) : d.R e (w.alloc o) base ok v xs := Kd.R_alloc h o
theorem rN {α : Type} {d : Kd α} {e base : Nat} {ok : Nat → Prop} {w : World} {v : Value} {xs : List α} (h : d.R e w base ok v xs) (m : Nat) : d.R e (w.drewN m) base ok v xs := Kd.R_drewN h m
theorem rD {α : Type} {d : Kd α} {e base : Nat} {ok : Nat → Prop} {w : World} {v : Value} {xs : List α} (h : d.R e w base ok v xs) : d.R e w.drew base ok v xs := Kd.R_drew h
theorem sA {α : Type} {d : Kd α} {e base : Nat} {ok : Nat → Prop} {w : World} {v : Value} {xs : List α} (h : Kd.S d e w base ok v xs) (o : Obj) : Kd.S d e (w.alloc o) base ok v xs := Kd.S_alloc h o
theorem sN {α : Type} {d : Kd α} {e base : Nat} {ok : Nat → Prop} {w : World} {v : Value} {xs : List α} (h : Kd.S d e w base ok v xs) (m : Nat) : Kd.S d e (w.drewN m) base ok v xs := Kd.S_drewN h m
theorem sD {α : Type} {d : Kd α} {e base : Nat} {ok : Nat → Prop} {w : World} {v : Value} {xs : List α} (h : Kd.S d e w base ok v xs) : Kd.S d e w.drew base ok v xs := Kd.S_drew h
end Go.Proofs.Ytijjfomnidckdaa.Q
