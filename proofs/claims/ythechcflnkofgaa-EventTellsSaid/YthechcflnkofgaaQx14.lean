-- printed by a program of this session (NOTES: hprint); not the kit's print
-- minified
-- halved
import Derived.Test.YthechcflnkofgaaAl
import Derived.Test.YthechcflnkofgaaQx0
import Derived.Test.YthechcflnkofgaaQx1
import Derived.Test.YthechcflnkofgaaQx4
import Derived.Test.YthechcflnkofgaaQx5
import Derived.Test.YthechcflnkofgaaQx7
import Derived.Test.YthechcflnkofgaaQx8
import Derived.Test.YthechcflnkofgaaQx11
import Derived.Test.YthechcflnkofgaaQx12
import Derived.Test.YthechcflnkofgaaQx13
namespace Go.Proofs.Ythechcflnkofgaa.Q
open Go.RowKit Go.Proofs.YthechcflnkofgaaW.PrintWords Go.Proofs.YthechcflnkofgaaW.PrintLast Go.Proofs.YthechcflnkofgaaW.PrintMore
attribute [local go_sem] max2_int min2_int max_two min_two max_three min_three max_four min_four   -- for this text's walks alone
set_option linter.unusedVariables false
set_option linter.unusedSimpArgs false

def q14_0 : Array Bool := let o := true; let z := false; #[z,z,z,z,z,z,z,z,z,z,z,z,z,z,z,z,z,z,z,z,z,z,z,z,z,z,z,z,z,z,z]
def q14_1 : Array Bool := let o := true; let z := false; #[o,z,z,z,z,z,z,z,z,z,z,z,z,z,z,z,z,z,z,z,z,z,z,z,z,z,z,z,z,z,z]
def q14_2 : Array Bool := let o := true; let z := false; #[o,o,z,z,z,z,z,z,z,z,z,z,z,z,z,z,z,z,z,z,z,z,z,z,z,z,z,z,z,z,z]
def q14_3 : Array Bool := let o := true; let z := false; #[o,o,o,z,z,z,z,z,z,z,z,z,z,z,z,z,z,z,z,z,z,z,z,z,z,z,z,z,z,z,z]
def q14_4 : Array Bool := let o := true; let z := false; #[o,o,o,z,o,z,z,z,z,z,z,z,z,z,z,z,z,z,z,z,z,z,z,z,z,z,z,z,z,z,z]
def q14_5 : Array Bool := let o := true; let z := false; #[o,o,o,o,o,z,z,z,z,z,z,z,z,z,z,z,z,z,z,z,z,z,z,z,z,z,z,z,z,z,z]
def q14_6 : Array Bool := let o := true; let z := false; #[o,o,o,o,o,o,z,z,z,z,z,z,z,z,z,z,z,z,z,z,z,z,z,z,z,z,z,z,z,z,z]
def q14_7 : Array Bool := let o := true; let z := false; #[o,o,o,o,o,o,o,z,z,z,z,z,z,z,z,z,z,z,z,z,z,z,z,z,z,z,z,z,z,z,z]
def q14_8 : Array Bool := let o := true; let z := false; #[o,o,o,o,o,o,o,o,z,z,z,z,z,z,z,z,z,z,z,z,z,z,z,z,z,z,z,z,z,z,z]
def q14_9 : Array Bool := let o := true; let z := false; #[o,o,o,o,o,o,o,o,o,z,z,z,z,z,z,z,z,z,z,z,z,z,z,z,z,z,z,z,z,z,z]
def q14_10 : Array Bool := let o := true; let z := false; #[o,o,o,o,o,o,o,o,o,o,z,z,z,z,z,z,z,z,z,z,z,z,z,z,z,z,z,z,z,z,z]
def q14_11 : Array Bool := let o := true; let z := false; #[o,o,o,o,o,o,o,o,o,o,z,o,z,z,z,z,z,z,z,z,z,z,z,z,z,z,z,z,z,z,z]
def q14_12 : Array Bool := let o := true; let z := false; #[o,o,o,o,o,o,o,o,o,o,o,o,z,z,z,z,z,z,z,z,z,z,z,z,z,z,z,z,z,z,z]
def q14_13 : Array Bool := let o := true; let z := false; #[o,o,o,o,o,o,o,o,o,o,o,o,o,z,z,z,z,z,z,z,z,z,z,z,z,z,z,z,z,z,z]
def q14_14 : Array Bool := let o := true; let z := false; #[o,o,o,o,o,o,o,o,o,o,o,o,o,o,z,z,z,z,z,z,z,z,z,z,z,z,z,z,z,z,z]
def q14_15 : Array Bool := let o := true; let z := false; #[o,o,o,o,o,o,o,o,o,o,o,o,o,o,o,z,z,z,z,z,z,z,z,z,z,z,z,z,z,z,z]
def q14_16 : Array Bool := let o := true; let z := false; #[o,o,o,o,o,o,o,o,o,o,o,o,o,o,o,o,z,z,z,z,z,z,z,z,z,z,z,z,z,z,z]
def q14_17 : Array Bool := let o := true; let z := false; #[o,o,o,o,o,o,o,o,o,o,o,o,o,o,o,o,o,z,z,z,z,z,z,z,z,z,z,z,z,z,z]
def q14_18 : Array Bool := let o := true; let z := false; #[o,o,o,o,o,o,o,o,o,o,o,o,o,o,o,o,o,o,z,z,z,z,z,z,z,z,z,z,z,z,z]
def q14_19 : Array Bool := let o := true; let z := false; #[o,o,o,o,o,o,o,o,o,o,o,o,o,o,o,o,o,o,o,z,z,z,z,z,z,z,z,z,z,z,z]
def q14_20 : Array Bool := let o := true; let z := false; #[o,o,o,o,o,o,o,o,o,o,o,o,o,o,o,o,o,o,o,o,z,z,z,z,z,z,z,z,z,z,z]
def q14_21 : Array Bool := let o := true; let z := false; #[o,o,o,o,o,o,o,o,o,o,o,o,o,o,o,o,o,o,o,o,o,z,z,z,z,z,z,z,z,z,z]
def q14_22 : Array Bool := let o := true; let z := false; #[o,o,o,o,o,o,o,o,o,o,o,o,o,o,o,o,o,o,o,o,o,o,z,z,z,z,z,z,z,z,z]
def q14_23 : Array Bool := let o := true; let z := false; #[o,o,o,o,o,o,o,o,o,o,o,o,o,o,o,o,o,o,o,o,o,o,o,z,z,z,z,z,z,z,z]
def q14_24 : Array Bool := let o := true; let z := false; #[o,o,o,o,o,o,o,o,o,o,o,o,o,o,o,o,o,o,o,o,o,o,o,o,z,z,z,z,z,z,z]
def q14_25 : Array Bool := let o := true; let z := false; #[o,o,o,o,o,o,o,o,o,o,o,o,o,o,o,o,o,o,o,o,o,o,o,o,o,z,z,z,z,z,z]
def q14_26 : Array Bool := let o := true; let z := false; #[o,o,o,o,o,o,o,o,o,o,o,o,o,o,o,o,o,o,o,o,o,o,o,o,o,o,z,z,z,z,z]
def q14_27 : Array Bool := let o := true; let z := false; #[o,o,o,o,o,o,o,o,o,o,o,o,o,o,o,o,o,o,o,o,o,o,o,o,o,o,o,z,z,z,z]
def q14_28 : Array Bool := let o := true; let z := false; #[o,o,o,o,o,o,o,o,o,o,o,o,o,o,o,o,o,o,o,o,o,o,o,o,o,o,o,o,z,z,z]
def q14_29 : Array Bool := let o := true; let z := false; #[o,o,o,o,o,o,o,o,o,o,o,o,o,o,o,o,o,o,o,o,o,o,o,o,o,o,o,o,o,z,z]
def q14_30 : Array Bool := let o := true; let z := false; #[o,o,o,o,o,o,o,o,o,o,o,o,o,o,o,o,o,o,o,o,o,o,o,o,o,o,o,o,o,o,z]
def q14_31 : Array Bool := let o := true; let z := false; #[o,o,o,o,o,o,o,o,o,o,o,o,o,o,o,o,o,o,o,o,o,o,o,o,o,o,o,o,o,o,o]
/-! ### shuttlecocklaw04_EventTells: function 3 -/
def shuttlecocklaw04_EventTells.j0 : Nat → ByteArray → Int → Bool → Int → Int → List Int → ByteArray → Option (Bool)
 | 0, _, _, _, _, _, _, _ => none
 | k + 1, x1, x2, x21, x358000, x358001, x358002, x358003 => if x21 = true then ((shuttlecocklaw04_fixed.f k).bind fun t362 => (some t362)) else ((event_Decode.f k x1 x2).bind fun bt363 => ((shuttlecockref04_Decode.f k x1 x2).bind fun bt372 => ((shuttlecocklaw04_fixed.f k).bind fun t381 => (if t381 = true then ((event_May.f x358000 x358001 x358002 x358003).bind fun t382 => ((shuttlecockref04_May.f k x358000 x358001 x358002 x358003).bind fun t383 => (if (t382 == t383) = true then ((event_Encode.f k x358000 x358001 x358002 x358003).bind fun t384 => ((shuttlecockref04_Encode.f k x358000 x358001 x358002 x358003).bind fun t385 => (if t384.toList = t385.toList then ((shuttlecockref04_Same.f k bt363.1 bt363.2.1 bt363.2.2.1 bt363.2.2.2.1 bt372.1 bt372.2.1 bt372.2.2.1 bt372.2.2.2.1).bind fun t386 => (if t386 = true then (if bt363.2.2.2.2.1 = bt372.2.2.2.2.1 then (some (bt363.2.2.2.2.2 == bt372.2.2.2.2.2)) else (none)) else (none))) else (none)))) else (none)))) else (none)))))
def shuttlecocklaw04_EventTells.f (k : Nat) (a0_0 : Int) (a0_1 : Int) (l0_2 : List Int) (a0_3 : ByteArray) (a1 : ByteArray) (a2 : Int) : Option (Bool) := (shuttlecockref04_Short.f k (([(⟨a0_0, a0_1, l0_2, a0_3⟩ : S24)] : List (S24)))).bind fun t361 => (if t361 = true then (shuttlecocklaw04_EventTells.j0 k a1 a2 (decide ((a1.size : Int) > 5000)) a0_0 a0_1 l0_2 a0_3) else (shuttlecocklaw04_EventTells.j0 k a1 a2 true a0_0 a0_1 l0_2 a0_3))
theorem shuttlecocklaw04_EventTells.mono_l : ∀ k, (∀ y0 y1 y2 y3 y4 y5 y6, LeO (shuttlecocklaw04_EventTells.j0 k y0 y1 y2 y3 y4 y5 y6) (shuttlecocklaw04_EventTells.j0 (k + 1) y0 y1 y2 y3 y4 y5 y6))
 | 0 => fun _ _ _ _ _ _ _ r h => by simp [shuttlecocklaw04_EventTells.j0] at h
 | k + 1 => by
  have ih0 := shuttlecocklaw04_EventTells.mono_l k
  ·
   intro y0 y1 y2 y3 y4 y5 y6
   unfold shuttlecocklaw04_EventTells.j0
   repeat' first
   | (with_reducible exact ih0 _ _ _ _ _ _ _)
   | (with_reducible exact event_Decode.mono _ _ _)
   | (with_reducible exact event_Encode.mono _ _ _ _ _)
   | (with_reducible exact shuttlecocklaw04_fixed.mono _)
   | (with_reducible exact shuttlecockref04_Decode.mono _ _ _)
   | (with_reducible exact shuttlecockref04_Encode.mono _ _ _ _ _)
   | (with_reducible exact shuttlecockref04_May.mono _ _ _ _ _)
   | (with_reducible exact shuttlecockref04_Same.mono _ _ _ _ _ _ _ _ _)
   | (with_reducible exact shuttlecockref04_Short.mono _ _)
   | (with_reducible exact LeO.refl _)
   | (with_reducible exact LeO.none _)
   | (with_reducible refine LeO.ite ?_ ?_)
   | (with_reducible refine LeO.bind ?_ (fun _ => ?_))
   | exact ih0 _ _ _ _ _ _ _
   | exact event_Decode.mono _ _ _
   | exact event_Encode.mono _ _ _ _ _
   | exact shuttlecocklaw04_fixed.mono _
   | exact shuttlecockref04_Decode.mono _ _ _
   | exact shuttlecockref04_Encode.mono _ _ _ _ _
   | exact shuttlecockref04_May.mono _ _ _ _ _
   | exact shuttlecockref04_Same.mono _ _ _ _ _ _ _ _ _
   | exact shuttlecockref04_Short.mono _ _
   | exact LeO.none _
   | refine LeO.ite ?_ ?_
   | refine LeO.bind ?_ (fun _ => ?_)
theorem shuttlecocklaw04_EventTells.mono : ∀ a0 a1 a2 a3 a4 a5 k, LeO (shuttlecocklaw04_EventTells.f k a0 a1 a2 a3 a4 a5) (shuttlecocklaw04_EventTells.f (k + 1) a0 a1 a2 a3 a4 a5) := by
 intro a0 a1 a2 a3 a4 a5 k
 have ih0 := shuttlecocklaw04_EventTells.mono_l k
 unfold shuttlecocklaw04_EventTells.f
 repeat' first
   | (with_reducible exact ih0 _ _ _ _ _ _ _)
   | (with_reducible exact event_Decode.mono _ _ _)
   | (with_reducible exact event_Encode.mono _ _ _ _ _)
   | (with_reducible exact shuttlecocklaw04_fixed.mono _)
   | (with_reducible exact shuttlecockref04_Decode.mono _ _ _)
   | (with_reducible exact shuttlecockref04_Encode.mono _ _ _ _ _)
   | (with_reducible exact shuttlecockref04_May.mono _ _ _ _ _)
   | (with_reducible exact shuttlecockref04_Same.mono _ _ _ _ _ _ _ _ _)
   | (with_reducible exact shuttlecockref04_Short.mono _ _)
   | (with_reducible exact LeO.refl _)
   | (with_reducible exact LeO.none _)
   | (with_reducible refine LeO.ite ?_ ?_)
   | (with_reducible refine LeO.bind ?_ (fun _ => ?_))
   | exact ih0 _ _ _ _ _ _ _
   | exact event_Decode.mono _ _ _
   | exact event_Encode.mono _ _ _ _ _
   | exact shuttlecocklaw04_fixed.mono _
   | exact shuttlecockref04_Decode.mono _ _ _
   | exact shuttlecockref04_Encode.mono _ _ _ _ _
   | exact shuttlecockref04_May.mono _ _ _ _ _
   | exact shuttlecockref04_Same.mono _ _ _ _ _ _ _ _ _
   | exact shuttlecockref04_Short.mono _ _
   | exact LeO.none _
   | refine LeO.ite ?_ ?_
   | refine LeO.bind ?_ (fun _ => ?_)
def shuttlecocklaw04_EventTells.T5 : Bool × List (List Nat × List Nat) := (true, [([], []), ([0, 0], [0]), ([1], [1]), ([2, 1, 1], [1, 2]), ([1], [1]), ([4, 3, 1], [1, 4]), ([3, 5, 1], [1, 3, 5]), ([1, 6], [1, 6]), ([7, 5], [7]), ([8], [8]), ([9, 8, 8], [8, 9]), ([8], [8]), ([11, 10, 8], [8, 11]), ([10, 12, 8], [8, 10, 12]), ([8, 13], [8, 13]), ([14, 12], [14]), ([15], [15]), ([15], [15]), ([16, 17, 15, 15], [15, 16, 17]), ([15, 18], [15, 18]), ([19, 18], [19]), ([20], [20]), ([20], [20]), ([21, 22, 20], [20, 21, 22]), ([20, 23], [20, 23]), ([24, 20], [24]), ([25], [25]), ([25], [25]), ([26, 27, 25], [25, 26, 27]), ([25, 28], [25, 28]), ([29, 25, 0, 1, 2, 3, 4, 5, 6, 7, 8, 9, 10, 11, 12, 13, 14, 15, 16, 17, 18, 19, 20, 21, 22, 23, 24, 25, 26, 27, 28, 29], [29])])
def shuttlecocklaw04_EventTells.B5 : List Nat := [0, 1, 3, 7, 3, 31, 63, 127, 255, 511, 1023, 511, 4095, 8191, 16383, 32767, 65535, 65535, 262143, 524287, 1048575, 2097151, 2097151, 8388607, 16777215, 33554431, 67108863, 67108863, 268435455, 536870911, 1073741823]
theorem shuttlecocklaw04_EventTells.tab5 : rtab .any (opsOf Try.f3 5) = shuttlecocklaw04_EventTells.T5 := by kernel_rfl
theorem shuttlecocklaw04_EventTells.bits5 : waitsOk shuttlecocklaw04_EventTells.T5.2 shuttlecocklaw04_EventTells.B5 = true := by kernel_rfl
set_option maxHeartbeats 8000000 in
set_option maxRecDepth 100000 in
theorem shuttlecocklaw04_EventTells.calls (k : Nat) (a0_0 : Int) (a0_1 : Int) (P0_2_ : Nat → Prop) (A0_2 : Option Addr) (c0_2 : Nat) (l0_2 : List Int) (a0_3 : ByteArray) (a1 : ByteArray) (a2 : Int) (r : Bool) (w : World) (hs0_2 : Kd.V (Kd.int .i64) 3 w w.heap.size (fun k_ => P0_2_ k_) (.slice A0_2 l0_2.length c0_2) l0_2) (h : shuttlecocklaw04_EventTells.f k a0_0 a0_1 l0_2 a0_3 a1 a2 = some r) :
  Calls Try.prog 3 #[.agg #[.int .i64 a0_0, .int .i64 a0_1, .slice A0_2 l0_2.length c0_2, .string a0_3], .string a1, .int .i64 a2] w fun e w' => e = .returned (.bool r) ∧ Below w.heap.size w w' := by
 have hu24 := Try.underlying24
 have HO0_2 := Am (show Kd.V (Kd.int .i64) 3 w w.heap.size (fun k_ => (P0_2_ k_ ∨ w.heap.size ≤ k_)) (.slice A0_2 l0_2.length c0_2) l0_2 from Kd.V_mono hs0_2 (fun k_ hk => .inl hk))
 have HB := Am (Below.refl w.heap.size w)
 have H : ((shuttlecockref04_Short.f k (([(⟨a0_0, a0_1, l0_2, a0_3⟩ : S24)] : List (S24)))).bind fun t361 => (if t361 = true then (shuttlecocklaw04_EventTells.j0 k a1 a2 (decide ((a1.size : Int) > 5000)) a0_0 a0_1 l0_2 a0_3) else (shuttlecocklaw04_EventTells.j0 k a1 a2 true a0_0 a0_1 l0_2 a0_3))) = some r := h
 clear h
 have HC4 := Am H
 clear H
 go_enter Try.func3, Try.ntmps3
 go_upto_region 1 with (first | ((with_reducible refine gate_dst (N := 3) rfl ?_); (try (refine gate_guard (by rfl) ?_; dsimp only)); refine box_event ?hg (N := 3) ?hd (cs := #[.int .i64 a0_0, .int .i64 a0_1, .slice A0_2 l0_2.length c0_2, .string a0_3]) (t := 24) ?hr ?_; (case hd => rfl); (case hg => rfl); (case hr => first | (go_simp; done) | (go_simp; rfl)); intro gb357 hg w5 hbox hb; have n0_ := Am (Kd.V_below (Kd.V_elderB (by (with_reducible repeat (first | apply Kd.V_alloc | apply Kd.V_drewN | apply Kd.V_drew)); exact HO0_2.out) gb357 (Nat.le_of_eq hg.symm)) hb); have n1_ := Am (below_step (by repeat (first | (with_reducible first | exact HB.out | apply bl | apply pN | apply b1) | exact HB.out | exact HBo.out)) hb); have n2_ := Am (hbox); have n3_ := Am ((by rw [hg]; exact (below_size (by repeat (first | (with_reducible first | exact HB.out | apply bl | apply pN | apply b1) | exact HB.out | exact HBo.out))) : w.heap.size ≤ gb357)); have n4_ := Am ((by rw [hg]; exact (below_size (by repeat (first | (with_reducible first | exact HB.out | apply bl | apply pN | apply b1) | exact HB.out | exact HBo.out))) : w.heap.size ≤ gb357)); clear HO0_2; clear HB; have HO0_2 := n0_; have HB := n1_; have BK357 := n2_; have GW357 := n3_; have GE357 := n4_; clear n0_ n1_ n2_ n3_ n4_; clear hb hbox hg))
 (try simp only [Act.put, sI, sZ, sS])
 go_cut [21] (fun v21 wc => ∃ (kq : Nat) (x21_3 : Bool), v21 = .bool x21_3 ∧ Aside0 (shuttlecocklaw04_EventTells.j0 kq a1 a2 x21_3 a0_0 a0_1 l0_2 a0_3 = some r) ∧ Aside0 (kq ≤ k) ∧ Aside0 (Kd.V (Kd.int .i64) 3 wc w.heap.size (fun k_ => (P0_2_ k_ ∨ w.heap.size ≤ k_) ∧ k_ ≠ gb357) (.slice A0_2 l0_2.length c0_2) l0_2) ∧ Aside0 (wc.heap[gb357]? = some (.cells #[.int .i64 a0_0, .int .i64 a0_1, (.slice A0_2 l0_2.length c0_2), .string a0_3] 24 (0, 0))) ∧ Aside0 (Below w.heap.size w wc))
 case first =>
  have H := HC4.out
  clear HC4
  obtain ⟨y358, hy358⟩ : ∃ y_ : List (S24), y_ = (([(⟨a0_0, a0_1, l0_2, a0_3⟩ : S24)] : List (S24))) := ⟨_, rfl⟩
  replace H : ((shuttlecockref04_Short.f k y358).bind fun t361 => (if t361 = true then (shuttlecocklaw04_EventTells.j0 k a1 a2 (decide ((a1.size : Int) > 5000)) a0_0 a0_1 l0_2 a0_3) else (shuttlecocklaw04_EventTells.j0 k a1 a2 true a0_0 a0_1 l0_2 a0_3))) = some r := by first | (rw [hy358]; with_reducible exact H) | (have H2_ := (Option.bind_some _ _).symm.trans H; rw [hy358]; with_reducible exact H2_) | (have H2_ := (Option.bind_some _ _).symm.trans H; with_reducible exact H2_) | with_reducible exact H | (rw [hy358]; exact H) | exact H
  have Ny358 := Am hy358
  clear hy358
  replace H := ob H
  obtain ⟨t361, A60, H⟩ := H
  replace H : (if t361 = true then (shuttlecocklaw04_EventTells.j0 k a1 a2 (decide ((a1.size : Int) > 5000)) a0_0 a0_1 l0_2 a0_3) else (shuttlecocklaw04_EventTells.j0 k a1 a2 true a0_0 a0_1 l0_2 a0_3)) = some r := H
  have A6 := Am A60
  clear A60
  by_cases c7 : t361 = true
  ·
   subst c7
   have H1 : (shuttlecocklaw04_EventTells.j0 k a1 a2 (decide ((a1.size : Int) > 5000)) a0_0 a0_1 l0_2 a0_3) = some r := by rw [if_pos rfl] at H; exact H
   clear H
   have H := H1
   clear H1
   have H' := Am H
   clear H
   have hcz8_0 : w5.cell? ⟨gb357, 0, none⟩ = some (.int .i64 a0_0) := (bc BK357.out 0).trans rfl
   have hcz8_1 : w5.cell? ⟨gb357, 1, none⟩ = some (.int .i64 a0_1) := (bc BK357.out 1).trans rfl
   have hcz8_2 : w5.cell? ⟨gb357, 2, none⟩ = some (.slice A0_2 l0_2.length c0_2) := (bc BK357.out 2).trans rfl
   have hcz8_3 : w5.cell? ⟨gb357, 3, none⟩ = some (.string a0_3) := (bc BK357.out 3).trans rfl
   have hfz8_0 := bf BK357.out 0
   have hfz8_1 := bf BK357.out 1
   have hfz8_2 := bf BK357.out 2
   have hfz8_3 := bf BK357.out 3
   go_wp2_with (first | ((with_reducible refine gate_dst (N := 14) rfl ?_); (try (refine gate_guard (by rfl) ?_; dsimp only)); refine Kd.N_lit k24 _ 24 ?hg (N' := 14) ?hd (xs := ([(⟨a0_0, a0_1, l0_2, a0_3⟩ : S24)] : List (S24))) (inner := [.int .i64 a0_0, .int .i64 a0_1, .slice A0_2 l0_2.length c0_2, .string a0_3]) (ok := (fun k_ => (P0_2_ k_ ∨ w.heap.size ≤ k_) ∧ k_ ≠ gb357)) (okp := (fun k_ => (P0_2_ k_ ∨ w.heap.size ≤ k_) ∧ k_ ≠ gb357)) ?hr ?hp (fun _ hk => hk) ((show ∀ k_, w5.heap.size ≤ k_ → (fun k_ => (P0_2_ k_ ∨ w.heap.size ≤ k_) ∧ k_ ≠ gb357) k_ from fun k_ hk => ⟨(.inr (Nat.le_trans (below_size (by repeat (first | (with_reducible first | exact HB.out | apply bl | apply pN | apply b1 | refine bs ?_ GE357.out) | exact HB.out | exact HBo.out))) hk)), Kd.freshB (g := gb357) (o := .cells #[.int .i64 a0_0, .int .i64 a0_1, .slice A0_2 l0_2.length c0_2, .string a0_3] 24 (0, 0)) (by (with_reducible repeat (first | refine bn ?_ _ | refine bd ?_ | refine ba ?_ _)); exact BK357.out) k_ hk⟩) _ (Nat.le_refl _)) (Below.refl _ _) (Nat.le_refl _) (by simp) ?_; (case hd => rfl); (case hg => rfl); (case hr => first | (go_simp; done) | (go_simp; rfl)); (case hp => exact (Reps.c4 (show Kd.FK k24 _ _ (⟨a0_0, a0_1, l0_2, a0_3⟩ : S24) [.int .i64 a0_0, .int .i64 a0_1, .slice A0_2 l0_2.length c0_2, .string a0_3] from (k24_mkF _ _ (⟨a0_0, a0_1, l0_2, a0_3⟩ : S24) (Kd.V_reads' (Kd.V_mono (ok' := (fun k_ => (P0_2_ k_ ∨ w.heap.size ≤ k_) ∧ k_ ≠ gb357)) (HO0_2.out) (fun k_ hk => ⟨hk.1, hk.2⟩))).2.1 (Kd.V_F (Kd.V_mono (ok' := (fun k_ => (P0_2_ k_ ∨ w.heap.size ≤ k_) ∧ k_ ≠ gb357)) (HO0_2.out) (fun k_ hk => ⟨hk.1, hk.2⟩))))) (Reps.none _ _))); intro v359 w9 ho10 hb hg_ hnew_; clear hg_ hnew_; (first | rw [← Ny358.out] at ho10 | (simp only [Int.reduceToNat] at ho10; rw [← Ny358.out] at ho10)); have n0_ := Am (Kd.V_elder' (by (with_reducible repeat (first | apply Kd.V_alloc | apply Kd.V_drewN | apply Kd.V_drew)); exact HO0_2.out) (Kd.N_base ho10) hb); have n1_ := Am (Kd.N_lower ho10 (below_size (by repeat (first | (with_reducible first | exact HB.out | apply bl | apply pN | apply b1 | refine bs ?_ GE357.out) | exact HB.out | exact HBo.out)))); have n2_ := Am (blk_below (g := gb357) (o := .cells #[.int .i64 a0_0, .int .i64 a0_1, .slice A0_2 l0_2.length c0_2, .string a0_3] 24 (0, 0)) (by (with_reducible repeat (first | refine bn ?_ _ | refine bd ?_ | refine ba ?_ _)); exact BK357.out) hb); have n3_ := Am (below_step (by repeat (first | (with_reducible first | exact HB.out | apply bl | apply pN | apply b1 | refine bs ?_ GE357.out) | exact HB.out | exact HBo.out)) hb); clear HO0_2; clear BK357; clear HB; have HO0_2 := n0_; have HO360 := n1_; have BK357 := n2_; have HB := n3_; clear n0_ n1_ n2_ n3_; clear hb ho10; obtain ⟨Ao11, co11, eo11⟩ := Kd.N_slice HO360.out; subst eo11) | ((with_reducible refine gate_callee (f := 8) rfl ?_); refine goesL_ (some 15) rfl rfl Try.func8 (by kernel_rfl) rfl #[.slice Ao11 y358.length co11] rfl (by (try simp only [List.map_toArray, List.map_cons, List.map_nil]); first | done | rfl | (simp only [List.length_drop, List.length_take]; rfl)) ?_; (with_reducible refine (shuttlecockref04_Short.calls k _ _ y358 true _ ?side1 ?side2 A6.out).mono ?_); (case side1 => repeat (first | exact (Kd.N_reads' HO360.out).2.2 | (with_reducible refine Kd.C_alloc ?_ _) | (with_reducible refine Kd.C_drewN ?_ _) | (with_reducible refine Kd.C_drew ?_))); (case side2 => exact (Kd.N_reads' HO360.out).2.1); rintro e w' ⟨rfl, ⟨nd, rfl⟩⟩; refine ⟨_, rfl, ?_⟩))
   go_meet
   case rel => exact ⟨_, (decide ((a1.size : Int) > 5000)), (by first | rfl | (simp; done) | (simp [*]; done)), H', ⟨by first | omega | exact Nat.le_refl _⟩, ⟨by (with_reducible repeat (first | apply Kd.V_alloc | apply Kd.V_drewN | apply Kd.V_drew)); exact Kd.V_mono HO0_2.out (fun _ hk => ⟨hk.1.1, hk.1.2⟩)⟩, ⟨by (with_reducible repeat (first | refine bn ?_ _ | refine bd ?_ | refine ba ?_ _)); exact BK357.out⟩, ⟨by repeat (first | (with_reducible first | exact HB.out | apply bl | apply pN | apply b1 | refine bs ?_ GE357.out) | exact HB.out | exact HBo.out)⟩⟩
  ·
   replace c7 := Bool.eq_false_iff.mpr c7
   subst c7
   have H1 : (shuttlecocklaw04_EventTells.j0 k a1 a2 true a0_0 a0_1 l0_2 a0_3) = some r := by rw [if_neg (show ¬ (false = true) by decide)] at H; exact H
   clear H
   have H := H1
   clear H1
   have H' := Am H
   clear H
   have hcz12_0 : w5.cell? ⟨gb357, 0, none⟩ = some (.int .i64 a0_0) := (bc BK357.out 0).trans rfl
   have hcz12_1 : w5.cell? ⟨gb357, 1, none⟩ = some (.int .i64 a0_1) := (bc BK357.out 1).trans rfl
   have hcz12_2 : w5.cell? ⟨gb357, 2, none⟩ = some (.slice A0_2 l0_2.length c0_2) := (bc BK357.out 2).trans rfl
   have hcz12_3 : w5.cell? ⟨gb357, 3, none⟩ = some (.string a0_3) := (bc BK357.out 3).trans rfl
   have hfz12_0 := bf BK357.out 0
   have hfz12_1 := bf BK357.out 1
   have hfz12_2 := bf BK357.out 2
   have hfz12_3 := bf BK357.out 3
   go_wp2_with (first | ((with_reducible refine gate_dst (N := 14) rfl ?_); (try (refine gate_guard (by rfl) ?_; dsimp only)); refine Kd.N_lit k24 _ 24 ?hg (N' := 14) ?hd (xs := ([(⟨a0_0, a0_1, l0_2, a0_3⟩ : S24)] : List (S24))) (inner := [.int .i64 a0_0, .int .i64 a0_1, .slice A0_2 l0_2.length c0_2, .string a0_3]) (ok := (fun k_ => (P0_2_ k_ ∨ w.heap.size ≤ k_) ∧ k_ ≠ gb357)) (okp := (fun k_ => (P0_2_ k_ ∨ w.heap.size ≤ k_) ∧ k_ ≠ gb357)) ?hr ?hp (fun _ hk => hk) ((show ∀ k_, w5.heap.size ≤ k_ → (fun k_ => (P0_2_ k_ ∨ w.heap.size ≤ k_) ∧ k_ ≠ gb357) k_ from fun k_ hk => ⟨(.inr (Nat.le_trans (below_size (by repeat (first | (with_reducible first | exact HB.out | apply bl | apply pN | apply b1 | refine bs ?_ GE357.out) | exact HB.out | exact HBo.out))) hk)), Kd.freshB (g := gb357) (o := .cells #[.int .i64 a0_0, .int .i64 a0_1, .slice A0_2 l0_2.length c0_2, .string a0_3] 24 (0, 0)) (by (with_reducible repeat (first | refine bn ?_ _ | refine bd ?_ | refine ba ?_ _)); exact BK357.out) k_ hk⟩) _ (Nat.le_refl _)) (Below.refl _ _) (Nat.le_refl _) (by simp) ?_; (case hd => rfl); (case hg => rfl); (case hr => first | (go_simp; done) | (go_simp; rfl)); (case hp => exact (Reps.c4 (show Kd.FK k24 _ _ (⟨a0_0, a0_1, l0_2, a0_3⟩ : S24) [.int .i64 a0_0, .int .i64 a0_1, .slice A0_2 l0_2.length c0_2, .string a0_3] from (k24_mkF _ _ (⟨a0_0, a0_1, l0_2, a0_3⟩ : S24) (Kd.V_reads' (Kd.V_mono (ok' := (fun k_ => (P0_2_ k_ ∨ w.heap.size ≤ k_) ∧ k_ ≠ gb357)) (HO0_2.out) (fun k_ hk => ⟨hk.1, hk.2⟩))).2.1 (Kd.V_F (Kd.V_mono (ok' := (fun k_ => (P0_2_ k_ ∨ w.heap.size ≤ k_) ∧ k_ ≠ gb357)) (HO0_2.out) (fun k_ hk => ⟨hk.1, hk.2⟩))))) (Reps.none _ _))); intro v359 w13 ho14 hb hg_ hnew_; clear hg_ hnew_; (first | rw [← Ny358.out] at ho14 | (simp only [Int.reduceToNat] at ho14; rw [← Ny358.out] at ho14)); have n0_ := Am (Kd.V_elder' (by (with_reducible repeat (first | apply Kd.V_alloc | apply Kd.V_drewN | apply Kd.V_drew)); exact HO0_2.out) (Kd.N_base ho14) hb); have n1_ := Am (Kd.N_lower ho14 (below_size (by repeat (first | (with_reducible first | exact HB.out | apply bl | apply pN | apply b1 | refine bs ?_ GE357.out) | exact HB.out | exact HBo.out)))); have n2_ := Am (blk_below (g := gb357) (o := .cells #[.int .i64 a0_0, .int .i64 a0_1, .slice A0_2 l0_2.length c0_2, .string a0_3] 24 (0, 0)) (by (with_reducible repeat (first | refine bn ?_ _ | refine bd ?_ | refine ba ?_ _)); exact BK357.out) hb); have n3_ := Am (below_step (by repeat (first | (with_reducible first | exact HB.out | apply bl | apply pN | apply b1 | refine bs ?_ GE357.out) | exact HB.out | exact HBo.out)) hb); clear HO0_2; clear BK357; clear HB; have HO0_2 := n0_; have HO360 := n1_; have BK357 := n2_; have HB := n3_; clear n0_ n1_ n2_ n3_; clear hb ho14; obtain ⟨Ao15, co15, eo15⟩ := Kd.N_slice HO360.out; subst eo15) | ((with_reducible refine gate_callee (f := 8) rfl ?_); refine goesL_ (some 15) rfl rfl Try.func8 (by kernel_rfl) rfl #[.slice Ao15 y358.length co15] rfl (by (try simp only [List.map_toArray, List.map_cons, List.map_nil]); first | done | rfl | (simp only [List.length_drop, List.length_take]; rfl)) ?_; (with_reducible refine (shuttlecockref04_Short.calls k _ _ y358 false _ ?side1 ?side2 A6.out).mono ?_); (case side1 => repeat (first | exact (Kd.N_reads' HO360.out).2.2 | (with_reducible refine Kd.C_alloc ?_ _) | (with_reducible refine Kd.C_drewN ?_ _) | (with_reducible refine Kd.C_drew ?_))); (case side2 => exact (Kd.N_reads' HO360.out).2.1); rintro e w' ⟨rfl, ⟨nd, rfl⟩⟩; refine ⟨_, rfl, ?_⟩))
   go_meet
   case rel => exact ⟨_, (true), (by first | rfl | (simp; done) | (simp [*]; done)), H', ⟨by first | omega | exact Nat.le_refl _⟩, ⟨by (with_reducible repeat (first | apply Kd.V_alloc | apply Kd.V_drewN | apply Kd.V_drew)); exact Kd.V_mono HO0_2.out (fun _ hk => ⟨hk.1.1, hk.1.2⟩)⟩, ⟨by (with_reducible repeat (first | refine bn ?_ _ | refine bd ?_ | refine ba ?_ _)); exact BK357.out⟩, ⟨by repeat (first | (with_reducible first | exact HB.out | apply bl | apply pN | apply b1 | refine bs ?_ GE357.out) | exact HB.out | exact HBo.out)⟩⟩
 case rest =>
  clear HC4
  try clear p2
  try clear c3
  try clear c4
  try clear c7
  try clear c8
  try clear hcz12_0
  try clear hcz12_1
  try clear hcz12_2
  try clear hcz12_3
  try clear hcz8_0
  try clear hcz8_1
  try clear hcz8_2
  try clear hcz8_3
  try clear hfz12_0
  try clear hfz12_1
  try clear hfz12_2
  try clear hfz12_3
  try clear hfz8_0
  try clear hfz8_1
  try clear hfz8_2
  try clear hfz8_3
  obtain ⟨kq, x21_3, rfl, HA, HJ3, HO_358002, BK357, HB⟩ := hcut
  cases kq with
  | zero => exact absurd HA.out (by simp [shuttlecocklaw04_EventTells.j0])
  | succ kj3 =>
   have H := HA.out
   clear HA
   simp only [shuttlecocklaw04_EventTells.j0] at H
   by_cases c16 : x21_3 = true
   ·
    subst c16
    have H1 : ((shuttlecocklaw04_fixed.f kj3).bind fun t362 => (some t362)) = some r := by rw [if_pos rfl] at H; exact H
    clear H
    have H := H1
    clear H1
    replace H := ob H
    obtain ⟨t362, A170, H⟩ := H
    replace H : (some t362) = some r := H
    have A17 := Am A170
    clear A170
    obtain rfl := Option.some.inj H
    go_wp2_with (first | ((with_reducible refine gate_callee (f := 9) rfl ?_); refine goesL_ (some 22) rfl rfl Try.func9 (by kernel_rfl) rfl #[] rfl (by (try simp only [List.map_toArray, List.map_cons, List.map_nil]); first | done | rfl | (simp only [List.length_drop, List.length_take]; rfl)) ?_; (with_reducible refine (shuttlecocklaw04_fixed.calls kj3  t362 _ A17.out).mono ?_); rintro e w18 ⟨rfl, hb⟩; refine ⟨_, rfl, ?_⟩; have n0_ := Am (Kd.V_below (by (with_reducible repeat (first | apply Kd.V_alloc | apply Kd.V_drewN | apply Kd.V_drew)); exact HO_358002.out) hb); have n1_ := Am (blk_below (g := gb357) (o := .cells #[.int .i64 a0_0, .int .i64 a0_1, .slice A0_2 l0_2.length c0_2, .string a0_3] 24 (0, 0)) (by (with_reducible repeat (first | refine bn ?_ _ | refine bd ?_ | refine ba ?_ _)); exact BK357.out) hb); have n2_ := Am (below_step (by repeat (first | (with_reducible first | exact HB.out | apply bl | apply pN | apply b1 | refine bs ?_ GE357.out) | exact HB.out | exact HBo.out)) hb); clear HO_358002; clear BK357; clear HB; have HO_358002 := n0_; have BK357 := n1_; have HB := n2_; clear n0_ n1_ n2_; (try clear hb); (try clear hb2); (try clear hk); (try clear hi)))
    go_ret
    exact ⟨by first | rfl | (simp [errW_none, errW_some] <;> rfl) | (simp [*, errW_none, errW_some] <;> rfl) | (simp [Aid.ne_nil, Aid.eq_nil, errW_none, errW_some]; done), by repeat (first | (with_reducible first | exact HB.out | apply bl | apply pN | apply b1 | refine bs ?_ GE357.out) | exact HB.out | exact HBo.out)⟩
   ·
    replace c16 := Bool.eq_false_iff.mpr c16
    subst c16
    have H1 : ((event_Decode.f kj3 a1 a2).bind fun bt363 => ((shuttlecockref04_Decode.f kj3 a1 a2).bind fun bt372 => ((shuttlecocklaw04_fixed.f kj3).bind fun t381 => (if t381 = true then ((event_May.f a0_0 a0_1 l0_2 a0_3).bind fun t382 => ((shuttlecockref04_May.f kj3 a0_0 a0_1 l0_2 a0_3).bind fun t383 => (if (t382 == t383) = true then ((event_Encode.f kj3 a0_0 a0_1 l0_2 a0_3).bind fun t384 => ((shuttlecockref04_Encode.f kj3 a0_0 a0_1 l0_2 a0_3).bind fun t385 => (if t384.toList = t385.toList then ((shuttlecockref04_Same.f kj3 bt363.1 bt363.2.1 bt363.2.2.1 bt363.2.2.2.1 bt372.1 bt372.2.1 bt372.2.2.1 bt372.2.2.2.1).bind fun t386 => (if t386 = true then (if bt363.2.2.2.2.1 = bt372.2.2.2.2.1 then (some (bt363.2.2.2.2.2 == bt372.2.2.2.2.2)) else (none)) else (none))) else (none)))) else (none)))) else (none))))) = some r := by rw [if_neg (show ¬ (false = true) by decide)] at H; exact H
    clear H
    have H := H1
    clear H1
    replace H := ob H
    obtain ⟨⟨t363, t364, t365, t368, t369, t370⟩, A190, H⟩ := H
    replace H : ((shuttlecockref04_Decode.f kj3 a1 a2).bind fun bt372 => ((shuttlecocklaw04_fixed.f kj3).bind fun t381 => (if t381 = true then ((event_May.f a0_0 a0_1 l0_2 a0_3).bind fun t382 => ((shuttlecockref04_May.f kj3 a0_0 a0_1 l0_2 a0_3).bind fun t383 => (if (t382 == t383) = true then ((event_Encode.f kj3 a0_0 a0_1 l0_2 a0_3).bind fun t384 => ((shuttlecockref04_Encode.f kj3 a0_0 a0_1 l0_2 a0_3).bind fun t385 => (if t384.toList = t385.toList then ((shuttlecockref04_Same.f kj3 t363 t364 t365 t368 bt372.1 bt372.2.1 bt372.2.2.1 bt372.2.2.2.1).bind fun t386 => (if t386 = true then (if t369 = bt372.2.2.2.2.1 then (some (t370 == bt372.2.2.2.2.2)) else (none)) else (none))) else (none)))) else (none)))) else (none)))) = some r := H
    have A19 := Am A190
    clear A190
    replace H := ob H
    obtain ⟨⟨t372, t373, t374, t377, t378, t379⟩, A200, H⟩ := H
    replace H : ((shuttlecocklaw04_fixed.f kj3).bind fun t381 => (if t381 = true then ((event_May.f a0_0 a0_1 l0_2 a0_3).bind fun t382 => ((shuttlecockref04_May.f kj3 a0_0 a0_1 l0_2 a0_3).bind fun t383 => (if (t382 == t383) = true then ((event_Encode.f kj3 a0_0 a0_1 l0_2 a0_3).bind fun t384 => ((shuttlecockref04_Encode.f kj3 a0_0 a0_1 l0_2 a0_3).bind fun t385 => (if t384.toList = t385.toList then ((shuttlecockref04_Same.f kj3 t363 t364 t365 t368 t372 t373 t374 t377).bind fun t386 => (if t386 = true then (if t369 = t378 then (some (t370 == t379)) else (none)) else (none))) else (none)))) else (none)))) else (none))) = some r := H
    have A20 := Am A200
    clear A200
    replace H := ob H
    obtain ⟨t381, A210, H⟩ := H
    replace H : (if t381 = true then ((event_May.f a0_0 a0_1 l0_2 a0_3).bind fun t382 => ((shuttlecockref04_May.f kj3 a0_0 a0_1 l0_2 a0_3).bind fun t383 => (if (t382 == t383) = true then ((event_Encode.f kj3 a0_0 a0_1 l0_2 a0_3).bind fun t384 => ((shuttlecockref04_Encode.f kj3 a0_0 a0_1 l0_2 a0_3).bind fun t385 => (if t384.toList = t385.toList then ((shuttlecockref04_Same.f kj3 t363 t364 t365 t368 t372 t373 t374 t377).bind fun t386 => (if t386 = true then (if t369 = t378 then (some (t370 == t379)) else (none)) else (none))) else (none)))) else (none)))) else (none)) = some r := H
    have A21 := Am A210
    clear A210
    by_cases c22 : t381 = true
    ·
     subst c22
     have H1 : ((event_May.f a0_0 a0_1 l0_2 a0_3).bind fun t382 => ((shuttlecockref04_May.f kj3 a0_0 a0_1 l0_2 a0_3).bind fun t383 => (if (t382 == t383) = true then ((event_Encode.f kj3 a0_0 a0_1 l0_2 a0_3).bind fun t384 => ((shuttlecockref04_Encode.f kj3 a0_0 a0_1 l0_2 a0_3).bind fun t385 => (if t384.toList = t385.toList then ((shuttlecockref04_Same.f kj3 t363 t364 t365 t368 t372 t373 t374 t377).bind fun t386 => (if t386 = true then (if t369 = t378 then (some (t370 == t379)) else (none)) else (none))) else (none)))) else (none)))) = some r := by rw [if_pos rfl] at H; exact H
     clear H
     have H := H1
     clear H1
     replace H := ob H
     obtain ⟨t382, A230, H⟩ := H
     replace H : ((shuttlecockref04_May.f kj3 a0_0 a0_1 l0_2 a0_3).bind fun t383 => (if (t382 == t383) = true then ((event_Encode.f kj3 a0_0 a0_1 l0_2 a0_3).bind fun t384 => ((shuttlecockref04_Encode.f kj3 a0_0 a0_1 l0_2 a0_3).bind fun t385 => (if t384.toList = t385.toList then ((shuttlecockref04_Same.f kj3 t363 t364 t365 t368 t372 t373 t374 t377).bind fun t386 => (if t386 = true then (if t369 = t378 then (some (t370 == t379)) else (none)) else (none))) else (none)))) else (none))) = some r := H
     have A23 := Am A230
     clear A230
     replace H := ob H
     obtain ⟨t383, A240, H⟩ := H
     replace H : (if (t382 == t383) = true then ((event_Encode.f kj3 a0_0 a0_1 l0_2 a0_3).bind fun t384 => ((shuttlecockref04_Encode.f kj3 a0_0 a0_1 l0_2 a0_3).bind fun t385 => (if t384.toList = t385.toList then ((shuttlecockref04_Same.f kj3 t363 t364 t365 t368 t372 t373 t374 t377).bind fun t386 => (if t386 = true then (if t369 = t378 then (some (t370 == t379)) else (none)) else (none))) else (none)))) else (none)) = some r := H
     have A24 := Am A240
     clear A240
     by_cases c25 : (t382 == t383) = true
     ·
      rw [if_pos c25] at H
      have c25b0 : (t382 == t383) = true := c25
      (try (have c25b1 : decide (t382 = t383) = true := by simpa using c25))
      (try (have c25b2 : (t382 == t383) = true := by simpa using c25))
      clear c25
      replace H := ob H
      obtain ⟨t384, A260, H⟩ := H
      replace H : ((shuttlecockref04_Encode.f kj3 a0_0 a0_1 l0_2 a0_3).bind fun t385 => (if t384.toList = t385.toList then ((shuttlecockref04_Same.f kj3 t363 t364 t365 t368 t372 t373 t374 t377).bind fun t386 => (if t386 = true then (if t369 = t378 then (some (t370 == t379)) else (none)) else (none))) else (none))) = some r := H
      have A26 := Am A260
      clear A260
      replace H := ob H
      obtain ⟨t385, A270, H⟩ := H
      replace H : (if t384.toList = t385.toList then ((shuttlecockref04_Same.f kj3 t363 t364 t365 t368 t372 t373 t374 t377).bind fun t386 => (if t386 = true then (if t369 = t378 then (some (t370 == t379)) else (none)) else (none))) else (none)) = some r := H
      have A27 := Am A270
      clear A270
      by_cases c28 : t384.toList = t385.toList
      ·
       rw [if_pos c28] at H
       have c28b0 : (t384.toList == t385.toList) = true := beq_iff_eq.mpr c28
       have c28b1 : (t384.toList != t385.toList) = false := bne_eq_false_iff_eq.mpr c28
       clear c28
       replace H := ob H
       obtain ⟨t386, A290, H⟩ := H
       replace H : (if t386 = true then (if t369 = t378 then (some (t370 == t379)) else (none)) else (none)) = some r := H
       have A29 := Am A290
       clear A290
       by_cases c30 : t386 = true
       ·
        subst c30
        have H1 : (if t369 = t378 then (some (t370 == t379)) else (none)) = some r := by rw [if_pos rfl] at H; exact H
        clear H
        have H := H1
        clear H1
        by_cases c31 : t369 = t378
        ·
         rw [if_pos c31] at H
         have c31b0 : (t369 == t378) = true := beq_iff_eq.mpr c31
         have c31b1 : (t369 != t378) = false := bne_eq_false_iff_eq.mpr c31
         clear c31
         obtain rfl := Option.some.inj H
         try go_wp2_with (first | ((with_reducible refine gate_callee (f := 10) rfl ?_); refine goesL_ (some 26) rfl rfl Try.func10 (by kernel_rfl) rfl #[.string a1, .int .i64 a2] rfl (by (try simp only [List.map_toArray, List.map_cons, List.map_nil]); first | done | rfl | (simp only [List.length_drop, List.length_take]; rfl)) ?_; (with_reducible refine (event_Decode.calls kj3 a1 a2 t363 t364 t365 t368 t369 t370 _ A19.out).mono ?_); rintro e w32 ⟨v366, rfl, ho0, hb⟩; refine ⟨_, rfl, ?_⟩; have n0_ := Am (Kd.V_elder' (by (with_reducible repeat (first | apply Kd.V_alloc | apply Kd.V_drewN | apply Kd.V_drew)); exact HO_358002.out) (Kd.R_base ho0) hb); have n1_ := Am (Kd.R_lower (Kd.R_newM (M := fun k_ => (w.heap.size ≤ k_)) ho0 (below_size (by repeat (first | (with_reducible first | exact HB.out | apply bl | apply pN | apply b1 | refine bs ?_ GE357.out) | exact HB.out | exact HBo.out))) (fun k_ h_ => h_)) (below_size (by repeat (first | (with_reducible first | exact HB.out | apply bl | apply pN | apply b1 | refine bs ?_ GE357.out) | exact HB.out | exact HBo.out)))); have n2_ := Am (blk_below (g := gb357) (o := .cells #[.int .i64 a0_0, .int .i64 a0_1, .slice A0_2 l0_2.length c0_2, .string a0_3] 24 (0, 0)) (by (with_reducible repeat (first | refine bn ?_ _ | refine bd ?_ | refine ba ?_ _)); exact BK357.out) hb); have n3_ := Am (below_step (by repeat (first | (with_reducible first | exact HB.out | apply bl | apply pN | apply b1 | refine bs ?_ GE357.out) | exact HB.out | exact HBo.out)) hb); clear HO_358002; clear BK357; clear HB; have HO_358002 := n0_; have HO367 := n1_; have BK357 := n2_; have HB := n3_; clear n0_ n1_ n2_ n3_; (try clear hb); (try clear hb2); (try clear hk); (try clear hi); (try clear ho0)) | ((with_reducible refine gate_dst (N := 7) rfl ?_); (try (refine gate_guard (by rfl) ?_; dsimp only)); refine box_event ?hg (N := 7) ?hd (cs := #[.int .i64 0, .int .i64 0, .slice none 0 0, .string (⟨#[]⟩ : ByteArray)]) (t := 24) ?hr ?_; (case hd => rfl); (case hg => rfl); (case hr => first | (go_simp; done) | (go_simp; rfl)); intro gb371 hg w33 hbox hb; have n0_ := Am (Kd.V_below (Kd.V_elderB (by (with_reducible repeat (first | apply Kd.V_alloc | apply Kd.V_drewN | apply Kd.V_drew)); exact HO_358002.out) gb371 (Nat.le_of_eq hg.symm)) hb); have n1_ := Am (Kd.R_below (by (with_reducible repeat (first | apply Kd.R_alloc | apply Kd.R_drewN | apply Kd.R_drew)); exact HO367.out) hb); have n2_ := Am (blk_below (g := gb357) (o := .cells #[.int .i64 a0_0, .int .i64 a0_1, .slice A0_2 l0_2.length c0_2, .string a0_3] 24 (0, 0)) (by (with_reducible repeat (first | refine bn ?_ _ | refine bd ?_ | refine ba ?_ _)); exact BK357.out) hb); have n3_ := Am (below_step (by repeat (first | (with_reducible first | exact HB.out | apply bl | apply pN | apply b1 | refine bs ?_ GE357.out) | exact HB.out | exact HBo.out)) hb); have n4_ := Am (hbox); have n5_ := Am ((by rw [hg]; exact (below_size (by repeat (first | (with_reducible first | exact HB.out | apply bl | apply pN | apply b1 | refine bs ?_ GE357.out) | exact HB.out | exact HBo.out))) : w.heap.size ≤ gb371)); have n6_ := Am ((by rw [hg]; exact (below_size (by repeat (first | (with_reducible first | exact HB.out | apply bl | apply pN | apply b1 | refine bs ?_ GE357.out) | exact HB.out | exact HBo.out))) : w.heap.size ≤ gb371)); have n7_ := Am ((by rw [hg]; exact Nat.ne_of_lt (blk_lt (g := gb357) (o := .cells #[.int .i64 a0_0, .int .i64 a0_1, .slice A0_2 l0_2.length c0_2, .string a0_3] 24 (0, 0)) (by (with_reducible repeat (first | refine bn ?_ _ | refine bd ?_ | refine ba ?_ _)); exact BK357.out)) : gb357 ≠ gb371)); have n8_ := Am ((by rw [hg]; exact Nat.ne_of_gt (blk_lt (g := gb357) (o := .cells #[.int .i64 a0_0, .int .i64 a0_1, .slice A0_2 l0_2.length c0_2, .string a0_3] 24 (0, 0)) (by (with_reducible repeat (first | refine bn ?_ _ | refine bd ?_ | refine ba ?_ _)); exact BK357.out)) : gb371 ≠ gb357)); clear HO_358002; clear HO367; clear BK357; clear HB; have HO_358002 := n0_; have HO367 := n1_; have BK357 := n2_; have HB := n3_; have BK371 := n4_; have GW371 := n5_; have GE371 := n6_; have NB357_371 := n7_; have NB371_357 := n8_; clear n0_ n1_ n2_ n3_ n4_ n5_ n6_ n7_ n8_; clear hb hbox hg; have hnb34 := NB371_357.out; have hnc34 := NB357_371.out; have hcz35_0 : w33.cell? ⟨gb371, 0, none⟩ = some (.int .i64 0) := (bc BK371.out 0).trans rfl; have hcz35_1 : w33.cell? ⟨gb371, 1, none⟩ = some (.int .i64 0) := (bc BK371.out 1).trans rfl; have hcz35_2 : w33.cell? ⟨gb371, 2, none⟩ = some (.slice none 0 0) := (bc BK371.out 2).trans rfl; have hcz35_3 : w33.cell? ⟨gb371, 3, none⟩ = some (.string (⟨#[]⟩ : ByteArray)) := (bc BK371.out 3).trans rfl; have hfz35_0 := bf BK371.out 0; have hfz35_1 := bf BK371.out 1; have hfz35_2 := bf BK371.out 2; have hfz35_3 := bf BK371.out 3; obtain ⟨Ao36, co36, eo36⟩ := Kd.R_slice HO367.out; subst eo36) | ((with_reducible refine gate_callee (f := 11) rfl ?_); refine goesL_ (some 33) rfl rfl Try.func11 (by kernel_rfl) rfl #[.string a1, .int .i64 a2] rfl (by (try simp only [List.map_toArray, List.map_cons, List.map_nil]); first | done | rfl | (simp only [List.length_drop, List.length_take]; rfl)) ?_; (with_reducible refine (shuttlecockref04_Decode.calls kj3 a1 a2 t372 t373 t374 t377 t378 t379 _ A20.out).mono ?_); rintro e w37 ⟨v375, rfl, ho0, hb⟩; refine ⟨_, rfl, ?_⟩; have n0_ := Am (Kd.V_elder' (by (with_reducible repeat (first | apply Kd.V_alloc | apply Kd.V_drewN | apply Kd.V_drew)); exact (Kd.V_mono (Kd.V_far (p := ⟨gb371, 3, none⟩) (Kd.V_far (p := ⟨gb371, 2, none⟩) (Kd.V_far (p := ⟨gb371, 1, none⟩) (Kd.V_far (p := ⟨gb371, 0, none⟩) (Kd.V_mono HO_358002.out (fun k_ hk => (⟨hk, hk.2⟩ : _ ∧ k_ ≠ gb371))) (fun _ hk => hk.2) (.int .i64 t363)) (fun _ hk => hk.2) (.int .i64 t364)) (fun _ hk => hk.2) (.slice Ao36 t365.length co36)) (fun _ hk => hk.2) (.string t368)) (fun _ h_ => h_.1))) (Kd.R_base ho0) hb); have n1_ := Am (Kd.R_elder' (by (with_reducible repeat (first | apply Kd.R_alloc | apply Kd.R_drewN | apply Kd.R_drew)); exact (Kd.R_mono (Kd.R_far (p := ⟨gb371, 3, none⟩) (Kd.R_far (p := ⟨gb371, 2, none⟩) (Kd.R_far (p := ⟨gb371, 1, none⟩) (Kd.R_far (p := ⟨gb371, 0, none⟩) (Kd.R_types HO367.out BK371.out (by decide)) (fun _ hk => hk.2) (.int .i64 t363)) (fun _ hk => hk.2) (.int .i64 t364)) (fun _ hk => hk.2) (.slice Ao36 t365.length co36)) (fun _ hk => hk.2) (.string t368)) (fun _ h_ => h_.1))) (Kd.R_base ho0) hb); have n2_ := Am (Kd.R_lower (Kd.R_new' (Kd.R_newM (M := fun k_ => (w.heap.size ≤ k_)) ho0 (below_size (by repeat (first | (with_reducible first | exact HB.out | apply bl | apply pN | apply b1 | refine bs ?_ GE357.out | refine bs ?_ GE371.out) | exact HB.out | exact HBo.out))) (fun k_ h_ => h_)) (Kd.R_lt (by (with_reducible repeat (first | apply Kd.R_alloc | apply Kd.R_drewN | apply Kd.R_drew)); exact (Kd.R_mono (Kd.R_far (p := ⟨gb371, 3, none⟩) (Kd.R_far (p := ⟨gb371, 2, none⟩) (Kd.R_far (p := ⟨gb371, 1, none⟩) (Kd.R_far (p := ⟨gb371, 0, none⟩) (Kd.R_types HO367.out BK371.out (by decide)) (fun _ hk => hk.2) (.int .i64 t363)) (fun _ hk => hk.2) (.int .i64 t364)) (fun _ hk => hk.2) (.slice Ao36 t365.length co36)) (fun _ hk => hk.2) (.string t368)) (fun _ h_ => h_.1))))) (below_size (by repeat (first | (with_reducible first | exact HB.out | apply bl | apply pN | apply b1 | refine bs ?_ GE357.out | refine bs ?_ GE371.out) | exact HB.out | exact HBo.out)))); have n3_ := Am (blk_below (g := gb357) (o := .cells #[.int .i64 a0_0, .int .i64 a0_1, .slice A0_2 l0_2.length c0_2, .string a0_3] 24 (0, 0)) (by (with_reducible repeat (first | refine bn ?_ _ | refine bd ?_ | refine ba ?_ _)); refine blk_far ?_ NB357_371.out _; (with_reducible repeat (first | refine bn ?_ _ | refine bd ?_ | refine ba ?_ _)); refine blk_far ?_ NB357_371.out _; (with_reducible repeat (first | refine bn ?_ _ | refine bd ?_ | refine ba ?_ _)); refine blk_far ?_ NB357_371.out _; (with_reducible repeat (first | refine bn ?_ _ | refine bd ?_ | refine ba ?_ _)); refine blk_far ?_ NB357_371.out _; (with_reducible repeat (first | refine bn ?_ _ | refine bd ?_ | refine ba ?_ _)); exact BK357.out) hb); have n4_ := Am (blk_below (g := gb371) (o := .cells #[.int .i64 t363, .int .i64 t364, .slice Ao36 t365.length co36, .string t368] 24 (0, 0)) (by (with_reducible repeat (first | refine bn ?_ _ | refine bd ?_ | refine ba ?_ _)); refine blk_put (cs := #[.int .i64 t363, .int .i64 t364, .slice Ao36 t365.length co36, .string (⟨#[]⟩ : ByteArray)]) ?_ 3 _ rfl; (with_reducible repeat (first | refine bn ?_ _ | refine bd ?_ | refine ba ?_ _)); refine blk_put (cs := #[.int .i64 t363, .int .i64 t364, .slice none 0 0, .string (⟨#[]⟩ : ByteArray)]) ?_ 2 _ rfl; (with_reducible repeat (first | refine bn ?_ _ | refine bd ?_ | refine ba ?_ _)); refine blk_put (cs := #[.int .i64 t363, .int .i64 0, .slice none 0 0, .string (⟨#[]⟩ : ByteArray)]) ?_ 1 _ rfl; (with_reducible repeat (first | refine bn ?_ _ | refine bd ?_ | refine ba ?_ _)); refine blk_put (cs := #[.int .i64 0, .int .i64 0, .slice none 0 0, .string (⟨#[]⟩ : ByteArray)]) ?_ 0 _ rfl; (with_reducible repeat (first | refine bn ?_ _ | refine bd ?_ | refine ba ?_ _)); exact BK371.out) hb); have n5_ := Am (below_step (by repeat (first | (with_reducible first | exact HB.out | apply bl | apply pN | apply b1 | refine bs ?_ GE357.out | refine bs ?_ GE371.out) | exact HB.out | exact HBo.out)) hb); clear HO_358002; clear HO367; clear BK357; clear BK371; clear HB; have HO_358002 := n0_; have HO367 := n1_; have HO376 := n2_; have BK357 := n3_; have BK371 := n4_; have HB := n5_; clear n0_ n1_ n2_ n3_ n4_ n5_; (try clear hb); (try clear hb2); (try clear hk); (try clear hi); (try clear ho0)) | ((with_reducible refine gate_dst (N := 10) rfl ?_); (try (refine gate_guard (by rfl) ?_; dsimp only)); refine box_event ?hg (N := 10) ?hd (cs := #[.int .i64 0, .int .i64 0, .slice none 0 0, .string (⟨#[]⟩ : ByteArray)]) (t := 24) ?hr ?_; (case hd => rfl); (case hg => rfl); (case hr => first | (go_simp; done) | (go_simp; rfl)); intro gb380 hg w38 hbox hb; have n0_ := Am (Kd.V_below (Kd.V_elderB (by (with_reducible repeat (first | apply Kd.V_alloc | apply Kd.V_drewN | apply Kd.V_drew)); exact HO_358002.out) gb380 (Nat.le_of_eq hg.symm)) hb); have n1_ := Am (Kd.R_below (by (with_reducible repeat (first | apply Kd.R_alloc | apply Kd.R_drewN | apply Kd.R_drew)); exact HO367.out) hb); have n2_ := Am (Kd.R_below (by (with_reducible repeat (first | apply Kd.R_alloc | apply Kd.R_drewN | apply Kd.R_drew)); exact HO376.out) hb); have n3_ := Am (blk_below (g := gb357) (o := .cells #[.int .i64 a0_0, .int .i64 a0_1, .slice A0_2 l0_2.length c0_2, .string a0_3] 24 (0, 0)) (by (with_reducible repeat (first | refine bn ?_ _ | refine bd ?_ | refine ba ?_ _)); exact BK357.out) hb); have n4_ := Am (blk_below (g := gb371) (o := .cells #[.int .i64 t363, .int .i64 t364, .slice Ao36 t365.length co36, .string t368] 24 (0, 0)) (by (with_reducible repeat (first | refine bn ?_ _ | refine bd ?_ | refine ba ?_ _)); exact BK371.out) hb); have n5_ := Am (below_step (by repeat (first | (with_reducible first | exact HB.out | apply bl | apply pN | apply b1 | refine bs ?_ GE357.out | refine bs ?_ GE371.out) | exact HB.out | exact HBo.out)) hb); have n6_ := Am (hbox); have n7_ := Am ((by rw [hg]; exact (below_size (by repeat (first | (with_reducible first | exact HB.out | apply bl | apply pN | apply b1 | refine bs ?_ GE357.out | refine bs ?_ GE371.out) | exact HB.out | exact HBo.out))) : w.heap.size ≤ gb380)); have n8_ := Am ((by rw [hg]; exact (below_size (by repeat (first | (with_reducible first | exact HB.out | apply bl | apply pN | apply b1 | refine bs ?_ GE357.out | refine bs ?_ GE371.out) | exact HB.out | exact HBo.out))) : w.heap.size ≤ gb380)); have n9_ := Am ((by rw [hg]; exact Nat.ne_of_lt (blk_lt (g := gb357) (o := .cells #[.int .i64 a0_0, .int .i64 a0_1, .slice A0_2 l0_2.length c0_2, .string a0_3] 24 (0, 0)) (by (with_reducible repeat (first | refine bn ?_ _ | refine bd ?_ | refine ba ?_ _)); exact BK357.out)) : gb357 ≠ gb380)); have n10_ := Am ((by rw [hg]; exact Nat.ne_of_gt (blk_lt (g := gb357) (o := .cells #[.int .i64 a0_0, .int .i64 a0_1, .slice A0_2 l0_2.length c0_2, .string a0_3] 24 (0, 0)) (by (with_reducible repeat (first | refine bn ?_ _ | refine bd ?_ | refine ba ?_ _)); exact BK357.out)) : gb380 ≠ gb357)); have n11_ := Am ((by rw [hg]; exact Nat.ne_of_lt (blk_lt (g := gb371) (o := .cells #[.int .i64 t363, .int .i64 t364, .slice Ao36 t365.length co36, .string t368] 24 (0, 0)) (by (with_reducible repeat (first | refine bn ?_ _ | refine bd ?_ | refine ba ?_ _)); exact BK371.out)) : gb371 ≠ gb380)); have n12_ := Am ((by rw [hg]; exact Nat.ne_of_gt (blk_lt (g := gb371) (o := .cells #[.int .i64 t363, .int .i64 t364, .slice Ao36 t365.length co36, .string t368] 24 (0, 0)) (by (with_reducible repeat (first | refine bn ?_ _ | refine bd ?_ | refine ba ?_ _)); exact BK371.out)) : gb380 ≠ gb371)); clear HO_358002; clear HO367; clear HO376; clear BK357; clear BK371; clear HB; have HO_358002 := n0_; have HO367 := n1_; have HO376 := n2_; have BK357 := n3_; have BK371 := n4_; have HB := n5_; have BK380 := n6_; have GW380 := n7_; have GE380 := n8_; have NB357_380 := n9_; have NB380_357 := n10_; have NB371_380 := n11_; have NB380_371 := n12_; clear n0_ n1_ n2_ n3_ n4_ n5_ n6_ n7_ n8_ n9_ n10_ n11_ n12_; clear hb hbox hg; have hnb39 := NB380_357.out; have hnc39 := NB357_380.out; have hnb40 := NB380_371.out; have hnc40 := NB371_380.out; have hcz41_0 : w38.cell? ⟨gb380, 0, none⟩ = some (.int .i64 0) := (bc BK380.out 0).trans rfl; have hcz41_1 : w38.cell? ⟨gb380, 1, none⟩ = some (.int .i64 0) := (bc BK380.out 1).trans rfl; have hcz41_2 : w38.cell? ⟨gb380, 2, none⟩ = some (.slice none 0 0) := (bc BK380.out 2).trans rfl; have hcz41_3 : w38.cell? ⟨gb380, 3, none⟩ = some (.string (⟨#[]⟩ : ByteArray)) := (bc BK380.out 3).trans rfl; have hfz41_0 := bf BK380.out 0; have hfz41_1 := bf BK380.out 1; have hfz41_2 := bf BK380.out 2; have hfz41_3 := bf BK380.out 3; obtain ⟨Ao42, co42, eo42⟩ := Kd.R_slice HO376.out; subst eo42))
         have n0_ : Aside0 (Kd.V (Kd.int .i64) 3 ((((w38.setCell ⟨gb380, 0, none⟩ (.int .i64 t372)).setCell ⟨gb380, 1, none⟩ (.int .i64 t373)).setCell ⟨gb380, 2, none⟩ (.slice Ao42 t374.length co42)).setCell ⟨gb380, 3, none⟩ (.string t377)) w.heap.size (fun k_ => (P0_2_ k_ ∨ w.heap.size ≤ k_) ∧ some k_ ≠ (.slice Ao36 t365.length co36 : Value).ownBlock ∧ some k_ ≠ (.slice Ao42 t374.length co42 : Value).ownBlock ∧ k_ ≠ gb357 ∧ k_ ≠ gb371 ∧ k_ ≠ gb380) (.slice A0_2 l0_2.length c0_2) l0_2) := ⟨by (with_reducible repeat (first | apply Kd.V_alloc | apply Kd.V_drewN | apply Kd.V_drew)); exact Kd.V_mono (Kd.V_far (p := ⟨gb380, 3, none⟩) (Kd.V_far (p := ⟨gb380, 2, none⟩) (Kd.V_far (p := ⟨gb380, 1, none⟩) (Kd.V_far (p := ⟨gb380, 0, none⟩) (Kd.V_mono HO_358002.out (fun k_ hk => (⟨hk, hk.2⟩ : _ ∧ k_ ≠ gb380))) (fun _ hk => hk.2) (.int .i64 t372)) (fun _ hk => hk.2) (.int .i64 t373)) (fun _ hk => hk.2) (.slice Ao42 t374.length co42)) (fun _ hk => hk.2) (.string t377)) (fun _ hk => ⟨hk.1.1.1.1.1.1, ⟨hk.1.1.1.1.2, ⟨hk.1.1.2, ⟨hk.1.1.1.1.1.2, ⟨hk.1.1.1.2, hk.1.2⟩⟩⟩⟩⟩)⟩
         have n1_ : Aside0 (Kd.R (Kd.int .i64) 3 ((((w38.setCell ⟨gb380, 0, none⟩ (.int .i64 t372)).setCell ⟨gb380, 1, none⟩ (.int .i64 t373)).setCell ⟨gb380, 2, none⟩ (.slice Ao42 t374.length co42)).setCell ⟨gb380, 3, none⟩ (.string t377)) w.heap.size (fun k_ => (w.heap.size ≤ k_) ∧ some k_ ≠ (.slice Ao42 t374.length co42 : Value).ownBlock) (.slice Ao36 t365.length co36) t365) := ⟨by (with_reducible repeat (first | apply Kd.R_alloc | apply Kd.R_drewN | apply Kd.R_drew)); exact Kd.R_mono (Kd.R_far (p := ⟨gb380, 3, none⟩) (Kd.R_far (p := ⟨gb380, 2, none⟩) (Kd.R_far (p := ⟨gb380, 1, none⟩) (Kd.R_far (p := ⟨gb380, 0, none⟩) (Kd.R_types HO367.out BK380.out (by decide)) (fun _ hk => hk.2) (.int .i64 t372)) (fun _ hk => hk.2) (.int .i64 t373)) (fun _ hk => hk.2) (.slice Ao42 t374.length co42)) (fun _ hk => hk.2) (.string t377)) (fun _ hk => ⟨hk.1.1.1, hk.1.2⟩)⟩
         have n2_ : Aside0 (Kd.R (Kd.int .i64) 3 ((((w38.setCell ⟨gb380, 0, none⟩ (.int .i64 t372)).setCell ⟨gb380, 1, none⟩ (.int .i64 t373)).setCell ⟨gb380, 2, none⟩ (.slice Ao42 t374.length co42)).setCell ⟨gb380, 3, none⟩ (.string t377)) w.heap.size (fun k_ => (w.heap.size ≤ k_) ∧ some k_ ≠ (.slice Ao36 t365.length co36 : Value).ownBlock) (.slice Ao42 t374.length co42) t374) := ⟨by (with_reducible repeat (first | apply Kd.R_alloc | apply Kd.R_drewN | apply Kd.R_drew)); exact Kd.R_mono (Kd.R_far (p := ⟨gb380, 3, none⟩) (Kd.R_far (p := ⟨gb380, 2, none⟩) (Kd.R_far (p := ⟨gb380, 1, none⟩) (Kd.R_far (p := ⟨gb380, 0, none⟩) (Kd.R_types HO376.out BK380.out (by decide)) (fun _ hk => hk.2) (.int .i64 t372)) (fun _ hk => hk.2) (.int .i64 t373)) (fun _ hk => hk.2) (.slice Ao42 t374.length co42)) (fun _ hk => hk.2) (.string t377)) (fun _ hk => ⟨hk.1.1.1, hk.1.2⟩)⟩
         have n3_ : Aside0 (((((w38.setCell ⟨gb380, 0, none⟩ (.int .i64 t372)).setCell ⟨gb380, 1, none⟩ (.int .i64 t373)).setCell ⟨gb380, 2, none⟩ (.slice Ao42 t374.length co42)).setCell ⟨gb380, 3, none⟩ (.string t377)).heap[gb357]? = some (.cells #[.int .i64 a0_0, .int .i64 a0_1, .slice A0_2 l0_2.length c0_2, .string a0_3] 24 (0, 0))) := ⟨by (with_reducible repeat (first | refine bn ?_ _ | refine bd ?_ | refine ba ?_ _)); refine blk_far ?_ NB357_380.out _; (with_reducible repeat (first | refine bn ?_ _ | refine bd ?_ | refine ba ?_ _)); refine blk_far ?_ NB357_380.out _; (with_reducible repeat (first | refine bn ?_ _ | refine bd ?_ | refine ba ?_ _)); refine blk_far ?_ NB357_380.out _; (with_reducible repeat (first | refine bn ?_ _ | refine bd ?_ | refine ba ?_ _)); refine blk_far ?_ NB357_380.out _; (with_reducible repeat (first | refine bn ?_ _ | refine bd ?_ | refine ba ?_ _)); exact BK357.out⟩
         have n4_ : Aside0 (((((w38.setCell ⟨gb380, 0, none⟩ (.int .i64 t372)).setCell ⟨gb380, 1, none⟩ (.int .i64 t373)).setCell ⟨gb380, 2, none⟩ (.slice Ao42 t374.length co42)).setCell ⟨gb380, 3, none⟩ (.string t377)).heap[gb371]? = some (.cells #[.int .i64 t363, .int .i64 t364, .slice Ao36 t365.length co36, .string t368] 24 (0, 0))) := ⟨by (with_reducible repeat (first | refine bn ?_ _ | refine bd ?_ | refine ba ?_ _)); refine blk_far ?_ NB371_380.out _; (with_reducible repeat (first | refine bn ?_ _ | refine bd ?_ | refine ba ?_ _)); refine blk_far ?_ NB371_380.out _; (with_reducible repeat (first | refine bn ?_ _ | refine bd ?_ | refine ba ?_ _)); refine blk_far ?_ NB371_380.out _; (with_reducible repeat (first | refine bn ?_ _ | refine bd ?_ | refine ba ?_ _)); refine blk_far ?_ NB371_380.out _; (with_reducible repeat (first | refine bn ?_ _ | refine bd ?_ | refine ba ?_ _)); exact BK371.out⟩
         have n5_ : Aside0 (((((w38.setCell ⟨gb380, 0, none⟩ (.int .i64 t372)).setCell ⟨gb380, 1, none⟩ (.int .i64 t373)).setCell ⟨gb380, 2, none⟩ (.slice Ao42 t374.length co42)).setCell ⟨gb380, 3, none⟩ (.string t377)).heap[gb380]? = some (.cells #[.int .i64 t372, .int .i64 t373, .slice Ao42 t374.length co42, .string t377] 24 (0, 0))) := ⟨by (with_reducible repeat (first | refine bn ?_ _ | refine bd ?_ | refine ba ?_ _)); refine blk_put (cs := #[.int .i64 t372, .int .i64 t373, .slice Ao42 t374.length co42, .string (⟨#[]⟩ : ByteArray)]) ?_ 3 _ rfl; (with_reducible repeat (first | refine bn ?_ _ | refine bd ?_ | refine ba ?_ _)); refine blk_put (cs := #[.int .i64 t372, .int .i64 t373, .slice none 0 0, .string (⟨#[]⟩ : ByteArray)]) ?_ 2 _ rfl; (with_reducible repeat (first | refine bn ?_ _ | refine bd ?_ | refine ba ?_ _)); refine blk_put (cs := #[.int .i64 t372, .int .i64 0, .slice none 0 0, .string (⟨#[]⟩ : ByteArray)]) ?_ 1 _ rfl; (with_reducible repeat (first | refine bn ?_ _ | refine bd ?_ | refine ba ?_ _)); refine blk_put (cs := #[.int .i64 0, .int .i64 0, .slice none 0 0, .string (⟨#[]⟩ : ByteArray)]) ?_ 0 _ rfl; (with_reducible repeat (first | refine bn ?_ _ | refine bd ?_ | refine ba ?_ _)); exact BK380.out⟩
         have n6_ : Aside0 (Below w.heap.size w ((((w38.setCell ⟨gb380, 0, none⟩ (.int .i64 t372)).setCell ⟨gb380, 1, none⟩ (.int .i64 t373)).setCell ⟨gb380, 2, none⟩ (.slice Ao42 t374.length co42)).setCell ⟨gb380, 3, none⟩ (.string t377))) := ⟨by repeat (first | (with_reducible first | exact HB.out | apply bl | apply pN | apply b1 | refine bs ?_ GE357.out | refine bs ?_ GE371.out | refine bs ?_ GE380.out) | exact HB.out | exact HBo.out)⟩
         (try clear HO_358002)
         (try clear HO367)
         (try clear HO376)
         (try clear BK357)
         (try clear BK371)
         (try clear BK380)
         (try clear HB)
         generalize ((((w38.setCell ⟨gb380, 0, none⟩ (.int .i64 t372)).setCell ⟨gb380, 1, none⟩ (.int .i64 t373)).setCell ⟨gb380, 2, none⟩ (.slice Ao42 t374.length co42)).setCell ⟨gb380, 3, none⟩ (.string t377)) = w43 at n0_ n1_ n2_ n3_ n4_ n5_ n6_ ⊢
         have HO_358002 := n0_
         have HO367 := n1_
         have HO376 := n2_
         have BK357 := n3_
         have BK371 := n4_
         have BK380 := n5_
         have HB := n6_
         clear n0_ n1_ n2_ n3_ n4_ n5_ n6_
         have n0_ := Am (Kd.V_drew HO_358002.out)
         have n1_ := Am (Kd.R_drew HO367.out)
         have n2_ := Am (Kd.R_drew HO376.out)
         have n3_ := Am (bd BK357.out)
         have n4_ := Am (bd BK371.out)
         have n5_ := Am (bd BK380.out)
         have n6_ := Am (b1 HB.out)
         clear HO_358002
         clear HO367
         clear HO376
         clear BK357
         clear BK371
         clear BK380
         clear HB
         have HO_358002 := n0_
         have HO367 := n1_
         have HO376 := n2_
         have BK357 := n3_
         have BK371 := n4_
         have BK380 := n5_
         have HB := n6_
         clear n0_ n1_ n2_ n3_ n4_ n5_ n6_
         refine start_ (n := 31) (S := fun w' => w'.cell? ⟨gb357, 0, none⟩ = some (.int .i64 a0_0) ∧ w'.cell? ⟨gb357, 1, none⟩ = some (.int .i64 a0_1) ∧ w'.cell? ⟨gb357, 2, none⟩ = some (.slice A0_2 l0_2.length c0_2) ∧ w'.cell? ⟨gb357, 3, none⟩ = some (.string a0_3) ∧ w'.cell? ⟨gb371, 0, none⟩ = some (.int .i64 t363) ∧ w'.cell? ⟨gb371, 1, none⟩ = some (.int .i64 t364) ∧ w'.cell? ⟨gb371, 2, none⟩ = some (.slice Ao36 t365.length co36) ∧ w'.cell? ⟨gb371, 3, none⟩ = some (.string t368) ∧ w'.cell? ⟨gb380, 0, none⟩ = some (.int .i64 t372) ∧ w'.cell? ⟨gb380, 1, none⟩ = some (.int .i64 t373) ∧ w'.cell? ⟨gb380, 2, none⟩ = some (.slice Ao42 t374.length co42) ∧ w'.cell? ⟨gb380, 3, none⟩ = some (.string t377)) (ds := []) q14_0 (by kernel_rfl) rfl rfl ⟨(bc BK357.out 0).trans rfl, (bc BK357.out 1).trans rfl, (bc BK357.out 2).trans rfl, (bc BK357.out 3).trans rfl, (bc BK371.out 0).trans rfl, (bc BK371.out 1).trans rfl, (bc BK371.out 2).trans rfl, (bc BK371.out 3).trans rfl, (bc BK380.out 0).trans rfl, (bc BK380.out 1).trans rfl, (bc BK380.out 2).trans rfl, (bc BK380.out 3).trans rfl⟩ (fun hHeld => ?_); refine with_tabW shuttlecocklaw04_EventTells.tab5 shuttlecocklaw04_EventTells.bits5 (fun HT_ HW_ => ?_)
         generalize w43.drew = w44 at HO_358002 HO367 HO376 BK357 BK371 BK380 HB hHeld ⊢
         refine one_ (i := 0) (N := some 37) q14_1 rfl rfl (one_of HT_.out (by kernel_rfl)) (by decide) (fun K hK => ?_)
         refine goes_ Try.func9 (by kernel_rfl) rfl #[] (by rfl) rfl rfl (by (try simp only [List.map_toArray, List.map_cons, List.map_nil]); first | done | rfl | (simp only [List.length_drop, List.length_take]; rfl)) ?_
         with_reducible refine (shuttlecocklaw04_fixed.calls kj3  true _ A21.out).mono ?_
         rintro e w45 ⟨rfl, hb⟩
         refine ⟨_, rfl, ?_⟩
         have n0_ := Am (Kd.V_below (by (with_reducible repeat (first | apply Kd.V_alloc | apply Kd.V_drewN | apply Kd.V_drew)); exact HO_358002.out) hb)
         have n1_ := Am (Kd.R_below (by (with_reducible repeat (first | apply Kd.R_alloc | apply Kd.R_drewN | apply Kd.R_drew)); exact HO367.out) hb)
         have n2_ := Am (Kd.R_below (by (with_reducible repeat (first | apply Kd.R_alloc | apply Kd.R_drewN | apply Kd.R_drew)); exact HO376.out) hb)
         have n3_ := Am (blk_below (g := gb357) (o := .cells #[.int .i64 a0_0, .int .i64 a0_1, .slice A0_2 l0_2.length c0_2, .string a0_3] 24 (0, 0)) (by (with_reducible repeat (first | refine bn ?_ _ | refine bd ?_ | refine ba ?_ _)); exact BK357.out) hb)
         have n4_ := Am (blk_below (g := gb371) (o := .cells #[.int .i64 t363, .int .i64 t364, .slice Ao36 t365.length co36, .string t368] 24 (0, 0)) (by (with_reducible repeat (first | refine bn ?_ _ | refine bd ?_ | refine ba ?_ _)); exact BK371.out) hb)
         have n5_ := Am (blk_below (g := gb380) (o := .cells #[.int .i64 t372, .int .i64 t373, .slice Ao42 t374.length co42, .string t377] 24 (0, 0)) (by (with_reducible repeat (first | refine bn ?_ _ | refine bd ?_ | refine ba ?_ _)); exact BK380.out) hb)
         have n6_ := Am (below_step (by repeat (first | (with_reducible first | exact HB.out | apply bl | apply pN | apply b1 | refine bs ?_ GE357.out | refine bs ?_ GE371.out | refine bs ?_ GE380.out) | exact HB.out | exact HBo.out)) hb)
         clear HO_358002
         clear HO367
         clear HO376
         clear BK357
         clear BK371
         clear BK380
         clear HB
         have HO_358002 := n0_
         have HO367 := n1_
         have HO376 := n2_
         have BK357 := n3_
         have BK371 := n4_
         have BK380 := n5_
         have HB := n6_
         clear n0_ n1_ n2_ n3_ n4_ n5_ n6_
         (try clear hb)
         (try clear hb2)
         (try clear hk)
         (try clear hi)
         refine hK.out _ _ ⟨(bc BK357.out 0).trans rfl, (bc BK357.out 1).trans rfl, (bc BK357.out 2).trans rfl, (bc BK357.out 3).trans rfl, (bc BK371.out 0).trans rfl, (bc BK371.out 1).trans rfl, (bc BK371.out 2).trans rfl, (bc BK371.out 3).trans rfl, (bc BK380.out 0).trans rfl, (bc BK380.out 1).trans rfl, (bc BK380.out 2).trans rfl, (bc BK380.out 3).trans rfl⟩ (fun hHeld => ?_)
         clear hK K
         refine norm_ (a' := ?_) ?_ ?_
         rotate_left
         ·
          show Act.put _ (some 37) _ = _
          simp only [Act.put, sI, sZ, sS, i64_w, i32_w]
          rfl
         refine Own.pr_ 1 (some 38) q14_2 HT_ (h := ?_)
         refine Own.tk_ 2 (some 39) q14_3 HT_ HW_ hHeld (hy := by rintro w' ⟨s0, s1, s2, s3, s4, s5, s6, s7, s8, s9, s10, s11⟩; go_simp; with_reducible rfl) (h := ?_)
         refine Own.tk_ 4 (some 41) q14_4 HT_ HW_ hHeld (hy := by rintro w' ⟨s0, s1, s2, s3, s4, s5, s6, s7, s8, s9, s10, s11⟩; go_simp; with_reducible rfl) (h := ?_)
         refine one_ (i := 3) (N := some 40) q14_5 rfl rfl (one_of HT_.out (by kernel_rfl)) (by decide) (fun K hK => ?_)
         refine goes_ Try.func12 (by kernel_rfl) rfl #[.agg #[.int .i64 a0_0, .int .i64 a0_1, .slice A0_2 l0_2.length c0_2, .string a0_3]] (by rfl) rfl rfl (by (try simp only [List.map_toArray, List.map_cons, List.map_nil]); first | done | rfl | (simp only [List.length_drop, List.length_take]; rfl)) ?_
         with_reducible refine (event_May.calls a0_0 a0_1 _ _ l0_2 a0_3 t382 _ ?side1 ?side2 A23.out).mono ?_
         (case side1 => repeat (first | exact (Kd.V_reads' HO_358002.out).2.2 | (with_reducible refine Kd.C_alloc ?_ _) | (with_reducible refine Kd.C_drewN ?_ _) | (with_reducible refine Kd.C_drew ?_)))
         (case side2 => exact (Kd.V_reads' HO_358002.out).2.1)
         rintro e w46 ⟨rfl, hb⟩
         refine ⟨_, rfl, ?_⟩
         have n0_ := Am (Kd.V_below (by (with_reducible repeat (first | apply Kd.V_alloc | apply Kd.V_drewN | apply Kd.V_drew)); exact HO_358002.out) hb)
         have n1_ := Am (Kd.R_below (by (with_reducible repeat (first | apply Kd.R_alloc | apply Kd.R_drewN | apply Kd.R_drew)); exact HO367.out) hb)
         have n2_ := Am (Kd.R_below (by (with_reducible repeat (first | apply Kd.R_alloc | apply Kd.R_drewN | apply Kd.R_drew)); exact HO376.out) hb)
         have n3_ := Am (blk_below (g := gb357) (o := .cells #[.int .i64 a0_0, .int .i64 a0_1, .slice A0_2 l0_2.length c0_2, .string a0_3] 24 (0, 0)) (by (with_reducible repeat (first | refine bn ?_ _ | refine bd ?_ | refine ba ?_ _)); exact BK357.out) hb)
         have n4_ := Am (blk_below (g := gb371) (o := .cells #[.int .i64 t363, .int .i64 t364, .slice Ao36 t365.length co36, .string t368] 24 (0, 0)) (by (with_reducible repeat (first | refine bn ?_ _ | refine bd ?_ | refine ba ?_ _)); exact BK371.out) hb)
         have n5_ := Am (blk_below (g := gb380) (o := .cells #[.int .i64 t372, .int .i64 t373, .slice Ao42 t374.length co42, .string t377] 24 (0, 0)) (by (with_reducible repeat (first | refine bn ?_ _ | refine bd ?_ | refine ba ?_ _)); exact BK380.out) hb)
         have n6_ := Am (below_step (by repeat (first | (with_reducible first | exact HB.out | apply bl | apply pN | apply b1 | refine bs ?_ GE357.out | refine bs ?_ GE371.out | refine bs ?_ GE380.out) | exact HB.out | exact HBo.out)) hb)
         clear HO_358002
         clear HO367
         clear HO376
         clear BK357
         clear BK371
         clear BK380
         clear HB
         have HO_358002 := n0_
         have HO367 := n1_
         have HO376 := n2_
         have BK357 := n3_
         have BK371 := n4_
         have BK380 := n5_
         have HB := n6_
         clear n0_ n1_ n2_ n3_ n4_ n5_ n6_
         (try clear hb)
         (try clear hb2)
         (try clear hk)
         (try clear hi)
         refine hK.out _ _ ⟨(bc BK357.out 0).trans rfl, (bc BK357.out 1).trans rfl, (bc BK357.out 2).trans rfl, (bc BK357.out 3).trans rfl, (bc BK371.out 0).trans rfl, (bc BK371.out 1).trans rfl, (bc BK371.out 2).trans rfl, (bc BK371.out 3).trans rfl, (bc BK380.out 0).trans rfl, (bc BK380.out 1).trans rfl, (bc BK380.out 2).trans rfl, (bc BK380.out 3).trans rfl⟩ (fun hHeld => ?_)
         clear hK K
         refine norm_ (a' := ?_) ?_ ?_
         rotate_left
         ·
          show Act.put _ (some 40) _ = _
          simp only [Act.put, sI, sZ, sS, i64_w, i32_w]
          rfl
         refine one_ (i := 5) (N := some 42) q14_6 rfl rfl (one_of HT_.out (by kernel_rfl)) (by decide) (fun K hK => ?_)
         refine goes_ Try.func13 (by kernel_rfl) rfl #[.agg #[.int .i64 a0_0, .int .i64 a0_1, .slice A0_2 l0_2.length c0_2, .string a0_3]] (by rfl) rfl rfl (by (try simp only [List.map_toArray, List.map_cons, List.map_nil]); first | done | rfl | (simp only [List.length_drop, List.length_take]; rfl)) ?_
         with_reducible refine (shuttlecockref04_May.calls kj3 a0_0 a0_1 _ _ l0_2 a0_3 t383 _ ?side1 ?side2 A24.out).mono ?_
         (case side1 => repeat (first | exact (Kd.V_reads' HO_358002.out).2.2 | (with_reducible refine Kd.C_alloc ?_ _) | (with_reducible refine Kd.C_drewN ?_ _) | (with_reducible refine Kd.C_drew ?_)))
         (case side2 => exact (Kd.V_reads' HO_358002.out).2.1)
         rintro e w47 ⟨rfl, hb⟩
         refine ⟨_, rfl, ?_⟩
         have n0_ := Am (Kd.V_below (by (with_reducible repeat (first | apply Kd.V_alloc | apply Kd.V_drewN | apply Kd.V_drew)); exact HO_358002.out) hb)
         have n1_ := Am (Kd.R_below (by (with_reducible repeat (first | apply Kd.R_alloc | apply Kd.R_drewN | apply Kd.R_drew)); exact HO367.out) hb)
         have n2_ := Am (Kd.R_below (by (with_reducible repeat (first | apply Kd.R_alloc | apply Kd.R_drewN | apply Kd.R_drew)); exact HO376.out) hb)
         have n3_ := Am (blk_below (g := gb357) (o := .cells #[.int .i64 a0_0, .int .i64 a0_1, .slice A0_2 l0_2.length c0_2, .string a0_3] 24 (0, 0)) (by (with_reducible repeat (first | refine bn ?_ _ | refine bd ?_ | refine ba ?_ _)); exact BK357.out) hb)
         have n4_ := Am (blk_below (g := gb371) (o := .cells #[.int .i64 t363, .int .i64 t364, .slice Ao36 t365.length co36, .string t368] 24 (0, 0)) (by (with_reducible repeat (first | refine bn ?_ _ | refine bd ?_ | refine ba ?_ _)); exact BK371.out) hb)
         have n5_ := Am (blk_below (g := gb380) (o := .cells #[.int .i64 t372, .int .i64 t373, .slice Ao42 t374.length co42, .string t377] 24 (0, 0)) (by (with_reducible repeat (first | refine bn ?_ _ | refine bd ?_ | refine ba ?_ _)); exact BK380.out) hb)
         have n6_ := Am (below_step (by repeat (first | (with_reducible first | exact HB.out | apply bl | apply pN | apply b1 | refine bs ?_ GE357.out | refine bs ?_ GE371.out | refine bs ?_ GE380.out) | exact HB.out | exact HBo.out)) hb)
         clear HO_358002
         clear HO367
         clear HO376
         clear BK357
         clear BK371
         clear BK380
         clear HB
         have HO_358002 := n0_
         have HO367 := n1_
         have HO376 := n2_
         have BK357 := n3_
         have BK371 := n4_
         have BK380 := n5_
         have HB := n6_
         clear n0_ n1_ n2_ n3_ n4_ n5_ n6_
         (try clear hb)
         (try clear hb2)
         (try clear hk)
         (try clear hi)
         refine hK.out _ _ ⟨(bc BK357.out 0).trans rfl, (bc BK357.out 1).trans rfl, (bc BK357.out 2).trans rfl, (bc BK357.out 3).trans rfl, (bc BK371.out 0).trans rfl, (bc BK371.out 1).trans rfl, (bc BK371.out 2).trans rfl, (bc BK371.out 3).trans rfl, (bc BK380.out 0).trans rfl, (bc BK380.out 1).trans rfl, (bc BK380.out 2).trans rfl, (bc BK380.out 3).trans rfl⟩ (fun hHeld => ?_)
         clear hK K
         refine norm_ (a' := ?_) ?_ ?_
         rotate_left
         ·
          show Act.put _ (some 42) _ = _
          simp only [Act.put, sI, sZ, sS, i64_w, i32_w]
          rfl
         refine Own.pr_ 6 (some 43) q14_7 HT_ (h := ?_)
         refine Own.pr_ 7 (some 44) q14_8 HT_ (h := ?_)
         refine Own.pr_ 8 (some 45) q14_9 HT_ (h := ?_)
         refine Own.tk_ 9 (some 46) q14_10 HT_ HW_ hHeld (hy := by rintro w' ⟨s0, s1, s2, s3, s4, s5, s6, s7, s8, s9, s10, s11⟩; go_simp; with_reducible rfl) (h := ?_)
         refine Own.tk_ 11 (some 48) q14_11 HT_ HW_ hHeld (hy := by rintro w' ⟨s0, s1, s2, s3, s4, s5, s6, s7, s8, s9, s10, s11⟩; go_simp; with_reducible rfl) (h := ?_)
         refine one_ (i := 10) (N := some 47) q14_12 rfl rfl (one_of HT_.out (by kernel_rfl)) (by decide) (fun K hK => ?_)
         refine goes_ Try.func14 (by kernel_rfl) rfl #[.agg #[.int .i64 a0_0, .int .i64 a0_1, .slice A0_2 l0_2.length c0_2, .string a0_3]] (by rfl) rfl rfl (by (try simp only [List.map_toArray, List.map_cons, List.map_nil]); first | done | rfl | (simp only [List.length_drop, List.length_take]; rfl)) ?_
         with_reducible refine (event_Encode.calls kj3 a0_0 a0_1 _ _ l0_2 a0_3 t384 _ ?side1 ?side2 A26.out).mono ?_
         (case side1 => repeat (first | exact (Kd.V_reads' HO_358002.out).2.2 | (with_reducible refine Kd.C_alloc ?_ _) | (with_reducible refine Kd.C_drewN ?_ _) | (with_reducible refine Kd.C_drew ?_)))
         (case side2 => exact (Kd.V_reads' HO_358002.out).2.1)
         rintro e w48 ⟨rfl, hb⟩
         refine ⟨_, rfl, ?_⟩
         have n0_ := Am (Kd.V_below (by (with_reducible repeat (first | apply Kd.V_alloc | apply Kd.V_drewN | apply Kd.V_drew)); exact HO_358002.out) hb)
         have n1_ := Am (Kd.R_below (by (with_reducible repeat (first | apply Kd.R_alloc | apply Kd.R_drewN | apply Kd.R_drew)); exact HO367.out) hb)
         have n2_ := Am (Kd.R_below (by (with_reducible repeat (first | apply Kd.R_alloc | apply Kd.R_drewN | apply Kd.R_drew)); exact HO376.out) hb)
         have n3_ := Am (blk_below (g := gb357) (o := .cells #[.int .i64 a0_0, .int .i64 a0_1, .slice A0_2 l0_2.length c0_2, .string a0_3] 24 (0, 0)) (by (with_reducible repeat (first | refine bn ?_ _ | refine bd ?_ | refine ba ?_ _)); exact BK357.out) hb)
         have n4_ := Am (blk_below (g := gb371) (o := .cells #[.int .i64 t363, .int .i64 t364, .slice Ao36 t365.length co36, .string t368] 24 (0, 0)) (by (with_reducible repeat (first | refine bn ?_ _ | refine bd ?_ | refine ba ?_ _)); exact BK371.out) hb)
         have n5_ := Am (blk_below (g := gb380) (o := .cells #[.int .i64 t372, .int .i64 t373, .slice Ao42 t374.length co42, .string t377] 24 (0, 0)) (by (with_reducible repeat (first | refine bn ?_ _ | refine bd ?_ | refine ba ?_ _)); exact BK380.out) hb)
         have n6_ := Am (below_step (by repeat (first | (with_reducible first | exact HB.out | apply bl | apply pN | apply b1 | refine bs ?_ GE357.out | refine bs ?_ GE371.out | refine bs ?_ GE380.out) | exact HB.out | exact HBo.out)) hb)
         clear HO_358002
         clear HO367
         clear HO376
         clear BK357
         clear BK371
         clear BK380
         clear HB
         have HO_358002 := n0_
         have HO367 := n1_
         have HO376 := n2_
         have BK357 := n3_
         have BK371 := n4_
         have BK380 := n5_
         have HB := n6_
         clear n0_ n1_ n2_ n3_ n4_ n5_ n6_
         (try clear hb)
         (try clear hb2)
         (try clear hk)
         (try clear hi)
         refine hK.out _ _ ⟨(bc BK357.out 0).trans rfl, (bc BK357.out 1).trans rfl, (bc BK357.out 2).trans rfl, (bc BK357.out 3).trans rfl, (bc BK371.out 0).trans rfl, (bc BK371.out 1).trans rfl, (bc BK371.out 2).trans rfl, (bc BK371.out 3).trans rfl, (bc BK380.out 0).trans rfl, (bc BK380.out 1).trans rfl, (bc BK380.out 2).trans rfl, (bc BK380.out 3).trans rfl⟩ (fun hHeld => ?_)
         clear hK K
         refine norm_ (a' := ?_) ?_ ?_
         rotate_left
         ·
          show Act.put _ (some 47) _ = _
          simp only [Act.put, sI, sZ, sS, i64_w, i32_w]
          rfl
         refine one_ (i := 12) (N := some 49) q14_13 rfl rfl (one_of HT_.out (by kernel_rfl)) (by decide) (fun K hK => ?_)
         refine goes_ Try.func15 (by kernel_rfl) rfl #[.agg #[.int .i64 a0_0, .int .i64 a0_1, .slice A0_2 l0_2.length c0_2, .string a0_3]] (by rfl) rfl rfl (by (try simp only [List.map_toArray, List.map_cons, List.map_nil]); first | done | rfl | (simp only [List.length_drop, List.length_take]; rfl)) ?_
         with_reducible refine (shuttlecockref04_Encode.calls kj3 a0_0 a0_1 _ _ l0_2 a0_3 t385 _ ?side1 ?side2 A27.out).mono ?_
         (case side1 => repeat (first | exact (Kd.V_reads' HO_358002.out).2.2 | (with_reducible refine Kd.C_alloc ?_ _) | (with_reducible refine Kd.C_drewN ?_ _) | (with_reducible refine Kd.C_drew ?_)))
         (case side2 => exact (Kd.V_reads' HO_358002.out).2.1)
         rintro e w49 ⟨rfl, hb⟩
         refine ⟨_, rfl, ?_⟩
         have n0_ := Am (Kd.V_below (by (with_reducible repeat (first | apply Kd.V_alloc | apply Kd.V_drewN | apply Kd.V_drew)); exact HO_358002.out) hb)
         have n1_ := Am (Kd.R_below (by (with_reducible repeat (first | apply Kd.R_alloc | apply Kd.R_drewN | apply Kd.R_drew)); exact HO367.out) hb)
         have n2_ := Am (Kd.R_below (by (with_reducible repeat (first | apply Kd.R_alloc | apply Kd.R_drewN | apply Kd.R_drew)); exact HO376.out) hb)
         have n3_ := Am (blk_below (g := gb357) (o := .cells #[.int .i64 a0_0, .int .i64 a0_1, .slice A0_2 l0_2.length c0_2, .string a0_3] 24 (0, 0)) (by (with_reducible repeat (first | refine bn ?_ _ | refine bd ?_ | refine ba ?_ _)); exact BK357.out) hb)
         have n4_ := Am (blk_below (g := gb371) (o := .cells #[.int .i64 t363, .int .i64 t364, .slice Ao36 t365.length co36, .string t368] 24 (0, 0)) (by (with_reducible repeat (first | refine bn ?_ _ | refine bd ?_ | refine ba ?_ _)); exact BK371.out) hb)
         have n5_ := Am (blk_below (g := gb380) (o := .cells #[.int .i64 t372, .int .i64 t373, .slice Ao42 t374.length co42, .string t377] 24 (0, 0)) (by (with_reducible repeat (first | refine bn ?_ _ | refine bd ?_ | refine ba ?_ _)); exact BK380.out) hb)
         have n6_ := Am (below_step (by repeat (first | (with_reducible first | exact HB.out | apply bl | apply pN | apply b1 | refine bs ?_ GE357.out | refine bs ?_ GE371.out | refine bs ?_ GE380.out) | exact HB.out | exact HBo.out)) hb)
         clear HO_358002
         clear HO367
         clear HO376
         clear BK357
         clear BK371
         clear BK380
         clear HB
         have HO_358002 := n0_
         have HO367 := n1_
         have HO376 := n2_
         have BK357 := n3_
         have BK371 := n4_
         have BK380 := n5_
         have HB := n6_
         clear n0_ n1_ n2_ n3_ n4_ n5_ n6_
         (try clear hb)
         (try clear hb2)
         (try clear hk)
         (try clear hi)
         refine hK.out _ _ ⟨(bc BK357.out 0).trans rfl, (bc BK357.out 1).trans rfl, (bc BK357.out 2).trans rfl, (bc BK357.out 3).trans rfl, (bc BK371.out 0).trans rfl, (bc BK371.out 1).trans rfl, (bc BK371.out 2).trans rfl, (bc BK371.out 3).trans rfl, (bc BK380.out 0).trans rfl, (bc BK380.out 1).trans rfl, (bc BK380.out 2).trans rfl, (bc BK380.out 3).trans rfl⟩ (fun hHeld => ?_)
         clear hK K
         refine norm_ (a' := ?_) ?_ ?_
         rotate_left
         ·
          show Act.put _ (some 49) _ = _
          simp only [Act.put, sI, sZ, sS, i64_w, i32_w]
          rfl
         refine Own.pr_ 13 (some 50) q14_14 HT_ (h := ?_)
         refine Own.pr_ 14 (some 51) q14_15 HT_ (h := ?_)
         refine Own.pr_ 15 (some 52) q14_16 HT_ (h := ?_)
         refine Own.tk_ 16 (some 53) q14_17 HT_ HW_ hHeld (hy := by rintro w' ⟨s0, s1, s2, s3, s4, s5, s6, s7, s8, s9, s10, s11⟩; go_simp; with_reducible rfl) (h := ?_)
         refine Own.tk_ 17 (some 54) q14_18 HT_ HW_ hHeld (hy := by rintro w' ⟨s0, s1, s2, s3, s4, s5, s6, s7, s8, s9, s10, s11⟩; go_simp; with_reducible rfl) (h := ?_)
         refine one_ (i := 18) (N := some 55) q14_19 rfl rfl (one_of HT_.out (by kernel_rfl)) (by decide) (fun K hK => ?_)
         refine goes_ Try.func16 (by kernel_rfl) rfl #[.agg #[.int .i64 t363, .int .i64 t364, .slice Ao36 t365.length co36, .string t368], .agg #[.int .i64 t372, .int .i64 t373, .slice Ao42 t374.length co42, .string t377]] (by rfl) rfl rfl (by (try simp only [List.map_toArray, List.map_cons, List.map_nil]); first | done | rfl | (simp only [List.length_drop, List.length_take]; rfl)) ?_
         with_reducible refine (shuttlecockref04_Same.calls kj3 t363 t364 _ _ t365 t368 t372 t373 _ _ t374 t377 true _ ?side1 ?side2 ?side3 ?side4 A29.out).mono ?_
         (case side1 => repeat (first | exact (Kd.R_reads' HO367.out).2.2 | (with_reducible refine Kd.C_alloc ?_ _) | (with_reducible refine Kd.C_drewN ?_ _) | (with_reducible refine Kd.C_drew ?_)))
         (case side2 => exact (Kd.R_reads' HO367.out).2.1)
         (case side3 => repeat (first | exact (Kd.R_reads' HO376.out).2.2 | (with_reducible refine Kd.C_alloc ?_ _) | (with_reducible refine Kd.C_drewN ?_ _) | (with_reducible refine Kd.C_drew ?_)))
         (case side4 => exact (Kd.R_reads' HO376.out).2.1)
         rintro e w50 ⟨rfl, hb⟩
         refine ⟨_, rfl, ?_⟩
         have n0_ := Am (Kd.V_below (by (with_reducible repeat (first | apply Kd.V_alloc | apply Kd.V_drewN | apply Kd.V_drew)); exact HO_358002.out) hb)
         have n1_ := Am (Kd.R_below (by (with_reducible repeat (first | apply Kd.R_alloc | apply Kd.R_drewN | apply Kd.R_drew)); exact HO367.out) hb)
         have n2_ := Am (Kd.R_below (by (with_reducible repeat (first | apply Kd.R_alloc | apply Kd.R_drewN | apply Kd.R_drew)); exact HO376.out) hb)
         have n3_ := Am (blk_below (g := gb357) (o := .cells #[.int .i64 a0_0, .int .i64 a0_1, .slice A0_2 l0_2.length c0_2, .string a0_3] 24 (0, 0)) (by (with_reducible repeat (first | refine bn ?_ _ | refine bd ?_ | refine ba ?_ _)); exact BK357.out) hb)
         have n4_ := Am (blk_below (g := gb371) (o := .cells #[.int .i64 t363, .int .i64 t364, .slice Ao36 t365.length co36, .string t368] 24 (0, 0)) (by (with_reducible repeat (first | refine bn ?_ _ | refine bd ?_ | refine ba ?_ _)); exact BK371.out) hb)
         have n5_ := Am (blk_below (g := gb380) (o := .cells #[.int .i64 t372, .int .i64 t373, .slice Ao42 t374.length co42, .string t377] 24 (0, 0)) (by (with_reducible repeat (first | refine bn ?_ _ | refine bd ?_ | refine ba ?_ _)); exact BK380.out) hb)
         have n6_ := Am (below_step (by repeat (first | (with_reducible first | exact HB.out | apply bl | apply pN | apply b1 | refine bs ?_ GE357.out | refine bs ?_ GE371.out | refine bs ?_ GE380.out) | exact HB.out | exact HBo.out)) hb)
         clear HO_358002
         clear HO367
         clear HO376
         clear BK357
         clear BK371
         clear BK380
         clear HB
         have HO_358002 := n0_
         have HO367 := n1_
         have HO376 := n2_
         have BK357 := n3_
         have BK371 := n4_
         have BK380 := n5_
         have HB := n6_
         clear n0_ n1_ n2_ n3_ n4_ n5_ n6_
         (try clear hb)
         (try clear hb2)
         (try clear hk)
         (try clear hi)
         refine hK.out _ _ ⟨(bc BK357.out 0).trans rfl, (bc BK357.out 1).trans rfl, (bc BK357.out 2).trans rfl, (bc BK357.out 3).trans rfl, (bc BK371.out 0).trans rfl, (bc BK371.out 1).trans rfl, (bc BK371.out 2).trans rfl, (bc BK371.out 3).trans rfl, (bc BK380.out 0).trans rfl, (bc BK380.out 1).trans rfl, (bc BK380.out 2).trans rfl, (bc BK380.out 3).trans rfl⟩ (fun hHeld => ?_)
         clear hK K
         refine norm_ (a' := ?_) ?_ ?_
         rotate_left
         ·
          show Act.put _ (some 55) _ = _
          simp only [Act.put, sI, sZ, sS, i64_w, i32_w]
          rfl
         refine Own.pr_ 19 (some 56) q14_20 HT_ (h := ?_)
         refine Own.pr_ 20 (some 57) q14_21 HT_ (h := ?_)
         refine Own.pr_ 21 (some 58) q14_22 HT_ (h := ?_)
         refine Own.pr_ 22 (some 59) q14_23 HT_ (h := ?_)
         refine Own.pr_ 23 (some 60) q14_24 HT_ (h := ?_)
         refine Own.pr_ 24 (some 61) q14_25 HT_ (h := ?_)
         refine Own.pr_ 25 (some 62) q14_26 HT_ (h := ?_)
         refine Own.pr_ 26 (some 63) q14_27 HT_ (h := ?_)
         refine Own.pr_ 27 (some 64) q14_28 HT_ (h := ?_)
         refine Own.pr_ 28 (some 65) q14_29 HT_ (h := ?_)
         refine Own.pr_ 29 (some 66) q14_30 HT_ (h := ?_)
         refine Own.pr_ 30 (some 6) q14_31 HT_ (h := ?_)
         refine done_ (done_of HT_.out (by kernel_rfl)) ?_
         try go_wp2
         go_ret
         exact ⟨by first | rfl | (simp [errW_none, errW_some] <;> rfl) | (simp [*, errW_none, errW_some] <;> rfl) | (simp [Aid.ne_nil, Aid.eq_nil, errW_none, errW_some]; done), by repeat (first | (with_reducible first | exact HB.out | apply bl | apply pN | apply b1 | refine bs ?_ GE357.out | refine bs ?_ GE371.out | refine bs ?_ GE380.out) | exact HB.out | exact HBo.out)⟩
        ·
         rw [if_neg c31] at H
         have c31b0 : (t369 == t378) = false := beq_eq_false_iff_ne.mpr c31
         have c31b1 : (t369 != t378) = true := bne_iff_ne.mpr c31
         exact absurd H (by simp)
       ·
        replace c30 := Bool.eq_false_iff.mpr c30
        subst c30
        have H1 : (none) = some r := by rw [if_neg (show ¬ (false = true) by decide)] at H; exact H
        clear H
        have H := H1
        clear H1
        exact absurd H (by simp)
      ·
       rw [if_neg c28] at H
       have c28b0 : (t384.toList == t385.toList) = false := beq_eq_false_iff_ne.mpr c28
       have c28b1 : (t384.toList != t385.toList) = true := bne_iff_ne.mpr c28
       exact absurd H (by simp)
     ·
      rw [if_neg c25] at H
      have c25b0 : (t382 == t383) = false := by simpa using c25
      (try (have c25b1 : decide (t382 = t383) = false := by simpa using c25))
      (try (have c25b2 : (t382 == t383) = false := by simpa using c25))
      (try (have c25b3 : ¬ (t382 = t383) := by simpa using c25))
      clear c25
      exact absurd H (by simp)
    ·
     replace c22 := Bool.eq_false_iff.mpr c22
     subst c22
     have H1 : (none) = some r := by rw [if_neg (show ¬ (false = true) by decide)] at H; exact H
     clear H
     have H := H1
     clear H1
     exact absurd H (by simp)

/-- THE ONE PURE STATEMENT of shuttlecocklaw04_EventTells (own row). -/
def shuttlecocklaw04_EventTells.Pure : Prop := ∀ (y0 : S24) (y1 : ByteArray) (y2 : Int), ((Lit.int .i64 y0.f0).wf = true ∧ (Lit.int .i64 y0.f1).wf = true ∧ ((∀ e5 ∈ y0.f2, (Lit.int .i64 e5).wf = true) ∧ y0.f2.length ≤ maxLen) ∧ y0.f3.size ≤ maxLen) → y1.size ≤ maxLen → (Lit.int .i64 y2).wf = true → ∃ k, shuttlecocklaw04_EventTells.f k y0.f0 y0.f1 y0.f2 y0.f3 y1 y2 = some true

end Go.Proofs.Ythechcflnkofgaa.Q
