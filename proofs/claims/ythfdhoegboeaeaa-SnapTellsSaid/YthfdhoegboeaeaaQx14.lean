-- printed by a program of this session (NOTES: hprint); not the kit's print
-- minified
-- halved
import Derived.Test.YthfdhoegboeaeaaAl
import Derived.Test.YthfdhoegboeaeaaQx0
import Derived.Test.YthfdhoegboeaeaaQx10
import Derived.Test.YthfdhoegboeaeaaQx11
namespace Go.Proofs.Ythfdhoegboeaeaa.Q
open Go.RowKit Go.Proofs.YthfdhoegboeaeaaW.PrintWords Go.Proofs.YthfdhoegboeaeaaW.PrintLast Go.Proofs.YthfdhoegboeaeaaW.PrintMore
attribute [local go_sem] max2_int min2_int max_two min_two max_three min_three max_four min_four   -- for this text's walks alone
set_option linter.unusedVariables false
set_option linter.unusedSimpArgs false

def q14_0 : Array Bool := let o := true; let z := false; #[z,z,z,z,z,z,z,z,z,z,z,z,z,z,z,z]
def q14_1 : Array Bool := let o := true; let z := false; #[o,z,z,z,z,z,z,z,z,z,z,z,z,z,z,z]
def q14_2 : Array Bool := let o := true; let z := false; #[o,o,z,z,z,z,z,z,z,z,z,z,z,z,z,z]
def q14_3 : Array Bool := let o := true; let z := false; #[o,o,z,o,z,z,z,z,z,z,z,z,z,z,z,z]
def q14_4 : Array Bool := let o := true; let z := false; #[o,o,z,o,z,z,z,o,z,z,z,z,z,z,z,z]
def q14_5 : Array Bool := let o := true; let z := false; #[o,o,z,o,z,z,z,o,z,o,z,z,z,z,z,z]
def q14_6 : Array Bool := let o := true; let z := false; #[o,o,o,o,z,z,z,o,z,o,z,z,z,z,z,z]
def q14_7 : Array Bool := let o := true; let z := false; #[o,o,o,o,o,z,z,o,z,o,z,z,z,z,z,z]
def q14_8 : Array Bool := let o := true; let z := false; #[o,o,o,o,o,o,z,o,z,o,z,z,z,z,z,z]
def q14_9 : Array Bool := let o := true; let z := false; #[o,o,o,o,o,o,o,o,z,o,z,z,z,z,z,z]
def q14_10 : Array Bool := let o := true; let z := false; #[o,o,o,o,o,o,o,o,o,o,z,z,z,z,z,z]
def q14_11 : Array Bool := let o := true; let z := false; #[o,o,o,o,o,o,o,o,o,o,o,z,z,z,z,z]
def q14_12 : Array Bool := let o := true; let z := false; #[o,o,o,o,o,o,o,o,o,o,o,o,z,z,z,z]
def q14_13 : Array Bool := let o := true; let z := false; #[o,o,o,o,o,o,o,o,o,o,o,o,o,z,z,z]
def q14_14 : Array Bool := let o := true; let z := false; #[o,o,o,o,o,o,o,o,o,o,o,o,o,o,z,z]
def q14_15 : Array Bool := let o := true; let z := false; #[o,o,o,o,o,o,o,o,o,o,o,o,o,o,o,z]
def q14_16 : Array Bool := let o := true; let z := false; #[o,o,o,o,o,o,o,o,o,o,o,o,o,o,o,o]
/-! ### shuttlecockref02_Nums: function 31 -/
def shuttlecockref02_Nums.l0 : Nat → List Int → ByteArray → Int → Option (ByteArray)
 | 0, _, _, _ => none
 | k + 1, x0, x3, x4 => if x4 < (x0.length : Int) then (if 0 ≤ x4 then ((shuttlecockref01_Put.f k (rd x0 x4)).bind fun t342 => (if t342.toList = ([] : List UInt8) then (some (⟨#[]⟩ : ByteArray)) else ((shuttlecockref01_Put.f k (rd x0 x4)).bind fun t344 => (if x3.size + t344.size ≤ 9223372036854775807 then (shuttlecockref02_Nums.l0 k x0 (x3 ++ t344) (wrap64 (x4 + 1))) else (none))))) else (none)) else (some x3)
def shuttlecockref02_Nums.f (k : Nat) (l0 : List Int) : Option (ByteArray) := shuttlecockref02_Nums.l0 k l0 (⟨#[]⟩ : ByteArray) 0
theorem shuttlecockref02_Nums.mono_l : ∀ k, (∀ y0 y1 y2, LeO (shuttlecockref02_Nums.l0 k y0 y1 y2) (shuttlecockref02_Nums.l0 (k + 1) y0 y1 y2))
 | 0 => fun _ _ _ r h => by simp [shuttlecockref02_Nums.l0] at h
 | k + 1 => by
  have ih0 := shuttlecockref02_Nums.mono_l k
  ·
   intro y0 y1 y2
   unfold shuttlecockref02_Nums.l0
   repeat' first
   | (with_reducible exact ih0 _ _ _)
   | (with_reducible exact shuttlecockref01_Put.mono _ _)
   | (with_reducible exact LeO.refl _)
   | (with_reducible exact LeO.none _)
   | (with_reducible refine LeO.ite ?_ ?_)
   | (with_reducible refine LeO.bind ?_ (fun _ => ?_))
   | exact ih0 _ _ _
   | exact shuttlecockref01_Put.mono _ _
   | exact LeO.none _
   | refine LeO.ite ?_ ?_
   | refine LeO.bind ?_ (fun _ => ?_)
theorem shuttlecockref02_Nums.mono : ∀ a0 k, LeO (shuttlecockref02_Nums.f k a0) (shuttlecockref02_Nums.f (k + 1) a0) := by
 intro a0 k
 have ih0 := shuttlecockref02_Nums.mono_l k
 unfold shuttlecockref02_Nums.f
 repeat' first
   | (with_reducible exact ih0 _ _ _)
   | (with_reducible exact shuttlecockref01_Put.mono _ _)
   | (with_reducible exact LeO.refl _)
   | (with_reducible exact LeO.none _)
   | (with_reducible refine LeO.ite ?_ ?_)
   | (with_reducible refine LeO.bind ?_ (fun _ => ?_))
   | exact ih0 _ _ _
   | exact shuttlecockref01_Put.mono _ _
   | exact LeO.none _
   | refine LeO.ite ?_ ?_
   | refine LeO.bind ?_ (fun _ => ?_)
set_option maxHeartbeats 8000000 in
set_option maxRecDepth 100000 in
theorem shuttlecockref02_Nums.calls (k : Nat) (A0 : Option Addr) (c0 : Nat) (l0 : List Int) (r : ByteArray) (w : World) (hr0 : Kd.C (Kd.int .i64) w A0 l0.length l0) (hc0 : l0.length ≤ c0) (h : shuttlecockref02_Nums.f k l0 = some r) :
  Calls Try.prog 31 #[.slice A0 l0.length c0] w fun e w' => e = .returned (.string r) ∧ Below w.heap.size w w' := by
 have HR0 := Am hr0
 have HC0 := Am hc0
 clear hr0 hc0
 have HB := Am (Below.refl w.heap.size w)
 have H : (shuttlecockref02_Nums.l0 k l0 (⟨#[]⟩ : ByteArray) 0) = some r := h
 clear h
 have H' := Am H
 clear H
 go_enter Try.func31, Try.ntmps31
 go_wp2
 go_loopg [3, 4] k (fun kq v3 v4 w' => ∃ (x3_1 : ByteArray) (x4_1 : Int), v3 = .string x3_1 ∧ v4 = .int .i64 x4_1 ∧ Aside0 (shuttlecockref02_Nums.l0 kq l0 x3_1 x4_1 = some r) ∧ Aside0 (kq ≤ k) ∧ Aside0 (Below w.heap.size w w'))
 case atStart => exact ⟨((⟨#[]⟩ : ByteArray)), (0), (by first | rfl | (simp; done) | (simp [*]; done)), (by first | rfl | (simp; done) | (simp [*]; done)), H', ⟨Nat.le_refl _⟩, ⟨by repeat (first | (with_reducible first | exact HB.out | apply bl | apply pN | apply b1) | exact HB.out | exact HBo.out)⟩⟩
 case round =>
  clear H'
  obtain ⟨x3_1, x4_1, rfl, rfl, HA, HK1, HB⟩ := hrel
  cases gk with
  | zero => exact absurd HA.out (by simp [shuttlecockref02_Nums.l0])
  | succ k1 =>
   have H := HA.out
   clear HA
   simp only [shuttlecockref02_Nums.l0] at H
   by_cases c2 : x4_1 < (l0.length : Int)
   ·
    rw [if_pos c2] at H
    have c2b0 : decide (x4_1 < (l0.length : Int)) = true := decide_eq_true c2
    clear c2
    by_cases c3 : 0 ≤ x4_1
    ·
     rw [if_pos c3] at H
     have c3b0 : decide (0 ≤ x4_1) = true := decide_eq_true c3
     clear c3
     replace H := ob H
     obtain ⟨t342, A40, H⟩ := H
     replace H : (if t342.toList = ([] : List UInt8) then (some (⟨#[]⟩ : ByteArray)) else ((shuttlecockref01_Put.f k1 (rd l0 x4_1)).bind fun t344 => (if x3_1.size + t344.size ≤ 9223372036854775807 then (shuttlecockref02_Nums.l0 k1 l0 (x3_1 ++ t344) (wrap64 (x4_1 + 1))) else (none)))) = some r := H
     have A4 := Am A40
     clear A40
     by_cases c5 : t342.toList = ([] : List UInt8)
     ·
      rw [if_pos c5] at H
      have c5b0 : (t342.toList == ([] : List UInt8)) = true := beq_iff_eq.mpr c5
      have c5b1 : (t342.toList != ([] : List UInt8)) = false := bne_eq_false_iff_eq.mpr c5
      clear c5
      obtain rfl := Option.some.inj H
      have p341 : 0 ≤ (x4_1 : Int) := of_decide_eq_true (by first | (with_reducible assumption) | assumption)
      have q341 : x4_1 < (l0.length : Int) := of_decide_eq_true (by first | (with_reducible assumption) | assumption)
      obtain ⟨ad341, e341, hx341_0⟩ := Kd.at_int HR0.out x4_1 p341 q341
      cases e341
      replace hx341_0 := (HB.out.cell (World.block_lt_of_cell? w _ hx341_0)).trans hx341_0
      replace p341 := eq_true p341
      replace q341 := eq_true q341
      go_wp2_with (first | ((with_reducible refine gate_callee (f := 42) rfl ?_); refine goesL_ (some 15) rfl rfl Try.func42 (by kernel_rfl) rfl #[.int .i64 (rd l0 x4_1)] rfl (by (try simp only [List.map_toArray, List.map_cons, List.map_nil]); first | done | rfl | (simp only [List.length_drop, List.length_take]; rfl)) ?_; (with_reducible refine (shuttlecockref01_Put.calls k1 (rd l0 x4_1) t342 _ A4.out).mono ?_); rintro e w6 ⟨rfl, hb⟩; refine ⟨_, rfl, ?_⟩; have n0_ := Am (below_step (by repeat (first | (with_reducible first | exact HB.out | apply bl | apply pN | apply b1) | exact HB.out | exact HBo.out)) hb); clear HB; have HB := n0_; clear n0_; (try clear hb); (try clear hb2); (try clear hk); (try clear hi)))
      go_ret
      exact ⟨by first | rfl | (simp [errW_none, errW_some] <;> rfl) | (simp [*, errW_none, errW_some] <;> rfl) | (simp [Aid.ne_nil, Aid.eq_nil, errW_none, errW_some]; done), by repeat (first | (with_reducible first | exact HB.out | apply bl | apply pN | apply b1) | exact HB.out | exact HBo.out)⟩
     ·
      rw [if_neg c5] at H
      have c5b0 : (t342.toList == ([] : List UInt8)) = false := beq_eq_false_iff_ne.mpr c5
      have c5b1 : (t342.toList != ([] : List UInt8)) = true := bne_iff_ne.mpr c5
      replace H := ob H
      obtain ⟨t344, A70, H⟩ := H
      replace H : (if x3_1.size + t344.size ≤ 9223372036854775807 then (shuttlecockref02_Nums.l0 k1 l0 (x3_1 ++ t344) (wrap64 (x4_1 + 1))) else (none)) = some r := H
      have A7 := Am A70
      clear A70
      by_cases c8 : x3_1.size + t344.size ≤ 9223372036854775807
      ·
       rw [if_pos c8] at H
       have c8b0 := eq_true c8
       have c8b1 : decide (x3_1.size + t344.size ≤ 9223372036854775807) = true := decide_eq_true c8
       try have c8b2 : (9223372036854775807 < x3_1.size + t344.size) = False := eq_false (Nat.not_lt.2 c8)
       have H' := Am H
       clear H
       have p341 : 0 ≤ (x4_1 : Int) := of_decide_eq_true (by first | (with_reducible assumption) | assumption)
       have q341 : x4_1 < (l0.length : Int) := of_decide_eq_true (by first | (with_reducible assumption) | assumption)
       obtain ⟨ad341, e341, hx341_0⟩ := Kd.at_int HR0.out x4_1 p341 q341
       cases e341
       replace hx341_0 := (HB.out.cell (World.block_lt_of_cell? w _ hx341_0)).trans hx341_0
       replace p341 := eq_true p341
       replace q341 := eq_true q341
       go_wp2_with (first | ((with_reducible refine gate_callee (f := 42) rfl ?_); refine goesL_ (some 15) rfl rfl Try.func42 (by kernel_rfl) rfl #[.int .i64 (rd l0 x4_1)] rfl (by (try simp only [List.map_toArray, List.map_cons, List.map_nil]); first | done | rfl | (simp only [List.length_drop, List.length_take]; rfl)) ?_; (with_reducible refine (shuttlecockref01_Put.calls k1 (rd l0 x4_1) t342 _ A4.out).mono ?_); rintro e w9 ⟨rfl, hb⟩; refine ⟨_, rfl, ?_⟩; have n0_ := Am (below_step (by repeat (first | (with_reducible first | exact HB.out | apply bl | apply pN | apply b1) | exact HB.out | exact HBo.out)) hb); clear HB; have HB := n0_; clear n0_; (try clear hb); (try clear hb2); (try clear hk); (try clear hi); have p343 : 0 ≤ (x4_1 : Int) := of_decide_eq_true (by first | (with_reducible assumption) | assumption); have q343 : x4_1 < (l0.length : Int) := of_decide_eq_true (by first | (with_reducible assumption) | assumption); obtain ⟨ad343, e343, hx343_0⟩ := Kd.at_int HR0.out x4_1 p343 q343; obtain rfl : ad341 = ad343 := (by injection e343); replace hx343_0 := (HB.out.cell (World.block_lt_of_cell? w _ hx343_0)).trans hx343_0; replace p343 := eq_true p343; replace q343 := eq_true q343) | ((with_reducible refine gate_callee (f := 42) rfl ?_); refine goesL_ (some 22) rfl rfl Try.func42 (by kernel_rfl) rfl #[.int .i64 (rd l0 x4_1)] rfl (by (try simp only [List.map_toArray, List.map_cons, List.map_nil]); first | done | rfl | (simp only [List.length_drop, List.length_take]; rfl)) ?_; (with_reducible refine (shuttlecockref01_Put.calls k1 (rd l0 x4_1) t344 _ A7.out).mono ?_); rintro e w10 ⟨rfl, hb⟩; refine ⟨_, rfl, ?_⟩; have n0_ := Am (below_step (by repeat (first | (with_reducible first | exact HB.out | apply bl | apply pN | apply b1) | exact HB.out | exact HBo.out)) hb); clear HB; have HB := n0_; clear n0_; (try clear hb); (try clear hb2); (try clear hk); (try clear hi)))
       go_roundg k1
       case measure => have := HK1.out; omega
       case rel => exact ⟨(x3_1 ++ t344), (wrap64 (x4_1 + 1)), (by first | rfl | (simp; done) | (simp [*]; done)), (by first | rfl | (simp; done) | (simp [*]; done)), H', ⟨by have := HK1.out; omega⟩, ⟨by repeat (first | (with_reducible first | exact HB.out | apply bl | apply pN | apply b1) | exact HB.out | exact HBo.out)⟩⟩
      ·
       rw [if_neg c8] at H
       exact absurd H (by simp)
    ·
     rw [if_neg c3] at H
     exact absurd H (by simp)
   ·
    rw [if_neg c2] at H
    have c2b0 : decide (x4_1 < (l0.length : Int)) = false := decide_eq_false c2
    clear c2
    obtain rfl := Option.some.inj H
    go_wp2
    go_ret
    exact ⟨by first | rfl | (simp [errW_none, errW_some] <;> rfl) | (simp [*, errW_none, errW_some] <;> rfl) | (simp [Aid.ne_nil, Aid.eq_nil, errW_none, errW_some]; done), by repeat (first | (with_reducible first | exact HB.out | apply bl | apply pN | apply b1) | exact HB.out | exact HBo.out)⟩

/-! ### shuttlecockref08_Encode: function 15 -/
mutual
def shuttlecockref08_Encode.l0 : Nat → List Int → Int → Int → List (S46) → List (S36) → Option (ByteArray)
 | 0, _, _, _, _, _ => none
 | k + 1, x3, x4, x346000, x346001, x346002 => if x4 < (x346001.length : Int) then (if 0 ≤ x4 then ((some (([(rd_T46 x346001 x4).f0, (rd_T46 x346001 x4).f1] : List Int) : List Int)).bind fun y352 => (if x3.length + y352.length < 17592186044416 then (shuttlecockref08_Encode.l0 k (x3 ++ y352) (wrap64 (x4 + 1)) x346000 x346001 x346002) else (none))) else (none)) else (if x3.length < 17592186044416 then (shuttlecockref08_Encode.l1 k (x3 ++ [(x346002.length : Int)]) 0 x346000 x346001 x346002) else (none))
def shuttlecockref08_Encode.l1 : Nat → List Int → Int → Int → List (S46) → List (S36) → Option (ByteArray)
 | 0, _, _, _, _, _ => none
 | k + 1, x3, x5, x346000, x346001, x346002 => if x5 < (x346002.length : Int) then (if 0 ≤ x5 then ((some (([(rd_T36 x346002 x5).f0, (rd_T36 x346002 x5).f1, (rd_T36 x346002 x5).f2, (rd_T36 x346002 x5).f3] : List Int) : List Int)).bind fun y363 => (if x3.length + y363.length < 17592186044416 then (shuttlecockref08_Encode.l1 k (x3 ++ y363) (wrap64 (x5 + 1)) x346000 x346001 x346002) else (none))) else (none)) else ((shuttlecockref02_Nums.f k x3).bind fun t369 => (some t369))
end
def shuttlecockref08_Encode.f (k : Nat) (a0_0 : Int) (l0_1 : List (S46)) (l0_2 : List (S36)) : Option (ByteArray) := (shuttlecockref08_May.f a0_0 l0_1 l0_2).bind fun t346 => (if t346 = true then (shuttlecockref08_Encode.l0 k (([a0_0, (l0_1.length : Int)] : List Int)) 0 a0_0 l0_1 l0_2) else (some (⟨#[]⟩ : ByteArray)))
theorem shuttlecockref08_Encode.mono_l : ∀ k, (∀ y0 y1 y2 y3 y4, LeO (shuttlecockref08_Encode.l0 k y0 y1 y2 y3 y4) (shuttlecockref08_Encode.l0 (k + 1) y0 y1 y2 y3 y4)) ∧ (∀ y0 y1 y2 y3 y4, LeO (shuttlecockref08_Encode.l1 k y0 y1 y2 y3 y4) (shuttlecockref08_Encode.l1 (k + 1) y0 y1 y2 y3 y4))
 | 0 => ⟨fun _ _ _ _ _ r h => by simp [shuttlecockref08_Encode.l0] at h, fun _ _ _ _ _ r h => by simp [shuttlecockref08_Encode.l1] at h⟩
 | k + 1 => by
  obtain ⟨ih0, ih1⟩ := shuttlecockref08_Encode.mono_l k
  refine ⟨?_, ?_⟩
  ·
   intro y0 y1 y2 y3 y4
   unfold shuttlecockref08_Encode.l0
   repeat' first
   | (with_reducible exact ih0 _ _ _ _ _)
   | (with_reducible exact ih1 _ _ _ _ _)
   | (with_reducible exact shuttlecockref02_Nums.mono _ _)
   | (with_reducible exact LeO.refl _)
   | (with_reducible exact LeO.none _)
   | (with_reducible refine LeO.ite ?_ ?_)
   | (with_reducible refine LeO.bind ?_ (fun _ => ?_))
   | exact ih0 _ _ _ _ _
   | exact ih1 _ _ _ _ _
   | exact shuttlecockref02_Nums.mono _ _
   | exact LeO.none _
   | refine LeO.ite ?_ ?_
   | refine LeO.bind ?_ (fun _ => ?_)
  ·
   intro y0 y1 y2 y3 y4
   unfold shuttlecockref08_Encode.l1
   repeat' first
   | (with_reducible exact ih0 _ _ _ _ _)
   | (with_reducible exact ih1 _ _ _ _ _)
   | (with_reducible exact shuttlecockref02_Nums.mono _ _)
   | (with_reducible exact LeO.refl _)
   | (with_reducible exact LeO.none _)
   | (with_reducible refine LeO.ite ?_ ?_)
   | (with_reducible refine LeO.bind ?_ (fun _ => ?_))
   | exact ih0 _ _ _ _ _
   | exact ih1 _ _ _ _ _
   | exact shuttlecockref02_Nums.mono _ _
   | exact LeO.none _
   | refine LeO.ite ?_ ?_
   | refine LeO.bind ?_ (fun _ => ?_)
theorem shuttlecockref08_Encode.mono : ∀ a0 a1 a2 k, LeO (shuttlecockref08_Encode.f k a0 a1 a2) (shuttlecockref08_Encode.f (k + 1) a0 a1 a2) := by
 intro a0 a1 a2 k
 obtain ⟨ih0, ih1⟩ := shuttlecockref08_Encode.mono_l k
 unfold shuttlecockref08_Encode.f
 repeat' first
   | (with_reducible exact ih0 _ _ _ _ _)
   | (with_reducible exact ih1 _ _ _ _ _)
   | (with_reducible exact shuttlecockref02_Nums.mono _ _)
   | (with_reducible exact LeO.refl _)
   | (with_reducible exact LeO.none _)
   | (with_reducible refine LeO.ite ?_ ?_)
   | (with_reducible refine LeO.bind ?_ (fun _ => ?_))
   | exact ih0 _ _ _ _ _
   | exact ih1 _ _ _ _ _
   | exact shuttlecockref02_Nums.mono _ _
   | exact LeO.none _
   | refine LeO.ite ?_ ?_
   | refine LeO.bind ?_ (fun _ => ?_)
def shuttlecockref08_Encode.T7 : Bool × List (List Nat × List Nat) := (true, [([], []), ([], []), ([1], [1]), ([], []), ([2, 3], [2, 3]), ([4], [4]), ([5], [5]), ([], []), ([7], [7]), ([], []), ([8, 9], [8, 9]), ([10], [10]), ([11], [11]), ([6, 12], [6, 12]), ([0, 13], [0, 13]), ([14, 14, 0, 1, 2, 3, 4, 5, 6, 7, 8, 9, 10, 11, 12, 13, 14], [0, 14])])
def shuttlecockref08_Encode.B7 : List Nat := [0, 0, 2, 0, 14, 30, 62, 0, 128, 0, 896, 1920, 3968, 8190, 16383, 32767]
theorem shuttlecockref08_Encode.tab7 : rtab .any (opsOf Try.f15 7) = shuttlecockref08_Encode.T7 := by kernel_rfl
theorem shuttlecockref08_Encode.bits7 : waitsOk shuttlecockref08_Encode.T7.2 shuttlecockref08_Encode.B7 = true := by kernel_rfl
set_option maxHeartbeats 8000000 in
set_option maxRecDepth 100000 in
theorem shuttlecockref08_Encode.calls (k : Nat) (a0_0 : Int) (A0_1 : Option Addr) (c0_1 : Nat) (l0_1 : List (S46)) (A0_2 : Option Addr) (c0_2 : Nat) (l0_2 : List (S36)) (r : ByteArray) (w : World) (hr0_1 : Kd.C k46 w A0_1 l0_1.length l0_1) (hc0_1 : l0_1.length ≤ c0_1) (hr0_2 : Kd.C k36 w A0_2 l0_2.length l0_2) (hc0_2 : l0_2.length ≤ c0_2) (h : shuttlecockref08_Encode.f k a0_0 l0_1 l0_2 = some r) :
  Calls Try.prog 15 #[.agg #[.int .i64 a0_0, .slice A0_1 l0_1.length c0_1, .slice A0_2 l0_2.length c0_2]] w fun e w' => e = .returned (.string r) ∧ Below w.heap.size w w' := by
 have hu25 := Try.underlying25
 have hu36 := Try.underlying36
 have HR0_1 := Am hr0_1
 have HC0_1 := Am hc0_1
 clear hr0_1 hc0_1
 have HR0_2 := Am hr0_2
 have HC0_2 := Am hc0_2
 clear hr0_2 hc0_2
 have HB := Am (Below.refl w.heap.size w)
 have H : ((shuttlecockref08_May.f a0_0 l0_1 l0_2).bind fun t346 => (if t346 = true then (shuttlecockref08_Encode.l0 k (([a0_0, (l0_1.length : Int)] : List Int)) 0 a0_0 l0_1 l0_2) else (some (⟨#[]⟩ : ByteArray)))) = some r := h
 clear h
 replace H := ob H
 obtain ⟨t346, A20, H⟩ := H
 replace H : (if t346 = true then (shuttlecockref08_Encode.l0 k (([a0_0, (l0_1.length : Int)] : List Int)) 0 a0_0 l0_1 l0_2) else (some (⟨#[]⟩ : ByteArray))) = some r := H
 have A2 := Am A20
 clear A20
 by_cases c3 : t346 = true
 ·
  subst c3
  have H1 : (shuttlecockref08_Encode.l0 k (([a0_0, (l0_1.length : Int)] : List Int)) 0 a0_0 l0_1 l0_2) = some r := by rw [if_pos rfl] at H; exact H
  clear H
  have H := H1
  clear H1
  obtain ⟨y347, hy347⟩ : ∃ y_ : List Int, y_ = (([a0_0, (l0_1.length : Int)] : List Int)) := ⟨_, rfl⟩
  replace H : (shuttlecockref08_Encode.l0 k y347 0 a0_0 l0_1 l0_2) = some r := by first | (rw [hy347]; with_reducible exact H) | (have H2_ := (Option.bind_some _ _).symm.trans H; rw [hy347]; with_reducible exact H2_) | (have H2_ := (Option.bind_some _ _).symm.trans H; with_reducible exact H2_) | with_reducible exact H | (rw [hy347]; exact H) | exact H
  have Ny347 := Am hy347
  clear hy347
  have H' := Am H
  clear H
  go_enter Try.func15, Try.ntmps15
  go_wp2_with (first | ((with_reducible refine gate_dst (N := 1) rfl ?_); refine box_event ?hg (N := 1) ?hd (cs := #[.int .i64 a0_0, .slice A0_1 l0_1.length c0_1, .slice A0_2 l0_2.length c0_2]) (t := 25) ?hr ?_; (case hd => rfl); (case hg => rfl); (case hr => first | (go_simp; done) | (go_simp; rfl)); intro gb345 hg w4 hbox hb; have n0_ := Am (below_step (by repeat (first | (with_reducible first | exact HB.out | apply bl | apply pN | apply b1) | exact HB.out | exact HBo.out)) hb); have n1_ := Am (hbox); have n2_ := Am ((by rw [hg]; exact (below_size (by repeat (first | (with_reducible first | exact HB.out | apply bl | apply pN | apply b1) | exact HB.out | exact HBo.out))) : w.heap.size ≤ gb345)); have n3_ := Am ((by rw [hg]; exact (below_size (by repeat (first | (with_reducible first | exact HB.out | apply bl | apply pN | apply b1) | exact HB.out | exact HBo.out))) : w.heap.size ≤ gb345)); clear HB; have HB := n0_; have BK345 := n1_; have GW345 := n2_; have GE345 := n3_; clear n0_ n1_ n2_ n3_; clear hb hbox hg; have hcz5_0 : w4.cell? ⟨gb345, 0, none⟩ = some (.int .i64 a0_0) := (bc BK345.out 0).trans rfl; have hcz5_1 : w4.cell? ⟨gb345, 1, none⟩ = some (.slice A0_1 l0_1.length c0_1) := (bc BK345.out 1).trans rfl; have hcz5_2 : w4.cell? ⟨gb345, 2, none⟩ = some (.slice A0_2 l0_2.length c0_2) := (bc BK345.out 2).trans rfl; have hfz5_0 := bf BK345.out 0; have hfz5_1 := bf BK345.out 1; have hfz5_2 := bf BK345.out 2) | ((with_reducible refine gate_callee (f := 13) rfl ?_); refine goesL_ (some 8) rfl rfl Try.func13 (by kernel_rfl) rfl #[.agg #[.int .i64 a0_0, .slice A0_1 l0_1.length c0_1, .slice A0_2 l0_2.length c0_2]] rfl (by (try simp only [List.map_toArray, List.map_cons, List.map_nil]); first | done | rfl | (simp only [List.length_drop, List.length_take]; rfl)) ?_; (with_reducible refine (shuttlecockref08_May.calls a0_0 _ _ l0_1 _ _ l0_2 true _ ?side1 ?side2 ?side3 ?side4 A2.out).mono ?_); (case side1 => repeat (first | exact (Kd.C_below HR0_1.out HB.out) | (with_reducible refine Kd.C_alloc ?_ _) | (with_reducible refine Kd.C_drewN ?_ _) | (with_reducible refine Kd.C_drew ?_))); (case side2 => exact HC0_1.out); (case side3 => repeat (first | exact (Kd.C_below HR0_2.out HB.out) | (with_reducible refine Kd.C_alloc ?_ _) | (with_reducible refine Kd.C_drewN ?_ _) | (with_reducible refine Kd.C_drew ?_))); (case side4 => exact HC0_2.out); rintro e w6 ⟨rfl, hb⟩; refine ⟨_, rfl, ?_⟩; have n0_ := Am (blk_below (g := gb345) (o := .cells #[.int .i64 a0_0, .slice A0_1 l0_1.length c0_1, .slice A0_2 l0_2.length c0_2] 25 (0, 0)) (by (with_reducible repeat (first | refine bn ?_ _ | refine bd ?_ | refine ba ?_ _)); exact BK345.out) hb); have n1_ := Am (below_step (by repeat (first | (with_reducible first | exact HB.out | apply bl | apply pN | apply b1 | refine bs ?_ GE345.out) | exact HB.out | exact HBo.out)) hb); clear BK345; clear HB; have BK345 := n0_; have HB := n1_; clear n0_ n1_; (try clear hb); (try clear hb2); (try clear hk); (try clear hi); have hcz7_0 : w6.cell? ⟨gb345, 0, none⟩ = some (.int .i64 a0_0) := (bc BK345.out 0).trans rfl; have hcz7_1 : w6.cell? ⟨gb345, 1, none⟩ = some (.slice A0_1 l0_1.length c0_1) := (bc BK345.out 1).trans rfl; have hcz7_2 : w6.cell? ⟨gb345, 2, none⟩ = some (.slice A0_2 l0_2.length c0_2) := (bc BK345.out 2).trans rfl; have hfz7_0 := bf BK345.out 0; have hfz7_1 := bf BK345.out 1; have hfz7_2 := bf BK345.out 2) | ((with_reducible refine gate_dst (N := 15) rfl ?_); refine Kd.R_lit (Kd.int .i64) _ 3 ?hg (N := 15) ?hd (xs := ([a0_0, (l0_1.length : Int)] : List Int)) (inner := [.int .i64 a0_0, .int .i64 (l0_1.length : Int)]) (ok := fun _ => True) (okp := fun _ => True) ?hr ?hp (fun _ hk => hk) trivial (Below.refl _ _) (Nat.le_refl _) (by simp) ?_; (case hd => rfl); (case hg => rfl); (case hr => first | (go_simp; done) | (go_simp; rfl)); (case hp => exact (Reps.one (show Kd.M (Kd.int .i64) _ _ _ a0_0 [.int .i64 a0_0] from rfl) (Reps.one (show Kd.M (Kd.int .i64) _ _ _ (l0_1.length : Int) [.int .i64 (l0_1.length : Int)] from rfl) (Reps.none _ _)))); intro v348 w8 ho9 hb hg_ hnew_; clear hg_ hnew_; (first | rw [← Ny347.out] at ho9 | (simp only [Int.reduceToNat] at ho9; rw [← Ny347.out] at ho9)); have n0_ := Am (Kd.R_lower ho9 (below_size (by repeat (first | (with_reducible first | exact HB.out | apply bl | apply pN | apply b1 | refine bs ?_ GE345.out) | exact HB.out | exact HBo.out)))); have n1_ := Am (blk_below (g := gb345) (o := .cells #[.int .i64 a0_0, .slice A0_1 l0_1.length c0_1, .slice A0_2 l0_2.length c0_2] 25 (0, 0)) (by (with_reducible repeat (first | refine bn ?_ _ | refine bd ?_ | refine ba ?_ _)); exact BK345.out) hb); have n2_ := Am (below_step (by repeat (first | (with_reducible first | exact HB.out | apply bl | apply pN | apply b1 | refine bs ?_ GE345.out) | exact HB.out | exact HBo.out)) hb); clear BK345; clear HB; have HO349 := n0_; have BK345 := n1_; have HB := n2_; clear n0_ n1_ n2_; clear hb ho9))
  go_loopg [3, 4] k (fun kq v3 v4 w' => ∃ (x3_1 : List Int) (x4_1 : Int), v4 = .int .i64 x4_1 ∧ Aside0 (shuttlecockref08_Encode.l0 kq x3_1 x4_1 a0_0 l0_1 l0_2 = some r) ∧ Aside0 (kq ≤ k) ∧ Aside0 (Kd.R (Kd.int .i64) 3 w' w.heap.size (fun _ => True) v3 x3_1) ∧ Aside0 (w'.heap[gb345]? = some (.cells #[.int .i64 a0_0, (.slice A0_1 l0_1.length c0_1), (.slice A0_2 l0_2.length c0_2)] 25 (0, 0))) ∧ Aside0 (Below w.heap.size w w'))
  case atStart => exact ⟨(y347), (0), (by first | rfl | (simp; done) | (simp [*]; done)), H', ⟨Nat.le_refl _⟩, ⟨by (with_reducible repeat (first | apply Kd.R_alloc | apply Kd.R_drewN | apply Kd.R_drew)); exact HO349.out⟩, ⟨by (with_reducible repeat (first | refine bn ?_ _ | refine bd ?_ | refine ba ?_ _)); exact BK345.out⟩, ⟨by repeat (first | (with_reducible first | exact HB.out | apply bl | apply pN | apply b1 | refine bs ?_ GE345.out) | exact HB.out | exact HBo.out)⟩⟩
  case round =>
   clear H'
   try clear c1
   try clear p2
   try clear c3
   try clear hcz5_0
   try clear hcz5_1
   try clear hcz5_2
   try clear hcz7_0
   try clear hcz7_1
   try clear hcz7_2
   try clear hfz5_0
   try clear hfz5_1
   try clear hfz5_2
   try clear hfz7_0
   try clear hfz7_1
   try clear hfz7_2
   obtain ⟨x3_1, x4_1, rfl, HA, HK1, HO_3, BK345, HB⟩ := hrel
   cases gk with
   | zero => exact absurd HA.out (by simp [shuttlecockref08_Encode.l0])
   | succ k1 =>
    have H := HA.out
    clear HA
    simp only [shuttlecockref08_Encode.l0] at H
    by_cases c10 : x4_1 < (l0_1.length : Int)
    ·
     rw [if_pos c10] at H
     have c10b0 : decide (x4_1 < (l0_1.length : Int)) = true := decide_eq_true c10
     clear c10
     by_cases c11 : 0 ≤ x4_1
     ·
      rw [if_pos c11] at H
      have c11b0 : decide (0 ≤ x4_1) = true := decide_eq_true c11
      clear c11
      obtain ⟨y352, hy352⟩ : ∃ y_ : List Int, y_ = (([(rd_T46 l0_1 x4_1).f0, (rd_T46 l0_1 x4_1).f1] : List Int)) := ⟨_, rfl⟩
      replace H : (if x3_1.length + y352.length < 17592186044416 then (shuttlecockref08_Encode.l0 k1 (x3_1 ++ y352) (wrap64 (x4_1 + 1)) a0_0 l0_1 l0_2) else (none)) = some r := by first | (rw [hy352]; with_reducible exact H) | (have H2_ := (Option.bind_some _ _).symm.trans H; rw [hy352]; with_reducible exact H2_) | (have H2_ := (Option.bind_some _ _).symm.trans H; with_reducible exact H2_) | with_reducible exact H | (rw [hy352]; exact H) | exact H
      have Ny352 := Am hy352
      clear hy352
      by_cases c12 : x3_1.length + y352.length < 17592186044416
      ·
       rw [if_pos c12] at H
       have LMc12 := Am c12
       clear c12
       obtain ⟨y355, hy355⟩ : ∃ y_ : List Int, y_ = (x3_1 ++ y352) := ⟨_, rfl⟩
       replace H : (shuttlecockref08_Encode.l0 k1 y355 (wrap64 (x4_1 + 1)) a0_0 l0_1 l0_2) = some r := by first | (rw [hy355]; with_reducible exact H) | (have H2_ := (Option.bind_some _ _).symm.trans H; rw [hy355]; with_reducible exact H2_) | (have H2_ := (Option.bind_some _ _).symm.trans H; with_reducible exact H2_) | with_reducible exact H | (rw [hy355]; exact H) | exact H
       have Ny355 := Am hy355
       clear hy355
       have H' := Am H
       clear H
       have hcz13_0 : wr.cell? ⟨gb345, 0, none⟩ = some (.int .i64 a0_0) := (bc BK345.out 0).trans rfl
       have hcz13_1 : wr.cell? ⟨gb345, 1, none⟩ = some (.slice A0_1 l0_1.length c0_1) := (bc BK345.out 1).trans rfl
       have hcz13_2 : wr.cell? ⟨gb345, 2, none⟩ = some (.slice A0_2 l0_2.length c0_2) := (bc BK345.out 2).trans rfl
       have hfz13_0 := bf BK345.out 0
       have hfz13_1 := bf BK345.out 1
       have hfz13_2 := bf BK345.out 2
       try go_wp2
       have n0_ := Am (Kd.R_drew HO_3.out)
       have n1_ := Am (bd BK345.out)
       have n2_ := Am (b1 HB.out)
       clear HO_3
       clear BK345
       clear HB
       have HO_3 := n0_
       have BK345 := n1_
       have HB := n2_
       clear n0_ n1_ n2_
       have p350 : 0 ≤ (x4_1 : Int) := of_decide_eq_true (by first | (with_reducible assumption) | assumption)
       have q350 : x4_1 < (l0_1.length : Int) := of_decide_eq_true (by first | (with_reducible assumption) | assumption)
       obtain ⟨ad350, e350, hx350_0, hx350_1⟩ := at_T46 HR0_1.out x4_1 p350 q350
       have hw350_1 := hx350_1
       have hw350_0 := hx350_0
       cases e350
       replace hx350_0 := (HB.out.cell (World.block_lt_of_cell? w _ hx350_0)).trans hx350_0
       replace hx350_1 := (HB.out.cell (World.block_lt_of_cell? w _ hx350_1)).trans hx350_1
       replace p350 := eq_true p350
       replace q350 := eq_true q350
       have p351 : 0 ≤ (x4_1 : Int) := of_decide_eq_true (by first | (with_reducible assumption) | assumption)
       have q351 : x4_1 < (l0_1.length : Int) := of_decide_eq_true (by first | (with_reducible assumption) | assumption)
       obtain ⟨ad351, e351, hx351_0, hx351_1⟩ := at_T46 HR0_1.out x4_1 p351 q351
       have hw351_1 := hx351_1
       have hw351_0 := hx351_0
       obtain rfl : ad350 = ad351 := (by injection e351)
       replace hx351_0 := (HB.out.cell (World.block_lt_of_cell? w _ hx351_0)).trans hx351_0
       replace hx351_1 := (HB.out.cell (World.block_lt_of_cell? w _ hx351_1)).trans hx351_1
       replace p351 := eq_true p351
       replace q351 := eq_true q351
       refine start_ (n := 16) (S := fun w' => w'.cell? ⟨gb345, 0, none⟩ = some (.int .i64 a0_0) ∧ w'.cell? ⟨gb345, 1, none⟩ = some (.slice (some ad350) l0_1.length c0_1) ∧ w'.cell? ⟨gb345, 2, none⟩ = some (.slice A0_2 l0_2.length c0_2) ∧ w'.cell? (ad350.add ((x4_1).toNat * 2)) = some (.int .i64 ((rd_T46 l0_1 x4_1).f0)) ∧ w'.cell? ⟨(ad350.add ((x4_1).toNat * 2)).block, (ad350.add ((x4_1).toNat * 2)).off + 1, none⟩ = some (.int .i64 ((rd_T46 l0_1 x4_1).f1)) ∧ w'.cell? (ad350.add ((x4_1).toNat * 2)) = some (.int .i64 ((rd_T46 l0_1 x4_1).f0)) ∧ w'.cell? ⟨(ad350.add ((x4_1).toNat * 2)).block, (ad350.add ((x4_1).toNat * 2)).off + 1, none⟩ = some (.int .i64 ((rd_T46 l0_1 x4_1).f1))) (ds := []) q14_0 (by kernel_rfl) rfl rfl ⟨(bc BK345.out 0).trans rfl, (bc BK345.out 1).trans rfl, (bc BK345.out 2).trans rfl, ((HB.out.cell (World.block_lt_of_cell? w _ hw350_0)).trans hw350_0), ((HB.out.cell (World.block_lt_of_cell? w _ hw350_1)).trans hw350_1), ((HB.out.cell (World.block_lt_of_cell? w _ hw351_0)).trans hw351_0), ((HB.out.cell (World.block_lt_of_cell? w _ hw351_1)).trans hw351_1)⟩ (fun hHeld => ?_); refine with_tabW shuttlecockref08_Encode.tab7 shuttlecockref08_Encode.bits7 (fun HT_ HW_ => ?_)
       generalize wr.drew = w14 at HO_3 BK345 HB hx350_0 hx350_1 hx351_0 hx351_1 hHeld ⊢
       refine Own.pr_ 0 (some 23) q14_1 HT_ (h := ?_)
       refine Own.pr_ 1 (some 24) q14_2 HT_ (h := ?_)
       refine Own.pr_ 3 (some 26) q14_3 HT_ (h := ?_)
       refine Own.pr_ 7 (some 30) q14_4 HT_ (h := ?_)
       refine Own.pr_ 9 (some 32) q14_5 HT_ (h := ?_)
       refine Own.tk_ 2 (some 25) q14_6 HT_ HW_ hHeld (hy := by rintro w' ⟨s0, s1, s2, s3, s4, s5, s6⟩; go_simp; with_reducible rfl) (h := ?_)
       refine Own.pr_ 4 (some 27) q14_7 HT_ (h := ?_)
       refine Own.pr_ 5 (some 28) q14_8 HT_ (h := ?_)
       refine Own.tk_ 6 (some 29) q14_9 HT_ HW_ hHeld (hy := by rintro w' ⟨s0, s1, s2, s3, s4, s5, s6⟩; go_simp; with_reducible rfl) (h := ?_)
       refine Own.tk_ 8 (some 31) q14_10 HT_ HW_ hHeld (hy := by rintro w' ⟨s0, s1, s2, s3, s4, s5, s6⟩; go_simp; with_reducible rfl) (h := ?_)
       refine Own.pr_ 10 (some 33) q14_11 HT_ (h := ?_)
       refine Own.pr_ 11 (some 34) q14_12 HT_ (h := ?_)
       refine Own.tk_ 12 (some 35) q14_13 HT_ HW_ hHeld (hy := by rintro w' ⟨s0, s1, s2, s3, s4, s5, s6⟩; go_simp; with_reducible rfl) (h := ?_)
       refine one_ (i := 13) (N := some 36) q14_14 rfl rfl (one_of HT_.out (by kernel_rfl)) (by decide) (fun K hK => ?_)
       refine Kd.R_lit_step (Kd.int .i64) _ 3 ?hg (N := 36) ?hd (xs := ([(rd_T46 l0_1 x4_1).f0, (rd_T46 l0_1 x4_1).f1] : List Int)) (inner := [.int .i64 ((rd_T46 l0_1 x4_1).f0), .int .i64 ((rd_T46 l0_1 x4_1).f1)]) (ok := fun _ => True) (okp := fun _ => True) ?hr ?hp (fun _ hk => hk) trivial (Below.refl _ _) (Nat.le_refl _) (by simp) ?_; (case hd => rfl); (case hg => rfl); (case hr => first | (go_simp; done) | (go_simp; rfl)); (case hp => exact (Reps.one (show Kd.M (Kd.int .i64) _ _ _ ((rd_T46 l0_1 x4_1).f0) [.int .i64 ((rd_T46 l0_1 x4_1).f0)] from rfl) (Reps.one (show Kd.M (Kd.int .i64) _ _ _ ((rd_T46 l0_1 x4_1).f1) [.int .i64 ((rd_T46 l0_1 x4_1).f1)] from rfl) (Reps.none _ _))))
       intro v353 w15 ho16 hb hg_ hnew_
       clear hg_ hnew_
       (first | rw [← Ny352.out] at ho16 | (simp only [Int.reduceToNat] at ho16; rw [← Ny352.out] at ho16))
       have n0_ := Am (Kd.R_elder' (by (with_reducible repeat (first | apply Kd.R_alloc | apply Kd.R_drewN | apply Kd.R_drew)); exact HO_3.out) (Kd.R_base ho16) hb)
       have n1_ := Am (Kd.R_lower (Kd.R_new' ho16 (Kd.R_lt (by (with_reducible repeat (first | apply Kd.R_alloc | apply Kd.R_drewN | apply Kd.R_drew)); exact HO_3.out))) (below_size (by repeat (first | (with_reducible first | exact HB.out | apply bl | apply pN | apply b1 | refine bs ?_ GE345.out) | exact HB.out | exact HBo.out))))
       have n2_ := Am (blk_below (g := gb345) (o := .cells #[.int .i64 a0_0, .slice (some ad350) l0_1.length c0_1, .slice A0_2 l0_2.length c0_2] 25 (0, 0)) (by (with_reducible repeat (first | refine bn ?_ _ | refine bd ?_ | refine ba ?_ _)); exact BK345.out) hb)
       have n3_ := Am (below_step (by repeat (first | (with_reducible first | exact HB.out | apply bl | apply pN | apply b1 | refine bs ?_ GE345.out) | exact HB.out | exact HBo.out)) hb)
       clear HO_3
       clear BK345
       clear HB
       have HO_3 := n0_
       have HO354 := n1_
       have BK345 := n2_
       have HB := n3_
       clear n0_ n1_ n2_ n3_
       clear hb ho16
       obtain ⟨Ao18, co18, eo18⟩ := Kd.R_slice HO354.out
       (first | subst eo18 | (injection eo18 with f1_ f2_ f3_; have f4_ := f1_.symm; have f5_ := f3_.symm; clear f1_ f2_ f3_; subst f4_; subst f5_))
       refine hK.out _ _ ⟨(bc BK345.out 0).trans rfl, (bc BK345.out 1).trans rfl, (bc BK345.out 2).trans rfl, ((HB.out.cell (World.block_lt_of_cell? w _ hw350_0)).trans hw350_0), ((HB.out.cell (World.block_lt_of_cell? w _ hw350_1)).trans hw350_1), ((HB.out.cell (World.block_lt_of_cell? w _ hw351_0)).trans hw351_0), ((HB.out.cell (World.block_lt_of_cell? w _ hw351_1)).trans hw351_1)⟩ (fun hHeld => ?_)
       clear hK K
       refine norm_ (a' := ?_) ?_ ?_
       rotate_left
       ·
        show Act.put _ (some 36) _ = _
        simp only [Act.put, sI, sZ, sS, i64_w, i32_w]
        rfl
       refine one_ (i := 14) (N := some 37) q14_15 rfl rfl (one_of HT_.out (by kernel_rfl)) (by decide) (fun K hK => ?_)
       refine Kd.R_append_rows_step (Kd.int .i64) (w0 := w) w.heap.size (by rfl) (.tmp 23) (.tmp 36) 68 3 (.int .i64 0) 8 rfl Try.underlying68 info3 rfl (by decide) (by omega) u3 x3_1 y352 _ _ _ (fun k_ => some k_ ≠ (.slice Ao18 y352.length co18 : Value).ownBlock) (fun _ => False) rfl rfl ?aO ?aR (fun _ _ h => h) (fun _ h => h.elim) ?aF ?aB ?aS ?aL ?_
       (case aR => repeat (first | exact (Kd.R_reads' HO354.out).2.2 | (with_reducible refine Kd.C_alloc ?_ _) | (with_reducible refine Kd.C_drewN ?_ _) | (with_reducible refine Kd.C_drew ?_)))
       (case aB => exact (by repeat (first | (with_reducible first | exact HB.out | apply bl | apply pN | apply b1 | refine bs ?_ GE345.out) | exact HB.out | exact HBo.out)))
       (case aF => exact (fun k_ hk => Kd.fresh' (Kd.R_lt (by (with_reducible repeat (first | apply Kd.R_alloc | apply Kd.R_drewN | apply Kd.R_drew)); exact HO354.out)) k_ hk))
       (case aO => exact (by (with_reducible repeat (first | apply Kd.R_alloc | apply Kd.R_drewN | apply Kd.R_drew)); exact Kd.R_mono HO_3.out (fun _ hk => hk.2)))
       (case aS => exact (below_size (by repeat (first | (with_reducible first | exact HB.out | apply bl | apply pN | apply b1 | refine bs ?_ GE345.out) | exact HB.out | exact HBo.out))))
       (case aL => have := LMc12.out; omega)
       intro v356 w17 ho hb hg hat
       rw [← Ny355.out] at ho
       have n0_ := Am (blk_grown (g := gb345) (o := .cells #[.int .i64 a0_0, .slice (some ad350) l0_1.length c0_1, .slice A0_2 l0_2.length c0_2] 25 (0, 0)) (by (with_reducible repeat (first | refine bn ?_ _ | refine bd ?_ | refine ba ?_ _)); exact BK345.out) hg (Kd.R_ne HO_3.out BK345.out (by decide)))
       have n1_ := Am (Kd.R_after (ok := (fun _ => True)) (by (with_reducible repeat (first | apply Kd.R_alloc | apply Kd.R_drewN | apply Kd.R_drew)); exact HO354.out) hg hat)
       have n2_ := Am (hb)
       have n3_ := Am (ho)
       clear BK345
       clear HO354
       clear HB
       clear HO_3
       have BK345 := n0_
       have HO354 := n1_
       have HB := n2_
       have HO357 := n3_
       clear n0_ n1_ n2_ n3_
       clear ho hb hg hat
       refine hK.out _ _ ⟨(bc BK345.out 0).trans rfl, (bc BK345.out 1).trans rfl, (bc BK345.out 2).trans rfl, ((HB.out.cell (World.block_lt_of_cell? w _ hw350_0)).trans hw350_0), ((HB.out.cell (World.block_lt_of_cell? w _ hw350_1)).trans hw350_1), ((HB.out.cell (World.block_lt_of_cell? w _ hw351_0)).trans hw351_0), ((HB.out.cell (World.block_lt_of_cell? w _ hw351_1)).trans hw351_1)⟩ (fun hHeld => ?_)
       clear hK K
       refine norm_ (a' := ?_) ?_ ?_
       rotate_left
       ·
        show Act.put _ (some 37) _ = _
        simp only [Act.put, sI, sZ, sS, i64_w, i32_w]
        rfl
       refine Own.pr_ 15 (some 3) q14_16 HT_ (h := ?_)
       refine done_ (done_of HT_.out (by kernel_rfl)) ?_
       try go_wp2
       go_roundg k1
       case measure => have := HK1.out; omega
       case rel => exact ⟨(y355), (wrap64 (x4_1 + 1)), (by first | rfl | (simp; done) | (simp [*]; done)), H', ⟨by have := HK1.out; omega⟩, ⟨by (with_reducible repeat (first | apply Kd.R_alloc | apply Kd.R_drewN | apply Kd.R_drew)); exact Kd.R_mono HO357.out (fun _ hk => trivial)⟩, ⟨by (with_reducible repeat (first | refine bn ?_ _ | refine bd ?_ | refine ba ?_ _)); exact BK345.out⟩, ⟨by repeat (first | (with_reducible first | exact HB.out | apply bl | apply pN | apply b1 | refine bs ?_ GE345.out) | exact HB.out | exact HBo.out)⟩⟩
      ·
       rw [if_neg c12] at H
       exact absurd H (by simp)
     ·
      rw [if_neg c11] at H
      exact absurd H (by simp)
    ·
     rw [if_neg c10] at H
     have c10b0 : decide (x4_1 < (l0_1.length : Int)) = false := decide_eq_false c10
     clear c10
     by_cases c19 : x3_1.length < 17592186044416
     ·
      rw [if_pos c19] at H
      have LMc19 := Am c19
      clear c19
      obtain ⟨y358, hy358⟩ : ∃ y_ : List Int, y_ = (x3_1 ++ [(l0_2.length : Int)]) := ⟨_, rfl⟩
      replace H : (shuttlecockref08_Encode.l1 k1 y358 0 a0_0 l0_1 l0_2) = some r := by first | (rw [hy358]; with_reducible exact H) | (have H2_ := (Option.bind_some _ _).symm.trans H; rw [hy358]; with_reducible exact H2_) | (have H2_ := (Option.bind_some _ _).symm.trans H; with_reducible exact H2_) | with_reducible exact H | (rw [hy358]; exact H) | exact H
      have Ny358 := Am hy358
      clear hy358
      have H' := Am H
      clear H
      have hcz20_0 : wr.cell? ⟨gb345, 0, none⟩ = some (.int .i64 a0_0) := (bc BK345.out 0).trans rfl
      have hcz20_1 : wr.cell? ⟨gb345, 1, none⟩ = some (.slice A0_1 l0_1.length c0_1) := (bc BK345.out 1).trans rfl
      have hcz20_2 : wr.cell? ⟨gb345, 2, none⟩ = some (.slice A0_2 l0_2.length c0_2) := (bc BK345.out 2).trans rfl
      have hfz20_0 := bf BK345.out 0
      have hfz20_1 := bf BK345.out 1
      have hfz20_2 := bf BK345.out 2
      go_wp2_with (first | ((with_reducible refine gate_builtin (b := .append) (xs := #[.tmp 38, .tmp 42]) rfl ?_); at_builtin; refine Kd.R_append (Kd.int .i64) (w0 := w) w.heap.size rfl (.tmp 38) (.tmp 42) 68 3 (.int .i64 0) 8 rfl Try.underlying68 info3 rfl (by decide) (by omega) u3 x3_1 (l0_2.length : Int) [.int .i64 (l0_2.length : Int)] (fun _ => True) (fun _ => False) rfl rfl ?aP (fun _ hk => hk.elim) ?aF ?aO ?aB ?aS ?aL ?_; (case aP => exact rfl); (case aB => exact (by repeat (first | (with_reducible first | exact HB.out | apply bl | apply pN | apply b1 | refine bs ?_ GE345.out) | exact HB.out | exact HBo.out))); (case aF => exact (fun _ _ => trivial)); (case aO => exact (by (with_reducible repeat (first | apply Kd.R_alloc | apply Kd.R_drewN | apply Kd.R_drew)); exact HO_3.out)); (case aS => exact (below_size (by repeat (first | (with_reducible first | exact HB.out | apply bl | apply pN | apply b1 | refine bs ?_ GE345.out) | exact HB.out | exact HBo.out)))); (case aL => have := LMc19.out; omega); intro v359 w21 ho hb hg hat; rw [← Ny358.out] at ho; have n0_ := Am (blk_grown (g := gb345) (o := .cells #[.int .i64 a0_0, .slice A0_1 l0_1.length c0_1, .slice A0_2 l0_2.length c0_2] 25 (0, 0)) (by (with_reducible repeat (first | refine bn ?_ _ | refine bd ?_ | refine ba ?_ _)); exact BK345.out) hg (Kd.R_ne HO_3.out BK345.out (by decide))); have n1_ := Am (hb); have n2_ := Am (ho); clear BK345; clear HB; clear HO_3; have BK345 := n0_; have HB := n1_; have HO360 := n2_; clear n0_ n1_ n2_; clear ho hb hg hat))
      go_loopg [3, 5] k1 (fun kq v3 v5 w' => ∃ (x3_2 : List Int) (x5_2 : Int), v5 = .int .i64 x5_2 ∧ Aside0 (shuttlecockref08_Encode.l1 kq x3_2 x5_2 a0_0 l0_1 l0_2 = some r) ∧ Aside0 (kq ≤ k1) ∧ Aside0 (Kd.R (Kd.int .i64) 3 w' w.heap.size (fun _ => True) v3 x3_2) ∧ Aside0 (w'.heap[gb345]? = some (.cells #[.int .i64 a0_0, (.slice A0_1 l0_1.length c0_1), (.slice A0_2 l0_2.length c0_2)] 25 (0, 0))) ∧ Aside0 (Below w.heap.size w w'))
      case atStart => exact ⟨(y358), (0), (by first | rfl | (simp; done) | (simp [*]; done)), H', ⟨Nat.le_refl _⟩, ⟨by (with_reducible repeat (first | apply Kd.R_alloc | apply Kd.R_drewN | apply Kd.R_drew)); exact HO360.out⟩, ⟨by (with_reducible repeat (first | refine bn ?_ _ | refine bd ?_ | refine ba ?_ _)); exact BK345.out⟩, ⟨by repeat (first | (with_reducible first | exact HB.out | apply bl | apply pN | apply b1 | refine bs ?_ GE345.out) | exact HB.out | exact HBo.out)⟩⟩
      case round =>
       clear H'
       try clear c1
       try clear p2
       try clear c3
       try clear p3
       try clear q3
       try clear hx3
       try clear p6
       try clear c10
       try clear c10b0
       try clear c11
       try clear c11b0
       try clear c12
       try clear c13
       try clear c15
       try clear c19
       try clear hcz13_0
       try clear hcz13_1
       try clear hcz13_2
       try clear hcz20_0
       try clear hcz20_1
       try clear hcz20_2
       try clear hcz5_0
       try clear hcz5_1
       try clear hcz5_2
       try clear hcz7_0
       try clear hcz7_1
       try clear hcz7_2
       try clear hfz13_0
       try clear hfz13_1
       try clear hfz13_2
       try clear hfz20_0
       try clear hfz20_1
       try clear hfz20_2
       try clear hfz5_0
       try clear hfz5_1
       try clear hfz5_2
       try clear hfz7_0
       try clear hfz7_1
       try clear hfz7_2
       try clear hx350_0
       try clear hx350_1
       try clear hx351_0
       try clear hx351_1
       try clear p2
       try clear p350
       try clear p351
       try clear q350
       try clear q351
       obtain ⟨x3_2, x5_2, rfl, HA, HK2, HO_3, BK345, HB⟩ := hrel
       cases gk with
       | zero => exact absurd HA.out (by simp [shuttlecockref08_Encode.l1])
       | succ k2 =>
        have H := HA.out
        clear HA
        simp only [shuttlecockref08_Encode.l1] at H
        by_cases c22 : x5_2 < (l0_2.length : Int)
        ·
         rw [if_pos c22] at H
         have c22b0 : decide (x5_2 < (l0_2.length : Int)) = true := decide_eq_true c22
         clear c22
         by_cases c23 : 0 ≤ x5_2
         ·
          rw [if_pos c23] at H
          have c23b0 : decide (0 ≤ x5_2) = true := decide_eq_true c23
          clear c23
          obtain ⟨y363, hy363⟩ : ∃ y_ : List Int, y_ = (([(rd_T36 l0_2 x5_2).f0, (rd_T36 l0_2 x5_2).f1, (rd_T36 l0_2 x5_2).f2, (rd_T36 l0_2 x5_2).f3] : List Int)) := ⟨_, rfl⟩
          replace H : (if x3_2.length + y363.length < 17592186044416 then (shuttlecockref08_Encode.l1 k2 (x3_2 ++ y363) (wrap64 (x5_2 + 1)) a0_0 l0_1 l0_2) else (none)) = some r := by first | (rw [hy363]; with_reducible exact H) | (have H2_ := (Option.bind_some _ _).symm.trans H; rw [hy363]; with_reducible exact H2_) | (have H2_ := (Option.bind_some _ _).symm.trans H; with_reducible exact H2_) | with_reducible exact H | (rw [hy363]; exact H) | exact H
          have Ny363 := Am hy363
          clear hy363
          by_cases c24 : x3_2.length + y363.length < 17592186044416
          ·
           rw [if_pos c24] at H
           have LMc24 := Am c24
           clear c24
           obtain ⟨y366, hy366⟩ : ∃ y_ : List Int, y_ = (x3_2 ++ y363) := ⟨_, rfl⟩
           replace H : (shuttlecockref08_Encode.l1 k2 y366 (wrap64 (x5_2 + 1)) a0_0 l0_1 l0_2) = some r := by first | (rw [hy366]; with_reducible exact H) | (have H2_ := (Option.bind_some _ _).symm.trans H; rw [hy366]; with_reducible exact H2_) | (have H2_ := (Option.bind_some _ _).symm.trans H; with_reducible exact H2_) | with_reducible exact H | (rw [hy366]; exact H) | exact H
           have Ny366 := Am hy366
           clear hy366
           have H' := Am H
           clear H
           have hcz25_0 : wr.cell? ⟨gb345, 0, none⟩ = some (.int .i64 a0_0) := (bc BK345.out 0).trans rfl
           have hcz25_1 : wr.cell? ⟨gb345, 1, none⟩ = some (.slice A0_1 l0_1.length c0_1) := (bc BK345.out 1).trans rfl
           have hcz25_2 : wr.cell? ⟨gb345, 2, none⟩ = some (.slice A0_2 l0_2.length c0_2) := (bc BK345.out 2).trans rfl
           have hfz25_0 := bf BK345.out 0
           have hfz25_1 := bf BK345.out 1
           have hfz25_2 := bf BK345.out 2
           have p361 : 0 ≤ (x5_2 : Int) := of_decide_eq_true (by first | (with_reducible assumption) | assumption)
           have q361 : x5_2 < (l0_2.length : Int) := of_decide_eq_true (by first | (with_reducible assumption) | assumption)
           obtain ⟨ad361, e361, hx361_0, hx361_1, hx361_2, hx361_3⟩ := at_T36 HR0_2.out x5_2 p361 q361
           cases e361
           replace hx361_0 := (HB.out.cell (World.block_lt_of_cell? w _ hx361_0)).trans hx361_0
           replace hx361_1 := (HB.out.cell (World.block_lt_of_cell? w _ hx361_1)).trans hx361_1
           replace hx361_2 := (HB.out.cell (World.block_lt_of_cell? w _ hx361_2)).trans hx361_2
           replace hx361_3 := (HB.out.cell (World.block_lt_of_cell? w _ hx361_3)).trans hx361_3
           replace p361 := eq_true p361
           replace q361 := eq_true q361
           go_wp2_with (first | ((with_reducible refine gate_dst (N := 6) rfl ?_); refine box_event ?hg (N := 6) ?hd (cs := #[.int .i64 0, .int .i64 0, .int .i64 0, .int .i64 0]) (t := 36) ?hr ?_; (case hd => rfl); (case hg => rfl); (case hr => first | (go_simp; done) | (go_simp; rfl)); intro gb362 hg w26 hbox hb; have n0_ := Am (Kd.R_below (by (with_reducible repeat (first | apply Kd.R_alloc | apply Kd.R_drewN | apply Kd.R_drew)); exact HO_3.out) hb); have n1_ := Am (blk_below (g := gb345) (o := .cells #[.int .i64 a0_0, .slice A0_1 l0_1.length c0_1, .slice (some ad361) l0_2.length c0_2] 25 (0, 0)) (by (with_reducible repeat (first | refine bn ?_ _ | refine bd ?_ | refine ba ?_ _)); exact BK345.out) hb); have n2_ := Am (below_step (by repeat (first | (with_reducible first | exact HB.out | apply bl | apply pN | apply b1 | refine bs ?_ GE345.out) | exact HB.out | exact HBo.out)) hb); have n3_ := Am (hbox); have n4_ := Am ((by rw [hg]; exact (below_size (by repeat (first | (with_reducible first | exact HB.out | apply bl | apply pN | apply b1 | refine bs ?_ GE345.out) | exact HB.out | exact HBo.out))) : w.heap.size ≤ gb362)); have n5_ := Am ((by rw [hg]; exact (below_size (by repeat (first | (with_reducible first | exact HB.out | apply bl | apply pN | apply b1 | refine bs ?_ GE345.out) | exact HB.out | exact HBo.out))) : w.heap.size ≤ gb362)); have n6_ := Am ((by rw [hg]; exact Nat.ne_of_lt (blk_lt (g := gb345) (o := .cells #[.int .i64 a0_0, .slice A0_1 l0_1.length c0_1, .slice (some ad361) l0_2.length c0_2] 25 (0, 0)) (by (with_reducible repeat (first | refine bn ?_ _ | refine bd ?_ | refine ba ?_ _)); exact BK345.out)) : gb345 ≠ gb362)); have n7_ := Am ((by rw [hg]; exact Nat.ne_of_gt (blk_lt (g := gb345) (o := .cells #[.int .i64 a0_0, .slice A0_1 l0_1.length c0_1, .slice (some ad361) l0_2.length c0_2] 25 (0, 0)) (by (with_reducible repeat (first | refine bn ?_ _ | refine bd ?_ | refine ba ?_ _)); exact BK345.out)) : gb362 ≠ gb345)); clear HO_3; clear BK345; clear HB; have HO_3 := n0_; have BK345 := n1_; have HB := n2_; have BK362 := n3_; have GW362 := n4_; have GE362 := n5_; have NB345_362 := n6_; have NB362_345 := n7_; clear n0_ n1_ n2_ n3_ n4_ n5_ n6_ n7_; clear hb hbox hg; have hnb27 := NB362_345.out; have hnc27 := NB345_362.out; have hcz28_0 : w26.cell? ⟨gb362, 0, none⟩ = some (.int .i64 0) := (bc BK362.out 0).trans rfl; have hcz28_1 : w26.cell? ⟨gb362, 1, none⟩ = some (.int .i64 0) := (bc BK362.out 1).trans rfl; have hcz28_2 : w26.cell? ⟨gb362, 2, none⟩ = some (.int .i64 0) := (bc BK362.out 2).trans rfl; have hcz28_3 : w26.cell? ⟨gb362, 3, none⟩ = some (.int .i64 0) := (bc BK362.out 3).trans rfl; have hfz28_0 := bf BK362.out 0; have hfz28_1 := bf BK362.out 1; have hfz28_2 := bf BK362.out 2; have hfz28_3 := bf BK362.out 3) | ((with_reducible refine gate_dst (N := 65) rfl ?_); refine Kd.R_lit (Kd.int .i64) _ 3 ?hg (N := 65) ?hd (xs := ([(rd_T36 l0_2 x5_2).f0, (rd_T36 l0_2 x5_2).f1, (rd_T36 l0_2 x5_2).f2, (rd_T36 l0_2 x5_2).f3] : List Int)) (inner := [.int .i64 ((rd_T36 l0_2 x5_2).f0), .int .i64 ((rd_T36 l0_2 x5_2).f1), .int .i64 ((rd_T36 l0_2 x5_2).f2), .int .i64 ((rd_T36 l0_2 x5_2).f3)]) (ok := fun _ => True) (okp := fun _ => True) ?hr ?hp (fun _ hk => hk) trivial (Below.refl _ _) (Nat.le_refl _) (by simp) ?_; (case hd => rfl); (case hg => rfl); (case hr => first | (go_simp; done) | (go_simp; rfl)); (case hp => exact (Reps.one (show Kd.M (Kd.int .i64) _ _ _ ((rd_T36 l0_2 x5_2).f0) [.int .i64 ((rd_T36 l0_2 x5_2).f0)] from rfl) (Reps.one (show Kd.M (Kd.int .i64) _ _ _ ((rd_T36 l0_2 x5_2).f1) [.int .i64 ((rd_T36 l0_2 x5_2).f1)] from rfl) (Reps.one (show Kd.M (Kd.int .i64) _ _ _ ((rd_T36 l0_2 x5_2).f2) [.int .i64 ((rd_T36 l0_2 x5_2).f2)] from rfl) (Reps.one (show Kd.M (Kd.int .i64) _ _ _ ((rd_T36 l0_2 x5_2).f3) [.int .i64 ((rd_T36 l0_2 x5_2).f3)] from rfl) (Reps.none _ _)))))); intro v364 w29 ho30 hb hg_ hnew_; clear hg_ hnew_; (first | rw [← Ny363.out] at ho30 | (simp only [Int.reduceToNat] at ho30; rw [← Ny363.out] at ho30)); have n0_ := Am (Kd.R_elder' (by (with_reducible repeat (first | apply Kd.R_alloc | apply Kd.R_drewN | apply Kd.R_drew)); exact (Kd.R_mono (Kd.R_far (p := ⟨gb362, 3, none⟩) (Kd.R_far (p := ⟨gb362, 2, none⟩) (Kd.R_far (p := ⟨gb362, 1, none⟩) (Kd.R_far (p := ⟨gb362, 0, none⟩) (Kd.R_types HO_3.out BK362.out (by decide)) (fun _ hk => hk.2) (.int .i64 ((rd_T36 l0_2 x5_2).f0))) (fun _ hk => hk.2) (.int .i64 ((rd_T36 l0_2 x5_2).f1))) (fun _ hk => hk.2) (.int .i64 ((rd_T36 l0_2 x5_2).f2))) (fun _ hk => hk.2) (.int .i64 ((rd_T36 l0_2 x5_2).f3))) (fun _ h_ => h_.1))) (Kd.R_base ho30) hb); have n1_ := Am (Kd.R_lower (Kd.R_new' ho30 (Kd.R_lt (by (with_reducible repeat (first | apply Kd.R_alloc | apply Kd.R_drewN | apply Kd.R_drew)); exact (Kd.R_mono (Kd.R_far (p := ⟨gb362, 3, none⟩) (Kd.R_far (p := ⟨gb362, 2, none⟩) (Kd.R_far (p := ⟨gb362, 1, none⟩) (Kd.R_far (p := ⟨gb362, 0, none⟩) (Kd.R_types HO_3.out BK362.out (by decide)) (fun _ hk => hk.2) (.int .i64 ((rd_T36 l0_2 x5_2).f0))) (fun _ hk => hk.2) (.int .i64 ((rd_T36 l0_2 x5_2).f1))) (fun _ hk => hk.2) (.int .i64 ((rd_T36 l0_2 x5_2).f2))) (fun _ hk => hk.2) (.int .i64 ((rd_T36 l0_2 x5_2).f3))) (fun _ h_ => h_.1))))) (below_size (by repeat (first | (with_reducible first | exact HB.out | apply bl | apply pN | apply b1 | refine bs ?_ GE345.out | refine bs ?_ GE362.out) | exact HB.out | exact HBo.out)))); have n2_ := Am (blk_below (g := gb345) (o := .cells #[.int .i64 a0_0, .slice A0_1 l0_1.length c0_1, .slice (some ad361) l0_2.length c0_2] 25 (0, 0)) (by (with_reducible repeat (first | refine bn ?_ _ | refine bd ?_ | refine ba ?_ _)); refine blk_far ?_ NB345_362.out _; (with_reducible repeat (first | refine bn ?_ _ | refine bd ?_ | refine ba ?_ _)); refine blk_far ?_ NB345_362.out _; (with_reducible repeat (first | refine bn ?_ _ | refine bd ?_ | refine ba ?_ _)); refine blk_far ?_ NB345_362.out _; (with_reducible repeat (first | refine bn ?_ _ | refine bd ?_ | refine ba ?_ _)); refine blk_far ?_ NB345_362.out _; (with_reducible repeat (first | refine bn ?_ _ | refine bd ?_ | refine ba ?_ _)); exact BK345.out) hb); have n3_ := Am (blk_below (g := gb362) (o := .cells #[.int .i64 ((rd_T36 l0_2 x5_2).f0), .int .i64 ((rd_T36 l0_2 x5_2).f1), .int .i64 ((rd_T36 l0_2 x5_2).f2), .int .i64 ((rd_T36 l0_2 x5_2).f3)] 36 (0, 0)) (by (with_reducible repeat (first | refine bn ?_ _ | refine bd ?_ | refine ba ?_ _)); refine blk_put (cs := #[.int .i64 ((rd_T36 l0_2 x5_2).f0), .int .i64 ((rd_T36 l0_2 x5_2).f1), .int .i64 ((rd_T36 l0_2 x5_2).f2), .int .i64 0]) ?_ 3 _ rfl; (with_reducible repeat (first | refine bn ?_ _ | refine bd ?_ | refine ba ?_ _)); refine blk_put (cs := #[.int .i64 ((rd_T36 l0_2 x5_2).f0), .int .i64 ((rd_T36 l0_2 x5_2).f1), .int .i64 0, .int .i64 0]) ?_ 2 _ rfl; (with_reducible repeat (first | refine bn ?_ _ | refine bd ?_ | refine ba ?_ _)); refine blk_put (cs := #[.int .i64 ((rd_T36 l0_2 x5_2).f0), .int .i64 0, .int .i64 0, .int .i64 0]) ?_ 1 _ rfl; (with_reducible repeat (first | refine bn ?_ _ | refine bd ?_ | refine ba ?_ _)); refine blk_put (cs := #[.int .i64 0, .int .i64 0, .int .i64 0, .int .i64 0]) ?_ 0 _ rfl; (with_reducible repeat (first | refine bn ?_ _ | refine bd ?_ | refine ba ?_ _)); exact BK362.out) hb); have n4_ := Am (below_step (by repeat (first | (with_reducible first | exact HB.out | apply bl | apply pN | apply b1 | refine bs ?_ GE345.out | refine bs ?_ GE362.out) | exact HB.out | exact HBo.out)) hb); clear HO_3; clear BK345; clear BK362; clear HB; have HO_3 := n0_; have HO365 := n1_; have BK345 := n2_; have BK362 := n3_; have HB := n4_; clear n0_ n1_ n2_ n3_ n4_; clear hb ho30; obtain ⟨Ao32, co32, eo32⟩ := Kd.R_slice HO365.out; subst eo32) | ((with_reducible refine gate_builtin (b := .append) (xs := #[.tmp 56, .tmp 65]) rfl ?_); at_builtin; refine Kd.R_append_rows (Kd.int .i64) (w0 := w) w.heap.size rfl (.tmp 56) (.tmp 65) 68 3 (.int .i64 0) 8 rfl Try.underlying68 info3 rfl (by decide) (by omega) u3 x3_2 y363 _ _ _ (fun k_ => some k_ ≠ (.slice Ao32 y363.length co32 : Value).ownBlock) (fun _ => False) rfl rfl ?aO ?aR (fun _ _ h => h) (fun _ h => h.elim) ?aF ?aB ?aS ?aL ?_; (case aR => repeat (first | exact (Kd.R_reads' HO365.out).2.2 | (with_reducible refine Kd.C_alloc ?_ _) | (with_reducible refine Kd.C_drewN ?_ _) | (with_reducible refine Kd.C_drew ?_))); (case aB => exact (by repeat (first | (with_reducible first | exact HB.out | apply bl | apply pN | apply b1 | refine bs ?_ GE345.out | refine bs ?_ GE362.out) | exact HB.out | exact HBo.out))); (case aF => exact (fun k_ hk => Kd.fresh' (Kd.R_lt (by (with_reducible repeat (first | apply Kd.R_alloc | apply Kd.R_drewN | apply Kd.R_drew)); exact HO365.out)) k_ hk)); (case aO => exact (by (with_reducible repeat (first | apply Kd.R_alloc | apply Kd.R_drewN | apply Kd.R_drew)); exact Kd.R_mono HO_3.out (fun _ hk => hk.2))); (case aS => exact (below_size (by repeat (first | (with_reducible first | exact HB.out | apply bl | apply pN | apply b1 | refine bs ?_ GE345.out | refine bs ?_ GE362.out) | exact HB.out | exact HBo.out)))); (case aL => have := LMc24.out; omega); intro v367 w31 ho hb hg hat; rw [← Ny366.out] at ho; have n0_ := Am (blk_grown (g := gb345) (o := .cells #[.int .i64 a0_0, .slice A0_1 l0_1.length c0_1, .slice (some ad361) l0_2.length c0_2] 25 (0, 0)) (by (with_reducible repeat (first | refine bn ?_ _ | refine bd ?_ | refine ba ?_ _)); exact BK345.out) hg (Kd.R_ne HO_3.out BK345.out (by decide))); have n1_ := Am (blk_grown (g := gb362) (o := .cells #[.int .i64 ((rd_T36 l0_2 x5_2).f0), .int .i64 ((rd_T36 l0_2 x5_2).f1), .int .i64 ((rd_T36 l0_2 x5_2).f2), .int .i64 ((rd_T36 l0_2 x5_2).f3)] 36 (0, 0)) (by (with_reducible repeat (first | refine bn ?_ _ | refine bd ?_ | refine ba ?_ _)); exact BK362.out) hg (Kd.R_ne HO_3.out BK362.out (by decide))); have n2_ := Am (Kd.R_after (ok := (fun _ => True)) (by (with_reducible repeat (first | apply Kd.R_alloc | apply Kd.R_drewN | apply Kd.R_drew)); exact HO365.out) hg hat); have n3_ := Am (hb); have n4_ := Am (ho); clear BK345; clear BK362; clear HO365; clear HB; clear HO_3; have BK345 := n0_; have BK362 := n1_; have HO365 := n2_; have HB := n3_; have HO368 := n4_; clear n0_ n1_ n2_ n3_ n4_; clear ho hb hg hat))
           go_roundg k2
           case measure => have := HK1.out; have := HK2.out; omega
           case rel => exact ⟨(y366), (wrap64 (x5_2 + 1)), (by first | rfl | (simp; done) | (simp [*]; done)), H', ⟨by have := HK1.out; have := HK2.out; omega⟩, ⟨by (with_reducible repeat (first | apply Kd.R_alloc | apply Kd.R_drewN | apply Kd.R_drew)); exact Kd.R_mono HO368.out (fun _ hk => trivial)⟩, ⟨by (with_reducible repeat (first | refine bn ?_ _ | refine bd ?_ | refine ba ?_ _)); exact BK345.out⟩, ⟨by repeat (first | (with_reducible first | exact HB.out | apply bl | apply pN | apply b1 | refine bs ?_ GE345.out | refine bs ?_ GE362.out) | exact HB.out | exact HBo.out)⟩⟩
          ·
           rw [if_neg c24] at H
           exact absurd H (by simp)
         ·
          rw [if_neg c23] at H
          exact absurd H (by simp)
        ·
         rw [if_neg c22] at H
         have c22b0 : decide (x5_2 < (l0_2.length : Int)) = false := decide_eq_false c22
         clear c22
         replace H := ob H
         obtain ⟨t369, A330, H⟩ := H
         replace H : (some t369) = some r := H
         have A33 := Am A330
         clear A330
         obtain rfl := Option.some.inj H
         have hcz34_0 : wr.cell? ⟨gb345, 0, none⟩ = some (.int .i64 a0_0) := (bc BK345.out 0).trans rfl
         have hcz34_1 : wr.cell? ⟨gb345, 1, none⟩ = some (.slice A0_1 l0_1.length c0_1) := (bc BK345.out 1).trans rfl
         have hcz34_2 : wr.cell? ⟨gb345, 2, none⟩ = some (.slice A0_2 l0_2.length c0_2) := (bc BK345.out 2).trans rfl
         have hfz34_0 := bf BK345.out 0
         have hfz34_1 := bf BK345.out 1
         have hfz34_2 := bf BK345.out 2
         obtain ⟨Ao35, co35, eo35⟩ := Kd.R_slice HO_3.out
         subst eo35
         go_wp2_with (first | ((with_reducible refine gate_callee (f := 31) rfl ?_); refine goesL_ (some 68) rfl rfl Try.func31 (by kernel_rfl) rfl #[.slice Ao35 x3_2.length co35] rfl (by (try simp only [List.map_toArray, List.map_cons, List.map_nil]); first | done | rfl | (simp only [List.length_drop, List.length_take]; rfl)) ?_; (with_reducible refine (shuttlecockref02_Nums.calls k2 _ _ x3_2 t369 _ ?side1 ?side2 A33.out).mono ?_); (case side1 => repeat (first | exact (Kd.R_reads' HO_3.out).2.2 | (with_reducible refine Kd.C_alloc ?_ _) | (with_reducible refine Kd.C_drewN ?_ _) | (with_reducible refine Kd.C_drew ?_))); (case side2 => exact (Kd.R_reads' HO_3.out).2.1); rintro e w36 ⟨rfl, hb⟩; refine ⟨_, rfl, ?_⟩; have n0_ := Am (Kd.R_below (by (with_reducible repeat (first | apply Kd.R_alloc | apply Kd.R_drewN | apply Kd.R_drew)); exact HO_3.out) hb); have n1_ := Am (blk_below (g := gb345) (o := .cells #[.int .i64 a0_0, .slice A0_1 l0_1.length c0_1, .slice A0_2 l0_2.length c0_2] 25 (0, 0)) (by (with_reducible repeat (first | refine bn ?_ _ | refine bd ?_ | refine ba ?_ _)); exact BK345.out) hb); have n2_ := Am (below_step (by repeat (first | (with_reducible first | exact HB.out | apply bl | apply pN | apply b1 | refine bs ?_ GE345.out) | exact HB.out | exact HBo.out)) hb); clear HO_3; clear BK345; clear HB; have HO_3 := n0_; have BK345 := n1_; have HB := n2_; clear n0_ n1_ n2_; (try clear hb); (try clear hb2); (try clear hk); (try clear hi)))
         go_ret
         exact ⟨by first | rfl | (simp [errW_none, errW_some] <;> rfl) | (simp [*, errW_none, errW_some] <;> rfl) | (simp [Aid.ne_nil, Aid.eq_nil, errW_none, errW_some]; done), by repeat (first | (with_reducible first | exact HB.out | apply bl | apply pN | apply b1 | refine bs ?_ GE345.out) | exact HB.out | exact HBo.out)⟩
     ·
      rw [if_neg c19] at H
      exact absurd H (by simp)
 ·
  replace c3 := Bool.eq_false_iff.mpr c3
  subst c3
  have H1 : (some (⟨#[]⟩ : ByteArray)) = some r := by rw [if_neg (show ¬ (false = true) by decide)] at H; exact H
  clear H
  have H := H1
  clear H1
  obtain rfl := Option.some.inj H
  go_enter Try.func15, Try.ntmps15
  go_wp2_with (first | ((with_reducible refine gate_dst (N := 1) rfl ?_); refine box_event ?hg (N := 1) ?hd (cs := #[.int .i64 a0_0, .slice A0_1 l0_1.length c0_1, .slice A0_2 l0_2.length c0_2]) (t := 25) ?hr ?_; (case hd => rfl); (case hg => rfl); (case hr => first | (go_simp; done) | (go_simp; rfl)); intro gb345 hg w37 hbox hb; have n0_ := Am (below_step (by repeat (first | (with_reducible first | exact HB.out | apply bl | apply pN | apply b1) | exact HB.out | exact HBo.out)) hb); have n1_ := Am (hbox); have n2_ := Am ((by rw [hg]; exact (below_size (by repeat (first | (with_reducible first | exact HB.out | apply bl | apply pN | apply b1) | exact HB.out | exact HBo.out))) : w.heap.size ≤ gb345)); have n3_ := Am ((by rw [hg]; exact (below_size (by repeat (first | (with_reducible first | exact HB.out | apply bl | apply pN | apply b1) | exact HB.out | exact HBo.out))) : w.heap.size ≤ gb345)); clear HB; have HB := n0_; have BK345 := n1_; have GW345 := n2_; have GE345 := n3_; clear n0_ n1_ n2_ n3_; clear hb hbox hg; have hcz38_0 : w37.cell? ⟨gb345, 0, none⟩ = some (.int .i64 a0_0) := (bc BK345.out 0).trans rfl; have hcz38_1 : w37.cell? ⟨gb345, 1, none⟩ = some (.slice A0_1 l0_1.length c0_1) := (bc BK345.out 1).trans rfl; have hcz38_2 : w37.cell? ⟨gb345, 2, none⟩ = some (.slice A0_2 l0_2.length c0_2) := (bc BK345.out 2).trans rfl; have hfz38_0 := bf BK345.out 0; have hfz38_1 := bf BK345.out 1; have hfz38_2 := bf BK345.out 2) | ((with_reducible refine gate_callee (f := 13) rfl ?_); refine goesL_ (some 8) rfl rfl Try.func13 (by kernel_rfl) rfl #[.agg #[.int .i64 a0_0, .slice A0_1 l0_1.length c0_1, .slice A0_2 l0_2.length c0_2]] rfl (by (try simp only [List.map_toArray, List.map_cons, List.map_nil]); first | done | rfl | (simp only [List.length_drop, List.length_take]; rfl)) ?_; (with_reducible refine (shuttlecockref08_May.calls a0_0 _ _ l0_1 _ _ l0_2 false _ ?side1 ?side2 ?side3 ?side4 A2.out).mono ?_); (case side1 => repeat (first | exact (Kd.C_below HR0_1.out HB.out) | (with_reducible refine Kd.C_alloc ?_ _) | (with_reducible refine Kd.C_drewN ?_ _) | (with_reducible refine Kd.C_drew ?_))); (case side2 => exact HC0_1.out); (case side3 => repeat (first | exact (Kd.C_below HR0_2.out HB.out) | (with_reducible refine Kd.C_alloc ?_ _) | (with_reducible refine Kd.C_drewN ?_ _) | (with_reducible refine Kd.C_drew ?_))); (case side4 => exact HC0_2.out); rintro e w39 ⟨rfl, hb⟩; refine ⟨_, rfl, ?_⟩; have n0_ := Am (blk_below (g := gb345) (o := .cells #[.int .i64 a0_0, .slice A0_1 l0_1.length c0_1, .slice A0_2 l0_2.length c0_2] 25 (0, 0)) (by (with_reducible repeat (first | refine bn ?_ _ | refine bd ?_ | refine ba ?_ _)); exact BK345.out) hb); have n1_ := Am (below_step (by repeat (first | (with_reducible first | exact HB.out | apply bl | apply pN | apply b1 | refine bs ?_ GE345.out) | exact HB.out | exact HBo.out)) hb); clear BK345; clear HB; have BK345 := n0_; have HB := n1_; clear n0_ n1_; (try clear hb); (try clear hb2); (try clear hk); (try clear hi)))
  go_ret
  exact ⟨by first | rfl | (simp [errW_none, errW_some] <;> rfl) | (simp [*, errW_none, errW_some] <;> rfl) | (simp [Aid.ne_nil, Aid.eq_nil, errW_none, errW_some]; done), by repeat (first | (with_reducible first | exact HB.out | apply bl | apply pN | apply b1 | refine bs ?_ GE345.out) | exact HB.out | exact HBo.out)⟩

end Go.Proofs.Ythfdhoegboeaeaa.Q
