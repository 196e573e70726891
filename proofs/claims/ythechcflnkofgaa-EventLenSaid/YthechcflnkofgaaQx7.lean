-- printed by a program of this session (NOTES: hprint); not the kit's print
-- minified
-- halved
import Derived.Test.YthechcflnkofgaaAl
import Derived.Test.YthechcflnkofgaaQx0
import Derived.Test.YthechcflnkofgaaQx1
import Derived.Test.YthechcflnkofgaaQx5
import Derived.Test.YthechcflnkofgaaQx6
namespace Go.Proofs.Ythechcflnkofgaa.Q
open Go.RowKit Go.Proofs.YthechcflnkofgaaW.PrintWords Go.Proofs.YthechcflnkofgaaW.PrintLast Go.Proofs.YthechcflnkofgaaW.PrintMore
attribute [local go_sem] max2_int min2_int max_two min_two max_three min_three max_four min_four   -- for this text's walks alone
set_option linter.unusedVariables false
set_option linter.unusedSimpArgs false

def q7_0 : Array Bool := let o := true; let z := false; #[z,z,z,z,z,z,z,z,z,z]
def q7_1 : Array Bool := let o := true; let z := false; #[o,z,z,z,z,z,z,z,z,z]
def q7_2 : Array Bool := let o := true; let z := false; #[o,z,z,z,z,o,z,z,z,z]
def q7_3 : Array Bool := let o := true; let z := false; #[o,o,z,z,z,o,z,z,z,z]
def q7_4 : Array Bool := let o := true; let z := false; #[o,o,o,z,z,o,z,z,z,z]
def q7_5 : Array Bool := let o := true; let z := false; #[o,o,o,z,z,o,o,z,z,z]
def q7_6 : Array Bool := let o := true; let z := false; #[o,o,o,o,o,o,o,o,z,z]
def q7_7 : Array Bool := let o := true; let z := false; #[o,o,o,o,z,o,o,z,z,z]
def q7_8 : Array Bool := let o := true; let z := false; #[o,o,o,z,z,o,o,o,z,z]
def q7_9 : Array Bool := let o := true; let z := false; #[o,o,o,o,o,o,o,z,z,z]
def q7_10 : Array Bool := let o := true; let z := false; #[o,o,o,o,z,o,o,o,z,z]
def q7_11 : Array Bool := let o := true; let z := false; #[o,o,o,o,o,o,o,o,o,z]
def q7_12 : Array Bool := let o := true; let z := false; #[o,o,o,o,o,o,o,o,o,o]
/-! ### event_Encode: function 14 -/
def event_Encode.f (k : Nat) (a0_0 : Int) (a0_1 : Int) (l0_2 : List Int) (a0_3 : ByteArray) : Option (ByteArray) := (event_May.f a0_0 a0_1 l0_2 a0_3).bind fun t233 => (if t233 = true then ((some (([(a0_0) % 256] : List Int) : List Int)).bind fun y234 => ((varint_Put.f k a0_1).bind fun t237 => (if (strOfNums y234).size + t237.size ≤ 9223372036854775807 then ((kind_Exp.f a0_0).bind fun t238 => (if t238 = true then ((wire_Text.f k a0_3).bind fun t239 => (if ((strOfNums y234) ++ t237).size + t239.size ≤ 9223372036854775807 then (some (((strOfNums y234) ++ t237) ++ t239)) else (none))) else ((wire_Nums.f k l0_2).bind fun t240 => (if ((strOfNums y234) ++ t237).size + t240.size ≤ 9223372036854775807 then (some (((strOfNums y234) ++ t237) ++ t240)) else (none))))) else (none)))) else (some (⟨#[]⟩ : ByteArray)))
theorem event_Encode.mono : ∀ a0 a1 a2 a3 k, LeO (event_Encode.f k a0 a1 a2 a3) (event_Encode.f (k + 1) a0 a1 a2 a3) := by
 intro a0 a1 a2 a3 k
 unfold event_Encode.f
 repeat' first
   | (with_reducible exact varint_Put.mono _ _)
   | (with_reducible exact wire_Nums.mono _ _)
   | (with_reducible exact wire_Text.mono _ _)
   | (with_reducible exact LeO.refl _)
   | (with_reducible exact LeO.none _)
   | (with_reducible refine LeO.ite ?_ ?_)
   | (with_reducible refine LeO.bind ?_ (fun _ => ?_))
   | exact varint_Put.mono _ _
   | exact wire_Nums.mono _ _
   | exact wire_Text.mono _ _
   | exact LeO.none _
   | refine LeO.ite ?_ ?_
   | refine LeO.bind ?_ (fun _ => ?_)
def event_Encode.T3 : Bool × List (List Nat × List Nat) := (true, [([], []), ([0], [0]), ([1], [1]), ([2], [2]), ([3], [3]), ([], []), ([5], [5]), ([6], [6]), ([4, 7], [4, 7]), ([8, 7, 0, 1, 2, 3, 4, 5, 6, 7, 8], [8])])
def event_Encode.B3 : List Nat := [0, 1, 3, 7, 15, 0, 32, 96, 255, 511]
theorem event_Encode.tab3 : rtab .any (opsOf Try.f14 3) = event_Encode.T3 := by kernel_rfl
theorem event_Encode.bits3 : waitsOk event_Encode.T3.2 event_Encode.B3 = true := by kernel_rfl
set_option maxHeartbeats 8000000 in
set_option maxRecDepth 100000 in
theorem event_Encode.calls (k : Nat) (a0_0 : Int) (a0_1 : Int) (A0_2 : Option Addr) (c0_2 : Nat) (l0_2 : List Int) (a0_3 : ByteArray) (r : ByteArray) (w : World) (hr0_2 : Kd.C (Kd.int .i64) w A0_2 l0_2.length l0_2) (hc0_2 : l0_2.length ≤ c0_2) (h : event_Encode.f k a0_0 a0_1 l0_2 a0_3 = some r) :
  Calls Try.prog 14 #[.agg #[.int .i64 a0_0, .int .i64 a0_1, .slice A0_2 l0_2.length c0_2, .string a0_3]] w fun e w' => e = .returned (.string r) ∧ Below w.heap.size w w' := by
 have hu24 := Try.underlying24
 have HR0_2 := Am hr0_2
 have HC0_2 := Am hc0_2
 clear hr0_2 hc0_2
 have HB := Am (Below.refl w.heap.size w)
 have H : ((event_May.f a0_0 a0_1 l0_2 a0_3).bind fun t233 => (if t233 = true then ((some (([(a0_0) % 256] : List Int) : List Int)).bind fun y234 => ((varint_Put.f k a0_1).bind fun t237 => (if (strOfNums y234).size + t237.size ≤ 9223372036854775807 then ((kind_Exp.f a0_0).bind fun t238 => (if t238 = true then ((wire_Text.f k a0_3).bind fun t239 => (if ((strOfNums y234) ++ t237).size + t239.size ≤ 9223372036854775807 then (some (((strOfNums y234) ++ t237) ++ t239)) else (none))) else ((wire_Nums.f k l0_2).bind fun t240 => (if ((strOfNums y234) ++ t237).size + t240.size ≤ 9223372036854775807 then (some (((strOfNums y234) ++ t237) ++ t240)) else (none))))) else (none)))) else (some (⟨#[]⟩ : ByteArray)))) = some r := h
 clear h
 replace H := ob H
 obtain ⟨t233, A20, H⟩ := H
 replace H : (if t233 = true then ((some (([(a0_0) % 256] : List Int) : List Int)).bind fun y234 => ((varint_Put.f k a0_1).bind fun t237 => (if (strOfNums y234).size + t237.size ≤ 9223372036854775807 then ((kind_Exp.f a0_0).bind fun t238 => (if t238 = true then ((wire_Text.f k a0_3).bind fun t239 => (if ((strOfNums y234) ++ t237).size + t239.size ≤ 9223372036854775807 then (some (((strOfNums y234) ++ t237) ++ t239)) else (none))) else ((wire_Nums.f k l0_2).bind fun t240 => (if ((strOfNums y234) ++ t237).size + t240.size ≤ 9223372036854775807 then (some (((strOfNums y234) ++ t237) ++ t240)) else (none))))) else (none)))) else (some (⟨#[]⟩ : ByteArray))) = some r := H
 have A2 := Am A20
 clear A20
 by_cases c3 : t233 = true
 ·
  subst c3
  have H1 : ((some (([(a0_0) % 256] : List Int) : List Int)).bind fun y234 => ((varint_Put.f k a0_1).bind fun t237 => (if (strOfNums y234).size + t237.size ≤ 9223372036854775807 then ((kind_Exp.f a0_0).bind fun t238 => (if t238 = true then ((wire_Text.f k a0_3).bind fun t239 => (if ((strOfNums y234) ++ t237).size + t239.size ≤ 9223372036854775807 then (some (((strOfNums y234) ++ t237) ++ t239)) else (none))) else ((wire_Nums.f k l0_2).bind fun t240 => (if ((strOfNums y234) ++ t237).size + t240.size ≤ 9223372036854775807 then (some (((strOfNums y234) ++ t237) ++ t240)) else (none))))) else (none)))) = some r := by rw [if_pos rfl] at H; exact H
  clear H
  have H := H1
  clear H1
  obtain ⟨y234, hy234⟩ : ∃ y_ : List Int, y_ = (([(a0_0) % 256] : List Int)) := ⟨_, rfl⟩
  replace H : ((varint_Put.f k a0_1).bind fun t237 => (if (strOfNums y234).size + t237.size ≤ 9223372036854775807 then ((kind_Exp.f a0_0).bind fun t238 => (if t238 = true then ((wire_Text.f k a0_3).bind fun t239 => (if ((strOfNums y234) ++ t237).size + t239.size ≤ 9223372036854775807 then (some (((strOfNums y234) ++ t237) ++ t239)) else (none))) else ((wire_Nums.f k l0_2).bind fun t240 => (if ((strOfNums y234) ++ t237).size + t240.size ≤ 9223372036854775807 then (some (((strOfNums y234) ++ t237) ++ t240)) else (none))))) else (none))) = some r := by first | (rw [hy234]; with_reducible exact H) | (have H2_ := (Option.bind_some _ _).symm.trans H; rw [hy234]; with_reducible exact H2_) | (have H2_ := (Option.bind_some _ _).symm.trans H; with_reducible exact H2_) | with_reducible exact H | (rw [hy234]; exact H) | exact H
  have Ny234 := Am hy234
  clear hy234
  replace H := ob H
  obtain ⟨t237, A40, H⟩ := H
  replace H : (if (strOfNums y234).size + t237.size ≤ 9223372036854775807 then ((kind_Exp.f a0_0).bind fun t238 => (if t238 = true then ((wire_Text.f k a0_3).bind fun t239 => (if ((strOfNums y234) ++ t237).size + t239.size ≤ 9223372036854775807 then (some (((strOfNums y234) ++ t237) ++ t239)) else (none))) else ((wire_Nums.f k l0_2).bind fun t240 => (if ((strOfNums y234) ++ t237).size + t240.size ≤ 9223372036854775807 then (some (((strOfNums y234) ++ t237) ++ t240)) else (none))))) else (none)) = some r := H
  have A4 := Am A40
  clear A40
  by_cases c5 : (strOfNums y234).size + t237.size ≤ 9223372036854775807
  ·
   rw [if_pos c5] at H
   have c5b0 := eq_true c5
   have c5b1 : decide ((strOfNums y234).size + t237.size ≤ 9223372036854775807) = true := decide_eq_true c5
   try have c5b2 : (9223372036854775807 < (strOfNums y234).size + t237.size) = False := eq_false (Nat.not_lt.2 c5)
   replace H := ob H
   obtain ⟨t238, A60, H⟩ := H
   replace H : (if t238 = true then ((wire_Text.f k a0_3).bind fun t239 => (if ((strOfNums y234) ++ t237).size + t239.size ≤ 9223372036854775807 then (some (((strOfNums y234) ++ t237) ++ t239)) else (none))) else ((wire_Nums.f k l0_2).bind fun t240 => (if ((strOfNums y234) ++ t237).size + t240.size ≤ 9223372036854775807 then (some (((strOfNums y234) ++ t237) ++ t240)) else (none)))) = some r := H
   have A6 := Am A60
   clear A60
   by_cases c7 : t238 = true
   ·
    subst c7
    have H1 : ((wire_Text.f k a0_3).bind fun t239 => (if ((strOfNums y234) ++ t237).size + t239.size ≤ 9223372036854775807 then (some (((strOfNums y234) ++ t237) ++ t239)) else (none))) = some r := by rw [if_pos rfl] at H; exact H
    clear H
    have H := H1
    clear H1
    replace H := ob H
    obtain ⟨t239, A80, H⟩ := H
    replace H : (if ((strOfNums y234) ++ t237).size + t239.size ≤ 9223372036854775807 then (some (((strOfNums y234) ++ t237) ++ t239)) else (none)) = some r := H
    have A8 := Am A80
    clear A80
    by_cases c9 : ((strOfNums y234) ++ t237).size + t239.size ≤ 9223372036854775807
    ·
     rw [if_pos c9] at H
     have c9b0 := eq_true c9
     have c9b1 : decide (((strOfNums y234) ++ t237).size + t239.size ≤ 9223372036854775807) = true := decide_eq_true c9
     try have c9b2 : (9223372036854775807 < ((strOfNums y234) ++ t237).size + t239.size) = False := eq_false (Nat.not_lt.2 c9)
     try (have c9b3 := c9b2; simp only [ByteArray.size_append] at c9b3)
     try (have c9b4 := c9b1; simp only [ByteArray.size_append] at c9b4)
     obtain rfl := Option.some.inj H
     go_enter Try.func14, Try.ntmps14
     try go_wp2_with (first | ((with_reducible refine gate_dst (N := 1) rfl ?_); refine box_event ?hg (N := 1) ?hd (cs := #[.int .i64 a0_0, .int .i64 a0_1, .slice A0_2 l0_2.length c0_2, .string a0_3]) (t := 24) ?hr ?_; (case hd => rfl); (case hg => rfl); (case hr => first | (go_simp; done) | (go_simp; rfl)); intro gb232 hg w10 hbox hb; have n0_ := Am (below_step (by repeat (first | (with_reducible first | exact HB.out | apply bl | apply pN | apply b1) | exact HB.out | exact HBo.out)) hb); have n1_ := Am (hbox); have n2_ := Am ((by rw [hg]; exact (below_size (by repeat (first | (with_reducible first | exact HB.out | apply bl | apply pN | apply b1) | exact HB.out | exact HBo.out))) : w.heap.size ≤ gb232)); have n3_ := Am ((by rw [hg]; exact (below_size (by repeat (first | (with_reducible first | exact HB.out | apply bl | apply pN | apply b1) | exact HB.out | exact HBo.out))) : w.heap.size ≤ gb232)); clear HB; have HB := n0_; have BK232 := n1_; have GW232 := n2_; have GE232 := n3_; clear n0_ n1_ n2_ n3_; clear hb hbox hg; have hcz11_0 : w10.cell? ⟨gb232, 0, none⟩ = some (.int .i64 a0_0) := (bc BK232.out 0).trans rfl; have hcz11_1 : w10.cell? ⟨gb232, 1, none⟩ = some (.int .i64 a0_1) := (bc BK232.out 1).trans rfl; have hcz11_2 : w10.cell? ⟨gb232, 2, none⟩ = some (.slice A0_2 l0_2.length c0_2) := (bc BK232.out 2).trans rfl; have hcz11_3 : w10.cell? ⟨gb232, 3, none⟩ = some (.string a0_3) := (bc BK232.out 3).trans rfl; have hfz11_0 := bf BK232.out 0; have hfz11_1 := bf BK232.out 1; have hfz11_2 := bf BK232.out 2; have hfz11_3 := bf BK232.out 3) | ((with_reducible refine gate_callee (f := 12) rfl ?_); refine goesL_ (some 5) rfl rfl Try.func12 (by kernel_rfl) rfl #[.agg #[.int .i64 a0_0, .int .i64 a0_1, .slice A0_2 l0_2.length c0_2, .string a0_3]] rfl (by (try simp only [List.map_toArray, List.map_cons, List.map_nil]); first | done | rfl | (simp only [List.length_drop, List.length_take]; rfl)) ?_; (with_reducible refine (event_May.calls a0_0 a0_1 _ _ l0_2 a0_3 true _ ?side1 ?side2 A2.out).mono ?_); (case side1 => repeat (first | exact (Kd.C_below HR0_2.out HB.out) | (with_reducible refine Kd.C_alloc ?_ _) | (with_reducible refine Kd.C_drewN ?_ _) | (with_reducible refine Kd.C_drew ?_))); (case side2 => exact HC0_2.out); rintro e w12 ⟨rfl, hb⟩; refine ⟨_, rfl, ?_⟩; have n0_ := Am (blk_below (g := gb232) (o := .cells #[.int .i64 a0_0, .int .i64 a0_1, .slice A0_2 l0_2.length c0_2, .string a0_3] 24 (0, 0)) (by (with_reducible repeat (first | refine bn ?_ _ | refine bd ?_ | refine ba ?_ _)); exact BK232.out) hb); have n1_ := Am (below_step (by repeat (first | (with_reducible first | exact HB.out | apply bl | apply pN | apply b1 | refine bs ?_ GE232.out) | exact HB.out | exact HBo.out)) hb); clear BK232; clear HB; have BK232 := n0_; have HB := n1_; clear n0_ n1_; (try clear hb); (try clear hb2); (try clear hk); (try clear hi)))
     have n0_ := Am (bd BK232.out)
     have n1_ := Am (b1 HB.out)
     clear BK232
     clear HB
     have BK232 := n0_
     have HB := n1_
     clear n0_ n1_
     refine start_ (n := 10) (S := fun w' => w'.cell? ⟨gb232, 0, none⟩ = some (.int .i64 a0_0) ∧ w'.cell? ⟨gb232, 1, none⟩ = some (.int .i64 a0_1) ∧ w'.cell? ⟨gb232, 2, none⟩ = some (.slice A0_2 l0_2.length c0_2) ∧ w'.cell? ⟨gb232, 3, none⟩ = some (.string a0_3)) (ds := []) q7_0 (by kernel_rfl) rfl rfl ⟨(bc BK232.out 0).trans rfl, (bc BK232.out 1).trans rfl, (bc BK232.out 2).trans rfl, (bc BK232.out 3).trans rfl⟩ (fun hHeld => ?_); refine with_tabW event_Encode.tab3 event_Encode.bits3 (fun HT_ HW_ => ?_)
     generalize w12.drew = w13 at BK232 HB hHeld ⊢
     refine Own.pr_ 0 (some 7) q7_1 HT_ (h := ?_)
     refine Own.pr_ 5 (some 12) q7_2 HT_ (h := ?_)
     refine Own.tk_ 1 (some 8) q7_3 HT_ HW_ hHeld (hy := by rintro w' ⟨s0, s1, s2, s3⟩; go_simp; with_reducible rfl) (h := ?_)
     refine Own.pr_ 2 (some 9) q7_4 HT_ (h := ?_)
     refine Own.tk_ 6 (some 13) q7_5 HT_ HW_ hHeld (hy := by rintro w' ⟨s0, s1, s2, s3⟩; go_simp; with_reducible rfl) (h := ?_)
     refine join_ (σ := Value) 2 q7_6 (fun s_ => [(10, s_), (11, .string (strOfNums y234)), (14, .string t237)]) (fun s_ w' => (w'.cell? ⟨gb232, 0, none⟩ = some (.int .i64 a0_0) ∧ w'.cell? ⟨gb232, 1, none⟩ = some (.int .i64 a0_1) ∧ w'.cell? ⟨gb232, 2, none⟩ = some (.slice A0_2 l0_2.length c0_2) ∧ w'.cell? ⟨gb232, 3, none⟩ = some (.string a0_3)) ∧ (Kd.R (Kd.int .u8) 5 w' w.heap.size (fun _ => True) s_ y234) ∧ (w'.heap[gb232]? = some (.cells #[.int .i64 a0_0, .int .i64 a0_1, .slice A0_2 l0_2.length c0_2, .string a0_3] 24 (0, 0))) ∧ (Below w.heap.size w w')) ?_ ?_
     rotate_left
     ·
      intro hCont
      refine two_ (i := 3) (j := 7) (Ni := some 10) (Nj := some 14) q7_7 q7_8 rfl rfl rfl rfl (two_of HT_.out (by kernel_rfl)) (by decide) (by decide) (fun K hK => ?_) (fun K hK => ?_)
      ·
       skip
       refine Kd.R_lit_step (Kd.int .u8) _ 5 ?hg (N := 10) ?hd (xs := ([(a0_0) % 256] : List Int)) (inner := [.int .u8 ((a0_0) % 256)]) (ok := fun _ => True) (okp := fun _ => True) ?hr ?hp (fun _ hk => hk) trivial (Below.refl _ _) (Nat.le_refl _) (by simp) ?_; (case hd => rfl); (case hg => rfl); (case hr => first | (go_simp; done) | (go_simp; rfl)); (case hp => exact (Reps.one (show Kd.M (Kd.int .u8) _ _ _ ((a0_0) % 256) [.int .u8 ((a0_0) % 256)] from rfl) (Reps.none _ _)))
       intro v235 w14 ho15 hb hg_ hnew_
       clear hg_ hnew_
       (first | rw [← Ny234.out] at ho15 | (simp only [Int.reduceToNat] at ho15; rw [← Ny234.out] at ho15))
       have n0_ := Am (Kd.R_lower ho15 (below_size (by repeat (first | (with_reducible first | exact HB.out | apply bl | apply pN | apply b1 | refine bs ?_ GE232.out) | exact HB.out | exact HBo.out))))
       have n1_ := Am (blk_below (g := gb232) (o := .cells #[.int .i64 a0_0, .int .i64 a0_1, .slice A0_2 l0_2.length c0_2, .string a0_3] 24 (0, 0)) (by (with_reducible repeat (first | refine bn ?_ _ | refine bd ?_ | refine ba ?_ _)); exact BK232.out) hb)
       have n2_ := Am (below_step (by repeat (first | (with_reducible first | exact HB.out | apply bl | apply pN | apply b1 | refine bs ?_ GE232.out) | exact HB.out | exact HBo.out)) hb)
       clear BK232
       clear HB
       have HO236 := n0_
       have BK232 := n1_
       have HB := n2_
       clear n0_ n1_ n2_
       clear hb ho15
       refine hK.out _ _ ⟨(bc BK232.out 0).trans rfl, (bc BK232.out 1).trans rfl, (bc BK232.out 2).trans rfl, (bc BK232.out 3).trans rfl⟩ (fun hHeld => ?_)
       clear hK K
       refine norm_ (a' := ?_) ?_ ?_
       rotate_left
       ·
        show Act.put _ (some 10) _ = _
        simp only [Act.put, sI, sZ, sS, i64_w, i32_w]
        rfl
       refine two_ (i := 4) (j := 7) (Ni := some 11) (Nj := some 14) q7_9 q7_10 rfl rfl rfl rfl (two_of HT_.out (by kernel_rfl)) (by decide) (by decide) (fun K hK => ?_) (fun K hK => ?_)
       ·
        skip
        have hcv16 := own_string (P := Try.prog) Try.underlying51 Try.underlying5 Try.underlying9 (Kd.own_of_R HO236.out)
        refine value_ (w1 := ?_) (v := ?_) (by rfl) rfl ?_ ?_
        rotate_left 2
        ·
         go_simp
         constructor
         ·
          rfl
         ·
          rfl
        clear hcv16
        refine hK.out _ _ ⟨(bc BK232.out 0).trans rfl, (bc BK232.out 1).trans rfl, (bc BK232.out 2).trans rfl, (bc BK232.out 3).trans rfl⟩ (fun hHeld => ?_)
        clear hK K
        refine norm_ (a' := ?_) ?_ ?_
        rotate_left
        ·
         show Act.put _ (some 11) _ = _
         simp only [Act.put, sI, sZ, sS, i64_w, i32_w]
         rfl
        refine one_ (i := 7) (N := some 14) q7_6 rfl rfl (one_of HT_.out (by kernel_rfl)) (by decide) (fun K hK => ?_)
        refine goes_ Try.func33 (by kernel_rfl) rfl #[.int .i64 a0_1] (by rfl) rfl rfl (by (try simp only [List.map_toArray, List.map_cons, List.map_nil]); first | done | rfl | (simp only [List.length_drop, List.length_take]; rfl)) ?_
        with_reducible refine (varint_Put.calls k a0_1 t237 _ A4.out).mono ?_
        rintro e w17 ⟨rfl, hb⟩
        refine ⟨_, rfl, ?_⟩
        have n0_ := Am (Kd.R_below (by (with_reducible repeat (first | apply Kd.R_alloc | apply Kd.R_drewN | apply Kd.R_drew)); exact HO236.out) hb)
        have n1_ := Am (blk_below (g := gb232) (o := .cells #[.int .i64 a0_0, .int .i64 a0_1, .slice A0_2 l0_2.length c0_2, .string a0_3] 24 (0, 0)) (by (with_reducible repeat (first | refine bn ?_ _ | refine bd ?_ | refine ba ?_ _)); exact BK232.out) hb)
        have n2_ := Am (below_step (by repeat (first | (with_reducible first | exact HB.out | apply bl | apply pN | apply b1 | refine bs ?_ GE232.out) | exact HB.out | exact HBo.out)) hb)
        clear HO236
        clear BK232
        clear HB
        have HO236 := n0_
        have BK232 := n1_
        have HB := n2_
        clear n0_ n1_ n2_
        (try clear hb)
        (try clear hb2)
        (try clear hk)
        (try clear hi)
        refine hK.out _ _ ⟨(bc BK232.out 0).trans rfl, (bc BK232.out 1).trans rfl, (bc BK232.out 2).trans rfl, (bc BK232.out 3).trans rfl⟩ (fun hHeld => ?_)
        clear hK K
        refine norm_ (a' := ?_) ?_ ?_
        rotate_left
        ·
         show Act.put _ (some 14) _ = _
         simp only [Act.put, sI, sZ, sS, i64_w, i32_w]
         rfl
        exact norm_ (by simp only [putAll, Act.put, sI, sZ, sS]) (hCont (v235) _ ⟨hHeld, (by (with_reducible repeat (first | apply Kd.R_alloc | apply Kd.R_drewN | apply Kd.R_drew)); exact HO236.out), (by (with_reducible repeat (first | refine bn ?_ _ | refine bd ?_ | refine ba ?_ _)); exact BK232.out), (by repeat (first | (with_reducible first | exact HB.out | apply bl | apply pN | apply b1 | refine bs ?_ GE232.out) | exact HB.out | exact HBo.out))⟩)
       ·
        skip
        refine goes_ Try.func33 (by kernel_rfl) rfl #[.int .i64 a0_1] (by rfl) rfl rfl (by (try simp only [List.map_toArray, List.map_cons, List.map_nil]); first | done | rfl | (simp only [List.length_drop, List.length_take]; rfl)) ?_
        with_reducible refine (varint_Put.calls k a0_1 t237 _ A4.out).mono ?_
        rintro e w16 ⟨rfl, hb⟩
        refine ⟨_, rfl, ?_⟩
        have n0_ := Am (Kd.R_below (by (with_reducible repeat (first | apply Kd.R_alloc | apply Kd.R_drewN | apply Kd.R_drew)); exact HO236.out) hb)
        have n1_ := Am (blk_below (g := gb232) (o := .cells #[.int .i64 a0_0, .int .i64 a0_1, .slice A0_2 l0_2.length c0_2, .string a0_3] 24 (0, 0)) (by (with_reducible repeat (first | refine bn ?_ _ | refine bd ?_ | refine ba ?_ _)); exact BK232.out) hb)
        have n2_ := Am (below_step (by repeat (first | (with_reducible first | exact HB.out | apply bl | apply pN | apply b1 | refine bs ?_ GE232.out) | exact HB.out | exact HBo.out)) hb)
        clear HO236
        clear BK232
        clear HB
        have HO236 := n0_
        have BK232 := n1_
        have HB := n2_
        clear n0_ n1_ n2_
        (try clear hb)
        (try clear hb2)
        (try clear hk)
        (try clear hi)
        refine hK.out _ _ ⟨(bc BK232.out 0).trans rfl, (bc BK232.out 1).trans rfl, (bc BK232.out 2).trans rfl, (bc BK232.out 3).trans rfl⟩ (fun hHeld => ?_)
        clear hK K
        refine norm_ (a' := ?_) ?_ ?_
        rotate_left
        ·
         show Act.put _ (some 14) _ = _
         simp only [Act.put, sI, sZ, sS, i64_w, i32_w]
         rfl
        refine one_ (i := 4) (N := some 11) q7_6 rfl rfl (one_of HT_.out (by kernel_rfl)) (by decide) (fun K hK => ?_)
        have hcv17 := own_string (P := Try.prog) Try.underlying51 Try.underlying5 Try.underlying9 (Kd.own_of_R HO236.out)
        refine value_ (w1 := ?_) (v := ?_) (by rfl) rfl ?_ ?_
        rotate_left 2
        ·
         go_simp
         constructor
         ·
          rfl
         ·
          rfl
        clear hcv17
        refine hK.out _ _ ⟨(bc BK232.out 0).trans rfl, (bc BK232.out 1).trans rfl, (bc BK232.out 2).trans rfl, (bc BK232.out 3).trans rfl⟩ (fun hHeld => ?_)
        clear hK K
        refine norm_ (a' := ?_) ?_ ?_
        rotate_left
        ·
         show Act.put _ (some 11) _ = _
         simp only [Act.put, sI, sZ, sS, i64_w, i32_w]
         rfl
        exact norm_ (by simp only [putAll, Act.put, sI, sZ, sS]) (hCont (v235) _ ⟨hHeld, (by (with_reducible repeat (first | apply Kd.R_alloc | apply Kd.R_drewN | apply Kd.R_drew)); exact HO236.out), (by (with_reducible repeat (first | refine bn ?_ _ | refine bd ?_ | refine ba ?_ _)); exact BK232.out), (by repeat (first | (with_reducible first | exact HB.out | apply bl | apply pN | apply b1 | refine bs ?_ GE232.out) | exact HB.out | exact HBo.out))⟩)
      ·
       skip
       refine goes_ Try.func33 (by kernel_rfl) rfl #[.int .i64 a0_1] (by rfl) rfl rfl (by (try simp only [List.map_toArray, List.map_cons, List.map_nil]); first | done | rfl | (simp only [List.length_drop, List.length_take]; rfl)) ?_
       with_reducible refine (varint_Put.calls k a0_1 t237 _ A4.out).mono ?_
       rintro e w14 ⟨rfl, hb⟩
       refine ⟨_, rfl, ?_⟩
       have n0_ := Am (blk_below (g := gb232) (o := .cells #[.int .i64 a0_0, .int .i64 a0_1, .slice A0_2 l0_2.length c0_2, .string a0_3] 24 (0, 0)) (by (with_reducible repeat (first | refine bn ?_ _ | refine bd ?_ | refine ba ?_ _)); exact BK232.out) hb)
       have n1_ := Am (below_step (by repeat (first | (with_reducible first | exact HB.out | apply bl | apply pN | apply b1 | refine bs ?_ GE232.out) | exact HB.out | exact HBo.out)) hb)
       clear BK232
       clear HB
       have BK232 := n0_
       have HB := n1_
       clear n0_ n1_
       (try clear hb)
       (try clear hb2)
       (try clear hk)
       (try clear hi)
       refine hK.out _ _ ⟨(bc BK232.out 0).trans rfl, (bc BK232.out 1).trans rfl, (bc BK232.out 2).trans rfl, (bc BK232.out 3).trans rfl⟩ (fun hHeld => ?_)
       clear hK K
       refine norm_ (a' := ?_) ?_ ?_
       rotate_left
       ·
        show Act.put _ (some 14) _ = _
        simp only [Act.put, sI, sZ, sS, i64_w, i32_w]
        rfl
       refine one_ (i := 3) (N := some 10) q7_10 rfl rfl (one_of HT_.out (by kernel_rfl)) (by decide) (fun K hK => ?_)
       refine Kd.R_lit_step (Kd.int .u8) _ 5 ?hg (N := 10) ?hd (xs := ([(a0_0) % 256] : List Int)) (inner := [.int .u8 ((a0_0) % 256)]) (ok := fun _ => True) (okp := fun _ => True) ?hr ?hp (fun _ hk => hk) trivial (Below.refl _ _) (Nat.le_refl _) (by simp) ?_; (case hd => rfl); (case hg => rfl); (case hr => first | (go_simp; done) | (go_simp; rfl)); (case hp => exact (Reps.one (show Kd.M (Kd.int .u8) _ _ _ ((a0_0) % 256) [.int .u8 ((a0_0) % 256)] from rfl) (Reps.none _ _)))
       intro v235 w15 ho16 hb hg_ hnew_
       clear hg_ hnew_
       (first | rw [← Ny234.out] at ho16 | (simp only [Int.reduceToNat] at ho16; rw [← Ny234.out] at ho16))
       have n0_ := Am (Kd.R_lower ho16 (below_size (by repeat (first | (with_reducible first | exact HB.out | apply bl | apply pN | apply b1 | refine bs ?_ GE232.out) | exact HB.out | exact HBo.out))))
       have n1_ := Am (blk_below (g := gb232) (o := .cells #[.int .i64 a0_0, .int .i64 a0_1, .slice A0_2 l0_2.length c0_2, .string a0_3] 24 (0, 0)) (by (with_reducible repeat (first | refine bn ?_ _ | refine bd ?_ | refine ba ?_ _)); exact BK232.out) hb)
       have n2_ := Am (below_step (by repeat (first | (with_reducible first | exact HB.out | apply bl | apply pN | apply b1 | refine bs ?_ GE232.out) | exact HB.out | exact HBo.out)) hb)
       clear BK232
       clear HB
       have HO236 := n0_
       have BK232 := n1_
       have HB := n2_
       clear n0_ n1_ n2_
       clear hb ho16
       refine hK.out _ _ ⟨(bc BK232.out 0).trans rfl, (bc BK232.out 1).trans rfl, (bc BK232.out 2).trans rfl, (bc BK232.out 3).trans rfl⟩ (fun hHeld => ?_)
       clear hK K
       refine norm_ (a' := ?_) ?_ ?_
       rotate_left
       ·
        show Act.put _ (some 10) _ = _
        simp only [Act.put, sI, sZ, sS, i64_w, i32_w]
        rfl
       refine one_ (i := 4) (N := some 11) q7_6 rfl rfl (one_of HT_.out (by kernel_rfl)) (by decide) (fun K hK => ?_)
       have hcv17 := own_string (P := Try.prog) Try.underlying51 Try.underlying5 Try.underlying9 (Kd.own_of_R HO236.out)
       refine value_ (w1 := ?_) (v := ?_) (by rfl) rfl ?_ ?_
       rotate_left 2
       ·
        go_simp
        constructor
        ·
         rfl
        ·
         rfl
       clear hcv17
       refine hK.out _ _ ⟨(bc BK232.out 0).trans rfl, (bc BK232.out 1).trans rfl, (bc BK232.out 2).trans rfl, (bc BK232.out 3).trans rfl⟩ (fun hHeld => ?_)
       clear hK K
       refine norm_ (a' := ?_) ?_ ?_
       rotate_left
       ·
        show Act.put _ (some 11) _ = _
        simp only [Act.put, sI, sZ, sS, i64_w, i32_w]
        rfl
       exact norm_ (by simp only [putAll, Act.put, sI, sZ, sS]) (hCont (v235) _ ⟨hHeld, (by (with_reducible repeat (first | apply Kd.R_alloc | apply Kd.R_drewN | apply Kd.R_drew)); exact HO236.out), (by (with_reducible repeat (first | refine bn ?_ _ | refine bd ?_ | refine ba ?_ _)); exact BK232.out), (by repeat (first | (with_reducible first | exact HB.out | apply bl | apply pN | apply b1 | refine bs ?_ GE232.out) | exact HB.out | exact HBo.out))⟩)
     rintro v235 w18 ⟨hS_, h0_, h1_, h2_⟩
     have n0_ : Aside0 (Kd.R (Kd.int .u8) 5 w18 w.heap.size (fun _ => True) v235 y234) := ⟨h0_⟩
     have n1_ : Aside0 (w18.heap[gb232]? = some (.cells #[.int .i64 a0_0, .int .i64 a0_1, .slice A0_2 l0_2.length c0_2, .string a0_3] 24 (0, 0))) := ⟨h1_⟩
     have n2_ : Aside0 (Below w.heap.size w w18) := ⟨h2_⟩
     clear BK232
     clear HB
     clear h0_ h1_ h2_
     have HO236 := n0_
     have BK232 := n1_
     have HB := n2_
     clear n0_ n1_ n2_
     have hHeld : w18.cell? ⟨gb232, 0, none⟩ = some (.int .i64 a0_0) ∧ w18.cell? ⟨gb232, 1, none⟩ = some (.int .i64 a0_1) ∧ w18.cell? ⟨gb232, 2, none⟩ = some (.slice A0_2 l0_2.length c0_2) ∧ w18.cell? ⟨gb232, 3, none⟩ = some (.string a0_3) := hS_
     refine norm_ (a' := ?_) ?_ ?_
     rotate_left
     ·
      simp only [putAll, Act.put, sI, sZ, sS]
      rfl
     refine Own.pr_ 8 (some 15) q7_11 HT_ (h := ?_)
     refine Own.pr_ 9 (some 3) q7_12 HT_ (h := ?_)
     refine done_ (done_of HT_.out (by kernel_rfl)) ?_
     have hcz19_0 : w18.cell? ⟨gb232, 0, none⟩ = some (.int .i64 a0_0) := (bc BK232.out 0).trans rfl
     have hcz19_1 : w18.cell? ⟨gb232, 1, none⟩ = some (.int .i64 a0_1) := (bc BK232.out 1).trans rfl
     have hcz19_2 : w18.cell? ⟨gb232, 2, none⟩ = some (.slice A0_2 l0_2.length c0_2) := (bc BK232.out 2).trans rfl
     have hcz19_3 : w18.cell? ⟨gb232, 3, none⟩ = some (.string a0_3) := (bc BK232.out 3).trans rfl
     have hfz19_0 := bf BK232.out 0
     have hfz19_1 := bf BK232.out 1
     have hfz19_2 := bf BK232.out 2
     have hfz19_3 := bf BK232.out 3
     try go_wp2_with (first | ((with_reducible refine gate_callee (f := 27) rfl ?_); refine goesL_ (some 18) rfl rfl Try.func27 (by kernel_rfl) rfl #[.int .i64 a0_0] rfl (by (try simp only [List.map_toArray, List.map_cons, List.map_nil]); first | done | rfl | (simp only [List.length_drop, List.length_take]; rfl)) ?_; (with_reducible refine (kind_Exp.calls a0_0 true _ A6.out).mono ?_); rintro e w' ⟨rfl, ⟨nd, rfl⟩⟩; refine ⟨_, rfl, ?_⟩) | ((with_reducible refine gate_callee (f := 34) rfl ?_); refine goesL_ (some 22) rfl rfl Try.func34 (by kernel_rfl) rfl #[.string a0_3] rfl (by (try simp only [List.map_toArray, List.map_cons, List.map_nil]); first | done | rfl | (simp only [List.length_drop, List.length_take]; rfl)) ?_; (with_reducible refine (wire_Text.calls k a0_3 t239 _ A8.out).mono ?_); rintro e w20 ⟨rfl, hb⟩; refine ⟨_, rfl, ?_⟩; have n0_ := Am (Kd.R_below (by (with_reducible repeat (first | apply Kd.R_alloc | apply Kd.R_drewN | apply Kd.R_drew)); exact HO236.out) hb); have n1_ := Am (blk_below (g := gb232) (o := .cells #[.int .i64 a0_0, .int .i64 a0_1, .slice A0_2 l0_2.length c0_2, .string a0_3] 24 (0, 0)) (by (with_reducible repeat (first | refine bn ?_ _ | refine bd ?_ | refine ba ?_ _)); exact BK232.out) hb); have n2_ := Am (below_step (by repeat (first | (with_reducible first | exact HB.out | apply bl | apply pN | apply b1 | refine bs ?_ GE232.out) | exact HB.out | exact HBo.out)) hb); clear HO236; clear BK232; clear HB; have HO236 := n0_; have BK232 := n1_; have HB := n2_; clear n0_ n1_ n2_; (try clear hb); (try clear hb2); (try clear hk); (try clear hi)))
     go_ret
     exact ⟨by first | rfl | (simp [errW_none, errW_some] <;> rfl) | (simp [*, errW_none, errW_some] <;> rfl) | (simp [Aid.ne_nil, Aid.eq_nil, errW_none, errW_some]; done), by repeat (first | (with_reducible first | exact HB.out | apply bl | apply pN | apply b1 | refine bs ?_ GE232.out) | exact HB.out | exact HBo.out)⟩
    ·
     rw [if_neg c9] at H
     exact absurd H (by simp)
   ·
    replace c7 := Bool.eq_false_iff.mpr c7
    subst c7
    have H1 : ((wire_Nums.f k l0_2).bind fun t240 => (if ((strOfNums y234) ++ t237).size + t240.size ≤ 9223372036854775807 then (some (((strOfNums y234) ++ t237) ++ t240)) else (none))) = some r := by rw [if_neg (show ¬ (false = true) by decide)] at H; exact H
    clear H
    have H := H1
    clear H1
    replace H := ob H
    obtain ⟨t240, A210, H⟩ := H
    replace H : (if ((strOfNums y234) ++ t237).size + t240.size ≤ 9223372036854775807 then (some (((strOfNums y234) ++ t237) ++ t240)) else (none)) = some r := H
    have A21 := Am A210
    clear A210
    by_cases c22 : ((strOfNums y234) ++ t237).size + t240.size ≤ 9223372036854775807
    ·
     rw [if_pos c22] at H
     have c22b0 := eq_true c22
     have c22b1 : decide (((strOfNums y234) ++ t237).size + t240.size ≤ 9223372036854775807) = true := decide_eq_true c22
     try have c22b2 : (9223372036854775807 < ((strOfNums y234) ++ t237).size + t240.size) = False := eq_false (Nat.not_lt.2 c22)
     try (have c22b3 := c22b2; simp only [ByteArray.size_append] at c22b3)
     try (have c22b4 := c22b1; simp only [ByteArray.size_append] at c22b4)
     obtain rfl := Option.some.inj H
     go_enter Try.func14, Try.ntmps14
     try go_wp2_with (first | ((with_reducible refine gate_dst (N := 1) rfl ?_); refine box_event ?hg (N := 1) ?hd (cs := #[.int .i64 a0_0, .int .i64 a0_1, .slice A0_2 l0_2.length c0_2, .string a0_3]) (t := 24) ?hr ?_; (case hd => rfl); (case hg => rfl); (case hr => first | (go_simp; done) | (go_simp; rfl)); intro gb232 hg w23 hbox hb; have n0_ := Am (below_step (by repeat (first | (with_reducible first | exact HB.out | apply bl | apply pN | apply b1) | exact HB.out | exact HBo.out)) hb); have n1_ := Am (hbox); have n2_ := Am ((by rw [hg]; exact (below_size (by repeat (first | (with_reducible first | exact HB.out | apply bl | apply pN | apply b1) | exact HB.out | exact HBo.out))) : w.heap.size ≤ gb232)); have n3_ := Am ((by rw [hg]; exact (below_size (by repeat (first | (with_reducible first | exact HB.out | apply bl | apply pN | apply b1) | exact HB.out | exact HBo.out))) : w.heap.size ≤ gb232)); clear HB; have HB := n0_; have BK232 := n1_; have GW232 := n2_; have GE232 := n3_; clear n0_ n1_ n2_ n3_; clear hb hbox hg; have hcz24_0 : w23.cell? ⟨gb232, 0, none⟩ = some (.int .i64 a0_0) := (bc BK232.out 0).trans rfl; have hcz24_1 : w23.cell? ⟨gb232, 1, none⟩ = some (.int .i64 a0_1) := (bc BK232.out 1).trans rfl; have hcz24_2 : w23.cell? ⟨gb232, 2, none⟩ = some (.slice A0_2 l0_2.length c0_2) := (bc BK232.out 2).trans rfl; have hcz24_3 : w23.cell? ⟨gb232, 3, none⟩ = some (.string a0_3) := (bc BK232.out 3).trans rfl; have hfz24_0 := bf BK232.out 0; have hfz24_1 := bf BK232.out 1; have hfz24_2 := bf BK232.out 2; have hfz24_3 := bf BK232.out 3) | ((with_reducible refine gate_callee (f := 12) rfl ?_); refine goesL_ (some 5) rfl rfl Try.func12 (by kernel_rfl) rfl #[.agg #[.int .i64 a0_0, .int .i64 a0_1, .slice A0_2 l0_2.length c0_2, .string a0_3]] rfl (by (try simp only [List.map_toArray, List.map_cons, List.map_nil]); first | done | rfl | (simp only [List.length_drop, List.length_take]; rfl)) ?_; (with_reducible refine (event_May.calls a0_0 a0_1 _ _ l0_2 a0_3 true _ ?side1 ?side2 A2.out).mono ?_); (case side1 => repeat (first | exact (Kd.C_below HR0_2.out HB.out) | (with_reducible refine Kd.C_alloc ?_ _) | (with_reducible refine Kd.C_drewN ?_ _) | (with_reducible refine Kd.C_drew ?_))); (case side2 => exact HC0_2.out); rintro e w25 ⟨rfl, hb⟩; refine ⟨_, rfl, ?_⟩; have n0_ := Am (blk_below (g := gb232) (o := .cells #[.int .i64 a0_0, .int .i64 a0_1, .slice A0_2 l0_2.length c0_2, .string a0_3] 24 (0, 0)) (by (with_reducible repeat (first | refine bn ?_ _ | refine bd ?_ | refine ba ?_ _)); exact BK232.out) hb); have n1_ := Am (below_step (by repeat (first | (with_reducible first | exact HB.out | apply bl | apply pN | apply b1 | refine bs ?_ GE232.out) | exact HB.out | exact HBo.out)) hb); clear BK232; clear HB; have BK232 := n0_; have HB := n1_; clear n0_ n1_; (try clear hb); (try clear hb2); (try clear hk); (try clear hi)))
     have n0_ := Am (bd BK232.out)
     have n1_ := Am (b1 HB.out)
     clear BK232
     clear HB
     have BK232 := n0_
     have HB := n1_
     clear n0_ n1_
     refine start_ (n := 10) (S := fun w' => w'.cell? ⟨gb232, 0, none⟩ = some (.int .i64 a0_0) ∧ w'.cell? ⟨gb232, 1, none⟩ = some (.int .i64 a0_1) ∧ w'.cell? ⟨gb232, 2, none⟩ = some (.slice A0_2 l0_2.length c0_2) ∧ w'.cell? ⟨gb232, 3, none⟩ = some (.string a0_3)) (ds := []) q7_0 (by kernel_rfl) rfl rfl ⟨(bc BK232.out 0).trans rfl, (bc BK232.out 1).trans rfl, (bc BK232.out 2).trans rfl, (bc BK232.out 3).trans rfl⟩ (fun hHeld => ?_); refine with_tabW event_Encode.tab3 event_Encode.bits3 (fun HT_ HW_ => ?_)
     generalize w25.drew = w26 at BK232 HB hHeld ⊢
     refine Own.pr_ 0 (some 7) q7_1 HT_ (h := ?_)
     refine Own.pr_ 5 (some 12) q7_2 HT_ (h := ?_)
     refine Own.tk_ 1 (some 8) q7_3 HT_ HW_ hHeld (hy := by rintro w' ⟨s0, s1, s2, s3⟩; go_simp; with_reducible rfl) (h := ?_)
     refine Own.pr_ 2 (some 9) q7_4 HT_ (h := ?_)
     refine Own.tk_ 6 (some 13) q7_5 HT_ HW_ hHeld (hy := by rintro w' ⟨s0, s1, s2, s3⟩; go_simp; with_reducible rfl) (h := ?_)
     refine join_ (σ := Value) 2 q7_6 (fun s_ => [(10, s_), (11, .string (strOfNums y234)), (14, .string t237)]) (fun s_ w' => (w'.cell? ⟨gb232, 0, none⟩ = some (.int .i64 a0_0) ∧ w'.cell? ⟨gb232, 1, none⟩ = some (.int .i64 a0_1) ∧ w'.cell? ⟨gb232, 2, none⟩ = some (.slice A0_2 l0_2.length c0_2) ∧ w'.cell? ⟨gb232, 3, none⟩ = some (.string a0_3)) ∧ (Kd.R (Kd.int .u8) 5 w' w.heap.size (fun _ => True) s_ y234) ∧ (w'.heap[gb232]? = some (.cells #[.int .i64 a0_0, .int .i64 a0_1, .slice A0_2 l0_2.length c0_2, .string a0_3] 24 (0, 0))) ∧ (Below w.heap.size w w')) ?_ ?_
     rotate_left
     ·
      intro hCont
      refine two_ (i := 3) (j := 7) (Ni := some 10) (Nj := some 14) q7_7 q7_8 rfl rfl rfl rfl (two_of HT_.out (by kernel_rfl)) (by decide) (by decide) (fun K hK => ?_) (fun K hK => ?_)
      ·
       skip
       refine Kd.R_lit_step (Kd.int .u8) _ 5 ?hg (N := 10) ?hd (xs := ([(a0_0) % 256] : List Int)) (inner := [.int .u8 ((a0_0) % 256)]) (ok := fun _ => True) (okp := fun _ => True) ?hr ?hp (fun _ hk => hk) trivial (Below.refl _ _) (Nat.le_refl _) (by simp) ?_; (case hd => rfl); (case hg => rfl); (case hr => first | (go_simp; done) | (go_simp; rfl)); (case hp => exact (Reps.one (show Kd.M (Kd.int .u8) _ _ _ ((a0_0) % 256) [.int .u8 ((a0_0) % 256)] from rfl) (Reps.none _ _)))
       intro v235 w27 ho28 hb hg_ hnew_
       clear hg_ hnew_
       (first | rw [← Ny234.out] at ho28 | (simp only [Int.reduceToNat] at ho28; rw [← Ny234.out] at ho28))
       have n0_ := Am (Kd.R_lower ho28 (below_size (by repeat (first | (with_reducible first | exact HB.out | apply bl | apply pN | apply b1 | refine bs ?_ GE232.out) | exact HB.out | exact HBo.out))))
       have n1_ := Am (blk_below (g := gb232) (o := .cells #[.int .i64 a0_0, .int .i64 a0_1, .slice A0_2 l0_2.length c0_2, .string a0_3] 24 (0, 0)) (by (with_reducible repeat (first | refine bn ?_ _ | refine bd ?_ | refine ba ?_ _)); exact BK232.out) hb)
       have n2_ := Am (below_step (by repeat (first | (with_reducible first | exact HB.out | apply bl | apply pN | apply b1 | refine bs ?_ GE232.out) | exact HB.out | exact HBo.out)) hb)
       clear BK232
       clear HB
       have HO236 := n0_
       have BK232 := n1_
       have HB := n2_
       clear n0_ n1_ n2_
       clear hb ho28
       refine hK.out _ _ ⟨(bc BK232.out 0).trans rfl, (bc BK232.out 1).trans rfl, (bc BK232.out 2).trans rfl, (bc BK232.out 3).trans rfl⟩ (fun hHeld => ?_)
       clear hK K
       refine norm_ (a' := ?_) ?_ ?_
       rotate_left
       ·
        show Act.put _ (some 10) _ = _
        simp only [Act.put, sI, sZ, sS, i64_w, i32_w]
        rfl
       refine two_ (i := 4) (j := 7) (Ni := some 11) (Nj := some 14) q7_9 q7_10 rfl rfl rfl rfl (two_of HT_.out (by kernel_rfl)) (by decide) (by decide) (fun K hK => ?_) (fun K hK => ?_)
       ·
        skip
        have hcv29 := own_string (P := Try.prog) Try.underlying51 Try.underlying5 Try.underlying9 (Kd.own_of_R HO236.out)
        refine value_ (w1 := ?_) (v := ?_) (by rfl) rfl ?_ ?_
        rotate_left 2
        ·
         go_simp
         constructor
         ·
          rfl
         ·
          rfl
        clear hcv29
        refine hK.out _ _ ⟨(bc BK232.out 0).trans rfl, (bc BK232.out 1).trans rfl, (bc BK232.out 2).trans rfl, (bc BK232.out 3).trans rfl⟩ (fun hHeld => ?_)
        clear hK K
        refine norm_ (a' := ?_) ?_ ?_
        rotate_left
        ·
         show Act.put _ (some 11) _ = _
         simp only [Act.put, sI, sZ, sS, i64_w, i32_w]
         rfl
        refine one_ (i := 7) (N := some 14) q7_6 rfl rfl (one_of HT_.out (by kernel_rfl)) (by decide) (fun K hK => ?_)
        refine goes_ Try.func33 (by kernel_rfl) rfl #[.int .i64 a0_1] (by rfl) rfl rfl (by (try simp only [List.map_toArray, List.map_cons, List.map_nil]); first | done | rfl | (simp only [List.length_drop, List.length_take]; rfl)) ?_
        with_reducible refine (varint_Put.calls k a0_1 t237 _ A4.out).mono ?_
        rintro e w30 ⟨rfl, hb⟩
        refine ⟨_, rfl, ?_⟩
        have n0_ := Am (Kd.R_below (by (with_reducible repeat (first | apply Kd.R_alloc | apply Kd.R_drewN | apply Kd.R_drew)); exact HO236.out) hb)
        have n1_ := Am (blk_below (g := gb232) (o := .cells #[.int .i64 a0_0, .int .i64 a0_1, .slice A0_2 l0_2.length c0_2, .string a0_3] 24 (0, 0)) (by (with_reducible repeat (first | refine bn ?_ _ | refine bd ?_ | refine ba ?_ _)); exact BK232.out) hb)
        have n2_ := Am (below_step (by repeat (first | (with_reducible first | exact HB.out | apply bl | apply pN | apply b1 | refine bs ?_ GE232.out) | exact HB.out | exact HBo.out)) hb)
        clear HO236
        clear BK232
        clear HB
        have HO236 := n0_
        have BK232 := n1_
        have HB := n2_
        clear n0_ n1_ n2_
        (try clear hb)
        (try clear hb2)
        (try clear hk)
        (try clear hi)
        refine hK.out _ _ ⟨(bc BK232.out 0).trans rfl, (bc BK232.out 1).trans rfl, (bc BK232.out 2).trans rfl, (bc BK232.out 3).trans rfl⟩ (fun hHeld => ?_)
        clear hK K
        refine norm_ (a' := ?_) ?_ ?_
        rotate_left
        ·
         show Act.put _ (some 14) _ = _
         simp only [Act.put, sI, sZ, sS, i64_w, i32_w]
         rfl
        exact norm_ (by simp only [putAll, Act.put, sI, sZ, sS]) (hCont (v235) _ ⟨hHeld, (by (with_reducible repeat (first | apply Kd.R_alloc | apply Kd.R_drewN | apply Kd.R_drew)); exact HO236.out), (by (with_reducible repeat (first | refine bn ?_ _ | refine bd ?_ | refine ba ?_ _)); exact BK232.out), (by repeat (first | (with_reducible first | exact HB.out | apply bl | apply pN | apply b1 | refine bs ?_ GE232.out) | exact HB.out | exact HBo.out))⟩)
       ·
        skip
        refine goes_ Try.func33 (by kernel_rfl) rfl #[.int .i64 a0_1] (by rfl) rfl rfl (by (try simp only [List.map_toArray, List.map_cons, List.map_nil]); first | done | rfl | (simp only [List.length_drop, List.length_take]; rfl)) ?_
        with_reducible refine (varint_Put.calls k a0_1 t237 _ A4.out).mono ?_
        rintro e w29 ⟨rfl, hb⟩
        refine ⟨_, rfl, ?_⟩
        have n0_ := Am (Kd.R_below (by (with_reducible repeat (first | apply Kd.R_alloc | apply Kd.R_drewN | apply Kd.R_drew)); exact HO236.out) hb)
        have n1_ := Am (blk_below (g := gb232) (o := .cells #[.int .i64 a0_0, .int .i64 a0_1, .slice A0_2 l0_2.length c0_2, .string a0_3] 24 (0, 0)) (by (with_reducible repeat (first | refine bn ?_ _ | refine bd ?_ | refine ba ?_ _)); exact BK232.out) hb)
        have n2_ := Am (below_step (by repeat (first | (with_reducible first | exact HB.out | apply bl | apply pN | apply b1 | refine bs ?_ GE232.out) | exact HB.out | exact HBo.out)) hb)
        clear HO236
        clear BK232
        clear HB
        have HO236 := n0_
        have BK232 := n1_
        have HB := n2_
        clear n0_ n1_ n2_
        (try clear hb)
        (try clear hb2)
        (try clear hk)
        (try clear hi)
        refine hK.out _ _ ⟨(bc BK232.out 0).trans rfl, (bc BK232.out 1).trans rfl, (bc BK232.out 2).trans rfl, (bc BK232.out 3).trans rfl⟩ (fun hHeld => ?_)
        clear hK K
        refine norm_ (a' := ?_) ?_ ?_
        rotate_left
        ·
         show Act.put _ (some 14) _ = _
         simp only [Act.put, sI, sZ, sS, i64_w, i32_w]
         rfl
        refine one_ (i := 4) (N := some 11) q7_6 rfl rfl (one_of HT_.out (by kernel_rfl)) (by decide) (fun K hK => ?_)
        have hcv30 := own_string (P := Try.prog) Try.underlying51 Try.underlying5 Try.underlying9 (Kd.own_of_R HO236.out)
        refine value_ (w1 := ?_) (v := ?_) (by rfl) rfl ?_ ?_
        rotate_left 2
        ·
         go_simp
         constructor
         ·
          rfl
         ·
          rfl
        clear hcv30
        refine hK.out _ _ ⟨(bc BK232.out 0).trans rfl, (bc BK232.out 1).trans rfl, (bc BK232.out 2).trans rfl, (bc BK232.out 3).trans rfl⟩ (fun hHeld => ?_)
        clear hK K
        refine norm_ (a' := ?_) ?_ ?_
        rotate_left
        ·
         show Act.put _ (some 11) _ = _
         simp only [Act.put, sI, sZ, sS, i64_w, i32_w]
         rfl
        exact norm_ (by simp only [putAll, Act.put, sI, sZ, sS]) (hCont (v235) _ ⟨hHeld, (by (with_reducible repeat (first | apply Kd.R_alloc | apply Kd.R_drewN | apply Kd.R_drew)); exact HO236.out), (by (with_reducible repeat (first | refine bn ?_ _ | refine bd ?_ | refine ba ?_ _)); exact BK232.out), (by repeat (first | (with_reducible first | exact HB.out | apply bl | apply pN | apply b1 | refine bs ?_ GE232.out) | exact HB.out | exact HBo.out))⟩)
      ·
       skip
       refine goes_ Try.func33 (by kernel_rfl) rfl #[.int .i64 a0_1] (by rfl) rfl rfl (by (try simp only [List.map_toArray, List.map_cons, List.map_nil]); first | done | rfl | (simp only [List.length_drop, List.length_take]; rfl)) ?_
       with_reducible refine (varint_Put.calls k a0_1 t237 _ A4.out).mono ?_
       rintro e w27 ⟨rfl, hb⟩
       refine ⟨_, rfl, ?_⟩
       have n0_ := Am (blk_below (g := gb232) (o := .cells #[.int .i64 a0_0, .int .i64 a0_1, .slice A0_2 l0_2.length c0_2, .string a0_3] 24 (0, 0)) (by (with_reducible repeat (first | refine bn ?_ _ | refine bd ?_ | refine ba ?_ _)); exact BK232.out) hb)
       have n1_ := Am (below_step (by repeat (first | (with_reducible first | exact HB.out | apply bl | apply pN | apply b1 | refine bs ?_ GE232.out) | exact HB.out | exact HBo.out)) hb)
       clear BK232
       clear HB
       have BK232 := n0_
       have HB := n1_
       clear n0_ n1_
       (try clear hb)
       (try clear hb2)
       (try clear hk)
       (try clear hi)
       refine hK.out _ _ ⟨(bc BK232.out 0).trans rfl, (bc BK232.out 1).trans rfl, (bc BK232.out 2).trans rfl, (bc BK232.out 3).trans rfl⟩ (fun hHeld => ?_)
       clear hK K
       refine norm_ (a' := ?_) ?_ ?_
       rotate_left
       ·
        show Act.put _ (some 14) _ = _
        simp only [Act.put, sI, sZ, sS, i64_w, i32_w]
        rfl
       refine one_ (i := 3) (N := some 10) q7_10 rfl rfl (one_of HT_.out (by kernel_rfl)) (by decide) (fun K hK => ?_)
       refine Kd.R_lit_step (Kd.int .u8) _ 5 ?hg (N := 10) ?hd (xs := ([(a0_0) % 256] : List Int)) (inner := [.int .u8 ((a0_0) % 256)]) (ok := fun _ => True) (okp := fun _ => True) ?hr ?hp (fun _ hk => hk) trivial (Below.refl _ _) (Nat.le_refl _) (by simp) ?_; (case hd => rfl); (case hg => rfl); (case hr => first | (go_simp; done) | (go_simp; rfl)); (case hp => exact (Reps.one (show Kd.M (Kd.int .u8) _ _ _ ((a0_0) % 256) [.int .u8 ((a0_0) % 256)] from rfl) (Reps.none _ _)))
       intro v235 w28 ho29 hb hg_ hnew_
       clear hg_ hnew_
       (first | rw [← Ny234.out] at ho29 | (simp only [Int.reduceToNat] at ho29; rw [← Ny234.out] at ho29))
       have n0_ := Am (Kd.R_lower ho29 (below_size (by repeat (first | (with_reducible first | exact HB.out | apply bl | apply pN | apply b1 | refine bs ?_ GE232.out) | exact HB.out | exact HBo.out))))
       have n1_ := Am (blk_below (g := gb232) (o := .cells #[.int .i64 a0_0, .int .i64 a0_1, .slice A0_2 l0_2.length c0_2, .string a0_3] 24 (0, 0)) (by (with_reducible repeat (first | refine bn ?_ _ | refine bd ?_ | refine ba ?_ _)); exact BK232.out) hb)
       have n2_ := Am (below_step (by repeat (first | (with_reducible first | exact HB.out | apply bl | apply pN | apply b1 | refine bs ?_ GE232.out) | exact HB.out | exact HBo.out)) hb)
       clear BK232
       clear HB
       have HO236 := n0_
       have BK232 := n1_
       have HB := n2_
       clear n0_ n1_ n2_
       clear hb ho29
       refine hK.out _ _ ⟨(bc BK232.out 0).trans rfl, (bc BK232.out 1).trans rfl, (bc BK232.out 2).trans rfl, (bc BK232.out 3).trans rfl⟩ (fun hHeld => ?_)
       clear hK K
       refine norm_ (a' := ?_) ?_ ?_
       rotate_left
       ·
        show Act.put _ (some 10) _ = _
        simp only [Act.put, sI, sZ, sS, i64_w, i32_w]
        rfl
       refine one_ (i := 4) (N := some 11) q7_6 rfl rfl (one_of HT_.out (by kernel_rfl)) (by decide) (fun K hK => ?_)
       have hcv30 := own_string (P := Try.prog) Try.underlying51 Try.underlying5 Try.underlying9 (Kd.own_of_R HO236.out)
       refine value_ (w1 := ?_) (v := ?_) (by rfl) rfl ?_ ?_
       rotate_left 2
       ·
        go_simp
        constructor
        ·
         rfl
        ·
         rfl
       clear hcv30
       refine hK.out _ _ ⟨(bc BK232.out 0).trans rfl, (bc BK232.out 1).trans rfl, (bc BK232.out 2).trans rfl, (bc BK232.out 3).trans rfl⟩ (fun hHeld => ?_)
       clear hK K
       refine norm_ (a' := ?_) ?_ ?_
       rotate_left
       ·
        show Act.put _ (some 11) _ = _
        simp only [Act.put, sI, sZ, sS, i64_w, i32_w]
        rfl
       exact norm_ (by simp only [putAll, Act.put, sI, sZ, sS]) (hCont (v235) _ ⟨hHeld, (by (with_reducible repeat (first | apply Kd.R_alloc | apply Kd.R_drewN | apply Kd.R_drew)); exact HO236.out), (by (with_reducible repeat (first | refine bn ?_ _ | refine bd ?_ | refine ba ?_ _)); exact BK232.out), (by repeat (first | (with_reducible first | exact HB.out | apply bl | apply pN | apply b1 | refine bs ?_ GE232.out) | exact HB.out | exact HBo.out))⟩)
     rintro v235 w31 ⟨hS_, h0_, h1_, h2_⟩
     have n0_ : Aside0 (Kd.R (Kd.int .u8) 5 w31 w.heap.size (fun _ => True) v235 y234) := ⟨h0_⟩
     have n1_ : Aside0 (w31.heap[gb232]? = some (.cells #[.int .i64 a0_0, .int .i64 a0_1, .slice A0_2 l0_2.length c0_2, .string a0_3] 24 (0, 0))) := ⟨h1_⟩
     have n2_ : Aside0 (Below w.heap.size w w31) := ⟨h2_⟩
     clear BK232
     clear HB
     clear h0_ h1_ h2_
     have HO236 := n0_
     have BK232 := n1_
     have HB := n2_
     clear n0_ n1_ n2_
     have hHeld : w31.cell? ⟨gb232, 0, none⟩ = some (.int .i64 a0_0) ∧ w31.cell? ⟨gb232, 1, none⟩ = some (.int .i64 a0_1) ∧ w31.cell? ⟨gb232, 2, none⟩ = some (.slice A0_2 l0_2.length c0_2) ∧ w31.cell? ⟨gb232, 3, none⟩ = some (.string a0_3) := hS_
     refine norm_ (a' := ?_) ?_ ?_
     rotate_left
     ·
      simp only [putAll, Act.put, sI, sZ, sS]
      rfl
     refine Own.pr_ 8 (some 15) q7_11 HT_ (h := ?_)
     refine Own.pr_ 9 (some 3) q7_12 HT_ (h := ?_)
     refine done_ (done_of HT_.out (by kernel_rfl)) ?_
     have hcz32_0 : w31.cell? ⟨gb232, 0, none⟩ = some (.int .i64 a0_0) := (bc BK232.out 0).trans rfl
     have hcz32_1 : w31.cell? ⟨gb232, 1, none⟩ = some (.int .i64 a0_1) := (bc BK232.out 1).trans rfl
     have hcz32_2 : w31.cell? ⟨gb232, 2, none⟩ = some (.slice A0_2 l0_2.length c0_2) := (bc BK232.out 2).trans rfl
     have hcz32_3 : w31.cell? ⟨gb232, 3, none⟩ = some (.string a0_3) := (bc BK232.out 3).trans rfl
     have hfz32_0 := bf BK232.out 0
     have hfz32_1 := bf BK232.out 1
     have hfz32_2 := bf BK232.out 2
     have hfz32_3 := bf BK232.out 3
     try go_wp2_with (first | ((with_reducible refine gate_callee (f := 27) rfl ?_); refine goesL_ (some 18) rfl rfl Try.func27 (by kernel_rfl) rfl #[.int .i64 a0_0] rfl (by (try simp only [List.map_toArray, List.map_cons, List.map_nil]); first | done | rfl | (simp only [List.length_drop, List.length_take]; rfl)) ?_; (with_reducible refine (kind_Exp.calls a0_0 false _ A6.out).mono ?_); rintro e w' ⟨rfl, ⟨nd, rfl⟩⟩; refine ⟨_, rfl, ?_⟩) | ((with_reducible refine gate_callee (f := 35) rfl ?_); refine goesL_ (some 27) rfl rfl Try.func35 (by kernel_rfl) rfl #[.slice A0_2 l0_2.length c0_2] rfl (by (try simp only [List.map_toArray, List.map_cons, List.map_nil]); first | done | rfl | (simp only [List.length_drop, List.length_take]; rfl)) ?_; (with_reducible refine (wire_Nums.calls k _ _ l0_2 t240 _ ?side1 ?side2 A21.out).mono ?_); (case side1 => repeat (first | exact (Kd.C_below HR0_2.out (by repeat (first | (with_reducible first | exact HB.out | apply bl | apply pN | apply b1 | refine bs ?_ GE232.out) | exact HB.out | exact HBo.out))) | (with_reducible refine Kd.C_alloc ?_ _) | (with_reducible refine Kd.C_drewN ?_ _) | (with_reducible refine Kd.C_drew ?_))); (case side2 => exact HC0_2.out); rintro e w33 ⟨rfl, hb⟩; refine ⟨_, rfl, ?_⟩; have n0_ := Am (Kd.R_below (by (with_reducible repeat (first | apply Kd.R_alloc | apply Kd.R_drewN | apply Kd.R_drew)); exact HO236.out) hb); have n1_ := Am (blk_below (g := gb232) (o := .cells #[.int .i64 a0_0, .int .i64 a0_1, .slice A0_2 l0_2.length c0_2, .string a0_3] 24 (0, 0)) (by (with_reducible repeat (first | refine bn ?_ _ | refine bd ?_ | refine ba ?_ _)); exact BK232.out) hb); have n2_ := Am (below_step (by repeat (first | (with_reducible first | exact HB.out | apply bl | apply pN | apply b1 | refine bs ?_ GE232.out) | exact HB.out | exact HBo.out)) hb); clear HO236; clear BK232; clear HB; have HO236 := n0_; have BK232 := n1_; have HB := n2_; clear n0_ n1_ n2_; (try clear hb); (try clear hb2); (try clear hk); (try clear hi)))
     go_ret
     exact ⟨by first | rfl | (simp [errW_none, errW_some] <;> rfl) | (simp [*, errW_none, errW_some] <;> rfl) | (simp [Aid.ne_nil, Aid.eq_nil, errW_none, errW_some]; done), by repeat (first | (with_reducible first | exact HB.out | apply bl | apply pN | apply b1 | refine bs ?_ GE232.out) | exact HB.out | exact HBo.out)⟩
    ·
     rw [if_neg c22] at H
     exact absurd H (by simp)
  ·
   rw [if_neg c5] at H
   exact absurd H (by simp)
 ·
  replace c3 := Bool.eq_false_iff.mpr c3
  subst c3
  have H1 : (some (⟨#[]⟩ : ByteArray)) = some r := by rw [if_neg (show ¬ (false = true) by decide)] at H; exact H
  clear H
  have H := H1
  clear H1
  obtain rfl := Option.some.inj H
  go_enter Try.func14, Try.ntmps14
  go_wp2_with (first | ((with_reducible refine gate_dst (N := 1) rfl ?_); refine box_event ?hg (N := 1) ?hd (cs := #[.int .i64 a0_0, .int .i64 a0_1, .slice A0_2 l0_2.length c0_2, .string a0_3]) (t := 24) ?hr ?_; (case hd => rfl); (case hg => rfl); (case hr => first | (go_simp; done) | (go_simp; rfl)); intro gb232 hg w34 hbox hb; have n0_ := Am (below_step (by repeat (first | (with_reducible first | exact HB.out | apply bl | apply pN | apply b1) | exact HB.out | exact HBo.out)) hb); have n1_ := Am (hbox); have n2_ := Am ((by rw [hg]; exact (below_size (by repeat (first | (with_reducible first | exact HB.out | apply bl | apply pN | apply b1) | exact HB.out | exact HBo.out))) : w.heap.size ≤ gb232)); have n3_ := Am ((by rw [hg]; exact (below_size (by repeat (first | (with_reducible first | exact HB.out | apply bl | apply pN | apply b1) | exact HB.out | exact HBo.out))) : w.heap.size ≤ gb232)); clear HB; have HB := n0_; have BK232 := n1_; have GW232 := n2_; have GE232 := n3_; clear n0_ n1_ n2_ n3_; clear hb hbox hg; have hcz35_0 : w34.cell? ⟨gb232, 0, none⟩ = some (.int .i64 a0_0) := (bc BK232.out 0).trans rfl; have hcz35_1 : w34.cell? ⟨gb232, 1, none⟩ = some (.int .i64 a0_1) := (bc BK232.out 1).trans rfl; have hcz35_2 : w34.cell? ⟨gb232, 2, none⟩ = some (.slice A0_2 l0_2.length c0_2) := (bc BK232.out 2).trans rfl; have hcz35_3 : w34.cell? ⟨gb232, 3, none⟩ = some (.string a0_3) := (bc BK232.out 3).trans rfl; have hfz35_0 := bf BK232.out 0; have hfz35_1 := bf BK232.out 1; have hfz35_2 := bf BK232.out 2; have hfz35_3 := bf BK232.out 3) | ((with_reducible refine gate_callee (f := 12) rfl ?_); refine goesL_ (some 5) rfl rfl Try.func12 (by kernel_rfl) rfl #[.agg #[.int .i64 a0_0, .int .i64 a0_1, .slice A0_2 l0_2.length c0_2, .string a0_3]] rfl (by (try simp only [List.map_toArray, List.map_cons, List.map_nil]); first | done | rfl | (simp only [List.length_drop, List.length_take]; rfl)) ?_; (with_reducible refine (event_May.calls a0_0 a0_1 _ _ l0_2 a0_3 false _ ?side1 ?side2 A2.out).mono ?_); (case side1 => repeat (first | exact (Kd.C_below HR0_2.out HB.out) | (with_reducible refine Kd.C_alloc ?_ _) | (with_reducible refine Kd.C_drewN ?_ _) | (with_reducible refine Kd.C_drew ?_))); (case side2 => exact HC0_2.out); rintro e w36 ⟨rfl, hb⟩; refine ⟨_, rfl, ?_⟩; have n0_ := Am (blk_below (g := gb232) (o := .cells #[.int .i64 a0_0, .int .i64 a0_1, .slice A0_2 l0_2.length c0_2, .string a0_3] 24 (0, 0)) (by (with_reducible repeat (first | refine bn ?_ _ | refine bd ?_ | refine ba ?_ _)); exact BK232.out) hb); have n1_ := Am (below_step (by repeat (first | (with_reducible first | exact HB.out | apply bl | apply pN | apply b1 | refine bs ?_ GE232.out) | exact HB.out | exact HBo.out)) hb); clear BK232; clear HB; have BK232 := n0_; have HB := n1_; clear n0_ n1_; (try clear hb); (try clear hb2); (try clear hk); (try clear hi)))
  go_ret
  exact ⟨by first | rfl | (simp [errW_none, errW_some] <;> rfl) | (simp [*, errW_none, errW_some] <;> rfl) | (simp [Aid.ne_nil, Aid.eq_nil, errW_none, errW_some]; done), by repeat (first | (with_reducible first | exact HB.out | apply bl | apply pN | apply b1 | refine bs ?_ GE232.out) | exact HB.out | exact HBo.out)⟩

/-! ### shuttlecockref01_Ints: function 39 -/
def shuttlecockref01_Ints.l0 : Nat → List Int → List Int → Int → Option (Bool)
 | 0, _, _, _ => none
 | k + 1, x0, x1, x5 => if x5 < (x0.length : Int) then (if 0 ≤ x5 then (if x5 < (x1.length : Int) then (if (rd x0 x5) = (rd x1 x5) then (shuttlecockref01_Ints.l0 k x0 x1 (wrap64 (x5 + 1))) else (some false)) else (none)) else (none)) else (some true)
def shuttlecockref01_Ints.f (k : Nat) (l0 : List Int) (l1 : List Int) : Option (Bool) := if (l0.length : Int) = (l1.length : Int) then (shuttlecockref01_Ints.l0 k l0 l1 0) else (some false)
theorem shuttlecockref01_Ints.mono_l : ∀ k, (∀ y0 y1 y2, LeO (shuttlecockref01_Ints.l0 k y0 y1 y2) (shuttlecockref01_Ints.l0 (k + 1) y0 y1 y2))
 | 0 => fun _ _ _ r h => by simp [shuttlecockref01_Ints.l0] at h
 | k + 1 => by
  have ih0 := shuttlecockref01_Ints.mono_l k
  ·
   intro y0 y1 y2
   unfold shuttlecockref01_Ints.l0
   repeat' first
   | (with_reducible exact ih0 _ _ _)
   | (with_reducible exact LeO.refl _)
   | (with_reducible exact LeO.none _)
   | (with_reducible refine LeO.ite ?_ ?_)
   | (with_reducible refine LeO.bind ?_ (fun _ => ?_))
   | exact ih0 _ _ _
   | exact LeO.none _
   | refine LeO.ite ?_ ?_
   | refine LeO.bind ?_ (fun _ => ?_)
theorem shuttlecockref01_Ints.mono : ∀ a0 a1 k, LeO (shuttlecockref01_Ints.f k a0 a1) (shuttlecockref01_Ints.f (k + 1) a0 a1) := by
 intro a0 a1 k
 have ih0 := shuttlecockref01_Ints.mono_l k
 unfold shuttlecockref01_Ints.f
 repeat' first
   | (with_reducible exact ih0 _ _ _)
   | (with_reducible exact LeO.refl _)
   | (with_reducible exact LeO.none _)
   | (with_reducible refine LeO.ite ?_ ?_)
   | (with_reducible refine LeO.bind ?_ (fun _ => ?_))
   | exact ih0 _ _ _
   | exact LeO.none _
   | refine LeO.ite ?_ ?_
   | refine LeO.bind ?_ (fun _ => ?_)
set_option maxHeartbeats 8000000 in
set_option maxRecDepth 100000 in
theorem shuttlecockref01_Ints.calls (k : Nat) (A0 : Option Addr) (c0 : Nat) (l0 : List Int) (A1 : Option Addr) (c1 : Nat) (l1 : List Int) (r : Bool) (w : World) (hr0 : Kd.C (Kd.int .i64) w A0 l0.length l0) (hc0 : l0.length ≤ c0) (hr1 : Kd.C (Kd.int .i64) w A1 l1.length l1) (hc1 : l1.length ≤ c1) (h : shuttlecockref01_Ints.f k l0 l1 = some r) :
  Calls Try.prog 39 #[.slice A0 l0.length c0, .slice A1 l1.length c1] w fun e w' => e = .returned (.bool r) ∧ Drawn0 w w' := by
 have HR0 := Am hr0
 have HC0 := Am hc0
 clear hr0 hc0
 have HR1 := Am hr1
 have HC1 := Am hc1
 clear hr1 hc1
 have H : (if (l0.length : Int) = (l1.length : Int) then (shuttlecockref01_Ints.l0 k l0 l1 0) else (some false)) = some r := h
 clear h
 by_cases c3 : (l0.length : Int) = (l1.length : Int)
 ·
  rw [if_pos c3] at H
  have c3b0 : ((l0.length : Int) == (l1.length : Int)) = true := beq_iff_eq.mpr c3
  have c3b1 : ((l0.length : Int) != (l1.length : Int)) = false := bne_eq_false_iff_eq.mpr c3
  have c3b2 : (l0.length == l1.length) = true := by first | simpa using c3 | (simp at c3 ⊢; omega)
  clear c3
  have H' := Am H
  clear H
  go_enter Try.func39, Try.ntmps39
  go_wp2
  repeat (go_quiet (fail); try go_wp2)
  go_loopg [5] k (fun kq v5 w' => ∃ (x5_1 : Int), v5 = .int .i64 x5_1 ∧ Aside0 (shuttlecockref01_Ints.l0 kq l0 l1 x5_1 = some r) ∧ Aside0 (kq ≤ k) ∧ Drawn0 w w')
  case atStart => exact ⟨(0), (by first | rfl | (simp; done) | (simp [*]; done)), H', ⟨Nat.le_refl _⟩, by repeat (first | exact Drawn0.refl _ | apply Drawn0.step)⟩
  case round =>
   clear H'
   try clear c1
   try clear p2
   try clear c3
   try clear c3b0
   try clear c3b1
   try clear c3b2
   obtain ⟨x5_1, rfl, HA, HK1, ⟨m1, rfl⟩⟩ := hrel
   cases gk with
   | zero => exact absurd HA.out (by simp [shuttlecockref01_Ints.l0])
   | succ k1 =>
    have H := HA.out
    clear HA
    simp only [shuttlecockref01_Ints.l0] at H
    by_cases c4 : x5_1 < (l0.length : Int)
    ·
     rw [if_pos c4] at H
     have c4b0 : decide (x5_1 < (l0.length : Int)) = true := decide_eq_true c4
     clear c4
     by_cases c5 : 0 ≤ x5_1
     ·
      rw [if_pos c5] at H
      have c5b0 : decide (0 ≤ x5_1) = true := decide_eq_true c5
      clear c5
      by_cases c6 : x5_1 < (l1.length : Int)
      ·
       rw [if_pos c6] at H
       have c6b0 : decide (x5_1 < (l1.length : Int)) = true := decide_eq_true c6
       clear c6
       by_cases c7 : (rd l0 x5_1) = (rd l1 x5_1)
       ·
        rw [if_pos c7] at H
        have c7b0 : ((rd l0 x5_1) == (rd l1 x5_1)) = true := beq_iff_eq.mpr c7
        have c7b1 : ((rd l0 x5_1) != (rd l1 x5_1)) = false := bne_eq_false_iff_eq.mpr c7
        clear c7
        have H' := Am H
        clear H
        have p241 : 0 ≤ (x5_1 : Int) := of_decide_eq_true (by first | (with_reducible assumption) | assumption)
        have q241 : x5_1 < (l0.length : Int) := of_decide_eq_true (by first | (with_reducible assumption) | assumption)
        obtain ⟨ad241, e241, hx241_0⟩ := Kd.at_int HR0.out x5_1 p241 q241
        cases e241
        replace p241 := eq_true p241
        replace q241 := eq_true q241
        have p242 : 0 ≤ (x5_1 : Int) := of_decide_eq_true (by first | (with_reducible assumption) | assumption)
        have q242 : x5_1 < (l1.length : Int) := of_decide_eq_true (by first | (with_reducible assumption) | assumption)
        obtain ⟨ad242, e242, hx242_0⟩ := Kd.at_int HR1.out x5_1 p242 q242
        cases e242
        replace p242 := eq_true p242
        replace q242 := eq_true q242
        go_wp2
        repeat (go_quiet (fail); try go_wp2)
        go_roundg k1
        case measure => have := HK1.out; omega
        case rel => exact ⟨(wrap64 (x5_1 + 1)), (by first | rfl | (simp; done) | (simp [*]; done)), H', ⟨by have := HK1.out; omega⟩, by repeat (first | exact Drawn0.refl _ | apply Drawn0.step)⟩
       ·
        rw [if_neg c7] at H
        have c7b0 : ((rd l0 x5_1) == (rd l1 x5_1)) = false := beq_eq_false_iff_ne.mpr c7
        have c7b1 : ((rd l0 x5_1) != (rd l1 x5_1)) = true := bne_iff_ne.mpr c7
        obtain rfl := Option.some.inj H
        have p241 : 0 ≤ (x5_1 : Int) := of_decide_eq_true (by first | (with_reducible assumption) | assumption)
        have q241 : x5_1 < (l0.length : Int) := of_decide_eq_true (by first | (with_reducible assumption) | assumption)
        obtain ⟨ad241, e241, hx241_0⟩ := Kd.at_int HR0.out x5_1 p241 q241
        cases e241
        replace p241 := eq_true p241
        replace q241 := eq_true q241
        have p242 : 0 ≤ (x5_1 : Int) := of_decide_eq_true (by first | (with_reducible assumption) | assumption)
        have q242 : x5_1 < (l1.length : Int) := of_decide_eq_true (by first | (with_reducible assumption) | assumption)
        obtain ⟨ad242, e242, hx242_0⟩ := Kd.at_int HR1.out x5_1 p242 q242
        cases e242
        replace p242 := eq_true p242
        replace q242 := eq_true q242
        go_wp2
        repeat (go_quiet (fail); try go_wp2)
        go_ret
        exact ⟨by first | rfl | (simp; done) | (simp [*]; done), by repeat (first | exact Drawn0.refl _ | apply Drawn0.step)⟩
      ·
       rw [if_neg c6] at H
       exact absurd H (by simp)
     ·
      rw [if_neg c5] at H
      exact absurd H (by simp)
    ·
     rw [if_neg c4] at H
     have c4b0 : decide (x5_1 < (l0.length : Int)) = false := decide_eq_false c4
     clear c4
     obtain rfl := Option.some.inj H
     go_wp2
     repeat (go_quiet (fail); try go_wp2)
     go_ret
     exact ⟨by first | rfl | (simp; done) | (simp [*]; done), by repeat (first | exact Drawn0.refl _ | apply Drawn0.step)⟩
 ·
  rw [if_neg c3] at H
  have c3b0 : ((l0.length : Int) == (l1.length : Int)) = false := beq_eq_false_iff_ne.mpr c3
  have c3b1 : ((l0.length : Int) != (l1.length : Int)) = true := bne_iff_ne.mpr c3
  have c3b2 : (l0.length == l1.length) = false := by first | simpa using c3 | (simp at c3 ⊢; omega)
  obtain rfl := Option.some.inj H
  go_enter Try.func39, Try.ntmps39
  go_wp2
  repeat (go_quiet (fail); try go_wp2)
  go_ret
  exact ⟨by first | rfl | (simp; done) | (simp [*]; done), by repeat (first | exact Drawn0.refl _ | apply Drawn0.step)⟩

/-! ### shuttlecockref04_Same: function 16 -/
def shuttlecockref04_Same.f (k : Nat) (a0_0 : Int) (a0_1 : Int) (l0_2 : List Int) (a0_3 : ByteArray) (a1_0 : Int) (a1_1 : Int) (l1_2 : List Int) (a1_3 : ByteArray) : Option (Bool) := if a0_0 = a1_0 then (if a0_1 = a1_1 then ((shuttlecockref01_Ints.f k l0_2 l1_2).bind fun t245 => (if t245 = true then (some (a0_3.toList == a1_3.toList)) else (some false))) else (some false)) else (some false)
theorem shuttlecockref04_Same.mono : ∀ a0 a1 a2 a3 a4 a5 a6 a7 k, LeO (shuttlecockref04_Same.f k a0 a1 a2 a3 a4 a5 a6 a7) (shuttlecockref04_Same.f (k + 1) a0 a1 a2 a3 a4 a5 a6 a7) := by
 intro a0 a1 a2 a3 a4 a5 a6 a7 k
 unfold shuttlecockref04_Same.f
 repeat' first
   | (with_reducible exact shuttlecockref01_Ints.mono _ _ _)
   | (with_reducible exact LeO.refl _)
   | (with_reducible exact LeO.none _)
   | (with_reducible refine LeO.ite ?_ ?_)
   | (with_reducible refine LeO.bind ?_ (fun _ => ?_))
   | exact shuttlecockref01_Ints.mono _ _ _
   | exact LeO.none _
   | refine LeO.ite ?_ ?_
   | refine LeO.bind ?_ (fun _ => ?_)
set_option maxHeartbeats 8000000 in
set_option maxRecDepth 100000 in
theorem shuttlecockref04_Same.calls (k : Nat) (a0_0 : Int) (a0_1 : Int) (A0_2 : Option Addr) (c0_2 : Nat) (l0_2 : List Int) (a0_3 : ByteArray) (a1_0 : Int) (a1_1 : Int) (A1_2 : Option Addr) (c1_2 : Nat) (l1_2 : List Int) (a1_3 : ByteArray) (r : Bool) (w : World) (hr0_2 : Kd.C (Kd.int .i64) w A0_2 l0_2.length l0_2) (hc0_2 : l0_2.length ≤ c0_2) (hr1_2 : Kd.C (Kd.int .i64) w A1_2 l1_2.length l1_2) (hc1_2 : l1_2.length ≤ c1_2) (h : shuttlecockref04_Same.f k a0_0 a0_1 l0_2 a0_3 a1_0 a1_1 l1_2 a1_3 = some r) :
  Calls Try.prog 16 #[.agg #[.int .i64 a0_0, .int .i64 a0_1, .slice A0_2 l0_2.length c0_2, .string a0_3], .agg #[.int .i64 a1_0, .int .i64 a1_1, .slice A1_2 l1_2.length c1_2, .string a1_3]] w fun e w' => e = .returned (.bool r) ∧ Below w.heap.size w w' := by
 have hu24 := Try.underlying24
 have HR0_2 := Am hr0_2
 have HC0_2 := Am hc0_2
 clear hr0_2 hc0_2
 have HR1_2 := Am hr1_2
 have HC1_2 := Am hc1_2
 clear hr1_2 hc1_2
 have HB := Am (Below.refl w.heap.size w)
 have H : (if a0_0 = a1_0 then (if a0_1 = a1_1 then ((shuttlecockref01_Ints.f k l0_2 l1_2).bind fun t245 => (if t245 = true then (some (a0_3.toList == a1_3.toList)) else (some false))) else (some false)) else (some false)) = some r := h
 clear h
 by_cases c3 : a0_0 = a1_0
 ·
  rw [if_pos c3] at H
  have c3b0 : (a0_0 == a1_0) = true := beq_iff_eq.mpr c3
  have c3b1 : (a0_0 != a1_0) = false := bne_eq_false_iff_eq.mpr c3
  clear c3
  by_cases c4 : a0_1 = a1_1
  ·
   rw [if_pos c4] at H
   have c4b0 : (a0_1 == a1_1) = true := beq_iff_eq.mpr c4
   have c4b1 : (a0_1 != a1_1) = false := bne_eq_false_iff_eq.mpr c4
   clear c4
   replace H := ob H
   obtain ⟨t245, A50, H⟩ := H
   replace H : (if t245 = true then (some (a0_3.toList == a1_3.toList)) else (some false)) = some r := H
   have A5 := Am A50
   clear A50
   by_cases c6 : t245 = true
   ·
    subst c6
    have H1 : (some (a0_3.toList == a1_3.toList)) = some r := by rw [if_pos rfl] at H; exact H
    clear H
    have H := H1
    clear H1
    obtain rfl := Option.some.inj H
    go_enter Try.func16, Try.ntmps16
    go_wp2_with (first | ((with_reducible refine gate_dst (N := 2) rfl ?_); refine box_event ?hg (N := 2) ?hd (cs := #[.int .i64 a0_0, .int .i64 a0_1, .slice A0_2 l0_2.length c0_2, .string a0_3]) (t := 24) ?hr ?_; (case hd => rfl); (case hg => rfl); (case hr => first | (go_simp; done) | (go_simp; rfl)); intro gb243 hg w7 hbox hb; have n0_ := Am (below_step (by repeat (first | (with_reducible first | exact HB.out | apply bl | apply pN | apply b1) | exact HB.out | exact HBo.out)) hb); have n1_ := Am (hbox); have n2_ := Am ((by rw [hg]; exact (below_size (by repeat (first | (with_reducible first | exact HB.out | apply bl | apply pN | apply b1) | exact HB.out | exact HBo.out))) : w.heap.size ≤ gb243)); have n3_ := Am ((by rw [hg]; exact (below_size (by repeat (first | (with_reducible first | exact HB.out | apply bl | apply pN | apply b1) | exact HB.out | exact HBo.out))) : w.heap.size ≤ gb243)); clear HB; have HB := n0_; have BK243 := n1_; have GW243 := n2_; have GE243 := n3_; clear n0_ n1_ n2_ n3_; clear hb hbox hg) | ((with_reducible refine gate_dst (N := 3) rfl ?_); refine box_event ?hg (N := 3) ?hd (cs := #[.int .i64 a1_0, .int .i64 a1_1, .slice A1_2 l1_2.length c1_2, .string a1_3]) (t := 24) ?hr ?_; (case hd => rfl); (case hg => rfl); (case hr => first | (go_simp; done) | (go_simp; rfl)); intro gb244 hg w8 hbox hb; have n0_ := Am (blk_below (g := gb243) (o := .cells #[.int .i64 a0_0, .int .i64 a0_1, .slice A0_2 l0_2.length c0_2, .string a0_3] 24 (0, 0)) (by (with_reducible repeat (first | refine bn ?_ _ | refine bd ?_ | refine ba ?_ _)); exact BK243.out) hb); have n1_ := Am (below_step (by repeat (first | (with_reducible first | exact HB.out | apply bl | apply pN | apply b1 | refine bs ?_ GE243.out) | exact HB.out | exact HBo.out)) hb); have n2_ := Am (hbox); have n3_ := Am ((by rw [hg]; exact (below_size (by repeat (first | (with_reducible first | exact HB.out | apply bl | apply pN | apply b1 | refine bs ?_ GE243.out) | exact HB.out | exact HBo.out))) : w.heap.size ≤ gb244)); have n4_ := Am ((by rw [hg]; exact (below_size (by repeat (first | (with_reducible first | exact HB.out | apply bl | apply pN | apply b1 | refine bs ?_ GE243.out) | exact HB.out | exact HBo.out))) : w.heap.size ≤ gb244)); have n5_ := Am ((by rw [hg]; exact Nat.ne_of_lt (blk_lt (g := gb243) (o := .cells #[.int .i64 a0_0, .int .i64 a0_1, .slice A0_2 l0_2.length c0_2, .string a0_3] 24 (0, 0)) (by (with_reducible repeat (first | refine bn ?_ _ | refine bd ?_ | refine ba ?_ _)); exact BK243.out)) : gb243 ≠ gb244)); have n6_ := Am ((by rw [hg]; exact Nat.ne_of_gt (blk_lt (g := gb243) (o := .cells #[.int .i64 a0_0, .int .i64 a0_1, .slice A0_2 l0_2.length c0_2, .string a0_3] 24 (0, 0)) (by (with_reducible repeat (first | refine bn ?_ _ | refine bd ?_ | refine ba ?_ _)); exact BK243.out)) : gb244 ≠ gb243)); clear BK243; clear HB; have BK243 := n0_; have HB := n1_; have BK244 := n2_; have GW244 := n3_; have GE244 := n4_; have NB243_244 := n5_; have NB244_243 := n6_; clear n0_ n1_ n2_ n3_ n4_ n5_ n6_; clear hb hbox hg; have hnb9 := NB243_244.out; have hnc9 := NB244_243.out; have hcz10_0 : w8.cell? ⟨gb243, 0, none⟩ = some (.int .i64 a0_0) := (bc BK243.out 0).trans rfl; have hcz10_1 : w8.cell? ⟨gb243, 1, none⟩ = some (.int .i64 a0_1) := (bc BK243.out 1).trans rfl; have hcz10_2 : w8.cell? ⟨gb243, 2, none⟩ = some (.slice A0_2 l0_2.length c0_2) := (bc BK243.out 2).trans rfl; have hcz10_3 : w8.cell? ⟨gb243, 3, none⟩ = some (.string a0_3) := (bc BK243.out 3).trans rfl; have hfz10_0 := bf BK243.out 0; have hfz10_1 := bf BK243.out 1; have hfz10_2 := bf BK243.out 2; have hfz10_3 := bf BK243.out 3; have hcz11_0 : w8.cell? ⟨gb244, 0, none⟩ = some (.int .i64 a1_0) := (bc BK244.out 0).trans rfl; have hcz11_1 : w8.cell? ⟨gb244, 1, none⟩ = some (.int .i64 a1_1) := (bc BK244.out 1).trans rfl; have hcz11_2 : w8.cell? ⟨gb244, 2, none⟩ = some (.slice A1_2 l1_2.length c1_2) := (bc BK244.out 2).trans rfl; have hcz11_3 : w8.cell? ⟨gb244, 3, none⟩ = some (.string a1_3) := (bc BK244.out 3).trans rfl; have hfz11_0 := bf BK244.out 0; have hfz11_1 := bf BK244.out 1; have hfz11_2 := bf BK244.out 2; have hfz11_3 := bf BK244.out 3) | (go_at_call 39; (with_reducible refine (shuttlecockref01_Ints.calls k _ _ l0_2 _ _ l1_2 true _ ?side1 ?side2 ?side3 ?side4 A5.out).mono ?_); (case side1 => repeat (first | exact (Kd.C_below HR0_2.out HB.out) | (with_reducible refine Kd.C_alloc ?_ _) | (with_reducible refine Kd.C_drewN ?_ _) | (with_reducible refine Kd.C_drew ?_))); (case side2 => exact HC0_2.out); (case side3 => repeat (first | exact (Kd.C_below HR1_2.out HB.out) | (with_reducible refine Kd.C_alloc ?_ _) | (with_reducible refine Kd.C_drewN ?_ _) | (with_reducible refine Kd.C_drew ?_))); (case side4 => exact HC1_2.out); rintro e w' ⟨rfl, ⟨nd, rfl⟩⟩))
    go_ret
    exact ⟨by first | rfl | (simp [errW_none, errW_some] <;> rfl) | (simp [*, errW_none, errW_some] <;> rfl) | (simp [Aid.ne_nil, Aid.eq_nil, errW_none, errW_some]; done), by repeat (first | (with_reducible first | exact HB.out | apply bl | apply pN | apply b1 | refine bs ?_ GE243.out | refine bs ?_ GE244.out) | exact HB.out | exact HBo.out)⟩
   ·
    replace c6 := Bool.eq_false_iff.mpr c6
    subst c6
    have H1 : (some false) = some r := by rw [if_neg (show ¬ (false = true) by decide)] at H; exact H
    clear H
    have H := H1
    clear H1
    obtain rfl := Option.some.inj H
    go_enter Try.func16, Try.ntmps16
    go_wp2_with (first | ((with_reducible refine gate_dst (N := 2) rfl ?_); refine box_event ?hg (N := 2) ?hd (cs := #[.int .i64 a0_0, .int .i64 a0_1, .slice A0_2 l0_2.length c0_2, .string a0_3]) (t := 24) ?hr ?_; (case hd => rfl); (case hg => rfl); (case hr => first | (go_simp; done) | (go_simp; rfl)); intro gb243 hg w12 hbox hb; have n0_ := Am (below_step (by repeat (first | (with_reducible first | exact HB.out | apply bl | apply pN | apply b1) | exact HB.out | exact HBo.out)) hb); have n1_ := Am (hbox); have n2_ := Am ((by rw [hg]; exact (below_size (by repeat (first | (with_reducible first | exact HB.out | apply bl | apply pN | apply b1) | exact HB.out | exact HBo.out))) : w.heap.size ≤ gb243)); have n3_ := Am ((by rw [hg]; exact (below_size (by repeat (first | (with_reducible first | exact HB.out | apply bl | apply pN | apply b1) | exact HB.out | exact HBo.out))) : w.heap.size ≤ gb243)); clear HB; have HB := n0_; have BK243 := n1_; have GW243 := n2_; have GE243 := n3_; clear n0_ n1_ n2_ n3_; clear hb hbox hg) | ((with_reducible refine gate_dst (N := 3) rfl ?_); refine box_event ?hg (N := 3) ?hd (cs := #[.int .i64 a1_0, .int .i64 a1_1, .slice A1_2 l1_2.length c1_2, .string a1_3]) (t := 24) ?hr ?_; (case hd => rfl); (case hg => rfl); (case hr => first | (go_simp; done) | (go_simp; rfl)); intro gb244 hg w13 hbox hb; have n0_ := Am (blk_below (g := gb243) (o := .cells #[.int .i64 a0_0, .int .i64 a0_1, .slice A0_2 l0_2.length c0_2, .string a0_3] 24 (0, 0)) (by (with_reducible repeat (first | refine bn ?_ _ | refine bd ?_ | refine ba ?_ _)); exact BK243.out) hb); have n1_ := Am (below_step (by repeat (first | (with_reducible first | exact HB.out | apply bl | apply pN | apply b1 | refine bs ?_ GE243.out) | exact HB.out | exact HBo.out)) hb); have n2_ := Am (hbox); have n3_ := Am ((by rw [hg]; exact (below_size (by repeat (first | (with_reducible first | exact HB.out | apply bl | apply pN | apply b1 | refine bs ?_ GE243.out) | exact HB.out | exact HBo.out))) : w.heap.size ≤ gb244)); have n4_ := Am ((by rw [hg]; exact (below_size (by repeat (first | (with_reducible first | exact HB.out | apply bl | apply pN | apply b1 | refine bs ?_ GE243.out) | exact HB.out | exact HBo.out))) : w.heap.size ≤ gb244)); have n5_ := Am ((by rw [hg]; exact Nat.ne_of_lt (blk_lt (g := gb243) (o := .cells #[.int .i64 a0_0, .int .i64 a0_1, .slice A0_2 l0_2.length c0_2, .string a0_3] 24 (0, 0)) (by (with_reducible repeat (first | refine bn ?_ _ | refine bd ?_ | refine ba ?_ _)); exact BK243.out)) : gb243 ≠ gb244)); have n6_ := Am ((by rw [hg]; exact Nat.ne_of_gt (blk_lt (g := gb243) (o := .cells #[.int .i64 a0_0, .int .i64 a0_1, .slice A0_2 l0_2.length c0_2, .string a0_3] 24 (0, 0)) (by (with_reducible repeat (first | refine bn ?_ _ | refine bd ?_ | refine ba ?_ _)); exact BK243.out)) : gb244 ≠ gb243)); clear BK243; clear HB; have BK243 := n0_; have HB := n1_; have BK244 := n2_; have GW244 := n3_; have GE244 := n4_; have NB243_244 := n5_; have NB244_243 := n6_; clear n0_ n1_ n2_ n3_ n4_ n5_ n6_; clear hb hbox hg; have hnb14 := NB243_244.out; have hnc14 := NB244_243.out; have hcz15_0 : w13.cell? ⟨gb243, 0, none⟩ = some (.int .i64 a0_0) := (bc BK243.out 0).trans rfl; have hcz15_1 : w13.cell? ⟨gb243, 1, none⟩ = some (.int .i64 a0_1) := (bc BK243.out 1).trans rfl; have hcz15_2 : w13.cell? ⟨gb243, 2, none⟩ = some (.slice A0_2 l0_2.length c0_2) := (bc BK243.out 2).trans rfl; have hcz15_3 : w13.cell? ⟨gb243, 3, none⟩ = some (.string a0_3) := (bc BK243.out 3).trans rfl; have hfz15_0 := bf BK243.out 0; have hfz15_1 := bf BK243.out 1; have hfz15_2 := bf BK243.out 2; have hfz15_3 := bf BK243.out 3; have hcz16_0 : w13.cell? ⟨gb244, 0, none⟩ = some (.int .i64 a1_0) := (bc BK244.out 0).trans rfl; have hcz16_1 : w13.cell? ⟨gb244, 1, none⟩ = some (.int .i64 a1_1) := (bc BK244.out 1).trans rfl; have hcz16_2 : w13.cell? ⟨gb244, 2, none⟩ = some (.slice A1_2 l1_2.length c1_2) := (bc BK244.out 2).trans rfl; have hcz16_3 : w13.cell? ⟨gb244, 3, none⟩ = some (.string a1_3) := (bc BK244.out 3).trans rfl; have hfz16_0 := bf BK244.out 0; have hfz16_1 := bf BK244.out 1; have hfz16_2 := bf BK244.out 2; have hfz16_3 := bf BK244.out 3) | (go_at_call 39; (with_reducible refine (shuttlecockref01_Ints.calls k _ _ l0_2 _ _ l1_2 false _ ?side1 ?side2 ?side3 ?side4 A5.out).mono ?_); (case side1 => repeat (first | exact (Kd.C_below HR0_2.out HB.out) | (with_reducible refine Kd.C_alloc ?_ _) | (with_reducible refine Kd.C_drewN ?_ _) | (with_reducible refine Kd.C_drew ?_))); (case side2 => exact HC0_2.out); (case side3 => repeat (first | exact (Kd.C_below HR1_2.out HB.out) | (with_reducible refine Kd.C_alloc ?_ _) | (with_reducible refine Kd.C_drewN ?_ _) | (with_reducible refine Kd.C_drew ?_))); (case side4 => exact HC1_2.out); rintro e w' ⟨rfl, ⟨nd, rfl⟩⟩))
    go_ret
    exact ⟨by first | rfl | (simp [errW_none, errW_some] <;> rfl) | (simp [*, errW_none, errW_some] <;> rfl) | (simp [Aid.ne_nil, Aid.eq_nil, errW_none, errW_some]; done), by repeat (first | (with_reducible first | exact HB.out | apply bl | apply pN | apply b1 | refine bs ?_ GE243.out | refine bs ?_ GE244.out) | exact HB.out | exact HBo.out)⟩
  ·
   rw [if_neg c4] at H
   have c4b0 : (a0_1 == a1_1) = false := beq_eq_false_iff_ne.mpr c4
   have c4b1 : (a0_1 != a1_1) = true := bne_iff_ne.mpr c4
   obtain rfl := Option.some.inj H
   go_enter Try.func16, Try.ntmps16
   go_wp2_with (first | ((with_reducible refine gate_dst (N := 2) rfl ?_); refine box_event ?hg (N := 2) ?hd (cs := #[.int .i64 a0_0, .int .i64 a0_1, .slice A0_2 l0_2.length c0_2, .string a0_3]) (t := 24) ?hr ?_; (case hd => rfl); (case hg => rfl); (case hr => first | (go_simp; done) | (go_simp; rfl)); intro gb243 hg w17 hbox hb; have n0_ := Am (below_step (by repeat (first | (with_reducible first | exact HB.out | apply bl | apply pN | apply b1) | exact HB.out | exact HBo.out)) hb); have n1_ := Am (hbox); have n2_ := Am ((by rw [hg]; exact (below_size (by repeat (first | (with_reducible first | exact HB.out | apply bl | apply pN | apply b1) | exact HB.out | exact HBo.out))) : w.heap.size ≤ gb243)); have n3_ := Am ((by rw [hg]; exact (below_size (by repeat (first | (with_reducible first | exact HB.out | apply bl | apply pN | apply b1) | exact HB.out | exact HBo.out))) : w.heap.size ≤ gb243)); clear HB; have HB := n0_; have BK243 := n1_; have GW243 := n2_; have GE243 := n3_; clear n0_ n1_ n2_ n3_; clear hb hbox hg) | ((with_reducible refine gate_dst (N := 3) rfl ?_); refine box_event ?hg (N := 3) ?hd (cs := #[.int .i64 a1_0, .int .i64 a1_1, .slice A1_2 l1_2.length c1_2, .string a1_3]) (t := 24) ?hr ?_; (case hd => rfl); (case hg => rfl); (case hr => first | (go_simp; done) | (go_simp; rfl)); intro gb244 hg w18 hbox hb; have n0_ := Am (blk_below (g := gb243) (o := .cells #[.int .i64 a0_0, .int .i64 a0_1, .slice A0_2 l0_2.length c0_2, .string a0_3] 24 (0, 0)) (by (with_reducible repeat (first | refine bn ?_ _ | refine bd ?_ | refine ba ?_ _)); exact BK243.out) hb); have n1_ := Am (below_step (by repeat (first | (with_reducible first | exact HB.out | apply bl | apply pN | apply b1 | refine bs ?_ GE243.out) | exact HB.out | exact HBo.out)) hb); have n2_ := Am (hbox); have n3_ := Am ((by rw [hg]; exact (below_size (by repeat (first | (with_reducible first | exact HB.out | apply bl | apply pN | apply b1 | refine bs ?_ GE243.out) | exact HB.out | exact HBo.out))) : w.heap.size ≤ gb244)); have n4_ := Am ((by rw [hg]; exact (below_size (by repeat (first | (with_reducible first | exact HB.out | apply bl | apply pN | apply b1 | refine bs ?_ GE243.out) | exact HB.out | exact HBo.out))) : w.heap.size ≤ gb244)); have n5_ := Am ((by rw [hg]; exact Nat.ne_of_lt (blk_lt (g := gb243) (o := .cells #[.int .i64 a0_0, .int .i64 a0_1, .slice A0_2 l0_2.length c0_2, .string a0_3] 24 (0, 0)) (by (with_reducible repeat (first | refine bn ?_ _ | refine bd ?_ | refine ba ?_ _)); exact BK243.out)) : gb243 ≠ gb244)); have n6_ := Am ((by rw [hg]; exact Nat.ne_of_gt (blk_lt (g := gb243) (o := .cells #[.int .i64 a0_0, .int .i64 a0_1, .slice A0_2 l0_2.length c0_2, .string a0_3] 24 (0, 0)) (by (with_reducible repeat (first | refine bn ?_ _ | refine bd ?_ | refine ba ?_ _)); exact BK243.out)) : gb244 ≠ gb243)); clear BK243; clear HB; have BK243 := n0_; have HB := n1_; have BK244 := n2_; have GW244 := n3_; have GE244 := n4_; have NB243_244 := n5_; have NB244_243 := n6_; clear n0_ n1_ n2_ n3_ n4_ n5_ n6_; clear hb hbox hg; have hnb19 := NB243_244.out; have hnc19 := NB244_243.out; have hcz20_0 : w18.cell? ⟨gb243, 0, none⟩ = some (.int .i64 a0_0) := (bc BK243.out 0).trans rfl; have hcz20_1 : w18.cell? ⟨gb243, 1, none⟩ = some (.int .i64 a0_1) := (bc BK243.out 1).trans rfl; have hcz20_2 : w18.cell? ⟨gb243, 2, none⟩ = some (.slice A0_2 l0_2.length c0_2) := (bc BK243.out 2).trans rfl; have hcz20_3 : w18.cell? ⟨gb243, 3, none⟩ = some (.string a0_3) := (bc BK243.out 3).trans rfl; have hfz20_0 := bf BK243.out 0; have hfz20_1 := bf BK243.out 1; have hfz20_2 := bf BK243.out 2; have hfz20_3 := bf BK243.out 3; have hcz21_0 : w18.cell? ⟨gb244, 0, none⟩ = some (.int .i64 a1_0) := (bc BK244.out 0).trans rfl; have hcz21_1 : w18.cell? ⟨gb244, 1, none⟩ = some (.int .i64 a1_1) := (bc BK244.out 1).trans rfl; have hcz21_2 : w18.cell? ⟨gb244, 2, none⟩ = some (.slice A1_2 l1_2.length c1_2) := (bc BK244.out 2).trans rfl; have hcz21_3 : w18.cell? ⟨gb244, 3, none⟩ = some (.string a1_3) := (bc BK244.out 3).trans rfl; have hfz21_0 := bf BK244.out 0; have hfz21_1 := bf BK244.out 1; have hfz21_2 := bf BK244.out 2; have hfz21_3 := bf BK244.out 3))
   go_ret
   exact ⟨by first | rfl | (simp [errW_none, errW_some] <;> rfl) | (simp [*, errW_none, errW_some] <;> rfl) | (simp [Aid.ne_nil, Aid.eq_nil, errW_none, errW_some]; done), by repeat (first | (with_reducible first | exact HB.out | apply bl | apply pN | apply b1 | refine bs ?_ GE243.out | refine bs ?_ GE244.out) | exact HB.out | exact HBo.out)⟩
 ·
  rw [if_neg c3] at H
  have c3b0 : (a0_0 == a1_0) = false := beq_eq_false_iff_ne.mpr c3
  have c3b1 : (a0_0 != a1_0) = true := bne_iff_ne.mpr c3
  obtain rfl := Option.some.inj H
  go_enter Try.func16, Try.ntmps16
  go_wp2_with (first | ((with_reducible refine gate_dst (N := 2) rfl ?_); refine box_event ?hg (N := 2) ?hd (cs := #[.int .i64 a0_0, .int .i64 a0_1, .slice A0_2 l0_2.length c0_2, .string a0_3]) (t := 24) ?hr ?_; (case hd => rfl); (case hg => rfl); (case hr => first | (go_simp; done) | (go_simp; rfl)); intro gb243 hg w22 hbox hb; have n0_ := Am (below_step (by repeat (first | (with_reducible first | exact HB.out | apply bl | apply pN | apply b1) | exact HB.out | exact HBo.out)) hb); have n1_ := Am (hbox); have n2_ := Am ((by rw [hg]; exact (below_size (by repeat (first | (with_reducible first | exact HB.out | apply bl | apply pN | apply b1) | exact HB.out | exact HBo.out))) : w.heap.size ≤ gb243)); have n3_ := Am ((by rw [hg]; exact (below_size (by repeat (first | (with_reducible first | exact HB.out | apply bl | apply pN | apply b1) | exact HB.out | exact HBo.out))) : w.heap.size ≤ gb243)); clear HB; have HB := n0_; have BK243 := n1_; have GW243 := n2_; have GE243 := n3_; clear n0_ n1_ n2_ n3_; clear hb hbox hg) | ((with_reducible refine gate_dst (N := 3) rfl ?_); refine box_event ?hg (N := 3) ?hd (cs := #[.int .i64 a1_0, .int .i64 a1_1, .slice A1_2 l1_2.length c1_2, .string a1_3]) (t := 24) ?hr ?_; (case hd => rfl); (case hg => rfl); (case hr => first | (go_simp; done) | (go_simp; rfl)); intro gb244 hg w23 hbox hb; have n0_ := Am (blk_below (g := gb243) (o := .cells #[.int .i64 a0_0, .int .i64 a0_1, .slice A0_2 l0_2.length c0_2, .string a0_3] 24 (0, 0)) (by (with_reducible repeat (first | refine bn ?_ _ | refine bd ?_ | refine ba ?_ _)); exact BK243.out) hb); have n1_ := Am (below_step (by repeat (first | (with_reducible first | exact HB.out | apply bl | apply pN | apply b1 | refine bs ?_ GE243.out) | exact HB.out | exact HBo.out)) hb); have n2_ := Am (hbox); have n3_ := Am ((by rw [hg]; exact (below_size (by repeat (first | (with_reducible first | exact HB.out | apply bl | apply pN | apply b1 | refine bs ?_ GE243.out) | exact HB.out | exact HBo.out))) : w.heap.size ≤ gb244)); have n4_ := Am ((by rw [hg]; exact (below_size (by repeat (first | (with_reducible first | exact HB.out | apply bl | apply pN | apply b1 | refine bs ?_ GE243.out) | exact HB.out | exact HBo.out))) : w.heap.size ≤ gb244)); have n5_ := Am ((by rw [hg]; exact Nat.ne_of_lt (blk_lt (g := gb243) (o := .cells #[.int .i64 a0_0, .int .i64 a0_1, .slice A0_2 l0_2.length c0_2, .string a0_3] 24 (0, 0)) (by (with_reducible repeat (first | refine bn ?_ _ | refine bd ?_ | refine ba ?_ _)); exact BK243.out)) : gb243 ≠ gb244)); have n6_ := Am ((by rw [hg]; exact Nat.ne_of_gt (blk_lt (g := gb243) (o := .cells #[.int .i64 a0_0, .int .i64 a0_1, .slice A0_2 l0_2.length c0_2, .string a0_3] 24 (0, 0)) (by (with_reducible repeat (first | refine bn ?_ _ | refine bd ?_ | refine ba ?_ _)); exact BK243.out)) : gb244 ≠ gb243)); clear BK243; clear HB; have BK243 := n0_; have HB := n1_; have BK244 := n2_; have GW244 := n3_; have GE244 := n4_; have NB243_244 := n5_; have NB244_243 := n6_; clear n0_ n1_ n2_ n3_ n4_ n5_ n6_; clear hb hbox hg; have hnb24 := NB243_244.out; have hnc24 := NB244_243.out; have hcz25_0 : w23.cell? ⟨gb243, 0, none⟩ = some (.int .i64 a0_0) := (bc BK243.out 0).trans rfl; have hcz25_1 : w23.cell? ⟨gb243, 1, none⟩ = some (.int .i64 a0_1) := (bc BK243.out 1).trans rfl; have hcz25_2 : w23.cell? ⟨gb243, 2, none⟩ = some (.slice A0_2 l0_2.length c0_2) := (bc BK243.out 2).trans rfl; have hcz25_3 : w23.cell? ⟨gb243, 3, none⟩ = some (.string a0_3) := (bc BK243.out 3).trans rfl; have hfz25_0 := bf BK243.out 0; have hfz25_1 := bf BK243.out 1; have hfz25_2 := bf BK243.out 2; have hfz25_3 := bf BK243.out 3; have hcz26_0 : w23.cell? ⟨gb244, 0, none⟩ = some (.int .i64 a1_0) := (bc BK244.out 0).trans rfl; have hcz26_1 : w23.cell? ⟨gb244, 1, none⟩ = some (.int .i64 a1_1) := (bc BK244.out 1).trans rfl; have hcz26_2 : w23.cell? ⟨gb244, 2, none⟩ = some (.slice A1_2 l1_2.length c1_2) := (bc BK244.out 2).trans rfl; have hcz26_3 : w23.cell? ⟨gb244, 3, none⟩ = some (.string a1_3) := (bc BK244.out 3).trans rfl; have hfz26_0 := bf BK244.out 0; have hfz26_1 := bf BK244.out 1; have hfz26_2 := bf BK244.out 2; have hfz26_3 := bf BK244.out 3))
  go_ret
  exact ⟨by first | rfl | (simp [errW_none, errW_some] <;> rfl) | (simp [*, errW_none, errW_some] <;> rfl) | (simp [Aid.ne_nil, Aid.eq_nil, errW_none, errW_some]; done), by repeat (first | (with_reducible first | exact HB.out | apply bl | apply pN | apply b1 | refine bs ?_ GE243.out | refine bs ?_ GE244.out) | exact HB.out | exact HBo.out)⟩

end Go.Proofs.Ythechcflnkofgaa.Q
