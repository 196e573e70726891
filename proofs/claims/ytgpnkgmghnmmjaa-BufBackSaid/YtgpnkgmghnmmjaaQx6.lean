-- printed by a program of this session (NOTES: hprint); not the kit's print
-- minified
-- halved
import Derived.Test.YtgpnkgmghnmmjaaAl
import Derived.Test.YtgpnkgmghnmmjaaQx0
import Derived.Test.YtgpnkgmghnmmjaaQx3
import Derived.Test.YtgpnkgmghnmmjaaQx4
import Derived.Test.YtgpnkgmghnmmjaaQx5
namespace Go.Proofs.Ytgpnkgmghnmmjaa.Q
open Go.RowKit Go.Proofs.YtgpnkgmghnmmjaaW.PrintWords Go.Proofs.YtgpnkgmghnmmjaaW.PrintLast Go.Proofs.YtgpnkgmghnmmjaaW.PrintMore
attribute [local go_sem] max2_int min2_int max_two min_two max_three min_three max_four min_four   -- for this text's walks alone
set_option linter.unusedVariables false
set_option linter.unusedSimpArgs false

def q6_0 : Array Bool := let o := true; let z := false; #[z,z,z,z,z,z,z,z,z,z]
def q6_1 : Array Bool := let o := true; let z := false; #[o,z,z,z,z,z,z,z,z,z]
def q6_2 : Array Bool := let o := true; let z := false; #[o,z,z,z,z,o,z,z,z,z]
def q6_3 : Array Bool := let o := true; let z := false; #[o,o,z,z,z,o,z,z,z,z]
def q6_4 : Array Bool := let o := true; let z := false; #[o,o,o,z,z,o,z,z,z,z]
def q6_5 : Array Bool := let o := true; let z := false; #[o,o,o,z,z,o,o,z,z,z]
def q6_6 : Array Bool := let o := true; let z := false; #[o,o,o,o,o,o,o,o,z,z]
def q6_7 : Array Bool := let o := true; let z := false; #[o,o,o,o,z,o,o,z,z,z]
def q6_8 : Array Bool := let o := true; let z := false; #[o,o,o,z,z,o,o,o,z,z]
def q6_9 : Array Bool := let o := true; let z := false; #[o,o,o,o,o,o,o,z,z,z]
def q6_10 : Array Bool := let o := true; let z := false; #[o,o,o,o,z,o,o,o,z,z]
def q6_11 : Array Bool := let o := true; let z := false; #[o,o,o,o,o,o,o,o,o,z]
def q6_12 : Array Bool := let o := true; let z := false; #[o,o,o,o,o,o,o,o,o,o]
/-! ### event_Encode: function 19 -/
def event_Encode.f (k : Nat) (a0_0 : Int) (a0_1 : Int) (l0_2 : List Int) (a0_3 : ByteArray) : Option (ByteArray) := (event_May.f a0_0 a0_1 l0_2 a0_3).bind fun t111 => (if t111 = true then ((some (([(a0_0) % 256] : List Int) : List Int)).bind fun y112 => ((varint_Put.f k a0_1).bind fun t115 => (if (strOfNums y112).size + t115.size ≤ 9223372036854775807 then ((kind_Exp.f a0_0).bind fun t116 => (if t116 = true then ((wire_Text.f k a0_3).bind fun t117 => (if ((strOfNums y112) ++ t115).size + t117.size ≤ 9223372036854775807 then (some (((strOfNums y112) ++ t115) ++ t117)) else (none))) else ((wire_Nums.f k l0_2).bind fun t118 => (if ((strOfNums y112) ++ t115).size + t118.size ≤ 9223372036854775807 then (some (((strOfNums y112) ++ t115) ++ t118)) else (none))))) else (none)))) else (some (⟨#[]⟩ : ByteArray)))
theorem event_Encode.mono : ∀ a0 a1 a2 a3 k, LeO (event_Encode.f k a0 a1 a2 a3) (event_Encode.f (k + 1) a0 a1 a2 a3) := by
 intro a0 a1 a2 a3 k
 unfold event_Encode.f
 repeat' first
   | (with_reducible exact varint_Put.mono _ _)
   | (with_reducible exact wire_Nums.mono _ _)
   | (with_reducible exact wire_Text.mono _ _)
   | (with_reducible exact LeO.refl _)
   | (with_reducible exact LeO.none _)
   | (with_reducible refine LeO.ite ?_ ?_)
   | (with_reducible refine LeO.bind ?_ (fun _ => ?_))
   | exact varint_Put.mono _ _
   | exact wire_Nums.mono _ _
   | exact wire_Text.mono _ _
   | exact LeO.none _
   | refine LeO.ite ?_ ?_
   | refine LeO.bind ?_ (fun _ => ?_)
def event_Encode.T3 : Bool × List (List Nat × List Nat) := (true, [([], []), ([0], [0]), ([1], [1]), ([2], [2]), ([3], [3]), ([], []), ([5], [5]), ([6], [6]), ([4, 7], [4, 7]), ([8, 7, 0, 1, 2, 3, 4, 5, 6, 7, 8], [8])])
def event_Encode.B3 : List Nat := [0, 1, 3, 7, 15, 0, 32, 96, 255, 511]
theorem event_Encode.tab3 : rtab .any (opsOf Try.f19 3) = event_Encode.T3 := by kernel_rfl
theorem event_Encode.bits3 : waitsOk event_Encode.T3.2 event_Encode.B3 = true := by kernel_rfl
set_option maxHeartbeats 8000000 in
set_option maxRecDepth 100000 in
theorem event_Encode.calls (k : Nat) (a0_0 : Int) (a0_1 : Int) (A0_2 : Option Addr) (c0_2 : Nat) (l0_2 : List Int) (a0_3 : ByteArray) (r : ByteArray) (w : World) (hr0_2 : Kd.C (Kd.int .i64) w A0_2 l0_2.length l0_2) (hc0_2 : l0_2.length ≤ c0_2) (h : event_Encode.f k a0_0 a0_1 l0_2 a0_3 = some r) :
  Calls Try.prog 19 #[.agg #[.int .i64 a0_0, .int .i64 a0_1, .slice A0_2 l0_2.length c0_2, .string a0_3]] w fun e w' => e = .returned (.string r) ∧ Below w.heap.size w w' := by
 have hu28 := Try.underlying28
 have HR0_2 := Am hr0_2
 have HC0_2 := Am hc0_2
 clear hr0_2 hc0_2
 have HB := Am (Below.refl w.heap.size w)
 have H : ((event_May.f a0_0 a0_1 l0_2 a0_3).bind fun t111 => (if t111 = true then ((some (([(a0_0) % 256] : List Int) : List Int)).bind fun y112 => ((varint_Put.f k a0_1).bind fun t115 => (if (strOfNums y112).size + t115.size ≤ 9223372036854775807 then ((kind_Exp.f a0_0).bind fun t116 => (if t116 = true then ((wire_Text.f k a0_3).bind fun t117 => (if ((strOfNums y112) ++ t115).size + t117.size ≤ 9223372036854775807 then (some (((strOfNums y112) ++ t115) ++ t117)) else (none))) else ((wire_Nums.f k l0_2).bind fun t118 => (if ((strOfNums y112) ++ t115).size + t118.size ≤ 9223372036854775807 then (some (((strOfNums y112) ++ t115) ++ t118)) else (none))))) else (none)))) else (some (⟨#[]⟩ : ByteArray)))) = some r := h
 clear h
 replace H := ob H
 obtain ⟨t111, A20, H⟩ := H
 replace H : (if t111 = true then ((some (([(a0_0) % 256] : List Int) : List Int)).bind fun y112 => ((varint_Put.f k a0_1).bind fun t115 => (if (strOfNums y112).size + t115.size ≤ 9223372036854775807 then ((kind_Exp.f a0_0).bind fun t116 => (if t116 = true then ((wire_Text.f k a0_3).bind fun t117 => (if ((strOfNums y112) ++ t115).size + t117.size ≤ 9223372036854775807 then (some (((strOfNums y112) ++ t115) ++ t117)) else (none))) else ((wire_Nums.f k l0_2).bind fun t118 => (if ((strOfNums y112) ++ t115).size + t118.size ≤ 9223372036854775807 then (some (((strOfNums y112) ++ t115) ++ t118)) else (none))))) else (none)))) else (some (⟨#[]⟩ : ByteArray))) = some r := H
 have A2 := Am A20
 clear A20
 by_cases c3 : t111 = true
 ·
  subst c3
  have H1 : ((some (([(a0_0) % 256] : List Int) : List Int)).bind fun y112 => ((varint_Put.f k a0_1).bind fun t115 => (if (strOfNums y112).size + t115.size ≤ 9223372036854775807 then ((kind_Exp.f a0_0).bind fun t116 => (if t116 = true then ((wire_Text.f k a0_3).bind fun t117 => (if ((strOfNums y112) ++ t115).size + t117.size ≤ 9223372036854775807 then (some (((strOfNums y112) ++ t115) ++ t117)) else (none))) else ((wire_Nums.f k l0_2).bind fun t118 => (if ((strOfNums y112) ++ t115).size + t118.size ≤ 9223372036854775807 then (some (((strOfNums y112) ++ t115) ++ t118)) else (none))))) else (none)))) = some r := by rw [if_pos rfl] at H; exact H
  clear H
  have H := H1
  clear H1
  obtain ⟨y112, hy112⟩ : ∃ y_ : List Int, y_ = (([(a0_0) % 256] : List Int)) := ⟨_, rfl⟩
  replace H : ((varint_Put.f k a0_1).bind fun t115 => (if (strOfNums y112).size + t115.size ≤ 9223372036854775807 then ((kind_Exp.f a0_0).bind fun t116 => (if t116 = true then ((wire_Text.f k a0_3).bind fun t117 => (if ((strOfNums y112) ++ t115).size + t117.size ≤ 9223372036854775807 then (some (((strOfNums y112) ++ t115) ++ t117)) else (none))) else ((wire_Nums.f k l0_2).bind fun t118 => (if ((strOfNums y112) ++ t115).size + t118.size ≤ 9223372036854775807 then (some (((strOfNums y112) ++ t115) ++ t118)) else (none))))) else (none))) = some r := by first | (rw [hy112]; with_reducible exact H) | (have H2_ := (Option.bind_some _ _).symm.trans H; rw [hy112]; with_reducible exact H2_) | (have H2_ := (Option.bind_some _ _).symm.trans H; with_reducible exact H2_) | with_reducible exact H | (rw [hy112]; exact H) | exact H
  have Ny112 := Am hy112
  clear hy112
  replace H := ob H
  obtain ⟨t115, A40, H⟩ := H
  replace H : (if (strOfNums y112).size + t115.size ≤ 9223372036854775807 then ((kind_Exp.f a0_0).bind fun t116 => (if t116 = true then ((wire_Text.f k a0_3).bind fun t117 => (if ((strOfNums y112) ++ t115).size + t117.size ≤ 9223372036854775807 then (some (((strOfNums y112) ++ t115) ++ t117)) else (none))) else ((wire_Nums.f k l0_2).bind fun t118 => (if ((strOfNums y112) ++ t115).size + t118.size ≤ 9223372036854775807 then (some (((strOfNums y112) ++ t115) ++ t118)) else (none))))) else (none)) = some r := H
  have A4 := Am A40
  clear A40
  by_cases c5 : (strOfNums y112).size + t115.size ≤ 9223372036854775807
  ·
   rw [if_pos c5] at H
   have c5b0 := eq_true c5
   have c5b1 : decide ((strOfNums y112).size + t115.size ≤ 9223372036854775807) = true := decide_eq_true c5
   try have c5b2 : (9223372036854775807 < (strOfNums y112).size + t115.size) = False := eq_false (Nat.not_lt.2 c5)
   replace H := ob H
   obtain ⟨t116, A60, H⟩ := H
   replace H : (if t116 = true then ((wire_Text.f k a0_3).bind fun t117 => (if ((strOfNums y112) ++ t115).size + t117.size ≤ 9223372036854775807 then (some (((strOfNums y112) ++ t115) ++ t117)) else (none))) else ((wire_Nums.f k l0_2).bind fun t118 => (if ((strOfNums y112) ++ t115).size + t118.size ≤ 9223372036854775807 then (some (((strOfNums y112) ++ t115) ++ t118)) else (none)))) = some r := H
   have A6 := Am A60
   clear A60
   by_cases c7 : t116 = true
   ·
    subst c7
    have H1 : ((wire_Text.f k a0_3).bind fun t117 => (if ((strOfNums y112) ++ t115).size + t117.size ≤ 9223372036854775807 then (some (((strOfNums y112) ++ t115) ++ t117)) else (none))) = some r := by rw [if_pos rfl] at H; exact H
    clear H
    have H := H1
    clear H1
    replace H := ob H
    obtain ⟨t117, A80, H⟩ := H
    replace H : (if ((strOfNums y112) ++ t115).size + t117.size ≤ 9223372036854775807 then (some (((strOfNums y112) ++ t115) ++ t117)) else (none)) = some r := H
    have A8 := Am A80
    clear A80
    by_cases c9 : ((strOfNums y112) ++ t115).size + t117.size ≤ 9223372036854775807
    ·
     rw [if_pos c9] at H
     have c9b0 := eq_true c9
     have c9b1 : decide (((strOfNums y112) ++ t115).size + t117.size ≤ 9223372036854775807) = true := decide_eq_true c9
     try have c9b2 : (9223372036854775807 < ((strOfNums y112) ++ t115).size + t117.size) = False := eq_false (Nat.not_lt.2 c9)
     try (have c9b3 := c9b2; simp only [ByteArray.size_append] at c9b3)
     try (have c9b4 := c9b1; simp only [ByteArray.size_append] at c9b4)
     obtain rfl := Option.some.inj H
     go_enter Try.func19, Try.ntmps19
     try go_wp2_with (first | ((with_reducible refine gate_dst (N := 1) rfl ?_); refine box_event ?hg (N := 1) ?hd (cs := #[.int .i64 a0_0, .int .i64 a0_1, .slice A0_2 l0_2.length c0_2, .string a0_3]) (t := 28) ?hr ?_; (case hd => rfl); (case hg => rfl); (case hr => first | (go_simp; done) | (go_simp; rfl)); intro gb110 hg w10 hbox hb; have n0_ := Am (below_step (by repeat (first | (with_reducible first | exact HB.out | apply bl | apply pN | apply b1) | exact HB.out | exact HBo.out)) hb); have n1_ := Am (hbox); have n2_ := Am ((by rw [hg]; exact (below_size (by repeat (first | (with_reducible first | exact HB.out | apply bl | apply pN | apply b1) | exact HB.out | exact HBo.out))) : w.heap.size ≤ gb110)); have n3_ := Am ((by rw [hg]; exact (below_size (by repeat (first | (with_reducible first | exact HB.out | apply bl | apply pN | apply b1) | exact HB.out | exact HBo.out))) : w.heap.size ≤ gb110)); clear HB; have HB := n0_; have BK110 := n1_; have GW110 := n2_; have GE110 := n3_; clear n0_ n1_ n2_ n3_; clear hb hbox hg; have hcz11_0 : w10.cell? ⟨gb110, 0, none⟩ = some (.int .i64 a0_0) := (bc BK110.out 0).trans rfl; have hcz11_1 : w10.cell? ⟨gb110, 1, none⟩ = some (.int .i64 a0_1) := (bc BK110.out 1).trans rfl; have hcz11_2 : w10.cell? ⟨gb110, 2, none⟩ = some (.slice A0_2 l0_2.length c0_2) := (bc BK110.out 2).trans rfl; have hcz11_3 : w10.cell? ⟨gb110, 3, none⟩ = some (.string a0_3) := (bc BK110.out 3).trans rfl; have hfz11_0 := bf BK110.out 0; have hfz11_1 := bf BK110.out 1; have hfz11_2 := bf BK110.out 2; have hfz11_3 := bf BK110.out 3) | ((with_reducible refine gate_callee (f := 18) rfl ?_); refine goesL_ (some 5) rfl rfl Try.func18 (by kernel_rfl) rfl #[.agg #[.int .i64 a0_0, .int .i64 a0_1, .slice A0_2 l0_2.length c0_2, .string a0_3]] rfl (by (try simp only [List.map_toArray, List.map_cons, List.map_nil]); first | done | rfl | (simp only [List.length_drop, List.length_take]; rfl)) ?_; (with_reducible refine (event_May.calls a0_0 a0_1 _ _ l0_2 a0_3 true _ ?side1 ?side2 A2.out).mono ?_); (case side1 => repeat (first | exact (Kd.C_below HR0_2.out HB.out) | (with_reducible refine Kd.C_alloc ?_ _) | (with_reducible refine Kd.C_drewN ?_ _) | (with_reducible refine Kd.C_drew ?_))); (case side2 => exact HC0_2.out); rintro e w12 ⟨rfl, hb⟩; refine ⟨_, rfl, ?_⟩; have n0_ := Am (blk_below (g := gb110) (o := .cells #[.int .i64 a0_0, .int .i64 a0_1, .slice A0_2 l0_2.length c0_2, .string a0_3] 28 (0, 0)) (by (with_reducible repeat (first | refine bn ?_ _ | refine bd ?_ | refine ba ?_ _)); exact BK110.out) hb); have n1_ := Am (below_step (by repeat (first | (with_reducible first | exact HB.out | apply bl | apply pN | apply b1 | refine bs ?_ GE110.out) | exact HB.out | exact HBo.out)) hb); clear BK110; clear HB; have BK110 := n0_; have HB := n1_; clear n0_ n1_; (try clear hb); (try clear hb2); (try clear hk); (try clear hi)))
     have n0_ := Am (bd BK110.out)
     have n1_ := Am (b1 HB.out)
     clear BK110
     clear HB
     have BK110 := n0_
     have HB := n1_
     clear n0_ n1_
     refine start_ (n := 10) (S := fun w' => w'.cell? ⟨gb110, 0, none⟩ = some (.int .i64 a0_0) ∧ w'.cell? ⟨gb110, 1, none⟩ = some (.int .i64 a0_1) ∧ w'.cell? ⟨gb110, 2, none⟩ = some (.slice A0_2 l0_2.length c0_2) ∧ w'.cell? ⟨gb110, 3, none⟩ = some (.string a0_3)) (ds := []) q6_0 (by kernel_rfl) rfl rfl ⟨(bc BK110.out 0).trans rfl, (bc BK110.out 1).trans rfl, (bc BK110.out 2).trans rfl, (bc BK110.out 3).trans rfl⟩ (fun hHeld => ?_); refine with_tabW event_Encode.tab3 event_Encode.bits3 (fun HT_ HW_ => ?_)
     generalize w12.drew = w13 at BK110 HB hHeld ⊢
     refine Own.pr_ 0 (some 7) q6_1 HT_ (h := ?_)
     refine Own.pr_ 5 (some 12) q6_2 HT_ (h := ?_)
     refine Own.tk_ 1 (some 8) q6_3 HT_ HW_ hHeld (hy := by rintro w' ⟨s0, s1, s2, s3⟩; go_simp; with_reducible rfl) (h := ?_)
     refine Own.pr_ 2 (some 9) q6_4 HT_ (h := ?_)
     refine Own.tk_ 6 (some 13) q6_5 HT_ HW_ hHeld (hy := by rintro w' ⟨s0, s1, s2, s3⟩; go_simp; with_reducible rfl) (h := ?_)
     refine join_ (σ := Value) 2 q6_6 (fun s_ => [(10, s_), (11, .string (strOfNums y112)), (14, .string t115)]) (fun s_ w' => (w'.cell? ⟨gb110, 0, none⟩ = some (.int .i64 a0_0) ∧ w'.cell? ⟨gb110, 1, none⟩ = some (.int .i64 a0_1) ∧ w'.cell? ⟨gb110, 2, none⟩ = some (.slice A0_2 l0_2.length c0_2) ∧ w'.cell? ⟨gb110, 3, none⟩ = some (.string a0_3)) ∧ (Kd.R (Kd.int .u8) 5 w' w.heap.size (fun _ => True) s_ y112) ∧ (w'.heap[gb110]? = some (.cells #[.int .i64 a0_0, .int .i64 a0_1, .slice A0_2 l0_2.length c0_2, .string a0_3] 28 (0, 0))) ∧ (Below w.heap.size w w')) ?_ ?_
     rotate_left
     ·
      intro hCont
      refine two_ (i := 3) (j := 7) (Ni := some 10) (Nj := some 14) q6_7 q6_8 rfl rfl rfl rfl (two_of HT_.out (by kernel_rfl)) (by decide) (by decide) (fun K hK => ?_) (fun K hK => ?_)
      ·
       skip
       refine Kd.R_lit_step (Kd.int .u8) _ 5 ?hg (N := 10) ?hd (xs := ([(a0_0) % 256] : List Int)) (inner := [.int .u8 ((a0_0) % 256)]) (ok := fun _ => True) (okp := fun _ => True) ?hr ?hp (fun _ hk => hk) trivial (Below.refl _ _) (Nat.le_refl _) (by simp) ?_; (case hd => rfl); (case hg => rfl); (case hr => first | (go_simp; done) | (go_simp; rfl)); (case hp => exact (Reps.one (show Kd.M (Kd.int .u8) _ _ _ ((a0_0) % 256) [.int .u8 ((a0_0) % 256)] from rfl) (Reps.none _ _)))
       intro v113 w14 ho15 hb hg_ hnew_
       clear hg_ hnew_
       (first | rw [← Ny112.out] at ho15 | (simp only [Int.reduceToNat] at ho15; rw [← Ny112.out] at ho15))
       have n0_ := Am (Kd.R_lower ho15 (below_size (by repeat (first | (with_reducible first | exact HB.out | apply bl | apply pN | apply b1 | refine bs ?_ GE110.out) | exact HB.out | exact HBo.out))))
       have n1_ := Am (blk_below (g := gb110) (o := .cells #[.int .i64 a0_0, .int .i64 a0_1, .slice A0_2 l0_2.length c0_2, .string a0_3] 28 (0, 0)) (by (with_reducible repeat (first | refine bn ?_ _ | refine bd ?_ | refine ba ?_ _)); exact BK110.out) hb)
       have n2_ := Am (below_step (by repeat (first | (with_reducible first | exact HB.out | apply bl | apply pN | apply b1 | refine bs ?_ GE110.out) | exact HB.out | exact HBo.out)) hb)
       clear BK110
       clear HB
       have HO114 := n0_
       have BK110 := n1_
       have HB := n2_
       clear n0_ n1_ n2_
       clear hb ho15
       refine hK.out _ _ ⟨(bc BK110.out 0).trans rfl, (bc BK110.out 1).trans rfl, (bc BK110.out 2).trans rfl, (bc BK110.out 3).trans rfl⟩ (fun hHeld => ?_)
       clear hK K
       refine norm_ (a' := ?_) ?_ ?_
       rotate_left
       ·
        show Act.put _ (some 10) _ = _
        simp only [Act.put, sI, sZ, sS, i64_w, i32_w]
        rfl
       refine two_ (i := 4) (j := 7) (Ni := some 11) (Nj := some 14) q6_9 q6_10 rfl rfl rfl rfl (two_of HT_.out (by kernel_rfl)) (by decide) (by decide) (fun K hK => ?_) (fun K hK => ?_)
       ·
        skip
        have hcv16 := own_string (P := Try.prog) Try.underlying55 Try.underlying5 Try.underlying9 (Kd.own_of_R HO114.out)
        refine value_ (w1 := ?_) (v := ?_) (by rfl) rfl ?_ ?_
        rotate_left 2
        ·
         go_simp
         constructor
         ·
          rfl
         ·
          rfl
        clear hcv16
        refine hK.out _ _ ⟨(bc BK110.out 0).trans rfl, (bc BK110.out 1).trans rfl, (bc BK110.out 2).trans rfl, (bc BK110.out 3).trans rfl⟩ (fun hHeld => ?_)
        clear hK K
        refine norm_ (a' := ?_) ?_ ?_
        rotate_left
        ·
         show Act.put _ (some 11) _ = _
         simp only [Act.put, sI, sZ, sS, i64_w, i32_w]
         rfl
        refine one_ (i := 7) (N := some 14) q6_6 rfl rfl (one_of HT_.out (by kernel_rfl)) (by decide) (fun K hK => ?_)
        refine goes_ Try.func32 (by kernel_rfl) rfl #[.int .i64 a0_1] (by rfl) rfl rfl (by (try simp only [List.map_toArray, List.map_cons, List.map_nil]); first | done | rfl | (simp only [List.length_drop, List.length_take]; rfl)) ?_
        with_reducible refine (varint_Put.calls k a0_1 t115 _ A4.out).mono ?_
        rintro e w17 ⟨rfl, hb⟩
        refine ⟨_, rfl, ?_⟩
        have n0_ := Am (Kd.R_below (by (with_reducible repeat (first | apply Kd.R_alloc | apply Kd.R_drewN | apply Kd.R_drew)); exact HO114.out) hb)
        have n1_ := Am (blk_below (g := gb110) (o := .cells #[.int .i64 a0_0, .int .i64 a0_1, .slice A0_2 l0_2.length c0_2, .string a0_3] 28 (0, 0)) (by (with_reducible repeat (first | refine bn ?_ _ | refine bd ?_ | refine ba ?_ _)); exact BK110.out) hb)
        have n2_ := Am (below_step (by repeat (first | (with_reducible first | exact HB.out | apply bl | apply pN | apply b1 | refine bs ?_ GE110.out) | exact HB.out | exact HBo.out)) hb)
        clear HO114
        clear BK110
        clear HB
        have HO114 := n0_
        have BK110 := n1_
        have HB := n2_
        clear n0_ n1_ n2_
        (try clear hb)
        (try clear hb2)
        (try clear hk)
        (try clear hi)
        refine hK.out _ _ ⟨(bc BK110.out 0).trans rfl, (bc BK110.out 1).trans rfl, (bc BK110.out 2).trans rfl, (bc BK110.out 3).trans rfl⟩ (fun hHeld => ?_)
        clear hK K
        refine norm_ (a' := ?_) ?_ ?_
        rotate_left
        ·
         show Act.put _ (some 14) _ = _
         simp only [Act.put, sI, sZ, sS, i64_w, i32_w]
         rfl
        exact norm_ (by simp only [putAll, Act.put, sI, sZ, sS]) (hCont (v113) _ ⟨hHeld, (by (with_reducible repeat (first | apply Kd.R_alloc | apply Kd.R_drewN | apply Kd.R_drew)); exact HO114.out), (by (with_reducible repeat (first | refine bn ?_ _ | refine bd ?_ | refine ba ?_ _)); exact BK110.out), (by repeat (first | (with_reducible first | exact HB.out | apply bl | apply pN | apply b1 | refine bs ?_ GE110.out) | exact HB.out | exact HBo.out))⟩)
       ·
        skip
        refine goes_ Try.func32 (by kernel_rfl) rfl #[.int .i64 a0_1] (by rfl) rfl rfl (by (try simp only [List.map_toArray, List.map_cons, List.map_nil]); first | done | rfl | (simp only [List.length_drop, List.length_take]; rfl)) ?_
        with_reducible refine (varint_Put.calls k a0_1 t115 _ A4.out).mono ?_
        rintro e w16 ⟨rfl, hb⟩
        refine ⟨_, rfl, ?_⟩
        have n0_ := Am (Kd.R_below (by (with_reducible repeat (first | apply Kd.R_alloc | apply Kd.R_drewN | apply Kd.R_drew)); exact HO114.out) hb)
        have n1_ := Am (blk_below (g := gb110) (o := .cells #[.int .i64 a0_0, .int .i64 a0_1, .slice A0_2 l0_2.length c0_2, .string a0_3] 28 (0, 0)) (by (with_reducible repeat (first | refine bn ?_ _ | refine bd ?_ | refine ba ?_ _)); exact BK110.out) hb)
        have n2_ := Am (below_step (by repeat (first | (with_reducible first | exact HB.out | apply bl | apply pN | apply b1 | refine bs ?_ GE110.out) | exact HB.out | exact HBo.out)) hb)
        clear HO114
        clear BK110
        clear HB
        have HO114 := n0_
        have BK110 := n1_
        have HB := n2_
        clear n0_ n1_ n2_
        (try clear hb)
        (try clear hb2)
        (try clear hk)
        (try clear hi)
        refine hK.out _ _ ⟨(bc BK110.out 0).trans rfl, (bc BK110.out 1).trans rfl, (bc BK110.out 2).trans rfl, (bc BK110.out 3).trans rfl⟩ (fun hHeld => ?_)
        clear hK K
        refine norm_ (a' := ?_) ?_ ?_
        rotate_left
        ·
         show Act.put _ (some 14) _ = _
         simp only [Act.put, sI, sZ, sS, i64_w, i32_w]
         rfl
        refine one_ (i := 4) (N := some 11) q6_6 rfl rfl (one_of HT_.out (by kernel_rfl)) (by decide) (fun K hK => ?_)
        have hcv17 := own_string (P := Try.prog) Try.underlying55 Try.underlying5 Try.underlying9 (Kd.own_of_R HO114.out)
        refine value_ (w1 := ?_) (v := ?_) (by rfl) rfl ?_ ?_
        rotate_left 2
        ·
         go_simp
         constructor
         ·
          rfl
         ·
          rfl
        clear hcv17
        refine hK.out _ _ ⟨(bc BK110.out 0).trans rfl, (bc BK110.out 1).trans rfl, (bc BK110.out 2).trans rfl, (bc BK110.out 3).trans rfl⟩ (fun hHeld => ?_)
        clear hK K
        refine norm_ (a' := ?_) ?_ ?_
        rotate_left
        ·
         show Act.put _ (some 11) _ = _
         simp only [Act.put, sI, sZ, sS, i64_w, i32_w]
         rfl
        exact norm_ (by simp only [putAll, Act.put, sI, sZ, sS]) (hCont (v113) _ ⟨hHeld, (by (with_reducible repeat (first | apply Kd.R_alloc | apply Kd.R_drewN | apply Kd.R_drew)); exact HO114.out), (by (with_reducible repeat (first | refine bn ?_ _ | refine bd ?_ | refine ba ?_ _)); exact BK110.out), (by repeat (first | (with_reducible first | exact HB.out | apply bl | apply pN | apply b1 | refine bs ?_ GE110.out) | exact HB.out | exact HBo.out))⟩)
      ·
       skip
       refine goes_ Try.func32 (by kernel_rfl) rfl #[.int .i64 a0_1] (by rfl) rfl rfl (by (try simp only [List.map_toArray, List.map_cons, List.map_nil]); first | done | rfl | (simp only [List.length_drop, List.length_take]; rfl)) ?_
       with_reducible refine (varint_Put.calls k a0_1 t115 _ A4.out).mono ?_
       rintro e w14 ⟨rfl, hb⟩
       refine ⟨_, rfl, ?_⟩
       have n0_ := Am (blk_below (g := gb110) (o := .cells #[.int .i64 a0_0, .int .i64 a0_1, .slice A0_2 l0_2.length c0_2, .string a0_3] 28 (0, 0)) (by (with_reducible repeat (first | refine bn ?_ _ | refine bd ?_ | refine ba ?_ _)); exact BK110.out) hb)
       have n1_ := Am (below_step (by repeat (first | (with_reducible first | exact HB.out | apply bl | apply pN | apply b1 | refine bs ?_ GE110.out) | exact HB.out | exact HBo.out)) hb)
       clear BK110
       clear HB
       have BK110 := n0_
       have HB := n1_
       clear n0_ n1_
       (try clear hb)
       (try clear hb2)
       (try clear hk)
       (try clear hi)
       refine hK.out _ _ ⟨(bc BK110.out 0).trans rfl, (bc BK110.out 1).trans rfl, (bc BK110.out 2).trans rfl, (bc BK110.out 3).trans rfl⟩ (fun hHeld => ?_)
       clear hK K
       refine norm_ (a' := ?_) ?_ ?_
       rotate_left
       ·
        show Act.put _ (some 14) _ = _
        simp only [Act.put, sI, sZ, sS, i64_w, i32_w]
        rfl
       refine one_ (i := 3) (N := some 10) q6_10 rfl rfl (one_of HT_.out (by kernel_rfl)) (by decide) (fun K hK => ?_)
       refine Kd.R_lit_step (Kd.int .u8) _ 5 ?hg (N := 10) ?hd (xs := ([(a0_0) % 256] : List Int)) (inner := [.int .u8 ((a0_0) % 256)]) (ok := fun _ => True) (okp := fun _ => True) ?hr ?hp (fun _ hk => hk) trivial (Below.refl _ _) (Nat.le_refl _) (by simp) ?_; (case hd => rfl); (case hg => rfl); (case hr => first | (go_simp; done) | (go_simp; rfl)); (case hp => exact (Reps.one (show Kd.M (Kd.int .u8) _ _ _ ((a0_0) % 256) [.int .u8 ((a0_0) % 256)] from rfl) (Reps.none _ _)))
       intro v113 w15 ho16 hb hg_ hnew_
       clear hg_ hnew_
       (first | rw [← Ny112.out] at ho16 | (simp only [Int.reduceToNat] at ho16; rw [← Ny112.out] at ho16))
       have n0_ := Am (Kd.R_lower ho16 (below_size (by repeat (first | (with_reducible first | exact HB.out | apply bl | apply pN | apply b1 | refine bs ?_ GE110.out) | exact HB.out | exact HBo.out))))
       have n1_ := Am (blk_below (g := gb110) (o := .cells #[.int .i64 a0_0, .int .i64 a0_1, .slice A0_2 l0_2.length c0_2, .string a0_3] 28 (0, 0)) (by (with_reducible repeat (first | refine bn ?_ _ | refine bd ?_ | refine ba ?_ _)); exact BK110.out) hb)
       have n2_ := Am (below_step (by repeat (first | (with_reducible first | exact HB.out | apply bl | apply pN | apply b1 | refine bs ?_ GE110.out) | exact HB.out | exact HBo.out)) hb)
       clear BK110
       clear HB
       have HO114 := n0_
       have BK110 := n1_
       have HB := n2_
       clear n0_ n1_ n2_
       clear hb ho16
       refine hK.out _ _ ⟨(bc BK110.out 0).trans rfl, (bc BK110.out 1).trans rfl, (bc BK110.out 2).trans rfl, (bc BK110.out 3).trans rfl⟩ (fun hHeld => ?_)
       clear hK K
       refine norm_ (a' := ?_) ?_ ?_
       rotate_left
       ·
        show Act.put _ (some 10) _ = _
        simp only [Act.put, sI, sZ, sS, i64_w, i32_w]
        rfl
       refine one_ (i := 4) (N := some 11) q6_6 rfl rfl (one_of HT_.out (by kernel_rfl)) (by decide) (fun K hK => ?_)
       have hcv17 := own_string (P := Try.prog) Try.underlying55 Try.underlying5 Try.underlying9 (Kd.own_of_R HO114.out)
       refine value_ (w1 := ?_) (v := ?_) (by rfl) rfl ?_ ?_
       rotate_left 2
       ·
        go_simp
        constructor
        ·
         rfl
        ·
         rfl
       clear hcv17
       refine hK.out _ _ ⟨(bc BK110.out 0).trans rfl, (bc BK110.out 1).trans rfl, (bc BK110.out 2).trans rfl, (bc BK110.out 3).trans rfl⟩ (fun hHeld => ?_)
       clear hK K
       refine norm_ (a' := ?_) ?_ ?_
       rotate_left
       ·
        show Act.put _ (some 11) _ = _
        simp only [Act.put, sI, sZ, sS, i64_w, i32_w]
        rfl
       exact norm_ (by simp only [putAll, Act.put, sI, sZ, sS]) (hCont (v113) _ ⟨hHeld, (by (with_reducible repeat (first | apply Kd.R_alloc | apply Kd.R_drewN | apply Kd.R_drew)); exact HO114.out), (by (with_reducible repeat (first | refine bn ?_ _ | refine bd ?_ | refine ba ?_ _)); exact BK110.out), (by repeat (first | (with_reducible first | exact HB.out | apply bl | apply pN | apply b1 | refine bs ?_ GE110.out) | exact HB.out | exact HBo.out))⟩)
     rintro v113 w18 ⟨hS_, h0_, h1_, h2_⟩
     have n0_ : Aside0 (Kd.R (Kd.int .u8) 5 w18 w.heap.size (fun _ => True) v113 y112) := ⟨h0_⟩
     have n1_ : Aside0 (w18.heap[gb110]? = some (.cells #[.int .i64 a0_0, .int .i64 a0_1, .slice A0_2 l0_2.length c0_2, .string a0_3] 28 (0, 0))) := ⟨h1_⟩
     have n2_ : Aside0 (Below w.heap.size w w18) := ⟨h2_⟩
     clear BK110
     clear HB
     clear h0_ h1_ h2_
     have HO114 := n0_
     have BK110 := n1_
     have HB := n2_
     clear n0_ n1_ n2_
     have hHeld : w18.cell? ⟨gb110, 0, none⟩ = some (.int .i64 a0_0) ∧ w18.cell? ⟨gb110, 1, none⟩ = some (.int .i64 a0_1) ∧ w18.cell? ⟨gb110, 2, none⟩ = some (.slice A0_2 l0_2.length c0_2) ∧ w18.cell? ⟨gb110, 3, none⟩ = some (.string a0_3) := hS_
     refine norm_ (a' := ?_) ?_ ?_
     rotate_left
     ·
      simp only [putAll, Act.put, sI, sZ, sS]
      rfl
     refine Own.pr_ 8 (some 15) q6_11 HT_ (h := ?_)
     refine Own.pr_ 9 (some 3) q6_12 HT_ (h := ?_)
     refine done_ (done_of HT_.out (by kernel_rfl)) ?_
     have hcz19_0 : w18.cell? ⟨gb110, 0, none⟩ = some (.int .i64 a0_0) := (bc BK110.out 0).trans rfl
     have hcz19_1 : w18.cell? ⟨gb110, 1, none⟩ = some (.int .i64 a0_1) := (bc BK110.out 1).trans rfl
     have hcz19_2 : w18.cell? ⟨gb110, 2, none⟩ = some (.slice A0_2 l0_2.length c0_2) := (bc BK110.out 2).trans rfl
     have hcz19_3 : w18.cell? ⟨gb110, 3, none⟩ = some (.string a0_3) := (bc BK110.out 3).trans rfl
     have hfz19_0 := bf BK110.out 0
     have hfz19_1 := bf BK110.out 1
     have hfz19_2 := bf BK110.out 2
     have hfz19_3 := bf BK110.out 3
     try go_wp2_with (first | ((with_reducible refine gate_callee (f := 27) rfl ?_); refine goesL_ (some 18) rfl rfl Try.func27 (by kernel_rfl) rfl #[.int .i64 a0_0] rfl (by (try simp only [List.map_toArray, List.map_cons, List.map_nil]); first | done | rfl | (simp only [List.length_drop, List.length_take]; rfl)) ?_; (with_reducible refine (kind_Exp.calls a0_0 true _ A6.out).mono ?_); rintro e w' ⟨rfl, ⟨nd, rfl⟩⟩; refine ⟨_, rfl, ?_⟩) | ((with_reducible refine gate_callee (f := 33) rfl ?_); refine goesL_ (some 22) rfl rfl Try.func33 (by kernel_rfl) rfl #[.string a0_3] rfl (by (try simp only [List.map_toArray, List.map_cons, List.map_nil]); first | done | rfl | (simp only [List.length_drop, List.length_take]; rfl)) ?_; (with_reducible refine (wire_Text.calls k a0_3 t117 _ A8.out).mono ?_); rintro e w20 ⟨rfl, hb⟩; refine ⟨_, rfl, ?_⟩; have n0_ := Am (Kd.R_below (by (with_reducible repeat (first | apply Kd.R_alloc | apply Kd.R_drewN | apply Kd.R_drew)); exact HO114.out) hb); have n1_ := Am (blk_below (g := gb110) (o := .cells #[.int .i64 a0_0, .int .i64 a0_1, .slice A0_2 l0_2.length c0_2, .string a0_3] 28 (0, 0)) (by (with_reducible repeat (first | refine bn ?_ _ | refine bd ?_ | refine ba ?_ _)); exact BK110.out) hb); have n2_ := Am (below_step (by repeat (first | (with_reducible first | exact HB.out | apply bl | apply pN | apply b1 | refine bs ?_ GE110.out) | exact HB.out | exact HBo.out)) hb); clear HO114; clear BK110; clear HB; have HO114 := n0_; have BK110 := n1_; have HB := n2_; clear n0_ n1_ n2_; (try clear hb); (try clear hb2); (try clear hk); (try clear hi)))
     go_ret
     exact ⟨by first | rfl | (simp [errW_none, errW_some] <;> rfl) | (simp [*, errW_none, errW_some] <;> rfl) | (simp [Aid.ne_nil, Aid.eq_nil, errW_none, errW_some]; done), by repeat (first | (with_reducible first | exact HB.out | apply bl | apply pN | apply b1 | refine bs ?_ GE110.out) | exact HB.out | exact HBo.out)⟩
    ·
     rw [if_neg c9] at H
     exact absurd H (by simp)
   ·
    replace c7 := Bool.eq_false_iff.mpr c7
    subst c7
    have H1 : ((wire_Nums.f k l0_2).bind fun t118 => (if ((strOfNums y112) ++ t115).size + t118.size ≤ 9223372036854775807 then (some (((strOfNums y112) ++ t115) ++ t118)) else (none))) = some r := by rw [if_neg (show ¬ (false = true) by decide)] at H; exact H
    clear H
    have H := H1
    clear H1
    replace H := ob H
    obtain ⟨t118, A210, H⟩ := H
    replace H : (if ((strOfNums y112) ++ t115).size + t118.size ≤ 9223372036854775807 then (some (((strOfNums y112) ++ t115) ++ t118)) else (none)) = some r := H
    have A21 := Am A210
    clear A210
    by_cases c22 : ((strOfNums y112) ++ t115).size + t118.size ≤ 9223372036854775807
    ·
     rw [if_pos c22] at H
     have c22b0 := eq_true c22
     have c22b1 : decide (((strOfNums y112) ++ t115).size + t118.size ≤ 9223372036854775807) = true := decide_eq_true c22
     try have c22b2 : (9223372036854775807 < ((strOfNums y112) ++ t115).size + t118.size) = False := eq_false (Nat.not_lt.2 c22)
     try (have c22b3 := c22b2; simp only [ByteArray.size_append] at c22b3)
     try (have c22b4 := c22b1; simp only [ByteArray.size_append] at c22b4)
     obtain rfl := Option.some.inj H
     go_enter Try.func19, Try.ntmps19
     try go_wp2_with (first | ((with_reducible refine gate_dst (N := 1) rfl ?_); refine box_event ?hg (N := 1) ?hd (cs := #[.int .i64 a0_0, .int .i64 a0_1, .slice A0_2 l0_2.length c0_2, .string a0_3]) (t := 28) ?hr ?_; (case hd => rfl); (case hg => rfl); (case hr => first | (go_simp; done) | (go_simp; rfl)); intro gb110 hg w23 hbox hb; have n0_ := Am (below_step (by repeat (first | (with_reducible first | exact HB.out | apply bl | apply pN | apply b1) | exact HB.out | exact HBo.out)) hb); have n1_ := Am (hbox); have n2_ := Am ((by rw [hg]; exact (below_size (by repeat (first | (with_reducible first | exact HB.out | apply bl | apply pN | apply b1) | exact HB.out | exact HBo.out))) : w.heap.size ≤ gb110)); have n3_ := Am ((by rw [hg]; exact (below_size (by repeat (first | (with_reducible first | exact HB.out | apply bl | apply pN | apply b1) | exact HB.out | exact HBo.out))) : w.heap.size ≤ gb110)); clear HB; have HB := n0_; have BK110 := n1_; have GW110 := n2_; have GE110 := n3_; clear n0_ n1_ n2_ n3_; clear hb hbox hg; have hcz24_0 : w23.cell? ⟨gb110, 0, none⟩ = some (.int .i64 a0_0) := (bc BK110.out 0).trans rfl; have hcz24_1 : w23.cell? ⟨gb110, 1, none⟩ = some (.int .i64 a0_1) := (bc BK110.out 1).trans rfl; have hcz24_2 : w23.cell? ⟨gb110, 2, none⟩ = some (.slice A0_2 l0_2.length c0_2) := (bc BK110.out 2).trans rfl; have hcz24_3 : w23.cell? ⟨gb110, 3, none⟩ = some (.string a0_3) := (bc BK110.out 3).trans rfl; have hfz24_0 := bf BK110.out 0; have hfz24_1 := bf BK110.out 1; have hfz24_2 := bf BK110.out 2; have hfz24_3 := bf BK110.out 3) | ((with_reducible refine gate_callee (f := 18) rfl ?_); refine goesL_ (some 5) rfl rfl Try.func18 (by kernel_rfl) rfl #[.agg #[.int .i64 a0_0, .int .i64 a0_1, .slice A0_2 l0_2.length c0_2, .string a0_3]] rfl (by (try simp only [List.map_toArray, List.map_cons, List.map_nil]); first | done | rfl | (simp only [List.length_drop, List.length_take]; rfl)) ?_; (with_reducible refine (event_May.calls a0_0 a0_1 _ _ l0_2 a0_3 true _ ?side1 ?side2 A2.out).mono ?_); (case side1 => repeat (first | exact (Kd.C_below HR0_2.out HB.out) | (with_reducible refine Kd.C_alloc ?_ _) | (with_reducible refine Kd.C_drewN ?_ _) | (with_reducible refine Kd.C_drew ?_))); (case side2 => exact HC0_2.out); rintro e w25 ⟨rfl, hb⟩; refine ⟨_, rfl, ?_⟩; have n0_ := Am (blk_below (g := gb110) (o := .cells #[.int .i64 a0_0, .int .i64 a0_1, .slice A0_2 l0_2.length c0_2, .string a0_3] 28 (0, 0)) (by (with_reducible repeat (first | refine bn ?_ _ | refine bd ?_ | refine ba ?_ _)); exact BK110.out) hb); have n1_ := Am (below_step (by repeat (first | (with_reducible first | exact HB.out | apply bl | apply pN | apply b1 | refine bs ?_ GE110.out) | exact HB.out | exact HBo.out)) hb); clear BK110; clear HB; have BK110 := n0_; have HB := n1_; clear n0_ n1_; (try clear hb); (try clear hb2); (try clear hk); (try clear hi)))
     have n0_ := Am (bd BK110.out)
     have n1_ := Am (b1 HB.out)
     clear BK110
     clear HB
     have BK110 := n0_
     have HB := n1_
     clear n0_ n1_
     refine start_ (n := 10) (S := fun w' => w'.cell? ⟨gb110, 0, none⟩ = some (.int .i64 a0_0) ∧ w'.cell? ⟨gb110, 1, none⟩ = some (.int .i64 a0_1) ∧ w'.cell? ⟨gb110, 2, none⟩ = some (.slice A0_2 l0_2.length c0_2) ∧ w'.cell? ⟨gb110, 3, none⟩ = some (.string a0_3)) (ds := []) q6_0 (by kernel_rfl) rfl rfl ⟨(bc BK110.out 0).trans rfl, (bc BK110.out 1).trans rfl, (bc BK110.out 2).trans rfl, (bc BK110.out 3).trans rfl⟩ (fun hHeld => ?_); refine with_tabW event_Encode.tab3 event_Encode.bits3 (fun HT_ HW_ => ?_)
     generalize w25.drew = w26 at BK110 HB hHeld ⊢
     refine Own.pr_ 0 (some 7) q6_1 HT_ (h := ?_)
     refine Own.pr_ 5 (some 12) q6_2 HT_ (h := ?_)
     refine Own.tk_ 1 (some 8) q6_3 HT_ HW_ hHeld (hy := by rintro w' ⟨s0, s1, s2, s3⟩; go_simp; with_reducible rfl) (h := ?_)
     refine Own.pr_ 2 (some 9) q6_4 HT_ (h := ?_)
     refine Own.tk_ 6 (some 13) q6_5 HT_ HW_ hHeld (hy := by rintro w' ⟨s0, s1, s2, s3⟩; go_simp; with_reducible rfl) (h := ?_)
     refine join_ (σ := Value) 2 q6_6 (fun s_ => [(10, s_), (11, .string (strOfNums y112)), (14, .string t115)]) (fun s_ w' => (w'.cell? ⟨gb110, 0, none⟩ = some (.int .i64 a0_0) ∧ w'.cell? ⟨gb110, 1, none⟩ = some (.int .i64 a0_1) ∧ w'.cell? ⟨gb110, 2, none⟩ = some (.slice A0_2 l0_2.length c0_2) ∧ w'.cell? ⟨gb110, 3, none⟩ = some (.string a0_3)) ∧ (Kd.R (Kd.int .u8) 5 w' w.heap.size (fun _ => True) s_ y112) ∧ (w'.heap[gb110]? = some (.cells #[.int .i64 a0_0, .int .i64 a0_1, .slice A0_2 l0_2.length c0_2, .string a0_3] 28 (0, 0))) ∧ (Below w.heap.size w w')) ?_ ?_
     rotate_left
     ·
      intro hCont
      refine two_ (i := 3) (j := 7) (Ni := some 10) (Nj := some 14) q6_7 q6_8 rfl rfl rfl rfl (two_of HT_.out (by kernel_rfl)) (by decide) (by decide) (fun K hK => ?_) (fun K hK => ?_)
      ·
       skip
       refine Kd.R_lit_step (Kd.int .u8) _ 5 ?hg (N := 10) ?hd (xs := ([(a0_0) % 256] : List Int)) (inner := [.int .u8 ((a0_0) % 256)]) (ok := fun _ => True) (okp := fun _ => True) ?hr ?hp (fun _ hk => hk) trivial (Below.refl _ _) (Nat.le_refl _) (by simp) ?_; (case hd => rfl); (case hg => rfl); (case hr => first | (go_simp; done) | (go_simp; rfl)); (case hp => exact (Reps.one (show Kd.M (Kd.int .u8) _ _ _ ((a0_0) % 256) [.int .u8 ((a0_0) % 256)] from rfl) (Reps.none _ _)))
       intro v113 w27 ho28 hb hg_ hnew_
       clear hg_ hnew_
       (first | rw [← Ny112.out] at ho28 | (simp only [Int.reduceToNat] at ho28; rw [← Ny112.out] at ho28))
       have n0_ := Am (Kd.R_lower ho28 (below_size (by repeat (first | (with_reducible first | exact HB.out | apply bl | apply pN | apply b1 | refine bs ?_ GE110.out) | exact HB.out | exact HBo.out))))
       have n1_ := Am (blk_below (g := gb110) (o := .cells #[.int .i64 a0_0, .int .i64 a0_1, .slice A0_2 l0_2.length c0_2, .string a0_3] 28 (0, 0)) (by (with_reducible repeat (first | refine bn ?_ _ | refine bd ?_ | refine ba ?_ _)); exact BK110.out) hb)
       have n2_ := Am (below_step (by repeat (first | (with_reducible first | exact HB.out | apply bl | apply pN | apply b1 | refine bs ?_ GE110.out) | exact HB.out | exact HBo.out)) hb)
       clear BK110
       clear HB
       have HO114 := n0_
       have BK110 := n1_
       have HB := n2_
       clear n0_ n1_ n2_
       clear hb ho28
       refine hK.out _ _ ⟨(bc BK110.out 0).trans rfl, (bc BK110.out 1).trans rfl, (bc BK110.out 2).trans rfl, (bc BK110.out 3).trans rfl⟩ (fun hHeld => ?_)
       clear hK K
       refine norm_ (a' := ?_) ?_ ?_
       rotate_left
       ·
        show Act.put _ (some 10) _ = _
        simp only [Act.put, sI, sZ, sS, i64_w, i32_w]
        rfl
       refine two_ (i := 4) (j := 7) (Ni := some 11) (Nj := some 14) q6_9 q6_10 rfl rfl rfl rfl (two_of HT_.out (by kernel_rfl)) (by decide) (by decide) (fun K hK => ?_) (fun K hK => ?_)
       ·
        skip
        have hcv29 := own_string (P := Try.prog) Try.underlying55 Try.underlying5 Try.underlying9 (Kd.own_of_R HO114.out)
        refine value_ (w1 := ?_) (v := ?_) (by rfl) rfl ?_ ?_
        rotate_left 2
        ·
         go_simp
         constructor
         ·
          rfl
         ·
          rfl
        clear hcv29
        refine hK.out _ _ ⟨(bc BK110.out 0).trans rfl, (bc BK110.out 1).trans rfl, (bc BK110.out 2).trans rfl, (bc BK110.out 3).trans rfl⟩ (fun hHeld => ?_)
        clear hK K
        refine norm_ (a' := ?_) ?_ ?_
        rotate_left
        ·
         show Act.put _ (some 11) _ = _
         simp only [Act.put, sI, sZ, sS, i64_w, i32_w]
         rfl
        refine one_ (i := 7) (N := some 14) q6_6 rfl rfl (one_of HT_.out (by kernel_rfl)) (by decide) (fun K hK => ?_)
        refine goes_ Try.func32 (by kernel_rfl) rfl #[.int .i64 a0_1] (by rfl) rfl rfl (by (try simp only [List.map_toArray, List.map_cons, List.map_nil]); first | done | rfl | (simp only [List.length_drop, List.length_take]; rfl)) ?_
        with_reducible refine (varint_Put.calls k a0_1 t115 _ A4.out).mono ?_
        rintro e w30 ⟨rfl, hb⟩
        refine ⟨_, rfl, ?_⟩
        have n0_ := Am (Kd.R_below (by (with_reducible repeat (first | apply Kd.R_alloc | apply Kd.R_drewN | apply Kd.R_drew)); exact HO114.out) hb)
        have n1_ := Am (blk_below (g := gb110) (o := .cells #[.int .i64 a0_0, .int .i64 a0_1, .slice A0_2 l0_2.length c0_2, .string a0_3] 28 (0, 0)) (by (with_reducible repeat (first | refine bn ?_ _ | refine bd ?_ | refine ba ?_ _)); exact BK110.out) hb)
        have n2_ := Am (below_step (by repeat (first | (with_reducible first | exact HB.out | apply bl | apply pN | apply b1 | refine bs ?_ GE110.out) | exact HB.out | exact HBo.out)) hb)
        clear HO114
        clear BK110
        clear HB
        have HO114 := n0_
        have BK110 := n1_
        have HB := n2_
        clear n0_ n1_ n2_
        (try clear hb)
        (try clear hb2)
        (try clear hk)
        (try clear hi)
        refine hK.out _ _ ⟨(bc BK110.out 0).trans rfl, (bc BK110.out 1).trans rfl, (bc BK110.out 2).trans rfl, (bc BK110.out 3).trans rfl⟩ (fun hHeld => ?_)
        clear hK K
        refine norm_ (a' := ?_) ?_ ?_
        rotate_left
        ·
         show Act.put _ (some 14) _ = _
         simp only [Act.put, sI, sZ, sS, i64_w, i32_w]
         rfl
        exact norm_ (by simp only [putAll, Act.put, sI, sZ, sS]) (hCont (v113) _ ⟨hHeld, (by (with_reducible repeat (first | apply Kd.R_alloc | apply Kd.R_drewN | apply Kd.R_drew)); exact HO114.out), (by (with_reducible repeat (first | refine bn ?_ _ | refine bd ?_ | refine ba ?_ _)); exact BK110.out), (by repeat (first | (with_reducible first | exact HB.out | apply bl | apply pN | apply b1 | refine bs ?_ GE110.out) | exact HB.out | exact HBo.out))⟩)
       ·
        skip
        refine goes_ Try.func32 (by kernel_rfl) rfl #[.int .i64 a0_1] (by rfl) rfl rfl (by (try simp only [List.map_toArray, List.map_cons, List.map_nil]); first | done | rfl | (simp only [List.length_drop, List.length_take]; rfl)) ?_
        with_reducible refine (varint_Put.calls k a0_1 t115 _ A4.out).mono ?_
        rintro e w29 ⟨rfl, hb⟩
        refine ⟨_, rfl, ?_⟩
        have n0_ := Am (Kd.R_below (by (with_reducible repeat (first | apply Kd.R_alloc | apply Kd.R_drewN | apply Kd.R_drew)); exact HO114.out) hb)
        have n1_ := Am (blk_below (g := gb110) (o := .cells #[.int .i64 a0_0, .int .i64 a0_1, .slice A0_2 l0_2.length c0_2, .string a0_3] 28 (0, 0)) (by (with_reducible repeat (first | refine bn ?_ _ | refine bd ?_ | refine ba ?_ _)); exact BK110.out) hb)
        have n2_ := Am (below_step (by repeat (first | (with_reducible first | exact HB.out | apply bl | apply pN | apply b1 | refine bs ?_ GE110.out) | exact HB.out | exact HBo.out)) hb)
        clear HO114
        clear BK110
        clear HB
        have HO114 := n0_
        have BK110 := n1_
        have HB := n2_
        clear n0_ n1_ n2_
        (try clear hb)
        (try clear hb2)
        (try clear hk)
        (try clear hi)
        refine hK.out _ _ ⟨(bc BK110.out 0).trans rfl, (bc BK110.out 1).trans rfl, (bc BK110.out 2).trans rfl, (bc BK110.out 3).trans rfl⟩ (fun hHeld => ?_)
        clear hK K
        refine norm_ (a' := ?_) ?_ ?_
        rotate_left
        ·
         show Act.put _ (some 14) _ = _
         simp only [Act.put, sI, sZ, sS, i64_w, i32_w]
         rfl
        refine one_ (i := 4) (N := some 11) q6_6 rfl rfl (one_of HT_.out (by kernel_rfl)) (by decide) (fun K hK => ?_)
        have hcv30 := own_string (P := Try.prog) Try.underlying55 Try.underlying5 Try.underlying9 (Kd.own_of_R HO114.out)
        refine value_ (w1 := ?_) (v := ?_) (by rfl) rfl ?_ ?_
        rotate_left 2
        ·
         go_simp
         constructor
         ·
          rfl
         ·
          rfl
        clear hcv30
        refine hK.out _ _ ⟨(bc BK110.out 0).trans rfl, (bc BK110.out 1).trans rfl, (bc BK110.out 2).trans rfl, (bc BK110.out 3).trans rfl⟩ (fun hHeld => ?_)
        clear hK K
        refine norm_ (a' := ?_) ?_ ?_
        rotate_left
        ·
         show Act.put _ (some 11) _ = _
         simp only [Act.put, sI, sZ, sS, i64_w, i32_w]
         rfl
        exact norm_ (by simp only [putAll, Act.put, sI, sZ, sS]) (hCont (v113) _ ⟨hHeld, (by (with_reducible repeat (first | apply Kd.R_alloc | apply Kd.R_drewN | apply Kd.R_drew)); exact HO114.out), (by (with_reducible repeat (first | refine bn ?_ _ | refine bd ?_ | refine ba ?_ _)); exact BK110.out), (by repeat (first | (with_reducible first | exact HB.out | apply bl | apply pN | apply b1 | refine bs ?_ GE110.out) | exact HB.out | exact HBo.out))⟩)
      ·
       skip
       refine goes_ Try.func32 (by kernel_rfl) rfl #[.int .i64 a0_1] (by rfl) rfl rfl (by (try simp only [List.map_toArray, List.map_cons, List.map_nil]); first | done | rfl | (simp only [List.length_drop, List.length_take]; rfl)) ?_
       with_reducible refine (varint_Put.calls k a0_1 t115 _ A4.out).mono ?_
       rintro e w27 ⟨rfl, hb⟩
       refine ⟨_, rfl, ?_⟩
       have n0_ := Am (blk_below (g := gb110) (o := .cells #[.int .i64 a0_0, .int .i64 a0_1, .slice A0_2 l0_2.length c0_2, .string a0_3] 28 (0, 0)) (by (with_reducible repeat (first | refine bn ?_ _ | refine bd ?_ | refine ba ?_ _)); exact BK110.out) hb)
       have n1_ := Am (below_step (by repeat (first | (with_reducible first | exact HB.out | apply bl | apply pN | apply b1 | refine bs ?_ GE110.out) | exact HB.out | exact HBo.out)) hb)
       clear BK110
       clear HB
       have BK110 := n0_
       have HB := n1_
       clear n0_ n1_
       (try clear hb)
       (try clear hb2)
       (try clear hk)
       (try clear hi)
       refine hK.out _ _ ⟨(bc BK110.out 0).trans rfl, (bc BK110.out 1).trans rfl, (bc BK110.out 2).trans rfl, (bc BK110.out 3).trans rfl⟩ (fun hHeld => ?_)
       clear hK K
       refine norm_ (a' := ?_) ?_ ?_
       rotate_left
       ·
        show Act.put _ (some 14) _ = _
        simp only [Act.put, sI, sZ, sS, i64_w, i32_w]
        rfl
       refine one_ (i := 3) (N := some 10) q6_10 rfl rfl (one_of HT_.out (by kernel_rfl)) (by decide) (fun K hK => ?_)
       refine Kd.R_lit_step (Kd.int .u8) _ 5 ?hg (N := 10) ?hd (xs := ([(a0_0) % 256] : List Int)) (inner := [.int .u8 ((a0_0) % 256)]) (ok := fun _ => True) (okp := fun _ => True) ?hr ?hp (fun _ hk => hk) trivial (Below.refl _ _) (Nat.le_refl _) (by simp) ?_; (case hd => rfl); (case hg => rfl); (case hr => first | (go_simp; done) | (go_simp; rfl)); (case hp => exact (Reps.one (show Kd.M (Kd.int .u8) _ _ _ ((a0_0) % 256) [.int .u8 ((a0_0) % 256)] from rfl) (Reps.none _ _)))
       intro v113 w28 ho29 hb hg_ hnew_
       clear hg_ hnew_
       (first | rw [← Ny112.out] at ho29 | (simp only [Int.reduceToNat] at ho29; rw [← Ny112.out] at ho29))
       have n0_ := Am (Kd.R_lower ho29 (below_size (by repeat (first | (with_reducible first | exact HB.out | apply bl | apply pN | apply b1 | refine bs ?_ GE110.out) | exact HB.out | exact HBo.out))))
       have n1_ := Am (blk_below (g := gb110) (o := .cells #[.int .i64 a0_0, .int .i64 a0_1, .slice A0_2 l0_2.length c0_2, .string a0_3] 28 (0, 0)) (by (with_reducible repeat (first | refine bn ?_ _ | refine bd ?_ | refine ba ?_ _)); exact BK110.out) hb)
       have n2_ := Am (below_step (by repeat (first | (with_reducible first | exact HB.out | apply bl | apply pN | apply b1 | refine bs ?_ GE110.out) | exact HB.out | exact HBo.out)) hb)
       clear BK110
       clear HB
       have HO114 := n0_
       have BK110 := n1_
       have HB := n2_
       clear n0_ n1_ n2_
       clear hb ho29
       refine hK.out _ _ ⟨(bc BK110.out 0).trans rfl, (bc BK110.out 1).trans rfl, (bc BK110.out 2).trans rfl, (bc BK110.out 3).trans rfl⟩ (fun hHeld => ?_)
       clear hK K
       refine norm_ (a' := ?_) ?_ ?_
       rotate_left
       ·
        show Act.put _ (some 10) _ = _
        simp only [Act.put, sI, sZ, sS, i64_w, i32_w]
        rfl
       refine one_ (i := 4) (N := some 11) q6_6 rfl rfl (one_of HT_.out (by kernel_rfl)) (by decide) (fun K hK => ?_)
       have hcv30 := own_string (P := Try.prog) Try.underlying55 Try.underlying5 Try.underlying9 (Kd.own_of_R HO114.out)
       refine value_ (w1 := ?_) (v := ?_) (by rfl) rfl ?_ ?_
       rotate_left 2
       ·
        go_simp
        constructor
        ·
         rfl
        ·
         rfl
       clear hcv30
       refine hK.out _ _ ⟨(bc BK110.out 0).trans rfl, (bc BK110.out 1).trans rfl, (bc BK110.out 2).trans rfl, (bc BK110.out 3).trans rfl⟩ (fun hHeld => ?_)
       clear hK K
       refine norm_ (a' := ?_) ?_ ?_
       rotate_left
       ·
        show Act.put _ (some 11) _ = _
        simp only [Act.put, sI, sZ, sS, i64_w, i32_w]
        rfl
       exact norm_ (by simp only [putAll, Act.put, sI, sZ, sS]) (hCont (v113) _ ⟨hHeld, (by (with_reducible repeat (first | apply Kd.R_alloc | apply Kd.R_drewN | apply Kd.R_drew)); exact HO114.out), (by (with_reducible repeat (first | refine bn ?_ _ | refine bd ?_ | refine ba ?_ _)); exact BK110.out), (by repeat (first | (with_reducible first | exact HB.out | apply bl | apply pN | apply b1 | refine bs ?_ GE110.out) | exact HB.out | exact HBo.out))⟩)
     rintro v113 w31 ⟨hS_, h0_, h1_, h2_⟩
     have n0_ : Aside0 (Kd.R (Kd.int .u8) 5 w31 w.heap.size (fun _ => True) v113 y112) := ⟨h0_⟩
     have n1_ : Aside0 (w31.heap[gb110]? = some (.cells #[.int .i64 a0_0, .int .i64 a0_1, .slice A0_2 l0_2.length c0_2, .string a0_3] 28 (0, 0))) := ⟨h1_⟩
     have n2_ : Aside0 (Below w.heap.size w w31) := ⟨h2_⟩
     clear BK110
     clear HB
     clear h0_ h1_ h2_
     have HO114 := n0_
     have BK110 := n1_
     have HB := n2_
     clear n0_ n1_ n2_
     have hHeld : w31.cell? ⟨gb110, 0, none⟩ = some (.int .i64 a0_0) ∧ w31.cell? ⟨gb110, 1, none⟩ = some (.int .i64 a0_1) ∧ w31.cell? ⟨gb110, 2, none⟩ = some (.slice A0_2 l0_2.length c0_2) ∧ w31.cell? ⟨gb110, 3, none⟩ = some (.string a0_3) := hS_
     refine norm_ (a' := ?_) ?_ ?_
     rotate_left
     ·
      simp only [putAll, Act.put, sI, sZ, sS]
      rfl
     refine Own.pr_ 8 (some 15) q6_11 HT_ (h := ?_)
     refine Own.pr_ 9 (some 3) q6_12 HT_ (h := ?_)
     refine done_ (done_of HT_.out (by kernel_rfl)) ?_
     have hcz32_0 : w31.cell? ⟨gb110, 0, none⟩ = some (.int .i64 a0_0) := (bc BK110.out 0).trans rfl
     have hcz32_1 : w31.cell? ⟨gb110, 1, none⟩ = some (.int .i64 a0_1) := (bc BK110.out 1).trans rfl
     have hcz32_2 : w31.cell? ⟨gb110, 2, none⟩ = some (.slice A0_2 l0_2.length c0_2) := (bc BK110.out 2).trans rfl
     have hcz32_3 : w31.cell? ⟨gb110, 3, none⟩ = some (.string a0_3) := (bc BK110.out 3).trans rfl
     have hfz32_0 := bf BK110.out 0
     have hfz32_1 := bf BK110.out 1
     have hfz32_2 := bf BK110.out 2
     have hfz32_3 := bf BK110.out 3
     try go_wp2_with (first | ((with_reducible refine gate_callee (f := 27) rfl ?_); refine goesL_ (some 18) rfl rfl Try.func27 (by kernel_rfl) rfl #[.int .i64 a0_0] rfl (by (try simp only [List.map_toArray, List.map_cons, List.map_nil]); first | done | rfl | (simp only [List.length_drop, List.length_take]; rfl)) ?_; (with_reducible refine (kind_Exp.calls a0_0 false _ A6.out).mono ?_); rintro e w' ⟨rfl, ⟨nd, rfl⟩⟩; refine ⟨_, rfl, ?_⟩) | ((with_reducible refine gate_callee (f := 34) rfl ?_); refine goesL_ (some 27) rfl rfl Try.func34 (by kernel_rfl) rfl #[.slice A0_2 l0_2.length c0_2] rfl (by (try simp only [List.map_toArray, List.map_cons, List.map_nil]); first | done | rfl | (simp only [List.length_drop, List.length_take]; rfl)) ?_; (with_reducible refine (wire_Nums.calls k _ _ l0_2 t118 _ ?side1 ?side2 A21.out).mono ?_); (case side1 => repeat (first | exact (Kd.C_below HR0_2.out (by repeat (first | (with_reducible first | exact HB.out | apply bl | apply pN | apply b1 | refine bs ?_ GE110.out) | exact HB.out | exact HBo.out))) | (with_reducible refine Kd.C_alloc ?_ _) | (with_reducible refine Kd.C_drewN ?_ _) | (with_reducible refine Kd.C_drew ?_))); (case side2 => exact HC0_2.out); rintro e w33 ⟨rfl, hb⟩; refine ⟨_, rfl, ?_⟩; have n0_ := Am (Kd.R_below (by (with_reducible repeat (first | apply Kd.R_alloc | apply Kd.R_drewN | apply Kd.R_drew)); exact HO114.out) hb); have n1_ := Am (blk_below (g := gb110) (o := .cells #[.int .i64 a0_0, .int .i64 a0_1, .slice A0_2 l0_2.length c0_2, .string a0_3] 28 (0, 0)) (by (with_reducible repeat (first | refine bn ?_ _ | refine bd ?_ | refine ba ?_ _)); exact BK110.out) hb); have n2_ := Am (below_step (by repeat (first | (with_reducible first | exact HB.out | apply bl | apply pN | apply b1 | refine bs ?_ GE110.out) | exact HB.out | exact HBo.out)) hb); clear HO114; clear BK110; clear HB; have HO114 := n0_; have BK110 := n1_; have HB := n2_; clear n0_ n1_ n2_; (try clear hb); (try clear hb2); (try clear hk); (try clear hi)))
     go_ret
     exact ⟨by first | rfl | (simp [errW_none, errW_some] <;> rfl) | (simp [*, errW_none, errW_some] <;> rfl) | (simp [Aid.ne_nil, Aid.eq_nil, errW_none, errW_some]; done), by repeat (first | (with_reducible first | exact HB.out | apply bl | apply pN | apply b1 | refine bs ?_ GE110.out) | exact HB.out | exact HBo.out)⟩
    ·
     rw [if_neg c22] at H
     exact absurd H (by simp)
  ·
   rw [if_neg c5] at H
   exact absurd H (by simp)
 ·
  replace c3 := Bool.eq_false_iff.mpr c3
  subst c3
  have H1 : (some (⟨#[]⟩ : ByteArray)) = some r := by rw [if_neg (show ¬ (false = true) by decide)] at H; exact H
  clear H
  have H := H1
  clear H1
  obtain rfl := Option.some.inj H
  go_enter Try.func19, Try.ntmps19
  go_wp2_with (first | ((with_reducible refine gate_dst (N := 1) rfl ?_); refine box_event ?hg (N := 1) ?hd (cs := #[.int .i64 a0_0, .int .i64 a0_1, .slice A0_2 l0_2.length c0_2, .string a0_3]) (t := 28) ?hr ?_; (case hd => rfl); (case hg => rfl); (case hr => first | (go_simp; done) | (go_simp; rfl)); intro gb110 hg w34 hbox hb; have n0_ := Am (below_step (by repeat (first | (with_reducible first | exact HB.out | apply bl | apply pN | apply b1) | exact HB.out | exact HBo.out)) hb); have n1_ := Am (hbox); have n2_ := Am ((by rw [hg]; exact (below_size (by repeat (first | (with_reducible first | exact HB.out | apply bl | apply pN | apply b1) | exact HB.out | exact HBo.out))) : w.heap.size ≤ gb110)); have n3_ := Am ((by rw [hg]; exact (below_size (by repeat (first | (with_reducible first | exact HB.out | apply bl | apply pN | apply b1) | exact HB.out | exact HBo.out))) : w.heap.size ≤ gb110)); clear HB; have HB := n0_; have BK110 := n1_; have GW110 := n2_; have GE110 := n3_; clear n0_ n1_ n2_ n3_; clear hb hbox hg; have hcz35_0 : w34.cell? ⟨gb110, 0, none⟩ = some (.int .i64 a0_0) := (bc BK110.out 0).trans rfl; have hcz35_1 : w34.cell? ⟨gb110, 1, none⟩ = some (.int .i64 a0_1) := (bc BK110.out 1).trans rfl; have hcz35_2 : w34.cell? ⟨gb110, 2, none⟩ = some (.slice A0_2 l0_2.length c0_2) := (bc BK110.out 2).trans rfl; have hcz35_3 : w34.cell? ⟨gb110, 3, none⟩ = some (.string a0_3) := (bc BK110.out 3).trans rfl; have hfz35_0 := bf BK110.out 0; have hfz35_1 := bf BK110.out 1; have hfz35_2 := bf BK110.out 2; have hfz35_3 := bf BK110.out 3) | ((with_reducible refine gate_callee (f := 18) rfl ?_); refine goesL_ (some 5) rfl rfl Try.func18 (by kernel_rfl) rfl #[.agg #[.int .i64 a0_0, .int .i64 a0_1, .slice A0_2 l0_2.length c0_2, .string a0_3]] rfl (by (try simp only [List.map_toArray, List.map_cons, List.map_nil]); first | done | rfl | (simp only [List.length_drop, List.length_take]; rfl)) ?_; (with_reducible refine (event_May.calls a0_0 a0_1 _ _ l0_2 a0_3 false _ ?side1 ?side2 A2.out).mono ?_); (case side1 => repeat (first | exact (Kd.C_below HR0_2.out HB.out) | (with_reducible refine Kd.C_alloc ?_ _) | (with_reducible refine Kd.C_drewN ?_ _) | (with_reducible refine Kd.C_drew ?_))); (case side2 => exact HC0_2.out); rintro e w36 ⟨rfl, hb⟩; refine ⟨_, rfl, ?_⟩; have n0_ := Am (blk_below (g := gb110) (o := .cells #[.int .i64 a0_0, .int .i64 a0_1, .slice A0_2 l0_2.length c0_2, .string a0_3] 28 (0, 0)) (by (with_reducible repeat (first | refine bn ?_ _ | refine bd ?_ | refine ba ?_ _)); exact BK110.out) hb); have n1_ := Am (below_step (by repeat (first | (with_reducible first | exact HB.out | apply bl | apply pN | apply b1 | refine bs ?_ GE110.out) | exact HB.out | exact HBo.out)) hb); clear BK110; clear HB; have BK110 := n0_; have HB := n1_; clear n0_ n1_; (try clear hb); (try clear hb2); (try clear hk); (try clear hi)))
  go_ret
  exact ⟨by first | rfl | (simp [errW_none, errW_some] <;> rfl) | (simp [*, errW_none, errW_some] <;> rfl) | (simp [Aid.ne_nil, Aid.eq_nil, errW_none, errW_some]; done), by repeat (first | (with_reducible first | exact HB.out | apply bl | apply pN | apply b1 | refine bs ?_ GE110.out) | exact HB.out | exact HBo.out)⟩

end Go.Proofs.Ytgpnkgmghnmmjaa.Q
