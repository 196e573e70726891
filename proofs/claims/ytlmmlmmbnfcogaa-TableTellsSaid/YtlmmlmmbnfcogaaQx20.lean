-- printed by a program of this session (NOTES: hprint); not the kit's print
-- minified3
-- minified2
-- minified
-- halved
import Derived.Test.YtlmmlmmbnfcogaaAl
import Derived.Test.YtlmmlmmbnfcogaaQx0
import Derived.Test.YtlmmlmmbnfcogaaQx19
namespace Go.Proofs.Ytlmmlmmbnfcogaa.Q
open Go.RowKit Go.Proofs.YtlmmlmmbnfcogaaW.PrintWords Go.Proofs.YtlmmlmmbnfcogaaW.PrintLast Go.Proofs.YtlmmlmmbnfcogaaW.PrintMore
attribute [local go_sem] max2_int min2_int max_two min_two max_three min_three max_four min_four   -- for this text's walks alone
set_option linter.unusedVariables false
set_option linter.unusedSimpArgs false

def q20_0 : Array Bool := let o := true; let z := false; #[z,z,z,z,z,z,z,z,z,z,z]
def q20_1 : Array Bool := let o := true; let z := false; #[z,o,z,z,z,z,z,z,z,z,z]
def q20_2 : Array Bool := let o := true; let z := false; #[z,o,z,z,z,o,z,z,z,z,z]
def q20_3 : Array Bool := let o := true; let z := false; #[o,o,z,z,z,o,z,z,z,z,z]
def q20_4 : Array Bool := let o := true; let z := false; #[o,o,o,z,z,o,z,z,z,z,z]
def q20_5 : Array Bool := let o := true; let z := false; #[o,o,o,o,z,o,z,z,z,z,z]
def q20_6 : Array Bool := let o := true; let z := false; #[o,o,o,o,z,o,o,z,z,z,z]
def q20_7 : Array Bool := let o := true; let z := false; #[o,o,o,o,z,o,o,o,z,z,z]
def q20_8 : Array Bool := let o := true; let z := false; #[o,o,o,o,o,o,o,o,z,z,z]
def q20_9 : Array Bool := let o := true; let z := false; #[o,o,o,o,o,o,o,o,o,z,z]
def q20_10 : Array Bool := let o := true; let z := false; #[o,o,o,o,o,o,o,o,o,o,z]
def q20_11 : Array Bool := let o := true; let z := false; #[o,o,o,o,o,o,o,o,o,o,o]
/-! ### shuttlecockref07_Rising: function 26 -/
def shuttlecockref07_Rising.l0 : Nat → Int → List Int → Int → Option (List Int)
 | 0, _, _, _ => none
 | k + 1, x0, x3, x4 => if x4 ≤ x0 then (if x3.length < 17592186044416 then (shuttlecockref07_Rising.l0 k x0 (x3 ++ [x4]) (wrap64 (x4 + 1))) else (none)) else (some x3)
def shuttlecockref07_Rising.f (k : Nat) (a0 : Int) : Option (List Int) := shuttlecockref07_Rising.l0 k a0 (([] : List Int)) 1
theorem shuttlecockref07_Rising.mono_l : ∀ k, (∀ y0 y1 y2, LeO (shuttlecockref07_Rising.l0 k y0 y1 y2) (shuttlecockref07_Rising.l0 (k + 1) y0 y1 y2))
 | 0 => fun _ _ _ r h => by simp [shuttlecockref07_Rising.l0] at h
 | k + 1 => by
  have ih0 := shuttlecockref07_Rising.mono_l k
  ·
   intro y0 y1 y2
   unfold shuttlecockref07_Rising.l0
   repeat' first
   | (with_reducible exact ih0 _ _ _)
   | (with_reducible exact LeO.refl _)
   | (with_reducible exact LeO.none _)
   | (with_reducible refine LeO.ite ?_ ?_)
   | (with_reducible refine LeO.bind ?_ (fun _ => ?_))
   | exact LeO.none _
   | refine LeO.ite ?_ ?_
   | refine LeO.bind ?_ (fun _ => ?_)
theorem shuttlecockref07_Rising.mono : ∀ a0 k, LeO (shuttlecockref07_Rising.f k a0) (shuttlecockref07_Rising.f (k + 1) a0) := by
 intro a0 k
 have ih0 := shuttlecockref07_Rising.mono_l k
 unfold shuttlecockref07_Rising.f
 repeat' first
   | (with_reducible exact ih0 _ _ _)
   | (with_reducible exact LeO.refl _)
   | (with_reducible exact LeO.none _)
   | (with_reducible refine LeO.ite ?_ ?_)
   | (with_reducible refine LeO.bind ?_ (fun _ => ?_))
   | exact LeO.none _
   | refine LeO.ite ?_ ?_
   | refine LeO.bind ?_ (fun _ => ?_)
set_option maxHeartbeats 8000000 in
set_option maxRecDepth 100000 in
theorem shuttlecockref07_Rising.calls (k : Nat) (a0 : Int) (r : List Int) (w : World) (h : shuttlecockref07_Rising.f k a0 = some r) :
  Calls Try.prog 26 #[.int .i64 a0] w fun e w' => ∃ v0_ : Value, e = .returned (v0_) ∧ Kd.R (Kd.int .i64) 3 w' w.heap.size (fun _ => True) v0_ r ∧ Below w.heap.size w w' := by
 have HB := Am (Below.refl w.heap.size w)
 have H : (shuttlecockref07_Rising.l0 k a0 (([] : List Int)) 1) = some r := h
 clear h
 obtain ⟨y372, hy372⟩ : ∃ y_ : List Int, y_ = (([] : List Int)) := ⟨_, rfl⟩
 replace H : (shuttlecockref07_Rising.l0 k a0 y372 1) = some r := by first | (rw [hy372]; with_reducible exact H) | (have H2_ := (Option.bind_some _ _).symm.trans H; rw [hy372]; with_reducible exact H2_) | (have H2_ := (Option.bind_some _ _).symm.trans H; with_reducible exact H2_) | with_reducible exact H | (rw [hy372]; exact H) | exact H
 have Ny372 := Am hy372
 clear hy372
 have H' := Am H
 clear H
 go_enter Try.func26, Try.ntmps26
 go_wp2_with (first | ((with_reducible refine gate_dst (N := 5) rfl ?_); refine Kd.R_lit (Kd.int .i64) _ 3 ?hg (N := 5) ?hd (xs := ([] : List Int)) (inner := []) (ok := fun _ => True) (okp := fun _ => True) ?hr ?hp (fun _ hk => hk) trivial (Below.refl _ _) (Nat.le_refl _) (by simp) ?_; (case hd => rfl); (case hg => rfl); (case hr => first | (go_simp; done) | (go_simp; rfl)); (case hp => exact (Reps.none _ _)); intro v373 w2 ho3 hb hg_ hnew_; clear hg_ hnew_; (first | rw [← Ny372.out] at ho3 | (simp only [Int.reduceToNat] at ho3; rw [← Ny372.out] at ho3)); have HO374 := Am (Kd.R_lower ho3 (below_size (z3))); replace HB := Am (below_step (z3) hb); clear hb ho3))
 go_loopg [3, 4] k (fun kq v3 v4 w' => ∃ (x3_1 : List Int) (x4_1 : Int), v4 = .int .i64 x4_1 ∧ Aside0 (shuttlecockref07_Rising.l0 kq a0 x3_1 x4_1 = some r) ∧ Aside0 (kq ≤ k) ∧ Aside0 (Kd.R (Kd.int .i64) 3 w' w.heap.size (fun _ => True) v3 x3_1) ∧ Aside0 (Below w.heap.size w w'))
 case atStart => exact ⟨(y372), (1), (by first | rfl | (simp; done) | (simp [*]; done) | (simp; generalize ByteArray.toList _ = l_; cases l_ <;> rfl)), H', ⟨Nat.le_refl _⟩, ⟨by (with_reducible repeat (first | apply Kd.R_alloc | apply Kd.R_drewN | apply Kd.R_drew)); exact HO374.out⟩, ⟨z3⟩⟩
 case round =>
  clear H'
  try clear c2
  try clear p2
  obtain ⟨x3_1, x4_1, rfl, HA, HK1, HO_3, HB⟩ := hrel
  cases gk with
  | zero => exact absurd HA.out (by simp [shuttlecockref07_Rising.l0])
  | succ k1 =>
   have H := HA.out
   clear HA
   simp only [shuttlecockref07_Rising.l0] at H
   by_cases c4 : x4_1 ≤ a0
   ·
    rw [if_pos c4] at H
    have c4b0 : decide (x4_1 ≤ a0) = true := decide_eq_true c4
    clear c4
    by_cases c5 : x3_1.length < 17592186044416
    ·
     rw [if_pos c5] at H
     have LMc5 := Am c5
     clear c5
     obtain ⟨y375, hy375⟩ : ∃ y_ : List Int, y_ = (x3_1 ++ [x4_1]) := ⟨_, rfl⟩
     replace H : (shuttlecockref07_Rising.l0 k1 a0 y375 (wrap64 (x4_1 + 1))) = some r := by first | (rw [hy375]; with_reducible exact H) | (have H2_ := (Option.bind_some _ _).symm.trans H; rw [hy375]; with_reducible exact H2_) | (have H2_ := (Option.bind_some _ _).symm.trans H; with_reducible exact H2_) | with_reducible exact H | (rw [hy375]; exact H) | exact H
     have Ny375 := Am hy375
     clear hy375
     have H' := Am H
     clear H
     go_wp2_with (first | ((with_reducible refine gate_builtin (b := .append) (xs := #[.tmp 11, .tmp 13]) rfl ?_); at_builtin; refine Kd.R_append (Kd.int .i64) (w0 := w) w.heap.size rfl (.tmp 11) (.tmp 13) 26 3 (.int .i64 0) 8 rfl Try.underlying26 info3 rfl (by decide) (by omega) u3 x3_1 x4_1 [.int .i64 x4_1] (fun _ => True) (fun _ => False) rfl rfl ?aP (fun _ hk => hk.elim) ?aF ?aO ?aB ?aS ?aL ?_; (case aP => exact rfl); (case aB => exact (z3)); (case aF => exact (fun _ _ => trivial)); (case aO => exact (by (with_reducible repeat (first | apply Kd.R_alloc | apply Kd.R_drewN | apply Kd.R_drew)); exact HO_3.out)); (case aS => exact (below_size (z3))); (case aL => have := LMc5.out; omega); intro v376 w6 ho hb hg hat; rw [← Ny375.out] at ho; have n0_ := Am (hb); have n1_ := Am (ho); clear HB; clear HO_3; have HB := n0_; have HO377 := n1_; clear n0_ n1_; clear ho hb hg hat))
     go_roundg k1
     case measure => have := HK1.out; omega
     case rel => exact ⟨(y375), (wrap64 (x4_1 + 1)), (by first | rfl | (simp; done) | (simp [*]; done) | (simp; generalize ByteArray.toList _ = l_; cases l_ <;> rfl)), H', ⟨by have := HK1.out; omega⟩, ⟨by (with_reducible repeat (first | apply Kd.R_alloc | apply Kd.R_drewN | apply Kd.R_drew)); exact HO377.out⟩, ⟨z3⟩⟩
    ·
     rw [if_neg c5] at H
     exact absurd H (by simp)
   ·
    rw [if_neg c4] at H
    have c4b0 : decide (x4_1 ≤ a0) = false := decide_eq_false c4
    clear c4
    obtain rfl := Option.some.inj H
    go_wp2
    go_ret
    exact ⟨_, y0, by (with_reducible repeat (first | apply Kd.R_alloc | apply Kd.R_drewN | apply Kd.R_drew)); exact HO_3.out, z3⟩

/-! ### shuttlecockref07_Encode: function 12 -/
def shuttlecockref07_Encode.f (k : Nat) (l0_0 : List ByteArray) (l0_1 : List (List (S70))) : Option (ByteArray) := (shuttlecockref07_Rising.f k (l0_0.length : Int)).bind fun t379 => ((shuttlecockref07_Rising.f k (l0_1.length : Int)).bind fun t382 => ((shuttlecockref07_Order.f k l0_0 l0_1 t379 t382).bind fun t385 => (some t385)))
theorem shuttlecockref07_Encode.mono : ∀ a0 a1 k, LeO (shuttlecockref07_Encode.f k a0 a1) (shuttlecockref07_Encode.f (k + 1) a0 a1) := by
 intro a0 a1 k
 unfold shuttlecockref07_Encode.f
 repeat' first
   | (with_reducible exact shuttlecockref07_Order.mono _ _ _ _ _)
   | (with_reducible exact shuttlecockref07_Rising.mono _ _)
   | (with_reducible exact LeO.refl _)
   | (with_reducible exact LeO.none _)
   | (with_reducible refine LeO.ite ?_ ?_)
   | (with_reducible refine LeO.bind ?_ (fun _ => ?_))
   | exact LeO.none _
   | refine LeO.ite ?_ ?_
   | refine LeO.bind ?_ (fun _ => ?_)
def shuttlecockref07_Encode.T1 : Bool × List (List Nat × List Nat) := (true, [([], []), ([], []), ([1], [1]), ([2], [2]), ([3], [3]), ([], []), ([5], [5]), ([6], [6]), ([7, 4], [7]), ([0, 4, 8, 8], [0, 4, 8]), ([9, 9, 0, 1, 2, 3, 4, 5, 6, 7, 8, 9], [9])])
def shuttlecockref07_Encode.B1 : List Nat := [0, 0, 2, 6, 14, 0, 32, 96, 254, 511, 1023]
theorem shuttlecockref07_Encode.tab1 : rtab .any (opsOf Try.f12 1) = shuttlecockref07_Encode.T1 := by kernel_rfl
theorem shuttlecockref07_Encode.bits1 : waitsOk shuttlecockref07_Encode.T1.2 shuttlecockref07_Encode.B1 = true := by kernel_rfl
set_option maxHeartbeats 8000000 in
set_option maxRecDepth 100000 in
theorem shuttlecockref07_Encode.calls (k : Nat) (A0_0 : Option Addr) (c0_0 : Nat) (l0_0 : List ByteArray) (A0_1 : Option Addr) (c0_1 : Nat) (l0_1 : List (List (S70))) (r : ByteArray) (w : World) (hr0_0 : Kd.C Kd.string w A0_0 l0_0.length l0_0) (hc0_0 : l0_0.length ≤ c0_0) (hr0_1 : Kd.C (Kd.slice 70 k70) w A0_1 l0_1.length l0_1) (hc0_1 : l0_1.length ≤ c0_1) (h : shuttlecockref07_Encode.f k l0_0 l0_1 = some r) :
  Calls Try.prog 12 #[.agg #[.slice A0_0 l0_0.length c0_0, .slice A0_1 l0_1.length c0_1]] w fun e w' => e = .returned (.string r) ∧ Below w.heap.size w w' := by
 have hu25 := Try.underlying25
 have HR0_0 := Am hr0_0
 have HC0_0 := Am hc0_0
 clear hr0_0 hc0_0
 have HR0_1 := Am hr0_1
 have HC0_1 := Am hc0_1
 clear hr0_1 hc0_1
 have HB := Am (Below.refl w.heap.size w)
 have H : ((shuttlecockref07_Rising.f k (l0_0.length : Int)).bind fun t379 => ((shuttlecockref07_Rising.f k (l0_1.length : Int)).bind fun t382 => ((shuttlecockref07_Order.f k l0_0 l0_1 t379 t382).bind fun t385 => (some t385)))) = some r := h
 clear h
 replace H := ob H
 obtain ⟨t379, A20, H⟩ := H
 (try dsimp only at H)
 have A2 := Am A20
 clear A20
 replace H := ob H
 obtain ⟨t382, A30, H⟩ := H
 (try dsimp only at H)
 have A3 := Am A30
 clear A30
 replace H := ob H
 obtain ⟨t385, A40, H⟩ := H
 (try dsimp only at H)
 have A4 := Am A40
 clear A40
 obtain rfl := Option.some.inj H
 go_enter Try.func12, Try.ntmps12
 try go_wp2_with (first | ((with_reducible refine gate_dst (N := 1) rfl ?_); refine box_event ?hg (N := 1) ?hd (cs := #[.slice A0_0 l0_0.length c0_0, .slice A0_1 l0_1.length c0_1]) (t := 25) ?hr ?_; (case hd => rfl); (case hg => rfl); (case hr => first | (go_simp; done) | (go_simp; rfl)); intro gb378 hg w5 hbox hb; have BK378 := Am (hbox); have GW378 := Am ((by rw [hg]; exact (below_size (z3)) : w.heap.size ≤ gb378)); have GE378 := GW378; replace HB := Am (below_step (z3) hb); clear hb hbox hg))
 replace BK378 := Am (bd BK378.out)
 replace HB := Am (b1 HB.out)
 refine start_ (n := 11) (S := fun w' => w'.cell? ⟨gb378, 0, none⟩ = some (.slice A0_0 l0_0.length c0_0) ∧ w'.cell? ⟨gb378, 1, none⟩ = some (.slice A0_1 l0_1.length c0_1)) (ds := []) q20_0 (by kernel_rfl) rfl rfl ⟨(bc BK378.out 0).trans rfl, (bc BK378.out 1).trans rfl⟩ (fun hHeld => ?_); refine with_tabW shuttlecockref07_Encode.tab1 shuttlecockref07_Encode.bits1 (fun HT_ HW_ => ?_)
 generalize w5.drew = w6 at BK378 HB hHeld ⊢
 refine Own.pr_ 1 (some 4) q20_1 HT_ (h := ?_)
 refine Own.pr_ 5 (some 8) q20_2 HT_ (h := ?_)
 refine Own.tk_ 0 (some 3) q20_3 HT_ HW_ hHeld (hy := by rintro w' ⟨s0, s1⟩; go_simp; with_reducible rfl) (h := ?_)
 refine Own.tk_ 2 (some 5) q20_4 HT_ HW_ hHeld (hy := by rintro w' ⟨s0, s1⟩; go_simp; with_reducible rfl) (h := ?_)
 refine Own.pr_ 3 (some 6) q20_5 HT_ (h := ?_)
 refine Own.tk_ 6 (some 9) q20_6 HT_ HW_ hHeld (hy := by rintro w' ⟨s0, s1⟩; go_simp; with_reducible rfl) (h := ?_)
 refine Own.pr_ 7 (some 10) q20_7 HT_ (h := ?_)
 refine one_ (i := 4) (N := some 7) q20_8 rfl rfl (one_of HT_.out (by kernel_rfl)) (by decide) (fun K hK => ?_)
 refine goes_ Try.func26 (by kernel_rfl) rfl #[.int .i64 (l0_0.length : Int)] (by rfl) rfl rfl (by (try simp only [List.map_toArray, List.map_cons, List.map_nil]); first | done | rfl | (simp only [List.length_drop, List.length_take]; rfl)) ?_
 with_reducible refine (shuttlecockref07_Rising.calls k (l0_0.length : Int) t379 _ A2.out).mono ?_
 rintro e w7 ⟨v380, rfl, ho0, hb⟩
 refine ⟨_, rfl, ?_⟩
 have HO381 := Am (Kd.R_lower ho0 (below_size (z18)))
 replace BK378 := Am (blk_below (g := gb378) (o := .cells #[.slice A0_0 l0_0.length c0_0, .slice A0_1 l0_1.length c0_1] 25 (0, 0)) (by (with_reducible repeat (first|apply bn|apply bd|apply ba)); exact BK378.out) hb)
 replace HB := Am (below_step (z18) hb)
 (try clear hb)
 (try clear hb2)
 (try clear hk)
 (try clear hi)
 (try clear ho0)
 refine hK.out _ _ ⟨(bc BK378.out 0).trans rfl, (bc BK378.out 1).trans rfl⟩ (fun hHeld => ?_)
 clear hK K
 refine norm_ (a' := ?_) ?_ ?_
 rotate_left
 ·
  show Act.put _ (some 7) _ = _
  simp only [Act.put, sI, sZ, sS, i64_w, i32_w]
  rfl
 refine one_ (i := 8) (N := some 11) q20_9 rfl rfl (one_of HT_.out (by kernel_rfl)) (by decide) (fun K hK => ?_)
 refine goes_ Try.func26 (by kernel_rfl) rfl #[.int .i64 (l0_1.length : Int)] (by rfl) rfl rfl (by (try simp only [List.map_toArray, List.map_cons, List.map_nil]); first | done | rfl | (simp only [List.length_drop, List.length_take]; rfl)) ?_
 with_reducible refine (shuttlecockref07_Rising.calls k (l0_1.length : Int) t382 _ A3.out).mono ?_
 rintro e w8 ⟨v383, rfl, ho0, hb⟩
 refine ⟨_, rfl, ?_⟩
 have HO384 := Am (Kd.R_lower (Kd.R_new' ho0 (Kd.R_lt (by (with_reducible repeat (first | apply Kd.R_alloc | apply Kd.R_drewN | apply Kd.R_drew)); exact HO381.out))) (below_size (z18)))
 replace HO381 := Am (Kd.R_elder' (by (with_reducible repeat (first | apply Kd.R_alloc | apply Kd.R_drewN | apply Kd.R_drew)); exact HO381.out) (Kd.R_base ho0) hb)
 replace BK378 := Am (blk_below (g := gb378) (o := .cells #[.slice A0_0 l0_0.length c0_0, .slice A0_1 l0_1.length c0_1] 25 (0, 0)) (by (with_reducible repeat (first|apply bn|apply bd|apply ba)); exact BK378.out) hb)
 replace HB := Am (below_step (z18) hb)
 (try clear hb)
 (try clear hb2)
 (try clear hk)
 (try clear hi)
 (try clear ho0)
 obtain ⟨Ao9, co9, eo9⟩ := Kd.R_slice HO381.out
 (first | subst eo9 | (injection eo9 with f1_ f2_ f3_; have f4_ := f1_.symm; have f5_ := f3_.symm; clear f1_ f2_ f3_; subst f4_; subst f5_))
 obtain ⟨Ao10, co10, eo10⟩ := Kd.R_slice HO384.out
 (first | subst eo10 | (injection eo10 with f1_ f2_ f3_; have f4_ := f1_.symm; have f5_ := f3_.symm; clear f1_ f2_ f3_; subst f4_; subst f5_))
 refine hK.out _ _ ⟨(bc BK378.out 0).trans rfl, (bc BK378.out 1).trans rfl⟩ (fun hHeld => ?_)
 clear hK K
 refine norm_ (a' := ?_) ?_ ?_
 rotate_left
 ·
  show Act.put _ (some 11) _ = _
  simp only [Act.put, sI, sZ, sS, i64_w, i32_w]
  rfl
 refine one_ (i := 9) (N := some 12) q20_10 rfl rfl (one_of HT_.out (by kernel_rfl)) (by decide) (fun K hK => ?_)
 refine goes_ Try.func14 (by kernel_rfl) rfl #[.agg #[.slice A0_0 l0_0.length c0_0, .slice A0_1 l0_1.length c0_1], .slice Ao9 t379.length co9, .slice Ao10 t382.length co10] (by rfl) rfl rfl (by (try simp only [List.map_toArray, List.map_cons, List.map_nil]); first | done | rfl | (simp only [List.length_drop, List.length_take]; rfl)) ?_
 with_reducible refine (shuttlecockref07_Order.calls k _ _ l0_0 _ _ l0_1 _ _ t379 _ _ t382 t385 _ ?side1 ?side2 ?side3 ?side4 ?side5 ?side6 ?side7 ?side8 A4.out).mono ?_
 (case side1 => repeat (first | exact (Kd.C_below HR0_0.out HB.out) | (with_reducible refine Kd.C_alloc ?_ _) | (with_reducible refine Kd.C_drewN ?_ _) | (with_reducible refine Kd.C_drew ?_)))
 (case side2 => exact HC0_0.out)
 (case side3 => repeat (first | exact (Kd.C_below HR0_1.out HB.out) | (with_reducible refine Kd.C_alloc ?_ _) | (with_reducible refine Kd.C_drewN ?_ _) | (with_reducible refine Kd.C_drew ?_)))
 (case side4 => exact HC0_1.out)
 (case side5 => repeat (first | exact (Kd.R_reads' HO381.out).2.2 | (with_reducible refine Kd.C_alloc ?_ _) | (with_reducible refine Kd.C_drewN ?_ _) | (with_reducible refine Kd.C_drew ?_)))
 (case side6 => exact (Kd.R_reads' HO381.out).2.1)
 (case side7 => repeat (first | exact (Kd.R_reads' HO384.out).2.2 | (with_reducible refine Kd.C_alloc ?_ _) | (with_reducible refine Kd.C_drewN ?_ _) | (with_reducible refine Kd.C_drew ?_)))
 (case side8 => exact (Kd.R_reads' HO384.out).2.1)
 rintro e w11 ⟨rfl, hb⟩
 refine ⟨_, rfl, ?_⟩
 replace HO381 := Am (Kd.R_below (by (with_reducible repeat (first | apply Kd.R_alloc | apply Kd.R_drewN | apply Kd.R_drew)); exact HO381.out) hb)
 replace HO384 := Am (Kd.R_below (by (with_reducible repeat (first | apply Kd.R_alloc | apply Kd.R_drewN | apply Kd.R_drew)); exact HO384.out) hb)
 replace BK378 := Am (blk_below (g := gb378) (o := .cells #[.slice A0_0 l0_0.length c0_0, .slice A0_1 l0_1.length c0_1] 25 (0, 0)) (by (with_reducible repeat (first|apply bn|apply bd|apply ba)); exact BK378.out) hb)
 replace HB := Am (below_step (z18) hb)
 (try clear hb)
 (try clear hb2)
 (try clear hk)
 (try clear hi)
 refine hK.out _ _ ⟨(bc BK378.out 0).trans rfl, (bc BK378.out 1).trans rfl⟩ (fun hHeld => ?_)
 clear hK K
 refine norm_ (a' := ?_) ?_ ?_
 rotate_left
 ·
  show Act.put _ (some 12) _ = _
  simp only [Act.put, sI, sZ, sS, i64_w, i32_w]
  rfl
 refine Own.pr_ 10 (some 2) q20_11 HT_ (h := ?_)
 refine done_ (done_of HT_.out (by kernel_rfl)) ?_
 try go_wp2
 go_ret
 exact ⟨y0, z18⟩

end Go.Proofs.Ytlmmlmmbnfcogaa.Q
