-- printed by a program of this session (NOTES: hprint); not the kit's print
-- minified
-- halved
import Derived.Test.YtlmmlmmbnfcogaaAl
import Derived.Test.YtlmmlmmbnfcogaaQx0
import Derived.Test.YtlmmlmmbnfcogaaQx1
import Derived.Test.YtlmmlmmbnfcogaaQx6
namespace Go.Proofs.Ytlmmlmmbnfcogaa.Q
open Go.RowKit Go.Proofs.YtlmmlmmbnfcogaaW.PrintWords Go.Proofs.YtlmmlmmbnfcogaaW.PrintLast Go.Proofs.YtlmmlmmbnfcogaaW.PrintMore
attribute [local go_sem] max2_int min2_int max_two min_two max_three min_three max_four min_four   -- for this text's walks alone
set_option linter.unusedVariables false
set_option linter.unusedSimpArgs false

attribute [local go_sem high] eqA70
def q7_0 : Array Bool := let o := true; let z := false; #[z,z,z,z,z,z,z,z,z,z,z]
def q7_1 : Array Bool := let o := true; let z := false; #[z,o,z,z,z,z,z,z,z,z,z]
def q7_2 : Array Bool := let o := true; let z := false; #[z,o,z,z,z,o,z,z,z,z,z]
def q7_3 : Array Bool := let o := true; let z := false; #[o,o,z,z,z,o,z,z,z,z,z]
def q7_4 : Array Bool := let o := true; let z := false; #[o,o,o,z,z,o,z,z,z,z,z]
def q7_5 : Array Bool := let o := true; let z := false; #[o,o,o,o,z,o,z,z,z,z,z]
def q7_6 : Array Bool := let o := true; let z := false; #[o,o,o,o,z,o,o,z,z,z,z]
def q7_7 : Array Bool := let o := true; let z := false; #[o,o,o,o,z,o,o,o,z,z,z]
def q7_8 : Array Bool := let o := true; let z := false; #[o,o,o,o,o,o,o,o,z,z,z]
def q7_9 : Array Bool := let o := true; let z := false; #[o,o,o,o,o,o,o,o,o,z,z]
def q7_10 : Array Bool := let o := true; let z := false; #[o,o,o,o,o,o,o,o,o,o,z]
def q7_11 : Array Bool := let o := true; let z := false; #[o,o,o,o,o,o,o,o,o,o,o]
/-! ### table_rising: function 25 -/
def table_rising.l0 : Nat → List Int → Int → Int → Option (List Int)
 | 0, _, _, _ => none
 | k + 1, x3, x5, x6 => if x6 < x5 then (if x3.length < 17592186044416 then (table_rising.l0 k (x3 ++ [wrap64 (x6 + 1)]) x5 (wrap64 (x6 + 1))) else (none)) else (some x3)
def table_rising.f (k : Nat) (a0 : Int) : Option (List Int) := table_rising.l0 k ([] : List Int) a0 0
theorem table_rising.mono_l : ∀ k, (∀ y0 y1 y2, LeO (table_rising.l0 k y0 y1 y2) (table_rising.l0 (k + 1) y0 y1 y2))
 | 0 => fun _ _ _ r h => by simp [table_rising.l0] at h
 | k + 1 => by
  have ih0 := table_rising.mono_l k
  ·
   intro y0 y1 y2
   unfold table_rising.l0
   repeat' first
   | (with_reducible exact ih0 _ _ _)
   | (with_reducible exact LeO.refl _)
   | (with_reducible exact LeO.none _)
   | (with_reducible refine LeO.ite ?_ ?_)
   | (with_reducible refine LeO.bind ?_ (fun _ => ?_))
   | exact ih0 _ _ _
   | exact LeO.none _
   | refine LeO.ite ?_ ?_
   | refine LeO.bind ?_ (fun _ => ?_)
theorem table_rising.mono : ∀ a0 k, LeO (table_rising.f k a0) (table_rising.f (k + 1) a0) := by
 intro a0 k
 have ih0 := table_rising.mono_l k
 unfold table_rising.f
 repeat' first
   | (with_reducible exact ih0 _ _ _)
   | (with_reducible exact LeO.refl _)
   | (with_reducible exact LeO.none _)
   | (with_reducible refine LeO.ite ?_ ?_)
   | (with_reducible refine LeO.bind ?_ (fun _ => ?_))
   | exact ih0 _ _ _
   | exact LeO.none _
   | refine LeO.ite ?_ ?_
   | refine LeO.bind ?_ (fun _ => ?_)
set_option maxHeartbeats 8000000 in
set_option maxRecDepth 100000 in
theorem table_rising.calls (k : Nat) (a0 : Int) (r : List Int) (w : World) (h : table_rising.f k a0 = some r) :
  Calls Try.prog 25 #[.int .i64 a0] w fun e w' => ∃ v0_ : Value, e = .returned (v0_) ∧ Kd.R (Kd.int .i64) 3 w' w.heap.size (fun _ => True) v0_ r ∧ Below w.heap.size w w' := by
 have HB := Am (Below.refl w.heap.size w)
 have H : (table_rising.l0 k ([] : List Int) a0 0) = some r := h
 clear h
 have H' := Am H
 clear H
 go_enter Try.func25, Try.ntmps25
 go_wp2
 go_loopg [3, 6] k (fun kq v3 v6 w' => ∃ (x3_1 : List Int) (x6_1 : Int), v6 = .int .i64 x6_1 ∧ Aside0 (table_rising.l0 kq x3_1 a0 x6_1 = some r) ∧ Aside0 (kq ≤ k) ∧ Aside0 (Kd.R (Kd.int .i64) 3 w' w.heap.size (fun _ => True) v3 x3_1) ∧ Aside0 (Below w.heap.size w w'))
 case atStart => exact ⟨(([] : List Int)), (0), (by first | rfl | (simp; done) | (simp [*]; done) | (simp; generalize ByteArray.toList _ = l_; cases l_ <;> rfl)), H', ⟨Nat.le_refl _⟩, ⟨by first | exact Kd.R_nil _ _ _ _ _ | exact Kd.N_nil _ _ _ _ _ | exact Kd.V_nil _ _ _ _ _ | exact Kd.Q_nil _ _ _ _ _ | exact Kd.S_nil _ _ _ _ _⟩, ⟨by repeat (first | (with_reducible first | exact HB.out | apply bl | apply pN | apply b1) | exact HB.out | exact HBo.out)⟩⟩
 case round =>
  clear H'
  obtain ⟨x3_1, x6_1, rfl, HA, HK1, HO_3, HB⟩ := hrel
  cases gk with
  | zero => exact absurd HA.out (by simp [table_rising.l0])
  | succ k1 =>
   have H := HA.out
   clear HA
   simp only [table_rising.l0] at H
   by_cases c2 : x6_1 < a0
   ·
    rw [if_pos c2] at H
    have c2b0 : decide (x6_1 < a0) = true := decide_eq_true c2
    clear c2
    by_cases c3 : x3_1.length < 17592186044416
    ·
     rw [if_pos c3] at H
     have LMc3 := Am c3
     clear c3
     obtain ⟨y155, hy155⟩ : ∃ y_ : List Int, y_ = (x3_1 ++ [wrap64 (x6_1 + 1)]) := ⟨_, rfl⟩
     replace H : (table_rising.l0 k1 y155 a0 (wrap64 (x6_1 + 1))) = some r := by first | (rw [hy155]; with_reducible exact H) | (have H2_ := (Option.bind_some _ _).symm.trans H; rw [hy155]; with_reducible exact H2_) | (have H2_ := (Option.bind_some _ _).symm.trans H; with_reducible exact H2_) | with_reducible exact H | (rw [hy155]; exact H) | exact H
     have Ny155 := Am hy155
     clear hy155
     have H' := Am H
     clear H
     go_wp2_with (first | ((with_reducible refine gate_builtin (b := .append) (xs := #[.tmp 9, .tmp 12]) rfl ?_); at_builtin; refine Kd.R_append (Kd.int .i64) (w0 := w) w.heap.size rfl (.tmp 9) (.tmp 12) 26 3 (.int .i64 0) 8 rfl Try.underlying26 info3 rfl (by decide) (by omega) u3 x3_1 (wrap64 (x6_1 + 1)) [.int .i64 (wrap64 (x6_1 + 1))] (fun _ => True) (fun _ => False) rfl rfl ?aP (fun _ hk => hk.elim) ?aF ?aO ?aB ?aS ?aL ?_; (case aP => exact rfl); (case aB => exact (by repeat (first | (with_reducible first | exact HB.out | apply bl | apply pN | apply b1) | exact HB.out | exact HBo.out))); (case aF => exact (fun _ _ => trivial)); (case aO => exact (by (with_reducible repeat (first | apply Kd.R_alloc | apply Kd.R_drewN | apply Kd.R_drew)); exact HO_3.out)); (case aS => exact (below_size (by repeat (first | (with_reducible first | exact HB.out | apply bl | apply pN | apply b1) | exact HB.out | exact HBo.out)))); (case aL => have := LMc3.out; omega); intro v156 w4 ho hb hg hat; rw [← Ny155.out] at ho; have n0_ := Am (hb); have n1_ := Am (ho); clear HB; clear HO_3; have HB := n0_; have HO157 := n1_; clear n0_ n1_; clear ho hb hg hat))
     go_roundg k1
     case measure => have := HK1.out; omega
     case rel => exact ⟨(y155), (wrap64 (x6_1 + 1)), (by first | rfl | (simp; done) | (simp [*]; done) | (simp; generalize ByteArray.toList _ = l_; cases l_ <;> rfl)), H', ⟨by have := HK1.out; omega⟩, ⟨by (with_reducible repeat (first | apply Kd.R_alloc | apply Kd.R_drewN | apply Kd.R_drew)); exact HO157.out⟩, ⟨by repeat (first | (with_reducible first | exact HB.out | apply bl | apply pN | apply b1) | exact HB.out | exact HBo.out)⟩⟩
    ·
     rw [if_neg c3] at H
     exact absurd H (by simp)
   ·
    rw [if_neg c2] at H
    have c2b0 : decide (x6_1 < a0) = false := decide_eq_false c2
    clear c2
    obtain rfl := Option.some.inj H
    go_wp2
    go_ret
    exact ⟨_, by first | rfl | (simp [errW_none, errW_some] <;> rfl) | (simp [*, errW_none, errW_some] <;> rfl) | (simp [Aid.ne_nil, Aid.eq_nil, errW_none, errW_some]; done), by (with_reducible repeat (first | apply Kd.R_alloc | apply Kd.R_drewN | apply Kd.R_drew)); exact HO_3.out, by repeat (first | (with_reducible first | exact HB.out | apply bl | apply pN | apply b1) | exact HB.out | exact HBo.out)⟩

/-! ### table_Encode: function 11 -/
def table_Encode.f (k : Nat) (l0_0 : List ByteArray) (l0_1 : List (List (S70))) : Option (ByteArray) := (table_rising.f k (l0_0.length : Int)).bind fun t159 => ((table_rising.f k (l0_1.length : Int)).bind fun t162 => ((table_Order.f k l0_0 l0_1 t159 t162).bind fun t165 => (some t165)))
theorem table_Encode.mono : ∀ a0 a1 k, LeO (table_Encode.f k a0 a1) (table_Encode.f (k + 1) a0 a1) := by
 intro a0 a1 k
 unfold table_Encode.f
 repeat' first
   | (with_reducible exact table_Order.mono _ _ _ _ _)
   | (with_reducible exact table_rising.mono _ _)
   | (with_reducible exact LeO.refl _)
   | (with_reducible exact LeO.none _)
   | (with_reducible refine LeO.ite ?_ ?_)
   | (with_reducible refine LeO.bind ?_ (fun _ => ?_))
   | exact table_Order.mono _ _ _ _ _
   | exact table_rising.mono _ _
   | exact LeO.none _
   | refine LeO.ite ?_ ?_
   | refine LeO.bind ?_ (fun _ => ?_)
def table_Encode.T1 : Bool × List (List Nat × List Nat) := (true, [([], []), ([], []), ([1], [1]), ([2], [2]), ([3], [3]), ([], []), ([5], [5]), ([6], [6]), ([7, 4], [7]), ([0, 4, 8, 8], [0, 4, 8]), ([9, 9, 0, 1, 2, 3, 4, 5, 6, 7, 8, 9], [9])])
def table_Encode.B1 : List Nat := [0, 0, 2, 6, 14, 0, 32, 96, 254, 511, 1023]
theorem table_Encode.tab1 : rtab .any (opsOf Try.f11 1) = table_Encode.T1 := by kernel_rfl
theorem table_Encode.bits1 : waitsOk table_Encode.T1.2 table_Encode.B1 = true := by kernel_rfl
set_option maxHeartbeats 8000000 in
set_option maxRecDepth 100000 in
theorem table_Encode.calls (k : Nat) (A0_0 : Option Addr) (c0_0 : Nat) (l0_0 : List ByteArray) (A0_1 : Option Addr) (c0_1 : Nat) (l0_1 : List (List (S70))) (r : ByteArray) (w : World) (hr0_0 : Kd.C Kd.string w A0_0 l0_0.length l0_0) (hc0_0 : l0_0.length ≤ c0_0) (hr0_1 : Kd.C (Kd.slice 70 k70) w A0_1 l0_1.length l0_1) (hc0_1 : l0_1.length ≤ c0_1) (h : table_Encode.f k l0_0 l0_1 = some r) :
  Calls Try.prog 11 #[.agg #[.slice A0_0 l0_0.length c0_0, .slice A0_1 l0_1.length c0_1]] w fun e w' => e = .returned (.string r) ∧ Below w.heap.size w w' := by
 have hu25 := Try.underlying25
 have HR0_0 := Am hr0_0
 have HC0_0 := Am hc0_0
 clear hr0_0 hc0_0
 have HR0_1 := Am hr0_1
 have HC0_1 := Am hc0_1
 clear hr0_1 hc0_1
 have HB := Am (Below.refl w.heap.size w)
 have H : ((table_rising.f k (l0_0.length : Int)).bind fun t159 => ((table_rising.f k (l0_1.length : Int)).bind fun t162 => ((table_Order.f k l0_0 l0_1 t159 t162).bind fun t165 => (some t165)))) = some r := h
 clear h
 replace H := ob H
 obtain ⟨t159, A20, H⟩ := H
 replace H : ((table_rising.f k (l0_1.length : Int)).bind fun t162 => ((table_Order.f k l0_0 l0_1 t159 t162).bind fun t165 => (some t165))) = some r := H
 have A2 := Am A20
 clear A20
 replace H := ob H
 obtain ⟨t162, A30, H⟩ := H
 replace H : ((table_Order.f k l0_0 l0_1 t159 t162).bind fun t165 => (some t165)) = some r := H
 have A3 := Am A30
 clear A30
 replace H := ob H
 obtain ⟨t165, A40, H⟩ := H
 replace H : (some t165) = some r := H
 have A4 := Am A40
 clear A40
 obtain rfl := Option.some.inj H
 go_enter Try.func11, Try.ntmps11
 try go_wp2_with (first | ((with_reducible refine gate_dst (N := 1) rfl ?_); refine box_event ?hg (N := 1) ?hd (cs := #[.slice A0_0 l0_0.length c0_0, .slice A0_1 l0_1.length c0_1]) (t := 25) ?hr ?_; (case hd => rfl); (case hg => rfl); (case hr => first | (go_simp; done) | (go_simp; rfl)); intro gb158 hg w5 hbox hb; have n0_ := Am (below_step (by repeat (first | (with_reducible first | exact HB.out | apply bl | apply pN | apply b1) | exact HB.out | exact HBo.out)) hb); have n1_ := Am (hbox); have n2_ := Am ((by rw [hg]; exact (below_size (by repeat (first | (with_reducible first | exact HB.out | apply bl | apply pN | apply b1) | exact HB.out | exact HBo.out))) : w.heap.size ≤ gb158)); have n3_ := Am ((by rw [hg]; exact (below_size (by repeat (first | (with_reducible first | exact HB.out | apply bl | apply pN | apply b1) | exact HB.out | exact HBo.out))) : w.heap.size ≤ gb158)); clear HB; have HB := n0_; have BK158 := n1_; have GW158 := n2_; have GE158 := n3_; clear n0_ n1_ n2_ n3_; clear hb hbox hg))
 have n0_ := Am (bd BK158.out)
 have n1_ := Am (b1 HB.out)
 clear BK158
 clear HB
 have BK158 := n0_
 have HB := n1_
 clear n0_ n1_
 refine start_ (n := 11) (S := fun w' => w'.cell? ⟨gb158, 0, none⟩ = some (.slice A0_0 l0_0.length c0_0) ∧ w'.cell? ⟨gb158, 1, none⟩ = some (.slice A0_1 l0_1.length c0_1)) (ds := []) q7_0 (by kernel_rfl) rfl rfl ⟨(bc BK158.out 0).trans rfl, (bc BK158.out 1).trans rfl⟩ (fun hHeld => ?_); refine with_tabW table_Encode.tab1 table_Encode.bits1 (fun HT_ HW_ => ?_)
 generalize w5.drew = w6 at BK158 HB hHeld ⊢
 refine Own.pr_ 1 (some 4) q7_1 HT_ (h := ?_)
 refine Own.pr_ 5 (some 8) q7_2 HT_ (h := ?_)
 refine Own.tk_ 0 (some 3) q7_3 HT_ HW_ hHeld (hy := by rintro w' ⟨s0, s1⟩; go_simp; with_reducible rfl) (h := ?_)
 refine Own.tk_ 2 (some 5) q7_4 HT_ HW_ hHeld (hy := by rintro w' ⟨s0, s1⟩; go_simp; with_reducible rfl) (h := ?_)
 refine Own.pr_ 3 (some 6) q7_5 HT_ (h := ?_)
 refine Own.tk_ 6 (some 9) q7_6 HT_ HW_ hHeld (hy := by rintro w' ⟨s0, s1⟩; go_simp; with_reducible rfl) (h := ?_)
 refine Own.pr_ 7 (some 10) q7_7 HT_ (h := ?_)
 refine one_ (i := 4) (N := some 7) q7_8 rfl rfl (one_of HT_.out (by kernel_rfl)) (by decide) (fun K hK => ?_)
 refine goes_ Try.func25 (by kernel_rfl) rfl #[.int .i64 (l0_0.length : Int)] (by rfl) rfl rfl (by (try simp only [List.map_toArray, List.map_cons, List.map_nil]); first | done | rfl | (simp only [List.length_drop, List.length_take]; rfl)) ?_
 with_reducible refine (table_rising.calls k (l0_0.length : Int) t159 _ A2.out).mono ?_
 rintro e w7 ⟨v160, rfl, ho0, hb⟩
 refine ⟨_, rfl, ?_⟩
 have n0_ := Am (Kd.R_lower ho0 (below_size (by repeat (first | (with_reducible first | exact HB.out | apply bl | apply pN | apply b1 | refine bs ?_ GE158.out) | exact HB.out | exact HBo.out))))
 have n1_ := Am (blk_below (g := gb158) (o := .cells #[.slice A0_0 l0_0.length c0_0, .slice A0_1 l0_1.length c0_1] 25 (0, 0)) (by (with_reducible repeat (first | refine bn ?_ _ | refine bd ?_ | refine ba ?_ _)); exact BK158.out) hb)
 have n2_ := Am (below_step (by repeat (first | (with_reducible first | exact HB.out | apply bl | apply pN | apply b1 | refine bs ?_ GE158.out) | exact HB.out | exact HBo.out)) hb)
 clear BK158
 clear HB
 have HO161 := n0_
 have BK158 := n1_
 have HB := n2_
 clear n0_ n1_ n2_
 (try clear hb)
 (try clear hb2)
 (try clear hk)
 (try clear hi)
 (try clear ho0)
 refine hK.out _ _ ⟨(bc BK158.out 0).trans rfl, (bc BK158.out 1).trans rfl⟩ (fun hHeld => ?_)
 clear hK K
 refine norm_ (a' := ?_) ?_ ?_
 rotate_left
 ·
  show Act.put _ (some 7) _ = _
  simp only [Act.put, sI, sZ, sS, i64_w, i32_w]
  rfl
 refine one_ (i := 8) (N := some 11) q7_9 rfl rfl (one_of HT_.out (by kernel_rfl)) (by decide) (fun K hK => ?_)
 refine goes_ Try.func25 (by kernel_rfl) rfl #[.int .i64 (l0_1.length : Int)] (by rfl) rfl rfl (by (try simp only [List.map_toArray, List.map_cons, List.map_nil]); first | done | rfl | (simp only [List.length_drop, List.length_take]; rfl)) ?_
 with_reducible refine (table_rising.calls k (l0_1.length : Int) t162 _ A3.out).mono ?_
 rintro e w8 ⟨v163, rfl, ho0, hb⟩
 refine ⟨_, rfl, ?_⟩
 have n0_ := Am (Kd.R_elder' (by (with_reducible repeat (first | apply Kd.R_alloc | apply Kd.R_drewN | apply Kd.R_drew)); exact HO161.out) (Kd.R_base ho0) hb)
 have n1_ := Am (Kd.R_lower (Kd.R_new' ho0 (Kd.R_lt (by (with_reducible repeat (first | apply Kd.R_alloc | apply Kd.R_drewN | apply Kd.R_drew)); exact HO161.out))) (below_size (by repeat (first | (with_reducible first | exact HB.out | apply bl | apply pN | apply b1 | refine bs ?_ GE158.out) | exact HB.out | exact HBo.out))))
 have n2_ := Am (blk_below (g := gb158) (o := .cells #[.slice A0_0 l0_0.length c0_0, .slice A0_1 l0_1.length c0_1] 25 (0, 0)) (by (with_reducible repeat (first | refine bn ?_ _ | refine bd ?_ | refine ba ?_ _)); exact BK158.out) hb)
 have n3_ := Am (below_step (by repeat (first | (with_reducible first | exact HB.out | apply bl | apply pN | apply b1 | refine bs ?_ GE158.out) | exact HB.out | exact HBo.out)) hb)
 clear HO161
 clear BK158
 clear HB
 have HO161 := n0_
 have HO164 := n1_
 have BK158 := n2_
 have HB := n3_
 clear n0_ n1_ n2_ n3_
 (try clear hb)
 (try clear hb2)
 (try clear hk)
 (try clear hi)
 (try clear ho0)
 obtain ⟨Ao9, co9, eo9⟩ := Kd.R_slice HO161.out
 (first | subst eo9 | (injection eo9 with f1_ f2_ f3_; have f4_ := f1_.symm; have f5_ := f3_.symm; clear f1_ f2_ f3_; subst f4_; subst f5_))
 obtain ⟨Ao10, co10, eo10⟩ := Kd.R_slice HO164.out
 (first | subst eo10 | (injection eo10 with f1_ f2_ f3_; have f4_ := f1_.symm; have f5_ := f3_.symm; clear f1_ f2_ f3_; subst f4_; subst f5_))
 refine hK.out _ _ ⟨(bc BK158.out 0).trans rfl, (bc BK158.out 1).trans rfl⟩ (fun hHeld => ?_)
 clear hK K
 refine norm_ (a' := ?_) ?_ ?_
 rotate_left
 ·
  show Act.put _ (some 11) _ = _
  simp only [Act.put, sI, sZ, sS, i64_w, i32_w]
  rfl
 refine one_ (i := 9) (N := some 12) q7_10 rfl rfl (one_of HT_.out (by kernel_rfl)) (by decide) (fun K hK => ?_)
 refine goes_ Try.func13 (by kernel_rfl) rfl #[.agg #[.slice A0_0 l0_0.length c0_0, .slice A0_1 l0_1.length c0_1], .slice Ao9 t159.length co9, .slice Ao10 t162.length co10] (by rfl) rfl rfl (by (try simp only [List.map_toArray, List.map_cons, List.map_nil]); first | done | rfl | (simp only [List.length_drop, List.length_take]; rfl)) ?_
 with_reducible refine (table_Order.calls k _ _ l0_0 _ _ l0_1 _ _ t159 _ _ t162 t165 _ ?side1 ?side2 ?side3 ?side4 ?side5 ?side6 ?side7 ?side8 A4.out).mono ?_
 (case side1 => repeat (first | exact (Kd.C_below HR0_0.out HB.out) | (with_reducible refine Kd.C_alloc ?_ _) | (with_reducible refine Kd.C_drewN ?_ _) | (with_reducible refine Kd.C_drew ?_)))
 (case side2 => exact HC0_0.out)
 (case side3 => repeat (first | exact (Kd.C_below HR0_1.out HB.out) | (with_reducible refine Kd.C_alloc ?_ _) | (with_reducible refine Kd.C_drewN ?_ _) | (with_reducible refine Kd.C_drew ?_)))
 (case side4 => exact HC0_1.out)
 (case side5 => repeat (first | exact (Kd.R_reads' HO161.out).2.2 | (with_reducible refine Kd.C_alloc ?_ _) | (with_reducible refine Kd.C_drewN ?_ _) | (with_reducible refine Kd.C_drew ?_)))
 (case side6 => exact (Kd.R_reads' HO161.out).2.1)
 (case side7 => repeat (first | exact (Kd.R_reads' HO164.out).2.2 | (with_reducible refine Kd.C_alloc ?_ _) | (with_reducible refine Kd.C_drewN ?_ _) | (with_reducible refine Kd.C_drew ?_)))
 (case side8 => exact (Kd.R_reads' HO164.out).2.1)
 rintro e w11 ⟨rfl, hb⟩
 refine ⟨_, rfl, ?_⟩
 have n0_ := Am (Kd.R_below (by (with_reducible repeat (first | apply Kd.R_alloc | apply Kd.R_drewN | apply Kd.R_drew)); exact HO161.out) hb)
 have n1_ := Am (Kd.R_below (by (with_reducible repeat (first | apply Kd.R_alloc | apply Kd.R_drewN | apply Kd.R_drew)); exact HO164.out) hb)
 have n2_ := Am (blk_below (g := gb158) (o := .cells #[.slice A0_0 l0_0.length c0_0, .slice A0_1 l0_1.length c0_1] 25 (0, 0)) (by (with_reducible repeat (first | refine bn ?_ _ | refine bd ?_ | refine ba ?_ _)); exact BK158.out) hb)
 have n3_ := Am (below_step (by repeat (first | (with_reducible first | exact HB.out | apply bl | apply pN | apply b1 | refine bs ?_ GE158.out) | exact HB.out | exact HBo.out)) hb)
 clear HO161
 clear HO164
 clear BK158
 clear HB
 have HO161 := n0_
 have HO164 := n1_
 have BK158 := n2_
 have HB := n3_
 clear n0_ n1_ n2_ n3_
 (try clear hb)
 (try clear hb2)
 (try clear hk)
 (try clear hi)
 refine hK.out _ _ ⟨(bc BK158.out 0).trans rfl, (bc BK158.out 1).trans rfl⟩ (fun hHeld => ?_)
 clear hK K
 refine norm_ (a' := ?_) ?_ ?_
 rotate_left
 ·
  show Act.put _ (some 12) _ = _
  simp only [Act.put, sI, sZ, sS, i64_w, i32_w]
  rfl
 refine Own.pr_ 10 (some 2) q7_11 HT_ (h := ?_)
 refine done_ (done_of HT_.out (by kernel_rfl)) ?_
 try go_wp2
 go_ret
 exact ⟨by first | rfl | (simp [errW_none, errW_some] <;> rfl) | (simp [*, errW_none, errW_some] <;> rfl) | (simp [Aid.ne_nil, Aid.eq_nil, errW_none, errW_some]; done), by repeat (first | (with_reducible first | exact HB.out | apply bl | apply pN | apply b1 | refine bs ?_ GE158.out) | exact HB.out | exact HBo.out)⟩

/-! ### shuttlecockref06_SameStack: function 35 -/
def shuttlecockref06_SameStack.l0 : Nat → List (S70) → List (S70) → Int → Option (Bool)
 | 0, _, _, _ => none
 | k + 1, x0, x1, x5 => if x5 < (x0.length : Int) then (if 0 ≤ x5 then (if x5 < (x1.length : Int) then (if (!(((rd_T70 x0 x5).f0) == ((rd_T70 x1 x5).f0)) || (!(((rd_T70 x0 x5).f1) == ((rd_T70 x1 x5).f1)))) = true then (some false) else (shuttlecockref06_SameStack.l0 k x0 x1 (wrap64 (x5 + 1)))) else (none)) else (none)) else (some true)
def shuttlecockref06_SameStack.f (k : Nat) (l0 : List (S70)) (l1 : List (S70)) : Option (Bool) := if (l0.length : Int) = (l1.length : Int) then (shuttlecockref06_SameStack.l0 k l0 l1 0) else (some false)
theorem shuttlecockref06_SameStack.mono_l : ∀ k, (∀ y0 y1 y2, LeO (shuttlecockref06_SameStack.l0 k y0 y1 y2) (shuttlecockref06_SameStack.l0 (k + 1) y0 y1 y2))
 | 0 => fun _ _ _ r h => by simp [shuttlecockref06_SameStack.l0] at h
 | k + 1 => by
  have ih0 := shuttlecockref06_SameStack.mono_l k
  ·
   intro y0 y1 y2
   unfold shuttlecockref06_SameStack.l0
   repeat' first
   | (with_reducible exact ih0 _ _ _)
   | (with_reducible exact LeO.refl _)
   | (with_reducible exact LeO.none _)
   | (with_reducible refine LeO.ite ?_ ?_)
   | (with_reducible refine LeO.bind ?_ (fun _ => ?_))
   | exact ih0 _ _ _
   | exact LeO.none _
   | refine LeO.ite ?_ ?_
   | refine LeO.bind ?_ (fun _ => ?_)
theorem shuttlecockref06_SameStack.mono : ∀ a0 a1 k, LeO (shuttlecockref06_SameStack.f k a0 a1) (shuttlecockref06_SameStack.f (k + 1) a0 a1) := by
 intro a0 a1 k
 have ih0 := shuttlecockref06_SameStack.mono_l k
 unfold shuttlecockref06_SameStack.f
 repeat' first
   | (with_reducible exact ih0 _ _ _)
   | (with_reducible exact LeO.refl _)
   | (with_reducible exact LeO.none _)
   | (with_reducible refine LeO.ite ?_ ?_)
   | (with_reducible refine LeO.bind ?_ (fun _ => ?_))
   | exact ih0 _ _ _
   | exact LeO.none _
   | refine LeO.ite ?_ ?_
   | refine LeO.bind ?_ (fun _ => ?_)
set_option maxHeartbeats 8000000 in
set_option maxRecDepth 100000 in
theorem shuttlecockref06_SameStack.calls (k : Nat) (A0 : Option Addr) (c0 : Nat) (l0 : List (S70)) (A1 : Option Addr) (c1 : Nat) (l1 : List (S70)) (r : Bool) (w : World) (hr0 : Kd.C k70 w A0 l0.length l0) (hc0 : l0.length ≤ c0) (hr1 : Kd.C k70 w A1 l1.length l1) (hc1 : l1.length ≤ c1) (h : shuttlecockref06_SameStack.f k l0 l1 = some r) :
  Calls Try.prog 35 #[.slice A0 l0.length c0, .slice A1 l1.length c1] w fun e w' => e = .returned (.bool r) ∧ Drawn0 w w' := by
 have hu70 := Try.underlying70
 have HR0 := Am hr0
 have HC0 := Am hc0
 clear hr0 hc0
 have HR1 := Am hr1
 have HC1 := Am hc1
 clear hr1 hc1
 have H : (if (l0.length : Int) = (l1.length : Int) then (shuttlecockref06_SameStack.l0 k l0 l1 0) else (some false)) = some r := h
 clear h
 by_cases c3 : (l0.length : Int) = (l1.length : Int)
 ·
  rw [if_pos c3] at H
  have c3b0 : ((l0.length : Int) == (l1.length : Int)) = true := beq_iff_eq.mpr c3
  have c3b1 : ((l0.length : Int) != (l1.length : Int)) = false := bne_eq_false_iff_eq.mpr c3
  have c3b2 : (l0.length == l1.length) = true := by first | simpa using c3 | (simp at c3 ⊢; omega)
  clear c3
  have H' := Am H
  clear H
  go_enter Try.func35, Try.ntmps35
  go_wp2
  repeat (go_quiet (fail); try go_wp2)
  go_loopg [5] k (fun kq v5 w' => ∃ (x5_1 : Int), v5 = .int .i64 x5_1 ∧ Aside0 (shuttlecockref06_SameStack.l0 kq l0 l1 x5_1 = some r) ∧ Aside0 (kq ≤ k) ∧ Drawn0 w w')
  case atStart => exact ⟨(0), (by first | rfl | (simp; done) | (simp [*]; done) | (simp; generalize ByteArray.toList _ = l_; cases l_ <;> rfl)), H', ⟨Nat.le_refl _⟩, by repeat (first | exact Drawn0.refl _ | apply Drawn0.step)⟩
  case round =>
   clear H'
   try clear c1
   try clear p2
   try clear c3
   try clear c3b0
   try clear c3b1
   try clear c3b2
   obtain ⟨x5_1, rfl, HA, HK1, ⟨m1, rfl⟩⟩ := hrel
   cases gk with
   | zero => exact absurd HA.out (by simp [shuttlecockref06_SameStack.l0])
   | succ k1 =>
    have H := HA.out
    clear HA
    simp only [shuttlecockref06_SameStack.l0] at H
    by_cases c4 : x5_1 < (l0.length : Int)
    ·
     rw [if_pos c4] at H
     have c4b0 : decide (x5_1 < (l0.length : Int)) = true := decide_eq_true c4
     clear c4
     by_cases c5 : 0 ≤ x5_1
     ·
      rw [if_pos c5] at H
      have c5b0 : decide (0 ≤ x5_1) = true := decide_eq_true c5
      clear c5
      by_cases c6 : x5_1 < (l1.length : Int)
      ·
       rw [if_pos c6] at H
       have c6b0 : decide (x5_1 < (l1.length : Int)) = true := decide_eq_true c6
       clear c6
       by_cases c7 : (!(((rd_T70 l0 x5_1).f0) == ((rd_T70 l1 x5_1).f0)) || (!(((rd_T70 l0 x5_1).f1) == ((rd_T70 l1 x5_1).f1)))) = true
       ·
        rw [if_pos c7] at H
        have c7b0 : (!(((rd_T70 l0 x5_1).f0) == ((rd_T70 l1 x5_1).f0)) || (!(((rd_T70 l0 x5_1).f1) == ((rd_T70 l1 x5_1).f1)))) = true := c7
        try have c7b6 : (¬ ((rd_T70 l0 x5_1).f0) = ((rd_T70 l1 x5_1).f0) ∨ ¬ ((rd_T70 l0 x5_1).f1) = ((rd_T70 l1 x5_1).f1)) = True := eq_true (by first | (simpa using c7) | exact Classical.byContradiction (fun hh_ => by simp only [not_or, Classical.not_not] at hh_; simp [hh_] at c7))
        try have c7b7 : (((rd_T70 l0 x5_1).f0) = ((rd_T70 l1 x5_1).f0) ∧ ((rd_T70 l0 x5_1).f1) = ((rd_T70 l1 x5_1).f1)) = False := eq_false (by first | (intro hh_; simp [hh_] at c7; done) | simpa using c7)
        clear c7
        obtain rfl := Option.some.inj H
        have p166 : 0 ≤ (x5_1 : Int) := of_decide_eq_true (by first | (with_reducible assumption) | assumption)
        have q166 : x5_1 < (l0.length : Int) := of_decide_eq_true (by first | (with_reducible assumption) | assumption)
        obtain ⟨ad166, e166, hx166_0, hx166_1⟩ := at_T70 HR0.out x5_1 p166 q166
        cases e166
        replace p166 := eq_true p166
        replace q166 := eq_true q166
        have p167 : 0 ≤ (x5_1 : Int) := of_decide_eq_true (by first | (with_reducible assumption) | assumption)
        have q167 : x5_1 < (l1.length : Int) := of_decide_eq_true (by first | (with_reducible assumption) | assumption)
        obtain ⟨ad167, e167, hx167_0, hx167_1⟩ := at_T70 HR1.out x5_1 p167 q167
        cases e167
        replace p167 := eq_true p167
        replace q167 := eq_true q167
        go_wp2
        repeat (go_quiet (fail); try go_wp2)
        go_ret
        exact ⟨by first | rfl | (simp; done) | (simp [*]; done), by repeat (first | exact Drawn0.refl _ | apply Drawn0.step)⟩
       ·
        rw [if_neg c7] at H
        have c7b0 : (!(((rd_T70 l0 x5_1).f0) == ((rd_T70 l1 x5_1).f0)) || (!(((rd_T70 l0 x5_1).f1) == ((rd_T70 l1 x5_1).f1)))) = false := by simpa using c7
        try have c7b6 : (¬ ((rd_T70 l0 x5_1).f0) = ((rd_T70 l1 x5_1).f0) ∨ ¬ ((rd_T70 l0 x5_1).f1) = ((rd_T70 l1 x5_1).f1)) = False := eq_false (by simpa using c7)
        try have c7b7 : (((rd_T70 l0 x5_1).f0) = ((rd_T70 l1 x5_1).f0) ∧ ((rd_T70 l0 x5_1).f1) = ((rd_T70 l1 x5_1).f1)) = True := eq_true (by simpa using c7)
        clear c7
        have H' := Am H
        clear H
        have p166 : 0 ≤ (x5_1 : Int) := of_decide_eq_true (by first | (with_reducible assumption) | assumption)
        have q166 : x5_1 < (l0.length : Int) := of_decide_eq_true (by first | (with_reducible assumption) | assumption)
        obtain ⟨ad166, e166, hx166_0, hx166_1⟩ := at_T70 HR0.out x5_1 p166 q166
        cases e166
        replace p166 := eq_true p166
        replace q166 := eq_true q166
        have p167 : 0 ≤ (x5_1 : Int) := of_decide_eq_true (by first | (with_reducible assumption) | assumption)
        have q167 : x5_1 < (l1.length : Int) := of_decide_eq_true (by first | (with_reducible assumption) | assumption)
        obtain ⟨ad167, e167, hx167_0, hx167_1⟩ := at_T70 HR1.out x5_1 p167 q167
        cases e167
        replace p167 := eq_true p167
        replace q167 := eq_true q167
        go_wp2
        repeat (go_quiet (fail); try go_wp2)
        go_roundg k1
        case measure => have := HK1.out; omega
        case rel => exact ⟨(wrap64 (x5_1 + 1)), (by first | rfl | (simp; done) | (simp [*]; done) | (simp; generalize ByteArray.toList _ = l_; cases l_ <;> rfl)), H', ⟨by have := HK1.out; omega⟩, by repeat (first | exact Drawn0.refl _ | apply Drawn0.step)⟩
      ·
       rw [if_neg c6] at H
       exact absurd H (by simp)
     ·
      rw [if_neg c5] at H
      exact absurd H (by simp)
    ·
     rw [if_neg c4] at H
     have c4b0 : decide (x5_1 < (l0.length : Int)) = false := decide_eq_false c4
     clear c4
     obtain rfl := Option.some.inj H
     go_wp2
     repeat (go_quiet (fail); try go_wp2)
     go_ret
     exact ⟨by first | rfl | (simp; done) | (simp [*]; done), by repeat (first | exact Drawn0.refl _ | apply Drawn0.step)⟩
 ·
  rw [if_neg c3] at H
  have c3b0 : ((l0.length : Int) == (l1.length : Int)) = false := beq_eq_false_iff_ne.mpr c3
  have c3b1 : ((l0.length : Int) != (l1.length : Int)) = true := bne_iff_ne.mpr c3
  have c3b2 : (l0.length == l1.length) = false := by first | simpa using c3 | (simp at c3 ⊢; omega)
  obtain rfl := Option.some.inj H
  go_enter Try.func35, Try.ntmps35
  go_wp2
  repeat (go_quiet (fail); try go_wp2)
  go_ret
  exact ⟨by first | rfl | (simp; done) | (simp [*]; done), by repeat (first | exact Drawn0.refl _ | apply Drawn0.step)⟩

end Go.Proofs.Ytlmmlmmbnfcogaa.Q
