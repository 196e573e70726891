-- printed by a program of this session (NOTES: hprint); not the kit's print
-- minified
-- halved
import Derived.Test.YtlmmlmmbnfcogaaAl
import Derived.Test.YtlmmlmmbnfcogaaQx0
import Derived.Test.YtlmmlmmbnfcogaaQx5
import Derived.Test.YtlmmlmmbnfcogaaQx6
import Derived.Test.YtlmmlmmbnfcogaaQx7
import Derived.Test.YtlmmlmmbnfcogaaQx8
import Derived.Test.YtlmmlmmbnfcogaaQx9
namespace Go.Proofs.Ytlmmlmmbnfcogaa.Q
open Go.RowKit Go.Proofs.YtlmmlmmbnfcogaaW.PrintWords Go.Proofs.YtlmmlmmbnfcogaaW.PrintLast Go.Proofs.YtlmmlmmbnfcogaaW.PrintMore
attribute [local go_sem] max2_int min2_int max_two min_two max_three min_three max_four min_four   -- for this text's walks alone
set_option linter.unusedVariables false
set_option linter.unusedSimpArgs false

/-! ### shuttlecocklaw07_TableMany: function 6 -/
mutual
def shuttlecocklaw07_TableMany.j0 : Nat → Int → Bool → Option (Bool)
 | 0, _, _ => none
 | k + 1, x0, x22 => if x22 = true then ((shuttlecocklaw07_fixed.f k).bind fun t186 => (some t186)) else (shuttlecocklaw07_TableMany.l0 k x0 (([] : List Int)) (⟨#[120]⟩ : ByteArray) 1 ([] : List ByteArray))
def shuttlecocklaw07_TableMany.l0 : Nat → Int → List Int → ByteArray → Int → List ByteArray → Option (Bool)
 | 0, _, _, _, _, _ => none
 | k + 1, x0, x4, x5, x6, x188000 => if x6 ≤ x0 then (if x188000.length < 8796093022208 then ((some (([x6] : List Int) : List Int)).bind fun y194 => (if y194.length + x4.length < 17592186044416 then (if x5.size + 1 ≤ 9223372036854775807 then (shuttlecocklaw07_TableMany.l0 k x0 (y194 ++ x4) (x5 ++ (⟨#[120]⟩ : ByteArray)) (wrap64 (x6 + 1)) (x188000 ++ [x5])) else (none)) else (none))) else (none)) else ((table_Order.f k x188000 ([] : List (List (S70))) x4 ([] : List Int)).bind fun t200 => ((table_Decode.f k t200).bind fun bt201 => ((table_Encode.f k x188000 ([] : List (List (S70)))).bind fun t210 => (if 0 ≤ (mn 1 (t210.size : Int)) then (if (mn 1 (t210.size : Int)) ≤ (t210.size : Int) then (if (t210.extract 0 ((mn 1 (t210.size : Int)) : Int).toNat).size + 6 ≤ 9223372036854775807 then ((table_Decode.f k ((t210.extract 0 ((mn 1 (t210.size : Int)) : Int).toNat) ++ (⟨#[1, 1, 121, 1, 1, 122]⟩ : ByteArray))).bind fun bt211 => (if bt201.2.2.2 = 0 then ((shuttlecockref06_Same.f k bt201.1 bt201.2.1 x188000 ([] : List (List (S70)))).bind fun t220 => (if t220 = true then (some (bt211.2.2.2 != 0)) else (none))) else (none))) else (none)) else (none)) else (none)))))
end
def shuttlecocklaw07_TableMany.f (k : Nat) (a0 : Int) : Option (Bool) := (shuttlecocklaw07_fixed.f k).bind fun t185 => (if t185 = true then (if a0 < 1 then (shuttlecocklaw07_TableMany.j0 k a0 true) else (shuttlecocklaw07_TableMany.j0 k a0 (decide (a0 > 30)))) else (shuttlecocklaw07_TableMany.j0 k a0 true))
theorem shuttlecocklaw07_TableMany.mono_l : ∀ k, (∀ y0 y1, LeO (shuttlecocklaw07_TableMany.j0 k y0 y1) (shuttlecocklaw07_TableMany.j0 (k + 1) y0 y1)) ∧ (∀ y0 y1 y2 y3 y4, LeO (shuttlecocklaw07_TableMany.l0 k y0 y1 y2 y3 y4) (shuttlecocklaw07_TableMany.l0 (k + 1) y0 y1 y2 y3 y4))
 | 0 => ⟨fun _ _ r h => by simp [shuttlecocklaw07_TableMany.j0] at h, fun _ _ _ _ _ r h => by simp [shuttlecocklaw07_TableMany.l0] at h⟩
 | k + 1 => by
  obtain ⟨ih0, ih1⟩ := shuttlecocklaw07_TableMany.mono_l k
  refine ⟨?_, ?_⟩
  ·
   intro y0 y1
   unfold shuttlecocklaw07_TableMany.j0
   repeat' first
   | (with_reducible exact ih0 _ _)
   | (with_reducible exact ih1 _ _ _ _ _)
   | (with_reducible exact shuttlecocklaw07_fixed.mono _)
   | (with_reducible exact shuttlecockref06_Same.mono _ _ _ _ _)
   | (with_reducible exact table_Decode.mono _ _)
   | (with_reducible exact table_Encode.mono _ _ _)
   | (with_reducible exact table_Order.mono _ _ _ _ _)
   | (with_reducible exact LeO.refl _)
   | (with_reducible exact LeO.none _)
   | (with_reducible refine LeO.ite ?_ ?_)
   | (with_reducible refine LeO.bind ?_ (fun _ => ?_))
   | exact ih0 _ _
   | exact ih1 _ _ _ _ _
   | exact shuttlecocklaw07_fixed.mono _
   | exact shuttlecockref06_Same.mono _ _ _ _ _
   | exact table_Decode.mono _ _
   | exact table_Encode.mono _ _ _
   | exact table_Order.mono _ _ _ _ _
   | exact LeO.none _
   | refine LeO.ite ?_ ?_
   | refine LeO.bind ?_ (fun _ => ?_)
  ·
   intro y0 y1 y2 y3 y4
   unfold shuttlecocklaw07_TableMany.l0
   repeat' first
   | (with_reducible exact ih0 _ _)
   | (with_reducible exact ih1 _ _ _ _ _)
   | (with_reducible exact shuttlecocklaw07_fixed.mono _)
   | (with_reducible exact shuttlecockref06_Same.mono _ _ _ _ _)
   | (with_reducible exact table_Decode.mono _ _)
   | (with_reducible exact table_Encode.mono _ _ _)
   | (with_reducible exact table_Order.mono _ _ _ _ _)
   | (with_reducible exact LeO.refl _)
   | (with_reducible exact LeO.none _)
   | (with_reducible refine LeO.ite ?_ ?_)
   | (with_reducible refine LeO.bind ?_ (fun _ => ?_))
   | exact ih0 _ _
   | exact ih1 _ _ _ _ _
   | exact shuttlecocklaw07_fixed.mono _
   | exact shuttlecockref06_Same.mono _ _ _ _ _
   | exact table_Decode.mono _ _
   | exact table_Encode.mono _ _ _
   | exact table_Order.mono _ _ _ _ _
   | exact LeO.none _
   | refine LeO.ite ?_ ?_
   | refine LeO.bind ?_ (fun _ => ?_)
theorem shuttlecocklaw07_TableMany.mono : ∀ a0 k, LeO (shuttlecocklaw07_TableMany.f k a0) (shuttlecocklaw07_TableMany.f (k + 1) a0) := by
 intro a0 k
 obtain ⟨ih0, ih1⟩ := shuttlecocklaw07_TableMany.mono_l k
 unfold shuttlecocklaw07_TableMany.f
 repeat' first
   | (with_reducible exact ih0 _ _)
   | (with_reducible exact ih1 _ _ _ _ _)
   | (with_reducible exact shuttlecocklaw07_fixed.mono _)
   | (with_reducible exact shuttlecockref06_Same.mono _ _ _ _ _)
   | (with_reducible exact table_Decode.mono _ _)
   | (with_reducible exact table_Encode.mono _ _ _)
   | (with_reducible exact table_Order.mono _ _ _ _ _)
   | (with_reducible exact LeO.refl _)
   | (with_reducible exact LeO.none _)
   | (with_reducible refine LeO.ite ?_ ?_)
   | (with_reducible refine LeO.bind ?_ (fun _ => ?_))
   | exact ih0 _ _
   | exact ih1 _ _ _ _ _
   | exact shuttlecocklaw07_fixed.mono _
   | exact shuttlecockref06_Same.mono _ _ _ _ _
   | exact table_Decode.mono _ _
   | exact table_Encode.mono _ _ _
   | exact table_Order.mono _ _ _ _ _
   | exact LeO.none _
   | refine LeO.ite ?_ ?_
   | refine LeO.bind ?_ (fun _ => ?_)
set_option maxHeartbeats 8000000 in
set_option maxRecDepth 100000 in
theorem shuttlecocklaw07_TableMany.calls (k : Nat) (a0 : Int) (r : Bool) (w : World) (h : shuttlecocklaw07_TableMany.f k a0 = some r) :
  Calls Try.prog 6 #[.int .i64 a0] w fun e w' => e = .returned (.bool r) ∧ Below w.heap.size w w' := by
 have hu25 := Try.underlying25
 have HB := Am (Below.refl w.heap.size w)
 have H : ((shuttlecocklaw07_fixed.f k).bind fun t185 => (if t185 = true then (if a0 < 1 then (shuttlecocklaw07_TableMany.j0 k a0 true) else (shuttlecocklaw07_TableMany.j0 k a0 (decide (a0 > 30)))) else (shuttlecocklaw07_TableMany.j0 k a0 true))) = some r := h
 clear h
 have HC2 := Am H
 clear H
 go_enter Try.func6, Try.ntmps6
 go_upto_region 1 with (fail)
 go_cut [22] (fun v22 wc => ∃ (kq : Nat) (x22_1 : Bool), v22 = .bool x22_1 ∧ Aside0 (shuttlecocklaw07_TableMany.j0 kq a0 x22_1 = some r) ∧ Aside0 (kq ≤ k) ∧ Aside0 (Below w.heap.size w wc))
 case first =>
  have H := HC2.out
  clear HC2
  replace H := ob H
  obtain ⟨t185, A30, H⟩ := H
  replace H : (if t185 = true then (if a0 < 1 then (shuttlecocklaw07_TableMany.j0 k a0 true) else (shuttlecocklaw07_TableMany.j0 k a0 (decide (a0 > 30)))) else (shuttlecocklaw07_TableMany.j0 k a0 true)) = some r := H
  have A3 := Am A30
  clear A30
  by_cases c4 : t185 = true
  ·
   subst c4
   have H1 : (if a0 < 1 then (shuttlecocklaw07_TableMany.j0 k a0 true) else (shuttlecocklaw07_TableMany.j0 k a0 (decide (a0 > 30)))) = some r := by rw [if_pos rfl] at H; exact H
   clear H
   have H := H1
   clear H1
   by_cases c5 : a0 < 1
   ·
    rw [if_pos c5] at H
    have c5b0 : decide (a0 < 1) = true := decide_eq_true c5
    clear c5
    (first | rw [c5b0] | (simp only [i64_w, i32_w]; rw [c5b0]) | skip)
    have H' := Am H
    clear H
    go_wp2_with (first | ((with_reducible refine gate_callee (f := 8) rfl ?_); refine goesL_ (some 13) rfl rfl Try.func8 (by kernel_rfl) rfl #[] rfl (by (try simp only [List.map_toArray, List.map_cons, List.map_nil]); first | done | rfl | (simp only [List.length_drop, List.length_take]; rfl)) ?_; (with_reducible refine (shuttlecocklaw07_fixed.calls k  true _ A3.out).mono ?_); rintro e w6 ⟨rfl, hb⟩; refine ⟨_, rfl, ?_⟩; have n0_ := Am (below_step (by repeat (first | (with_reducible first | exact HB.out | apply bl | apply pN | apply b1) | exact HB.out | exact HBo.out)) hb); clear HB; have HB := n0_; clear n0_; (try clear hb); (try clear hb2); (try clear hk); (try clear hi)))
    go_meet
    case rel => exact ⟨_, (true), (by first | rfl | (simp; done) | (simp [*]; done) | (simp; generalize ByteArray.toList _ = l_; cases l_ <;> rfl)), H', ⟨by first | omega | exact Nat.le_refl _⟩, ⟨by repeat (first | (with_reducible first | exact HB.out | apply bl | apply pN | apply b1) | exact HB.out | exact HBo.out)⟩⟩
   ·
    rw [if_neg c5] at H
    have c5b0 : decide (a0 < 1) = false := decide_eq_false c5
    clear c5
    (first | rw [c5b0] | (simp only [i64_w, i32_w]; rw [c5b0]) | skip)
    have H' := Am H
    clear H
    go_wp2_with (first | ((with_reducible refine gate_callee (f := 8) rfl ?_); refine goesL_ (some 13) rfl rfl Try.func8 (by kernel_rfl) rfl #[] rfl (by (try simp only [List.map_toArray, List.map_cons, List.map_nil]); first | done | rfl | (simp only [List.length_drop, List.length_take]; rfl)) ?_; (with_reducible refine (shuttlecocklaw07_fixed.calls k  true _ A3.out).mono ?_); rintro e w7 ⟨rfl, hb⟩; refine ⟨_, rfl, ?_⟩; have n0_ := Am (below_step (by repeat (first | (with_reducible first | exact HB.out | apply bl | apply pN | apply b1) | exact HB.out | exact HBo.out)) hb); clear HB; have HB := n0_; clear n0_; (try clear hb); (try clear hb2); (try clear hk); (try clear hi)))
    go_meet
    case rel => exact ⟨_, (decide (a0 > 30)), (by first | rfl | (simp; done) | (simp [*]; done) | (simp; generalize ByteArray.toList _ = l_; cases l_ <;> rfl)), H', ⟨by first | omega | exact Nat.le_refl _⟩, ⟨by repeat (first | (with_reducible first | exact HB.out | apply bl | apply pN | apply b1) | exact HB.out | exact HBo.out)⟩⟩
  ·
   replace c4 := Bool.eq_false_iff.mpr c4
   subst c4
   have H1 : (shuttlecocklaw07_TableMany.j0 k a0 true) = some r := by rw [if_neg (show ¬ (false = true) by decide)] at H; exact H
   clear H
   have H := H1
   clear H1
   have H' := Am H
   clear H
   go_wp2_with (first | ((with_reducible refine gate_callee (f := 8) rfl ?_); refine goesL_ (some 13) rfl rfl Try.func8 (by kernel_rfl) rfl #[] rfl (by (try simp only [List.map_toArray, List.map_cons, List.map_nil]); first | done | rfl | (simp only [List.length_drop, List.length_take]; rfl)) ?_; (with_reducible refine (shuttlecocklaw07_fixed.calls k  false _ A3.out).mono ?_); rintro e w8 ⟨rfl, hb⟩; refine ⟨_, rfl, ?_⟩; have n0_ := Am (below_step (by repeat (first | (with_reducible first | exact HB.out | apply bl | apply pN | apply b1) | exact HB.out | exact HBo.out)) hb); clear HB; have HB := n0_; clear n0_; (try clear hb); (try clear hb2); (try clear hk); (try clear hi)))
   go_meet
   case rel => exact ⟨_, (true), (by first | rfl | (simp; done) | (simp [*]; done) | (simp; generalize ByteArray.toList _ = l_; cases l_ <;> rfl)), H', ⟨by first | omega | exact Nat.le_refl _⟩, ⟨by repeat (first | (with_reducible first | exact HB.out | apply bl | apply pN | apply b1) | exact HB.out | exact HBo.out)⟩⟩
 case rest =>
  clear HC2
  try clear p2
  try clear c4
  try clear c5
  try clear c5b0
  try clear c6
  try clear c8
  obtain ⟨kq, x22_1, rfl, HA, HJ1, HB⟩ := hcut
  cases kq with
  | zero => exact absurd HA.out (by simp [shuttlecocklaw07_TableMany.j0])
  | succ kj1 =>
   have H := HA.out
   clear HA
   simp only [shuttlecocklaw07_TableMany.j0] at H
   by_cases c9 : x22_1 = true
   ·
    subst c9
    have H1 : ((shuttlecocklaw07_fixed.f kj1).bind fun t186 => (some t186)) = some r := by rw [if_pos rfl] at H; exact H
    clear H
    have H := H1
    clear H1
    replace H := ob H
    obtain ⟨t186, A100, H⟩ := H
    replace H : (some t186) = some r := H
    have A10 := Am A100
    clear A100
    obtain rfl := Option.some.inj H
    go_wp2_with (first | ((with_reducible refine gate_callee (f := 8) rfl ?_); refine goesL_ (some 23) rfl rfl Try.func8 (by kernel_rfl) rfl #[] rfl (by (try simp only [List.map_toArray, List.map_cons, List.map_nil]); first | done | rfl | (simp only [List.length_drop, List.length_take]; rfl)) ?_; (with_reducible refine (shuttlecocklaw07_fixed.calls kj1  t186 _ A10.out).mono ?_); rintro e w11 ⟨rfl, hb⟩; refine ⟨_, rfl, ?_⟩; have n0_ := Am (below_step (by repeat (first | (with_reducible first | exact HB.out | apply bl | apply pN | apply b1) | exact HB.out | exact HBo.out)) hb); clear HB; have HB := n0_; clear n0_; (try clear hb); (try clear hb2); (try clear hk); (try clear hi)))
    go_ret
    exact ⟨by first | rfl | (simp [errW_none, errW_some] <;> rfl) | (simp [*, errW_none, errW_some] <;> rfl) | (simp [Aid.ne_nil, Aid.eq_nil, errW_none, errW_some]; done), by repeat (first | (with_reducible first | exact HB.out | apply bl | apply pN | apply b1) | exact HB.out | exact HBo.out)⟩
   ·
    replace c9 := Bool.eq_false_iff.mpr c9
    subst c9
    have H1 : (shuttlecocklaw07_TableMany.l0 kj1 a0 (([] : List Int)) (⟨#[120]⟩ : ByteArray) 1 ([] : List ByteArray)) = some r := by rw [if_neg (show ¬ (false = true) by decide)] at H; exact H
    clear H
    have H := H1
    clear H1
    obtain ⟨y188, hy188⟩ : ∃ y_ : List Int, y_ = (([] : List Int)) := ⟨_, rfl⟩
    replace H : (shuttlecocklaw07_TableMany.l0 kj1 a0 y188 (⟨#[120]⟩ : ByteArray) 1 ([] : List ByteArray)) = some r := by first | (rw [hy188]; with_reducible exact H) | (have H2_ := (Option.bind_some _ _).symm.trans H; rw [hy188]; with_reducible exact H2_) | (have H2_ := (Option.bind_some _ _).symm.trans H; with_reducible exact H2_) | with_reducible exact H | (rw [hy188]; exact H) | exact H
    have Ny188 := Am hy188
    clear hy188
    have H' := Am H
    clear H
    go_wp2_with (first | ((with_reducible refine gate_dst (N := 3) rfl ?_); refine box_event ?hg (N := 3) ?hd (cs := #[.slice none 0 0, .slice none 0 0]) (t := 25) ?hr ?_; (case hd => rfl); (case hg => rfl); (case hr => first | (go_simp; done) | (go_simp; rfl)); intro gb187 hg w12 hbox hb; have n0_ := Am (below_step (by repeat (first | (with_reducible first | exact HB.out | apply bl | apply pN | apply b1) | exact HB.out | exact HBo.out)) hb); have n1_ := Am (hbox); have n2_ := Am ((by rw [hg]; exact (below_size (by repeat (first | (with_reducible first | exact HB.out | apply bl | apply pN | apply b1) | exact HB.out | exact HBo.out))) : w.heap.size ≤ gb187)); have n3_ := Am ((by rw [hg]; exact (below_size (by repeat (first | (with_reducible first | exact HB.out | apply bl | apply pN | apply b1) | exact HB.out | exact HBo.out))) : w.heap.size ≤ gb187)); clear HB; have HB := n0_; have BK187 := n1_; have GW187 := n2_; have GE187 := n3_; clear n0_ n1_ n2_ n3_; clear hb hbox hg; have hcz13_0 : w12.cell? ⟨gb187, 0, none⟩ = some (.slice none 0 0) := (bc BK187.out 0).trans rfl; have hcz13_1 : w12.cell? ⟨gb187, 1, none⟩ = some (.slice none 0 0) := (bc BK187.out 1).trans rfl; have hfz13_0 := bf BK187.out 0; have hfz13_1 := bf BK187.out 1) | ((with_reducible refine gate_dst (N := 25) rfl ?_); refine Kd.R_lit (Kd.int .i64) _ 3 ?hg (N := 25) ?hd (xs := ([] : List Int)) (inner := []) (ok := fun _ => True) (okp := fun _ => True) ?hr ?hp (fun _ hk => hk) trivial (Below.refl _ _) (Nat.le_refl _) (by simp) ?_; (case hd => rfl); (case hg => rfl); (case hr => first | (go_simp; done) | (go_simp; rfl)); (case hp => exact (Reps.none _ _)); intro v189 w14 ho15 hb hg_ hnew_; clear hg_ hnew_; (first | rw [← Ny188.out] at ho15 | (simp only [Int.reduceToNat] at ho15; rw [← Ny188.out] at ho15)); have n0_ := Am (Kd.R_lower ho15 (below_size (by repeat (first | (with_reducible first | exact HB.out | apply bl | apply pN | apply b1 | refine bs ?_ GE187.out) | exact HB.out | exact HBo.out)))); have n1_ := Am (blk_below (g := gb187) (o := .cells #[.slice none 0 0, .slice none 0 0] 25 (0, 0)) (by (with_reducible repeat (first | refine bn ?_ _ | refine bd ?_ | refine ba ?_ _)); refine blk_put (cs := #[.slice none 0 0, .slice none 0 0]) ?_ 1 _ rfl; (with_reducible repeat (first | refine bn ?_ _ | refine bd ?_ | refine ba ?_ _)); refine blk_put (cs := #[.slice none 0 0, .slice none 0 0]) ?_ 0 _ rfl; (with_reducible repeat (first | refine bn ?_ _ | refine bd ?_ | refine ba ?_ _)); exact BK187.out) hb); have n2_ := Am (below_step (by repeat (first | (with_reducible first | exact HB.out | apply bl | apply pN | apply b1 | refine bs ?_ GE187.out) | exact HB.out | exact HBo.out)) hb); clear BK187; clear HB; have HO190 := n0_; have BK187 := n1_; have HB := n2_; clear n0_ n1_ n2_; clear hb ho15))
    go_loopg [4, 5, 6] kj1 (fun kq v4 v5 v6 w' => ∃ (x4_2 : List Int) (x5_2 : ByteArray) (x6_2 : Int) (x188000_2 : List ByteArray) (u188000 : Value), v5 = .string x5_2 ∧ v6 = .int .i64 x6_2 ∧ Aside0 (shuttlecocklaw07_TableMany.l0 kq a0 x4_2 x5_2 x6_2 x188000_2 = some r) ∧ Aside0 (kq ≤ kj1) ∧ Aside0 (Kd.R (Kd.int .i64) 3 w' w.heap.size (fun _ => True) v4 x4_2) ∧ Aside0 (Kd.R Kd.string 9 w' w.heap.size (fun _ => True) u188000 x188000_2) ∧ Aside0 (w'.heap[gb187]? = some (.cells #[u188000, (.slice none 0 0)] 25 (0, 0))) ∧ Aside0 (Below w.heap.size w w'))
    case atStart => exact ⟨(y188), ((⟨#[120]⟩ : ByteArray)), (1), (([] : List ByteArray)), (.slice none 0 0), (by first | rfl | (simp; done) | (simp [*]; done)), (by first | rfl | (simp; done) | (simp [*]; done) | (simp; generalize ByteArray.toList _ = l_; cases l_ <;> rfl)), H', ⟨Nat.le_refl _⟩, ⟨by (with_reducible repeat (first | apply Kd.R_alloc | apply Kd.R_drewN | apply Kd.R_drew)); exact HO190.out⟩, ⟨by first | exact Kd.R_nil _ _ _ _ _ | exact Kd.N_nil _ _ _ _ _ | exact Kd.V_nil _ _ _ _ _ | exact Kd.Q_nil _ _ _ _ _ | exact Kd.S_nil _ _ _ _ _⟩, ⟨by (with_reducible repeat (first | refine bn ?_ _ | refine bd ?_ | refine ba ?_ _)); exact BK187.out⟩, ⟨by repeat (first | (with_reducible first | exact HB.out | apply bl | apply pN | apply b1 | refine bs ?_ GE187.out) | exact HB.out | exact HBo.out)⟩⟩
    case round =>
     clear H'
     try clear p2
     try clear c4
     try clear c5
     try clear c5b0
     try clear c6
     try clear c8
     try clear c9
     try clear hcz13_0
     try clear hcz13_1
     try clear hfz13_0
     try clear hfz13_1
     try clear p2
     obtain ⟨x4_2, x5_2, x6_2, x188000_2, u188000, rfl, rfl, HA, HK2, HO_4, HO_188000, BK187, HB⟩ := hrel
     cases gk with
     | zero => exact absurd HA.out (by simp [shuttlecocklaw07_TableMany.l0])
     | succ k2 =>
      have H := HA.out
      clear HA
      simp only [shuttlecocklaw07_TableMany.l0] at H
      by_cases c16 : x6_2 ≤ a0
      ·
       rw [if_pos c16] at H
       have c16b0 : decide (x6_2 ≤ a0) = true := decide_eq_true c16
       clear c16
       by_cases c17 : x188000_2.length < 8796093022208
       ·
        rw [if_pos c17] at H
        have LMc17 := Am c17
        clear c17
        obtain ⟨y191, hy191⟩ : ∃ y_ : List ByteArray, y_ = (x188000_2 ++ [x5_2]) := ⟨_, rfl⟩
        replace H : ((some (([x6_2] : List Int) : List Int)).bind fun y194 => (if y194.length + x4_2.length < 17592186044416 then (if x5_2.size + 1 ≤ 9223372036854775807 then (shuttlecocklaw07_TableMany.l0 k2 a0 (y194 ++ x4_2) (x5_2 ++ (⟨#[120]⟩ : ByteArray)) (wrap64 (x6_2 + 1)) y191) else (none)) else (none))) = some r := by first | (rw [hy191]; with_reducible exact H) | (have H2_ := (Option.bind_some _ _).symm.trans H; rw [hy191]; with_reducible exact H2_) | (have H2_ := (Option.bind_some _ _).symm.trans H; with_reducible exact H2_) | with_reducible exact H | (rw [hy191]; exact H) | exact H
        have Ny191 := Am hy191
        clear hy191
        obtain ⟨y194, hy194⟩ : ∃ y_ : List Int, y_ = (([x6_2] : List Int)) := ⟨_, rfl⟩
        replace H : (if y194.length + x4_2.length < 17592186044416 then (if x5_2.size + 1 ≤ 9223372036854775807 then (shuttlecocklaw07_TableMany.l0 k2 a0 (y194 ++ x4_2) (x5_2 ++ (⟨#[120]⟩ : ByteArray)) (wrap64 (x6_2 + 1)) y191) else (none)) else (none)) = some r := by first | (rw [hy194]; with_reducible exact H) | (have H2_ := (Option.bind_some _ _).symm.trans H; rw [hy194]; with_reducible exact H2_) | (have H2_ := (Option.bind_some _ _).symm.trans H; with_reducible exact H2_) | with_reducible exact H | (rw [hy194]; exact H) | exact H
        have Ny194 := Am hy194
        clear hy194
        by_cases c18 : y194.length + x4_2.length < 17592186044416
        ·
         rw [if_pos c18] at H
         have LMc18 := Am c18
         clear c18
         obtain ⟨y197, hy197⟩ : ∃ y_ : List Int, y_ = (y194 ++ x4_2) := ⟨_, rfl⟩
         replace H : (if x5_2.size + 1 ≤ 9223372036854775807 then (shuttlecocklaw07_TableMany.l0 k2 a0 y197 (x5_2 ++ (⟨#[120]⟩ : ByteArray)) (wrap64 (x6_2 + 1)) y191) else (none)) = some r := by first | (rw [hy197]; with_reducible exact H) | (have H2_ := (Option.bind_some _ _).symm.trans H; rw [hy197]; with_reducible exact H2_) | (have H2_ := (Option.bind_some _ _).symm.trans H; with_reducible exact H2_) | with_reducible exact H | (rw [hy197]; exact H) | exact H
         have Ny197 := Am hy197
         clear hy197
         by_cases c19 : x5_2.size + 1 ≤ 9223372036854775807
         ·
          rw [if_pos c19] at H
          have c19b0 := eq_true c19
          have c19b1 : decide (x5_2.size + 1 ≤ 9223372036854775807) = true := decide_eq_true c19
          try have c19b2 : (9223372036854775807 < x5_2.size + 1) = False := eq_false (Nat.not_lt.2 c19)
          have H' := Am H
          clear H
          have hcz20_0 : wr.cell? ⟨gb187, 0, none⟩ = some (u188000) := (bc BK187.out 0).trans rfl
          have hcz20_1 : wr.cell? ⟨gb187, 1, none⟩ = some (.slice none 0 0) := (bc BK187.out 1).trans rfl
          have hfz20_0 := bf BK187.out 0
          have hfz20_1 := bf BK187.out 1
          go_wp2_with (first | ((with_reducible refine gate_builtin (b := .append) (xs := #[.tmp 32, .tmp 34]) rfl ?_); at_builtin; refine Kd.R_append Kd.string (w0 := w) w.heap.size rfl (.tmp 32) (.tmp 34) 22 9 (.string ⟨#[]⟩) 16 rfl Try.underlying22 info9 rfl (by decide) (by omega) u188000 x188000_2 x5_2 [.string x5_2] (fun _ => True) (fun _ => False) rfl rfl ?aP (fun _ hk => hk.elim) ?aF ?aO ?aB ?aS ?aL ?_; (case aP => exact rfl); (case aB => exact (by repeat (first | (with_reducible first | exact HB.out | apply bl | apply pN | apply b1 | refine bs ?_ GE187.out) | exact HB.out | exact HBo.out))); (case aF => exact (fun _ _ => trivial)); (case aO => exact (by (with_reducible repeat (first | apply Kd.R_alloc | apply Kd.R_drewN | apply Kd.R_drew)); exact HO_188000.out)); (case aS => exact (below_size (by repeat (first | (with_reducible first | exact HB.out | apply bl | apply pN | apply b1 | refine bs ?_ GE187.out) | exact HB.out | exact HBo.out)))); (case aL => have := LMc17.out; omega); intro v192 w21 ho hb hg hat; rw [← Ny191.out] at ho; have n0_ := Am (Kd.R_over' (by (with_reducible repeat (first | apply Kd.R_alloc | apply Kd.R_drewN | apply Kd.R_drew)); exact HO_4.out) (Kd.R_typed (by (with_reducible repeat (first | apply Kd.R_alloc | apply Kd.R_drewN | apply Kd.R_drew)); exact HO_188000.out)) (by decide) hg); have n1_ := Am (blk_grown (g := gb187) (o := .cells #[u188000, .slice none 0 0] 25 (0, 0)) (by (with_reducible repeat (first | refine bn ?_ _ | refine bd ?_ | refine ba ?_ _)); exact BK187.out) hg (Kd.R_ne HO_188000.out BK187.out (by decide))); have n2_ := Am (hb); have n3_ := Am (ho); clear HO_4; clear BK187; clear HB; clear HO_188000; have HO_4 := n0_; have BK187 := n1_; have HB := n2_; have HO193 := n3_; clear n0_ n1_ n2_ n3_; clear ho hb hg hat; obtain ⟨Ao22, co22, eo22⟩ := Kd.R_slice HO193.out; subst eo22; have hcz23_0 : w21.cell? ⟨gb187, 0, none⟩ = some (u188000) := (bc BK187.out 0).trans rfl; have hcz23_1 : w21.cell? ⟨gb187, 1, none⟩ = some (.slice none 0 0) := (bc BK187.out 1).trans rfl; have hfz23_0 := bf BK187.out 0; have hfz23_1 := bf BK187.out 1) | ((with_reducible refine gate_dst (N := 38) rfl ?_); refine Kd.R_lit (Kd.int .i64) _ 3 ?hg (N := 38) ?hd (xs := ([x6_2] : List Int)) (inner := [.int .i64 x6_2]) (ok := fun _ => True) (okp := fun _ => True) ?hr ?hp (fun _ hk => hk) trivial (Below.refl _ _) (Nat.le_refl _) (by simp) ?_; (case hd => rfl); (case hg => rfl); (case hr => first | (go_simp; done) | (go_simp; rfl)); (case hp => exact (Reps.one (show Kd.M (Kd.int .i64) _ _ _ x6_2 [.int .i64 x6_2] from rfl) (Reps.none _ _))); intro v195 w24 ho25 hb hg_ hnew_; clear hg_ hnew_; (first | rw [← Ny194.out] at ho25 | (simp only [Int.reduceToNat] at ho25; rw [← Ny194.out] at ho25)); have n0_ := Am (Kd.R_elder' (by (with_reducible repeat (first | apply Kd.R_alloc | apply Kd.R_drewN | apply Kd.R_drew)); exact (Kd.R_mono (Kd.R_far (p := ⟨gb187, 0, none⟩) (Kd.R_types HO_4.out BK187.out (by decide)) (fun _ hk => hk.2) (.slice Ao22 y191.length co22)) (fun _ h_ => h_.1))) (Kd.R_base ho25) hb); have n1_ := Am (Kd.R_below (by (with_reducible repeat (first | apply Kd.R_alloc | apply Kd.R_drewN | apply Kd.R_drew)); exact (Kd.R_mono (Kd.R_far (p := ⟨gb187, 0, none⟩) (Kd.R_types HO193.out BK187.out (by decide)) (fun _ hk => hk.2) (.slice Ao22 y191.length co22)) (fun _ h_ => h_.1))) hb); have n2_ := Am (Kd.R_lower (Kd.R_new' ho25 (Kd.R_lt (by (with_reducible repeat (first | apply Kd.R_alloc | apply Kd.R_drewN | apply Kd.R_drew)); exact (Kd.R_mono (Kd.R_far (p := ⟨gb187, 0, none⟩) (Kd.R_types HO_4.out BK187.out (by decide)) (fun _ hk => hk.2) (.slice Ao22 y191.length co22)) (fun _ h_ => h_.1))))) (below_size (by repeat (first | (with_reducible first | exact HB.out | apply bl | apply pN | apply b1 | refine bs ?_ GE187.out) | exact HB.out | exact HBo.out)))); have n3_ := Am (blk_below (g := gb187) (o := .cells #[.slice Ao22 y191.length co22, .slice none 0 0] 25 (0, 0)) (by (with_reducible repeat (first | refine bn ?_ _ | refine bd ?_ | refine ba ?_ _)); refine blk_put (cs := #[u188000, .slice none 0 0]) ?_ 0 _ rfl; (with_reducible repeat (first | refine bn ?_ _ | refine bd ?_ | refine ba ?_ _)); exact BK187.out) hb); have n4_ := Am (below_step (by repeat (first | (with_reducible first | exact HB.out | apply bl | apply pN | apply b1 | refine bs ?_ GE187.out) | exact HB.out | exact HBo.out)) hb); clear HO_4; clear HO193; clear BK187; clear HB; have HO_4 := n0_; have HO193 := n1_; have HO196 := n2_; have BK187 := n3_; have HB := n4_; clear n0_ n1_ n2_ n3_ n4_; clear hb ho25; obtain ⟨Ao27, co27, eo27⟩ := Kd.R_slice HO_4.out; subst eo27) | ((with_reducible refine gate_builtin (b := .append) (xs := #[.tmp 38, .tmp 39]) rfl ?_); at_builtin; refine Kd.R_append_rows (Kd.int .i64) (w0 := w) w.heap.size rfl (.tmp 38) (.tmp 39) 26 3 (.int .i64 0) 8 rfl Try.underlying26 info3 rfl (by decide) (by omega) v195 y194 x4_2 _ _ _ (fun k_ => some k_ ≠ (.slice Ao27 x4_2.length co27 : Value).ownBlock) (fun _ => False) rfl rfl ?aO ?aR (fun _ _ h => h) (fun _ h => h.elim) ?aF ?aB ?aS ?aL ?_; (case aR => repeat (first | exact (Kd.R_reads' HO_4.out).2.2 | (with_reducible refine Kd.C_alloc ?_ _) | (with_reducible refine Kd.C_drewN ?_ _) | (with_reducible refine Kd.C_drew ?_))); (case aB => exact (by repeat (first | (with_reducible first | exact HB.out | apply bl | apply pN | apply b1 | refine bs ?_ GE187.out) | exact HB.out | exact HBo.out))); (case aF => exact (fun k_ hk => Kd.fresh' (Kd.R_lt (by (with_reducible repeat (first | apply Kd.R_alloc | apply Kd.R_drewN | apply Kd.R_drew)); exact HO_4.out)) k_ hk)); (case aO => exact (by (with_reducible repeat (first | apply Kd.R_alloc | apply Kd.R_drewN | apply Kd.R_drew)); exact Kd.R_mono HO196.out (fun _ hk => hk.2))); (case aS => exact (below_size (by repeat (first | (with_reducible first | exact HB.out | apply bl | apply pN | apply b1 | refine bs ?_ GE187.out) | exact HB.out | exact HBo.out)))); (case aL => have := LMc18.out; omega); intro v198 w26 ho hb hg hat; rw [← Ny197.out] at ho; have n0_ := Am (Kd.R_after (ok := (fun _ => True)) (by (with_reducible repeat (first | apply Kd.R_alloc | apply Kd.R_drewN | apply Kd.R_drew)); exact HO_4.out) hg hat); have n1_ := Am (blk_grown (g := gb187) (o := .cells #[.slice Ao22 y191.length co22, .slice none 0 0] 25 (0, 0)) (by (with_reducible repeat (first | refine bn ?_ _ | refine bd ?_ | refine ba ?_ _)); exact BK187.out) hg (Kd.R_ne HO196.out BK187.out (by decide))); have n2_ := Am (Kd.R_over' (by (with_reducible repeat (first | apply Kd.R_alloc | apply Kd.R_drewN | apply Kd.R_drew)); exact HO193.out) (Kd.R_typed (by (with_reducible repeat (first | apply Kd.R_alloc | apply Kd.R_drewN | apply Kd.R_drew)); exact HO196.out)) (by decide) hg); have n3_ := Am (hb); have n4_ := Am (ho); clear HO_4; clear BK187; clear HO193; clear HB; clear HO196; have HO_4 := n0_; have BK187 := n1_; have HO193 := n2_; have HB := n3_; have HO199 := n4_; clear n0_ n1_ n2_ n3_ n4_; clear ho hb hg hat))
          go_roundg k2
          case measure => have := HJ1.out; have := HK2.out; omega
          case rel => exact ⟨(y197), (x5_2 ++ (⟨#[120]⟩ : ByteArray)), (wrap64 (x6_2 + 1)), (y191), (.slice Ao22 y191.length co22), (by first | rfl | (simp; done) | (simp [*]; done)), (by first | rfl | (simp; done) | (simp [*]; done) | (simp; generalize ByteArray.toList _ = l_; cases l_ <;> rfl)), H', ⟨by have := HJ1.out; have := HK2.out; omega⟩, ⟨by (with_reducible repeat (first | apply Kd.R_alloc | apply Kd.R_drewN | apply Kd.R_drew)); exact Kd.R_mono HO199.out (fun _ hk => trivial)⟩, ⟨by (with_reducible repeat (first | apply Kd.R_alloc | apply Kd.R_drewN | apply Kd.R_drew)); exact HO193.out⟩, ⟨by (with_reducible repeat (first | refine bn ?_ _ | refine bd ?_ | refine ba ?_ _)); exact BK187.out⟩, ⟨by repeat (first | (with_reducible first | exact HB.out | apply bl | apply pN | apply b1 | refine bs ?_ GE187.out) | exact HB.out | exact HBo.out)⟩⟩
         ·
          rw [if_neg c19] at H
          exact absurd H (by simp)
        ·
         rw [if_neg c18] at H
         exact absurd H (by simp)
       ·
        rw [if_neg c17] at H
        exact absurd H (by simp)
      ·
       rw [if_neg c16] at H
       have c16b0 : decide (x6_2 ≤ a0) = false := decide_eq_false c16
       clear c16
       replace H := ob H
       obtain ⟨t200, A280, H⟩ := H
       replace H : ((table_Decode.f k2 t200).bind fun bt201 => ((table_Encode.f k2 x188000_2 ([] : List (List (S70)))).bind fun t210 => (if 0 ≤ (mn 1 (t210.size : Int)) then (if (mn 1 (t210.size : Int)) ≤ (t210.size : Int) then (if (t210.extract 0 ((mn 1 (t210.size : Int)) : Int).toNat).size + 6 ≤ 9223372036854775807 then ((table_Decode.f k2 ((t210.extract 0 ((mn 1 (t210.size : Int)) : Int).toNat) ++ (⟨#[1, 1, 121, 1, 1, 122]⟩ : ByteArray))).bind fun bt211 => (if bt201.2.2.2 = 0 then ((shuttlecockref06_Same.f k2 bt201.1 bt201.2.1 x188000_2 ([] : List (List (S70)))).bind fun t220 => (if t220 = true then (some (bt211.2.2.2 != 0)) else (none))) else (none))) else (none)) else (none)) else (none)))) = some r := H
       have A28 := Am A280
       clear A280
       replace H := ob H
       obtain ⟨⟨t201, t204, t207, t208⟩, A290, H⟩ := H
       replace H : ((table_Encode.f k2 x188000_2 ([] : List (List (S70)))).bind fun t210 => (if 0 ≤ (mn 1 (t210.size : Int)) then (if (mn 1 (t210.size : Int)) ≤ (t210.size : Int) then (if (t210.extract 0 ((mn 1 (t210.size : Int)) : Int).toNat).size + 6 ≤ 9223372036854775807 then ((table_Decode.f k2 ((t210.extract 0 ((mn 1 (t210.size : Int)) : Int).toNat) ++ (⟨#[1, 1, 121, 1, 1, 122]⟩ : ByteArray))).bind fun bt211 => (if t208 = 0 then ((shuttlecockref06_Same.f k2 t201 t204 x188000_2 ([] : List (List (S70)))).bind fun t220 => (if t220 = true then (some (bt211.2.2.2 != 0)) else (none))) else (none))) else (none)) else (none)) else (none))) = some r := H
       have A29 := Am A290
       clear A290
       replace H := ob H
       obtain ⟨t210, A300, H⟩ := H
       replace H : (if 0 ≤ (mn 1 (t210.size : Int)) then (if (mn 1 (t210.size : Int)) ≤ (t210.size : Int) then (if (t210.extract 0 ((mn 1 (t210.size : Int)) : Int).toNat).size + 6 ≤ 9223372036854775807 then ((table_Decode.f k2 ((t210.extract 0 ((mn 1 (t210.size : Int)) : Int).toNat) ++ (⟨#[1, 1, 121, 1, 1, 122]⟩ : ByteArray))).bind fun bt211 => (if t208 = 0 then ((shuttlecockref06_Same.f k2 t201 t204 x188000_2 ([] : List (List (S70)))).bind fun t220 => (if t220 = true then (some (bt211.2.2.2 != 0)) else (none))) else (none))) else (none)) else (none)) else (none)) = some r := H
       have A30 := Am A300
       clear A300
       obtain ⟨ji31, hji31⟩ : ∃ j_ : Int, (mn 1 (t210.size : Int)) = j_ := ⟨_, rfl⟩
       replace H : (if 0 ≤ (ji31) then (if (ji31) ≤ (t210.size : Int) then (if (t210.extract 0 ((ji31) : Int).toNat).size + 6 ≤ 9223372036854775807 then ((table_Decode.f k2 ((t210.extract 0 ((ji31) : Int).toNat) ++ (⟨#[1, 1, 121, 1, 1, 122]⟩ : ByteArray))).bind fun bt211 => (if t208 = 0 then ((shuttlecockref06_Same.f k2 t201 t204 x188000_2 ([] : List (List (S70)))).bind fun t220 => (if t220 = true then (some (bt211.2.2.2 != 0)) else (none))) else (none))) else (none)) else (none)) else (none)) = some r := by first | (rw [hji31] at H; exact H) | (simp only [hji31] at H ⊢; exact H)
       (try rw [hji31] at A28)
       (try rw [hji31] at A29)
       (try rw [hji31] at A30)
       (try (have hji31h : ji31 ≤ 1 := by (rw [← hji31]; unfold mn; (repeat' split) <;> omega)))
       (try (have hji31g : ji31 ≤ 64 := by omega))
       (try (have hji31l : 0 ≤ ji31 := by (rw [← hji31]; unfold mn; (repeat' split) <;> omega)))
       (try (have hji31m : 0 ≤ ji31 := by omega))
       have hji31_ : (if (t210.size : Int) < 1 then (t210.size : Int) else 1) = ji31 := hji31
       by_cases c32 : 0 ≤ (ji31)
       ·
        rw [if_pos c32] at H
        have c32b0 := eq_true c32
        have c32b1 : decide (0 ≤ (ji31)) = true := decide_eq_true c32
        clear c32
        by_cases c33 : (ji31) ≤ (t210.size : Int)
        ·
         rw [if_pos c33] at H
         have c33b0 := eq_true c33
         have c33b1 : decide ((ji31) ≤ (t210.size : Int)) = true := decide_eq_true c33
         clear c33
         by_cases c34 : (t210.extract 0 ((ji31) : Int).toNat).size + 6 ≤ 9223372036854775807
         ·
          rw [if_pos c34] at H
          have c34b0 := eq_true c34
          have c34b1 : decide ((t210.extract 0 ((ji31) : Int).toNat).size + 6 ≤ 9223372036854775807) = true := decide_eq_true c34
          try have c34b2 : (9223372036854775807 < (t210.extract 0 ((ji31) : Int).toNat).size + 6) = False := eq_false (Nat.not_lt.2 c34)
          replace H := ob H
          obtain ⟨⟨t211, t214, t217, t218⟩, A350, H⟩ := H
          replace H : (if t208 = 0 then ((shuttlecockref06_Same.f k2 t201 t204 x188000_2 ([] : List (List (S70)))).bind fun t220 => (if t220 = true then (some (t218 != 0)) else (none))) else (none)) = some r := H
          have A35 := Am A350
          clear A350
          by_cases c36 : t208 = 0
          ·
           rw [if_pos c36] at H
           have c36b0 : (t208 == 0) = true := beq_iff_eq.mpr c36
           have c36b1 : (t208 != 0) = false := bne_eq_false_iff_eq.mpr c36
           clear c36
           replace H := ob H
           obtain ⟨t220, A370, H⟩ := H
           replace H : (if t220 = true then (some (t218 != 0)) else (none)) = some r := H
           have A37 := Am A370
           clear A370
           by_cases c38 : t220 = true
           ·
            subst c38
            have H1 : (some (t218 != 0)) = some r := by rw [if_pos rfl] at H; exact H
            clear H
            have H := H1
            clear H1
            obtain rfl := Option.some.inj H
            have hcz39_0 : wr.cell? ⟨gb187, 0, none⟩ = some (u188000) := (bc BK187.out 0).trans rfl
            have hcz39_1 : wr.cell? ⟨gb187, 1, none⟩ = some (.slice none 0 0) := (bc BK187.out 1).trans rfl
            have hfz39_0 := bf BK187.out 0
            have hfz39_1 := bf BK187.out 1
            obtain ⟨Ao40, co40, eo40⟩ := Kd.R_slice HO_188000.out
            subst eo40
            obtain ⟨Ao41, co41, eo41⟩ := Kd.R_slice HO_4.out
            subst eo41
            go_wp2_with (first | ((with_reducible refine gate_callee (f := 13) rfl ?_); refine goesL_ (some 46) rfl rfl Try.func13 (by kernel_rfl) rfl #[.agg #[.slice Ao40 x188000_2.length co40, .slice none 0 0], .slice Ao41 x4_2.length co41, .slice none 0 0] rfl (by (try simp only [List.map_toArray, List.map_cons, List.map_nil]); first | done | rfl | (simp only [List.length_drop, List.length_take]; rfl)) ?_; (refine (table_Order.calls k2 _ _ x188000_2 _ _ ([] : List (List (S70))) _ _ x4_2 _ _ ([] : List Int) t200 _ ?side1 ?side2 ?side3 ?side4 ?side5 ?side6 ?side7 ?side8 A28.out).mono ?_); (case side1 => repeat (first | exact (Kd.R_reads' HO_188000.out).2.2 | (with_reducible refine Kd.C_alloc ?_ _) | (with_reducible refine Kd.C_drewN ?_ _) | (with_reducible refine Kd.C_drew ?_))); (case side2 => exact (Kd.R_reads' HO_188000.out).2.1); (case side3 => exact Kd.C_nil _ _); (case side4 => exact Nat.le_refl _); (case side5 => repeat (first | exact (Kd.R_reads' HO_4.out).2.2 | (with_reducible refine Kd.C_alloc ?_ _) | (with_reducible refine Kd.C_drewN ?_ _) | (with_reducible refine Kd.C_drew ?_))); (case side6 => exact (Kd.R_reads' HO_4.out).2.1); (case side7 => exact Kd.C_nil _ _); (case side8 => exact Nat.le_refl _); rintro e w42 ⟨rfl, hb⟩; refine ⟨_, rfl, ?_⟩; have n0_ := Am (Kd.R_below (by (with_reducible repeat (first | apply Kd.R_alloc | apply Kd.R_drewN | apply Kd.R_drew)); exact HO_4.out) hb); have n1_ := Am (Kd.R_below (by (with_reducible repeat (first | apply Kd.R_alloc | apply Kd.R_drewN | apply Kd.R_drew)); exact HO_188000.out) hb); have n2_ := Am (blk_below (g := gb187) (o := .cells #[.slice Ao40 x188000_2.length co40, .slice none 0 0] 25 (0, 0)) (by (with_reducible repeat (first | refine bn ?_ _ | refine bd ?_ | refine ba ?_ _)); exact BK187.out) hb); have n3_ := Am (below_step (by repeat (first | (with_reducible first | exact HB.out | apply bl | apply pN | apply b1 | refine bs ?_ GE187.out) | exact HB.out | exact HBo.out)) hb); clear HO_4; clear HO_188000; clear BK187; clear HB; have HO_4 := n0_; have HO_188000 := n1_; have BK187 := n2_; have HB := n3_; clear n0_ n1_ n2_ n3_; (try clear hb); (try clear hb2); (try clear hk); (try clear hi)) | ((with_reducible refine gate_callee (f := 9) rfl ?_); refine goesL_ (some 47) rfl rfl Try.func9 (by kernel_rfl) rfl #[.string t200] rfl (by (try simp only [List.map_toArray, List.map_cons, List.map_nil]); first | done | rfl | (simp only [List.length_drop, List.length_take]; rfl)) ?_; (with_reducible refine (table_Decode.calls k2 t200 t201 t204 t207 t208 _ A29.out).mono ?_); rintro e w43 ⟨v202, v205, rfl, ho0, ho1, hb⟩; refine ⟨_, rfl, ?_⟩; have n0_ := Am (Kd.R_below (by (with_reducible repeat (first | apply Kd.R_alloc | apply Kd.R_drewN | apply Kd.R_drew)); exact HO_4.out) hb); have n1_ := Am (Kd.R_elder' (by (with_reducible repeat (first | apply Kd.R_alloc | apply Kd.R_drewN | apply Kd.R_drew)); exact HO_188000.out) (Kd.R_base ho0) hb); have n2_ := Am (Kd.R_lower (Kd.R_new' ho0 (Kd.R_lt (by (with_reducible repeat (first | apply Kd.R_alloc | apply Kd.R_drewN | apply Kd.R_drew)); exact HO_188000.out))) (below_size (by repeat (first | (with_reducible first | exact HB.out | apply bl | apply pN | apply b1 | refine bs ?_ GE187.out) | exact HB.out | exact HBo.out)))); have n3_ := Am (Kd.S_lower ho1 (below_size (by repeat (first | (with_reducible first | exact HB.out | apply bl | apply pN | apply b1 | refine bs ?_ GE187.out) | exact HB.out | exact HBo.out)))); have n4_ := Am (blk_below (g := gb187) (o := .cells #[.slice Ao40 x188000_2.length co40, .slice none 0 0] 25 (0, 0)) (by (with_reducible repeat (first | refine bn ?_ _ | refine bd ?_ | refine ba ?_ _)); exact BK187.out) hb); have n5_ := Am (below_step (by repeat (first | (with_reducible first | exact HB.out | apply bl | apply pN | apply b1 | refine bs ?_ GE187.out) | exact HB.out | exact HBo.out)) hb); clear HO_4; clear HO_188000; clear BK187; clear HB; have HO_4 := n0_; have HO_188000 := n1_; have HO203 := n2_; have HO206 := n3_; have BK187 := n4_; have HB := n5_; clear n0_ n1_ n2_ n3_ n4_ n5_; (try clear hb); (try clear hb2); (try clear hk); (try clear hi); (try clear ho0); (try clear ho1)) | ((with_reducible refine gate_dst (N := 7) rfl ?_); refine box_event ?hg (N := 7) ?hd (cs := #[.slice none 0 0, .slice none 0 0]) (t := 25) ?hr ?_; (case hd => rfl); (case hg => rfl); (case hr => first | (go_simp; done) | (go_simp; rfl)); intro gb209 hg w44 hbox hb; have n0_ := Am (Kd.R_below (by (with_reducible repeat (first | apply Kd.R_alloc | apply Kd.R_drewN | apply Kd.R_drew)); exact HO_4.out) hb); have n1_ := Am (Kd.R_below (by (with_reducible repeat (first | apply Kd.R_alloc | apply Kd.R_drewN | apply Kd.R_drew)); exact HO_188000.out) hb); have n2_ := Am (Kd.R_below (by (with_reducible repeat (first | apply Kd.R_alloc | apply Kd.R_drewN | apply Kd.R_drew)); exact HO203.out) hb); have n3_ := Am (Kd.S_below (by (with_reducible repeat (first | apply Kd.S_alloc | apply Kd.S_drewN | apply Kd.S_drew)); exact HO206.out) hb); have n4_ := Am (blk_below (g := gb187) (o := .cells #[.slice Ao40 x188000_2.length co40, .slice none 0 0] 25 (0, 0)) (by (with_reducible repeat (first | refine bn ?_ _ | refine bd ?_ | refine ba ?_ _)); exact BK187.out) hb); have n5_ := Am (below_step (by repeat (first | (with_reducible first | exact HB.out | apply bl | apply pN | apply b1 | refine bs ?_ GE187.out) | exact HB.out | exact HBo.out)) hb); have n6_ := Am (hbox); have n7_ := Am ((by rw [hg]; exact (below_size (by repeat (first | (with_reducible first | exact HB.out | apply bl | apply pN | apply b1 | refine bs ?_ GE187.out) | exact HB.out | exact HBo.out))) : w.heap.size ≤ gb209)); have n8_ := Am ((by rw [hg]; exact (below_size (by repeat (first | (with_reducible first | exact HB.out | apply bl | apply pN | apply b1 | refine bs ?_ GE187.out) | exact HB.out | exact HBo.out))) : w.heap.size ≤ gb209)); have n9_ := Am ((by rw [hg]; exact Nat.ne_of_lt (blk_lt (g := gb187) (o := .cells #[.slice Ao40 x188000_2.length co40, .slice none 0 0] 25 (0, 0)) (by (with_reducible repeat (first | refine bn ?_ _ | refine bd ?_ | refine ba ?_ _)); exact BK187.out)) : gb187 ≠ gb209)); have n10_ := Am ((by rw [hg]; exact Nat.ne_of_gt (blk_lt (g := gb187) (o := .cells #[.slice Ao40 x188000_2.length co40, .slice none 0 0] 25 (0, 0)) (by (with_reducible repeat (first | refine bn ?_ _ | refine bd ?_ | refine ba ?_ _)); exact BK187.out)) : gb209 ≠ gb187)); clear HO_4; clear HO_188000; clear HO203; clear HO206; clear BK187; clear HB; have HO_4 := n0_; have HO_188000 := n1_; have HO203 := n2_; have HO206 := n3_; have BK187 := n4_; have HB := n5_; have BK209 := n6_; have GW209 := n7_; have GE209 := n8_; have NB187_209 := n9_; have NB209_187 := n10_; clear n0_ n1_ n2_ n3_ n4_ n5_ n6_ n7_ n8_ n9_ n10_; clear hb hbox hg; obtain ⟨Ao45, co45, eo45⟩ := Kd.R_slice HO203.out; subst eo45; have hnb46 := NB209_187.out; have hnc46 := NB187_209.out; have hcz47_0 : w44.cell? ⟨gb209, 0, none⟩ = some (.slice none 0 0) := (bc BK209.out 0).trans rfl; have hcz47_1 : w44.cell? ⟨gb209, 1, none⟩ = some (.slice none 0 0) := (bc BK209.out 1).trans rfl; have hfz47_0 := bf BK209.out 0; have hfz47_1 := bf BK209.out 1; obtain ⟨Ao48, co48, eo48⟩ := Kd.S_slice HO206.out; subst eo48; have hcz49_0 : w44.cell? ⟨gb187, 0, none⟩ = some (.slice Ao40 x188000_2.length co40) := (bc BK187.out 0).trans rfl; have hcz49_1 : w44.cell? ⟨gb187, 1, none⟩ = some (.slice none 0 0) := (bc BK187.out 1).trans rfl; have hfz49_0 := bf BK187.out 0; have hfz49_1 := bf BK187.out 1) | ((with_reducible refine gate_callee (f := 11) rfl ?_); refine goesL_ (some 52) rfl rfl Try.func11 (by kernel_rfl) rfl #[.agg #[.slice Ao40 x188000_2.length co40, .slice none 0 0]] rfl (by (try simp only [List.map_toArray, List.map_cons, List.map_nil]); first | done | rfl | (simp only [List.length_drop, List.length_take]; rfl)) ?_; (refine (table_Encode.calls k2 _ _ x188000_2 _ _ ([] : List (List (S70))) t210 _ ?side1 ?side2 ?side3 ?side4 A30.out).mono ?_); (case side1 => refine (Kd.R_reads' (e := 9) (base := w.heap.size) (ok := fun k_ => (True ∧ some k_ ≠ (.slice Ao45 t201.length co45 : Value).ownBlock)) (n := x188000_2.length) (c := co40) ?_).2.2; exact (by (with_reducible repeat (first | apply Kd.R_alloc | apply Kd.R_drewN | apply Kd.R_drew)); exact (Kd.R_mono (Kd.R_far (p := ⟨gb209, 1, none⟩) (Kd.R_far (p := ⟨gb209, 0, none⟩) (Kd.R_types HO_188000.out BK209.out (by decide)) (fun _ hk => hk.2) (.slice Ao45 t201.length co45)) (fun _ hk => hk.2) (.slice Ao48 t204.length co48)) (fun _ h_ => h_.1)))); (case side2 => exact (Kd.R_reads' HO_188000.out).2.1); (case side3 => exact Kd.C_nil _ _); (case side4 => exact Nat.le_refl _); rintro e w50 ⟨rfl, hb⟩; refine ⟨_, rfl, ?_⟩; have n0_ := Am (Kd.R_below (by (with_reducible repeat (first | apply Kd.R_alloc | apply Kd.R_drewN | apply Kd.R_drew)); exact (Kd.R_mono (Kd.R_far (p := ⟨gb209, 1, none⟩) (Kd.R_far (p := ⟨gb209, 0, none⟩) (Kd.R_types HO_4.out BK209.out (by decide)) (fun _ hk => hk.2) (.slice Ao45 t201.length co45)) (fun _ hk => hk.2) (.slice Ao48 t204.length co48)) (fun _ h_ => h_.1))) hb); have n1_ := Am (Kd.R_below (by (with_reducible repeat (first | apply Kd.R_alloc | apply Kd.R_drewN | apply Kd.R_drew)); exact (Kd.R_mono (Kd.R_far (p := ⟨gb209, 1, none⟩) (Kd.R_far (p := ⟨gb209, 0, none⟩) (Kd.R_types HO_188000.out BK209.out (by decide)) (fun _ hk => hk.2) (.slice Ao45 t201.length co45)) (fun _ hk => hk.2) (.slice Ao48 t204.length co48)) (fun _ h_ => h_.1))) hb); have n2_ := Am (Kd.R_below (by (with_reducible repeat (first | apply Kd.R_alloc | apply Kd.R_drewN | apply Kd.R_drew)); exact (Kd.R_mono (Kd.R_far (p := ⟨gb209, 1, none⟩) (Kd.R_far (p := ⟨gb209, 0, none⟩) (Kd.R_types HO203.out BK209.out (by decide)) (fun _ hk => hk.2) (.slice Ao45 t201.length co45)) (fun _ hk => hk.2) (.slice Ao48 t204.length co48)) (fun _ h_ => h_.1))) hb); have n3_ := Am (Kd.S_below (by (with_reducible repeat (first | apply Kd.S_alloc | apply Kd.S_drewN | apply Kd.S_drew)); exact (Kd.S_mono (Kd.S_far (p := ⟨gb209, 1, none⟩) (Kd.S_far (p := ⟨gb209, 0, none⟩) (Kd.S_types HO206.out BK209.out (by decide)) (fun _ hk => hk.2) (.slice Ao45 t201.length co45)) (fun _ hk => hk.2) (.slice Ao48 t204.length co48)) (fun _ h_ => h_.1))) hb); have n4_ := Am (blk_below (g := gb187) (o := .cells #[.slice Ao40 x188000_2.length co40, .slice none 0 0] 25 (0, 0)) (by (with_reducible repeat (first | refine bn ?_ _ | refine bd ?_ | refine ba ?_ _)); refine blk_far ?_ NB187_209.out _; (with_reducible repeat (first | refine bn ?_ _ | refine bd ?_ | refine ba ?_ _)); refine blk_far ?_ NB187_209.out _; (with_reducible repeat (first | refine bn ?_ _ | refine bd ?_ | refine ba ?_ _)); exact BK187.out) hb); have n5_ := Am (blk_below (g := gb209) (o := .cells #[.slice Ao45 t201.length co45, .slice Ao48 t204.length co48] 25 (0, 0)) (by (with_reducible repeat (first | refine bn ?_ _ | refine bd ?_ | refine ba ?_ _)); refine blk_put (cs := #[.slice Ao45 t201.length co45, .slice none 0 0]) ?_ 1 _ rfl; (with_reducible repeat (first | refine bn ?_ _ | refine bd ?_ | refine ba ?_ _)); refine blk_put (cs := #[.slice none 0 0, .slice none 0 0]) ?_ 0 _ rfl; (with_reducible repeat (first | refine bn ?_ _ | refine bd ?_ | refine ba ?_ _)); exact BK209.out) hb); have n6_ := Am (below_step (by repeat (first | (with_reducible first | exact HB.out | apply bl | apply pN | apply b1 | refine bs ?_ GE187.out | refine bs ?_ GE209.out) | exact HB.out | exact HBo.out)) hb); clear HO_4; clear HO_188000; clear HO203; clear HO206; clear BK187; clear BK209; clear HB; have HO_4 := n0_; have HO_188000 := n1_; have HO203 := n2_; have HO206 := n3_; have BK187 := n4_; have BK209 := n5_; have HB := n6_; clear n0_ n1_ n2_ n3_ n4_ n5_ n6_; (try clear hb); (try clear hb2); (try clear hk); (try clear hi)) | ((with_reducible refine gate_callee (f := 9) rfl ?_); refine goesL_ (some 60) rfl rfl Try.func9 (by kernel_rfl) rfl #[.string ((t210.extract 0 ((ji31) : Int).toNat) ++ (⟨#[1, 1, 121, 1, 1, 122]⟩ : ByteArray))] rfl (by (try simp only [List.map_toArray, List.map_cons, List.map_nil]); first | done | (simp only [hji31]; rfl) | rfl | (simp only [List.length_drop, List.length_take]; rfl)) ?_; (with_reducible refine (table_Decode.calls k2 ((t210.extract 0 ((ji31) : Int).toNat) ++ (⟨#[1, 1, 121, 1, 1, 122]⟩ : ByteArray)) t211 t214 t217 t218 _ A35.out).mono ?_); rintro e w51 ⟨v212, v215, rfl, ho0, ho1, hb⟩; refine ⟨_, rfl, ?_⟩; have n0_ := Am (Kd.R_below (by (with_reducible repeat (first | apply Kd.R_alloc | apply Kd.R_drewN | apply Kd.R_drew)); exact HO_4.out) hb); have n1_ := Am (Kd.R_elder' (by (with_reducible repeat (first | apply Kd.R_alloc | apply Kd.R_drewN | apply Kd.R_drew)); exact HO_188000.out) (Kd.R_base ho0) hb); have n2_ := Am (Kd.R_elder' (by (with_reducible repeat (first | apply Kd.R_alloc | apply Kd.R_drewN | apply Kd.R_drew)); exact HO203.out) (Kd.R_base ho0) hb); have n3_ := Am (Kd.S_elder' (by (with_reducible repeat (first | apply Kd.S_alloc | apply Kd.S_drewN | apply Kd.S_drew)); exact HO206.out) (Kd.S_base ho1) hb); have n4_ := Am (Kd.R_lower (Kd.R_new' (Kd.R_new' ho0 (Kd.R_lt (by (with_reducible repeat (first | apply Kd.R_alloc | apply Kd.R_drewN | apply Kd.R_drew)); exact HO_188000.out))) (Kd.R_lt (by (with_reducible repeat (first | apply Kd.R_alloc | apply Kd.R_drewN | apply Kd.R_drew)); exact HO203.out))) (below_size (by repeat (first | (with_reducible first | exact HB.out | apply bl | apply pN | apply b1 | refine bs ?_ GE187.out | refine bs ?_ GE209.out) | exact HB.out | exact HBo.out)))); have n5_ := Am (Kd.S_lower (Kd.S_new' ho1 (Kd.S_lt (by (with_reducible repeat (first | apply Kd.S_alloc | apply Kd.S_drewN | apply Kd.S_drew)); exact HO206.out))) (below_size (by repeat (first | (with_reducible first | exact HB.out | apply bl | apply pN | apply b1 | refine bs ?_ GE187.out | refine bs ?_ GE209.out) | exact HB.out | exact HBo.out)))); have n6_ := Am (blk_below (g := gb187) (o := .cells #[.slice Ao40 x188000_2.length co40, .slice none 0 0] 25 (0, 0)) (by (with_reducible repeat (first | refine bn ?_ _ | refine bd ?_ | refine ba ?_ _)); exact BK187.out) hb); have n7_ := Am (blk_below (g := gb209) (o := .cells #[.slice Ao45 t201.length co45, .slice Ao48 t204.length co48] 25 (0, 0)) (by (with_reducible repeat (first | refine bn ?_ _ | refine bd ?_ | refine ba ?_ _)); exact BK209.out) hb); have n8_ := Am (below_step (by repeat (first | (with_reducible first | exact HB.out | apply bl | apply pN | apply b1 | refine bs ?_ GE187.out | refine bs ?_ GE209.out) | exact HB.out | exact HBo.out)) hb); clear HO_4; clear HO_188000; clear HO203; clear HO206; clear BK187; clear BK209; clear HB; have HO_4 := n0_; have HO_188000 := n1_; have HO203 := n2_; have HO206 := n3_; have HO213 := n4_; have HO216 := n5_; have BK187 := n6_; have BK209 := n7_; have HB := n8_; clear n0_ n1_ n2_ n3_ n4_ n5_ n6_ n7_ n8_; (try clear hb); (try clear hb2); (try clear hk); (try clear hi); (try clear ho0); (try clear ho1)) | ((with_reducible refine gate_dst (N := 10) rfl ?_); refine box_event ?hg (N := 10) ?hd (cs := #[.slice none 0 0, .slice none 0 0]) (t := 25) ?hr ?_; (case hd => rfl); (case hg => rfl); (case hr => first | (go_simp; done) | (go_simp; rfl)); intro gb219 hg w52 hbox hb; have n0_ := Am (Kd.R_below (by (with_reducible repeat (first | apply Kd.R_alloc | apply Kd.R_drewN | apply Kd.R_drew)); exact HO_4.out) hb); have n1_ := Am (Kd.R_below (by (with_reducible repeat (first | apply Kd.R_alloc | apply Kd.R_drewN | apply Kd.R_drew)); exact HO_188000.out) hb); have n2_ := Am (Kd.R_below (by (with_reducible repeat (first | apply Kd.R_alloc | apply Kd.R_drewN | apply Kd.R_drew)); exact HO203.out) hb); have n3_ := Am (Kd.S_below (by (with_reducible repeat (first | apply Kd.S_alloc | apply Kd.S_drewN | apply Kd.S_drew)); exact HO206.out) hb); have n4_ := Am (Kd.R_below (by (with_reducible repeat (first | apply Kd.R_alloc | apply Kd.R_drewN | apply Kd.R_drew)); exact HO213.out) hb); have n5_ := Am (Kd.S_below (by (with_reducible repeat (first | apply Kd.S_alloc | apply Kd.S_drewN | apply Kd.S_drew)); exact HO216.out) hb); have n6_ := Am (blk_below (g := gb187) (o := .cells #[.slice Ao40 x188000_2.length co40, .slice none 0 0] 25 (0, 0)) (by (with_reducible repeat (first | refine bn ?_ _ | refine bd ?_ | refine ba ?_ _)); exact BK187.out) hb); have n7_ := Am (blk_below (g := gb209) (o := .cells #[.slice Ao45 t201.length co45, .slice Ao48 t204.length co48] 25 (0, 0)) (by (with_reducible repeat (first | refine bn ?_ _ | refine bd ?_ | refine ba ?_ _)); exact BK209.out) hb); have n8_ := Am (below_step (by repeat (first | (with_reducible first | exact HB.out | apply bl | apply pN | apply b1 | refine bs ?_ GE187.out | refine bs ?_ GE209.out) | exact HB.out | exact HBo.out)) hb); have n9_ := Am (hbox); have n10_ := Am ((by rw [hg]; exact (below_size (by repeat (first | (with_reducible first | exact HB.out | apply bl | apply pN | apply b1 | refine bs ?_ GE187.out | refine bs ?_ GE209.out) | exact HB.out | exact HBo.out))) : w.heap.size ≤ gb219)); have n11_ := Am ((by rw [hg]; exact (below_size (by repeat (first | (with_reducible first | exact HB.out | apply bl | apply pN | apply b1 | refine bs ?_ GE187.out | refine bs ?_ GE209.out) | exact HB.out | exact HBo.out))) : w.heap.size ≤ gb219)); have n12_ := Am ((by rw [hg]; exact Nat.ne_of_lt (blk_lt (g := gb187) (o := .cells #[.slice Ao40 x188000_2.length co40, .slice none 0 0] 25 (0, 0)) (by (with_reducible repeat (first | refine bn ?_ _ | refine bd ?_ | refine ba ?_ _)); exact BK187.out)) : gb187 ≠ gb219)); have n13_ := Am ((by rw [hg]; exact Nat.ne_of_gt (blk_lt (g := gb187) (o := .cells #[.slice Ao40 x188000_2.length co40, .slice none 0 0] 25 (0, 0)) (by (with_reducible repeat (first | refine bn ?_ _ | refine bd ?_ | refine ba ?_ _)); exact BK187.out)) : gb219 ≠ gb187)); have n14_ := Am ((by rw [hg]; exact Nat.ne_of_lt (blk_lt (g := gb209) (o := .cells #[.slice Ao45 t201.length co45, .slice Ao48 t204.length co48] 25 (0, 0)) (by (with_reducible repeat (first | refine bn ?_ _ | refine bd ?_ | refine ba ?_ _)); exact BK209.out)) : gb209 ≠ gb219)); have n15_ := Am ((by rw [hg]; exact Nat.ne_of_gt (blk_lt (g := gb209) (o := .cells #[.slice Ao45 t201.length co45, .slice Ao48 t204.length co48] 25 (0, 0)) (by (with_reducible repeat (first | refine bn ?_ _ | refine bd ?_ | refine ba ?_ _)); exact BK209.out)) : gb219 ≠ gb209)); clear HO_4; clear HO_188000; clear HO203; clear HO206; clear HO213; clear HO216; clear BK187; clear BK209; clear HB; have HO_4 := n0_; have HO_188000 := n1_; have HO203 := n2_; have HO206 := n3_; have HO213 := n4_; have HO216 := n5_; have BK187 := n6_; have BK209 := n7_; have HB := n8_; have BK219 := n9_; have GW219 := n10_; have GE219 := n11_; have NB187_219 := n12_; have NB219_187 := n13_; have NB209_219 := n14_; have NB219_209 := n15_; clear n0_ n1_ n2_ n3_ n4_ n5_ n6_ n7_ n8_ n9_ n10_ n11_ n12_ n13_ n14_ n15_; clear hb hbox hg; obtain ⟨Ao53, co53, eo53⟩ := Kd.R_slice HO213.out; subst eo53; have hnb54 := NB219_187.out; have hnc54 := NB187_219.out; have hnb55 := NB219_209.out; have hnc55 := NB209_219.out; have hcz56_0 : w52.cell? ⟨gb219, 0, none⟩ = some (.slice none 0 0) := (bc BK219.out 0).trans rfl; have hcz56_1 : w52.cell? ⟨gb219, 1, none⟩ = some (.slice none 0 0) := (bc BK219.out 1).trans rfl; have hfz56_0 := bf BK219.out 0; have hfz56_1 := bf BK219.out 1; obtain ⟨Ao57, co57, eo57⟩ := Kd.S_slice HO216.out; subst eo57; have hcz58_0 : w52.cell? ⟨gb209, 0, none⟩ = some (.slice Ao45 t201.length co45) := (bc BK209.out 0).trans rfl; have hcz58_1 : w52.cell? ⟨gb209, 1, none⟩ = some (.slice Ao48 t204.length co48) := (bc BK209.out 1).trans rfl; have hfz58_0 := bf BK209.out 0; have hfz58_1 := bf BK209.out 1; have hcz59_0 : w52.cell? ⟨gb187, 0, none⟩ = some (.slice Ao40 x188000_2.length co40) := (bc BK187.out 0).trans rfl; have hcz59_1 : w52.cell? ⟨gb187, 1, none⟩ = some (.slice none 0 0) := (bc BK187.out 1).trans rfl; have hfz59_0 := bf BK187.out 0; have hfz59_1 := bf BK187.out 1) | (go_at_call 15; (refine (shuttlecockref06_Same.calls k2 _ _ t201 _ _ t204 _ _ x188000_2 _ _ ([] : List (List (S70))) true _ ?side1 ?side2 ?side3 ?side4 ?side5 ?side6 ?side7 ?side8 A37.out).mono ?_); (case side1 => refine (Kd.R_reads' (e := 9) (base := w.heap.size) (ok := fun k_ => ((True ∧ some k_ ≠ (.slice Ao40 x188000_2.length co40 : Value).ownBlock) ∧ some k_ ≠ (.slice Ao53 t211.length co53 : Value).ownBlock)) (n := t201.length) (c := co45) ?_).2.2; exact (by (with_reducible repeat (first | apply Kd.R_alloc | apply Kd.R_drewN | apply Kd.R_drew)); exact (Kd.R_mono (Kd.R_far (p := ⟨gb219, 1, none⟩) (Kd.R_far (p := ⟨gb219, 0, none⟩) (Kd.R_types HO203.out BK219.out (by decide)) (fun _ hk => hk.2) (.slice Ao53 t211.length co53)) (fun _ hk => hk.2) (.slice Ao57 t214.length co57)) (fun _ h_ => h_.1)))); (case side2 => exact (Kd.R_reads' HO203.out).2.1); (case side3 => refine (Kd.S_reads' (e := 42) (base := w.heap.size) (ok := fun k_ => (True ∧ some k_ ≠ (.slice Ao57 t214.length co57 : Value).ownBlock)) (n := t204.length) (c := co48) ?_).2.2; exact (by (with_reducible repeat (first | apply Kd.S_alloc | apply Kd.S_drewN | apply Kd.S_drew)); exact (Kd.S_mono (Kd.S_far (p := ⟨gb219, 1, none⟩) (Kd.S_far (p := ⟨gb219, 0, none⟩) (Kd.S_types HO206.out BK219.out (by decide)) (fun _ hk => hk.2) (.slice Ao53 t211.length co53)) (fun _ hk => hk.2) (.slice Ao57 t214.length co57)) (fun _ h_ => h_.1)))); (case side4 => exact (Kd.S_reads' HO206.out).2.1); (case side5 => refine (Kd.R_reads' (e := 9) (base := w.heap.size) (ok := fun k_ => ((True ∧ some k_ ≠ (.slice Ao45 t201.length co45 : Value).ownBlock) ∧ some k_ ≠ (.slice Ao53 t211.length co53 : Value).ownBlock)) (n := x188000_2.length) (c := co40) ?_).2.2; exact (by (with_reducible repeat (first | apply Kd.R_alloc | apply Kd.R_drewN | apply Kd.R_drew)); exact (Kd.R_mono (Kd.R_far (p := ⟨gb219, 1, none⟩) (Kd.R_far (p := ⟨gb219, 0, none⟩) (Kd.R_types HO_188000.out BK219.out (by decide)) (fun _ hk => hk.2) (.slice Ao53 t211.length co53)) (fun _ hk => hk.2) (.slice Ao57 t214.length co57)) (fun _ h_ => h_.1)))); (case side6 => exact (Kd.R_reads' HO_188000.out).2.1); (case side7 => exact Kd.C_nil _ _); (case side8 => exact Nat.le_refl _); rintro e w60 ⟨rfl, hb⟩; have n0_ := Am (Kd.R_below (by (with_reducible repeat (first | apply Kd.R_alloc | apply Kd.R_drewN | apply Kd.R_drew)); exact (Kd.R_mono (Kd.R_far (p := ⟨gb219, 1, none⟩) (Kd.R_far (p := ⟨gb219, 0, none⟩) (Kd.R_types HO_4.out BK219.out (by decide)) (fun _ hk => hk.2) (.slice Ao53 t211.length co53)) (fun _ hk => hk.2) (.slice Ao57 t214.length co57)) (fun _ h_ => h_.1))) hb); have n1_ := Am (Kd.R_below (by (with_reducible repeat (first | apply Kd.R_alloc | apply Kd.R_drewN | apply Kd.R_drew)); exact (Kd.R_mono (Kd.R_far (p := ⟨gb219, 1, none⟩) (Kd.R_far (p := ⟨gb219, 0, none⟩) (Kd.R_types HO_188000.out BK219.out (by decide)) (fun _ hk => hk.2) (.slice Ao53 t211.length co53)) (fun _ hk => hk.2) (.slice Ao57 t214.length co57)) (fun _ h_ => h_.1))) hb); have n2_ := Am (Kd.R_below (by (with_reducible repeat (first | apply Kd.R_alloc | apply Kd.R_drewN | apply Kd.R_drew)); exact (Kd.R_mono (Kd.R_far (p := ⟨gb219, 1, none⟩) (Kd.R_far (p := ⟨gb219, 0, none⟩) (Kd.R_types HO203.out BK219.out (by decide)) (fun _ hk => hk.2) (.slice Ao53 t211.length co53)) (fun _ hk => hk.2) (.slice Ao57 t214.length co57)) (fun _ h_ => h_.1))) hb); have n3_ := Am (Kd.S_below (by (with_reducible repeat (first | apply Kd.S_alloc | apply Kd.S_drewN | apply Kd.S_drew)); exact (Kd.S_mono (Kd.S_far (p := ⟨gb219, 1, none⟩) (Kd.S_far (p := ⟨gb219, 0, none⟩) (Kd.S_types HO206.out BK219.out (by decide)) (fun _ hk => hk.2) (.slice Ao53 t211.length co53)) (fun _ hk => hk.2) (.slice Ao57 t214.length co57)) (fun _ h_ => h_.1))) hb); have n4_ := Am (Kd.R_below (by (with_reducible repeat (first | apply Kd.R_alloc | apply Kd.R_drewN | apply Kd.R_drew)); exact (Kd.R_mono (Kd.R_far (p := ⟨gb219, 1, none⟩) (Kd.R_far (p := ⟨gb219, 0, none⟩) (Kd.R_types HO213.out BK219.out (by decide)) (fun _ hk => hk.2) (.slice Ao53 t211.length co53)) (fun _ hk => hk.2) (.slice Ao57 t214.length co57)) (fun _ h_ => h_.1))) hb); have n5_ := Am (Kd.S_below (by (with_reducible repeat (first | apply Kd.S_alloc | apply Kd.S_drewN | apply Kd.S_drew)); exact (Kd.S_mono (Kd.S_far (p := ⟨gb219, 1, none⟩) (Kd.S_far (p := ⟨gb219, 0, none⟩) (Kd.S_types HO216.out BK219.out (by decide)) (fun _ hk => hk.2) (.slice Ao53 t211.length co53)) (fun _ hk => hk.2) (.slice Ao57 t214.length co57)) (fun _ h_ => h_.1))) hb); have n6_ := Am (blk_below (g := gb187) (o := .cells #[.slice Ao40 x188000_2.length co40, .slice none 0 0] 25 (0, 0)) (by (with_reducible repeat (first | refine bn ?_ _ | refine bd ?_ | refine ba ?_ _)); refine blk_far ?_ NB187_219.out _; (with_reducible repeat (first | refine bn ?_ _ | refine bd ?_ | refine ba ?_ _)); refine blk_far ?_ NB187_219.out _; (with_reducible repeat (first | refine bn ?_ _ | refine bd ?_ | refine ba ?_ _)); exact BK187.out) hb); have n7_ := Am (blk_below (g := gb209) (o := .cells #[.slice Ao45 t201.length co45, .slice Ao48 t204.length co48] 25 (0, 0)) (by (with_reducible repeat (first | refine bn ?_ _ | refine bd ?_ | refine ba ?_ _)); refine blk_far ?_ NB209_219.out _; (with_reducible repeat (first | refine bn ?_ _ | refine bd ?_ | refine ba ?_ _)); refine blk_far ?_ NB209_219.out _; (with_reducible repeat (first | refine bn ?_ _ | refine bd ?_ | refine ba ?_ _)); exact BK209.out) hb); have n8_ := Am (blk_below (g := gb219) (o := .cells #[.slice Ao53 t211.length co53, .slice Ao57 t214.length co57] 25 (0, 0)) (by (with_reducible repeat (first | refine bn ?_ _ | refine bd ?_ | refine ba ?_ _)); refine blk_put (cs := #[.slice Ao53 t211.length co53, .slice none 0 0]) ?_ 1 _ rfl; (with_reducible repeat (first | refine bn ?_ _ | refine bd ?_ | refine ba ?_ _)); refine blk_put (cs := #[.slice none 0 0, .slice none 0 0]) ?_ 0 _ rfl; (with_reducible repeat (first | refine bn ?_ _ | refine bd ?_ | refine ba ?_ _)); exact BK219.out) hb); have n9_ := Am (below_step (by repeat (first | (with_reducible first | exact HB.out | apply bl | apply pN | apply b1 | refine bs ?_ GE187.out | refine bs ?_ GE209.out | refine bs ?_ GE219.out) | exact HB.out | exact HBo.out)) hb); clear HO_4; clear HO_188000; clear HO203; clear HO206; clear HO213; clear HO216; clear BK187; clear BK209; clear BK219; clear HB; have HO_4 := n0_; have HO_188000 := n1_; have HO203 := n2_; have HO206 := n3_; have HO213 := n4_; have HO216 := n5_; have BK187 := n6_; have BK209 := n7_; have BK219 := n8_; have HB := n9_; clear n0_ n1_ n2_ n3_ n4_ n5_ n6_ n7_ n8_ n9_; (try clear hb); (try clear hb2); (try clear hk); (try clear hi)))
            go_ret
            exact ⟨by first | rfl | (simp [errW_none, errW_some] <;> rfl) | (simp only [← hji31]; first | rfl | (simp [errW_none, errW_some] <;> rfl)) | (simp [*, errW_none, errW_some] <;> rfl) | (simp [Aid.ne_nil, Aid.eq_nil, errW_none, errW_some]; done), by repeat (first | (with_reducible first | exact HB.out | apply bl | apply pN | apply b1 | refine bs ?_ GE187.out | refine bs ?_ GE209.out | refine bs ?_ GE219.out) | exact HB.out | exact HBo.out)⟩
           ·
            replace c38 := Bool.eq_false_iff.mpr c38
            subst c38
            have H1 : (none) = some r := by rw [if_neg (show ¬ (false = true) by decide)] at H; exact H
            clear H
            have H := H1
            clear H1
            exact absurd H (by simp)
          ·
           rw [if_neg c36] at H
           exact absurd H (by simp)
         ·
          rw [if_neg c34] at H
          exact absurd H (by simp)
        ·
         rw [if_neg c33] at H
         exact absurd H (by simp)
       ·
        rw [if_neg c32] at H
        exact absurd H (by simp)

/-- THE ONE PURE STATEMENT of shuttlecocklaw07_TableMany: yours. -/
def shuttlecocklaw07_TableMany.Pure : Prop := ∀ (a0 : Int), (Lit.int .i64 a0).wf = true → ∃ k, shuttlecocklaw07_TableMany.f k a0 = some true
theorem shuttlecocklaw07_TableMany.walk (P : shuttlecocklaw07_TableMany.Pure) (a0 : Int) (w : World) (w0 : (Lit.int .i64 a0).wf = true) :
  Calls Try.prog 6 #[.int .i64 a0] w fun e w' => e = .returned (.bool true) ∧ Below w.heap.size w w' := by
 obtain ⟨k, h⟩ := P a0 w0
 refine (shuttlecocklaw07_TableMany.calls k a0 true w h).mono ?_
 rintro e w' ⟨rfl, hd⟩
 exact ⟨rfl, hd⟩

end Go.Proofs.Ytlmmlmmbnfcogaa.Q
