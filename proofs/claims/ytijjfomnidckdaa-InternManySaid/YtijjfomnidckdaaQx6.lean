-- printed by a program of this session (NOTES: hprint); not the kit's print
-- minified
-- halved
import Derived.Test.YtijjfomnidckdaaAl
import Derived.Test.YtijjfomnidckdaaQx0
import Derived.Test.YtijjfomnidckdaaQx2
import Derived.Test.YtijjfomnidckdaaQx3
import Derived.Test.YtijjfomnidckdaaQx5
namespace Go.Proofs.Ytijjfomnidckdaa.Q
open Go.RowKit Go.Proofs.YtijjfomnidckdaaW.PrintWords Go.Proofs.YtijjfomnidckdaaW.PrintLast Go.Proofs.YtijjfomnidckdaaW.PrintMore
attribute [local go_sem] max2_int min2_int max_two min_two max_three min_three max_four min_four   -- for this text's walks alone
set_option linter.unusedVariables false
set_option linter.unusedSimpArgs false

/-! ### shuttlecocklaw06_InternMany: function 6 -/
mutual
def shuttlecocklaw06_InternMany.j0 : Nat → Int → Bool → Option (Bool)
 | 0, _, _ => none
 | k + 1, x0, x18 => if x18 = true then ((shuttlecocklaw06_fixed.f k).bind fun t188 => (some t188)) else (shuttlecocklaw06_InternMany.l0 k x0 0 ([] : List ByteArray) ([] : List (List (S50))))
def shuttlecocklaw06_InternMany.l0 : Nat → Int → Int → List ByteArray → List (List (S50)) → Option (Bool)
 | 0, _, _, _, _ => none
 | k + 1, x0, x4, x190000, x190001 => if x4 < 2 then (shuttlecocklaw06_InternMany.l1 k x0 x4 (⟨#[120]⟩ : ByteArray) 1 x190000 x190001) else (if (x190000.length : Int) = x0 then ((intern_May.f k x190000 x190001).bind fun t190 => (some t190)) else (none))
def shuttlecocklaw06_InternMany.l1 : Nat → Int → Int → ByteArray → Int → List ByteArray → List (List (S50)) → Option (Bool)
 | 0, _, _, _, _, _, _ => none
 | k + 1, x0, x4, x5, x6, x190000, x190001 => if x6 ≤ x0 then ((intern_String.f k x190000 x190001 x5).bind fun bt191 => (if bt191.2.2 = x6 then (if x5.size + 1 ≤ 9223372036854775807 then (shuttlecocklaw06_InternMany.l1 k x0 x4 (x5 ++ (⟨#[120]⟩ : ByteArray)) (wrap64 (x6 + 1)) bt191.1 bt191.2.1) else (none)) else (none))) else (shuttlecocklaw06_InternMany.l0 k x0 (wrap64 (x4 + 1)) x190000 x190001)
end
def shuttlecocklaw06_InternMany.f (k : Nat) (a0 : Int) : Option (Bool) := (shuttlecocklaw06_fixed.f k).bind fun t187 => (if t187 = true then (if a0 < 0 then (shuttlecocklaw06_InternMany.j0 k a0 true) else (shuttlecocklaw06_InternMany.j0 k a0 (decide (a0 > 40)))) else (shuttlecocklaw06_InternMany.j0 k a0 true))
theorem shuttlecocklaw06_InternMany.mono_l : ∀ k, (∀ y0 y1, LeO (shuttlecocklaw06_InternMany.j0 k y0 y1) (shuttlecocklaw06_InternMany.j0 (k + 1) y0 y1)) ∧ (∀ y0 y1 y2 y3, LeO (shuttlecocklaw06_InternMany.l0 k y0 y1 y2 y3) (shuttlecocklaw06_InternMany.l0 (k + 1) y0 y1 y2 y3)) ∧ (∀ y0 y1 y2 y3 y4 y5, LeO (shuttlecocklaw06_InternMany.l1 k y0 y1 y2 y3 y4 y5) (shuttlecocklaw06_InternMany.l1 (k + 1) y0 y1 y2 y3 y4 y5))
 | 0 => ⟨fun _ _ r h => by simp [shuttlecocklaw06_InternMany.j0] at h, fun _ _ _ _ r h => by simp [shuttlecocklaw06_InternMany.l0] at h, fun _ _ _ _ _ _ r h => by simp [shuttlecocklaw06_InternMany.l1] at h⟩
 | k + 1 => by
  obtain ⟨ih0, ih1, ih2⟩ := shuttlecocklaw06_InternMany.mono_l k
  refine ⟨?_, ?_, ?_⟩
  ·
   intro y0 y1
   unfold shuttlecocklaw06_InternMany.j0
   repeat' first
   | (with_reducible exact ih0 _ _)
   | (with_reducible exact ih1 _ _ _ _)
   | (with_reducible exact ih2 _ _ _ _ _ _)
   | (with_reducible exact intern_May.mono _ _ _)
   | (with_reducible exact intern_String.mono _ _ _ _)
   | (with_reducible exact shuttlecocklaw06_fixed.mono _)
   | (with_reducible exact LeO.refl _)
   | (with_reducible exact LeO.none _)
   | (with_reducible refine LeO.ite ?_ ?_)
   | (with_reducible refine LeO.bind ?_ (fun _ => ?_))
   | exact ih0 _ _
   | exact ih1 _ _ _ _
   | exact ih2 _ _ _ _ _ _
   | exact intern_May.mono _ _ _
   | exact intern_String.mono _ _ _ _
   | exact shuttlecocklaw06_fixed.mono _
   | exact LeO.none _
   | refine LeO.ite ?_ ?_
   | refine LeO.bind ?_ (fun _ => ?_)
  ·
   intro y0 y1 y2 y3
   unfold shuttlecocklaw06_InternMany.l0
   repeat' first
   | (with_reducible exact ih0 _ _)
   | (with_reducible exact ih1 _ _ _ _)
   | (with_reducible exact ih2 _ _ _ _ _ _)
   | (with_reducible exact intern_May.mono _ _ _)
   | (with_reducible exact intern_String.mono _ _ _ _)
   | (with_reducible exact shuttlecocklaw06_fixed.mono _)
   | (with_reducible exact LeO.refl _)
   | (with_reducible exact LeO.none _)
   | (with_reducible refine LeO.ite ?_ ?_)
   | (with_reducible refine LeO.bind ?_ (fun _ => ?_))
   | exact ih0 _ _
   | exact ih1 _ _ _ _
   | exact ih2 _ _ _ _ _ _
   | exact intern_May.mono _ _ _
   | exact intern_String.mono _ _ _ _
   | exact shuttlecocklaw06_fixed.mono _
   | exact LeO.none _
   | refine LeO.ite ?_ ?_
   | refine LeO.bind ?_ (fun _ => ?_)
  ·
   intro y0 y1 y2 y3 y4 y5
   unfold shuttlecocklaw06_InternMany.l1
   repeat' first
   | (with_reducible exact ih0 _ _)
   | (with_reducible exact ih1 _ _ _ _)
   | (with_reducible exact ih2 _ _ _ _ _ _)
   | (with_reducible exact intern_May.mono _ _ _)
   | (with_reducible exact intern_String.mono _ _ _ _)
   | (with_reducible exact shuttlecocklaw06_fixed.mono _)
   | (with_reducible exact LeO.refl _)
   | (with_reducible exact LeO.none _)
   | (with_reducible refine LeO.ite ?_ ?_)
   | (with_reducible refine LeO.bind ?_ (fun _ => ?_))
   | exact ih0 _ _
   | exact ih1 _ _ _ _
   | exact ih2 _ _ _ _ _ _
   | exact intern_May.mono _ _ _
   | exact intern_String.mono _ _ _ _
   | exact shuttlecocklaw06_fixed.mono _
   | exact LeO.none _
   | refine LeO.ite ?_ ?_
   | refine LeO.bind ?_ (fun _ => ?_)
theorem shuttlecocklaw06_InternMany.mono : ∀ a0 k, LeO (shuttlecocklaw06_InternMany.f k a0) (shuttlecocklaw06_InternMany.f (k + 1) a0) := by
 intro a0 k
 obtain ⟨ih0, ih1, ih2⟩ := shuttlecocklaw06_InternMany.mono_l k
 unfold shuttlecocklaw06_InternMany.f
 repeat' first
   | (with_reducible exact ih0 _ _)
   | (with_reducible exact ih1 _ _ _ _)
   | (with_reducible exact ih2 _ _ _ _ _ _)
   | (with_reducible exact intern_May.mono _ _ _)
   | (with_reducible exact intern_String.mono _ _ _ _)
   | (with_reducible exact shuttlecocklaw06_fixed.mono _)
   | (with_reducible exact LeO.refl _)
   | (with_reducible exact LeO.none _)
   | (with_reducible refine LeO.ite ?_ ?_)
   | (with_reducible refine LeO.bind ?_ (fun _ => ?_))
   | exact ih0 _ _
   | exact ih1 _ _ _ _
   | exact ih2 _ _ _ _ _ _
   | exact intern_May.mono _ _ _
   | exact intern_String.mono _ _ _ _
   | exact shuttlecocklaw06_fixed.mono _
   | exact LeO.none _
   | refine LeO.ite ?_ ?_
   | refine LeO.bind ?_ (fun _ => ?_)
set_option maxHeartbeats 8000000 in
set_option maxRecDepth 100000 in
theorem shuttlecocklaw06_InternMany.calls (k : Nat) (a0 : Int) (r : Bool) (w : World) (h : shuttlecocklaw06_InternMany.f k a0 = some r) :
  Calls Try.prog 6 #[.int .i64 a0] w fun e w' => e = .returned (.bool r) ∧ Below w.heap.size w w' := by
 have hu25 := Try.underlying25
 have HB := Am (Below.refl w.heap.size w)
 have H : ((shuttlecocklaw06_fixed.f k).bind fun t187 => (if t187 = true then (if a0 < 0 then (shuttlecocklaw06_InternMany.j0 k a0 true) else (shuttlecocklaw06_InternMany.j0 k a0 (decide (a0 > 40)))) else (shuttlecocklaw06_InternMany.j0 k a0 true))) = some r := h
 clear h
 have HC2 := Am H
 clear H
 go_enter Try.func6, Try.ntmps6
 go_upto_region 1 with (fail)
 go_cut [18] (fun v18 wc => ∃ (kq : Nat) (x18_1 : Bool), v18 = .bool x18_1 ∧ Aside0 (shuttlecocklaw06_InternMany.j0 kq a0 x18_1 = some r) ∧ Aside0 (kq ≤ k) ∧ Aside0 (Below w.heap.size w wc))
 case first =>
  have H := HC2.out
  clear HC2
  replace H := ob H
  obtain ⟨t187, A30, H⟩ := H
  replace H : (if t187 = true then (if a0 < 0 then (shuttlecocklaw06_InternMany.j0 k a0 true) else (shuttlecocklaw06_InternMany.j0 k a0 (decide (a0 > 40)))) else (shuttlecocklaw06_InternMany.j0 k a0 true)) = some r := H
  have A3 := Am A30
  clear A30
  by_cases c4 : t187 = true
  ·
   subst c4
   have H1 : (if a0 < 0 then (shuttlecocklaw06_InternMany.j0 k a0 true) else (shuttlecocklaw06_InternMany.j0 k a0 (decide (a0 > 40)))) = some r := by rw [if_pos rfl] at H; exact H
   clear H
   have H := H1
   clear H1
   by_cases c5 : a0 < 0
   ·
    rw [if_pos c5] at H
    have c5b0 : decide (a0 < 0) = true := decide_eq_true c5
    clear c5
    (first | rw [c5b0] | (simp only [i64_w, i32_w]; rw [c5b0]) | skip)
    have H' := Am H
    clear H
    go_wp2_with (first | ((with_reducible refine gate_callee (f := 10) rfl ?_); refine goesL_ (some 9) rfl rfl Try.func10 (by kernel_rfl) rfl #[] rfl (by (try simp only [List.map_toArray, List.map_cons, List.map_nil]); first | done | rfl | (simp only [List.length_drop, List.length_take]; rfl)) ?_; (with_reducible refine (shuttlecocklaw06_fixed.calls k  true _ A3.out).mono ?_); rintro e w6 ⟨rfl, hb⟩; refine ⟨_, rfl, ?_⟩; have n0_ := Am (below_step (by repeat (first | (with_reducible first | exact HB.out | apply bl | apply pN | apply b1) | exact HB.out | exact HBo.out)) hb); clear HB; have HB := n0_; clear n0_; (try clear hb); (try clear hb2); (try clear hk); (try clear hi)))
    go_meet
    case rel => exact ⟨_, (true), (by first | rfl | (simp; done) | (simp [*]; done)), H', ⟨by first | omega | exact Nat.le_refl _⟩, ⟨by repeat (first | (with_reducible first | exact HB.out | apply bl | apply pN | apply b1) | exact HB.out | exact HBo.out)⟩⟩
   ·
    rw [if_neg c5] at H
    have c5b0 : decide (a0 < 0) = false := decide_eq_false c5
    clear c5
    (first | rw [c5b0] | (simp only [i64_w, i32_w]; rw [c5b0]) | skip)
    have H' := Am H
    clear H
    go_wp2_with (first | ((with_reducible refine gate_callee (f := 10) rfl ?_); refine goesL_ (some 9) rfl rfl Try.func10 (by kernel_rfl) rfl #[] rfl (by (try simp only [List.map_toArray, List.map_cons, List.map_nil]); first | done | rfl | (simp only [List.length_drop, List.length_take]; rfl)) ?_; (with_reducible refine (shuttlecocklaw06_fixed.calls k  true _ A3.out).mono ?_); rintro e w7 ⟨rfl, hb⟩; refine ⟨_, rfl, ?_⟩; have n0_ := Am (below_step (by repeat (first | (with_reducible first | exact HB.out | apply bl | apply pN | apply b1) | exact HB.out | exact HBo.out)) hb); clear HB; have HB := n0_; clear n0_; (try clear hb); (try clear hb2); (try clear hk); (try clear hi)))
    go_meet
    case rel => exact ⟨_, (decide (a0 > 40)), (by first | rfl | (simp; done) | (simp [*]; done)), H', ⟨by first | omega | exact Nat.le_refl _⟩, ⟨by repeat (first | (with_reducible first | exact HB.out | apply bl | apply pN | apply b1) | exact HB.out | exact HBo.out)⟩⟩
  ·
   replace c4 := Bool.eq_false_iff.mpr c4
   subst c4
   have H1 : (shuttlecocklaw06_InternMany.j0 k a0 true) = some r := by rw [if_neg (show ¬ (false = true) by decide)] at H; exact H
   clear H
   have H := H1
   clear H1
   have H' := Am H
   clear H
   go_wp2_with (first | ((with_reducible refine gate_callee (f := 10) rfl ?_); refine goesL_ (some 9) rfl rfl Try.func10 (by kernel_rfl) rfl #[] rfl (by (try simp only [List.map_toArray, List.map_cons, List.map_nil]); first | done | rfl | (simp only [List.length_drop, List.length_take]; rfl)) ?_; (with_reducible refine (shuttlecocklaw06_fixed.calls k  false _ A3.out).mono ?_); rintro e w8 ⟨rfl, hb⟩; refine ⟨_, rfl, ?_⟩; have n0_ := Am (below_step (by repeat (first | (with_reducible first | exact HB.out | apply bl | apply pN | apply b1) | exact HB.out | exact HBo.out)) hb); clear HB; have HB := n0_; clear n0_; (try clear hb); (try clear hb2); (try clear hk); (try clear hi)))
   go_meet
   case rel => exact ⟨_, (true), (by first | rfl | (simp; done) | (simp [*]; done)), H', ⟨by first | omega | exact Nat.le_refl _⟩, ⟨by repeat (first | (with_reducible first | exact HB.out | apply bl | apply pN | apply b1) | exact HB.out | exact HBo.out)⟩⟩
 case rest =>
  clear HC2
  try clear c1
  try clear p2
  try clear c4
  try clear c5
  try clear c5b0
  try clear c6
  obtain ⟨kq, x18_1, rfl, HA, HJ1, HB⟩ := hcut
  cases kq with
  | zero => exact absurd HA.out (by simp [shuttlecocklaw06_InternMany.j0])
  | succ kj1 =>
   have H := HA.out
   clear HA
   simp only [shuttlecocklaw06_InternMany.j0] at H
   by_cases c9 : x18_1 = true
   ·
    subst c9
    have H1 : ((shuttlecocklaw06_fixed.f kj1).bind fun t188 => (some t188)) = some r := by rw [if_pos rfl] at H; exact H
    clear H
    have H := H1
    clear H1
    replace H := ob H
    obtain ⟨t188, A100, H⟩ := H
    replace H : (some t188) = some r := H
    have A10 := Am A100
    clear A100
    obtain rfl := Option.some.inj H
    go_wp2_with (first | ((with_reducible refine gate_callee (f := 10) rfl ?_); refine goesL_ (some 19) rfl rfl Try.func10 (by kernel_rfl) rfl #[] rfl (by (try simp only [List.map_toArray, List.map_cons, List.map_nil]); first | done | rfl | (simp only [List.length_drop, List.length_take]; rfl)) ?_; (with_reducible refine (shuttlecocklaw06_fixed.calls kj1  t188 _ A10.out).mono ?_); rintro e w11 ⟨rfl, hb⟩; refine ⟨_, rfl, ?_⟩; have n0_ := Am (below_step (by repeat (first | (with_reducible first | exact HB.out | apply bl | apply pN | apply b1) | exact HB.out | exact HBo.out)) hb); clear HB; have HB := n0_; clear n0_; (try clear hb); (try clear hb2); (try clear hk); (try clear hi)))
    go_ret
    exact ⟨by first | rfl | (simp [errW_none, errW_some] <;> rfl) | (simp [*, errW_none, errW_some] <;> rfl) | (simp [Aid.ne_nil, Aid.eq_nil, errW_none, errW_some]; done), by repeat (first | (with_reducible first | exact HB.out | apply bl | apply pN | apply b1) | exact HB.out | exact HBo.out)⟩
   ·
    replace c9 := Bool.eq_false_iff.mpr c9
    subst c9
    have H1 : (shuttlecocklaw06_InternMany.l0 kj1 a0 0 ([] : List ByteArray) ([] : List (List (S50)))) = some r := by rw [if_neg (show ¬ (false = true) by decide)] at H; exact H
    clear H
    have H := H1
    clear H1
    have H' := Am H
    clear H
    go_wp2_with (first | ((with_reducible refine gate_dst (N := 3) rfl ?_); refine box_event ?hg (N := 3) ?hd (cs := #[.slice none 0 0, .slice none 0 0]) (t := 25) ?hr ?_; (case hd => rfl); (case hg => rfl); (case hr => first | (go_simp; done) | (go_simp; rfl)); intro gb189 hg w12 hbox hb; have n0_ := Am (below_step (by repeat (first | (with_reducible first | exact HB.out | apply bl | apply pN | apply b1) | exact HB.out | exact HBo.out)) hb); have n1_ := Am (hbox); have n2_ := Am ((by rw [hg]; exact (below_size (by repeat (first | (with_reducible first | exact HB.out | apply bl | apply pN | apply b1) | exact HB.out | exact HBo.out))) : w.heap.size ≤ gb189)); have n3_ := Am ((by rw [hg]; exact (below_size (by repeat (first | (with_reducible first | exact HB.out | apply bl | apply pN | apply b1) | exact HB.out | exact HBo.out))) : w.heap.size ≤ gb189)); clear HB; have HB := n0_; have BK189 := n1_; have GW189 := n2_; have GE189 := n3_; clear n0_ n1_ n2_ n3_; clear hb hbox hg; have hcz13_0 : w12.cell? ⟨gb189, 0, none⟩ = some (.slice none 0 0) := (bc BK189.out 0).trans rfl; have hcz13_1 : w12.cell? ⟨gb189, 1, none⟩ = some (.slice none 0 0) := (bc BK189.out 1).trans rfl; have hfz13_0 := bf BK189.out 0; have hfz13_1 := bf BK189.out 1))
    go_loopg [4] kj1 (fun kq v4 w' => ∃ (x4_2 : Int) (x190000_2 : List ByteArray) (x190001_2 : List (List (S50))) (u190000 : Value) (u190001 : Value), v4 = .int .i64 x4_2 ∧ Aside0 (shuttlecocklaw06_InternMany.l0 kq a0 x4_2 x190000_2 x190001_2 = some r) ∧ Aside0 (kq ≤ kj1) ∧ Aside0 (Kd.R Kd.string 9 w' w.heap.size (fun _ => True) u190000 x190000_2) ∧ Aside0 (Kd.S (Kd.slice 50 k50) 46 w' w.heap.size (fun _ => True) u190001 x190001_2) ∧ Aside0 (w'.heap[gb189]? = some (.cells #[u190000, u190001] 25 (0, 0))) ∧ Aside0 (Below w.heap.size w w'))
    case atStart => exact ⟨(0), (([] : List ByteArray)), (([] : List (List (S50)))), (.slice none 0 0), (.slice none 0 0), (by first | rfl | (simp; done) | (simp [*]; done)), H', ⟨Nat.le_refl _⟩, ⟨by first | exact Kd.R_nil _ _ _ _ _ | exact Kd.N_nil _ _ _ _ _ | exact Kd.V_nil _ _ _ _ _ | exact Kd.Q_nil _ _ _ _ _ | exact Kd.S_nil _ _ _ _ _⟩, ⟨by first | exact Kd.S_nil _ _ _ _ _ | exact Kd.N_nil _ _ _ _ _ | exact Kd.V_nil _ _ _ _ _ | exact Kd.Q_nil _ _ _ _ _ | exact Kd.R_nil _ _ _ _ _⟩, ⟨by (with_reducible repeat (first | refine bn ?_ _ | refine bd ?_ | refine ba ?_ _)); refine blk_put (cs := #[.slice none 0 0, .slice none 0 0]) ?_ 1 _ rfl; (with_reducible repeat (first | refine bn ?_ _ | refine bd ?_ | refine ba ?_ _)); refine blk_put (cs := #[.slice none 0 0, .slice none 0 0]) ?_ 0 _ rfl; (with_reducible repeat (first | refine bn ?_ _ | refine bd ?_ | refine ba ?_ _)); exact BK189.out⟩, ⟨by repeat (first | (with_reducible first | exact HB.out | apply bl | apply pN | apply b1 | refine bs ?_ GE189.out) | exact HB.out | exact HBo.out)⟩⟩
    case round =>
     clear H'
     try clear c1
     try clear p2
     try clear c4
     try clear c5
     try clear c5b0
     try clear c6
     try clear c9
     try clear c10
     try clear hcz13_0
     try clear hcz13_1
     try clear hfz13_0
     try clear hfz13_1
     try clear p2
     obtain ⟨x4_2, x190000_2, x190001_2, u190000, u190001, rfl, HA, HK2, HO_190000, HO_190001, BK189, HB⟩ := hrel
     cases gk with
     | zero => exact absurd HA.out (by simp [shuttlecocklaw06_InternMany.l0])
     | succ k2 =>
      have H := HA.out
      clear HA
      simp only [shuttlecocklaw06_InternMany.l0] at H
      by_cases c14 : x4_2 < 2
      ·
       rw [if_pos c14] at H
       have c14b0 : decide (x4_2 < 2) = true := decide_eq_true c14
       clear c14
       have H' := Am H
       clear H
       go_wp2
       go_loopg [5, 6] k2 (fun kq v5 v6 w' => ∃ (x5_3 : ByteArray) (x6_3 : Int) (x190000_3 : List ByteArray) (x190001_3 : List (List (S50))) (u190000 : Value) (u190001 : Value), v5 = .string x5_3 ∧ v6 = .int .i64 x6_3 ∧ Aside0 (shuttlecocklaw06_InternMany.l1 kq a0 x4_2 x5_3 x6_3 x190000_3 x190001_3 = some r) ∧ Aside0 (kq ≤ k2) ∧ Aside0 (Kd.R Kd.string 9 w' w.heap.size (fun _ => True) u190000 x190000_3) ∧ Aside0 (Kd.S (Kd.slice 50 k50) 46 w' w.heap.size (fun _ => True) u190001 x190001_3) ∧ Aside0 (w'.heap[gb189]? = some (.cells #[u190000, u190001] 25 (0, 0))) ∧ Aside0 (Below w.heap.size w w'))
       case atStart => exact ⟨((⟨#[120]⟩ : ByteArray)), (1), (x190000_2), (x190001_2), (u190000), (u190001), (by first | rfl | (simp; done) | (simp [*]; done)), (by first | rfl | (simp; done) | (simp [*]; done)), H', ⟨Nat.le_refl _⟩, ⟨by (with_reducible repeat (first | apply Kd.R_alloc | apply Kd.R_drewN | apply Kd.R_drew)); exact HO_190000.out⟩, ⟨by (with_reducible repeat (first | apply Kd.S_alloc | apply Kd.S_drewN | apply Kd.S_drew)); exact HO_190001.out⟩, ⟨by (with_reducible repeat (first | refine bn ?_ _ | refine bd ?_ | refine ba ?_ _)); exact BK189.out⟩, ⟨by repeat (first | (with_reducible first | exact HB.out | apply bl | apply pN | apply b1 | refine bs ?_ GE189.out) | exact HB.out | exact HBo.out)⟩⟩
       case round =>
        clear H'
        try clear c1
        try clear p2
        try clear c4
        try clear c5
        try clear c5b0
        try clear c6
        try clear c9
        try clear c10
        try clear c14
        try clear c14b0
        try clear hcz13_0
        try clear hcz13_1
        try clear hfz13_0
        try clear hfz13_1
        try clear p2
        obtain ⟨x5_3, x6_3, x190000_3, x190001_3, u190000, u190001, rfl, rfl, HA, HK3, HO_190000, HO_190001, BK189, HB⟩ := hrel
        cases gk with
        | zero => exact absurd HA.out (by simp [shuttlecocklaw06_InternMany.l1])
        | succ k3 =>
         have H := HA.out
         clear HA
         simp only [shuttlecocklaw06_InternMany.l1] at H
         by_cases c15 : x6_3 ≤ a0
         ·
          rw [if_pos c15] at H
          have c15b0 : decide (x6_3 ≤ a0) = true := decide_eq_true c15
          clear c15
          replace H := ob H
          obtain ⟨⟨t191, t194, t197⟩, A160, H⟩ := H
          replace H : (if t197 = x6_3 then (if x5_3.size + 1 ≤ 9223372036854775807 then (shuttlecocklaw06_InternMany.l1 k3 a0 x4_2 (x5_3 ++ (⟨#[120]⟩ : ByteArray)) (wrap64 (x6_3 + 1)) t191 t194) else (none)) else (none)) = some r := H
          have A16 := Am A160
          clear A160
          by_cases c17 : t197 = x6_3
          ·
           rw [if_pos c17] at H
           have c17b0 : (t197 == x6_3) = true := beq_iff_eq.mpr c17
           have c17b1 : (t197 != x6_3) = false := bne_eq_false_iff_eq.mpr c17
           clear c17
           by_cases c18 : x5_3.size + 1 ≤ 9223372036854775807
           ·
            rw [if_pos c18] at H
            have c18b0 := eq_true c18
            have c18b1 : decide (x5_3.size + 1 ≤ 9223372036854775807) = true := decide_eq_true c18
            try have c18b2 : (9223372036854775807 < x5_3.size + 1) = False := eq_false (Nat.not_lt.2 c18)
            have H' := Am H
            clear H
            have hcz19_0 : wr.cell? ⟨gb189, 0, none⟩ = some (u190000) := (bc BK189.out 0).trans rfl
            have hcz19_1 : wr.cell? ⟨gb189, 1, none⟩ = some (u190001) := (bc BK189.out 1).trans rfl
            have hfz19_0 := bf BK189.out 0
            have hfz19_1 := bf BK189.out 1
            obtain ⟨Ao20, co20, eo20⟩ := Kd.R_slice HO_190000.out
            subst eo20
            obtain ⟨Ao21, co21, eo21⟩ := Kd.S_slice HO_190001.out
            subst eo21
            go_wp2_with (first | ((with_reducible refine gate_callee (f := 11) rfl ?_); refine goesL_ (some 33) rfl rfl Try.func11 (by kernel_rfl) rfl #[.agg #[.slice Ao20 x190000_3.length co20, .slice Ao21 x190001_3.length co21], .string x5_3] rfl (by (try simp only [List.map_toArray, List.map_cons, List.map_nil]); first | done | rfl | (simp only [List.length_drop, List.length_take]; rfl)) ?_; (with_reducible refine (intern_String.calls k3 _ _ x190000_3 _ _ x190001_3 x5_3 t191 t194 t197 _ ?side1 ?side2 ?side3 ?side4 A16.out).mono ?_); (case side1 => repeat (first | exact (Kd.R_reads' HO_190000.out).2.2 | (with_reducible refine Kd.C_alloc ?_ _) | (with_reducible refine Kd.C_drewN ?_ _) | (with_reducible refine Kd.C_drew ?_))); (case side2 => exact (Kd.R_reads' HO_190000.out).2.1); (case side3 => repeat (first | exact (Kd.S_reads' HO_190001.out).2.2 | (with_reducible refine Kd.C_alloc ?_ _) | (with_reducible refine Kd.C_drewN ?_ _) | (with_reducible refine Kd.C_drew ?_))); (case side4 => exact (Kd.S_reads' HO_190001.out).2.1); rintro e w22 ⟨v192, v195, rfl, ho0, ho1, hb⟩; refine ⟨_, rfl, ?_⟩; have n0_ := Am (Kd.R_elder' (by (with_reducible repeat (first | apply Kd.R_alloc | apply Kd.R_drewN | apply Kd.R_drew)); exact HO_190000.out) (Kd.R_base ho0) hb); have n1_ := Am (Kd.S_elder' (by (with_reducible repeat (first | apply Kd.S_alloc | apply Kd.S_drewN | apply Kd.S_drew)); exact HO_190001.out) (Kd.S_base ho1) hb); have n2_ := Am (Kd.R_lower (Kd.R_new' ho0 (Kd.R_lt (by (with_reducible repeat (first | apply Kd.R_alloc | apply Kd.R_drewN | apply Kd.R_drew)); exact HO_190000.out))) (below_size (by repeat (first | (with_reducible first | exact HB.out | apply bl | apply pN | apply b1 | refine bs ?_ GE189.out) | exact HB.out | exact HBo.out)))); have n3_ := Am (Kd.S_lower (Kd.S_new' ho1 (Kd.S_lt (by (with_reducible repeat (first | apply Kd.S_alloc | apply Kd.S_drewN | apply Kd.S_drew)); exact HO_190001.out))) (below_size (by repeat (first | (with_reducible first | exact HB.out | apply bl | apply pN | apply b1 | refine bs ?_ GE189.out) | exact HB.out | exact HBo.out)))); have n4_ := Am (blk_below (g := gb189) (o := .cells #[.slice Ao20 x190000_3.length co20, .slice Ao21 x190001_3.length co21] 25 (0, 0)) (by (with_reducible repeat (first | refine bn ?_ _ | refine bd ?_ | refine ba ?_ _)); exact BK189.out) hb); have n5_ := Am (below_step (by repeat (first | (with_reducible first | exact HB.out | apply bl | apply pN | apply b1 | refine bs ?_ GE189.out) | exact HB.out | exact HBo.out)) hb); clear HO_190000; clear HO_190001; clear BK189; clear HB; have HO_190000 := n0_; have HO_190001 := n1_; have HO193 := n2_; have HO196 := n3_; have BK189 := n4_; have HB := n5_; clear n0_ n1_ n2_ n3_ n4_ n5_; (try clear hb); (try clear hb2); (try clear hk); (try clear hi); (try clear ho0); (try clear ho1)) | ((with_reducible refine gate_dst (N := 7) rfl ?_); refine box_event ?hg (N := 7) ?hd (cs := #[.slice none 0 0, .slice none 0 0]) (t := 25) ?hr ?_; (case hd => rfl); (case hg => rfl); (case hr => first | (go_simp; done) | (go_simp; rfl)); intro gb198 hg w23 hbox hb; have n0_ := Am (Kd.R_below (by (with_reducible repeat (first | apply Kd.R_alloc | apply Kd.R_drewN | apply Kd.R_drew)); exact HO_190000.out) hb); have n1_ := Am (Kd.S_below (by (with_reducible repeat (first | apply Kd.S_alloc | apply Kd.S_drewN | apply Kd.S_drew)); exact HO_190001.out) hb); have n2_ := Am (Kd.R_below (by (with_reducible repeat (first | apply Kd.R_alloc | apply Kd.R_drewN | apply Kd.R_drew)); exact HO193.out) hb); have n3_ := Am (Kd.S_below (by (with_reducible repeat (first | apply Kd.S_alloc | apply Kd.S_drewN | apply Kd.S_drew)); exact HO196.out) hb); have n4_ := Am (blk_below (g := gb189) (o := .cells #[.slice Ao20 x190000_3.length co20, .slice Ao21 x190001_3.length co21] 25 (0, 0)) (by (with_reducible repeat (first | refine bn ?_ _ | refine bd ?_ | refine ba ?_ _)); exact BK189.out) hb); have n5_ := Am (below_step (by repeat (first | (with_reducible first | exact HB.out | apply bl | apply pN | apply b1 | refine bs ?_ GE189.out) | exact HB.out | exact HBo.out)) hb); have n6_ := Am (hbox); have n7_ := Am ((by rw [hg]; exact (below_size (by repeat (first | (with_reducible first | exact HB.out | apply bl | apply pN | apply b1 | refine bs ?_ GE189.out) | exact HB.out | exact HBo.out))) : w.heap.size ≤ gb198)); have n8_ := Am ((by rw [hg]; exact (below_size (by repeat (first | (with_reducible first | exact HB.out | apply bl | apply pN | apply b1 | refine bs ?_ GE189.out) | exact HB.out | exact HBo.out))) : w.heap.size ≤ gb198)); have n9_ := Am ((by rw [hg]; exact Nat.ne_of_lt (blk_lt (g := gb189) (o := .cells #[.slice Ao20 x190000_3.length co20, .slice Ao21 x190001_3.length co21] 25 (0, 0)) (by (with_reducible repeat (first | refine bn ?_ _ | refine bd ?_ | refine ba ?_ _)); exact BK189.out)) : gb189 ≠ gb198)); have n10_ := Am ((by rw [hg]; exact Nat.ne_of_gt (blk_lt (g := gb189) (o := .cells #[.slice Ao20 x190000_3.length co20, .slice Ao21 x190001_3.length co21] 25 (0, 0)) (by (with_reducible repeat (first | refine bn ?_ _ | refine bd ?_ | refine ba ?_ _)); exact BK189.out)) : gb198 ≠ gb189)); clear HO_190000; clear HO_190001; clear HO193; clear HO196; clear BK189; clear HB; have HO_190000 := n0_; have HO_190001 := n1_; have HO193 := n2_; have HO196 := n3_; have BK189 := n4_; have HB := n5_; have BK198 := n6_; have GW198 := n7_; have GE198 := n8_; have NB189_198 := n9_; have NB198_189 := n10_; clear n0_ n1_ n2_ n3_ n4_ n5_ n6_ n7_ n8_ n9_ n10_; clear hb hbox hg; obtain ⟨Ao24, co24, eo24⟩ := Kd.R_slice HO193.out; subst eo24; have hnb25 := NB198_189.out; have hnc25 := NB189_198.out; have hcz26_0 : w23.cell? ⟨gb198, 0, none⟩ = some (.slice none 0 0) := (bc BK198.out 0).trans rfl; have hcz26_1 : w23.cell? ⟨gb198, 1, none⟩ = some (.slice none 0 0) := (bc BK198.out 1).trans rfl; have hfz26_0 := bf BK198.out 0; have hfz26_1 := bf BK198.out 1; obtain ⟨Ao27, co27, eo27⟩ := Kd.S_slice HO196.out; subst eo27; have hcz28_0 : w23.cell? ⟨gb189, 0, none⟩ = some (.slice Ao20 x190000_3.length co20) := (bc BK189.out 0).trans rfl; have hcz28_1 : w23.cell? ⟨gb189, 1, none⟩ = some (.slice Ao21 x190001_3.length co21) := (bc BK189.out 1).trans rfl; have hfz28_0 := bf BK189.out 0; have hfz28_1 := bf BK189.out 1))
            go_roundg k3
            case measure => have := HJ1.out; have := HK2.out; have := HK3.out; omega
            case rel => exact ⟨(x5_3 ++ (⟨#[120]⟩ : ByteArray)), (wrap64 (x6_3 + 1)), (t191), (t194), (.slice Ao24 t191.length co24), (.slice Ao27 t194.length co27), (by first | rfl | (simp; done) | (simp [*]; done)), (by first | rfl | (simp; done) | (simp [*]; done)), H', ⟨by have := HJ1.out; have := HK2.out; have := HK3.out; omega⟩, ⟨by (with_reducible repeat (first | apply Kd.R_alloc | apply Kd.R_drewN | apply Kd.R_drew)); exact Kd.R_mono (Kd.R_far (p := ⟨gb189, 1, none⟩) (Kd.R_far (p := ⟨gb189, 0, none⟩) (Kd.R_far (p := ⟨gb198, 1, none⟩) (Kd.R_far (p := ⟨gb198, 0, none⟩) (Kd.R_types (Kd.R_types HO193.out BK198.out (by decide)) BK189.out (by decide)) (fun _ hk => hk.1.2) (.slice Ao24 t191.length co24)) (fun _ hk => hk.1.2) (.slice Ao27 t194.length co27)) (fun _ hk => hk.2) (.slice Ao24 t191.length co24)) (fun _ hk => hk.2) (.slice Ao27 t194.length co27)) (fun _ hk => trivial)⟩, ⟨by (with_reducible repeat (first | apply Kd.S_alloc | apply Kd.S_drewN | apply Kd.S_drew)); exact Kd.S_mono (Kd.S_far (p := ⟨gb189, 1, none⟩) (Kd.S_far (p := ⟨gb189, 0, none⟩) (Kd.S_far (p := ⟨gb198, 1, none⟩) (Kd.S_far (p := ⟨gb198, 0, none⟩) (Kd.S_types (Kd.S_types HO196.out BK198.out (by decide)) BK189.out (by decide)) (fun _ hk => hk.1.2) (.slice Ao24 t191.length co24)) (fun _ hk => hk.1.2) (.slice Ao27 t194.length co27)) (fun _ hk => hk.2) (.slice Ao24 t191.length co24)) (fun _ hk => hk.2) (.slice Ao27 t194.length co27)) (fun _ hk => trivial)⟩, ⟨by (with_reducible repeat (first | refine bn ?_ _ | refine bd ?_ | refine ba ?_ _)); refine blk_put (cs := #[.slice Ao24 t191.length co24, .slice Ao21 x190001_3.length co21]) ?_ 1 _ rfl; (with_reducible repeat (first | refine bn ?_ _ | refine bd ?_ | refine ba ?_ _)); refine blk_put (cs := #[.slice Ao20 x190000_3.length co20, .slice Ao21 x190001_3.length co21]) ?_ 0 _ rfl; (with_reducible repeat (first | refine bn ?_ _ | refine bd ?_ | refine ba ?_ _)); refine blk_far ?_ NB189_198.out _; (with_reducible repeat (first | refine bn ?_ _ | refine bd ?_ | refine ba ?_ _)); refine blk_far ?_ NB189_198.out _; (with_reducible repeat (first | refine bn ?_ _ | refine bd ?_ | refine ba ?_ _)); exact BK189.out⟩, ⟨by repeat (first | (with_reducible first | exact HB.out | apply bl | apply pN | apply b1 | refine bs ?_ GE189.out | refine bs ?_ GE198.out) | exact HB.out | exact HBo.out)⟩⟩
           ·
            rw [if_neg c18] at H
            exact absurd H (by simp)
          ·
           rw [if_neg c17] at H
           exact absurd H (by simp)
         ·
          rw [if_neg c15] at H
          have c15b0 : decide (x6_3 ≤ a0) = false := decide_eq_false c15
          clear c15
          have H' := Am H
          clear H
          go_wp2
          go_roundg k3
          case measure => have := HJ1.out; have := HK2.out; have := HK3.out; omega
          case rel => exact ⟨(wrap64 (x4_2 + 1)), (x190000_3), (x190001_3), (u190000), (u190001), (by first | rfl | (simp; done) | (simp [*]; done)), H', ⟨by have := HJ1.out; have := HK2.out; have := HK3.out; omega⟩, ⟨by (with_reducible repeat (first | apply Kd.R_alloc | apply Kd.R_drewN | apply Kd.R_drew)); exact HO_190000.out⟩, ⟨by (with_reducible repeat (first | apply Kd.S_alloc | apply Kd.S_drewN | apply Kd.S_drew)); exact HO_190001.out⟩, ⟨by (with_reducible repeat (first | refine bn ?_ _ | refine bd ?_ | refine ba ?_ _)); exact BK189.out⟩, ⟨by repeat (first | (with_reducible first | exact HB.out | apply bl | apply pN | apply b1 | refine bs ?_ GE189.out) | exact HB.out | exact HBo.out)⟩⟩
      ·
       rw [if_neg c14] at H
       have c14b0 : decide (x4_2 < 2) = false := decide_eq_false c14
       clear c14
       by_cases c29 : (x190000_2.length : Int) = a0
       ·
        rw [if_pos c29] at H
        have c29b0 : ((x190000_2.length : Int) == a0) = true := beq_iff_eq.mpr c29
        have c29b1 : ((x190000_2.length : Int) != a0) = false := bne_eq_false_iff_eq.mpr c29
        clear c29
        replace H := ob H
        obtain ⟨t190, A300, H⟩ := H
        replace H : (some t190) = some r := H
        have A30 := Am A300
        clear A300
        obtain rfl := Option.some.inj H
        have hcz31_0 : wr.cell? ⟨gb189, 0, none⟩ = some (u190000) := (bc BK189.out 0).trans rfl
        have hcz31_1 : wr.cell? ⟨gb189, 1, none⟩ = some (u190001) := (bc BK189.out 1).trans rfl
        have hfz31_0 := bf BK189.out 0
        have hfz31_1 := bf BK189.out 1
        obtain ⟨Ao32, co32, eo32⟩ := Kd.R_slice HO_190000.out
        subst eo32
        obtain ⟨Ao33, co33, eo33⟩ := Kd.S_slice HO_190001.out
        subst eo33
        go_wp2_with (first | (go_at_call 19; (with_reducible refine (intern_May.calls k2 _ _ x190000_2 _ _ x190001_2 t190 _ ?side1 ?side2 ?side3 ?side4 A30.out).mono ?_); (case side1 => repeat (first | exact (Kd.R_reads' HO_190000.out).2.2 | (with_reducible refine Kd.C_alloc ?_ _) | (with_reducible refine Kd.C_drewN ?_ _) | (with_reducible refine Kd.C_drew ?_))); (case side2 => exact (Kd.R_reads' HO_190000.out).2.1); (case side3 => repeat (first | exact (Kd.S_reads' HO_190001.out).2.2 | (with_reducible refine Kd.C_alloc ?_ _) | (with_reducible refine Kd.C_drewN ?_ _) | (with_reducible refine Kd.C_drew ?_))); (case side4 => exact (Kd.S_reads' HO_190001.out).2.1); rintro e w34 ⟨rfl, hb⟩; have n0_ := Am (Kd.R_below (by (with_reducible repeat (first | apply Kd.R_alloc | apply Kd.R_drewN | apply Kd.R_drew)); exact HO_190000.out) hb); have n1_ := Am (Kd.S_below (by (with_reducible repeat (first | apply Kd.S_alloc | apply Kd.S_drewN | apply Kd.S_drew)); exact HO_190001.out) hb); have n2_ := Am (blk_below (g := gb189) (o := .cells #[.slice Ao32 x190000_2.length co32, .slice Ao33 x190001_2.length co33] 25 (0, 0)) (by (with_reducible repeat (first | refine bn ?_ _ | refine bd ?_ | refine ba ?_ _)); exact BK189.out) hb); have n3_ := Am (below_step (by repeat (first | (with_reducible first | exact HB.out | apply bl | apply pN | apply b1 | refine bs ?_ GE189.out) | exact HB.out | exact HBo.out)) hb); clear HO_190000; clear HO_190001; clear BK189; clear HB; have HO_190000 := n0_; have HO_190001 := n1_; have BK189 := n2_; have HB := n3_; clear n0_ n1_ n2_ n3_; (try clear hb); (try clear hb2); (try clear hk); (try clear hi)))
        go_ret
        exact ⟨by first | rfl | (simp [errW_none, errW_some] <;> rfl) | (simp [*, errW_none, errW_some] <;> rfl) | (simp [Aid.ne_nil, Aid.eq_nil, errW_none, errW_some]; done), by repeat (first | (with_reducible first | exact HB.out | apply bl | apply pN | apply b1 | refine bs ?_ GE189.out) | exact HB.out | exact HBo.out)⟩
       ·
        rw [if_neg c29] at H
        exact absurd H (by simp)

/-- THE ONE PURE STATEMENT of shuttlecocklaw06_InternMany: yours. -/
def shuttlecocklaw06_InternMany.Pure : Prop := ∀ (a0 : Int), (Lit.int .i64 a0).wf = true → ∃ k, shuttlecocklaw06_InternMany.f k a0 = some true
theorem shuttlecocklaw06_InternMany.walk (P : shuttlecocklaw06_InternMany.Pure) (a0 : Int) (w : World) (w0 : (Lit.int .i64 a0).wf = true) :
  Calls Try.prog 6 #[.int .i64 a0] w fun e w' => e = .returned (.bool true) ∧ Below w.heap.size w w' := by
 obtain ⟨k, h⟩ := P a0 w0
 refine (shuttlecocklaw06_InternMany.calls k a0 true w h).mono ?_
 rintro e w' ⟨rfl, hd⟩
 exact ⟨rfl, hd⟩

end Go.Proofs.Ytijjfomnidckdaa.Q
