-- printed by a program of this session (NOTES: hprint); not the kit's print
-- minified3
-- minified2
-- minified
-- halved
import Derived.Test.YtlmmlmmbnfcogaaOg
import Derived.Test.YtlmmlmmbnfcogaaAl
import Derived.Test.YtlmmlmmbnfcogaaQx0
import Derived.Test.YtlmmlmmbnfcogaaQx10
namespace Go.Proofs.Ytlmmlmmbnfcogaa.Q
open Go.RowKit Go.Proofs.YtlmmlmmbnfcogaaW.PrintWords Go.Proofs.YtlmmlmmbnfcogaaW.PrintLast Go.Proofs.YtlmmlmmbnfcogaaW.PrintMore
attribute [local go_sem] max2_int min2_int max_two min_two max_three min_three max_four min_four   -- for this text's walks alone
set_option linter.unusedVariables false
set_option linter.unusedSimpArgs false

/-! ### shuttlecockref06_May: function 16 -/
mutual
def shuttlecockref06_May.j0 : Nat → Bool → List ByteArray → List (List (S70)) → Option (Bool)
 | 0, _, _, _ => none
 | k + 1, x16, x192000, x192001 => if x16 = true then (some false) else (shuttlecockref06_May.l0 k 0 x192000 x192001)
def shuttlecockref06_May.l0 : Nat → Int → List ByteArray → List (List (S70)) → Option (Bool)
 | 0, _, _, _ => none
 | k + 1, x3, x192000, x192001 => if x3 < (x192000.length : Int) then (if 0 ≤ x3 then (if ((rdOf ByteArray.empty x192000 x3).size : Int) < 1 then (some false) else (if ((rdOf ByteArray.empty x192000 x3).size : Int) > 1000 then (some false) else ((shuttlecockref06_find.f k x192000 (rdOf ByteArray.empty x192000 x3)).bind fun t195 => (if t195 = x3 then (shuttlecockref06_May.l0 k (wrap64 (x3 + 1)) x192000 x192001) else (some false))))) else (none)) else (shuttlecockref06_May.l1 k 0 x192000 x192001)
def shuttlecockref06_May.l1 : Nat → Int → List ByteArray → List (List (S70)) → Option (Bool)
 | 0, _, _, _ => none
 | k + 1, x4, x192000, x192001 => if x4 < (x192001.length : Int) then (if 0 ≤ x4 then (if ((rd_L2 x192001 x4).length : Int) < 1 then (shuttlecockref06_May.j3 k x4 (rd_L2 x192001 x4) true x192000 x192001) else (if ((rd_L2 x192001 x4).length : Int) > 100 then (shuttlecockref06_May.j3 k x4 (rd_L2 x192001 x4) true x192000 x192001) else ((shuttlecockref06_stack.f k x192001 (rd_L2 x192001 x4)).bind fun t197 => (shuttlecockref06_May.j3 k x4 (rd_L2 x192001 x4) (t197 != x4) x192000 x192001)))) else (none)) else (some true)
def shuttlecockref06_May.j3 : Nat → Int → List (S70) → Bool → List ByteArray → List (List (S70)) → Option (Bool)
 | 0, _, _, _, _, _ => none
 | k + 1, x4, x5, x79, x192000, x192001 => if x79 = true then (some false) else (shuttlecockref06_May.l2 k x4 x5 0 x192000 x192001)
def shuttlecockref06_May.l2 : Nat → Int → List (S70) → Int → List ByteArray → List (List (S70)) → Option (Bool)
 | 0, _, _, _, _, _ => none
 | k + 1, x4, x5, x6, x192000, x192001 => if x6 < (x5.length : Int) then (if 0 ≤ x6 then (if ((rd_T70 x5 x6).f0) < 1 then (some false) else (if ((rd_T70 x5 x6).f0) > (x192000.length : Int) then (some false) else ((shuttlecockref04_Fits.f ((rd_T70 x5 x6).f1)).bind fun t201 => (if t201 = true then (shuttlecockref06_May.l2 k x4 x5 (wrap64 (x6 + 1)) x192000 x192001) else (some false))))) else (none)) else (shuttlecockref06_May.l1 k (wrap64 (x4 + 1)) x192000 x192001)
end
def shuttlecockref06_May.f (k : Nat) (l0_0 : List ByteArray) (l0_1 : List (List (S70))) : Option (Bool) := if (l0_0.length : Int) > 10000 then (shuttlecockref06_May.j0 k true l0_0 l0_1) else (shuttlecockref06_May.j0 k (decide ((l0_1.length : Int) > 10000)) l0_0 l0_1)
theorem shuttlecockref06_May.mono_l : ∀ k, (∀ y0 y1 y2, LeO (shuttlecockref06_May.j0 k y0 y1 y2) (shuttlecockref06_May.j0 (k + 1) y0 y1 y2)) ∧ (∀ y0 y1 y2, LeO (shuttlecockref06_May.l0 k y0 y1 y2) (shuttlecockref06_May.l0 (k + 1) y0 y1 y2)) ∧ (∀ y0 y1 y2, LeO (shuttlecockref06_May.l1 k y0 y1 y2) (shuttlecockref06_May.l1 (k + 1) y0 y1 y2)) ∧ (∀ y0 y1 y2 y3 y4, LeO (shuttlecockref06_May.j3 k y0 y1 y2 y3 y4) (shuttlecockref06_May.j3 (k + 1) y0 y1 y2 y3 y4)) ∧ (∀ y0 y1 y2 y3 y4, LeO (shuttlecockref06_May.l2 k y0 y1 y2 y3 y4) (shuttlecockref06_May.l2 (k + 1) y0 y1 y2 y3 y4))
 | 0 => ⟨fun _ _ _ r h => by simp [shuttlecockref06_May.j0] at h, fun _ _ _ r h => by simp [shuttlecockref06_May.l0] at h, fun _ _ _ r h => by simp [shuttlecockref06_May.l1] at h, fun _ _ _ _ _ r h => by simp [shuttlecockref06_May.j3] at h, fun _ _ _ _ _ r h => by simp [shuttlecockref06_May.l2] at h⟩
 | k + 1 => by
  obtain ⟨ih0, ih1, ih2, ih3, ih4⟩ := shuttlecockref06_May.mono_l k
  refine ⟨?_, ?_, ?_, ?_, ?_⟩
  ·
   intro y0 y1 y2
   unfold shuttlecockref06_May.j0
   repeat' first
   | (with_reducible exact ih0 _ _ _)
   | (with_reducible exact ih1 _ _ _)
   | (with_reducible exact ih2 _ _ _)
   | (with_reducible exact ih3 _ _ _ _ _)
   | (with_reducible exact ih4 _ _ _ _ _)
   | (with_reducible exact shuttlecockref06_find.mono _ _ _)
   | (with_reducible exact shuttlecockref06_stack.mono _ _ _)
   | (with_reducible exact LeO.refl _)
   | (with_reducible exact LeO.none _)
   | (with_reducible refine LeO.ite ?_ ?_)
   | (with_reducible refine LeO.bind ?_ (fun _ => ?_))
   | exact LeO.none _
   | refine LeO.ite ?_ ?_
   | refine LeO.bind ?_ (fun _ => ?_)
  ·
   intro y0 y1 y2
   unfold shuttlecockref06_May.l0
   repeat' first
   | (with_reducible exact ih0 _ _ _)
   | (with_reducible exact ih1 _ _ _)
   | (with_reducible exact ih2 _ _ _)
   | (with_reducible exact ih3 _ _ _ _ _)
   | (with_reducible exact ih4 _ _ _ _ _)
   | (with_reducible exact shuttlecockref06_find.mono _ _ _)
   | (with_reducible exact shuttlecockref06_stack.mono _ _ _)
   | (with_reducible exact LeO.refl _)
   | (with_reducible exact LeO.none _)
   | (with_reducible refine LeO.ite ?_ ?_)
   | (with_reducible refine LeO.bind ?_ (fun _ => ?_))
   | exact LeO.none _
   | refine LeO.ite ?_ ?_
   | refine LeO.bind ?_ (fun _ => ?_)
  ·
   intro y0 y1 y2
   unfold shuttlecockref06_May.l1
   repeat' first
   | (with_reducible exact ih0 _ _ _)
   | (with_reducible exact ih1 _ _ _)
   | (with_reducible exact ih2 _ _ _)
   | (with_reducible exact ih3 _ _ _ _ _)
   | (with_reducible exact ih4 _ _ _ _ _)
   | (with_reducible exact shuttlecockref06_find.mono _ _ _)
   | (with_reducible exact shuttlecockref06_stack.mono _ _ _)
   | (with_reducible exact LeO.refl _)
   | (with_reducible exact LeO.none _)
   | (with_reducible refine LeO.ite ?_ ?_)
   | (with_reducible refine LeO.bind ?_ (fun _ => ?_))
   | exact LeO.none _
   | refine LeO.ite ?_ ?_
   | refine LeO.bind ?_ (fun _ => ?_)
  ·
   intro y0 y1 y2 y3 y4
   unfold shuttlecockref06_May.j3
   repeat' first
   | (with_reducible exact ih0 _ _ _)
   | (with_reducible exact ih1 _ _ _)
   | (with_reducible exact ih2 _ _ _)
   | (with_reducible exact ih3 _ _ _ _ _)
   | (with_reducible exact ih4 _ _ _ _ _)
   | (with_reducible exact shuttlecockref06_find.mono _ _ _)
   | (with_reducible exact shuttlecockref06_stack.mono _ _ _)
   | (with_reducible exact LeO.refl _)
   | (with_reducible exact LeO.none _)
   | (with_reducible refine LeO.ite ?_ ?_)
   | (with_reducible refine LeO.bind ?_ (fun _ => ?_))
   | exact LeO.none _
   | refine LeO.ite ?_ ?_
   | refine LeO.bind ?_ (fun _ => ?_)
  ·
   intro y0 y1 y2 y3 y4
   unfold shuttlecockref06_May.l2
   repeat' first
   | (with_reducible exact ih0 _ _ _)
   | (with_reducible exact ih1 _ _ _)
   | (with_reducible exact ih2 _ _ _)
   | (with_reducible exact ih3 _ _ _ _ _)
   | (with_reducible exact ih4 _ _ _ _ _)
   | (with_reducible exact shuttlecockref06_find.mono _ _ _)
   | (with_reducible exact shuttlecockref06_stack.mono _ _ _)
   | (with_reducible exact LeO.refl _)
   | (with_reducible exact LeO.none _)
   | (with_reducible refine LeO.ite ?_ ?_)
   | (with_reducible refine LeO.bind ?_ (fun _ => ?_))
   | exact LeO.none _
   | refine LeO.ite ?_ ?_
   | refine LeO.bind ?_ (fun _ => ?_)
theorem shuttlecockref06_May.mono : ∀ a0 a1 k, LeO (shuttlecockref06_May.f k a0 a1) (shuttlecockref06_May.f (k + 1) a0 a1) := by
 intro a0 a1 k
 obtain ⟨ih0, ih1, ih2, ih3, ih4⟩ := shuttlecockref06_May.mono_l k
 unfold shuttlecockref06_May.f
 repeat' first
   | (with_reducible exact ih0 _ _ _)
   | (with_reducible exact ih1 _ _ _)
   | (with_reducible exact ih2 _ _ _)
   | (with_reducible exact ih3 _ _ _ _ _)
   | (with_reducible exact ih4 _ _ _ _ _)
   | (with_reducible exact shuttlecockref06_find.mono _ _ _)
   | (with_reducible exact shuttlecockref06_stack.mono _ _ _)
   | (with_reducible exact LeO.refl _)
   | (with_reducible exact LeO.none _)
   | (with_reducible refine LeO.ite ?_ ?_)
   | (with_reducible refine LeO.bind ?_ (fun _ => ?_))
   | exact LeO.none _
   | refine LeO.ite ?_ ?_
   | refine LeO.bind ?_ (fun _ => ?_)
set_option maxHeartbeats 8000000 in
set_option maxRecDepth 100000 in
theorem shuttlecockref06_May.calls (k : Nat) (A0_0 : Option Addr) (c0_0 : Nat) (l0_0 : List ByteArray) (A0_1 : Option Addr) (c0_1 : Nat) (l0_1 : List (List (S70))) (r : Bool) (w : World) (hr0_0 : Kd.C Kd.string w A0_0 l0_0.length l0_0) (hc0_0 : l0_0.length ≤ c0_0) (hr0_1 : Kd.C (Kd.slice 70 k70) w A0_1 l0_1.length l0_1) (hc0_1 : l0_1.length ≤ c0_1) (h : shuttlecockref06_May.f k l0_0 l0_1 = some r) :
  Calls Try.prog 16 #[.agg #[.slice A0_0 l0_0.length c0_0, .slice A0_1 l0_1.length c0_1]] w fun e w' => e = .returned (.bool r) ∧ Below w.heap.size w w' := by
 have hu25 := Try.underlying25
 have HR0_0 := Am hr0_0
 have HC0_0 := Am hc0_0
 clear hr0_0 hc0_0
 have HR0_1 := Am hr0_1
 have HC0_1 := Am hc0_1
 clear hr0_1 hc0_1
 have HB := Am (Below.refl w.heap.size w)
 have H : (if (l0_0.length : Int) > 10000 then (shuttlecockref06_May.j0 k true l0_0 l0_1) else (shuttlecockref06_May.j0 k (decide ((l0_1.length : Int) > 10000)) l0_0 l0_1)) = some r := h
 clear h
 have HC2 := Am H
 clear H
 go_enter Try.func16, Try.ntmps16
 go_upto_region 1 with (first | ((with_reducible refine gate_dst (N := 1) rfl ?_); (try (refine gate_guard (by rfl) ?_; dsimp only)); refine box_event ?hg (N := 1) ?hd (cs := #[.slice A0_0 l0_0.length c0_0, .slice A0_1 l0_1.length c0_1]) (t := 25) ?hr ?_; (case hd => rfl); (case hg => rfl); (case hr => first | (go_simp; done) | (go_simp; rfl)); intro gb191 hg w3 hbox hb; have BK191 := Am (hbox); have GW191 := Am ((by rw [hg]; exact (below_size (z3)) : w.heap.size ≤ gb191)); have GE191 := GW191; replace HB := Am (below_step (z3) hb); clear hb hbox hg))
 repeat (go_quiet (first | ((with_reducible refine gate_dst (N := 1) rfl ?_); (try (refine gate_guard (by rfl) ?_; dsimp only)); refine box_event ?hg (N := 1) ?hd (cs := #[.slice A0_0 l0_0.length c0_0, .slice A0_1 l0_1.length c0_1]) (t := 25) ?hr ?_; (case hd => rfl); (case hg => rfl); (case hr => first | (go_simp; done) | (go_simp; rfl)); intro gb191 hg w3 hbox hb; have BK191 := Am (hbox); have GW191 := Am ((by rw [hg]; exact (below_size (z3)) : w.heap.size ≤ gb191)); have GE191 := GW191; replace HB := Am (below_step (z3) hb); clear hb hbox hg)); go_upto_region 1 with (first | ((with_reducible refine gate_dst (N := 1) rfl ?_); (try (refine gate_guard (by rfl) ?_; dsimp only)); refine box_event ?hg (N := 1) ?hd (cs := #[.slice A0_0 l0_0.length c0_0, .slice A0_1 l0_1.length c0_1]) (t := 25) ?hr ?_; (case hd => rfl); (case hg => rfl); (case hr => first | (go_simp; done) | (go_simp; rfl)); intro gb191 hg w3 hbox hb; have BK191 := Am (hbox); have GW191 := Am ((by rw [hg]; exact (below_size (z3)) : w.heap.size ≤ gb191)); have GE191 := GW191; replace HB := Am (below_step (z3) hb); clear hb hbox hg)))
 (try simp only [Act.put, sI, sZ, sS])
 go_cut [16] (fun v16 wc => ∃ (kq : Nat) (x16_1 : Bool), v16 = .bool x16_1 ∧ Aside0 (shuttlecockref06_May.j0 kq x16_1 l0_0 l0_1 = some r) ∧ Aside0 (kq ≤ k) ∧ Aside0 (wc.heap[gb191]? = some (.cells #[(.slice A0_0 l0_0.length c0_0), (.slice A0_1 l0_1.length c0_1)] 25 (0, 0))) ∧ Aside0 (Below w.heap.size w wc))
 case first =>
  have H := HC2.out
  clear HC2
  by_cases c4 : (l0_0.length : Int) > 10000
  ·
   rw [if_pos c4] at H
   have c4b0 : decide (10000 < (l0_0.length : Int)) = true := decide_eq_true c4
   have c4b1 : decide (10000 < l0_0.length) = true := decide_eq_true (by omega)
   clear c4
   (first | rw [c4b0] | (simp only [i64_w, i32_w]; rw [c4b0]) | skip)
   have H' := Am H
   clear H
   have hcz5_0 := Own.bc2 BK191.out 0
   have hcz5_1 := Own.bc2 BK191.out 1
   have hfz5_0 := bf BK191.out 0
   have hfz5_1 := bf BK191.out 1
   go_wp2
   repeat (go_quiet (fail); try go_wp2)
   go_meet
   case rel => exact ⟨_, (true), (by first | rfl | (simp; done) | (simp [*]; done) | (simp; generalize ByteArray.toList _ = l_; cases l_ <;> rfl)), H', ⟨by first | omega | exact Nat.le_refl _⟩, ⟨by (with_reducible repeat (first|apply bn|apply bd|apply ba)); exact BK191.out⟩, ⟨z9⟩⟩
  ·
   rw [if_neg c4] at H
   have c4b0 : decide (10000 < (l0_0.length : Int)) = false := decide_eq_false c4
   have c4b1 : decide (10000 < l0_0.length) = false := decide_eq_false (by omega)
   clear c4
   (first | rw [c4b0] | (simp only [i64_w, i32_w]; rw [c4b0]) | skip)
   have H' := Am H
   clear H
   have hcz6_0 := Own.bc2 BK191.out 0
   have hcz6_1 := Own.bc2 BK191.out 1
   have hfz6_0 := bf BK191.out 0
   have hfz6_1 := bf BK191.out 1
   go_wp2
   repeat (go_quiet (fail); try go_wp2)
   go_meet
   case rel => exact ⟨_, (decide ((l0_1.length : Int) > 10000)), (by first | rfl | (simp; done) | (simp [*]; done) | (simp; generalize ByteArray.toList _ = l_; cases l_ <;> rfl)), H', ⟨by first | omega | exact Nat.le_refl _⟩, ⟨by (with_reducible repeat (first|apply bn|apply bd|apply ba)); exact BK191.out⟩, ⟨z9⟩⟩
 case rest =>
  clear HC2
  try clear c1
  try clear p2
  try clear c4
  try clear c4b0
  try clear c4b1
  try clear hcz5_0
  try clear hcz5_1
  try clear hcz6_0
  try clear hcz6_1
  try clear hfz5_0
  try clear hfz5_1
  try clear hfz6_0
  try clear hfz6_1
  obtain ⟨kq, x16_1, rfl, HA, HJ1, BK191, HB⟩ := hcut
  cases kq with
  | zero => exact absurd HA.out (by simp [shuttlecockref06_May.j0])
  | succ kj1 =>
   have H := HA.out
   clear HA
   simp only [shuttlecockref06_May.j0] at H
   by_cases c7 : x16_1 = true
   ·
    subst c7
    rw [if_pos rfl] at H
    obtain rfl := Option.some.inj H
    go_wp2
    repeat (go_quiet (fail); try go_wp2)
    go_ret
    exact ⟨y0, z9⟩
   ·
    replace c7 := Bool.eq_false_iff.mpr c7
    subst c7
    rw [if_neg (show ¬ (false = true) by decide)] at H
    have H' := Am H
    clear H
    go_wp2
    repeat (go_quiet (fail); try go_wp2)
    go_loopg [3] kj1 (fun kq v3 w' => ∃ (x3_2 : Int), v3 = .int .i64 x3_2 ∧ Aside0 (shuttlecockref06_May.l0 kq x3_2 l0_0 l0_1 = some r) ∧ Aside0 (kq ≤ kj1) ∧ Aside0 (w'.heap[gb191]? = some (.cells #[(.slice A0_0 l0_0.length c0_0), (.slice A0_1 l0_1.length c0_1)] 25 (0, 0))) ∧ Aside0 (Below w.heap.size w w'))
    case atStart => exact ⟨(0), (by first | rfl | (simp; done) | (simp [*]; done) | (simp; generalize ByteArray.toList _ = l_; cases l_ <;> rfl)), H', ⟨Nat.le_refl _⟩, ⟨by (with_reducible repeat (first|apply bn|apply bd|apply ba)); exact BK191.out⟩, ⟨z9⟩⟩
    case round =>
     clear H'
     try clear c1
     try clear p2
     try clear c4
     try clear c4b0
     try clear c4b1
     try clear c7
     try clear hcz5_0
     try clear hcz5_1
     try clear hcz6_0
     try clear hcz6_1
     try clear hfz5_0
     try clear hfz5_1
     try clear hfz6_0
     try clear hfz6_1
     try clear p2
     obtain ⟨x3_2, rfl, HA, HK2, BK191, HB⟩ := hrel
     cases gk with
     | zero => exact absurd HA.out (by simp [shuttlecockref06_May.l0])
     | succ k2 =>
      have H := HA.out
      clear HA
      simp only [shuttlecockref06_May.l0] at H
      by_cases c8 : x3_2 < (l0_0.length : Int)
      ·
       rw [if_pos c8] at H
       have c8b0 : decide (x3_2 < (l0_0.length : Int)) = true := decide_eq_true c8
       clear c8
       by_cases c9 : 0 ≤ x3_2
       ·
        rw [if_pos c9] at H
        have c9b0 : decide (0 ≤ x3_2) = true := decide_eq_true c9
        clear c9
        by_cases c10 : ((rdOf ByteArray.empty l0_0 x3_2).size : Int) < 1
        ·
         rw [if_pos c10] at H
         have c10b0 : decide (((rdOf ByteArray.empty l0_0 x3_2).size : Int) < 1) = true := decide_eq_true c10
         have c10b1 : decide ((rdOf ByteArray.empty l0_0 x3_2).size < 1) = true := decide_eq_true (by omega)
         clear c10
         obtain rfl := Option.some.inj H
         have hcz11_0 := Own.bc2 BK191.out 0
         have hcz11_1 := Own.bc2 BK191.out 1
         have hfz11_0 := bf BK191.out 0
         have hfz11_1 := bf BK191.out 1
         have p192 : 0 ≤ (x3_2 : Int) := dz
         have q192 : x3_2 < (l0_0.length : Int) := dz
         obtain ⟨ad192, e192, hx192_0⟩ := Kd.at_string HR0_0.out x3_2 p192 q192
         cases e192
         replace hx192_0 := (HB.out.cell (World.block_lt_of_cell? w _ hx192_0)).trans hx192_0
         replace p192 := eq_true p192
         replace q192 := eq_true q192
         go_wp2
         repeat (go_quiet (fail); try go_wp2)
         go_ret
         exact ⟨y0, z9⟩
        ·
         rw [if_neg c10] at H
         have c10b0 : decide (((rdOf ByteArray.empty l0_0 x3_2).size : Int) < 1) = false := decide_eq_false c10
         have c10b1 : decide ((rdOf ByteArray.empty l0_0 x3_2).size < 1) = false := decide_eq_false (by omega)
         clear c10
         by_cases c12 : ((rdOf ByteArray.empty l0_0 x3_2).size : Int) > 1000
         ·
          rw [if_pos c12] at H
          have c12b0 : decide (1000 < ((rdOf ByteArray.empty l0_0 x3_2).size : Int)) = true := decide_eq_true c12
          have c12b1 : decide (1000 < (rdOf ByteArray.empty l0_0 x3_2).size) = true := decide_eq_true (by omega)
          clear c12
          obtain rfl := Option.some.inj H
          have hcz13_0 := Own.bc2 BK191.out 0
          have hcz13_1 := Own.bc2 BK191.out 1
          have hfz13_0 := bf BK191.out 0
          have hfz13_1 := bf BK191.out 1
          have p192 : 0 ≤ (x3_2 : Int) := dz
          have q192 : x3_2 < (l0_0.length : Int) := dz
          obtain ⟨ad192, e192, hx192_0⟩ := Kd.at_string HR0_0.out x3_2 p192 q192
          cases e192
          replace hx192_0 := (HB.out.cell (World.block_lt_of_cell? w _ hx192_0)).trans hx192_0
          replace p192 := eq_true p192
          replace q192 := eq_true q192
          have p193 : 0 ≤ (x3_2 : Int) := dz
          have q193 : x3_2 < (l0_0.length : Int) := dz
          obtain ⟨ad193, e193, hx193_0⟩ := Kd.at_string HR0_0.out x3_2 p193 q193
          obtain rfl : ad192 = ad193 := (by injection e193)
          replace hx193_0 := (HB.out.cell (World.block_lt_of_cell? w _ hx193_0)).trans hx193_0
          replace p193 := eq_true p193
          replace q193 := eq_true q193
          go_wp2
          repeat (go_quiet (fail); try go_wp2)
          go_ret
          exact ⟨y0, z9⟩
         ·
          rw [if_neg c12] at H
          have c12b0 : decide (1000 < ((rdOf ByteArray.empty l0_0 x3_2).size : Int)) = false := decide_eq_false c12
          have c12b1 : decide (1000 < (rdOf ByteArray.empty l0_0 x3_2).size) = false := decide_eq_false (by omega)
          clear c12
          replace H := ob H
          obtain ⟨t195, A140, H⟩ := H
          (try dsimp only at H)
          have A14 := Am A140
          clear A140
          by_cases c15 : t195 = x3_2
          ·
           rw [if_pos c15] at H
           have c15b0 : (t195 == x3_2) = true := beq_iff_eq.mpr c15
           have c15b1 : (t195 != x3_2) = false := bne_eq_false_iff_eq.mpr c15
           clear c15
           have H' := Am H
           clear H
           have hcz16_0 := Own.bc2 BK191.out 0
           have hcz16_1 := Own.bc2 BK191.out 1
           have hfz16_0 := bf BK191.out 0
           have hfz16_1 := bf BK191.out 1
           have p192 : 0 ≤ (x3_2 : Int) := dz
           have q192 : x3_2 < (l0_0.length : Int) := dz
           obtain ⟨ad192, e192, hx192_0⟩ := Kd.at_string HR0_0.out x3_2 p192 q192
           cases e192
           replace hx192_0 := (HB.out.cell (World.block_lt_of_cell? w _ hx192_0)).trans hx192_0
           replace p192 := eq_true p192
           replace q192 := eq_true q192
           have p193 : 0 ≤ (x3_2 : Int) := dz
           have q193 : x3_2 < (l0_0.length : Int) := dz
           obtain ⟨ad193, e193, hx193_0⟩ := Kd.at_string HR0_0.out x3_2 p193 q193
           obtain rfl : ad192 = ad193 := (by injection e193)
           replace hx193_0 := (HB.out.cell (World.block_lt_of_cell? w _ hx193_0)).trans hx193_0
           replace p193 := eq_true p193
           replace q193 := eq_true q193
           have p194 : 0 ≤ (x3_2 : Int) := dz
           have q194 : x3_2 < (l0_0.length : Int) := dz
           obtain ⟨ad194, e194, hx194_0⟩ := Kd.at_string HR0_0.out x3_2 p194 q194
           obtain rfl : ad192 = ad194 := (by injection e194)
           replace hx194_0 := (HB.out.cell (World.block_lt_of_cell? w _ hx194_0)).trans hx194_0
           replace p194 := eq_true p194
           replace q194 := eq_true q194
           go_wp2_with (first | (go_at_call 36; (with_reducible refine (shuttlecockref06_find.calls k2 _ _ l0_0 (rdOf ByteArray.empty l0_0 x3_2) t195 _ ?side1 ?side2 A14.out).mono ?_); (case side1 => repeat (first | exact (Kd.C_below HR0_0.out HB.out) | (with_reducible refine Kd.C_alloc ?_ _) | (with_reducible refine Kd.C_drewN ?_ _) | (with_reducible refine Kd.C_drew ?_))); (case side2 => exact HC0_0.out); rintro e w' ⟨rfl, ⟨nd, rfl⟩⟩; (try first | exact ⟨rfl, _, World.drewN_drewN _ _ _⟩ | exact ⟨rfl, _, Eq.trans (World.drewN_drewN _ _ _) (congrArg (World.drewN _) (Nat.add_assoc _ _ _))⟩)))
           repeat (go_quiet (first | (go_at_call 36; (with_reducible refine (shuttlecockref06_find.calls k2 _ _ l0_0 (rdOf ByteArray.empty l0_0 x3_2) t195 _ ?side1 ?side2 A14.out).mono ?_); (case side1 => repeat (first | exact (Kd.C_below HR0_0.out HB.out) | (with_reducible refine Kd.C_alloc ?_ _) | (with_reducible refine Kd.C_drewN ?_ _) | (with_reducible refine Kd.C_drew ?_))); (case side2 => exact HC0_0.out); rintro e w' ⟨rfl, ⟨nd, rfl⟩⟩; (try first | exact ⟨rfl, _, World.drewN_drewN _ _ _⟩ | exact ⟨rfl, _, Eq.trans (World.drewN_drewN _ _ _) (congrArg (World.drewN _) (Nat.add_assoc _ _ _))⟩))); try go_wp2_with (first | (go_at_call 36; (with_reducible refine (shuttlecockref06_find.calls k2 _ _ l0_0 (rdOf ByteArray.empty l0_0 x3_2) t195 _ ?side1 ?side2 A14.out).mono ?_); (case side1 => repeat (first | exact (Kd.C_below HR0_0.out HB.out) | (with_reducible refine Kd.C_alloc ?_ _) | (with_reducible refine Kd.C_drewN ?_ _) | (with_reducible refine Kd.C_drew ?_))); (case side2 => exact HC0_0.out); rintro e w' ⟨rfl, ⟨nd, rfl⟩⟩; (try first | exact ⟨rfl, _, World.drewN_drewN _ _ _⟩ | exact ⟨rfl, _, Eq.trans (World.drewN_drewN _ _ _) (congrArg (World.drewN _) (Nat.add_assoc _ _ _))⟩))))
           go_roundg k2
           case measure => have := HJ1.out; have := HK2.out; omega
           case rel => exact ⟨(wrap64 (x3_2 + 1)), (by first | rfl | (simp; done) | (simp [*]; done) | (simp; generalize ByteArray.toList _ = l_; cases l_ <;> rfl)), H', ⟨by have := HJ1.out; have := HK2.out; omega⟩, ⟨by (with_reducible repeat (first|apply bn|apply bd|apply ba)); exact BK191.out⟩, ⟨z9⟩⟩
          ·
           rw [if_neg c15] at H
           have c15b0 : (t195 == x3_2) = false := beq_eq_false_iff_ne.mpr c15
           have c15b1 : (t195 != x3_2) = true := bne_iff_ne.mpr c15
           obtain rfl := Option.some.inj H
           have hcz17_0 := Own.bc2 BK191.out 0
           have hcz17_1 := Own.bc2 BK191.out 1
           have hfz17_0 := bf BK191.out 0
           have hfz17_1 := bf BK191.out 1
           have p192 : 0 ≤ (x3_2 : Int) := dz
           have q192 : x3_2 < (l0_0.length : Int) := dz
           obtain ⟨ad192, e192, hx192_0⟩ := Kd.at_string HR0_0.out x3_2 p192 q192
           cases e192
           replace hx192_0 := (HB.out.cell (World.block_lt_of_cell? w _ hx192_0)).trans hx192_0
           replace p192 := eq_true p192
           replace q192 := eq_true q192
           have p193 : 0 ≤ (x3_2 : Int) := dz
           have q193 : x3_2 < (l0_0.length : Int) := dz
           obtain ⟨ad193, e193, hx193_0⟩ := Kd.at_string HR0_0.out x3_2 p193 q193
           obtain rfl : ad192 = ad193 := (by injection e193)
           replace hx193_0 := (HB.out.cell (World.block_lt_of_cell? w _ hx193_0)).trans hx193_0
           replace p193 := eq_true p193
           replace q193 := eq_true q193
           have p194 : 0 ≤ (x3_2 : Int) := dz
           have q194 : x3_2 < (l0_0.length : Int) := dz
           obtain ⟨ad194, e194, hx194_0⟩ := Kd.at_string HR0_0.out x3_2 p194 q194
           obtain rfl : ad192 = ad194 := (by injection e194)
           replace hx194_0 := (HB.out.cell (World.block_lt_of_cell? w _ hx194_0)).trans hx194_0
           replace p194 := eq_true p194
           replace q194 := eq_true q194
           go_wp2_with (first | (go_at_call 36; (with_reducible refine (shuttlecockref06_find.calls k2 _ _ l0_0 (rdOf ByteArray.empty l0_0 x3_2) t195 _ ?side1 ?side2 A14.out).mono ?_); (case side1 => repeat (first | exact (Kd.C_below HR0_0.out HB.out) | (with_reducible refine Kd.C_alloc ?_ _) | (with_reducible refine Kd.C_drewN ?_ _) | (with_reducible refine Kd.C_drew ?_))); (case side2 => exact HC0_0.out); rintro e w' ⟨rfl, ⟨nd, rfl⟩⟩; (try first | exact ⟨rfl, _, World.drewN_drewN _ _ _⟩ | exact ⟨rfl, _, Eq.trans (World.drewN_drewN _ _ _) (congrArg (World.drewN _) (Nat.add_assoc _ _ _))⟩)))
           repeat (go_quiet (first | (go_at_call 36; (with_reducible refine (shuttlecockref06_find.calls k2 _ _ l0_0 (rdOf ByteArray.empty l0_0 x3_2) t195 _ ?side1 ?side2 A14.out).mono ?_); (case side1 => repeat (first | exact (Kd.C_below HR0_0.out HB.out) | (with_reducible refine Kd.C_alloc ?_ _) | (with_reducible refine Kd.C_drewN ?_ _) | (with_reducible refine Kd.C_drew ?_))); (case side2 => exact HC0_0.out); rintro e w' ⟨rfl, ⟨nd, rfl⟩⟩; (try first | exact ⟨rfl, _, World.drewN_drewN _ _ _⟩ | exact ⟨rfl, _, Eq.trans (World.drewN_drewN _ _ _) (congrArg (World.drewN _) (Nat.add_assoc _ _ _))⟩))); try go_wp2_with (first | (go_at_call 36; (with_reducible refine (shuttlecockref06_find.calls k2 _ _ l0_0 (rdOf ByteArray.empty l0_0 x3_2) t195 _ ?side1 ?side2 A14.out).mono ?_); (case side1 => repeat (first | exact (Kd.C_below HR0_0.out HB.out) | (with_reducible refine Kd.C_alloc ?_ _) | (with_reducible refine Kd.C_drewN ?_ _) | (with_reducible refine Kd.C_drew ?_))); (case side2 => exact HC0_0.out); rintro e w' ⟨rfl, ⟨nd, rfl⟩⟩; (try first | exact ⟨rfl, _, World.drewN_drewN _ _ _⟩ | exact ⟨rfl, _, Eq.trans (World.drewN_drewN _ _ _) (congrArg (World.drewN _) (Nat.add_assoc _ _ _))⟩))))
           go_ret
           exact ⟨y0, z9⟩
       ·
        rw [if_neg c9] at H
        exact absurd H (by simp)
      ·
       rw [if_neg c8] at H
       have c8b0 : decide (x3_2 < (l0_0.length : Int)) = false := decide_eq_false c8
       clear c8
       have H' := Am H
       clear H
       have hcz18_0 := Own.bc2 BK191.out 0
       have hcz18_1 := Own.bc2 BK191.out 1
       have hfz18_0 := bf BK191.out 0
       have hfz18_1 := bf BK191.out 1
       go_wp2
       repeat (go_quiet (fail); try go_wp2)
       go_loopg [4] k2 (fun kq v4 w' => ∃ (x4_3 : Int), v4 = .int .i64 x4_3 ∧ Aside0 (shuttlecockref06_May.l1 kq x4_3 l0_0 l0_1 = some r) ∧ Aside0 (kq ≤ k2) ∧ Aside0 (w'.heap[gb191]? = some (.cells #[(.slice A0_0 l0_0.length c0_0), (.slice A0_1 l0_1.length c0_1)] 25 (0, 0))) ∧ Aside0 (Below w.heap.size w w'))
       case atStart => exact ⟨(0), (by first | rfl | (simp; done) | (simp [*]; done) | (simp; generalize ByteArray.toList _ = l_; cases l_ <;> rfl)), H', ⟨Nat.le_refl _⟩, ⟨by (with_reducible repeat (first|apply bn|apply bd|apply ba)); exact BK191.out⟩, ⟨z9⟩⟩
       case round =>
        clear H'
        try clear c1
        try clear p1
        try clear q1
        try clear hx1
        try clear p2
        try clear c4
        try clear c4b0
        try clear c4b1
        try clear p6
        try clear c7
        try clear c8
        try clear c8b0
        try clear c9
        try clear c9b0
        try clear c10
        try clear c10b0
        try clear c10b1
        try clear c12
        try clear c12b0
        try clear c12b1
        try clear c15
        try clear c15b0
        try clear c15b1
        try clear c16
        try clear hcz11_0
        try clear hcz11_1
        try clear hcz13_0
        try clear hcz13_1
        try clear hcz16_0
        try clear hcz16_1
        try clear hcz17_0
        try clear hcz17_1
        try clear hcz18_0
        try clear hcz18_1
        try clear hcz5_0
        try clear hcz5_1
        try clear hcz6_0
        try clear hcz6_1
        try clear hfz11_0
        try clear hfz11_1
        try clear hfz13_0
        try clear hfz13_1
        try clear hfz16_0
        try clear hfz16_1
        try clear hfz17_0
        try clear hfz17_1
        try clear hfz18_0
        try clear hfz18_1
        try clear hfz5_0
        try clear hfz5_1
        try clear hfz6_0
        try clear hfz6_1
        try clear hx192_0
        try clear hx193_0
        try clear hx194_0
        try clear p192
        try clear p193
        try clear p194
        try clear p2
        try clear q192
        try clear q193
        try clear q194
        obtain ⟨x4_3, rfl, HA, HK3, BK191, HB⟩ := hrel
        cases gk with
        | zero => exact absurd HA.out (by simp [shuttlecockref06_May.l1])
        | succ k3 =>
         have H := HA.out
         clear HA
         simp only [shuttlecockref06_May.l1] at H
         by_cases c19 : x4_3 < (l0_1.length : Int)
         ·
          rw [if_pos c19] at H
          have c19b0 : decide (x4_3 < (l0_1.length : Int)) = true := decide_eq_true c19
          clear c19
          by_cases c20 : 0 ≤ x4_3
          ·
           rw [if_pos c20] at H
           have c20b0 : decide (0 ≤ x4_3) = true := decide_eq_true c20
           clear c20
           have HC21 := Am H
           clear H
           have hcz22_0 := Own.bc2 BK191.out 0
           have hcz22_1 := Own.bc2 BK191.out 1
           have hfz22_0 := bf BK191.out 0
           have hfz22_1 := bf BK191.out 1
           have p196 : 0 ≤ (x4_3 : Int) := dz
           have q196 : x4_3 < (l0_1.length : Int) := dz
           obtain ⟨ad196, A196_0, c196_0, e196, hx196_0, hl196_0, hi196_0⟩ := at_L2 HR0_1.out x4_3 p196 q196
           cases e196
           replace hx196_0 := (HB.out.cell (World.block_lt_of_cell? w _ hx196_0)).trans hx196_0
           have HR196_0 := Am hi196_0
           have HC196_0 := Am hl196_0
           clear hi196_0 hl196_0
           replace p196 := eq_true p196
           replace q196 := eq_true q196
           go_upto_region 12 with (fail)
           repeat (go_quiet (fail); go_upto_region 12 with (fail))
           go_cut [79] (fun v79 wc => ∃ (kq : Nat) (x79_20 : Bool), v79 = .bool x79_20 ∧ Aside0 (shuttlecockref06_May.j3 kq x4_3 (rd_L2 l0_1 x4_3) x79_20 l0_0 l0_1 = some r) ∧ Aside0 (kq ≤ k3) ∧ Aside0 (wc.heap[gb191]? = some (.cells #[(.slice A0_0 l0_0.length c0_0), (.slice (some ad196) l0_1.length c0_1)] 25 (0, 0))) ∧ Aside0 (Below w.heap.size w wc))
           case first =>
            have H := HC21.out
            clear HC21
            by_cases c23 : ((rd_L2 l0_1 x4_3).length : Int) < 1
            ·
             rw [if_pos c23] at H
             have c23b0 : decide (((rd_L2 l0_1 x4_3).length : Int) < 1) = true := decide_eq_true c23
             have c23b1 : decide ((rd_L2 l0_1 x4_3).length < 1) = true := decide_eq_true (by omega)
             clear c23
             (first | rw [c23b0] | (simp only [i64_w, i32_w]; rw [c23b0]) | skip)
             have H' := Am H
             clear H
             go_wp2
             repeat (go_quiet (fail); try go_wp2)
             go_meet
             case rel => exact ⟨_, (true), (by first | rfl | (simp; done) | (simp [*]; done) | (simp; generalize ByteArray.toList _ = l_; cases l_ <;> rfl)), H', ⟨by have := HJ1.out; have := HK2.out; have := HK3.out; first | omega | exact Nat.le_refl _⟩, ⟨by (with_reducible repeat (first|apply bn|apply bd|apply ba)); exact BK191.out⟩, ⟨z9⟩⟩
            ·
             rw [if_neg c23] at H
             have c23b0 : decide (((rd_L2 l0_1 x4_3).length : Int) < 1) = false := decide_eq_false c23
             have c23b1 : decide ((rd_L2 l0_1 x4_3).length < 1) = false := decide_eq_false (by omega)
             clear c23
             (first | rw [c23b0] | (simp only [i64_w, i32_w]; rw [c23b0]) | skip)
             by_cases c24 : ((rd_L2 l0_1 x4_3).length : Int) > 100
             ·
              rw [if_pos c24] at H
              have c24b0 : decide (100 < ((rd_L2 l0_1 x4_3).length : Int)) = true := decide_eq_true c24
              have c24b1 : decide (100 < (rd_L2 l0_1 x4_3).length) = true := decide_eq_true (by omega)
              clear c24
              have H' := Am H
              clear H
              go_wp2
              repeat (go_quiet (fail); try go_wp2)
              go_meet
              case rel => exact ⟨_, (true), (by first | rfl | (simp; done) | (simp [*]; done) | (simp; generalize ByteArray.toList _ = l_; cases l_ <;> rfl)), H', ⟨by have := HJ1.out; have := HK2.out; have := HK3.out; first | omega | exact Nat.le_refl _⟩, ⟨by (with_reducible repeat (first|apply bn|apply bd|apply ba)); exact BK191.out⟩, ⟨z9⟩⟩
             ·
              rw [if_neg c24] at H
              have c24b0 : decide (100 < ((rd_L2 l0_1 x4_3).length : Int)) = false := decide_eq_false c24
              have c24b1 : decide (100 < (rd_L2 l0_1 x4_3).length) = false := decide_eq_false (by omega)
              clear c24
              replace H := ob H
              obtain ⟨t197, A250, H⟩ := H
              (try dsimp only at H)
              have A25 := Am A250
              clear A250
              have H' := Am H
              clear H
              have hcz26_0 := Own.bc2 BK191.out 0
              have hcz26_1 := Own.bc2 BK191.out 1
              have hfz26_0 := bf BK191.out 0
              have hfz26_1 := bf BK191.out 1
              go_wp2_with (first | (go_at_call 37; (with_reducible refine (shuttlecockref06_stack.calls k3 _ _ l0_1 _ _ (rd_L2 l0_1 x4_3) t197 _ ?side1 ?side2 ?side3 ?side4 A25.out).mono ?_); (case side1 => repeat (first | exact (Kd.C_below HR0_1.out HB.out) | (with_reducible refine Kd.C_alloc ?_ _) | (with_reducible refine Kd.C_drewN ?_ _) | (with_reducible refine Kd.C_drew ?_))); (case side2 => exact HC0_1.out); (case side3 => repeat (first | exact (Kd.C_below HR196_0.out HB.out) | (with_reducible refine Kd.C_alloc ?_ _) | (with_reducible refine Kd.C_drewN ?_ _) | (with_reducible refine Kd.C_drew ?_))); (case side4 => exact HC196_0.out); rintro e w' ⟨rfl, ⟨nd, rfl⟩⟩; (try first | exact ⟨rfl, _, World.drewN_drewN _ _ _⟩ | exact ⟨rfl, _, Eq.trans (World.drewN_drewN _ _ _) (congrArg (World.drewN _) (Nat.add_assoc _ _ _))⟩)))
              repeat (go_quiet (first | (go_at_call 37; (with_reducible refine (shuttlecockref06_stack.calls k3 _ _ l0_1 _ _ (rd_L2 l0_1 x4_3) t197 _ ?side1 ?side2 ?side3 ?side4 A25.out).mono ?_); (case side1 => repeat (first | exact (Kd.C_below HR0_1.out HB.out) | (with_reducible refine Kd.C_alloc ?_ _) | (with_reducible refine Kd.C_drewN ?_ _) | (with_reducible refine Kd.C_drew ?_))); (case side2 => exact HC0_1.out); (case side3 => repeat (first | exact (Kd.C_below HR196_0.out HB.out) | (with_reducible refine Kd.C_alloc ?_ _) | (with_reducible refine Kd.C_drewN ?_ _) | (with_reducible refine Kd.C_drew ?_))); (case side4 => exact HC196_0.out); rintro e w' ⟨rfl, ⟨nd, rfl⟩⟩; (try first | exact ⟨rfl, _, World.drewN_drewN _ _ _⟩ | exact ⟨rfl, _, Eq.trans (World.drewN_drewN _ _ _) (congrArg (World.drewN _) (Nat.add_assoc _ _ _))⟩))); try go_wp2_with (first | (go_at_call 37; (with_reducible refine (shuttlecockref06_stack.calls k3 _ _ l0_1 _ _ (rd_L2 l0_1 x4_3) t197 _ ?side1 ?side2 ?side3 ?side4 A25.out).mono ?_); (case side1 => repeat (first | exact (Kd.C_below HR0_1.out HB.out) | (with_reducible refine Kd.C_alloc ?_ _) | (with_reducible refine Kd.C_drewN ?_ _) | (with_reducible refine Kd.C_drew ?_))); (case side2 => exact HC0_1.out); (case side3 => repeat (first | exact (Kd.C_below HR196_0.out HB.out) | (with_reducible refine Kd.C_alloc ?_ _) | (with_reducible refine Kd.C_drewN ?_ _) | (with_reducible refine Kd.C_drew ?_))); (case side4 => exact HC196_0.out); rintro e w' ⟨rfl, ⟨nd, rfl⟩⟩; (try first | exact ⟨rfl, _, World.drewN_drewN _ _ _⟩ | exact ⟨rfl, _, Eq.trans (World.drewN_drewN _ _ _) (congrArg (World.drewN _) (Nat.add_assoc _ _ _))⟩))))
              go_meet
              case rel => exact ⟨_, ((t197 != x4_3)), (by first | rfl | (simp; done) | (simp [*]; done) | (simp; generalize ByteArray.toList _ = l_; cases l_ <;> rfl)), H', ⟨by have := HJ1.out; have := HK2.out; have := HK3.out; first | omega | exact Nat.le_refl _⟩, ⟨by (with_reducible repeat (first|apply bn|apply bd|apply ba)); exact BK191.out⟩, ⟨z9⟩⟩
           case rest =>
            clear HC21
            try clear c1
            try clear p1
            try clear q1
            try clear hx1
            try clear c2
            try clear p2
            try clear c4
            try clear c4b0
            try clear c4b1
            try clear p6
            try clear c7
            try clear c8
            try clear c8b0
            try clear c9
            try clear c9b0
            try clear c10
            try clear c10b0
            try clear c10b1
            try clear c12
            try clear c12b0
            try clear c12b1
            try clear c15
            try clear c15b0
            try clear c15b1
            try clear c16
            try clear c19
            try clear c19b0
            try clear p19
            try clear q19
            try clear hx19
            try clear c20
            try clear c20b0
            try clear c23
            try clear c23b0
            try clear c23b1
            try clear c24
            try clear c24b0
            try clear c24b1
            try clear hcz11_0
            try clear hcz11_1
            try clear hcz13_0
            try clear hcz13_1
            try clear hcz16_0
            try clear hcz16_1
            try clear hcz17_0
            try clear hcz17_1
            try clear hcz18_0
            try clear hcz18_1
            try clear hcz22_0
            try clear hcz22_1
            try clear hcz26_0
            try clear hcz26_1
            try clear hcz5_0
            try clear hcz5_1
            try clear hcz6_0
            try clear hcz6_1
            try clear hfz11_0
            try clear hfz11_1
            try clear hfz13_0
            try clear hfz13_1
            try clear hfz16_0
            try clear hfz16_1
            try clear hfz17_0
            try clear hfz17_1
            try clear hfz18_0
            try clear hfz18_1
            try clear hfz22_0
            try clear hfz22_1
            try clear hfz26_0
            try clear hfz26_1
            try clear hfz5_0
            try clear hfz5_1
            try clear hfz6_0
            try clear hfz6_1
            try clear hx192_0
            try clear hx193_0
            try clear hx194_0
            try clear hx196_0
            try clear p1
            try clear p192
            try clear p193
            try clear p194
            try clear p196
            try clear p2
            try clear p6
            try clear q1
            try clear q192
            try clear q193
            try clear q194
            try clear q196
            obtain ⟨kq, x79_20, rfl, HA, HJ20, BK191, HB⟩ := hcut
            cases kq with
            | zero => exact absurd HA.out (by simp [shuttlecockref06_May.j3])
            | succ kj20 =>
             have H := HA.out
             clear HA
             simp only [shuttlecockref06_May.j3] at H
             by_cases c27 : x79_20 = true
             ·
              subst c27
              rw [if_pos rfl] at H
              obtain rfl := Option.some.inj H
              go_wp2
              repeat (go_quiet (fail); try go_wp2)
              go_ret
              exact ⟨y0, z9⟩
             ·
              replace c27 := Bool.eq_false_iff.mpr c27
              subst c27
              rw [if_neg (show ¬ (false = true) by decide)] at H
              have H' := Am H
              clear H
              go_wp2
              repeat (go_quiet (fail); try go_wp2)
              go_loopg [6] kj20 (fun kq v6 w' => ∃ (x6_5 : Int), v6 = .int .i64 x6_5 ∧ Aside0 (shuttlecockref06_May.l2 kq x4_3 (rd_L2 l0_1 x4_3) x6_5 l0_0 l0_1 = some r) ∧ Aside0 (kq ≤ kj20) ∧ Aside0 (w'.heap[gb191]? = some (.cells #[(.slice A0_0 l0_0.length c0_0), (.slice (some ad196) l0_1.length c0_1)] 25 (0, 0))) ∧ Aside0 (Below w.heap.size w w'))
              case atStart => exact ⟨(0), (by first | rfl | (simp; done) | (simp [*]; done) | (simp; generalize ByteArray.toList _ = l_; cases l_ <;> rfl)), H', ⟨Nat.le_refl _⟩, ⟨by (with_reducible repeat (first|apply bn|apply bd|apply ba)); exact BK191.out⟩, ⟨z9⟩⟩
              case round =>
               clear H'
               try clear c1
               try clear p1
               try clear q1
               try clear hx1
               try clear c2
               try clear p2
               try clear c4
               try clear c4b0
               try clear c4b1
               try clear p6
               try clear c7
               try clear c8
               try clear c8b0
               try clear c9
               try clear c9b0
               try clear c10
               try clear c10b0
               try clear c10b1
               try clear c12
               try clear c12b0
               try clear c12b1
               try clear c15
               try clear c15b0
               try clear c15b1
               try clear c16
               try clear c19
               try clear c19b0
               try clear p19
               try clear q19
               try clear hx19
               try clear c20
               try clear c20b0
               try clear c23
               try clear c23b0
               try clear c23b1
               try clear c24
               try clear c24b0
               try clear c24b1
               try clear c27
               try clear hcz11_0
               try clear hcz11_1
               try clear hcz13_0
               try clear hcz13_1
               try clear hcz16_0
               try clear hcz16_1
               try clear hcz17_0
               try clear hcz17_1
               try clear hcz18_0
               try clear hcz18_1
               try clear hcz22_0
               try clear hcz22_1
               try clear hcz26_0
               try clear hcz26_1
               try clear hcz5_0
               try clear hcz5_1
               try clear hcz6_0
               try clear hcz6_1
               try clear hfz11_0
               try clear hfz11_1
               try clear hfz13_0
               try clear hfz13_1
               try clear hfz16_0
               try clear hfz16_1
               try clear hfz17_0
               try clear hfz17_1
               try clear hfz18_0
               try clear hfz18_1
               try clear hfz22_0
               try clear hfz22_1
               try clear hfz26_0
               try clear hfz26_1
               try clear hfz5_0
               try clear hfz5_1
               try clear hfz6_0
               try clear hfz6_1
               try clear hx192_0
               try clear hx193_0
               try clear hx194_0
               try clear hx196_0
               try clear p1
               try clear p19
               try clear p192
               try clear p193
               try clear p194
               try clear p196
               try clear p2
               try clear p6
               try clear q1
               try clear q19
               try clear q192
               try clear q193
               try clear q194
               try clear q196
               obtain ⟨x6_5, rfl, HA, HK5, BK191, HB⟩ := hrel
               cases gk with
               | zero => exact absurd HA.out (by simp [shuttlecockref06_May.l2])
               | succ k5 =>
                have H := HA.out
                clear HA
                simp only [shuttlecockref06_May.l2] at H
                by_cases c28 : x6_5 < ((rd_L2 l0_1 x4_3).length : Int)
                ·
                 rw [if_pos c28] at H
                 have c28b0 : decide (x6_5 < ((rd_L2 l0_1 x4_3).length : Int)) = true := decide_eq_true c28
                 clear c28
                 by_cases c29 : 0 ≤ x6_5
                 ·
                  rw [if_pos c29] at H
                  have c29b0 : decide (0 ≤ x6_5) = true := decide_eq_true c29
                  clear c29
                  by_cases c30 : ((rd_T70 (rd_L2 l0_1 x4_3) x6_5).f0) < 1
                  ·
                   rw [if_pos c30] at H
                   have c30b0 : decide (((rd_T70 (rd_L2 l0_1 x4_3) x6_5).f0) < 1) = true := decide_eq_true c30
                   clear c30
                   obtain rfl := Option.some.inj H
                   have p198 : 0 ≤ (x6_5 : Int) := dz
                   have q198 : x6_5 < ((rd_L2 l0_1 x4_3).length : Int) := dz
                   obtain ⟨ad198, e198, hx198_0, hx198_1⟩ := at_T70 HR196_0.out x6_5 p198 q198
                   cases e198
                   replace hx198_0 := (HB.out.cell (World.block_lt_of_cell? w _ hx198_0)).trans hx198_0
                   replace hx198_1 := (HB.out.cell (World.block_lt_of_cell? w _ hx198_1)).trans hx198_1
                   replace p198 := eq_true p198
                   replace q198 := eq_true q198
                   go_wp2
                   repeat (go_quiet (fail); try go_wp2)
                   go_ret
                   exact ⟨y0, z9⟩
                  ·
                   rw [if_neg c30] at H
                   have c30b0 : decide (((rd_T70 (rd_L2 l0_1 x4_3) x6_5).f0) < 1) = false := decide_eq_false c30
                   clear c30
                   by_cases c31 : ((rd_T70 (rd_L2 l0_1 x4_3) x6_5).f0) > (l0_0.length : Int)
                   ·
                    rw [if_pos c31] at H
                    have c31b0 : decide ((l0_0.length : Int) < ((rd_T70 (rd_L2 l0_1 x4_3) x6_5).f0)) = true := decide_eq_true c31
                    clear c31
                    obtain rfl := Option.some.inj H
                    have p198 : 0 ≤ (x6_5 : Int) := dz
                    have q198 : x6_5 < ((rd_L2 l0_1 x4_3).length : Int) := dz
                    obtain ⟨ad198, e198, hx198_0, hx198_1⟩ := at_T70 HR196_0.out x6_5 p198 q198
                    cases e198
                    replace hx198_0 := (HB.out.cell (World.block_lt_of_cell? w _ hx198_0)).trans hx198_0
                    replace hx198_1 := (HB.out.cell (World.block_lt_of_cell? w _ hx198_1)).trans hx198_1
                    replace p198 := eq_true p198
                    replace q198 := eq_true q198
                    have p199 : 0 ≤ (x6_5 : Int) := dz
                    have q199 : x6_5 < ((rd_L2 l0_1 x4_3).length : Int) := dz
                    obtain ⟨ad199, e199, hx199_0, hx199_1⟩ := at_T70 HR196_0.out x6_5 p199 q199
                    obtain rfl : ad198 = ad199 := (by injection e199)
                    replace hx199_0 := (HB.out.cell (World.block_lt_of_cell? w _ hx199_0)).trans hx199_0
                    replace hx199_1 := (HB.out.cell (World.block_lt_of_cell? w _ hx199_1)).trans hx199_1
                    replace p199 := eq_true p199
                    replace q199 := eq_true q199
                    have hcz32_0 := Own.bc2 BK191.out 0
                    have hcz32_1 := Own.bc2 BK191.out 1
                    have hfz32_0 := bf BK191.out 0
                    have hfz32_1 := bf BK191.out 1
                    go_wp2
                    repeat (go_quiet (fail); try go_wp2)
                    go_ret
                    exact ⟨y0, z9⟩
                   ·
                    rw [if_neg c31] at H
                    have c31b0 : decide ((l0_0.length : Int) < ((rd_T70 (rd_L2 l0_1 x4_3) x6_5).f0)) = false := decide_eq_false c31
                    clear c31
                    replace H := ob H
                    obtain ⟨t201, A330, H⟩ := H
                    (try dsimp only at H)
                    have A33 := Am A330
                    clear A330
                    by_cases c34 : t201 = true
                    ·
                     subst c34
                     rw [if_pos rfl] at H
                     have H' := Am H
                     clear H
                     have p198 : 0 ≤ (x6_5 : Int) := dz
                     have q198 : x6_5 < ((rd_L2 l0_1 x4_3).length : Int) := dz
                     obtain ⟨ad198, e198, hx198_0, hx198_1⟩ := at_T70 HR196_0.out x6_5 p198 q198
                     cases e198
                     replace hx198_0 := (HB.out.cell (World.block_lt_of_cell? w _ hx198_0)).trans hx198_0
                     replace hx198_1 := (HB.out.cell (World.block_lt_of_cell? w _ hx198_1)).trans hx198_1
                     replace p198 := eq_true p198
                     replace q198 := eq_true q198
                     have p199 : 0 ≤ (x6_5 : Int) := dz
                     have q199 : x6_5 < ((rd_L2 l0_1 x4_3).length : Int) := dz
                     obtain ⟨ad199, e199, hx199_0, hx199_1⟩ := at_T70 HR196_0.out x6_5 p199 q199
                     obtain rfl : ad198 = ad199 := (by injection e199)
                     replace hx199_0 := (HB.out.cell (World.block_lt_of_cell? w _ hx199_0)).trans hx199_0
                     replace hx199_1 := (HB.out.cell (World.block_lt_of_cell? w _ hx199_1)).trans hx199_1
                     replace p199 := eq_true p199
                     replace q199 := eq_true q199
                     have hcz35_0 := Own.bc2 BK191.out 0
                     have hcz35_1 := Own.bc2 BK191.out 1
                     have hfz35_0 := bf BK191.out 0
                     have hfz35_1 := bf BK191.out 1
                     have p200 : 0 ≤ (x6_5 : Int) := dz
                     have q200 : x6_5 < ((rd_L2 l0_1 x4_3).length : Int) := dz
                     obtain ⟨ad200, e200, hx200_0, hx200_1⟩ := at_T70 HR196_0.out x6_5 p200 q200
                     obtain rfl : ad198 = ad200 := (by injection e200)
                     replace hx200_0 := (HB.out.cell (World.block_lt_of_cell? w _ hx200_0)).trans hx200_0
                     replace hx200_1 := (HB.out.cell (World.block_lt_of_cell? w _ hx200_1)).trans hx200_1
                     replace p200 := eq_true p200
                     replace q200 := eq_true q200
                     go_wp2_with (first | (go_at_call 38; (with_reducible refine (shuttlecockref04_Fits.calls ((rd_T70 (rd_L2 l0_1 x4_3) x6_5).f1) true _ A33.out).mono ?_); rintro e w' ⟨rfl, ⟨nd, rfl⟩⟩; (try first | exact ⟨rfl, _, World.drewN_drewN _ _ _⟩ | exact ⟨rfl, _, Eq.trans (World.drewN_drewN _ _ _) (congrArg (World.drewN _) (Nat.add_assoc _ _ _))⟩)))
                     repeat (go_quiet (first | (go_at_call 38; (with_reducible refine (shuttlecockref04_Fits.calls ((rd_T70 (rd_L2 l0_1 x4_3) x6_5).f1) true _ A33.out).mono ?_); rintro e w' ⟨rfl, ⟨nd, rfl⟩⟩; (try first | exact ⟨rfl, _, World.drewN_drewN _ _ _⟩ | exact ⟨rfl, _, Eq.trans (World.drewN_drewN _ _ _) (congrArg (World.drewN _) (Nat.add_assoc _ _ _))⟩))); try go_wp2_with (first | (go_at_call 38; (with_reducible refine (shuttlecockref04_Fits.calls ((rd_T70 (rd_L2 l0_1 x4_3) x6_5).f1) true _ A33.out).mono ?_); rintro e w' ⟨rfl, ⟨nd, rfl⟩⟩; (try first | exact ⟨rfl, _, World.drewN_drewN _ _ _⟩ | exact ⟨rfl, _, Eq.trans (World.drewN_drewN _ _ _) (congrArg (World.drewN _) (Nat.add_assoc _ _ _))⟩))))
                     go_roundg k5
                     case measure => have := HJ1.out; have := HK2.out; have := HK3.out; have := HJ20.out; have := HK5.out; omega
                     case rel => exact ⟨(wrap64 (x6_5 + 1)), (by first | rfl | (simp; done) | (simp [*]; done) | (simp; generalize ByteArray.toList _ = l_; cases l_ <;> rfl)), H', ⟨by have := HJ1.out; have := HK2.out; have := HK3.out; have := HJ20.out; have := HK5.out; omega⟩, ⟨by (with_reducible repeat (first|apply bn|apply bd|apply ba)); exact BK191.out⟩, ⟨z9⟩⟩
                    ·
                     replace c34 := Bool.eq_false_iff.mpr c34
                     subst c34
                     rw [if_neg (show ¬ (false = true) by decide)] at H
                     obtain rfl := Option.some.inj H
                     have p198 : 0 ≤ (x6_5 : Int) := dz
                     have q198 : x6_5 < ((rd_L2 l0_1 x4_3).length : Int) := dz
                     obtain ⟨ad198, e198, hx198_0, hx198_1⟩ := at_T70 HR196_0.out x6_5 p198 q198
                     cases e198
                     replace hx198_0 := (HB.out.cell (World.block_lt_of_cell? w _ hx198_0)).trans hx198_0
                     replace hx198_1 := (HB.out.cell (World.block_lt_of_cell? w _ hx198_1)).trans hx198_1
                     replace p198 := eq_true p198
                     replace q198 := eq_true q198
                     have p199 : 0 ≤ (x6_5 : Int) := dz
                     have q199 : x6_5 < ((rd_L2 l0_1 x4_3).length : Int) := dz
                     obtain ⟨ad199, e199, hx199_0, hx199_1⟩ := at_T70 HR196_0.out x6_5 p199 q199
                     obtain rfl : ad198 = ad199 := (by injection e199)
                     replace hx199_0 := (HB.out.cell (World.block_lt_of_cell? w _ hx199_0)).trans hx199_0
                     replace hx199_1 := (HB.out.cell (World.block_lt_of_cell? w _ hx199_1)).trans hx199_1
                     replace p199 := eq_true p199
                     replace q199 := eq_true q199
                     have hcz36_0 := Own.bc2 BK191.out 0
                     have hcz36_1 := Own.bc2 BK191.out 1
                     have hfz36_0 := bf BK191.out 0
                     have hfz36_1 := bf BK191.out 1
                     have p200 : 0 ≤ (x6_5 : Int) := dz
                     have q200 : x6_5 < ((rd_L2 l0_1 x4_3).length : Int) := dz
                     obtain ⟨ad200, e200, hx200_0, hx200_1⟩ := at_T70 HR196_0.out x6_5 p200 q200
                     obtain rfl : ad198 = ad200 := (by injection e200)
                     replace hx200_0 := (HB.out.cell (World.block_lt_of_cell? w _ hx200_0)).trans hx200_0
                     replace hx200_1 := (HB.out.cell (World.block_lt_of_cell? w _ hx200_1)).trans hx200_1
                     replace p200 := eq_true p200
                     replace q200 := eq_true q200
                     go_wp2_with (first | (go_at_call 38; (with_reducible refine (shuttlecockref04_Fits.calls ((rd_T70 (rd_L2 l0_1 x4_3) x6_5).f1) false _ A33.out).mono ?_); rintro e w' ⟨rfl, ⟨nd, rfl⟩⟩; (try first | exact ⟨rfl, _, World.drewN_drewN _ _ _⟩ | exact ⟨rfl, _, Eq.trans (World.drewN_drewN _ _ _) (congrArg (World.drewN _) (Nat.add_assoc _ _ _))⟩)))
                     repeat (go_quiet (first | (go_at_call 38; (with_reducible refine (shuttlecockref04_Fits.calls ((rd_T70 (rd_L2 l0_1 x4_3) x6_5).f1) false _ A33.out).mono ?_); rintro e w' ⟨rfl, ⟨nd, rfl⟩⟩; (try first | exact ⟨rfl, _, World.drewN_drewN _ _ _⟩ | exact ⟨rfl, _, Eq.trans (World.drewN_drewN _ _ _) (congrArg (World.drewN _) (Nat.add_assoc _ _ _))⟩))); try go_wp2_with (first | (go_at_call 38; (with_reducible refine (shuttlecockref04_Fits.calls ((rd_T70 (rd_L2 l0_1 x4_3) x6_5).f1) false _ A33.out).mono ?_); rintro e w' ⟨rfl, ⟨nd, rfl⟩⟩; (try first | exact ⟨rfl, _, World.drewN_drewN _ _ _⟩ | exact ⟨rfl, _, Eq.trans (World.drewN_drewN _ _ _) (congrArg (World.drewN _) (Nat.add_assoc _ _ _))⟩))))
                     go_ret
                     exact ⟨y0, z9⟩
                 ·
                  rw [if_neg c29] at H
                  exact absurd H (by simp)
                ·
                 rw [if_neg c28] at H
                 have c28b0 : decide (x6_5 < ((rd_L2 l0_1 x4_3).length : Int)) = false := decide_eq_false c28
                 clear c28
                 have H' := Am H
                 clear H
                 go_wp2
                 repeat (go_quiet (fail); try go_wp2)
                 go_roundg k5
                 case measure => have := HJ1.out; have := HK2.out; have := HK3.out; have := HJ20.out; have := HK5.out; omega
                 case rel => exact ⟨(wrap64 (x4_3 + 1)), (by first | rfl | (simp; done) | (simp [*]; done) | (simp; generalize ByteArray.toList _ = l_; cases l_ <;> rfl)), H', ⟨by have := HJ1.out; have := HK2.out; have := HK3.out; have := HJ20.out; have := HK5.out; omega⟩, ⟨by (with_reducible repeat (first|apply bn|apply bd|apply ba)); exact BK191.out⟩, ⟨z9⟩⟩
          ·
           rw [if_neg c20] at H
           exact absurd H (by simp)
         ·
          rw [if_neg c19] at H
          have c19b0 : decide (x4_3 < (l0_1.length : Int)) = false := decide_eq_false c19
          clear c19
          obtain rfl := Option.some.inj H
          have hcz37_0 := Own.bc2 BK191.out 0
          have hcz37_1 := Own.bc2 BK191.out 1
          have hfz37_0 := bf BK191.out 0
          have hfz37_1 := bf BK191.out 1
          go_wp2
          repeat (go_quiet (fail); try go_wp2)
          go_ret
          exact ⟨y0, z9⟩

end Go.Proofs.Ytlmmlmmbnfcogaa.Q
