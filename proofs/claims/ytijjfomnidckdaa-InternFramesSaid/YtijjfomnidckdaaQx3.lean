-- printed by a program of this session (NOTES: hprint); not the kit's print
-- minified3
-- minified2
-- minified
-- halved
import Derived.Test.YtijjfomnidckdaaOg
import Derived.Test.YtijjfomnidckdaaAl
import Derived.Test.YtijjfomnidckdaaQx0
namespace Go.Proofs.Ytijjfomnidckdaa.Q
open Go.RowKit Go.Proofs.YtijjfomnidckdaaW.PrintWords Go.Proofs.YtijjfomnidckdaaW.PrintLast Go.Proofs.YtijjfomnidckdaaW.PrintMore
attribute [local go_sem] max2_int min2_int max_two min_two max_three min_three max_four min_four   -- for this text's walks alone
set_option linter.unusedVariables false
set_option linter.unusedSimpArgs false

def q3_0 : Array Bool := let o := true; let z := false; #[z,z,z,z,z,z,z,z]
def q3_1 : Array Bool := let o := true; let z := false; #[o,z,z,z,z,z,z,z]
def q3_2 : Array Bool := let o := true; let z := false; #[o,z,z,o,z,z,z,z]
def q3_3 : Array Bool := let o := true; let z := false; #[o,o,z,o,z,z,z,z]
def q3_4 : Array Bool := let o := true; let z := false; #[o,o,z,o,o,z,z,z]
def q3_5 : Array Bool := let o := true; let z := false; #[o,o,o,o,o,z,z,z]
def q3_6 : Array Bool := let o := true; let z := false; #[o,o,o,o,o,o,z,z]
def q3_7 : Array Bool := let o := true; let z := false; #[o,o,o,o,o,o,o,z]
def q3_8 : Array Bool := let o := true; let z := false; #[o,o,o,o,o,o,o,o]
/-! ### shuttlecockref06_Small: function 8 -/
mutual
def shuttlecockref06_Small.l0 : Nat → Int → List ByteArray → List (List (S50)) → Option (Bool)
 | 0, _, _, _ => none
 | k + 1, x3, x102000, x102001 => if x3 < (x102000.length : Int) then (if 0 ≤ x3 then (if ((rdOf ByteArray.empty x102000 x3).size : Int) > 1100 then (some false) else (shuttlecockref06_Small.l0 k (wrap64 (x3 + 1)) x102000 x102001)) else (none)) else (shuttlecockref06_Small.l1 k 0 x102000 x102001)
def shuttlecockref06_Small.l1 : Nat → Int → List ByteArray → List (List (S50)) → Option (Bool)
 | 0, _, _, _ => none
 | k + 1, x4, x102000, x102001 => if x4 < (x102001.length : Int) then (if 0 ≤ x4 then (if ((rd_L2 x102001 x4).length : Int) > 30 then (some false) else (shuttlecockref06_Small.l1 k (wrap64 (x4 + 1)) x102000 x102001)) else (none)) else (if (x102000.length : Int) ≤ 60 then (some (decide ((x102001.length : Int) ≤ 60))) else (some false))
end
def shuttlecockref06_Small.f (k : Nat) (l0_0 : List ByteArray) (l0_1 : List (List (S50))) : Option (Bool) := shuttlecockref06_Small.l0 k 0 l0_0 l0_1
theorem shuttlecockref06_Small.mono_l : ∀ k, (∀ y0 y1 y2, LeO (shuttlecockref06_Small.l0 k y0 y1 y2) (shuttlecockref06_Small.l0 (k + 1) y0 y1 y2)) ∧ (∀ y0 y1 y2, LeO (shuttlecockref06_Small.l1 k y0 y1 y2) (shuttlecockref06_Small.l1 (k + 1) y0 y1 y2))
 | 0 => ⟨fun _ _ _ r h => by simp [shuttlecockref06_Small.l0] at h, fun _ _ _ r h => by simp [shuttlecockref06_Small.l1] at h⟩
 | k + 1 => by
  obtain ⟨ih0, ih1⟩ := shuttlecockref06_Small.mono_l k
  refine ⟨?_, ?_⟩
  ·
   intro y0 y1 y2
   unfold shuttlecockref06_Small.l0
   repeat' first
   | (with_reducible exact ih0 _ _ _)
   | (with_reducible exact ih1 _ _ _)
   | (with_reducible exact LeO.refl _)
   | (with_reducible exact LeO.none _)
   | (with_reducible refine LeO.ite ?_ ?_)
   | (with_reducible refine LeO.bind ?_ (fun _ => ?_))
   | exact LeO.none _
   | refine LeO.ite ?_ ?_
   | refine LeO.bind ?_ (fun _ => ?_)
  ·
   intro y0 y1 y2
   unfold shuttlecockref06_Small.l1
   repeat' first
   | (with_reducible exact ih0 _ _ _)
   | (with_reducible exact ih1 _ _ _)
   | (with_reducible exact LeO.refl _)
   | (with_reducible exact LeO.none _)
   | (with_reducible refine LeO.ite ?_ ?_)
   | (with_reducible refine LeO.bind ?_ (fun _ => ?_))
   | exact LeO.none _
   | refine LeO.ite ?_ ?_
   | refine LeO.bind ?_ (fun _ => ?_)
theorem shuttlecockref06_Small.mono : ∀ a0 a1 k, LeO (shuttlecockref06_Small.f k a0 a1) (shuttlecockref06_Small.f (k + 1) a0 a1) := by
 intro a0 a1 k
 obtain ⟨ih0, ih1⟩ := shuttlecockref06_Small.mono_l k
 unfold shuttlecockref06_Small.f
 repeat' first
   | (with_reducible exact ih0 _ _ _)
   | (with_reducible exact ih1 _ _ _)
   | (with_reducible exact LeO.refl _)
   | (with_reducible exact LeO.none _)
   | (with_reducible refine LeO.ite ?_ ?_)
   | (with_reducible refine LeO.bind ?_ (fun _ => ?_))
   | exact LeO.none _
   | refine LeO.ite ?_ ?_
   | refine LeO.bind ?_ (fun _ => ?_)
set_option maxHeartbeats 8000000 in
set_option maxRecDepth 100000 in
theorem shuttlecockref06_Small.calls (k : Nat) (A0_0 : Option Addr) (c0_0 : Nat) (l0_0 : List ByteArray) (A0_1 : Option Addr) (c0_1 : Nat) (l0_1 : List (List (S50))) (r : Bool) (w : World) (hr0_0 : Kd.C Kd.string w A0_0 l0_0.length l0_0) (hc0_0 : l0_0.length ≤ c0_0) (hr0_1 : Kd.C (Kd.slice 50 k50) w A0_1 l0_1.length l0_1) (hc0_1 : l0_1.length ≤ c0_1) (h : shuttlecockref06_Small.f k l0_0 l0_1 = some r) :
  Calls Try.prog 8 #[.agg #[.slice A0_0 l0_0.length c0_0, .slice A0_1 l0_1.length c0_1]] w fun e w' => e = .returned (.bool r) ∧ Below w.heap.size w w' := by
 have hu25 := Try.underlying25
 have HR0_0 := Am hr0_0
 have HC0_0 := Am hc0_0
 clear hr0_0 hc0_0
 have HR0_1 := Am hr0_1
 have HC0_1 := Am hc0_1
 clear hr0_1 hc0_1
 have HB := Am (Below.refl w.heap.size w)
 have H : (shuttlecockref06_Small.l0 k 0 l0_0 l0_1) = some r := h
 clear h
 have H' := Am H
 clear H
 go_enter Try.func8, Try.ntmps8
 go_wp2_with (first | ((with_reducible refine gate_dst (N := 1) rfl ?_); (try (refine gate_guard (by rfl) ?_; dsimp only)); refine box_event ?hg (N := 1) ?hd (cs := #[.slice A0_0 l0_0.length c0_0, .slice A0_1 l0_1.length c0_1]) (t := 25) ?hr ?_; (case hd => rfl); (case hg => rfl); (case hr => first | (go_simp; done) | (go_simp; rfl)); intro gb101 hg w2 hbox hb; have BK101 := Am (hbox); have GW101 := Am ((by rw [hg]; exact (below_size (by repeat (first | (with_reducible first | exact HB.out | apply bl | apply pN | apply b1) | exact HB.out | exact HBo.out))) : w.heap.size ≤ gb101)); have GE101 := GW101; replace HB := Am (below_step (by repeat (first | (with_reducible first | exact HB.out | apply bl | apply pN | apply b1) | exact HB.out | exact HBo.out)) hb); clear hb hbox hg))
 go_loopg [3] k (fun kq v3 w' => ∃ (x3_1 : Int), v3 = .int .i64 x3_1 ∧ Aside0 (shuttlecockref06_Small.l0 kq x3_1 l0_0 l0_1 = some r) ∧ Aside0 (kq ≤ k) ∧ Aside0 (w'.heap[gb101]? = some (.cells #[(.slice A0_0 l0_0.length c0_0), (.slice A0_1 l0_1.length c0_1)] 25 (0, 0))) ∧ Aside0 (Below w.heap.size w w'))
 case atStart => exact ⟨(0), (by first | rfl | (simp; done) | (simp [*]; done)), H', ⟨Nat.le_refl _⟩, ⟨by (with_reducible repeat (first|apply bn|apply bd|apply ba)); exact BK101.out⟩, ⟨by repeat (first | (with_reducible first | exact HB.out | apply bl | apply pN | apply b1 | refine bs ?_ GE101.out) | exact HB.out | exact HBo.out)⟩⟩
 case round =>
  clear H'
  try clear p2
  obtain ⟨x3_1, rfl, HA, HK1, BK101, HB⟩ := hrel
  cases gk with
  | zero => exact absurd HA.out (by simp [shuttlecockref06_Small.l0])
  | succ k1 =>
   have H := HA.out
   clear HA
   simp only [shuttlecockref06_Small.l0] at H
   by_cases c3 : x3_1 < (l0_0.length : Int)
   ·
    rw [if_pos c3] at H
    have c3b0 : decide (x3_1 < (l0_0.length : Int)) = true := decide_eq_true c3
    clear c3
    by_cases c4 : 0 ≤ x3_1
    ·
     rw [if_pos c4] at H
     have c4b0 : decide (0 ≤ x3_1) = true := decide_eq_true c4
     clear c4
     by_cases c5 : ((rdOf ByteArray.empty l0_0 x3_1).size : Int) > 1100
     ·
      rw [if_pos c5] at H
      have c5b0 : decide (1100 < ((rdOf ByteArray.empty l0_0 x3_1).size : Int)) = true := decide_eq_true c5
      have c5b1 : decide (1100 < (rdOf ByteArray.empty l0_0 x3_1).size) = true := decide_eq_true (by omega)
      clear c5
      obtain rfl := Option.some.inj H
      have hcz6_0 := Own.bc2 BK101.out 0
      have hcz6_1 := Own.bc2 BK101.out 1
      have hfz6_0 := bf BK101.out 0
      have hfz6_1 := bf BK101.out 1
      have p102 : 0 ≤ (x3_1 : Int) := of_decide_eq_true (by first | (with_reducible assumption) | assumption)
      have q102 : x3_1 < (l0_0.length : Int) := of_decide_eq_true (by first | (with_reducible assumption) | assumption)
      obtain ⟨ad102, e102, hx102_0⟩ := Kd.at_string HR0_0.out x3_1 p102 q102
      cases e102
      replace hx102_0 := (HB.out.cell (World.block_lt_of_cell? w _ hx102_0)).trans hx102_0
      replace p102 := eq_true p102
      replace q102 := eq_true q102
      go_wp2
      go_ret
      exact ⟨by first | rfl | (simp <;> rfl) | (simp [*] <;> rfl) | (simp [Aid.ne_nil, Aid.eq_nil]; done), by repeat (first | (with_reducible first | exact HB.out | apply bl | apply pN | apply b1 | refine bs ?_ GE101.out) | exact HB.out | exact HBo.out)⟩
     ·
      rw [if_neg c5] at H
      have c5b0 : decide (1100 < ((rdOf ByteArray.empty l0_0 x3_1).size : Int)) = false := decide_eq_false c5
      have c5b1 : decide (1100 < (rdOf ByteArray.empty l0_0 x3_1).size) = false := decide_eq_false (by omega)
      clear c5
      have H' := Am H
      clear H
      have hcz7_0 := Own.bc2 BK101.out 0
      have hcz7_1 := Own.bc2 BK101.out 1
      have hfz7_0 := bf BK101.out 0
      have hfz7_1 := bf BK101.out 1
      have p102 : 0 ≤ (x3_1 : Int) := of_decide_eq_true (by first | (with_reducible assumption) | assumption)
      have q102 : x3_1 < (l0_0.length : Int) := of_decide_eq_true (by first | (with_reducible assumption) | assumption)
      obtain ⟨ad102, e102, hx102_0⟩ := Kd.at_string HR0_0.out x3_1 p102 q102
      cases e102
      replace hx102_0 := (HB.out.cell (World.block_lt_of_cell? w _ hx102_0)).trans hx102_0
      replace p102 := eq_true p102
      replace q102 := eq_true q102
      go_wp2
      go_roundg k1
      case measure => have := HK1.out; omega
      case rel => exact ⟨(wrap64 (x3_1 + 1)), (by first | rfl | (simp; done) | (simp [*]; done)), H', ⟨by have := HK1.out; omega⟩, ⟨by (with_reducible repeat (first|apply bn|apply bd|apply ba)); exact BK101.out⟩, ⟨by repeat (first | (with_reducible first | exact HB.out | apply bl | apply pN | apply b1 | refine bs ?_ GE101.out) | exact HB.out | exact HBo.out)⟩⟩
    ·
     rw [if_neg c4] at H
     exact absurd H (by simp)
   ·
    rw [if_neg c3] at H
    have c3b0 : decide (x3_1 < (l0_0.length : Int)) = false := decide_eq_false c3
    clear c3
    have H' := Am H
    clear H
    have hcz8_0 := Own.bc2 BK101.out 0
    have hcz8_1 := Own.bc2 BK101.out 1
    have hfz8_0 := bf BK101.out 0
    have hfz8_1 := bf BK101.out 1
    go_wp2
    go_loopg [4] k1 (fun kq v4 w' => ∃ (x4_2 : Int), v4 = .int .i64 x4_2 ∧ Aside0 (shuttlecockref06_Small.l1 kq x4_2 l0_0 l0_1 = some r) ∧ Aside0 (kq ≤ k1) ∧ Aside0 (w'.heap[gb101]? = some (.cells #[(.slice A0_0 l0_0.length c0_0), (.slice A0_1 l0_1.length c0_1)] 25 (0, 0))) ∧ Aside0 (Below w.heap.size w w'))
    case atStart => exact ⟨(0), (by first | rfl | (simp; done) | (simp [*]; done)), H', ⟨Nat.le_refl _⟩, ⟨by (with_reducible repeat (first|apply bn|apply bd|apply ba)); exact BK101.out⟩, ⟨by repeat (first | (with_reducible first | exact HB.out | apply bl | apply pN | apply b1 | refine bs ?_ GE101.out) | exact HB.out | exact HBo.out)⟩⟩
    case round =>
     clear H'
     try clear p1
     try clear q1
     try clear hx1
     try clear p2
     try clear c3
     try clear c3b0
     try clear c4
     try clear c4b0
     try clear c5
     try clear c5b0
     try clear c5b1
     try clear p6
     try clear c8
     try clear hcz6_0
     try clear hcz6_1
     try clear hcz7_0
     try clear hcz7_1
     try clear hcz8_0
     try clear hcz8_1
     try clear hfz6_0
     try clear hfz6_1
     try clear hfz7_0
     try clear hfz7_1
     try clear hfz8_0
     try clear hfz8_1
     try clear hx102_0
     try clear p102
     try clear p2
     try clear q102
     obtain ⟨x4_2, rfl, HA, HK2, BK101, HB⟩ := hrel
     cases gk with
     | zero => exact absurd HA.out (by simp [shuttlecockref06_Small.l1])
     | succ k2 =>
      have H := HA.out
      clear HA
      simp only [shuttlecockref06_Small.l1] at H
      by_cases c9 : x4_2 < (l0_1.length : Int)
      ·
       rw [if_pos c9] at H
       have c9b0 : decide (x4_2 < (l0_1.length : Int)) = true := decide_eq_true c9
       clear c9
       by_cases c10 : 0 ≤ x4_2
       ·
        rw [if_pos c10] at H
        have c10b0 : decide (0 ≤ x4_2) = true := decide_eq_true c10
        clear c10
        by_cases c11 : ((rd_L2 l0_1 x4_2).length : Int) > 30
        ·
         rw [if_pos c11] at H
         have c11b0 : decide (30 < ((rd_L2 l0_1 x4_2).length : Int)) = true := decide_eq_true c11
         have c11b1 : decide (30 < (rd_L2 l0_1 x4_2).length) = true := decide_eq_true (by omega)
         clear c11
         obtain rfl := Option.some.inj H
         have hcz12_0 := Own.bc2 BK101.out 0
         have hcz12_1 := Own.bc2 BK101.out 1
         have hfz12_0 := bf BK101.out 0
         have hfz12_1 := bf BK101.out 1
         have p103 : 0 ≤ (x4_2 : Int) := of_decide_eq_true (by first | (with_reducible assumption) | assumption)
         have q103 : x4_2 < (l0_1.length : Int) := of_decide_eq_true (by first | (with_reducible assumption) | assumption)
         obtain ⟨ad103, A103_0, c103_0, e103, hx103_0, hl103_0, hi103_0⟩ := at_L2 HR0_1.out x4_2 p103 q103
         cases e103
         replace hx103_0 := (HB.out.cell (World.block_lt_of_cell? w _ hx103_0)).trans hx103_0
         have HR103_0 := Am hi103_0
         have HC103_0 := Am hl103_0
         clear hi103_0 hl103_0
         replace p103 := eq_true p103
         replace q103 := eq_true q103
         go_wp2
         go_ret
         exact ⟨by first | rfl | (simp <;> rfl) | (simp [*] <;> rfl) | (simp [Aid.ne_nil, Aid.eq_nil]; done), by repeat (first | (with_reducible first | exact HB.out | apply bl | apply pN | apply b1 | refine bs ?_ GE101.out) | exact HB.out | exact HBo.out)⟩
        ·
         rw [if_neg c11] at H
         have c11b0 : decide (30 < ((rd_L2 l0_1 x4_2).length : Int)) = false := decide_eq_false c11
         have c11b1 : decide (30 < (rd_L2 l0_1 x4_2).length) = false := decide_eq_false (by omega)
         clear c11
         have H' := Am H
         clear H
         have hcz13_0 := Own.bc2 BK101.out 0
         have hcz13_1 := Own.bc2 BK101.out 1
         have hfz13_0 := bf BK101.out 0
         have hfz13_1 := bf BK101.out 1
         have p103 : 0 ≤ (x4_2 : Int) := of_decide_eq_true (by first | (with_reducible assumption) | assumption)
         have q103 : x4_2 < (l0_1.length : Int) := of_decide_eq_true (by first | (with_reducible assumption) | assumption)
         obtain ⟨ad103, A103_0, c103_0, e103, hx103_0, hl103_0, hi103_0⟩ := at_L2 HR0_1.out x4_2 p103 q103
         cases e103
         replace hx103_0 := (HB.out.cell (World.block_lt_of_cell? w _ hx103_0)).trans hx103_0
         have HR103_0 := Am hi103_0
         have HC103_0 := Am hl103_0
         clear hi103_0 hl103_0
         replace p103 := eq_true p103
         replace q103 := eq_true q103
         go_wp2
         go_roundg k2
         case measure => have := HK1.out; have := HK2.out; omega
         case rel => exact ⟨(wrap64 (x4_2 + 1)), (by first | rfl | (simp; done) | (simp [*]; done)), H', ⟨by have := HK1.out; have := HK2.out; omega⟩, ⟨by (with_reducible repeat (first|apply bn|apply bd|apply ba)); exact BK101.out⟩, ⟨by repeat (first | (with_reducible first | exact HB.out | apply bl | apply pN | apply b1 | refine bs ?_ GE101.out) | exact HB.out | exact HBo.out)⟩⟩
       ·
        rw [if_neg c10] at H
        exact absurd H (by simp)
      ·
       rw [if_neg c9] at H
       have c9b0 : decide (x4_2 < (l0_1.length : Int)) = false := decide_eq_false c9
       clear c9
       by_cases c14 : (l0_0.length : Int) ≤ 60
       ·
        rw [if_pos c14] at H
        have c14b0 : decide ((l0_0.length : Int) ≤ 60) = true := decide_eq_true c14
        have c14b1 : decide (l0_0.length ≤ 60) = true := decide_eq_true (by omega)
        clear c14
        obtain rfl := Option.some.inj H
        have hcz15_0 := Own.bc2 BK101.out 0
        have hcz15_1 := Own.bc2 BK101.out 1
        have hfz15_0 := bf BK101.out 0
        have hfz15_1 := bf BK101.out 1
        go_wp2
        go_ret
        exact ⟨by first | rfl | (simp <;> rfl) | (simp [*] <;> rfl) | (simp [Aid.ne_nil, Aid.eq_nil]; done), by repeat (first | (with_reducible first | exact HB.out | apply bl | apply pN | apply b1 | refine bs ?_ GE101.out) | exact HB.out | exact HBo.out)⟩
       ·
        rw [if_neg c14] at H
        have c14b0 : decide ((l0_0.length : Int) ≤ 60) = false := decide_eq_false c14
        have c14b1 : decide (l0_0.length ≤ 60) = false := decide_eq_false (by omega)
        clear c14
        obtain rfl := Option.some.inj H
        have hcz16_0 := Own.bc2 BK101.out 0
        have hcz16_1 := Own.bc2 BK101.out 1
        have hfz16_0 := bf BK101.out 0
        have hfz16_1 := bf BK101.out 1
        go_wp2
        go_ret
        exact ⟨by first | rfl | (simp <;> rfl) | (simp [*] <;> rfl) | (simp [Aid.ne_nil, Aid.eq_nil]; done), by repeat (first | (with_reducible first | exact HB.out | apply bl | apply pN | apply b1 | refine bs ?_ GE101.out) | exact HB.out | exact HBo.out)⟩

/-! ### shuttlecockref06_Few: function 9 -/
def shuttlecockref06_Few.l0 : Nat → List (S45) → Int → Option (Bool)
 | 0, _, _ => none
 | k + 1, x0, x3 => if x3 < (x0.length : Int) then (if 0 ≤ x3 then (if (((rd_T45 x0 x3).f0).size : Int) > 1100 then (some false) else (shuttlecockref06_Few.l0 k x0 (wrap64 (x3 + 1)))) else (none)) else (some (decide ((x0.length : Int) ≤ 30)))
def shuttlecockref06_Few.f (k : Nat) (l0 : List (S45)) : Option (Bool) := shuttlecockref06_Few.l0 k l0 0
theorem shuttlecockref06_Few.mono_l : ∀ k, (∀ y0 y1, LeO (shuttlecockref06_Few.l0 k y0 y1) (shuttlecockref06_Few.l0 (k + 1) y0 y1))
 | 0 => fun _ _ r h => by simp [shuttlecockref06_Few.l0] at h
 | k + 1 => by
  have ih0 := shuttlecockref06_Few.mono_l k
  ·
   intro y0 y1
   unfold shuttlecockref06_Few.l0
   repeat' first
   | (with_reducible exact ih0 _ _)
   | (with_reducible exact LeO.refl _)
   | (with_reducible exact LeO.none _)
   | (with_reducible refine LeO.ite ?_ ?_)
   | (with_reducible refine LeO.bind ?_ (fun _ => ?_))
   | exact LeO.none _
   | refine LeO.ite ?_ ?_
   | refine LeO.bind ?_ (fun _ => ?_)
theorem shuttlecockref06_Few.mono : ∀ a0 k, LeO (shuttlecockref06_Few.f k a0) (shuttlecockref06_Few.f (k + 1) a0) := by
 intro a0 k
 have ih0 := shuttlecockref06_Few.mono_l k
 unfold shuttlecockref06_Few.f
 repeat' first
   | (with_reducible exact ih0 _ _)
   | (with_reducible exact LeO.refl _)
   | (with_reducible exact LeO.none _)
   | (with_reducible refine LeO.ite ?_ ?_)
   | (with_reducible refine LeO.bind ?_ (fun _ => ?_))
   | exact LeO.none _
   | refine LeO.ite ?_ ?_
   | refine LeO.bind ?_ (fun _ => ?_)
set_option maxHeartbeats 8000000 in
set_option maxRecDepth 100000 in
theorem shuttlecockref06_Few.calls (k : Nat) (A0 : Option Addr) (c0 : Nat) (l0 : List (S45)) (r : Bool) (w : World) (hr0 : Kd.C k45 w A0 l0.length l0) (hc0 : l0.length ≤ c0) (h : shuttlecockref06_Few.f k l0 = some r) :
  Calls Try.prog 9 #[.slice A0 l0.length c0] w fun e w' => e = .returned (.bool r) ∧ Drawn0 w w' := by
 have HR0 := Am hr0
 have HC0 := Am hc0
 clear hr0 hc0
 have H : (shuttlecockref06_Few.l0 k l0 0) = some r := h
 clear h
 have H' := Am H
 clear H
 go_enter Try.func9, Try.ntmps9
 go_wp2
 go_loopg [3] k (fun kq v3 w' => ∃ (x3_1 : Int), v3 = .int .i64 x3_1 ∧ Aside0 (shuttlecockref06_Few.l0 kq l0 x3_1 = some r) ∧ Aside0 (kq ≤ k) ∧ Drawn0 w w')
 case atStart => exact ⟨(0), (by first | rfl | (simp; done) | (simp [*]; done)), H', ⟨Nat.le_refl _⟩, by repeat (first | exact Drawn0.refl _ | apply Drawn0.step)⟩
 case round =>
  clear H'
  obtain ⟨x3_1, rfl, HA, HK1, ⟨m1, rfl⟩⟩ := hrel
  cases gk with
  | zero => exact absurd HA.out (by simp [shuttlecockref06_Few.l0])
  | succ k1 =>
   have H := HA.out
   clear HA
   simp only [shuttlecockref06_Few.l0] at H
   by_cases c2 : x3_1 < (l0.length : Int)
   ·
    rw [if_pos c2] at H
    have c2b0 : decide (x3_1 < (l0.length : Int)) = true := decide_eq_true c2
    clear c2
    by_cases c3 : 0 ≤ x3_1
    ·
     rw [if_pos c3] at H
     have c3b0 : decide (0 ≤ x3_1) = true := decide_eq_true c3
     clear c3
     by_cases c4 : (((rd_T45 l0 x3_1).f0).size : Int) > 1100
     ·
      rw [if_pos c4] at H
      have c4b0 : decide (1100 < (((rd_T45 l0 x3_1).f0).size : Int)) = true := decide_eq_true c4
      have c4b1 : decide (1100 < ((rd_T45 l0 x3_1).f0).size) = true := decide_eq_true (by omega)
      clear c4
      obtain rfl := Option.some.inj H
      have p104 : 0 ≤ (x3_1 : Int) := of_decide_eq_true (by first | (with_reducible assumption) | assumption)
      have q104 : x3_1 < (l0.length : Int) := of_decide_eq_true (by first | (with_reducible assumption) | assumption)
      obtain ⟨ad104, e104, hx104_0, hx104_1⟩ := at_T45 HR0.out x3_1 p104 q104
      cases e104
      replace p104 := eq_true p104
      replace q104 := eq_true q104
      go_wp2
      go_ret
      exact ⟨by first | rfl | (simp; done) | (simp [*]; done), by repeat (first | exact Drawn0.refl _ | apply Drawn0.step)⟩
     ·
      rw [if_neg c4] at H
      have c4b0 : decide (1100 < (((rd_T45 l0 x3_1).f0).size : Int)) = false := decide_eq_false c4
      have c4b1 : decide (1100 < ((rd_T45 l0 x3_1).f0).size) = false := decide_eq_false (by omega)
      clear c4
      have H' := Am H
      clear H
      have p104 : 0 ≤ (x3_1 : Int) := of_decide_eq_true (by first | (with_reducible assumption) | assumption)
      have q104 : x3_1 < (l0.length : Int) := of_decide_eq_true (by first | (with_reducible assumption) | assumption)
      obtain ⟨ad104, e104, hx104_0, hx104_1⟩ := at_T45 HR0.out x3_1 p104 q104
      cases e104
      replace p104 := eq_true p104
      replace q104 := eq_true q104
      go_wp2
      go_roundg k1
      case measure => have := HK1.out; omega
      case rel => exact ⟨(wrap64 (x3_1 + 1)), (by first | rfl | (simp; done) | (simp [*]; done)), H', ⟨by have := HK1.out; omega⟩, by repeat (first | exact Drawn0.refl _ | apply Drawn0.step)⟩
    ·
     rw [if_neg c3] at H
     exact absurd H (by simp)
   ·
    rw [if_neg c2] at H
    have c2b0 : decide (x3_1 < (l0.length : Int)) = false := decide_eq_false c2
    clear c2
    obtain rfl := Option.some.inj H
    go_wp2
    go_ret
    exact ⟨by first | rfl | (simp; done) | (simp [*]; done), by repeat (first | exact Drawn0.refl _ | apply Drawn0.step)⟩

/-! ### intern_frames: function 30, by hand -/
/-- Is a frame none that may be, of so many strings? -/
def outF (m : Int) (x : S50) : Bool := decide (x.f0 < 1) || decide (m < x.f0) || decide (x.f1 < 0) || decide (4611686018427387904 ≤ x.f1)
def framesB (l0 : List S50) (m : Int) : Bool := if l0.length = 0 ∨ 100 < l0.length then false else !l0.any (outF m)
def intern_frames.f (l0 : List S50) (a1 : Int) : Option (Bool) := some (framesB l0 a1)
set_option maxHeartbeats 4000000 in
set_option maxRecDepth 100000 in
theorem outF.calls (m : Int) (x : S50) (b : Nat) (w : World) (hc : w.cell? ⟨b, 0, none⟩ = some (.int .i64 m)) : Calls Try.prog 39 #[.agg #[.int .i64 x.f0, .int .i64 x.f1], .pointer (some ⟨b, 0, none⟩)] w fun e w' => e = .returned (.bool (outF m x)) ∧ Below w.heap.size w w' := by
 have hc1 : (w.alloc (.cells #[.int .i64 x.f0, .int .i64 x.f1] 50)).cell? ⟨b, 0, none⟩ = some (.int .i64 m) := ((bl (Below.refl w.heap.size w) _).cell (World.block_lt_of_cell? w _ hc)).trans hc
 unfold outF
 go_enter Try.func39, Try.ntmps39
 go_wp2
 all_goals (go_ret; exact ⟨by first | rfl | simp [*], bl (Below.refl _ _) _⟩)
theorem any_take_outF {m : Int} {l : List S50} {x : Int} (h0 : 0 ≤ x) (h1 : x < (l.length : Int)) : (l.take (x.toNat + 1)).any (outF m) = ((l.take x.toNat).any (outF m) || outF m (rd_T50 l x)) := by
 have hx : x.toNat < l.length := by omega
 unfold rd_T50
 rw [List.take_succ_eq_append_getElem hx, List.any_append, List.getD_eq_getElem?_getD, List.getElem?_eq_getElem hx]
 simp
theorem any_outF_of {m : Int} {l : List S50} {x : Int} (h0 : 0 ≤ x) (h1 : x < (l.length : Int)) (h : outF m (rd_T50 l x) = true) : l.any (outF m) = true := by
 have hx : x.toNat < l.length := by omega
 unfold rd_T50 at h
 rw [List.getD_eq_getElem?_getD, List.getElem?_eq_getElem hx] at h
 exact List.any_eq_true.2 ⟨_, List.getElem_mem hx, h⟩
theorem nx_fr (x : Int) (n : Nat) (h : x < (n : Int)) (h0 : 0 ≤ x) (hn : n ≤ 9223372036854775807) : wrap64 (x + 1) = x + 1 := by
 unfold wrap64
 omega
set_option maxHeartbeats 4000000 in
set_option maxRecDepth 100000 in
theorem IndexF.calls (m : Int) (b : Nat) (A0 : Option Addr) (c0 : Nat) (l0 : List S50) (w : World) (hr0 : Kd.C k50 w A0 l0.length l0) (hm : w.cell? ⟨b, 0, none⟩ = some (.int .i64 m)) :
  Calls Try.prog 43 #[.slice A0 l0.length c0, .func (.func 39) #[] #[.pointer (some ⟨b, 0, none⟩)]] w fun e w' => ∃ i : Int, e = .returned (.int .i64 i) ∧ decide (0 ≤ i) = l0.any (outF m) ∧ Below w.heap.size w w' := by
 have hml := hr0.2.1
 have HR := Am hr0
 have HM := Am hm
 clear hr0 hm
 have hu50 := Try.underlying50
 go_enter Try.func43, Try.ntmps43
 go_wp2
 go_loopg [8] (l0.length + 1) (fun kq v8 w' => ∃ x : Int, v8 = .int .i64 x ∧ Aside0 (0 ≤ x ∧ x ≤ l0.length ∧ (kq : Int) + x = l0.length + 1 ∧ (l0.take x.toNat).any (outF m) = false) ∧ Aside0 (Below w.heap.size w w'))
 case atStart => exact ⟨0, rfl, ⟨by omega, by omega, by omega, rfl⟩, ⟨by repeat (first | exact Below.refl _ _ | apply b1)⟩⟩
 case round =>
  obtain ⟨x, rfl, HA, HB⟩ := hrel
  cases gk with
  | zero => exact absurd HA.out.2.2.1 (by have := HA.out.2.1; omega)
  | succ k1 =>
  by_cases d1 : x < (l0.length : Int)
  ·
   have d1b : decide (x < (l0.length : Int)) = true := decide_eq_true d1
   have d0 := HA.out.1
   obtain ⟨ad, ea, hx0, hx1⟩ := at_T50 HR.out x d0 d1
   cases ea
   replace hx0 := (HB.out.cell (World.block_lt_of_cell? w _ hx0)).trans hx0
   replace hx1 := (HB.out.cell (World.block_lt_of_cell? w _ hx1)).trans hx1
   have p1 := eq_true d0
   have q1 := eq_true d1
   have HD := Am (And.intro d0 d1)
   clear d0 d1
   have HC := fun W hW => outF.calls m (rd_T50 l0 x) b W hW
   have HMM : ∀ W, Below w.heap.size w W → W.cell? ⟨b, 0, none⟩ = some (.int .i64 m) := fun W hW => (hW.cell (World.block_lt_of_cell? w _ HM.out)).trans HM.out
   replace HMM := Am HMM
   cases ho : outF m (rd_T50 l0 x) with
   | true =>
    rw [ho] at HC
    have HO := Am ho
    have HCC := Am HC
    clear ho HC
    go_wp2_with (first | (go_at_call 39; (with_reducible refine (HCC.out _ (HMM.out _ (by repeat (first | exact HB.out | apply b1)))).mono ?_); rintro e w1 ⟨rfl, hb⟩; have HB1 := Am (below_step HB.out hb); clear hb))
    go_ret
    exact ⟨x, rfl, by rw [any_outF_of HD.out.1 HD.out.2 HO.out]; exact decide_eq_true HD.out.1, HB1.out⟩
   | false =>
    rw [ho] at HC
    have HO := Am ho
    have HCC := Am HC
    clear ho HC
    go_wp2_with (first | (go_at_call 39; (with_reducible refine (HCC.out _ (HMM.out _ (by repeat (first | exact HB.out | apply b1)))).mono ?_); rintro e w1 ⟨rfl, hb⟩; have HB1 := Am (below_step HB.out hb); clear hb))
    go_roundg k1
    case rel => exact ⟨_, rfl, ⟨by have := HA.out; rw [nx_fr x l0.length HD.out.2 HA.out.1 hml]; omega, by have := HD.out; rw [nx_fr x l0.length HD.out.2 HA.out.1 hml]; omega, by have := HA.out; rw [nx_fr x l0.length HD.out.2 HA.out.1 hml]; omega, by rw [nx_fr x l0.length HD.out.2 HA.out.1 hml, show (x + 1).toNat = x.toNat + 1 by have := HA.out.1; omega, any_take_outF HD.out.1 HD.out.2, HA.out.2.2.2, HO.out]; rfl⟩, HB1⟩
    case measure => exact Nat.lt_succ_self _
  ·
   have d1b : decide (x < (l0.length : Int)) = false := decide_eq_false d1
   have HX := Am d1
   clear d1
   go_wp2
   go_ret
   have e1 : l0.any (outF m) = false := by
    have := HA.out.2.2.2
    rwa [show x.toNat = l0.length by have := HX.out; have := HA.out.2.1; omega, List.take_length] at this
   exact ⟨_, rfl, by rw [e1]; rfl, HB.out⟩
set_option maxHeartbeats 2000000 in
set_option maxRecDepth 100000 in
theorem ContainsF.calls (m : Int) (b : Nat) (A0 : Option Addr) (c0 : Nat) (l0 : List S50) (w : World) (hr0 : Kd.C k50 w A0 l0.length l0) (hm : w.cell? ⟨b, 0, none⟩ = some (.int .i64 m)) :
  Calls Try.prog 38 #[.slice A0 l0.length c0, .func (.func 39) #[] #[.pointer (some ⟨b, 0, none⟩)]] w fun e w' => e = .returned (.bool (l0.any (outF m))) ∧ Below w.heap.size w w' := by
 have H := Am (IndexF.calls m b A0 c0 l0 w hr0 hm)
 clear hr0 hm
 go_enter Try.func38, Try.ntmps38
 go_wp2_with (first | (go_at_call 43; (with_reducible refine H.out.mono ?_); rintro e w1 ⟨i, rfl, hi, hb⟩; have HB1 := Am hb; have HI := Am hi; clear hb hi))
 go_ret
 exact ⟨by first | rfl | (rw [← HI.out]; rfl), HB1.out⟩
set_option maxHeartbeats 4000000 in
set_option maxRecDepth 100000 in
theorem intern_frames.calls (A0 : Option Addr) (c0 : Nat) (l0 : List S50) (a1 : Int) (r : Bool) (w : World) (hr0 : Kd.C k50 w A0 l0.length l0) (hc0 : l0.length ≤ c0) (h : intern_frames.f l0 a1 = some r) :
  Calls Try.prog 30 #[.slice A0 l0.length c0, .int .i64 a1] w fun e w' => e = .returned (.bool r) ∧ Below w.heap.size w w' := by
 obtain rfl := Option.some.inj h
 have hmf : ∀ (fn : Fn) (first cap : Array Value) (W : World), (Instr.makeFunc fn first cap).run Try.prog W = .ok (.func fn first cap) W := fun _ _ _ _ => rfl
 have hb0 := bl (Below.refl w.heap.size w) (.cells #[.int .i64 a1] 3)
 have H := Am (ContainsF.calls a1 w.heap.size A0 c0 l0 (w.alloc (.cells #[.int .i64 a1] 3)) (Kd.C_below hr0 hb0) ((bc (blk_new w _) 0).trans rfl))
 have HB0 := Am hb0
 clear hr0 hc0 h hb0
 unfold framesB
 by_cases h0 : l0.length = 0
 ·
  have h0b : ((l0.length : Int) == 0) = true := beq_iff_eq.mpr (by omega)
  have hF : (if l0.length = 0 ∨ 100 < l0.length then false else !l0.any (outF a1)) = false := if_pos (.inl h0)
  rw [hF]
  go_enter Try.func30, Try.ntmps30
  go_wp2
  go_ret
  exact ⟨rfl, by repeat (first | exact HB0.out | apply b1)⟩
 ·
  by_cases h1 : 100 < l0.length
  ·
   have h0b : ((l0.length : Int) == 0) = false := beq_eq_false_iff_ne.mpr (by omega)
   have h1b : decide ((100 : Int) < (l0.length : Int)) = true := decide_eq_true (by omega)
   have hF : (if l0.length = 0 ∨ 100 < l0.length then false else !l0.any (outF a1)) = false := if_pos (.inr h1)
   rw [hF]
   go_enter Try.func30, Try.ntmps30
   go_wp2
   go_ret
   exact ⟨rfl, by repeat (first | exact HB0.out | apply b1)⟩
  ·
   have h0b : ((l0.length : Int) == 0) = false := beq_eq_false_iff_ne.mpr (by omega)
   have h1b : decide ((100 : Int) < (l0.length : Int)) = false := decide_eq_false (by omega)
   have hF : (if l0.length = 0 ∨ 100 < l0.length then false else !l0.any (outF a1)) = !l0.any (outF a1) := if_neg (by omega)
   rw [hF]
   go_enter Try.func30, Try.ntmps30
   go_wp2_with (first | (go_at_call 38; (with_reducible refine H.out.mono ?_); rintro e w1 ⟨rfl, hb⟩; have HB1 := Am (below_step HB0.out hb); clear hb))
   go_ret
   exact ⟨by simp, HB1.out⟩

/-! ### varint_Put: function 41 -/
mutual
def varint_Put.j0 : Nat → Int → Bool → Option (ByteArray)
 | 0, _, _ => none
 | k + 1, x0, x9 => if x9 = true then (some (⟨#[]⟩ : ByteArray)) else (varint_Put.l0 k x0 ([] : List Int))
def varint_Put.l0 : Nat → Int → List Int → Option (ByteArray)
 | 0, _, _ => none
 | k + 1, x0, x3 => if x0 ≥ 128 then (if x3.length < 140737488355328 then (varint_Put.l0 k (x0 / 128) (x3 ++ [(Go.bits .or .i64 (Go.bits .and .i64 x0 127) 128) % 256])) else (none)) else (if x3.length < 140737488355328 then (some (strOfNums (x3 ++ [(x0) % 256]))) else (none))
end
def varint_Put.f (k : Nat) (a0 : Int) : Option (ByteArray) := if a0 < 0 then (varint_Put.j0 k a0 true) else (varint_Put.j0 k a0 (decide (a0 ≥ 4611686018427387904)))
theorem varint_Put.mono_l : ∀ k, (∀ y0 y1, LeO (varint_Put.j0 k y0 y1) (varint_Put.j0 (k + 1) y0 y1)) ∧ (∀ y0 y1, LeO (varint_Put.l0 k y0 y1) (varint_Put.l0 (k + 1) y0 y1))
 | 0 => ⟨fun _ _ r h => by simp [varint_Put.j0] at h, fun _ _ r h => by simp [varint_Put.l0] at h⟩
 | k + 1 => by
  obtain ⟨ih0, ih1⟩ := varint_Put.mono_l k
  refine ⟨?_, ?_⟩
  ·
   intro y0 y1
   unfold varint_Put.j0
   repeat' first
   | (with_reducible exact ih0 _ _)
   | (with_reducible exact ih1 _ _)
   | (with_reducible exact LeO.refl _)
   | (with_reducible exact LeO.none _)
   | (with_reducible refine LeO.ite ?_ ?_)
   | (with_reducible refine LeO.bind ?_ (fun _ => ?_))
   | exact LeO.none _
   | refine LeO.ite ?_ ?_
   | refine LeO.bind ?_ (fun _ => ?_)
  ·
   intro y0 y1
   unfold varint_Put.l0
   repeat' first
   | (with_reducible exact ih0 _ _)
   | (with_reducible exact ih1 _ _)
   | (with_reducible exact LeO.refl _)
   | (with_reducible exact LeO.none _)
   | (with_reducible refine LeO.ite ?_ ?_)
   | (with_reducible refine LeO.bind ?_ (fun _ => ?_))
   | exact LeO.none _
   | refine LeO.ite ?_ ?_
   | refine LeO.bind ?_ (fun _ => ?_)
theorem varint_Put.mono : ∀ a0 k, LeO (varint_Put.f k a0) (varint_Put.f (k + 1) a0) := by
 intro a0 k
 obtain ⟨ih0, ih1⟩ := varint_Put.mono_l k
 unfold varint_Put.f
 repeat' first
   | (with_reducible exact ih0 _ _)
   | (with_reducible exact ih1 _ _)
   | (with_reducible exact LeO.refl _)
   | (with_reducible exact LeO.none _)
   | (with_reducible refine LeO.ite ?_ ?_)
   | (with_reducible refine LeO.bind ?_ (fun _ => ?_))
   | exact LeO.none _
   | refine LeO.ite ?_ ?_
   | refine LeO.bind ?_ (fun _ => ?_)
set_option maxHeartbeats 8000000 in
set_option maxRecDepth 100000 in
theorem varint_Put.calls (k : Nat) (a0 : Int) (r : ByteArray) (w : World) (h : varint_Put.f k a0 = some r) :
  Calls Try.prog 41 #[.int .i64 a0] w fun e w' => e = .returned (.string r) ∧ Below w.heap.size w w' := by
 have HB := Am (Below.refl w.heap.size w)
 have H : (if a0 < 0 then (varint_Put.j0 k a0 true) else (varint_Put.j0 k a0 (decide (a0 ≥ 4611686018427387904)))) = some r := h
 clear h
 have HC2 := Am H
 clear H
 go_enter Try.func41, Try.ntmps41
 go_upto_region 1 with (fail)
 go_cut [9] (fun v9 wc => ∃ (kq : Nat) (x9_1 : Bool), v9 = .bool x9_1 ∧ Aside0 (varint_Put.j0 kq a0 x9_1 = some r) ∧ Aside0 (kq ≤ k) ∧ Aside0 (Below w.heap.size w wc))
 case first =>
  have H := HC2.out
  clear HC2
  by_cases c3 : a0 < 0
  ·
   rw [if_pos c3] at H
   have c3b0 : decide (a0 < 0) = true := decide_eq_true c3
   clear c3
   (first | rw [c3b0] | (simp only [i64_w, i32_w]; rw [c3b0]) | skip)
   have H' := Am H
   clear H
   go_wp2
   go_meet
   case rel => exact ⟨_, (true), (by first | rfl | (simp; done) | (simp [*]; done)), H', ⟨by first | omega | exact Nat.le_refl _⟩, ⟨by repeat (first | (with_reducible first | exact HB.out | apply bl | apply pN | apply b1) | exact HB.out | exact HBo.out)⟩⟩
  ·
   rw [if_neg c3] at H
   have c3b0 : decide (a0 < 0) = false := decide_eq_false c3
   clear c3
   (first | rw [c3b0] | (simp only [i64_w, i32_w]; rw [c3b0]) | skip)
   have H' := Am H
   clear H
   go_wp2
   go_meet
   case rel => exact ⟨_, (decide (a0 ≥ 4611686018427387904)), (by first | rfl | (simp; done) | (simp [*]; done)), H', ⟨by first | omega | exact Nat.le_refl _⟩, ⟨by repeat (first | (with_reducible first | exact HB.out | apply bl | apply pN | apply b1) | exact HB.out | exact HBo.out)⟩⟩
 case rest =>
  clear HC2
  try clear p2
  try clear c3
  try clear c3b0
  obtain ⟨kq, x9_1, rfl, HA, HJ1, HB⟩ := hcut
  cases kq with
  | zero => exact absurd HA.out (by simp [varint_Put.j0])
  | succ kj1 =>
   have H := HA.out
   clear HA
   simp only [varint_Put.j0] at H
   by_cases c4 : x9_1 = true
   ·
    subst c4
    rw [if_pos rfl] at H
    obtain rfl := Option.some.inj H
    go_wp2
    go_ret
    exact ⟨by first | rfl | (simp <;> rfl) | (simp [*] <;> rfl) | (simp [Aid.ne_nil, Aid.eq_nil]; done), by repeat (first | (with_reducible first | exact HB.out | apply bl | apply pN | apply b1) | exact HB.out | exact HBo.out)⟩
   ·
    replace c4 := Bool.eq_false_iff.mpr c4
    subst c4
    rw [if_neg (show ¬ (false = true) by decide)] at H
    have H' := Am H
    clear H
    go_wp2
    go_loopg [0, 3] kj1 (fun kq v0 v3 w' => ∃ (x0_2 : Int) (x3_2 : List Int), v0 = .int .i64 x0_2 ∧ Aside0 (varint_Put.l0 kq x0_2 x3_2 = some r) ∧ Aside0 (kq ≤ kj1) ∧ Aside0 (Kd.R (Kd.int .u8) 5 w' w.heap.size (fun _ => True) v3 x3_2) ∧ Aside0 (Below w.heap.size w w'))
    case atStart => exact ⟨(a0), (([] : List Int)), (by first | rfl | (simp; done) | (simp [*]; done)), H', ⟨Nat.le_refl _⟩, ⟨by first | exact Kd.R_nil _ _ _ _ _ | exact Kd.N_nil _ _ _ _ _ | exact Kd.V_nil _ _ _ _ _ | exact Kd.Q_nil _ _ _ _ _ | exact Kd.S_nil _ _ _ _ _⟩, ⟨by repeat (first | (with_reducible first | exact HB.out | apply bl | apply pN | apply b1) | exact HB.out | exact HBo.out)⟩⟩
    case round =>
     clear H'
     try clear p2
     try clear c3
     try clear c3b0
     try clear c4
     try clear p2
     obtain ⟨x0_2, x3_2, rfl, HA, HK2, HO_3, HB⟩ := hrel
     cases gk with
     | zero => exact absurd HA.out (by simp [varint_Put.l0])
     | succ k2 =>
      have H := HA.out
      clear HA
      simp only [varint_Put.l0] at H
      by_cases c5 : x0_2 ≥ 128
      ·
       rw [if_pos c5] at H
       have c5b0 : decide (128 ≤ x0_2) = true := decide_eq_true c5
       clear c5
       by_cases c6 : x3_2.length < 140737488355328
       ·
        rw [if_pos c6] at H
        have LMc6 := Am c6
        clear c6
        obtain ⟨y105, hy105⟩ : ∃ y_ : List Int, y_ = (x3_2 ++ [(Go.bits .or .i64 (Go.bits .and .i64 x0_2 127) 128) % 256]) := ⟨_, rfl⟩
        replace H : (varint_Put.l0 k2 (x0_2 / 128) y105) = some r := by first | (rw [hy105]; with_reducible exact H) | (have H2_ := (Option.bind_some _ _).symm.trans H; rw [hy105]; with_reducible exact H2_) | (have H2_ := (Option.bind_some _ _).symm.trans H; with_reducible exact H2_) | with_reducible exact H | (rw [hy105]; exact H) | exact H
        have Ny105 := Am hy105
        clear hy105
        have H' := Am H
        clear H
        go_wp2_with (first | ((with_reducible refine gate_builtin (b := .append) (xs := #[.tmp 14, .tmp 19]) rfl ?_); at_builtin; refine Kd.R_append (Kd.int .u8) (w0 := w) w.heap.size rfl (.tmp 14) (.tmp 19) 64 5 (.int .u8 0) 1 rfl Try.underlying64 info5 rfl (by decide) (by omega) u3 x3_2 ((Go.bits .or .i64 (Go.bits .and .i64 x0_2 127) 128) % 256) [.int .u8 ((Go.bits .or .i64 (Go.bits .and .i64 x0_2 127) 128) % 256)] (fun _ => True) (fun _ => False) rfl rfl ?aP (fun _ hk => hk.elim) ?aF ?aO ?aB ?aS ?aL ?_; (case aP => exact rfl); (case aB => exact (by repeat (first | (with_reducible first | exact HB.out | apply bl | apply pN | apply b1) | exact HB.out | exact HBo.out))); (case aF => exact (fun _ _ => trivial)); (case aO => exact (by (with_reducible repeat (first | apply Kd.R_alloc | apply Kd.R_drewN | apply Kd.R_drew)); exact HO_3.out)); (case aS => exact (below_size (by repeat (first | (with_reducible first | exact HB.out | apply bl | apply pN | apply b1) | exact HB.out | exact HBo.out)))); (case aL => have := LMc6.out; omega); intro v106 w7 ho hb hg hat; rw [← Ny105.out] at ho; have n0_ := Am (hb); have n1_ := Am (ho); clear HB; clear HO_3; have HB := n0_; have HO107 := n1_; clear n0_ n1_; clear ho hb hg hat))
        go_roundg k2
        case measure => have := HJ1.out; have := HK2.out; omega
        case rel => exact ⟨(x0_2 / 128), (y105), (by first | rfl | (simp; done) | (simp [*]; done)), H', ⟨by have := HJ1.out; have := HK2.out; omega⟩, ⟨by (with_reducible repeat (first | apply Kd.R_alloc | apply Kd.R_drewN | apply Kd.R_drew)); exact HO107.out⟩, ⟨by repeat (first | (with_reducible first | exact HB.out | apply bl | apply pN | apply b1) | exact HB.out | exact HBo.out)⟩⟩
       ·
        rw [if_neg c6] at H
        exact absurd H (by simp)
      ·
       rw [if_neg c5] at H
       have c5b0 : decide (128 ≤ x0_2) = false := decide_eq_false c5
       clear c5
       by_cases c8 : x3_2.length < 140737488355328
       ·
        rw [if_pos c8] at H
        have LMc8 := Am c8
        clear c8
        obtain ⟨y108, hy108⟩ : ∃ y_ : List Int, y_ = (x3_2 ++ [(x0_2) % 256]) := ⟨_, rfl⟩
        replace H : (some (strOfNums y108)) = some r := by first | (rw [hy108]; with_reducible exact H) | (have H2_ := (Option.bind_some _ _).symm.trans H; rw [hy108]; with_reducible exact H2_) | (have H2_ := (Option.bind_some _ _).symm.trans H; with_reducible exact H2_) | with_reducible exact H | (rw [hy108]; exact H) | exact H
        have Ny108 := Am hy108
        clear hy108
        obtain rfl := Option.some.inj H
        go_wp2_with (first | ((with_reducible refine gate_builtin (b := .append) (xs := #[.tmp 21, .tmp 24]) rfl ?_); at_builtin; refine Kd.R_append (Kd.int .u8) (w0 := w) w.heap.size rfl (.tmp 21) (.tmp 24) 64 5 (.int .u8 0) 1 rfl Try.underlying64 info5 rfl (by decide) (by omega) u3 x3_2 ((x0_2) % 256) [.int .u8 ((x0_2) % 256)] (fun _ => True) (fun _ => False) rfl rfl ?aP (fun _ hk => hk.elim) ?aF ?aO ?aB ?aS ?aL ?_; (case aP => exact rfl); (case aB => exact (by repeat (first | (with_reducible first | exact HB.out | apply bl | apply pN | apply b1) | exact HB.out | exact HBo.out))); (case aF => exact (fun _ _ => trivial)); (case aO => exact (by (with_reducible repeat (first | apply Kd.R_alloc | apply Kd.R_drewN | apply Kd.R_drew)); exact HO_3.out)); (case aS => exact (below_size (by repeat (first | (with_reducible first | exact HB.out | apply bl | apply pN | apply b1) | exact HB.out | exact HBo.out)))); (case aL => have := LMc8.out; omega); intro v109 w9 ho hb hg hat; rw [← Ny108.out] at ho; have n0_ := Am (hb); have n1_ := Am (ho); clear HB; clear HO_3; have HB := n0_; have HO110 := n1_; clear n0_ n1_; clear ho hb hg hat; have hcv10 := own_string (P := Try.prog) Try.underlying64 Try.underlying5 Try.underlying9 (Kd.own_of_R HO110.out)))
        go_ret
        exact ⟨by first | rfl | (simp <;> rfl) | (simp [*] <;> rfl) | (simp [Aid.ne_nil, Aid.eq_nil]; done), by repeat (first | (with_reducible first | exact HB.out | apply bl | apply pN | apply b1) | exact HB.out | exact HBo.out)⟩
       ·
        rw [if_neg c8] at H
        exact absurd H (by simp)

/-! ### intern_key: function 31, by hand -/
def intern_key.T5 : Bool × List (List Nat × List Nat) := (true, [([], []), ([0], [0]), ([1], [1]), ([], []), ([3], [3]), ([4, 2], [4]), ([2, 5], [2, 5]), ([6, 5], [6])])
def intern_key.B5 : List Nat := [0, 1, 3, 0, 8, 31, 63, 127]
theorem intern_key.tab5 : rtab .any (opsOf Try.f31 5) = intern_key.T5 := by kernel_rfl
theorem intern_key.bits5 : waitsOk intern_key.T5.2 intern_key.B5 = true := by kernel_rfl
def intern_key.l0 : Nat → List S50 → ByteArray → Int → Option (ByteArray)
 | 0, _, _, _ => none
 | k + 1, x0, x3, x8 => if x8 < (x0.length : Int) then (if 0 ≤ x8 then ((varint_Put.f k (rd_T50 x0 x8).f0).bind fun s => (varint_Put.f k (rd_T50 x0 x8).f1).bind fun t => (if x3.size + (s.size + t.size) ≤ 140737488355328 then (intern_key.l0 k x0 (x3 ++ (s ++ t)) (wrap64 (x8 + 1))) else (none))) else (none)) else (some x3)
def intern_key.f (k : Nat) (l0 : List S50) : Option (ByteArray) := intern_key.l0 k l0 (⟨#[]⟩ : ByteArray) 0
theorem intern_key.mono_l : ∀ k, ∀ y0 y1 y2, LeO (intern_key.l0 k y0 y1 y2) (intern_key.l0 (k + 1) y0 y1 y2)
 | 0 => fun _ _ _ r h => by simp [intern_key.l0] at h
 | k + 1 => fun y0 y1 y2 => by
  have ih := intern_key.mono_l k
  unfold intern_key.l0
  exact LeO.ite (LeO.ite (LeO.bind (varint_Put.mono _ _) (fun _ => LeO.bind (varint_Put.mono _ _) (fun _ => LeO.ite (ih _ _ _) (LeO.refl _)))) (LeO.refl _)) (LeO.refl _)
theorem intern_key.mono : ∀ a0 k, LeO (intern_key.f k a0) (intern_key.f (k + 1) a0) := fun a0 k => intern_key.mono_l k a0 _ 0
/-- The builder holds these bytes; below lies what lay. -/
def KeyNums (w : World) (acc : ByteArray) (w' : World) : Prop := Lib.IsBuilder 66 5 w.heap.size w.heap.size (Lib.strCells acc) w' ∧ Below w.heap.size w w'
theorem KeyNums.start (w : World) : KeyNums w (⟨#[]⟩ : ByteArray) (w.alloc (.cells #[.pointer none, .slice none 0 0] 66)) := ⟨Lib.fresh_isBuilder _ _ w, bl (Below.refl _ _) _⟩
theorem KeyBuilder_below {B b : Nat} {bs : List Value} {w w1 : World} (h : Lib.IsBuilder 66 5 B b bs w) (hb : Below w.heap.size w w1) : Lib.IsBuilder 66 5 B b bs w1 := by
 have go : ∀ p, Lib.BuilderAt 66 5 B b p bs w → Lib.BuilderAt 66 5 B b p bs w1 := by
  rintro p ⟨hB, v, hbk, hown, hne⟩
  exact ⟨hB, v, blk_grown hbk (grown_of_below hb none) (by simp), pw_own_below hown hb, hne⟩
 rcases h with h | h
 ·
  exact .inl (go _ h)
 ·
  exact .inr (go _ h)
theorem KeyNums.below {w : World} {acc : ByteArray} {w' w1 : World} (h : KeyNums w acc w') (hb : Below w'.heap.size w' w1) : KeyNums w acc w1 := ⟨KeyBuilder_below h.1 hb, below_step h.2 hb⟩
theorem KeyNums.put {w : World} {acc t : ByteArray} {w' w1 : World} (h : KeyNums w acc w') (k : Lib.BuilderAt 66 5 w.heap.size w.heap.size (.pointer (some ⟨w.heap.size, 0, none⟩)) (Lib.strCells acc ++ Lib.strCells t) w1) (hb : Below w.heap.size w' w1) : KeyNums w (acc ++ t) w1 := by
 refine ⟨.inr ?_, h.2.trans hb⟩
 have e : Lib.strCells (acc ++ t) = Lib.strCells acc ++ Lib.strCells t := by simp [Lib.strCells]
 rw [e]
 exact k
/-- .. and a frame lies in its box. -/
def KeyAt (w : World) (g : Nat) (c : Array Value) (acc : ByteArray) (w' : World) : Prop := KeyNums w acc w' ∧ w'.heap[g]? = some (.cells c 50 (0, 0))
section
variable {w w1 w2 : World} {g : Nat} {c : Array Value} {acc : ByteArray}
theorem KeyAt.below (h : KeyAt w g c acc w1) (hb : Below w1.heap.size w1 w2) : KeyAt w g c acc w2 := ⟨h.1.below hb, blk_below h.2 hb⟩
theorem KeyAt.drew (h : KeyAt w g c acc w1) : KeyAt w g c acc w1.drew := h.below (b1 (Below.refl _ _))
theorem KeyAt.e (h : KeyAt w g c acc w1) (i : Nat) {v : Value} (hv : c[i]? = some v) : w1.cell? ⟨g, i, none⟩ = some v := (bc h.2 i).trans hv
theorem KeyAt.num (h : KeyAt w g c acc w1) (k : Nat) (a : Int) (t : ByteArray) (hf : varint_Put.f k a = some t) : Calls Try.prog 41 #[.int .i64 a] w1 fun e w' => e = .returned (.string t) ∧ KeyAt w g c acc w' :=
 (varint_Put.calls k a t w1 hf).mono fun e w' ⟨he, hb⟩ => ⟨he, h.below (by first | exact hb | exact hb.below)⟩
theorem KeyAt.write (h : KeyAt w g c acc w1) (t : ByteArray) (hl : acc.size + t.size ≤ 140737488355328) : Calls Try.prog 40 #[.pointer (some ⟨w.heap.size, 0, none⟩), .string t] w1 fun e w' => e = .returned (.tuple #[.int .i64 t.size, .nilIface]) ∧ KeyNums w (acc ++ t) w' :=
 (Go.Proofs.Ytijjfomnidckdaa.Bld.writeString w.heap.size w.heap.size _ t w1 h.1.1 (by rw [Lib.strCells_length]; exact hl) (below_size h.1.2)).mono fun e w' ⟨he, hk, hb⟩ => ⟨he, h.1.put hk hb⟩
end
set_option maxHeartbeats 4000000 in
set_option maxRecDepth 100000 in
theorem intern_key.calls (k : Nat) (A0 : Option Addr) (c0 : Nat) (l0 : List S50) (r : ByteArray) (w : World) (hr0 : Kd.C k50 w A0 l0.length l0) (hc0 : l0.length ≤ c0) (h : intern_key.f k l0 = some r) :
  Calls Try.prog 31 #[.slice A0 l0.length c0] w fun e w' => e = .returned (.string r) ∧ Below w.heap.size w w' := by
 have HR0 := Am hr0
 clear hr0 hc0
 have hu50 := Try.underlying50
 have H' : Aside0 (intern_key.l0 k l0 (⟨#[]⟩ : ByteArray) 0 = some r) := Am h
 clear h
 go_enter Try.func31, Try.ntmps31
 go_wp2
 go_loopg [8] k (fun kq v8 w' => ∃ (x3 : ByteArray) (x8 : Int), v8 = .int .i64 x8 ∧ Aside0 (intern_key.l0 kq l0 x3 x8 = some r) ∧ Aside0 (KeyNums w x3 w'))
 case atStart => exact ⟨_, 0, rfl, H', ⟨KeyNums.start w⟩⟩
 case round =>
  clear H'
  obtain ⟨x3, x8, rfl, HA, HN⟩ := hrel
  cases gk with
  | zero => exact absurd HA.out (by simp [intern_key.l0])
  | succ k1 =>
   have H := HA.out
   clear HA
   simp only [intern_key.l0] at H
   by_cases c2 : x8 < (l0.length : Int)
   ·
    rw [if_pos c2] at H
    have c2b0 : decide (x8 < (l0.length : Int)) = true := decide_eq_true c2
    by_cases c3 : 0 ≤ x8
    ·
     rw [if_pos c3] at H
     have c3b0 : decide (0 ≤ x8) = true := decide_eq_true c3
     obtain ⟨ad, ea, hx0, hx1⟩ := at_T50 HR0.out x8 c3 c2
     cases ea
     replace hx0 := (HN.out.2.cell (World.block_lt_of_cell? w _ hx0)).trans hx0
     replace hx1 := (HN.out.2.cell (World.block_lt_of_cell? w _ hx1)).trans hx1
     have p1 := eq_true c3
     have q1 := eq_true c2
     clear c2 c3
     generalize (rd_T50 l0 x8).f0 = a at hx0 H
     generalize (rd_T50 l0 x8).f1 = c at hx1 H
     replace H := ob H
     obtain ⟨s, A40, H⟩ := H
     have A4 := Am A40
     clear A40
     replace H := ob H
     obtain ⟨t, A50, H⟩ := H
     have A5 := Am A50
     clear A50
     by_cases c8 : x3.size + (s.size + t.size) ≤ 140737488355328
     ·
      rw [if_pos c8] at H
      have H' := Am H
      clear H
      have HL := Am (show x3.size + (s ++ t).size ≤ 140737488355328 by rw [ByteArray.size_append]; exact c8)
      have hcat : (9223372036854775807 < s.size + t.size) = False := eq_false (by omega)
      clear c8
      go_wp2
      have HM : Aside0 (KeyAt w wr.heap.size #[.int .i64 a, .int .i64 c] x3 (wr.alloc (.cells #[.int .i64 a, .int .i64 c] 50))) := ⟨⟨KeyNums.below HN.out (bl (Below.refl _ _) _), blk_new _ _⟩⟩
      refine start_ (n := 8) (S := fun w' => w'.cell? ⟨wr.heap.size, 0, none⟩ = some (.int .i64 a) ∧ w'.cell? ⟨wr.heap.size, 1, none⟩ = some (.int .i64 c) ∧ KeyAt w wr.heap.size #[.int .i64 a, .int .i64 c] x3 w') (ds := [7]) q3_0 (by kernel_rfl) rfl rfl ⟨HM.out.drew.e 0 rfl, HM.out.drew.e 1 rfl, HM.out.drew⟩ (fun hHeld => ?_)
      refine with_tabW intern_key.tab5 intern_key.bits5 (fun HT_ HW_ => ?_)
      refine Own.pr_ 0 (some 12) q3_1 HT_ (h := ?_)
      refine Own.pr_ 3 (some 15) q3_2 HT_ (h := ?_)
      refine Own.tk_ 1 (some 13) q3_3 HT_ HW_ hHeld (hy := by rintro w' ⟨s0, s1, s2⟩; go_simp; with_reducible rfl) (h := ?_)
      refine Own.tk_ 4 (some 16) q3_4 HT_ HW_ hHeld (hy := by rintro w' ⟨s0, s1, s2⟩; go_simp; with_reducible rfl) (h := ?_)
      refine one_ (i := 2) (N := some 14) q3_5 rfl rfl (one_of HT_.out (by kernel_rfl)) (by decide) (fun K hK => ?_)
      refine goes_ Try.func41 (by kernel_rfl) rfl #[.int .i64 a] (by rfl) rfl rfl (by (try simp only [List.map_toArray, List.map_cons, List.map_nil]); first | done | rfl | (simp only [List.length_drop, List.length_take]; rfl)) ?_
      with_reducible refine (KeyAt.num hHeld.2.2 k1 a s A4.out).mono ?_
      rintro e w4 ⟨rfl, HJ⟩
      refine ⟨_, rfl, ?_⟩
      refine hK.out _ _ ⟨HJ.e 0 rfl, HJ.e 1 rfl, HJ⟩ (fun hHeld => ?_)
      clear hK K
      refine norm_ (a' := ?_) ?_ ?_
      rotate_left
      ·
       show Act.put _ (some 14) _ = _
       simp only [Act.put, sI, sZ, sS, i64_w, i32_w]
       rfl
      refine one_ (i := 5) (N := some 17) q3_6 rfl rfl (one_of HT_.out (by kernel_rfl)) (by decide) (fun K hK => ?_)
      refine goes_ Try.func41 (by kernel_rfl) rfl #[.int .i64 c] (by rfl) rfl rfl (by (try simp only [List.map_toArray, List.map_cons, List.map_nil]); first | done | rfl | (simp only [List.length_drop, List.length_take]; rfl)) ?_
      with_reducible refine (KeyAt.num hHeld.2.2 k1 c t A5.out).mono ?_
      rintro e w5 ⟨rfl, HJ⟩
      refine ⟨_, rfl, ?_⟩
      refine hK.out _ _ ⟨HJ.e 0 rfl, HJ.e 1 rfl, HJ⟩ (fun hHeld => ?_)
      clear hK K
      refine norm_ (a' := ?_) ?_ ?_
      rotate_left
      ·
       show Act.put _ (some 17) _ = _
       simp only [Act.put, sI, sZ, sS, i64_w, i32_w]
       rfl
      refine Own.pr_ 6 (some 18) q3_7 HT_ (h := ?_)
      refine last_ (i := 7) (N := some 19) q3_8 rfl rfl (one_of HT_.out (by kernel_rfl)) (by decide) (fun K hK => ?_)
      refine goes_ Try.func40 (by kernel_rfl) rfl #[.pointer (some ⟨w.heap.size, 0, none⟩), .string (s ++ t)] (by rfl) rfl rfl (by (try simp only [List.map_toArray, List.map_cons, List.map_nil]); first | done | rfl | (simp only [List.length_drop, List.length_take]; rfl)) ?_
      with_reducible refine (KeyAt.write hHeld.2.2 (s ++ t) HL.out).mono ?_
      rintro e w6 ⟨rfl, HN6⟩
      refine ⟨_, rfl, ?_⟩
      refine hK.out _ _ ?_
      clear hK K
      refine norm_ (a' := ?_) ?_ ?_
      rotate_left
      ·
       show Act.put _ (some 19) _ = _
       simp only [Act.put, sI, sZ, sS, i64_w, i32_w]
       rfl
      refine done_ (done_of HT_.out (by kernel_rfl)) ?_
      have HN2 := Am HN6
      go_wp2
      go_roundg k1
      case rel => exact ⟨_, _, rfl, H', HN2⟩
      case measure => exact Nat.lt_succ_self _
     ·
      rw [if_neg c8] at H
      cases H
    ·
     rw [if_neg c3] at H
     cases H
   ·
    rw [if_neg c2] at H
    have c2b0 : decide (x8 < (l0.length : Int)) = false := decide_eq_false c2
    clear c2
    obtain rfl := Option.some.inj H
    clear H
    have HN' : Lib.IsBuilder 66 5 w.heap.size w.heap.size (Lib.byteCells x3.data.toList) _ := HN.out.1
    go_wp2_with (go_at_call 42; (refine (Go.Proofs.Ytijjfomnidckdaa.Bld.string_any w.heap.size w.heap.size x3.data.toList _ HN' (below_size HN.out.2)).mono ?_); rintro e w2 ⟨rfl, hb⟩; have HB2 := HN.out.2.trans hb; clear hb)
    go_ret
    exact ⟨rfl, HB2⟩

end Go.Proofs.Ytijjfomnidckdaa.Q
