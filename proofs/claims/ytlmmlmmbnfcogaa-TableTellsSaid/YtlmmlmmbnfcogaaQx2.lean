-- printed by a program of this session (NOTES: hprint); not the kit's print
-- minified3
-- minified2
-- minified
-- halved
import Derived.Test.YtlmmlmmbnfcogaaOg
import Derived.Test.YtlmmlmmbnfcogaaAl
import Derived.Test.YtlmmlmmbnfcogaaQx0
namespace Go.Proofs.Ytlmmlmmbnfcogaa.Q
open Go.RowKit Go.Proofs.YtlmmlmmbnfcogaaW.PrintWords Go.Proofs.YtlmmlmmbnfcogaaW.PrintLast Go.Proofs.YtlmmlmmbnfcogaaW.PrintMore
attribute [local go_sem] max2_int min2_int max_two min_two max_three min_three max_four min_four   -- for this text's walks alone
set_option linter.unusedVariables false
set_option linter.unusedSimpArgs false

/-! ### shuttlecockref06_Small: function 7 -/
mutual
def shuttlecockref06_Small.l0 : Nat → Int → List ByteArray → List (List (S70)) → Option (Bool)
 | 0, _, _, _ => none
 | k + 1, x3, x102000, x102001 => if x3 < (x102000.length : Int) then (if 0 ≤ x3 then (if ((rdOf ByteArray.empty x102000 x3).size : Int) > 1100 then (some false) else (shuttlecockref06_Small.l0 k (wrap64 (x3 + 1)) x102000 x102001)) else (none)) else (shuttlecockref06_Small.l1 k 0 x102000 x102001)
def shuttlecockref06_Small.l1 : Nat → Int → List ByteArray → List (List (S70)) → Option (Bool)
 | 0, _, _, _ => none
 | k + 1, x4, x102000, x102001 => if x4 < (x102001.length : Int) then (if 0 ≤ x4 then (if ((rd_L2 x102001 x4).length : Int) > 30 then (some false) else (shuttlecockref06_Small.l1 k (wrap64 (x4 + 1)) x102000 x102001)) else (none)) else (if (x102000.length : Int) ≤ 60 then (some (decide ((x102001.length : Int) ≤ 60))) else (some false))
end
def shuttlecockref06_Small.f (k : Nat) (l0_0 : List ByteArray) (l0_1 : List (List (S70))) : Option (Bool) := shuttlecockref06_Small.l0 k 0 l0_0 l0_1
theorem shuttlecockref06_Small.mono_l : ∀ k, (∀ y0 y1 y2, LeO (shuttlecockref06_Small.l0 k y0 y1 y2) (shuttlecockref06_Small.l0 (k + 1) y0 y1 y2)) ∧ (∀ y0 y1 y2, LeO (shuttlecockref06_Small.l1 k y0 y1 y2) (shuttlecockref06_Small.l1 (k + 1) y0 y1 y2))
 | 0 => ⟨fun _ _ _ r h => by simp [shuttlecockref06_Small.l0] at h, fun _ _ _ r h => by simp [shuttlecockref06_Small.l1] at h⟩
 | k + 1 => by
  obtain ⟨ih0, ih1⟩ := shuttlecockref06_Small.mono_l k
  refine ⟨?_, ?_⟩
  ·
   intro y0 y1 y2
   unfold shuttlecockref06_Small.l0
   repeat' first
   | (with_reducible exact ih0 _ _ _)
   | (with_reducible exact ih1 _ _ _)
   | (with_reducible exact LeO.refl _)
   | (with_reducible exact LeO.none _)
   | (with_reducible refine LeO.ite ?_ ?_)
   | (with_reducible refine LeO.bind ?_ (fun _ => ?_))
   | exact LeO.none _
   | refine LeO.ite ?_ ?_
   | refine LeO.bind ?_ (fun _ => ?_)
  ·
   intro y0 y1 y2
   unfold shuttlecockref06_Small.l1
   repeat' first
   | (with_reducible exact ih0 _ _ _)
   | (with_reducible exact ih1 _ _ _)
   | (with_reducible exact LeO.refl _)
   | (with_reducible exact LeO.none _)
   | (with_reducible refine LeO.ite ?_ ?_)
   | (with_reducible refine LeO.bind ?_ (fun _ => ?_))
   | exact LeO.none _
   | refine LeO.ite ?_ ?_
   | refine LeO.bind ?_ (fun _ => ?_)
theorem shuttlecockref06_Small.mono : ∀ a0 a1 k, LeO (shuttlecockref06_Small.f k a0 a1) (shuttlecockref06_Small.f (k + 1) a0 a1) := by
 intro a0 a1 k
 obtain ⟨ih0, ih1⟩ := shuttlecockref06_Small.mono_l k
 unfold shuttlecockref06_Small.f
 repeat' first
   | (with_reducible exact ih0 _ _ _)
   | (with_reducible exact ih1 _ _ _)
   | (with_reducible exact LeO.refl _)
   | (with_reducible exact LeO.none _)
   | (with_reducible refine LeO.ite ?_ ?_)
   | (with_reducible refine LeO.bind ?_ (fun _ => ?_))
   | exact LeO.none _
   | refine LeO.ite ?_ ?_
   | refine LeO.bind ?_ (fun _ => ?_)
set_option maxHeartbeats 8000000 in
set_option maxRecDepth 100000 in
theorem shuttlecockref06_Small.calls (k : Nat) (A0_0 : Option Addr) (c0_0 : Nat) (l0_0 : List ByteArray) (A0_1 : Option Addr) (c0_1 : Nat) (l0_1 : List (List (S70))) (r : Bool) (w : World) (hr0_0 : Kd.C Kd.string w A0_0 l0_0.length l0_0) (hc0_0 : l0_0.length ≤ c0_0) (hr0_1 : Kd.C (Kd.slice 70 k70) w A0_1 l0_1.length l0_1) (hc0_1 : l0_1.length ≤ c0_1) (h : shuttlecockref06_Small.f k l0_0 l0_1 = some r) :
  Calls Try.prog 7 #[.agg #[.slice A0_0 l0_0.length c0_0, .slice A0_1 l0_1.length c0_1]] w fun e w' => e = .returned (.bool r) ∧ Below w.heap.size w w' := by
 have hu25 := Try.underlying25
 have HR0_0 := Am hr0_0
 have HC0_0 := Am hc0_0
 clear hr0_0 hc0_0
 have HR0_1 := Am hr0_1
 have HC0_1 := Am hc0_1
 clear hr0_1 hc0_1
 have HB := Am (Below.refl w.heap.size w)
 have H : (shuttlecockref06_Small.l0 k 0 l0_0 l0_1) = some r := h
 clear h
 have H' := Am H
 clear H
 go_enter Try.func7, Try.ntmps7
 go_wp2_with (first | ((with_reducible refine gate_dst (N := 1) rfl ?_); (try (refine gate_guard (by rfl) ?_; dsimp only)); refine box_event ?hg (N := 1) ?hd (cs := #[.slice A0_0 l0_0.length c0_0, .slice A0_1 l0_1.length c0_1]) (t := 25) ?hr ?_; (case hd => rfl); (case hg => rfl); (case hr => first | (go_simp; done) | (go_simp; rfl)); intro gb101 hg w2 hbox hb; have BK101 := Am (hbox); have GW101 := Am ((by rw [hg]; exact (below_size (z3)) : w.heap.size ≤ gb101)); have GE101 := GW101; replace HB := Am (below_step (z3) hb); clear hb hbox hg))
 go_loopg [3] k (fun kq v3 w' => ∃ (x3_1 : Int), v3 = .int .i64 x3_1 ∧ Aside0 (shuttlecockref06_Small.l0 kq x3_1 l0_0 l0_1 = some r) ∧ Aside0 (kq ≤ k) ∧ Aside0 (w'.heap[gb101]? = some (.cells #[(.slice A0_0 l0_0.length c0_0), (.slice A0_1 l0_1.length c0_1)] 25 (0, 0))) ∧ Aside0 (Below w.heap.size w w'))
 case atStart => exact ⟨(0), (by first | rfl | (simp; done) | (simp [*]; done) | (simp; generalize ByteArray.toList _ = l_; cases l_ <;> rfl)), H', ⟨Nat.le_refl _⟩, ⟨by (with_reducible repeat (first|apply bn|apply bd|apply ba)); exact BK101.out⟩, ⟨z15⟩⟩
 case round =>
  clear H'
  try clear p2
  obtain ⟨x3_1, rfl, HA, HK1, BK101, HB⟩ := hrel
  cases gk with
  | zero => exact absurd HA.out (by simp [shuttlecockref06_Small.l0])
  | succ k1 =>
   have H := HA.out
   clear HA
   simp only [shuttlecockref06_Small.l0] at H
   by_cases c3 : x3_1 < (l0_0.length : Int)
   ·
    rw [if_pos c3] at H
    have c3b0 : decide (x3_1 < (l0_0.length : Int)) = true := decide_eq_true c3
    clear c3
    by_cases c4 : 0 ≤ x3_1
    ·
     rw [if_pos c4] at H
     have c4b0 : decide (0 ≤ x3_1) = true := decide_eq_true c4
     clear c4
     by_cases c5 : ((rdOf ByteArray.empty l0_0 x3_1).size : Int) > 1100
     ·
      rw [if_pos c5] at H
      have c5b0 : decide (1100 < ((rdOf ByteArray.empty l0_0 x3_1).size : Int)) = true := decide_eq_true c5
      have c5b1 : decide (1100 < (rdOf ByteArray.empty l0_0 x3_1).size) = true := decide_eq_true (by omega)
      clear c5
      obtain rfl := Option.some.inj H
      have hcz6_0 := Own.bc2 BK101.out 0
      have hcz6_1 := Own.bc2 BK101.out 1
      have hfz6_0 := bf BK101.out 0
      have hfz6_1 := bf BK101.out 1
      have p102 : 0 ≤ (x3_1 : Int) := dz
      have q102 : x3_1 < (l0_0.length : Int) := dz
      obtain ⟨ad102, e102, hx102_0⟩ := Kd.at_string HR0_0.out x3_1 p102 q102
      cases e102
      replace hx102_0 := (HB.out.cell (World.block_lt_of_cell? w _ hx102_0)).trans hx102_0
      replace p102 := eq_true p102
      replace q102 := eq_true q102
      go_wp2
      go_ret
      exact ⟨y0, z15⟩
     ·
      rw [if_neg c5] at H
      have c5b0 : decide (1100 < ((rdOf ByteArray.empty l0_0 x3_1).size : Int)) = false := decide_eq_false c5
      have c5b1 : decide (1100 < (rdOf ByteArray.empty l0_0 x3_1).size) = false := decide_eq_false (by omega)
      clear c5
      have H' := Am H
      clear H
      have hcz7_0 := Own.bc2 BK101.out 0
      have hcz7_1 := Own.bc2 BK101.out 1
      have hfz7_0 := bf BK101.out 0
      have hfz7_1 := bf BK101.out 1
      have p102 : 0 ≤ (x3_1 : Int) := dz
      have q102 : x3_1 < (l0_0.length : Int) := dz
      obtain ⟨ad102, e102, hx102_0⟩ := Kd.at_string HR0_0.out x3_1 p102 q102
      cases e102
      replace hx102_0 := (HB.out.cell (World.block_lt_of_cell? w _ hx102_0)).trans hx102_0
      replace p102 := eq_true p102
      replace q102 := eq_true q102
      go_wp2
      go_roundg k1
      case measure => have := HK1.out; omega
      case rel => exact ⟨(wrap64 (x3_1 + 1)), (by first | rfl | (simp; done) | (simp [*]; done) | (simp; generalize ByteArray.toList _ = l_; cases l_ <;> rfl)), H', ⟨by have := HK1.out; omega⟩, ⟨by (with_reducible repeat (first|apply bn|apply bd|apply ba)); exact BK101.out⟩, ⟨z15⟩⟩
    ·
     rw [if_neg c4] at H
     exact absurd H (by simp)
   ·
    rw [if_neg c3] at H
    have c3b0 : decide (x3_1 < (l0_0.length : Int)) = false := decide_eq_false c3
    clear c3
    have H' := Am H
    clear H
    have hcz8_0 := Own.bc2 BK101.out 0
    have hcz8_1 := Own.bc2 BK101.out 1
    have hfz8_0 := bf BK101.out 0
    have hfz8_1 := bf BK101.out 1
    go_wp2
    go_loopg [4] k1 (fun kq v4 w' => ∃ (x4_2 : Int), v4 = .int .i64 x4_2 ∧ Aside0 (shuttlecockref06_Small.l1 kq x4_2 l0_0 l0_1 = some r) ∧ Aside0 (kq ≤ k1) ∧ Aside0 (w'.heap[gb101]? = some (.cells #[(.slice A0_0 l0_0.length c0_0), (.slice A0_1 l0_1.length c0_1)] 25 (0, 0))) ∧ Aside0 (Below w.heap.size w w'))
    case atStart => exact ⟨(0), (by first | rfl | (simp; done) | (simp [*]; done) | (simp; generalize ByteArray.toList _ = l_; cases l_ <;> rfl)), H', ⟨Nat.le_refl _⟩, ⟨by (with_reducible repeat (first|apply bn|apply bd|apply ba)); exact BK101.out⟩, ⟨z15⟩⟩
    case round =>
     clear H'
     try clear p1
     try clear q1
     try clear hx1
     try clear p2
     try clear c3
     try clear c3b0
     try clear c4
     try clear c4b0
     try clear c5
     try clear c5b0
     try clear c5b1
     try clear p6
     try clear c7
     try clear hcz6_0
     try clear hcz6_1
     try clear hcz7_0
     try clear hcz7_1
     try clear hcz8_0
     try clear hcz8_1
     try clear hfz6_0
     try clear hfz6_1
     try clear hfz7_0
     try clear hfz7_1
     try clear hfz8_0
     try clear hfz8_1
     try clear hx102_0
     try clear p102
     try clear p2
     try clear q102
     obtain ⟨x4_2, rfl, HA, HK2, BK101, HB⟩ := hrel
     cases gk with
     | zero => exact absurd HA.out (by simp [shuttlecockref06_Small.l1])
     | succ k2 =>
      have H := HA.out
      clear HA
      simp only [shuttlecockref06_Small.l1] at H
      by_cases c9 : x4_2 < (l0_1.length : Int)
      ·
       rw [if_pos c9] at H
       have c9b0 : decide (x4_2 < (l0_1.length : Int)) = true := decide_eq_true c9
       clear c9
       by_cases c10 : 0 ≤ x4_2
       ·
        rw [if_pos c10] at H
        have c10b0 : decide (0 ≤ x4_2) = true := decide_eq_true c10
        clear c10
        by_cases c11 : ((rd_L2 l0_1 x4_2).length : Int) > 30
        ·
         rw [if_pos c11] at H
         have c11b0 : decide (30 < ((rd_L2 l0_1 x4_2).length : Int)) = true := decide_eq_true c11
         have c11b1 : decide (30 < (rd_L2 l0_1 x4_2).length) = true := decide_eq_true (by omega)
         clear c11
         obtain rfl := Option.some.inj H
         have hcz12_0 := Own.bc2 BK101.out 0
         have hcz12_1 := Own.bc2 BK101.out 1
         have hfz12_0 := bf BK101.out 0
         have hfz12_1 := bf BK101.out 1
         have p103 : 0 ≤ (x4_2 : Int) := dz
         have q103 : x4_2 < (l0_1.length : Int) := dz
         obtain ⟨ad103, A103_0, c103_0, e103, hx103_0, hl103_0, hi103_0⟩ := at_L2 HR0_1.out x4_2 p103 q103
         cases e103
         replace hx103_0 := (HB.out.cell (World.block_lt_of_cell? w _ hx103_0)).trans hx103_0
         have HR103_0 := Am hi103_0
         have HC103_0 := Am hl103_0
         clear hi103_0 hl103_0
         replace p103 := eq_true p103
         replace q103 := eq_true q103
         go_wp2
         go_ret
         exact ⟨y0, z15⟩
        ·
         rw [if_neg c11] at H
         have c11b0 : decide (30 < ((rd_L2 l0_1 x4_2).length : Int)) = false := decide_eq_false c11
         have c11b1 : decide (30 < (rd_L2 l0_1 x4_2).length) = false := decide_eq_false (by omega)
         clear c11
         have H' := Am H
         clear H
         have hcz13_0 := Own.bc2 BK101.out 0
         have hcz13_1 := Own.bc2 BK101.out 1
         have hfz13_0 := bf BK101.out 0
         have hfz13_1 := bf BK101.out 1
         have p103 : 0 ≤ (x4_2 : Int) := dz
         have q103 : x4_2 < (l0_1.length : Int) := dz
         obtain ⟨ad103, A103_0, c103_0, e103, hx103_0, hl103_0, hi103_0⟩ := at_L2 HR0_1.out x4_2 p103 q103
         cases e103
         replace hx103_0 := (HB.out.cell (World.block_lt_of_cell? w _ hx103_0)).trans hx103_0
         have HR103_0 := Am hi103_0
         have HC103_0 := Am hl103_0
         clear hi103_0 hl103_0
         replace p103 := eq_true p103
         replace q103 := eq_true q103
         go_wp2
         go_roundg k2
         case measure => have := HK1.out; have := HK2.out; omega
         case rel => exact ⟨(wrap64 (x4_2 + 1)), (by first | rfl | (simp; done) | (simp [*]; done) | (simp; generalize ByteArray.toList _ = l_; cases l_ <;> rfl)), H', ⟨by have := HK1.out; have := HK2.out; omega⟩, ⟨by (with_reducible repeat (first|apply bn|apply bd|apply ba)); exact BK101.out⟩, ⟨z15⟩⟩
       ·
        rw [if_neg c10] at H
        exact absurd H (by simp)
      ·
       rw [if_neg c9] at H
       have c9b0 : decide (x4_2 < (l0_1.length : Int)) = false := decide_eq_false c9
       clear c9
       by_cases c14 : (l0_0.length : Int) ≤ 60
       ·
        rw [if_pos c14] at H
        have c14b0 : decide ((l0_0.length : Int) ≤ 60) = true := decide_eq_true c14
        have c14b1 : decide (l0_0.length ≤ 60) = true := decide_eq_true (by omega)
        clear c14
        obtain rfl := Option.some.inj H
        have hcz15_0 := Own.bc2 BK101.out 0
        have hcz15_1 := Own.bc2 BK101.out 1
        have hfz15_0 := bf BK101.out 0
        have hfz15_1 := bf BK101.out 1
        go_wp2
        go_ret
        exact ⟨y0, z15⟩
       ·
        rw [if_neg c14] at H
        have c14b0 : decide ((l0_0.length : Int) ≤ 60) = false := decide_eq_false c14
        have c14b1 : decide (l0_0.length ≤ 60) = false := decide_eq_false (by omega)
        clear c14
        obtain rfl := Option.some.inj H
        have hcz16_0 := Own.bc2 BK101.out 0
        have hcz16_1 := Own.bc2 BK101.out 1
        have hfz16_0 := bf BK101.out 0
        have hfz16_1 := bf BK101.out 1
        go_wp2
        go_ret
        exact ⟨y0, z15⟩

/-- A state of type 77 at block g of W; what its slices lead to came in by w0. -/
def IsS77 (w0 W : World) (g : Nat) (f0 : ByteArray) (f1 : Int) (f2 : Int) (f3 : Int) : Prop := W.heap[g]? = some (.cells #[.string f0, .int .i64 f1, .int .i64 f2, .int .i64 f3] 77 (0, 0)) ∧ w0.heap.size ≤ g
theorem IsS77.grown {w0 W : World} {g : Nat} {f0 : ByteArray} {f1 : Int} {f2 : Int} {f3 : Int} {W1 : World} {row : Option Nat} (h : IsS77 w0 W g f0 f1 f2 f3) (hw : W.grownBy W1 row) (hne : some g ≠ row) : IsS77 w0 W1 g f0 f1 f2 f3 := by
 obtain ⟨hb, hg⟩ := h
 exact ⟨blk_grown hb hw hne, hg⟩
theorem IsS77.own_neN {w0 W : World} {g : Nat} {f0 : ByteArray} {f1 : Int} {f2 : Int} {f3 : Int} {α : Type} {d : Kd α} {e : Nat} {base : Nat} {ok : Nat → Prop} {v : Value} {xs : List α} (h : IsS77 w0 W g f0 f1 f2 f3) (ho : Kd.N d e W base ok v xs) (ht : e ≠ 77) : some g ≠ v.ownBlock := by
 obtain ⟨hb, hg⟩ := h
 exact Kd.N_ne ho hb ht
theorem IsS77.fresh {w0 W : World} {g : Nat} {f0 : ByteArray} {f1 : Int} {f2 : Int} {f3 : Int} (h : IsS77 w0 W g f0 f1 f2 f3) : ∀ k, W.heap.size ≤ k → k ≠ g := by
 obtain ⟨hb, hg⟩ := h
 exact Kd.freshB hb
theorem IsS77.kept {w0 W : World} {g : Nat} {f0 : ByteArray} {f1 : Int} {f2 : Int} {f3 : Int} {W1 : World} {S : Nat → Prop} (h : IsS77 w0 W g f0 f1 f2 f3) (hk : Kept W W1 S) (hne : ¬ S g) : IsS77 w0 W1 g f0 f1 f2 f3 := by
 obtain ⟨hb, hg⟩ := h
 exact ⟨blk_kept hb hk hne, hg⟩
theorem IsS77.below {w0 W : World} {g : Nat} {f0 : ByteArray} {f1 : Int} {f2 : Int} {f3 : Int} {W1 : World} (h : IsS77 w0 W g f0 f1 f2 f3) (hw : Below W.heap.size W W1) : IsS77 w0 W1 g f0 f1 f2 f3 := h.grown (grown_of_below hw none) (by simp)
theorem IsS77.alloc {w0 W : World} {g : Nat} {f0 : ByteArray} {f1 : Int} {f2 : Int} {f3 : Int} (h : IsS77 w0 W g f0 f1 f2 f3) (o : Obj) : IsS77 w0 (W.alloc o) g f0 f1 f2 f3 := h.below (bl (Below.refl _ _) o)
theorem IsS77.drewN {w0 W : World} {g : Nat} {f0 : ByteArray} {f1 : Int} {f2 : Int} {f3 : Int} (h : IsS77 w0 W g f0 f1 f2 f3) (m : Nat) : IsS77 w0 (W.drewN m) g f0 f1 f2 f3 := h
theorem IsS77.drew {w0 W : World} {g : Nat} {f0 : ByteArray} {f1 : Int} {f2 : Int} {f3 : Int} (h : IsS77 w0 W g f0 f1 f2 f3) : IsS77 w0 W.drew g f0 f1 f2 f3 := h
theorem IsS77.at_ {w0 W : World} {g : Nat} {f0 : ByteArray} {f1 : Int} {f2 : Int} {f3 : Int} {w' : World} {m : Nat} (hq : W.drewN m = w') (h : IsS77 w0 W g f0 f1 f2 f3) : IsS77 w0 w' g f0 f1 f2 f3 := by subst hq; exact IsS77.drewN h m
theorem IsS77.apart {w0 W : World} {g : Nat} {f0 : ByteArray} {f1 : Int} {f2 : Int} {f3 : Int} {α : Type} {d : Kd α} {e : Nat} {base : Nat} {ok : Nat → Prop} {v : Value} {xs : List α} (h : IsS77 w0 W g f0 f1 f2 f3) (ho : d.R e W base ok v xs) (ht : ∀ q, q ∈ e :: d.E → q ≠ 77) : d.R e W base (fun k => ok k ∧ k ≠ g) v xs := by
 obtain ⟨hb, hg⟩ := h
 exact Kd.R_types ho hb ht
theorem IsS77.own_ne {w0 W : World} {g : Nat} {f0 : ByteArray} {f1 : Int} {f2 : Int} {f3 : Int} {α : Type} {d : Kd α} {e : Nat} {base : Nat} {ok : Nat → Prop} {v : Value} {xs : List α} (h : IsS77 w0 W g f0 f1 f2 f3) (ho : d.R e W base ok v xs) (ht : e ≠ 77) : some g ≠ v.ownBlock := by
 obtain ⟨hb, hg⟩ := h
 exact Kd.R_ne ho hb ht
theorem IsS77.apartQ {w0 W : World} {g : Nat} {f0 : ByteArray} {f1 : Int} {f2 : Int} {f3 : Int} {α : Type} {d : Kd α} {e : Nat} {base : Nat} {ok : Nat → Prop} {v : Value} {xs : List α} (h : IsS77 w0 W g f0 f1 f2 f3) (ho : d.Q e W base ok v xs) (ht : ∀ q, q ∈ e :: d.E → q ≠ 77) : d.Q e W base (fun k => ok k ∧ k ≠ g) v xs := by
 obtain ⟨hb, hg⟩ := h
 exact Kd.Q_types ho hb ht
theorem IsS77.own_neQ {w0 W : World} {g : Nat} {f0 : ByteArray} {f1 : Int} {f2 : Int} {f3 : Int} {α : Type} {d : Kd α} {e : Nat} {base : Nat} {ok : Nat → Prop} {v : Value} {xs : List α} (h : IsS77 w0 W g f0 f1 f2 f3) (ho : d.Q e W base ok v xs) (ht : e ≠ 77) : some g ≠ v.ownBlock := by
 obtain ⟨hb, hg⟩ := h
 exact Kd.Q_ne ho hb ht
theorem IsS77.apartS {w0 W : World} {g : Nat} {f0 : ByteArray} {f1 : Int} {f2 : Int} {f3 : Int} {α : Type} {d : Kd α} {e : Nat} {base : Nat} {ok : Nat → Prop} {v : Value} {xs : List α} (h : IsS77 w0 W g f0 f1 f2 f3) (ho : d.S e W base ok v xs) (ht : ∀ q, q ∈ e :: d.E → q ≠ 77) : d.S e W base (fun k => ok k ∧ k ≠ g) v xs := by
 obtain ⟨hb, hg⟩ := h
 exact Kd.S_types ho hb ht
theorem IsS77.own_neS {w0 W : World} {g : Nat} {f0 : ByteArray} {f1 : Int} {f2 : Int} {f3 : Int} {α : Type} {d : Kd α} {e : Nat} {base : Nat} {ok : Nat → Prop} {v : Value} {xs : List α} (h : IsS77 w0 W g f0 f1 f2 f3) (ho : d.S e W base ok v xs) (ht : e ≠ 77) : some g ≠ v.ownBlock := by
 obtain ⟨hb, hg⟩ := h
 exact Kd.S_ne ho hb ht
theorem IsS77.lt {w0 W : World} {g : Nat} {f0 : ByteArray} {f1 : Int} {f2 : Int} {f3 : Int} (h : IsS77 w0 W g f0 f1 f2 f3) : g < W.heap.size := by
 obtain ⟨hb, hg⟩ := h
 exact blk_lt hb
theorem IsS77.ge {w0 W : World} {g : Nat} {f0 : ByteArray} {f1 : Int} {f2 : Int} {f3 : Int} (h : IsS77 w0 W g f0 f1 f2 f3) : w0.heap.size ≤ g := by
 obtain ⟨hb, hg⟩ := h
 exact hg
theorem IsS77.ne_blk {w0 W : World} {g : Nat} {f0 : ByteArray} {f1 : Int} {f2 : Int} {f3 : Int} {a : Nat} {cs : Array Value} {t : TypeId} {fr : Nat × Nat} (h : IsS77 w0 W g f0 f1 f2 f3) (hb2 : W.heap[a]? = some (.cells cs t fr)) (ht : t ≠ 77) : g ≠ a := by
 obtain ⟨hb, hg⟩ := h
 rintro rfl
 rw [hb] at hb2
 injection hb2 with hb2
 injection hb2 with _ ht2
 exact ht ht2.symm
theorem IsS77.far {w0 W : World} {g : Nat} {f0 : ByteArray} {f1 : Int} {f2 : Int} {f3 : Int} {p : Addr} (h : IsS77 w0 W g f0 f1 f2 f3) (hne : g ≠ p.block) (u : Value) : IsS77 w0 (W.setCell p u) g f0 f1 f2 f3 := by
 obtain ⟨hb, hg⟩ := h
 exact ⟨blk_far hb hne u, hg⟩
theorem cellS77_0 {W : World} {g : Nat} {f0 : ByteArray} {f1 : Int} {f2 : Int} {f3 : Int} (h : W.heap[g]? = some (.cells #[.string f0, .int .i64 f1, .int .i64 f2, .int .i64 f3] 77 (0, 0))) : W.cell? ⟨g, 0, none⟩ = some (.string f0) := (bc h 0).trans rfl
theorem IsS77.set_0 {w0 W : World} {g : Nat} {f0 : ByteArray} {f1 : Int} {f2 : Int} {f3 : Int} (h : IsS77 w0 W g f0 f1 f2 f3) (x : ByteArray) : IsS77 w0 (W.setCell ⟨g, 0, none⟩ (.string x)) g x f1 f2 f3 := by
 obtain ⟨hb, hg⟩ := h
 exact ⟨by simpa using blk_set hb 0 (.string x), hg⟩
theorem cellS77_1 {W : World} {g : Nat} {f0 : ByteArray} {f1 : Int} {f2 : Int} {f3 : Int} (h : W.heap[g]? = some (.cells #[.string f0, .int .i64 f1, .int .i64 f2, .int .i64 f3] 77 (0, 0))) : W.cell? ⟨g, 1, none⟩ = some (.int .i64 f1) := (bc h 1).trans rfl
theorem IsS77.set_1 {w0 W : World} {g : Nat} {f0 : ByteArray} {f1 : Int} {f2 : Int} {f3 : Int} (h : IsS77 w0 W g f0 f1 f2 f3) (x : Int) : IsS77 w0 (W.setCell ⟨g, 1, none⟩ (.int .i64 x)) g f0 x f2 f3 := by
 obtain ⟨hb, hg⟩ := h
 exact ⟨by simpa using blk_set hb 1 (.int .i64 x), hg⟩
theorem cellS77_2 {W : World} {g : Nat} {f0 : ByteArray} {f1 : Int} {f2 : Int} {f3 : Int} (h : W.heap[g]? = some (.cells #[.string f0, .int .i64 f1, .int .i64 f2, .int .i64 f3] 77 (0, 0))) : W.cell? ⟨g, 2, none⟩ = some (.int .i64 f2) := (bc h 2).trans rfl
theorem IsS77.set_2 {w0 W : World} {g : Nat} {f0 : ByteArray} {f1 : Int} {f2 : Int} {f3 : Int} (h : IsS77 w0 W g f0 f1 f2 f3) (x : Int) : IsS77 w0 (W.setCell ⟨g, 2, none⟩ (.int .i64 x)) g f0 f1 x f3 := by
 obtain ⟨hb, hg⟩ := h
 exact ⟨by simpa using blk_set hb 2 (.int .i64 x), hg⟩
theorem cellS77_3 {W : World} {g : Nat} {f0 : ByteArray} {f1 : Int} {f2 : Int} {f3 : Int} (h : W.heap[g]? = some (.cells #[.string f0, .int .i64 f1, .int .i64 f2, .int .i64 f3] 77 (0, 0))) : W.cell? ⟨g, 3, none⟩ = some (.int .i64 f3) := (bc h 3).trans rfl
theorem IsS77.set_3 {w0 W : World} {g : Nat} {f0 : ByteArray} {f1 : Int} {f2 : Int} {f3 : Int} (h : IsS77 w0 W g f0 f1 f2 f3) (x : Int) : IsS77 w0 (W.setCell ⟨g, 3, none⟩ (.int .i64 x)) g f0 f1 f2 x := by
 obtain ⟨hb, hg⟩ := h
 exact ⟨by simpa using blk_set hb 3 (.int .i64 x), hg⟩
theorem IsS77.new (w0 W : World) (f0 : ByteArray) (f1 : Int) (f2 : Int) (f3 : Int) (hB : Below w0.heap.size w0 W) : IsS77 w0 (W.alloc (.cells #[.string f0, .int .i64 f1, .int .i64 f2, .int .i64 f3] 77)) W.heap.size f0 f1 f2 f3 := ⟨by simpa using heap_alloc_new W _, hB.size⟩

/-! ### wire_Reader_ok: function 43 -/
def wire_Reader_ok.f (s0_0 : ByteArray) (s0_1 : Int) (s0_2 : Int) (s0_3 : Int) : Option (Bool × ByteArray × Int × Int × Int) := some ((s0_2 == 0), s0_0, s0_1, s0_2, s0_3)
set_option maxHeartbeats 8000000 in
set_option maxRecDepth 100000 in
theorem wire_Reader_ok.calls (g : Nat) (s0_0 : ByteArray) (s0_1 : Int) (s0_2 : Int) (s0_3 : Int) (r1 : Bool) (r2 : ByteArray) (r3 : Int) (r4 : Int) (r5 : Int) (w0 w : World) (hI : IsS77 w0 w g s0_0 s0_1 s0_2 s0_3) (hB : Below w0.heap.size w0 w) (h : wire_Reader_ok.f s0_0 s0_1 s0_2 s0_3 = some (r1, r2, r3, r4, r5)) :
  Calls Try.prog 43 #[.pointer (some ⟨g, 0, none⟩)] w fun e w' => e = .returned (.bool r1) ∧ IsS77 w0 w' g r2 r3 r4 r5 ∧ Below w0.heap.size w0 w' ∧ KeepBut w w' g none := by
 have HI0 := Am hI
 have HK := Am (KeepBut.refl w g none)
 have HL := Am hB.size
 clear hI
 have HW0 := Am hB.size
 have HB := Am hB
 clear hB
 have H : (some ((s0_2 == 0), s0_0, s0_1, s0_2, s0_3)) = some (r1, r2, r3, r4, r5) := h
 clear h
 simp only [Option.some.injEq, Prod.mk.injEq] at H
 obtain ⟨rfl, rfl, rfl, rfl, rfl⟩ := H
 obtain ⟨HGz2, hgz2⟩ := HI0.out
 have hcz2_0 := cellS77_0 HGz2
 have hcz2_1 := cellS77_1 HGz2
 have hcz2_2 := cellS77_2 HGz2
 have hcz2_3 := cellS77_3 HGz2
 have hfz2_0 := bf HGz2 0
 have hfz2_1 := bf HGz2 1
 have hfz2_2 := bf HGz2 2
 have hfz2_3 := bf HGz2 3
 clear HGz2 hgz2
 go_enter Try.func43, Try.ntmps43
 go_wp2
 go_ret
 exact ⟨y0, z4, z5, z1⟩

/-! ### wire_Reader_Done: function 21, by hand -/
theorem wire_Reader_ok.same (g : Nat) (s0_0 : ByteArray) (s0_1 s0_2 s0_3 : Int) (w0 w : World) (hI : IsS77 w0 w g s0_0 s0_1 s0_2 s0_3) :
  Calls Try.prog 43 #[.pointer (some ⟨g, 0, none⟩)] w fun e w' => e = .returned (.bool (s0_2 == 0)) ∧ w' = w := by
 have hc2 := cellS77_2 hI.1
 go_enter Try.func43, Try.ntmps43
 go_wp2
 go_ret
 exact ⟨rfl, rfl⟩
def wire_Reader_Done.f (s0_0 : ByteArray) (s0_1 : Int) (s0_2 : Int) (s0_3 : Int) : Option (Bool × ByteArray × Int × Int × Int) := some (s0_2 == 0 && s0_1 == (s0_0.size : Int), s0_0, s0_1, s0_2, s0_3)
theorem wire_Reader_Done.calls (g : Nat) (s0_0 : ByteArray) (s0_1 s0_2 s0_3 : Int) (r1 : Bool) (r2 : ByteArray) (r3 r4 r5 : Int) (w0 w : World) (hI : IsS77 w0 w g s0_0 s0_1 s0_2 s0_3) (hB : Below w0.heap.size w0 w) (h : wire_Reader_Done.f s0_0 s0_1 s0_2 s0_3 = some (r1, r2, r3, r4, r5)) :
  Calls Try.prog 21 #[.pointer (some ⟨g, 0, none⟩)] w fun e w' => e = .returned (.bool r1) ∧ IsS77 w0 w' g r2 r3 r4 r5 ∧ Below w0.heap.size w0 w' ∧ KeepBut w w' g none := by
 unfold wire_Reader_Done.f at h
 simp only [Option.some.injEq, Prod.mk.injEq] at h
 obtain ⟨rfl, rfl, rfl, rfl, rfl⟩ := h
 have HI := Am hI
 have HB := Am hB
 have hc0 := cellS77_0 hI.1
 have hc1 := cellS77_1 hI.1
 clear hI hB
 by_cases hz : s0_2 = 0
 ·
  have hz1 : (s0_2 == 0) = true := by rw [hz]; rfl
  have ok := fun n => wire_Reader_ok.same g s0_0 s0_1 s0_2 s0_3 w0 (w.drewN n) (HI.out.drewN n)
  rw [hz1] at ok
  rw [hz1]
  clear hz hz1
  go_enter Try.func21, Try.ntmps21
  go_wp2_with fail
  go_quiet ((go_at_call 43; exact Calls.quiet_of_same (ok _)))
  go_wp2
  go_ret
  exact ⟨by simp, HI.out.drewN _, pN HB.out _, keep_drewN (KeepBut.refl _ _ _) _⟩
 ·
  have hz1 : (s0_2 == 0) = false := beq_eq_false_iff_ne.2 hz
  have ok := fun n => wire_Reader_ok.same g s0_0 s0_1 s0_2 s0_3 w0 (w.drewN n) (HI.out.drewN n)
  rw [hz1] at ok
  rw [hz1]
  clear hz hz1
  go_enter Try.func21, Try.ntmps21
  go_wp2_with fail
  go_quiet ((go_at_call 43; exact Calls.quiet_of_same (ok _)))
  go_wp2
  go_ret
  exact ⟨by simp, HI.out.drewN _, pN HB.out _, keep_drewN (KeepBut.refl _ _ _) _⟩

/-! ### wire_New: function 19 -/
def wire_New.f (a0 : ByteArray) : Option (ByteArray × Int × Int × Int) := some (a0, 0, 0, 0)
set_option maxHeartbeats 8000000 in
set_option maxRecDepth 100000 in
theorem wire_New.calls (a0 : ByteArray) (r1 : ByteArray) (r2 : Int) (r3 : Int) (r4 : Int) (w0 w : World) (hB : Below w0.heap.size w0 w) (h : wire_New.f a0 = some (r1, r2, r3, r4)) :
  Calls Try.prog 19 #[.string a0] w fun e w' => ∃ g_ : Nat, e = .returned (.pointer (some ⟨g_, 0, none⟩)) ∧ IsS77 w0 w' g_ r1 r2 r3 r4 ∧ Below w0.heap.size w0 w' ∧ Below w.heap.size w w' := by
 have hu77 := Try.underlying77
 have HBW := Am (Below.refl w.heap.size w)
 have HW0 := Am hB.size
 have HB := Am hB
 clear hB
 have H : (some (a0, 0, 0, 0)) = some (r1, r2, r3, r4) := h
 clear h
 simp only [Option.some.injEq, Prod.mk.injEq] at H
 obtain ⟨rfl, rfl, rfl, rfl⟩ := H
 go_enter Try.func19, Try.ntmps19
 go_wp2_with (first | ((with_reducible refine gate_dst (N := 5) rfl ?_); refine box_event ?hg (N := 5) ?hd (cs := #[.string a0, .int .i64 0, .int .i64 0, .int .i64 0]) (t := 77) ?hr ?_; (case hd => rfl); (case hg => rfl); (case hr => first | (go_simp; done) | (go_simp; rfl)); intro gb104 hg w2 hbox hb; have BK104 := Am (hbox); have GW104 := Am ((by rw [hg]; exact (below_size (z23)) : w.heap.size ≤ gb104)); have GE104 := Am ((Nat.le_trans HW0.out (by rw [hg]; exact (below_size (z23)) : w.heap.size ≤ gb104) : w0.heap.size ≤ gb104)); replace HBW := Am (below_step HBW.out hb); replace HB := Am (below_step (z3) hb); clear hb hbox hg))
 go_ret
 exact ⟨_, rfl, (show IsS77 w0 _ gb104 a0 0 0 0 from ⟨by (with_reducible repeat (first|apply bn|apply bd|apply ba)); exact BK104.out, GE104.out⟩), by repeat (first | (with_reducible first | exact HB.out | apply bl | apply pN | apply b1 | refine bs ?_ GE104.out) | exact HB.out | exact HBo.out), by repeat (first | (with_reducible first | exact HBW.out | apply bl | apply pN | apply b1 | refine bs ?_ GW104.out) | exact HBW.out)⟩

/-! ### wire_Reader_Err: function 66 -/
def wire_Reader_Err.f (s0_0 : ByteArray) (s0_1 : Int) (s0_2 : Int) (s0_3 : Int) : Option (Int × Int × ByteArray × Int × Int × Int) := some (s0_2, s0_3, s0_0, s0_1, s0_2, s0_3)
set_option maxHeartbeats 8000000 in
set_option maxRecDepth 100000 in
theorem wire_Reader_Err.calls (g : Nat) (s0_0 : ByteArray) (s0_1 : Int) (s0_2 : Int) (s0_3 : Int) (r1 : Int) (r2 : Int) (r3 : ByteArray) (r4 : Int) (r5 : Int) (r6 : Int) (w0 w : World) (hI : IsS77 w0 w g s0_0 s0_1 s0_2 s0_3) (hB : Below w0.heap.size w0 w) (h : wire_Reader_Err.f s0_0 s0_1 s0_2 s0_3 = some (r1, r2, r3, r4, r5, r6)) :
  Calls Try.prog 66 #[.pointer (some ⟨g, 0, none⟩)] w fun e w' => e = .returned (.tuple #[.int .i64 r1, .int .i64 r2]) ∧ IsS77 w0 w' g r3 r4 r5 r6 ∧ Below w0.heap.size w0 w' ∧ KeepBut w w' g none := by
 have HI0 := Am hI
 have HK := Am (KeepBut.refl w g none)
 have HL := Am hB.size
 clear hI
 have HW0 := Am hB.size
 have HB := Am hB
 clear hB
 have H : (some (s0_2, s0_3, s0_0, s0_1, s0_2, s0_3)) = some (r1, r2, r3, r4, r5, r6) := h
 clear h
 simp only [Option.some.injEq, Prod.mk.injEq] at H
 obtain ⟨rfl, rfl, rfl, rfl, rfl, rfl⟩ := H
 obtain ⟨HGz2, hgz2⟩ := HI0.out
 have hcz2_0 := cellS77_0 HGz2
 have hcz2_1 := cellS77_1 HGz2
 have hcz2_2 := cellS77_2 HGz2
 have hcz2_3 := cellS77_3 HGz2
 have hfz2_0 := bf HGz2 0
 have hfz2_1 := bf HGz2 1
 have hfz2_2 := bf HGz2 2
 have hfz2_3 := bf HGz2 3
 clear HGz2 hgz2
 go_enter Try.func66, Try.ntmps66
 go_wp2
 repeat (go_quiet (fail); try go_wp2)
 go_ret2
 exact ⟨y0, z4, z5, z1⟩

/-! ### table_decoder_sound: function 56, by hand -/
/-- What a decoder panics with. -/
def wrongV (e a : Int) : Value := .iface 45 (.agg #[.int .i64 e, .int .i64 a])
theorem run_panic_i {P : Program} (t : TypeId) (v : Value) (w : World) : (Instr.panic (.iface t v)).run P w = .halt (.panic (.iface t v)) w := rfl
attribute [local go_sem] run_panic_i
theorem dec_box (w : World) (g : Nat) : (w.alloc (.cells #[.pointer (some ⟨g, 0, none⟩)] 50)).cell? ⟨w.heap.size, 0, none⟩ = some (.pointer (some ⟨g, 0, none⟩)) := by simp [go_sem]
theorem wire_Reader_Err.c (g : Nat) (s0 : ByteArray) (s1 s2 s3 : Int) (w0 w : World) (hI : IsS77 w0 w g s0 s1 s2 s3) (hB : Below w0.heap.size w0 w) :
  Calls Try.prog 66 #[.pointer (some ⟨g, 0, none⟩)] w fun e w' => e = .returned (.tuple #[.int .i64 s2, .int .i64 s3]) ∧ IsS77 w0 w' g s0 s1 s2 s3 ∧ Below w0.heap.size w0 w' ∧ KeepBut w w' g none :=
 wire_Reader_Err.calls g s0 s1 s2 s3 s2 s3 s0 s1 s2 s3 w0 w hI hB rfl
set_option maxHeartbeats 2000000 in
set_option maxRecDepth 100000 in
theorem table_decoder_sound.ok (g : Nat) (s0 : ByteArray) (s1 s3 : Int) (w0 w : World) (hI : IsS77 w0 w g s0 s1 0 s3) (hB : Below w0.heap.size w0 w) :
  Calls Try.prog 56 #[.agg #[.pointer (some ⟨g, 0, none⟩)]] w fun e w' => e = .returned (.tuple #[]) ∧ IsS77 w0 w' g s0 s1 0 s3 ∧ Below w0.heap.size w0 w' ∧ KeepBut w w' g none := by
 go_enter Try.func56, Try.ntmps56
 go_wp2_with (go_at_call 66; (with_reducible refine (wire_Reader_Err.c g s0 s1 0 s3 w0 _ (IsS77.alloc hI _) (bl hB _)).mono ?_); rintro e w1 ⟨rfl, hi, hb, hk⟩)
 first | go_end0 | refine bodyPost_ret (results_none rfl _ _ _) rfl ?_
 exact ⟨rfl, hi, hb, KeepBut.trans (keep_alloc (KeepBut.refl _ _ _) _) hk (.inl rfl)⟩
set_option maxHeartbeats 2000000 in
set_option maxRecDepth 100000 in
theorem table_decoder_sound.bad (g : Nat) (s0 : ByteArray) (s1 s2 s3 : Int) (w0 w : World) (hI : IsS77 w0 w g s0 s1 s2 s3) (hB : Below w0.heap.size w0 w) (h : ¬ s2 = 0) :
  Calls Try.prog 56 #[.agg #[.pointer (some ⟨g, 0, none⟩)]] w fun e w' => e = .panicked [{ v := wrongV s2 s3, recovered := false }] ∧ Below w0.heap.size w0 w' ∧ KeepBut w w' g none := by
 have c0b0 : (s2 == 0) = false := beq_eq_false_iff_ne.mpr h
 have c0b1 : (s2 != 0) = true := bne_iff_ne.mpr h
 go_enter Try.func56, Try.ntmps56
 go_wp2_with (go_at_call 66; (with_reducible refine (wire_Reader_Err.c g s0 s1 s2 s3 w0 _ (IsS77.alloc hI _) (bl hB _)).mono ?_); rintro e w1 ⟨rfl, hi, hb, hk⟩)
 exact ⟨rfl, rfl, hb, KeepBut.trans (keep_alloc (KeepBut.refl _ _ _) _) hk (.inl rfl)⟩

/-! ### varint_Take: function 68 -/
mutual
def varint_Take.j0 : Nat → ByteArray → Int → Bool → Option (Int × Int × Int)
 | 0, _, _, _ => none
 | k + 1, x0, x1, x17 => if x17 = true then (some (0, 0, 1)) else (varint_Take.l0 k x0 x1 0 (mn 9 (wrap64 ((x0.size : Int) - x1))) 0)
def varint_Take.l0 : Nat → ByteArray → Int → Int → Int → Int → Option (Int × Int × Int)
 | 0, _, _, _, _, _ => none
 | k + 1, x0, x1, x7, x22, x23 => if x23 < x22 then (if 0 ≤ (wrap64 (x1 + x23)) then (if (wrap64 (x1 + x23)) < (x0.size : Int) then (if 0 ≤ (wrap64 (7 * x23)) then (if (wrap64 (bt x0 (wrap64 (x1 + x23)))) ≥ 128 then (varint_Take.l0 k x0 x1 (Go.bits .or .i64 x7 (shl .i64 (Go.bits .and .i64 (wrap64 (bt x0 (wrap64 (x1 + x23)))) 127) (wrap64 (7 * x23)))) x22 (wrap64 (x23 + 1))) else (if (wrap64 (bt x0 (wrap64 (x1 + x23)))) = 0 then (if x23 > 0 then (some (0, 0, 11)) else (if (Go.bits .or .i64 x7 (shl .i64 (Go.bits .and .i64 (wrap64 (bt x0 (wrap64 (x1 + x23)))) 127) (wrap64 (7 * x23)))) ≥ 4611686018427387904 then (some (0, 0, 11)) else (if (Go.bits .or .i64 x7 (shl .i64 (Go.bits .and .i64 (wrap64 (bt x0 (wrap64 (x1 + x23)))) 127) (wrap64 (7 * x23)))) < 0 then (some (0, 0, 11)) else (some (Go.bits .or .i64 x7 (shl .i64 (Go.bits .and .i64 (wrap64 (bt x0 (wrap64 (x1 + x23)))) 127) (wrap64 (7 * x23))), wrap64 ((wrap64 (x1 + x23)) + 1), 0))))) else (if (Go.bits .or .i64 x7 (shl .i64 (Go.bits .and .i64 (wrap64 (bt x0 (wrap64 (x1 + x23)))) 127) (wrap64 (7 * x23)))) ≥ 4611686018427387904 then (some (0, 0, 11)) else (if (Go.bits .or .i64 x7 (shl .i64 (Go.bits .and .i64 (wrap64 (bt x0 (wrap64 (x1 + x23)))) 127) (wrap64 (7 * x23)))) < 0 then (some (0, 0, 11)) else (some (Go.bits .or .i64 x7 (shl .i64 (Go.bits .and .i64 (wrap64 (bt x0 (wrap64 (x1 + x23)))) 127) (wrap64 (7 * x23))), wrap64 ((wrap64 (x1 + x23)) + 1), 0)))))) else (none)) else (none)) else (none)) else (if (wrap64 ((x0.size : Int) - x1)) < 9 then (some (0, 0, 10)) else (some (0, 0, 11)))
end
def varint_Take.f (k : Nat) (a0 : ByteArray) (a1 : Int) : Option (Int × Int × Int) := if a1 < 0 then (varint_Take.j0 k a0 a1 true) else (varint_Take.j0 k a0 a1 (decide (a1 > (a0.size : Int))))
theorem varint_Take.mono_l : ∀ k, (∀ y0 y1 y2, LeO (varint_Take.j0 k y0 y1 y2) (varint_Take.j0 (k + 1) y0 y1 y2)) ∧ (∀ y0 y1 y2 y3 y4, LeO (varint_Take.l0 k y0 y1 y2 y3 y4) (varint_Take.l0 (k + 1) y0 y1 y2 y3 y4))
 | 0 => ⟨fun _ _ _ r h => by simp [varint_Take.j0] at h, fun _ _ _ _ _ r h => by simp [varint_Take.l0] at h⟩
 | k + 1 => by
  obtain ⟨ih0, ih1⟩ := varint_Take.mono_l k
  refine ⟨?_, ?_⟩
  ·
   intro y0 y1 y2
   unfold varint_Take.j0
   repeat' first
   | (with_reducible exact ih0 _ _ _)
   | (with_reducible exact ih1 _ _ _ _ _)
   | (with_reducible exact LeO.refl _)
   | (with_reducible exact LeO.none _)
   | (with_reducible refine LeO.ite ?_ ?_)
   | (with_reducible refine LeO.bind ?_ (fun _ => ?_))
   | exact LeO.none _
   | refine LeO.ite ?_ ?_
   | refine LeO.bind ?_ (fun _ => ?_)
  ·
   intro y0 y1 y2 y3 y4
   unfold varint_Take.l0
   repeat' first
   | (with_reducible exact ih0 _ _ _)
   | (with_reducible exact ih1 _ _ _ _ _)
   | (with_reducible exact LeO.refl _)
   | (with_reducible exact LeO.none _)
   | (with_reducible refine LeO.ite ?_ ?_)
   | (with_reducible refine LeO.bind ?_ (fun _ => ?_))
   | exact LeO.none _
   | refine LeO.ite ?_ ?_
   | refine LeO.bind ?_ (fun _ => ?_)
theorem varint_Take.mono : ∀ a0 a1 k, LeO (varint_Take.f k a0 a1) (varint_Take.f (k + 1) a0 a1) := by
 intro a0 a1 k
 obtain ⟨ih0, ih1⟩ := varint_Take.mono_l k
 unfold varint_Take.f
 repeat' first
   | (with_reducible exact ih0 _ _ _)
   | (with_reducible exact ih1 _ _ _ _ _)
   | (with_reducible exact LeO.refl _)
   | (with_reducible exact LeO.none _)
   | (with_reducible refine LeO.ite ?_ ?_)
   | (with_reducible refine LeO.bind ?_ (fun _ => ?_))
   | exact LeO.none _
   | refine LeO.ite ?_ ?_
   | refine LeO.bind ?_ (fun _ => ?_)
set_option maxHeartbeats 8000000 in
set_option maxRecDepth 100000 in
theorem varint_Take.calls (k : Nat) (a0 : ByteArray) (a1 : Int) (r1 : Int) (r2 : Int) (r3 : Int) (w : World) (h : varint_Take.f k a0 a1 = some (r1, r2, r3)) :
  Calls Try.prog 68 #[.string a0, .int .i64 a1] w fun e w' => e = .returned (.tuple #[.int .i64 r1, .int .i64 r2, .int .i64 r3]) ∧ Drawn0 w w' := by
 have H : (if a1 < 0 then (varint_Take.j0 k a0 a1 true) else (varint_Take.j0 k a0 a1 (decide (a1 > (a0.size : Int))))) = some (r1, r2, r3) := h
 clear h
 have HC3 := Am H
 clear H
 go_enter Try.func68, Try.ntmps68
 go_upto_region 1 with (fail)
 go_cut [17] (fun v17 wc => ∃ (kq : Nat) (x17_2 : Bool), v17 = .bool x17_2 ∧ Aside0 (varint_Take.j0 kq a0 a1 x17_2 = some (r1, r2, r3)) ∧ Aside0 (kq ≤ k) ∧ Drawn0 w wc)
 case first =>
  have H := HC3.out
  clear HC3
  by_cases c4 : a1 < 0
  ·
   rw [if_pos c4] at H
   have c4b0 : decide (a1 < 0) = true := decide_eq_true c4
   clear c4
   (first | rw [c4b0] | (simp only [i64_w, i32_w]; rw [c4b0]) | skip)
   have H' := Am H
   clear H
   go_wp2
   go_meet
   case rel => exact ⟨_, (true), (by first | rfl | (simp; done) | (simp [*]; done) | (simp; generalize ByteArray.toList _ = l_; cases l_ <;> rfl)), H', ⟨by first | omega | exact Nat.le_refl _⟩, by repeat (first | exact Drawn0.refl _ | apply Drawn0.step)⟩
  ·
   rw [if_neg c4] at H
   have c4b0 : decide (a1 < 0) = false := decide_eq_false c4
   clear c4
   (first | rw [c4b0] | (simp only [i64_w, i32_w]; rw [c4b0]) | skip)
   have H' := Am H
   clear H
   go_wp2
   go_meet
   case rel => exact ⟨_, (decide (a1 > (a0.size : Int))), (by first | rfl | (simp; done) | (simp [*]; done) | (simp; generalize ByteArray.toList _ = l_; cases l_ <;> rfl)), H', ⟨by first | omega | exact Nat.le_refl _⟩, by repeat (first | exact Drawn0.refl _ | apply Drawn0.step)⟩
 case rest =>
  clear HC3
  try clear p2
  try clear c4
  try clear c4b0
  obtain ⟨kq, x17_2, rfl, HA, HJ2, ⟨mc2, rfl⟩⟩ := hcut
  cases kq with
  | zero => exact absurd HA.out (by simp [varint_Take.j0])
  | succ kj2 =>
   have H := HA.out
   clear HA
   simp only [varint_Take.j0] at H
   by_cases c5 : x17_2 = true
   ·
    subst c5
    rw [if_pos rfl] at H
    simp only [Option.some.injEq, Prod.mk.injEq] at H
    obtain ⟨rfl, rfl, rfl⟩ := H
    go_wp2
    go_ret3
    exact ⟨by first | rfl | (simp; done) | (simp [*]; done), by repeat (first | exact Drawn0.refl _ | apply Drawn0.step)⟩
   ·
    replace c5 := Bool.eq_false_iff.mpr c5
    subst c5
    rw [if_neg (show ¬ (false = true) by decide)] at H
    obtain ⟨ji6, hji6⟩ : ∃ j_ : Int, (mn 9 (wrap64 ((a0.size : Int) - a1))) = j_ := ⟨_, rfl⟩
    replace H : (varint_Take.l0 kj2 a0 a1 0 ji6 0) = some (r1, r2, r3) := by first | (rw [hji6] at H; exact H) | (simp only [hji6] at H ⊢; exact H)
    have hji6_ : (if (wrap64 ((a0.size : Int) - a1)) < 9 then (wrap64 ((a0.size : Int) - a1)) else 9) = ji6 := hji6
    have H' := Am H
    clear H
    go_wp2
    go_loopg [7, 23] kj2 (fun kq v7 v23 w' => ∃ (x7_2 : Int) (x23_2 : Int), v7 = .int .i64 x7_2 ∧ v23 = .int .i64 x23_2 ∧ Aside0 (varint_Take.l0 kq a0 a1 x7_2 ji6 x23_2 = some (r1, r2, r3)) ∧ Aside0 (kq ≤ kj2) ∧ Drawn0 w w')
    case atStart => exact ⟨(0), (0), (by first | rfl | (simp; done) | (simp [*]; done)), (by first | rfl | (simp; done) | (simp [*]; done) | (simp; generalize ByteArray.toList _ = l_; cases l_ <;> rfl)), H', ⟨Nat.le_refl _⟩, by repeat (first | exact Drawn0.refl _ | apply Drawn0.step)⟩
    case round =>
     clear H'
     try clear c2
     try clear p2
     try clear c4
     try clear c4b0
     try clear c5
     try clear c6
     try clear p6
     try clear p2
     obtain ⟨x7_2, x23_2, rfl, rfl, HA, HK2, ⟨m2, rfl⟩⟩ := hrel
     cases gk with
     | zero => exact absurd HA.out (by simp [varint_Take.l0])
     | succ k2 =>
      have H := HA.out
      clear HA
      simp only [varint_Take.l0] at H
      by_cases c7 : x23_2 < ji6
      ·
       rw [if_pos c7] at H
       have c7b0 : decide (x23_2 < ji6) = true := decide_eq_true c7
       clear c7
       obtain ⟨ji8, hji8⟩ : ∃ j_ : Int, (wrap64 (a1 + x23_2)) = j_ := ⟨_, rfl⟩
       replace H : (if 0 ≤ (ji8) then (if (ji8) < (a0.size : Int) then (if 0 ≤ (wrap64 (7 * x23_2)) then (if (wrap64 (bt a0 (ji8))) ≥ 128 then (varint_Take.l0 k2 a0 a1 (Go.bits .or .i64 x7_2 (shl .i64 (Go.bits .and .i64 (wrap64 (bt a0 (ji8))) 127) (wrap64 (7 * x23_2)))) ji6 (wrap64 (x23_2 + 1))) else (if (wrap64 (bt a0 (ji8))) = 0 then (if x23_2 > 0 then (some (0, 0, 11)) else (if (Go.bits .or .i64 x7_2 (shl .i64 (Go.bits .and .i64 (wrap64 (bt a0 (ji8))) 127) (wrap64 (7 * x23_2)))) ≥ 4611686018427387904 then (some (0, 0, 11)) else (if (Go.bits .or .i64 x7_2 (shl .i64 (Go.bits .and .i64 (wrap64 (bt a0 (ji8))) 127) (wrap64 (7 * x23_2)))) < 0 then (some (0, 0, 11)) else (some (Go.bits .or .i64 x7_2 (shl .i64 (Go.bits .and .i64 (wrap64 (bt a0 (ji8))) 127) (wrap64 (7 * x23_2))), wrap64 ((ji8) + 1), 0))))) else (if (Go.bits .or .i64 x7_2 (shl .i64 (Go.bits .and .i64 (wrap64 (bt a0 (ji8))) 127) (wrap64 (7 * x23_2)))) ≥ 4611686018427387904 then (some (0, 0, 11)) else (if (Go.bits .or .i64 x7_2 (shl .i64 (Go.bits .and .i64 (wrap64 (bt a0 (ji8))) 127) (wrap64 (7 * x23_2)))) < 0 then (some (0, 0, 11)) else (some (Go.bits .or .i64 x7_2 (shl .i64 (Go.bits .and .i64 (wrap64 (bt a0 (ji8))) 127) (wrap64 (7 * x23_2))), wrap64 ((ji8) + 1), 0)))))) else (none)) else (none)) else (none)) = some (r1, r2, r3) := by first | (rw [hji8] at H; exact H) | (simp only [hji8] at H ⊢; exact H)
       have hji8w : (IntKind.i64.wrap (a1 + x23_2)) = ji8 := (i64_w _).trans hji8
       by_cases c9 : 0 ≤ (ji8)
       ·
        rw [if_pos c9] at H
        have c9b0 : decide (0 ≤ (ji8)) = true := decide_eq_true c9
        clear c9
        by_cases c10 : (ji8) < (a0.size : Int)
        ·
         rw [if_pos c10] at H
         have c10b0 : decide ((ji8) < (a0.size : Int)) = true := decide_eq_true c10
         clear c10
         obtain ⟨ji12, hji12⟩ : ∃ j_ : Int, (wrap64 (7 * x23_2)) = j_ := ⟨_, rfl⟩
         replace H : (if 0 ≤ (ji12) then (if (wrap64 (bt a0 (ji8))) ≥ 128 then (varint_Take.l0 k2 a0 a1 (Go.bits .or .i64 x7_2 (shl .i64 (Go.bits .and .i64 (wrap64 (bt a0 (ji8))) 127) (ji12))) ji6 (wrap64 (x23_2 + 1))) else (if (wrap64 (bt a0 (ji8))) = 0 then (if x23_2 > 0 then (some (0, 0, 11)) else (if (Go.bits .or .i64 x7_2 (shl .i64 (Go.bits .and .i64 (wrap64 (bt a0 (ji8))) 127) (ji12))) ≥ 4611686018427387904 then (some (0, 0, 11)) else (if (Go.bits .or .i64 x7_2 (shl .i64 (Go.bits .and .i64 (wrap64 (bt a0 (ji8))) 127) (ji12))) < 0 then (some (0, 0, 11)) else (some (Go.bits .or .i64 x7_2 (shl .i64 (Go.bits .and .i64 (wrap64 (bt a0 (ji8))) 127) (ji12)), wrap64 ((ji8) + 1), 0))))) else (if (Go.bits .or .i64 x7_2 (shl .i64 (Go.bits .and .i64 (wrap64 (bt a0 (ji8))) 127) (ji12))) ≥ 4611686018427387904 then (some (0, 0, 11)) else (if (Go.bits .or .i64 x7_2 (shl .i64 (Go.bits .and .i64 (wrap64 (bt a0 (ji8))) 127) (ji12))) < 0 then (some (0, 0, 11)) else (some (Go.bits .or .i64 x7_2 (shl .i64 (Go.bits .and .i64 (wrap64 (bt a0 (ji8))) 127) (ji12)), wrap64 ((ji8) + 1), 0)))))) else (none)) = some (r1, r2, r3) := by first | (rw [hji12] at H; exact H) | (simp only [hji12] at H ⊢; exact H)
         have hji12w : (IntKind.i64.wrap (7 * x23_2)) = ji12 := (i64_w _).trans hji12
         by_cases c13 : 0 ≤ (ji12)
         ·
          rw [if_pos c13] at H
          have c13b0 := eq_true c13
          have c13b1 : decide (0 ≤ (ji12)) = true := decide_eq_true c13
          clear c13
          obtain ⟨ji14, hji14⟩ : ∃ j_ : Int, (shl .i64 (Go.bits .and .i64 (wrap64 (bt a0 (ji8))) 127) (ji12)) = j_ := ⟨_, rfl⟩
          replace H : (if (wrap64 (bt a0 (ji8))) ≥ 128 then (varint_Take.l0 k2 a0 a1 (Go.bits .or .i64 x7_2 (ji14)) ji6 (wrap64 (x23_2 + 1))) else (if (wrap64 (bt a0 (ji8))) = 0 then (if x23_2 > 0 then (some (0, 0, 11)) else (if (Go.bits .or .i64 x7_2 (ji14)) ≥ 4611686018427387904 then (some (0, 0, 11)) else (if (Go.bits .or .i64 x7_2 (ji14)) < 0 then (some (0, 0, 11)) else (some (Go.bits .or .i64 x7_2 (ji14), wrap64 ((ji8) + 1), 0))))) else (if (Go.bits .or .i64 x7_2 (ji14)) ≥ 4611686018427387904 then (some (0, 0, 11)) else (if (Go.bits .or .i64 x7_2 (ji14)) < 0 then (some (0, 0, 11)) else (some (Go.bits .or .i64 x7_2 (ji14), wrap64 ((ji8) + 1), 0)))))) = some (r1, r2, r3) := by first | (rw [hji14] at H; exact H) | (simp only [hji14] at H ⊢; exact H)
          have hji14_ : (IntKind.i64.wrap ((Go.bits .and .i64 (wrap64 (bt a0 (ji8))) 127) * 2 ^ min (ji12).toNat 64)) = ji14 := hji14
          have hji14z : (ji12) ≤ 64 → (IntKind.i64.wrap ((Go.bits .and .i64 (wrap64 (bt a0 (ji8))) 127) * 2 ^ (ji12).toNat)) = ji14 := shl_small hji14
          have hji14y : (wrap64 ((Go.bits .and .i64 (wrap64 (bt a0 (ji8))) 127) * 2 ^ min (ji12).toNat 64)) = ji14 := (i64_w _).symm.trans hji14_
          have hji14x : (ji12) ≤ 64 → (wrap64 ((Go.bits .and .i64 (wrap64 (bt a0 (ji8))) 127) * 2 ^ (ji12).toNat)) = ji14 := fun h_ => (i64_w _).symm.trans (hji14z h_)
          by_cases c15 : (wrap64 (bt a0 (ji8))) ≥ 128
          ·
           rw [if_pos c15] at H
           have c15b0 : decide (128 ≤ (wrap64 (bt a0 (ji8)))) = true := decide_eq_true c15
           clear c15
           have H' := Am H
           clear H
           have p11 : 0 ≤ ((ji8) : Int) := dz
           have q11 : (ji8) < (a0.size : Int) := dz
           have hx11 := bt_at a0 (ji8)
           replace p11 := eq_true p11
           replace q11 := eq_true q11
           go_wp2
           go_roundg k2
           case measure => have := HJ2.out; have := HK2.out; omega
           case rel => exact ⟨(Go.bits .or .i64 x7_2 (ji14)), (wrap64 (x23_2 + 1)), (by first | rfl | (simp; done) | (simp only [← hji14] <;> (first | rfl | simp)) | (simp [*]; done)), (by first | rfl | (simp; done) | (simp [*]; done) | (simp; generalize ByteArray.toList _ = l_; cases l_ <;> rfl)), H', ⟨by have := HJ2.out; have := HK2.out; omega⟩, by repeat (first | exact Drawn0.refl _ | apply Drawn0.step)⟩
          ·
           rw [if_neg c15] at H
           have c15b0 : decide (128 ≤ (wrap64 (bt a0 (ji8)))) = false := decide_eq_false c15
           clear c15
           by_cases c16 : (wrap64 (bt a0 (ji8))) = 0
           ·
            rw [if_pos c16] at H
            have c16b0 : ((wrap64 (bt a0 (ji8))) == 0) = true := beq_iff_eq.mpr c16
            have c16b1 : ((wrap64 (bt a0 (ji8))) != 0) = false := bne_eq_false_iff_eq.mpr c16
            clear c16
            by_cases c17 : x23_2 > 0
            ·
             rw [if_pos c17] at H
             have c17b0 : decide (0 < x23_2) = true := decide_eq_true c17
             clear c17
             simp only [Option.some.injEq, Prod.mk.injEq] at H
             obtain ⟨rfl, rfl, rfl⟩ := H
             have p11 : 0 ≤ ((ji8) : Int) := dz
             have q11 : (ji8) < (a0.size : Int) := dz
             have hx11 := bt_at a0 (ji8)
             replace p11 := eq_true p11
             replace q11 := eq_true q11
             go_wp2
             go_ret3
             exact ⟨by first | rfl | (simp; done) | (simp only [← hji6, ← hji8, ← hji12, ← hji14] <;> (first | rfl | simp)) | (simp [*]; done), by repeat (first | exact Drawn0.refl _ | apply Drawn0.step)⟩
            ·
             rw [if_neg c17] at H
             have c17b0 : decide (0 < x23_2) = false := decide_eq_false c17
             clear c17
             by_cases c18 : (Go.bits .or .i64 x7_2 (ji14)) ≥ 4611686018427387904
             ·
              rw [if_pos c18] at H
              have c18b0 : decide (4611686018427387904 ≤ (Go.bits .or .i64 x7_2 (ji14))) = true := decide_eq_true c18
              clear c18
              simp only [Option.some.injEq, Prod.mk.injEq] at H
              obtain ⟨rfl, rfl, rfl⟩ := H
              have p11 : 0 ≤ ((ji8) : Int) := dz
              have q11 : (ji8) < (a0.size : Int) := dz
              have hx11 := bt_at a0 (ji8)
              replace p11 := eq_true p11
              replace q11 := eq_true q11
              go_wp2
              go_ret3
              exact ⟨by first | rfl | (simp; done) | (simp only [← hji6, ← hji8, ← hji12, ← hji14] <;> (first | rfl | simp)) | (simp [*]; done), by repeat (first | exact Drawn0.refl _ | apply Drawn0.step)⟩
             ·
              rw [if_neg c18] at H
              have c18b0 : decide (4611686018427387904 ≤ (Go.bits .or .i64 x7_2 (ji14))) = false := decide_eq_false c18
              clear c18
              by_cases c19 : (Go.bits .or .i64 x7_2 (ji14)) < 0
              ·
               rw [if_pos c19] at H
               have c19b0 : decide ((Go.bits .or .i64 x7_2 (ji14)) < 0) = true := decide_eq_true c19
               clear c19
               simp only [Option.some.injEq, Prod.mk.injEq] at H
               obtain ⟨rfl, rfl, rfl⟩ := H
               have p11 : 0 ≤ ((ji8) : Int) := dz
               have q11 : (ji8) < (a0.size : Int) := dz
               have hx11 := bt_at a0 (ji8)
               replace p11 := eq_true p11
               replace q11 := eq_true q11
               go_wp2
               go_ret3
               exact ⟨by first | rfl | (simp; done) | (simp only [← hji6, ← hji8, ← hji12, ← hji14] <;> (first | rfl | simp)) | (simp [*]; done), by repeat (first | exact Drawn0.refl _ | apply Drawn0.step)⟩
              ·
               rw [if_neg c19] at H
               have c19b0 : decide ((Go.bits .or .i64 x7_2 (ji14)) < 0) = false := decide_eq_false c19
               clear c19
               simp only [Option.some.injEq, Prod.mk.injEq] at H
               obtain ⟨rfl, rfl, rfl⟩ := H
               have p11 : 0 ≤ ((ji8) : Int) := dz
               have q11 : (ji8) < (a0.size : Int) := dz
               have hx11 := bt_at a0 (ji8)
               replace p11 := eq_true p11
               replace q11 := eq_true q11
               go_wp2
               go_ret3
               exact ⟨by first | rfl | (simp; done) | (simp only [← hji6, ← hji8, ← hji12, ← hji14] <;> (first | rfl | simp)) | (simp [*]; done), by repeat (first | exact Drawn0.refl _ | apply Drawn0.step)⟩
           ·
            rw [if_neg c16] at H
            have c16b0 : ((wrap64 (bt a0 (ji8))) == 0) = false := beq_eq_false_iff_ne.mpr c16
            have c16b1 : ((wrap64 (bt a0 (ji8))) != 0) = true := bne_iff_ne.mpr c16
            by_cases c20 : (Go.bits .or .i64 x7_2 (ji14)) ≥ 4611686018427387904
            ·
             rw [if_pos c20] at H
             have c20b0 : decide (4611686018427387904 ≤ (Go.bits .or .i64 x7_2 (ji14))) = true := decide_eq_true c20
             clear c20
             simp only [Option.some.injEq, Prod.mk.injEq] at H
             obtain ⟨rfl, rfl, rfl⟩ := H
             have p11 : 0 ≤ ((ji8) : Int) := dz
             have q11 : (ji8) < (a0.size : Int) := dz
             have hx11 := bt_at a0 (ji8)
             replace p11 := eq_true p11
             replace q11 := eq_true q11
             go_wp2
             go_ret3
             exact ⟨by first | rfl | (simp; done) | (simp only [← hji6, ← hji8, ← hji12, ← hji14] <;> (first | rfl | simp)) | (simp [*]; done), by repeat (first | exact Drawn0.refl _ | apply Drawn0.step)⟩
            ·
             rw [if_neg c20] at H
             have c20b0 : decide (4611686018427387904 ≤ (Go.bits .or .i64 x7_2 (ji14))) = false := decide_eq_false c20
             clear c20
             by_cases c21 : (Go.bits .or .i64 x7_2 (ji14)) < 0
             ·
              rw [if_pos c21] at H
              have c21b0 : decide ((Go.bits .or .i64 x7_2 (ji14)) < 0) = true := decide_eq_true c21
              clear c21
              simp only [Option.some.injEq, Prod.mk.injEq] at H
              obtain ⟨rfl, rfl, rfl⟩ := H
              have p11 : 0 ≤ ((ji8) : Int) := dz
              have q11 : (ji8) < (a0.size : Int) := dz
              have hx11 := bt_at a0 (ji8)
              replace p11 := eq_true p11
              replace q11 := eq_true q11
              go_wp2
              go_ret3
              exact ⟨by first | rfl | (simp; done) | (simp only [← hji6, ← hji8, ← hji12, ← hji14] <;> (first | rfl | simp)) | (simp [*]; done), by repeat (first | exact Drawn0.refl _ | apply Drawn0.step)⟩
             ·
              rw [if_neg c21] at H
              have c21b0 : decide ((Go.bits .or .i64 x7_2 (ji14)) < 0) = false := decide_eq_false c21
              clear c21
              simp only [Option.some.injEq, Prod.mk.injEq] at H
              obtain ⟨rfl, rfl, rfl⟩ := H
              have p11 : 0 ≤ ((ji8) : Int) := dz
              have q11 : (ji8) < (a0.size : Int) := dz
              have hx11 := bt_at a0 (ji8)
              replace p11 := eq_true p11
              replace q11 := eq_true q11
              go_wp2
              go_ret3
              exact ⟨by first | rfl | (simp; done) | (simp only [← hji6, ← hji8, ← hji12, ← hji14] <;> (first | rfl | simp)) | (simp [*]; done), by repeat (first | exact Drawn0.refl _ | apply Drawn0.step)⟩
         ·
          rw [if_neg c13] at H
          exact absurd H (by simp)
        ·
         rw [if_neg c10] at H
         exact absurd H (by simp)
       ·
        rw [if_neg c9] at H
        exact absurd H (by simp)
      ·
       rw [if_neg c7] at H
       have c7b0 : decide (x23_2 < ji6) = false := decide_eq_false c7
       clear c7
       by_cases c22 : (wrap64 ((a0.size : Int) - a1)) < 9
       ·
        rw [if_pos c22] at H
        have c22b0 : decide ((wrap64 ((a0.size : Int) - a1)) < 9) = true := decide_eq_true c22
        clear c22
        simp only [Option.some.injEq, Prod.mk.injEq] at H
        obtain ⟨rfl, rfl, rfl⟩ := H
        go_wp2
        go_ret3
        exact ⟨by first | rfl | (simp; done) | (simp only [← hji6] <;> (first | rfl | simp)) | (simp [*]; done), by repeat (first | exact Drawn0.refl _ | apply Drawn0.step)⟩
       ·
        rw [if_neg c22] at H
        have c22b0 : decide ((wrap64 ((a0.size : Int) - a1)) < 9) = false := decide_eq_false c22
        clear c22
        simp only [Option.some.injEq, Prod.mk.injEq] at H
        obtain ⟨rfl, rfl, rfl⟩ := H
        go_wp2
        go_ret3
        exact ⟨by first | rfl | (simp; done) | (simp only [← hji6] <;> (first | rfl | simp)) | (simp [*]; done), by repeat (first | exact Drawn0.refl _ | apply Drawn0.step)⟩

/-! ### wire_Reader_fail: function 69 -/
def wire_Reader_fail.f (s0_0 : ByteArray) (s0_1 : Int) (s0_2 : Int) (s0_3 : Int) (a1 : Int) (a2 : Int) : Option (ByteArray × Int × Int × Int) := some (s0_0, a2, a1, a2)
set_option maxHeartbeats 8000000 in
set_option maxRecDepth 100000 in
theorem wire_Reader_fail.calls (g : Nat) (s0_0 : ByteArray) (s0_1 : Int) (s0_2 : Int) (s0_3 : Int) (a1 : Int) (a2 : Int) (r1 : ByteArray) (r2 : Int) (r3 : Int) (r4 : Int) (w0 w : World) (hI : IsS77 w0 w g s0_0 s0_1 s0_2 s0_3) (hB : Below w0.heap.size w0 w) (h : wire_Reader_fail.f s0_0 s0_1 s0_2 s0_3 a1 a2 = some (r1, r2, r3, r4)) :
  Calls Try.prog 69 #[.pointer (some ⟨g, 0, none⟩), .int .i64 a1, .int .i64 a2] w fun e w' => e = .returned (.tuple #[]) ∧ IsS77 w0 w' g r1 r2 r3 r4 ∧ Below w0.heap.size w0 w' ∧ KeepBut w w' g none := by
 have HI0 := Am hI
 have HK := Am (KeepBut.refl w g none)
 have HL := Am hB.size
 clear hI
 have HW0 := Am hB.size
 have HB := Am hB
 clear hB
 have H : (some (s0_0, a2, a1, a2)) = some (r1, r2, r3, r4) := h
 clear h
 simp only [Option.some.injEq, Prod.mk.injEq] at H
 obtain ⟨rfl, rfl, rfl, rfl⟩ := H
 obtain ⟨HGz4, hgz4⟩ := HI0.out
 have hcz4_0 := cellS77_0 HGz4
 have hcz4_1 := cellS77_1 HGz4
 have hcz4_2 := cellS77_2 HGz4
 have hcz4_3 := cellS77_3 HGz4
 have hfz4_0 := bf HGz4 0
 have hfz4_1 := bf HGz4 1
 have hfz4_2 := bf HGz4 2
 have hfz4_3 := bf HGz4 3
 clear HGz4 hgz4
 go_enter Try.func69, Try.ntmps69
 go_wp2
 first | go_end0 | ((try simp only [Exit.inBlock, Exit.then]); refine bodyPost_ret (results_none rfl _ _ _) rfl ?_)
 exact ⟨y0, z4, z5, z1⟩

end Go.Proofs.Ytlmmlmmbnfcogaa.Q
