-- printed by a program of this session (NOTES: hprint); not the kit's print
-- minified
-- halved
import Derived.Test.YtfcombimnmkoeaaAl
import Derived.Test.YtfcombimnmkoeaaQx0
import Derived.Test.YtfcombimnmkoeaaQx1
import Derived.Test.YtfcombimnmkoeaaQx8
namespace Go.Proofs.Ytfcombimnmkoeaa.Q
open Go.RowKit Go.Proofs.YtfcombimnmkoeaaW.PrintWords Go.Proofs.YtfcombimnmkoeaaW.PrintLast Go.Proofs.YtfcombimnmkoeaaW.PrintMore
attribute [local go_sem] max2_int min2_int max_two min_two max_three min_three max_four min_four   -- for this text's walks alone
set_option linter.unusedVariables false
set_option linter.unusedSimpArgs false

attribute [local go_sem high] eqA23
/-! ### shuttlecockref04_Bytes: function 20 -/
def shuttlecockref04_Bytes.l0 : Nat → List (S41) → ByteArray → Int → Option (ByteArray)
 | 0, _, _, _ => none
 | k + 1, x0, x3, x4 => if x4 < (x0.length : Int) then (if 0 ≤ x4 then ((shuttlecockref04_Encode.f k ((rd_T41 x0 x4).f0) ((rd_T41 x0 x4).f1) ((rd_T41 x0 x4).f2) ((rd_T41 x0 x4).f3)).bind fun t364 => (if x3.size + t364.size ≤ 9223372036854775807 then (shuttlecockref04_Bytes.l0 k x0 (x3 ++ t364) (wrap64 (x4 + 1))) else (none))) else (none)) else (some x3)
def shuttlecockref04_Bytes.f (k : Nat) (l0 : List (S41)) : Option (ByteArray) := shuttlecockref04_Bytes.l0 k l0 (⟨#[]⟩ : ByteArray) 0
theorem shuttlecockref04_Bytes.mono_l : ∀ k, (∀ y0 y1 y2, LeO (shuttlecockref04_Bytes.l0 k y0 y1 y2) (shuttlecockref04_Bytes.l0 (k + 1) y0 y1 y2))
 | 0 => fun _ _ _ r h => by simp [shuttlecockref04_Bytes.l0] at h
 | k + 1 => by
  have ih0 := shuttlecockref04_Bytes.mono_l k
  ·
   intro y0 y1 y2
   unfold shuttlecockref04_Bytes.l0
   repeat' first
   | (with_reducible exact ih0 _ _ _)
   | (with_reducible exact shuttlecockref04_Encode.mono _ _ _ _ _)
   | (with_reducible exact LeO.refl _)
   | (with_reducible exact LeO.none _)
   | (with_reducible refine LeO.ite ?_ ?_)
   | (with_reducible refine LeO.bind ?_ (fun _ => ?_))
   | exact ih0 _ _ _
   | exact shuttlecockref04_Encode.mono _ _ _ _ _
   | exact LeO.none _
   | refine LeO.ite ?_ ?_
   | refine LeO.bind ?_ (fun _ => ?_)
theorem shuttlecockref04_Bytes.mono : ∀ a0 k, LeO (shuttlecockref04_Bytes.f k a0) (shuttlecockref04_Bytes.f (k + 1) a0) := by
 intro a0 k
 have ih0 := shuttlecockref04_Bytes.mono_l k
 unfold shuttlecockref04_Bytes.f
 repeat' first
   | (with_reducible exact ih0 _ _ _)
   | (with_reducible exact shuttlecockref04_Encode.mono _ _ _ _ _)
   | (with_reducible exact LeO.refl _)
   | (with_reducible exact LeO.none _)
   | (with_reducible refine LeO.ite ?_ ?_)
   | (with_reducible refine LeO.bind ?_ (fun _ => ?_))
   | exact ih0 _ _ _
   | exact shuttlecockref04_Encode.mono _ _ _ _ _
   | exact LeO.none _
   | refine LeO.ite ?_ ?_
   | refine LeO.bind ?_ (fun _ => ?_)
set_option maxHeartbeats 8000000 in
set_option maxRecDepth 100000 in
theorem shuttlecockref04_Bytes.calls (k : Nat) (A0 : Option Addr) (c0 : Nat) (l0 : List (S41)) (r : ByteArray) (w : World) (hr0 : Kd.C k41 w A0 l0.length l0) (hc0 : l0.length ≤ c0) (h : shuttlecockref04_Bytes.f k l0 = some r) :
  Calls Try.prog 20 #[.slice A0 l0.length c0] w fun e w' => e = .returned (.string r) ∧ Below w.heap.size w w' := by
 have hu41 := Try.underlying41
 have HR0 := Am hr0
 have HC0 := Am hc0
 clear hr0 hc0
 have HB := Am (Below.refl w.heap.size w)
 have H : (shuttlecockref04_Bytes.l0 k l0 (⟨#[]⟩ : ByteArray) 0) = some r := h
 clear h
 have H' := Am H
 clear H
 go_enter Try.func20, Try.ntmps20
 go_wp2
 go_loopg [3, 4] k (fun kq v3 v4 w' => ∃ (x3_1 : ByteArray) (x4_1 : Int), v3 = .string x3_1 ∧ v4 = .int .i64 x4_1 ∧ Aside0 (shuttlecockref04_Bytes.l0 kq l0 x3_1 x4_1 = some r) ∧ Aside0 (kq ≤ k) ∧ Aside0 (Below w.heap.size w w'))
 case atStart => exact ⟨((⟨#[]⟩ : ByteArray)), (0), (by first | rfl | (simp; done) | (simp [*]; done)), (by first | rfl | (simp; done) | (simp [*]; done)), H', ⟨Nat.le_refl _⟩, ⟨by repeat (first | (with_reducible first | exact HB.out | apply bl | apply pN | apply b1) | exact HB.out | exact HBo.out)⟩⟩
 case round =>
  clear H'
  obtain ⟨x3_1, x4_1, rfl, rfl, HA, HK1, HB⟩ := hrel
  cases gk with
  | zero => exact absurd HA.out (by simp [shuttlecockref04_Bytes.l0])
  | succ k1 =>
   have H := HA.out
   clear HA
   simp only [shuttlecockref04_Bytes.l0] at H
   by_cases c2 : x4_1 < (l0.length : Int)
   ·
    rw [if_pos c2] at H
    have c2b0 : decide (x4_1 < (l0.length : Int)) = true := decide_eq_true c2
    clear c2
    by_cases c3 : 0 ≤ x4_1
    ·
     rw [if_pos c3] at H
     have c3b0 : decide (0 ≤ x4_1) = true := decide_eq_true c3
     clear c3
     replace H := ob H
     obtain ⟨t364, A40, H⟩ := H
     replace H : (if x3_1.size + t364.size ≤ 9223372036854775807 then (shuttlecockref04_Bytes.l0 k1 l0 (x3_1 ++ t364) (wrap64 (x4_1 + 1))) else (none)) = some r := H
     have A4 := Am A40
     clear A40
     by_cases c5 : x3_1.size + t364.size ≤ 9223372036854775807
     ·
      rw [if_pos c5] at H
      have c5b0 := eq_true c5
      have c5b1 : decide (x3_1.size + t364.size ≤ 9223372036854775807) = true := decide_eq_true c5
      try have c5b2 : (9223372036854775807 < x3_1.size + t364.size) = False := eq_false (Nat.not_lt.2 c5)
      have H' := Am H
      clear H
      have p363 : 0 ≤ (x4_1 : Int) := of_decide_eq_true (by first | (with_reducible assumption) | assumption)
      have q363 : x4_1 < (l0.length : Int) := of_decide_eq_true (by first | (with_reducible assumption) | assumption)
      obtain ⟨ad363, A363_2, c363_2, e363, hx363_0, hx363_1, hx363_2, hx363_3, hl363_2, hi363_2⟩ := at_T41 HR0.out x4_1 p363 q363
      cases e363
      replace hx363_0 := (HB.out.cell (World.block_lt_of_cell? w _ hx363_0)).trans hx363_0
      replace hx363_1 := (HB.out.cell (World.block_lt_of_cell? w _ hx363_1)).trans hx363_1
      replace hx363_2 := (HB.out.cell (World.block_lt_of_cell? w _ hx363_2)).trans hx363_2
      replace hx363_3 := (HB.out.cell (World.block_lt_of_cell? w _ hx363_3)).trans hx363_3
      have HR363_2 := Am hi363_2
      have HC363_2 := Am hl363_2
      clear hi363_2 hl363_2
      replace p363 := eq_true p363
      replace q363 := eq_true q363
      go_wp2_with (first | ((with_reducible refine gate_callee (f := 39) rfl ?_); refine goesL_ (some 16) rfl rfl Try.func39 (by kernel_rfl) rfl #[.agg #[.int .i64 ((rd_T41 l0 x4_1).f0), .int .i64 ((rd_T41 l0 x4_1).f1), .slice A363_2 ((rd_T41 l0 x4_1).f2).length c363_2, .string ((rd_T41 l0 x4_1).f3)]] rfl (by (try simp only [List.map_toArray, List.map_cons, List.map_nil]); first | done | rfl | (simp only [List.length_drop, List.length_take]; rfl)) ?_; (with_reducible refine (shuttlecockref04_Encode.calls k1 ((rd_T41 l0 x4_1).f0) ((rd_T41 l0 x4_1).f1) _ _ ((rd_T41 l0 x4_1).f2) ((rd_T41 l0 x4_1).f3) t364 _ ?side1 ?side2 A4.out).mono ?_); (case side1 => repeat (first | exact (Kd.C_below HR363_2.out HB.out) | (with_reducible refine Kd.C_alloc ?_ _) | (with_reducible refine Kd.C_drewN ?_ _) | (with_reducible refine Kd.C_drew ?_))); (case side2 => exact HC363_2.out); rintro e w6 ⟨rfl, hb⟩; refine ⟨_, rfl, ?_⟩; have n0_ := Am (below_step (by repeat (first | (with_reducible first | exact HB.out | apply bl | apply pN | apply b1) | exact HB.out | exact HBo.out)) hb); clear HB; have HB := n0_; clear n0_; (try clear hb); (try clear hb2); (try clear hk); (try clear hi)))
      go_roundg k1
      case measure => have := HK1.out; omega
      case rel => exact ⟨(x3_1 ++ t364), (wrap64 (x4_1 + 1)), (by first | rfl | (simp; done) | (simp [*]; done)), (by first | rfl | (simp; done) | (simp [*]; done)), H', ⟨by have := HK1.out; omega⟩, ⟨by repeat (first | (with_reducible first | exact HB.out | apply bl | apply pN | apply b1) | exact HB.out | exact HBo.out)⟩⟩
     ·
      rw [if_neg c5] at H
      exact absurd H (by simp)
    ·
     rw [if_neg c3] at H
     exact absurd H (by simp)
   ·
    rw [if_neg c2] at H
    have c2b0 : decide (x4_1 < (l0.length : Int)) = false := decide_eq_false c2
    clear c2
    obtain rfl := Option.some.inj H
    go_wp2
    go_ret
    exact ⟨by first | rfl | (simp [errW_none, errW_some] <;> rfl) | (simp [*, errW_none, errW_some] <;> rfl) | (simp [Aid.ne_nil, Aid.eq_nil, errW_none, errW_some]; done), by repeat (first | (with_reducible first | exact HB.out | apply bl | apply pN | apply b1) | exact HB.out | exact HBo.out)⟩

end Go.Proofs.Ytfcombimnmkoeaa.Q
