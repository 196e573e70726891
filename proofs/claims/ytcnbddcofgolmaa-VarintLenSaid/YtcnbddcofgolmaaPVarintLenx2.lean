-- PRINTED BY print.sh 35421559b90ae4d0a3588c463048766b98c2df88dd9212a6774a882060cdf62d: not written by this session
import Derived.Test.YtcnbddcofgolmaaPVarintLenx0
import Derived.Test.YtcnbddcofgolmaaPVarintLenx1
namespace Go.Proofs.Ytcnbddcofgolmaa.PVarintLen
open Go.RowKit Go.Proofs.YtcnbddcofgolmaaW.PrintWords Go.Proofs.YtcnbddcofgolmaaW.PrintLast Go.Proofs.YtcnbddcofgolmaaW.PrintMore
attribute [local go_sem] max2_int min2_int max_two min_two max_three min_three max_four min_four   -- for this text's walks alone
set_option linter.unusedVariables false
set_option linter.unusedSimpArgs false

/-! ### shuttlecocklaw01_VarintLen: function 6 -/
mutual
def shuttlecocklaw01_VarintLen.j0 : Nat → Int → Bool → Option (Bool)
  | 0, _, _ => none
  | k + 1, x0, x16 => if x16 = true then ((shuttlecocklaw01_fixed.f k).bind fun t124 => (some t124)) else ((varint_Put.f k x0).bind fun t125 => (shuttlecocklaw01_VarintLen.l0 k x0 t125 1 (wrap64 (Int.tdiv x0 128))))
def shuttlecocklaw01_VarintLen.l0 : Nat → Int → ByteArray → Int → Int → Option (Bool)
  | 0, _, _, _, _ => none
  | k + 1, x0, x3, x4, x5 => if x5 > 0 then (shuttlecocklaw01_VarintLen.l0 k x0 x3 (wrap64 (x4 + 1)) (wrap64 (Int.tdiv x5 128))) else (shuttlecocklaw01_VarintLen.l1 k x0 x3 x4 0)
def shuttlecocklaw01_VarintLen.l1 : Nat → Int → ByteArray → Int → Int → Option (Bool)
  | 0, _, _, _, _ => none
  | k + 1, x0, x3, x4, x6 => if x6 < (x3.size : Int) then (if 0 ≤ x6 then (if ((decide ((bt x3 x6) ≥ 128)) != (decide ((wrap64 (x6 + 1)) < (x3.size : Int)))) = true then (some false) else (shuttlecocklaw01_VarintLen.l1 k x0 x3 x4 (wrap64 (x6 + 1)))) else (none)) else (if (x3.size : Int) = x4 then ((varint_Len.f k x0).bind fun t126 => (some (t126 == x4))) else (some false))
end
def shuttlecocklaw01_VarintLen.f (k : Nat) (a0 : Int) : Option (Bool) := (shuttlecocklaw01_fixed.f k).bind fun t123 => (if t123 = true then (if a0 < 0 then (shuttlecocklaw01_VarintLen.j0 k a0 true) else (shuttlecocklaw01_VarintLen.j0 k a0 (decide (a0 ≥ 4611686018427387904)))) else (shuttlecocklaw01_VarintLen.j0 k a0 true))
theorem shuttlecocklaw01_VarintLen.mono_l : ∀ k, (∀ y0 y1, LeO (shuttlecocklaw01_VarintLen.j0 k y0 y1) (shuttlecocklaw01_VarintLen.j0 (k + 1) y0 y1)) ∧ (∀ y0 y1 y2 y3, LeO (shuttlecocklaw01_VarintLen.l0 k y0 y1 y2 y3) (shuttlecocklaw01_VarintLen.l0 (k + 1) y0 y1 y2 y3)) ∧ (∀ y0 y1 y2 y3, LeO (shuttlecocklaw01_VarintLen.l1 k y0 y1 y2 y3) (shuttlecocklaw01_VarintLen.l1 (k + 1) y0 y1 y2 y3))
  | 0 => ⟨fun _ _ r h => by simp [shuttlecocklaw01_VarintLen.j0] at h, fun _ _ _ _ r h => by simp [shuttlecocklaw01_VarintLen.l0] at h, fun _ _ _ _ r h => by simp [shuttlecocklaw01_VarintLen.l1] at h⟩
  | k + 1 => by
    obtain ⟨ih0, ih1, ih2⟩ := shuttlecocklaw01_VarintLen.mono_l k
    refine ⟨?_, ?_, ?_⟩
    · intro y0 y1
      unfold shuttlecocklaw01_VarintLen.j0
      repeat' first
      | (with_reducible exact ih0 _ _)
      | (with_reducible exact ih1 _ _ _ _)
      | (with_reducible exact ih2 _ _ _ _)
      | (with_reducible exact shuttlecocklaw01_fixed.mono _)
      | (with_reducible exact varint_Len.mono _ _)
      | (with_reducible exact varint_Put.mono _ _)
      | (with_reducible exact LeO.refl _)
      | (with_reducible exact LeO.none _)
      | (with_reducible refine LeO.ite ?_ ?_)
      | (with_reducible refine LeO.bind ?_ (fun _ => ?_))
      | exact ih0 _ _
      | exact ih1 _ _ _ _
      | exact ih2 _ _ _ _
      | exact shuttlecocklaw01_fixed.mono _
      | exact varint_Len.mono _ _
      | exact varint_Put.mono _ _
      | exact LeO.none _
      | refine LeO.ite ?_ ?_
      | refine LeO.bind ?_ (fun _ => ?_)
    · intro y0 y1 y2 y3
      unfold shuttlecocklaw01_VarintLen.l0
      repeat' first
      | (with_reducible exact ih0 _ _)
      | (with_reducible exact ih1 _ _ _ _)
      | (with_reducible exact ih2 _ _ _ _)
      | (with_reducible exact shuttlecocklaw01_fixed.mono _)
      | (with_reducible exact varint_Len.mono _ _)
      | (with_reducible exact varint_Put.mono _ _)
      | (with_reducible exact LeO.refl _)
      | (with_reducible exact LeO.none _)
      | (with_reducible refine LeO.ite ?_ ?_)
      | (with_reducible refine LeO.bind ?_ (fun _ => ?_))
      | exact ih0 _ _
      | exact ih1 _ _ _ _
      | exact ih2 _ _ _ _
      | exact shuttlecocklaw01_fixed.mono _
      | exact varint_Len.mono _ _
      | exact varint_Put.mono _ _
      | exact LeO.none _
      | refine LeO.ite ?_ ?_
      | refine LeO.bind ?_ (fun _ => ?_)
    · intro y0 y1 y2 y3
      unfold shuttlecocklaw01_VarintLen.l1
      repeat' first
      | (with_reducible exact ih0 _ _)
      | (with_reducible exact ih1 _ _ _ _)
      | (with_reducible exact ih2 _ _ _ _)
      | (with_reducible exact shuttlecocklaw01_fixed.mono _)
      | (with_reducible exact varint_Len.mono _ _)
      | (with_reducible exact varint_Put.mono _ _)
      | (with_reducible exact LeO.refl _)
      | (with_reducible exact LeO.none _)
      | (with_reducible refine LeO.ite ?_ ?_)
      | (with_reducible refine LeO.bind ?_ (fun _ => ?_))
      | exact ih0 _ _
      | exact ih1 _ _ _ _
      | exact ih2 _ _ _ _
      | exact shuttlecocklaw01_fixed.mono _
      | exact varint_Len.mono _ _
      | exact varint_Put.mono _ _
      | exact LeO.none _
      | refine LeO.ite ?_ ?_
      | refine LeO.bind ?_ (fun _ => ?_)
theorem shuttlecocklaw01_VarintLen.mono : ∀ a0 k, LeO (shuttlecocklaw01_VarintLen.f k a0) (shuttlecocklaw01_VarintLen.f (k + 1) a0) := by
  intro a0 k
  obtain ⟨ih0, ih1, ih2⟩ := shuttlecocklaw01_VarintLen.mono_l k
  unfold shuttlecocklaw01_VarintLen.f
  repeat' first
      | (with_reducible exact ih0 _ _)
      | (with_reducible exact ih1 _ _ _ _)
      | (with_reducible exact ih2 _ _ _ _)
      | (with_reducible exact shuttlecocklaw01_fixed.mono _)
      | (with_reducible exact varint_Len.mono _ _)
      | (with_reducible exact varint_Put.mono _ _)
      | (with_reducible exact LeO.refl _)
      | (with_reducible exact LeO.none _)
      | (with_reducible refine LeO.ite ?_ ?_)
      | (with_reducible refine LeO.bind ?_ (fun _ => ?_))
      | exact ih0 _ _
      | exact ih1 _ _ _ _
      | exact ih2 _ _ _ _
      | exact shuttlecocklaw01_fixed.mono _
      | exact varint_Len.mono _ _
      | exact varint_Put.mono _ _
      | exact LeO.none _
      | refine LeO.ite ?_ ?_
      | refine LeO.bind ?_ (fun _ => ?_)
set_option maxHeartbeats 8000000 in
set_option maxRecDepth 100000 in
theorem shuttlecocklaw01_VarintLen.calls (k : Nat) (a0 : Int) (r : Bool) (w : World) (h : shuttlecocklaw01_VarintLen.f k a0 = some r) :
    Calls Try.prog 6 #[.int .i64 a0] w fun e w' => e = .returned (.bool r) ∧ Below w.heap.size w w' := by
  have HB := Aside0.mk (Below.refl w.heap.size w)
  have H : ((shuttlecocklaw01_fixed.f k).bind fun t123 => (if t123 = true then (if a0 < 0 then (shuttlecocklaw01_VarintLen.j0 k a0 true) else (shuttlecocklaw01_VarintLen.j0 k a0 (decide (a0 ≥ 4611686018427387904)))) else (shuttlecocklaw01_VarintLen.j0 k a0 true))) = some r := h
  clear h
  have HC2 := Aside0.mk H
  clear H
  go_enter Try.func6, Try.ntmps6
  go_upto_region 1 with (fail)
  go_cut [16] (fun v16 wc => ∃ (kq : Nat) (x16_1 : Bool), v16 = .bool x16_1 ∧ Aside0 (shuttlecocklaw01_VarintLen.j0 kq a0 x16_1 = some r) ∧ Aside0 (kq ≤ k) ∧ Aside0 (Below w.heap.size w wc))
  case first =>
    have H := HC2.out
    clear HC2
    replace H := Option.bind_eq_some_iff.mp H
    obtain ⟨t123, A30, H⟩ := H
    replace H : (if t123 = true then (if a0 < 0 then (shuttlecocklaw01_VarintLen.j0 k a0 true) else (shuttlecocklaw01_VarintLen.j0 k a0 (decide (a0 ≥ 4611686018427387904)))) else (shuttlecocklaw01_VarintLen.j0 k a0 true)) = some r := H
    have A3 := Aside0.mk A30
    clear A30
    by_cases c4 : t123 = true
    · subst c4
      have H1 : (if a0 < 0 then (shuttlecocklaw01_VarintLen.j0 k a0 true) else (shuttlecocklaw01_VarintLen.j0 k a0 (decide (a0 ≥ 4611686018427387904)))) = some r := by rw [if_pos rfl] at H; exact H
      clear H
      have H := H1
      clear H1
      by_cases c5 : a0 < 0
      · rw [if_pos c5] at H
        have c5b0 : decide (a0 < 0) = true := decide_eq_true c5
        clear c5
        (first | rw [c5b0] | (simp only [i64_w, i32_w]; rw [c5b0]) | skip)
        have H' := Aside0.mk H
        clear H
        go_wp2_with (first | ((with_reducible refine gate_callee (f := 8) rfl ?_); refine goesL_ (some 7) rfl rfl Try.func8 (by kernel_rfl) rfl #[] rfl (by (try simp only [List.map_toArray, List.map_cons, List.map_nil]); first | done | rfl | (simp only [List.length_drop, List.length_take]; rfl)) ?_; (with_reducible refine (shuttlecocklaw01_fixed.calls k  true _ A3.out).mono ?_); rintro e w6 ⟨rfl, hb⟩; refine ⟨_, rfl, ?_⟩; have n0_ := Aside0.mk (below_step (by repeat (first | (with_reducible first | exact HB.out | apply below_alloc | apply pw_below_drewN | apply below_drew1) | exact HB.out)) hb); clear HB; have HB := n0_; clear n0_; (try clear hb); (try clear hb2); (try clear hk); (try clear hi)))
        go_meet
        case rel => exact ⟨_, (true), (by first | rfl | (simp; done) | (simp [*]; done)), H', ⟨by first | omega | exact Nat.le_refl _⟩, ⟨by repeat (first | (with_reducible first | exact HB.out | apply below_alloc | apply pw_below_drewN | apply below_drew1) | exact HB.out)⟩⟩
      · rw [if_neg c5] at H
        have c5b0 : decide (a0 < 0) = false := decide_eq_false c5
        clear c5
        (first | rw [c5b0] | (simp only [i64_w, i32_w]; rw [c5b0]) | skip)
        have H' := Aside0.mk H
        clear H
        go_wp2_with (first | ((with_reducible refine gate_callee (f := 8) rfl ?_); refine goesL_ (some 7) rfl rfl Try.func8 (by kernel_rfl) rfl #[] rfl (by (try simp only [List.map_toArray, List.map_cons, List.map_nil]); first | done | rfl | (simp only [List.length_drop, List.length_take]; rfl)) ?_; (with_reducible refine (shuttlecocklaw01_fixed.calls k  true _ A3.out).mono ?_); rintro e w7 ⟨rfl, hb⟩; refine ⟨_, rfl, ?_⟩; have n0_ := Aside0.mk (below_step (by repeat (first | (with_reducible first | exact HB.out | apply below_alloc | apply pw_below_drewN | apply below_drew1) | exact HB.out)) hb); clear HB; have HB := n0_; clear n0_; (try clear hb); (try clear hb2); (try clear hk); (try clear hi)))
        go_meet
        case rel => exact ⟨_, (decide (a0 ≥ 4611686018427387904)), (by first | rfl | (simp; done) | (simp [*]; done)), H', ⟨by first | omega | exact Nat.le_refl _⟩, ⟨by repeat (first | (with_reducible first | exact HB.out | apply below_alloc | apply pw_below_drewN | apply below_drew1) | exact HB.out)⟩⟩
    · replace c4 := Bool.eq_false_iff.mpr c4
      subst c4
      have H1 : (shuttlecocklaw01_VarintLen.j0 k a0 true) = some r := by rw [if_neg (show ¬ (false = true) by decide)] at H; exact H
      clear H
      have H := H1
      clear H1
      have H' := Aside0.mk H
      clear H
      go_wp2_with (first | ((with_reducible refine gate_callee (f := 8) rfl ?_); refine goesL_ (some 7) rfl rfl Try.func8 (by kernel_rfl) rfl #[] rfl (by (try simp only [List.map_toArray, List.map_cons, List.map_nil]); first | done | rfl | (simp only [List.length_drop, List.length_take]; rfl)) ?_; (with_reducible refine (shuttlecocklaw01_fixed.calls k  false _ A3.out).mono ?_); rintro e w8 ⟨rfl, hb⟩; refine ⟨_, rfl, ?_⟩; have n0_ := Aside0.mk (below_step (by repeat (first | (with_reducible first | exact HB.out | apply below_alloc | apply pw_below_drewN | apply below_drew1) | exact HB.out)) hb); clear HB; have HB := n0_; clear n0_; (try clear hb); (try clear hb2); (try clear hk); (try clear hi)))
      go_meet
      case rel => exact ⟨_, (true), (by first | rfl | (simp; done) | (simp [*]; done)), H', ⟨by first | omega | exact Nat.le_refl _⟩, ⟨by repeat (first | (with_reducible first | exact HB.out | apply below_alloc | apply pw_below_drewN | apply below_drew1) | exact HB.out)⟩⟩
  case rest =>
    clear HC2
    try clear p2
    try clear c4
    try clear c5
    try clear c5b0
    try clear c6
    try clear c8
    obtain ⟨kq, x16_1, rfl, HA, HJ1, HB⟩ := hcut
    cases kq with
    | zero => exact absurd HA.out (by simp [shuttlecocklaw01_VarintLen.j0])
    | succ kj1 =>
      have H := HA.out
      clear HA
      simp only [shuttlecocklaw01_VarintLen.j0] at H
      by_cases c9 : x16_1 = true
      · subst c9
        have H1 : ((shuttlecocklaw01_fixed.f kj1).bind fun t124 => (some t124)) = some r := by rw [if_pos rfl] at H; exact H
        clear H
        have H := H1
        clear H1
        replace H := Option.bind_eq_some_iff.mp H
        obtain ⟨t124, A100, H⟩ := H
        replace H : (some t124) = some r := H
        have A10 := Aside0.mk A100
        clear A100
        obtain rfl := Option.some.inj H
        go_wp2_with (first | ((with_reducible refine gate_callee (f := 8) rfl ?_); refine goesL_ (some 17) rfl rfl Try.func8 (by kernel_rfl) rfl #[] rfl (by (try simp only [List.map_toArray, List.map_cons, List.map_nil]); first | done | rfl | (simp only [List.length_drop, List.length_take]; rfl)) ?_; (with_reducible refine (shuttlecocklaw01_fixed.calls kj1  t124 _ A10.out).mono ?_); rintro e w11 ⟨rfl, hb⟩; refine ⟨_, rfl, ?_⟩; have n0_ := Aside0.mk (below_step (by repeat (first | (with_reducible first | exact HB.out | apply below_alloc | apply pw_below_drewN | apply below_drew1) | exact HB.out)) hb); clear HB; have HB := n0_; clear n0_; (try clear hb); (try clear hb2); (try clear hk); (try clear hi)))
        go_ret
        exact ⟨by first | rfl | (simp [errW_none, errW_some] <;> rfl) | (simp [*, errW_none, errW_some] <;> rfl), by repeat (first | (with_reducible first | exact HB.out | apply below_alloc | apply pw_below_drewN | apply below_drew1) | exact HB.out)⟩
      · replace c9 := Bool.eq_false_iff.mpr c9
        subst c9
        have H1 : ((varint_Put.f kj1 a0).bind fun t125 => (shuttlecocklaw01_VarintLen.l0 kj1 a0 t125 1 (wrap64 (Int.tdiv a0 128)))) = some r := by rw [if_neg (show ¬ (false = true) by decide)] at H; exact H
        clear H
        have H := H1
        clear H1
        replace H := Option.bind_eq_some_iff.mp H
        obtain ⟨t125, A120, H⟩ := H
        replace H : (shuttlecocklaw01_VarintLen.l0 kj1 a0 t125 1 (wrap64 (Int.tdiv a0 128))) = some r := H
        have A12 := Aside0.mk A120
        clear A120
        have H' := Aside0.mk H
        clear H
        go_wp2_with (first | ((with_reducible refine gate_callee (f := 11) rfl ?_); refine goesL_ (some 19) rfl rfl Try.func11 (by kernel_rfl) rfl #[.int .i64 a0] rfl (by (try simp only [List.map_toArray, List.map_cons, List.map_nil]); first | done | rfl | (simp only [List.length_drop, List.length_take]; rfl)) ?_; (with_reducible refine (varint_Put.calls kj1 a0 t125 _ A12.out).mono ?_); rintro e w13 ⟨rfl, hb⟩; refine ⟨_, rfl, ?_⟩; have n0_ := Aside0.mk (below_step (by repeat (first | (with_reducible first | exact HB.out | apply below_alloc | apply pw_below_drewN | apply below_drew1) | exact HB.out)) hb); clear HB; have HB := n0_; clear n0_; (try clear hb); (try clear hb2); (try clear hk); (try clear hi)))
        go_loopg [4, 5] kj1 (fun kq v4 v5 w' => ∃ (x4_2 : Int) (x5_2 : Int), v4 = .int .i64 x4_2 ∧ v5 = .int .i64 x5_2 ∧ Aside0 (shuttlecocklaw01_VarintLen.l0 kq a0 t125 x4_2 x5_2 = some r) ∧ Aside0 (kq ≤ kj1) ∧ Aside0 (Below w.heap.size w w'))
        case atStart => exact ⟨(1), (wrap64 (Int.tdiv a0 128)), (by first | rfl | (simp; done) | (simp [*]; done)), (by first | rfl | (simp; done) | (simp [*]; done)), H', ⟨Nat.le_refl _⟩, ⟨by repeat (first | (with_reducible first | exact HB.out | apply below_alloc | apply pw_below_drewN | apply below_drew1) | exact HB.out)⟩⟩
        case round =>
          clear H'
          try clear c1
          try clear p2
          try clear c4
          try clear c5
          try clear c5b0
          try clear c6
          try clear p6
          try clear c8
          try clear c9
          try clear c11
          try clear p2
          obtain ⟨x4_2, x5_2, rfl, rfl, HA, HK2, HB⟩ := hrel
          cases gk with
          | zero => exact absurd HA.out (by simp [shuttlecocklaw01_VarintLen.l0])
          | succ k2 =>
            have H := HA.out
            clear HA
            simp only [shuttlecocklaw01_VarintLen.l0] at H
            by_cases c14 : x5_2 > 0
            · rw [if_pos c14] at H
              have c14b0 : decide (0 < x5_2) = true := decide_eq_true c14
              clear c14
              have H' := Aside0.mk H
              clear H
              go_wp2
              go_roundg k2
              case measure => have := HJ1.out; have := HK2.out; omega
              case rel => exact ⟨(wrap64 (x4_2 + 1)), (wrap64 (Int.tdiv x5_2 128)), (by first | rfl | (simp; done) | (simp [*]; done)), (by first | rfl | (simp; done) | (simp [*]; done)), H', ⟨by have := HJ1.out; have := HK2.out; omega⟩, ⟨by repeat (first | (with_reducible first | exact HB.out | apply below_alloc | apply pw_below_drewN | apply below_drew1) | exact HB.out)⟩⟩
            · rw [if_neg c14] at H
              have c14b0 : decide (0 < x5_2) = false := decide_eq_false c14
              clear c14
              have H' := Aside0.mk H
              clear H
              go_wp2
              go_loopg [6] k2 (fun kq v6 w' => ∃ (x6_3 : Int), v6 = .int .i64 x6_3 ∧ Aside0 (shuttlecocklaw01_VarintLen.l1 kq a0 t125 x4_2 x6_3 = some r) ∧ Aside0 (kq ≤ k2) ∧ Aside0 (Below w.heap.size w w'))
              case atStart => exact ⟨(0), (by first | rfl | (simp; done) | (simp [*]; done)), H', ⟨Nat.le_refl _⟩, ⟨by repeat (first | (with_reducible first | exact HB.out | apply below_alloc | apply pw_below_drewN | apply below_drew1) | exact HB.out)⟩⟩
              case round =>
                clear H'
                try clear c1
                try clear p2
                try clear c4
                try clear c5
                try clear c5b0
                try clear c6
                try clear p6
                try clear c8
                try clear c9
                try clear c11
                try clear c14
                try clear c14b0
                try clear p2
                try clear p6
                obtain ⟨x6_3, rfl, HA, HK3, HB⟩ := hrel
                cases gk with
                | zero => exact absurd HA.out (by simp [shuttlecocklaw01_VarintLen.l1])
                | succ k3 =>
                  have H := HA.out
                  clear HA
                  simp only [shuttlecocklaw01_VarintLen.l1] at H
                  by_cases c15 : x6_3 < (t125.size : Int)
                  · rw [if_pos c15] at H
                    have c15b0 : decide (x6_3 < (t125.size : Int)) = true := decide_eq_true c15
                    clear c15
                    by_cases c16 : 0 ≤ x6_3
                    · rw [if_pos c16] at H
                      have c16b0 : decide (0 ≤ x6_3) = true := decide_eq_true c16
                      clear c16
                      by_cases c18 : ((decide ((bt t125 x6_3) ≥ 128)) != (decide ((wrap64 (x6_3 + 1)) < (t125.size : Int)))) = true
                      · rw [if_pos c18] at H
                        have c18b0 : ((decide ((bt t125 x6_3) ≥ 128)) != (decide ((wrap64 (x6_3 + 1)) < (t125.size : Int)))) = true := c18
                        (try (have c18b1 : decide ((decide ((bt t125 x6_3) ≥ 128)) = (decide ((wrap64 (x6_3 + 1)) < (t125.size : Int)))) = false := by simpa using c18))
                        (try (have c18b2 : ((decide ((bt t125 x6_3) ≥ 128)) == (decide ((wrap64 (x6_3 + 1)) < (t125.size : Int)))) = false := by simpa using c18))
                        (try (have c18b3 : ¬ ((decide ((bt t125 x6_3) ≥ 128)) = (decide ((wrap64 (x6_3 + 1)) < (t125.size : Int)))) := by simpa using c18))
                        clear c18
                        obtain rfl := Option.some.inj H
                        have p17 : 0 ≤ (x6_3 : Int) := of_decide_eq_true (by first | (with_reducible assumption) | assumption)
                        have q17 : x6_3 < (t125.size : Int) := of_decide_eq_true (by first | (with_reducible assumption) | assumption)
                        have hx17 := bt_at t125 x6_3
                        replace p17 := eq_true p17
                        replace q17 := eq_true q17
                        go_wp2
                        go_ret
                        exact ⟨by first | rfl | (simp [errW_none, errW_some] <;> rfl) | (simp [*, errW_none, errW_some] <;> rfl), by repeat (first | (with_reducible first | exact HB.out | apply below_alloc | apply pw_below_drewN | apply below_drew1) | exact HB.out)⟩
                      · rw [if_neg c18] at H
                        have c18b0 : ((decide ((bt t125 x6_3) ≥ 128)) != (decide ((wrap64 (x6_3 + 1)) < (t125.size : Int)))) = false := by simpa using c18
                        (try (have c18b1 : decide ((decide ((bt t125 x6_3) ≥ 128)) = (decide ((wrap64 (x6_3 + 1)) < (t125.size : Int)))) = true := by simpa using c18))
                        (try (have c18b2 : ((decide ((bt t125 x6_3) ≥ 128)) == (decide ((wrap64 (x6_3 + 1)) < (t125.size : Int)))) = true := by simpa using c18))
                        clear c18
                        have H' := Aside0.mk H
                        clear H
                        have p17 : 0 ≤ (x6_3 : Int) := of_decide_eq_true (by first | (with_reducible assumption) | assumption)
                        have q17 : x6_3 < (t125.size : Int) := of_decide_eq_true (by first | (with_reducible assumption) | assumption)
                        have hx17 := bt_at t125 x6_3
                        replace p17 := eq_true p17
                        replace q17 := eq_true q17
                        go_wp2
                        go_roundg k3
                        case measure => have := HJ1.out; have := HK2.out; have := HK3.out; omega
                        case rel => exact ⟨(wrap64 (x6_3 + 1)), (by first | rfl | (simp; done) | (simp [*]; done)), H', ⟨by have := HJ1.out; have := HK2.out; have := HK3.out; omega⟩, ⟨by repeat (first | (with_reducible first | exact HB.out | apply below_alloc | apply pw_below_drewN | apply below_drew1) | exact HB.out)⟩⟩
                    · rw [if_neg c16] at H
                      exact absurd H (by simp)
                  · rw [if_neg c15] at H
                    have c15b0 : decide (x6_3 < (t125.size : Int)) = false := decide_eq_false c15
                    clear c15
                    by_cases c19 : (t125.size : Int) = x4_2
                    · rw [if_pos c19] at H
                      have c19b0 : ((t125.size : Int) == x4_2) = true := beq_iff_eq.mpr c19
                      have c19b1 : ((t125.size : Int) != x4_2) = false := bne_eq_false_iff_eq.mpr c19
                      clear c19
                      replace H := Option.bind_eq_some_iff.mp H
                      obtain ⟨t126, A200, H⟩ := H
                      replace H : (some (t126 == x4_2)) = some r := H
                      have A20 := Aside0.mk A200
                      clear A200
                      obtain rfl := Option.some.inj H
                      go_wp2_with (first | (go_at_call 13; (with_reducible refine (varint_Len.calls k3 a0 t126 _ A20.out).mono ?_); rintro e w21 ⟨rfl, hb⟩; have n0_ := Aside0.mk (below_step (by repeat (first | (with_reducible first | exact HB.out | apply below_alloc | apply pw_below_drewN | apply below_drew1) | exact HB.out)) hb); clear HB; have HB := n0_; clear n0_; (try clear hb); (try clear hb2); (try clear hk); (try clear hi)))
                      go_ret
                      exact ⟨by first | rfl | (simp [errW_none, errW_some] <;> rfl) | (simp [*, errW_none, errW_some] <;> rfl), by repeat (first | (with_reducible first | exact HB.out | apply below_alloc | apply pw_below_drewN | apply below_drew1) | exact HB.out)⟩
                    · rw [if_neg c19] at H
                      have c19b0 : ((t125.size : Int) == x4_2) = false := beq_eq_false_iff_ne.mpr c19
                      have c19b1 : ((t125.size : Int) != x4_2) = true := bne_iff_ne.mpr c19
                      obtain rfl := Option.some.inj H
                      go_wp2
                      go_ret
                      exact ⟨by first | rfl | (simp [errW_none, errW_some] <;> rfl) | (simp [*, errW_none, errW_some] <;> rfl), by repeat (first | (with_reducible first | exact HB.out | apply below_alloc | apply pw_below_drewN | apply below_drew1) | exact HB.out)⟩

/-- THE ONE PURE STATEMENT of shuttlecocklaw01_VarintLen: yours. -/
def shuttlecocklaw01_VarintLen.Pure : Prop := ∀ (a0 : Int), (Lit.int .i64 a0).wf = true → ∃ k, shuttlecocklaw01_VarintLen.f k a0 = some true
theorem shuttlecocklaw01_VarintLen.walk (P : shuttlecocklaw01_VarintLen.Pure) (a0 : Int) (w : World) (w0 : (Lit.int .i64 a0).wf = true) :
    Calls Try.prog 6 #[.int .i64 a0] w fun e w' => e = .returned (.bool true) ∧ Below w.heap.size w w' := by
  obtain ⟨k, h⟩ := P a0 w0
  refine (shuttlecocklaw01_VarintLen.calls k a0 true w h).mono ?_
  rintro e w' ⟨rfl, hd⟩
  exact ⟨rfl, hd⟩

end Go.Proofs.Ytcnbddcofgolmaa.PVarintLen
