-- printed by a program of this session (NOTES: hprint); not the kit's print
import Derived.Test.YtcnbddcofgolmaaQx0
import Derived.Test.YtcnbddcofgolmaaQx1
namespace Go.Proofs.Ytcnbddcofgolmaa.Q
open Go.RowKit Go.Proofs.YtcnbddcofgolmaaW.PrintWords Go.Proofs.YtcnbddcofgolmaaW.PrintLast Go.Proofs.YtcnbddcofgolmaaW.PrintMore
attribute [local go_sem] max2_int min2_int max_two min_two max_three min_three max_four min_four   -- for this text's walks alone
set_option linter.unusedVariables false
set_option linter.unusedSimpArgs false

/-! ### shuttlecocklaw01_VarintBack: function 4 -/
mutual
def shuttlecocklaw01_VarintBack.j0 : Nat → Int → Int → ByteArray → Bool → Option (Bool)
  | 0, _, _, _, _ => none
  | k + 1, x0, x1, x2, x25 => if x25 = true then ((shuttlecocklaw01_fixed.f k).bind fun t147 => (some t147)) else ((varint_Take.f k x2 0).bind fun bt148 => (if bt148.2.2 = 0 then (if bt148.2.1 < 1 then (shuttlecocklaw01_VarintBack.j1 k x0 x1 x2 true) else (if bt148.2.1 > (x2.size : Int) then (shuttlecocklaw01_VarintBack.j1 k x0 x1 x2 true) else ((varint_Put.f k bt148.1).bind fun t151 => (if 0 ≤ bt148.2.1 then (if bt148.2.1 ≤ (x2.size : Int) then (shuttlecocklaw01_VarintBack.j1 k x0 x1 x2 (t151.toList != (x2.extract 0 (bt148.2.1 : Int).toNat).toList)) else (none)) else (none))))) else (shuttlecocklaw01_VarintBack.j1 k x0 x1 x2 false)))
def shuttlecocklaw01_VarintBack.j1 : Nat → Int → Int → ByteArray → Bool → Option (Bool)
  | 0, _, _, _, _ => none
  | k + 1, x0, x1, x2, x52 => if x52 = true then (some false) else ((varint_Put.f k x0).bind fun t152 => ((varint_Put.f k x1).bind fun t153 => (if t152.toList = ([] : List UInt8) then (shuttlecocklaw01_VarintBack.j2 k x0 x1 x2 t152 t153 true) else (shuttlecocklaw01_VarintBack.j2 k x0 x1 x2 t152 t153 (t153.toList == ([] : List UInt8))))))
def shuttlecocklaw01_VarintBack.j2 : Nat → Int → Int → ByteArray → ByteArray → ByteArray → Bool → Option (Bool)
  | 0, _, _, _, _, _, _ => none
  | k + 1, x0, x1, x2, x10, x11, x62 => if x62 = true then (if x0 < 0 then (if x1 < 0 then (some true) else (if x1 ≥ 4611686018427387904 then (some true) else (some (x11.toList != ([] : List UInt8))))) else (if x0 ≥ 4611686018427387904 then (if x1 < 0 then (some true) else (if x1 ≥ 4611686018427387904 then (some true) else (some (x11.toList != ([] : List UInt8))))) else (if x10.toList = ([] : List UInt8) then (some false) else (if x1 < 0 then (some true) else (if x1 ≥ 4611686018427387904 then (some true) else (some (x11.toList != ([] : List UInt8)))))))) else (if x2.size + x10.size ≤ 9223372036854775807 then (if (x2 ++ x10).size + x11.size ≤ 9223372036854775807 then ((varint_Take.f k ((x2 ++ x10) ++ x11) (x2.size : Int)).bind fun bt154 => ((varint_Take.f k ((x2 ++ x10) ++ x11) bt154.2.1).bind fun bt157 => (if (x10.size : Int) ≤ (x11.size : Int) then (if 0 ≤ (x10.size : Int) then (if bt154.2.2 = 0 then (if bt154.1 = x0 then (if bt154.2.1 = (wrap64 ((x2.size : Int) + (x10.size : Int))) then (if bt157.2.2 = 0 then (if bt157.1 = x1 then (if bt157.2.1 = (wrap64 (bt154.2.1 + (x11.size : Int))) then (some (((x11.extract 0 ((x10.size : Int) : Int).toNat).toList == x10.toList) == (x0 == x1))) else (some false)) else (some false)) else (some false)) else (some false)) else (some false)) else (some false)) else (none)) else (if bt154.2.2 = 0 then (if bt154.1 = x0 then (if bt154.2.1 = (wrap64 ((x2.size : Int) + (x10.size : Int))) then (if bt157.2.2 = 0 then (if bt157.1 = x1 then (if bt157.2.1 = (wrap64 (bt154.2.1 + (x11.size : Int))) then (some (false == (x0 == x1))) else (some false)) else (some false)) else (some false)) else (some false)) else (some false)) else (some false))))) else (none)) else (none))
end
def shuttlecocklaw01_VarintBack.f (k : Nat) (a0 : Int) (a1 : Int) (a2 : ByteArray) : Option (Bool) := (shuttlecocklaw01_fixed.f k).bind fun t146 => (if t146 = true then (shuttlecocklaw01_VarintBack.j0 k a0 a1 a2 (decide ((a2.size : Int) > 10000))) else (shuttlecocklaw01_VarintBack.j0 k a0 a1 a2 true))
theorem shuttlecocklaw01_VarintBack.mono_l : ∀ k, (∀ y0 y1 y2 y3, LeO (shuttlecocklaw01_VarintBack.j0 k y0 y1 y2 y3) (shuttlecocklaw01_VarintBack.j0 (k + 1) y0 y1 y2 y3)) ∧ (∀ y0 y1 y2 y3, LeO (shuttlecocklaw01_VarintBack.j1 k y0 y1 y2 y3) (shuttlecocklaw01_VarintBack.j1 (k + 1) y0 y1 y2 y3)) ∧ (∀ y0 y1 y2 y3 y4 y5, LeO (shuttlecocklaw01_VarintBack.j2 k y0 y1 y2 y3 y4 y5) (shuttlecocklaw01_VarintBack.j2 (k + 1) y0 y1 y2 y3 y4 y5))
  | 0 => ⟨fun _ _ _ _ r h => by simp [shuttlecocklaw01_VarintBack.j0] at h, fun _ _ _ _ r h => by simp [shuttlecocklaw01_VarintBack.j1] at h, fun _ _ _ _ _ _ r h => by simp [shuttlecocklaw01_VarintBack.j2] at h⟩
  | k + 1 => by
    obtain ⟨ih0, ih1, ih2⟩ := shuttlecocklaw01_VarintBack.mono_l k
    refine ⟨?_, ?_, ?_⟩
    · intro y0 y1 y2 y3
      unfold shuttlecocklaw01_VarintBack.j0
      repeat' first
      | (with_reducible exact ih0 _ _ _ _)
      | (with_reducible exact ih1 _ _ _ _)
      | (with_reducible exact ih2 _ _ _ _ _ _)
      | (with_reducible exact shuttlecocklaw01_fixed.mono _)
      | (with_reducible exact varint_Put.mono _ _)
      | (with_reducible exact varint_Take.mono _ _ _)
      | (with_reducible exact LeO.refl _)
      | (with_reducible exact LeO.none _)
      | (with_reducible refine LeO.ite ?_ ?_)
      | (with_reducible refine LeO.bind ?_ (fun _ => ?_))
      | exact ih0 _ _ _ _
      | exact ih1 _ _ _ _
      | exact ih2 _ _ _ _ _ _
      | exact shuttlecocklaw01_fixed.mono _
      | exact varint_Put.mono _ _
      | exact varint_Take.mono _ _ _
      | exact LeO.none _
      | refine LeO.ite ?_ ?_
      | refine LeO.bind ?_ (fun _ => ?_)
    · intro y0 y1 y2 y3
      unfold shuttlecocklaw01_VarintBack.j1
      repeat' first
      | (with_reducible exact ih0 _ _ _ _)
      | (with_reducible exact ih1 _ _ _ _)
      | (with_reducible exact ih2 _ _ _ _ _ _)
      | (with_reducible exact shuttlecocklaw01_fixed.mono _)
      | (with_reducible exact varint_Put.mono _ _)
      | (with_reducible exact varint_Take.mono _ _ _)
      | (with_reducible exact LeO.refl _)
      | (with_reducible exact LeO.none _)
      | (with_reducible refine LeO.ite ?_ ?_)
      | (with_reducible refine LeO.bind ?_ (fun _ => ?_))
      | exact ih0 _ _ _ _
      | exact ih1 _ _ _ _
      | exact ih2 _ _ _ _ _ _
      | exact shuttlecocklaw01_fixed.mono _
      | exact varint_Put.mono _ _
      | exact varint_Take.mono _ _ _
      | exact LeO.none _
      | refine LeO.ite ?_ ?_
      | refine LeO.bind ?_ (fun _ => ?_)
    · intro y0 y1 y2 y3 y4 y5
      unfold shuttlecocklaw01_VarintBack.j2
      repeat' first
      | (with_reducible exact ih0 _ _ _ _)
      | (with_reducible exact ih1 _ _ _ _)
      | (with_reducible exact ih2 _ _ _ _ _ _)
      | (with_reducible exact shuttlecocklaw01_fixed.mono _)
      | (with_reducible exact varint_Put.mono _ _)
      | (with_reducible exact varint_Take.mono _ _ _)
      | (with_reducible exact LeO.refl _)
      | (with_reducible exact LeO.none _)
      | (with_reducible refine LeO.ite ?_ ?_)
      | (with_reducible refine LeO.bind ?_ (fun _ => ?_))
      | exact ih0 _ _ _ _
      | exact ih1 _ _ _ _
      | exact ih2 _ _ _ _ _ _
      | exact shuttlecocklaw01_fixed.mono _
      | exact varint_Put.mono _ _
      | exact varint_Take.mono _ _ _
      | exact LeO.none _
      | refine LeO.ite ?_ ?_
      | refine LeO.bind ?_ (fun _ => ?_)
theorem shuttlecocklaw01_VarintBack.mono : ∀ a0 a1 a2 k, LeO (shuttlecocklaw01_VarintBack.f k a0 a1 a2) (shuttlecocklaw01_VarintBack.f (k + 1) a0 a1 a2) := by
  intro a0 a1 a2 k
  obtain ⟨ih0, ih1, ih2⟩ := shuttlecocklaw01_VarintBack.mono_l k
  unfold shuttlecocklaw01_VarintBack.f
  repeat' first
      | (with_reducible exact ih0 _ _ _ _)
      | (with_reducible exact ih1 _ _ _ _)
      | (with_reducible exact ih2 _ _ _ _ _ _)
      | (with_reducible exact shuttlecocklaw01_fixed.mono _)
      | (with_reducible exact varint_Put.mono _ _)
      | (with_reducible exact varint_Take.mono _ _ _)
      | (with_reducible exact LeO.refl _)
      | (with_reducible exact LeO.none _)
      | (with_reducible refine LeO.ite ?_ ?_)
      | (with_reducible refine LeO.bind ?_ (fun _ => ?_))
      | exact ih0 _ _ _ _
      | exact ih1 _ _ _ _
      | exact ih2 _ _ _ _ _ _
      | exact shuttlecocklaw01_fixed.mono _
      | exact varint_Put.mono _ _
      | exact varint_Take.mono _ _ _
      | exact LeO.none _
      | refine LeO.ite ?_ ?_
      | refine LeO.bind ?_ (fun _ => ?_)
def shuttlecocklaw01_VarintBack.T4 : Bool × List (List Nat × List Nat) := (true, [([], []), ([0], [0]), ([1], [1]), ([2], [2]), ([3, 2], [2, 3]), ([4, 2, 2], [2, 4]), ([5], [5]), ([5], [5]), ([7, 5], [5, 7]), ([6, 8, 5], [5, 6, 8]), ([5, 9, 2], [2, 5, 9]), ([10, 5, 2], [2, 10]), ([11], [11]), ([12, 11, 11], [11, 12]), ([11], [11]), ([11], [11]), ([14, 15, 11], [11, 14, 15]), ([13, 16, 11], [11, 13, 16]), ([11, 17, 2], [2, 11, 17]), ([2, 18], [2, 18])])
def shuttlecocklaw01_VarintBack.B4 : List Nat := [0, 1, 3, 7, 15, 31, 63, 63, 191, 511, 1023, 2047, 4095, 8191, 4095, 4095, 53247, 131071, 262143, 524287]
theorem shuttlecocklaw01_VarintBack.tab4 : rtab .any (opsOf Try.f4 4) = shuttlecocklaw01_VarintBack.T4 := by kernel_rfl
theorem shuttlecocklaw01_VarintBack.bits4 : waitsOk shuttlecocklaw01_VarintBack.T4.2 shuttlecocklaw01_VarintBack.B4 = true := by kernel_rfl
set_option maxHeartbeats 8000000 in
set_option maxRecDepth 100000 in
theorem shuttlecocklaw01_VarintBack.calls (k : Nat) (a0 : Int) (a1 : Int) (a2 : ByteArray) (r : Bool) (w : World) (h : shuttlecocklaw01_VarintBack.f k a0 a1 a2 = some r) :
    Calls Try.prog 4 #[.int .i64 a0, .int .i64 a1, .string a2] w fun e w' => e = .returned (.bool r) ∧ Below w.heap.size w w' := by
  have HB := Aside0.mk (Below.refl w.heap.size w)
  have H : ((shuttlecocklaw01_fixed.f k).bind fun t146 => (if t146 = true then (shuttlecocklaw01_VarintBack.j0 k a0 a1 a2 (decide ((a2.size : Int) > 10000))) else (shuttlecocklaw01_VarintBack.j0 k a0 a1 a2 true))) = some r := h
  clear h
  have HC4 := Aside0.mk H
  clear H
  go_enter Try.func4, Try.ntmps4
  go_upto_region 1 with (fail)
  go_cut [25] (fun v25 wc => ∃ (kq : Nat) (x25_3 : Bool), v25 = .bool x25_3 ∧ Aside0 (shuttlecocklaw01_VarintBack.j0 kq a0 a1 a2 x25_3 = some r) ∧ Aside0 (kq ≤ k) ∧ Aside0 (Below w.heap.size w wc))
  case first =>
    have H := HC4.out
    clear HC4
    replace H := Option.bind_eq_some_iff.mp H
    obtain ⟨t146, A50, H⟩ := H
    replace H : (if t146 = true then (shuttlecocklaw01_VarintBack.j0 k a0 a1 a2 (decide ((a2.size : Int) > 10000))) else (shuttlecocklaw01_VarintBack.j0 k a0 a1 a2 true)) = some r := H
    have A5 := Aside0.mk A50
    clear A50
    by_cases c6 : t146 = true
    · subst c6
      have H1 : (shuttlecocklaw01_VarintBack.j0 k a0 a1 a2 (decide ((a2.size : Int) > 10000))) = some r := by rw [if_pos rfl] at H; exact H
      clear H
      have H := H1
      clear H1
      have H' := Aside0.mk H
      clear H
      go_wp2_with (first | ((with_reducible refine gate_callee (f := 8) rfl ?_); refine goesL_ (some 19) rfl rfl Try.func8 (by kernel_rfl) rfl #[] rfl (by (try simp only [List.map_toArray, List.map_cons, List.map_nil]); first | done | rfl | (simp only [List.length_drop, List.length_take]; rfl)) ?_; (with_reducible refine (shuttlecocklaw01_fixed.calls k  true _ A5.out).mono ?_); rintro e w7 ⟨rfl, hb⟩; refine ⟨_, rfl, ?_⟩; have n0_ := Aside0.mk (below_step (by repeat (first | (with_reducible first | exact HB.out | apply below_alloc | apply pw_below_drewN | apply below_drew1) | exact HB.out | exact HBo.out)) hb); clear HB; have HB := n0_; clear n0_; (try clear hb); (try clear hb2); (try clear hk); (try clear hi)))
      go_meet
      case rel => exact ⟨_, (decide ((a2.size : Int) > 10000)), (by first | rfl | (simp; done) | (simp [*]; done)), H', ⟨by first | omega | exact Nat.le_refl _⟩, ⟨by repeat (first | (with_reducible first | exact HB.out | apply below_alloc | apply pw_below_drewN | apply below_drew1) | exact HB.out | exact HBo.out)⟩⟩
    · replace c6 := Bool.eq_false_iff.mpr c6
      subst c6
      have H1 : (shuttlecocklaw01_VarintBack.j0 k a0 a1 a2 true) = some r := by rw [if_neg (show ¬ (false = true) by decide)] at H; exact H
      clear H
      have H := H1
      clear H1
      have H' := Aside0.mk H
      clear H
      go_wp2_with (first | ((with_reducible refine gate_callee (f := 8) rfl ?_); refine goesL_ (some 19) rfl rfl Try.func8 (by kernel_rfl) rfl #[] rfl (by (try simp only [List.map_toArray, List.map_cons, List.map_nil]); first | done | rfl | (simp only [List.length_drop, List.length_take]; rfl)) ?_; (with_reducible refine (shuttlecocklaw01_fixed.calls k  false _ A5.out).mono ?_); rintro e w8 ⟨rfl, hb⟩; refine ⟨_, rfl, ?_⟩; have n0_ := Aside0.mk (below_step (by repeat (first | (with_reducible first | exact HB.out | apply below_alloc | apply pw_below_drewN | apply below_drew1) | exact HB.out | exact HBo.out)) hb); clear HB; have HB := n0_; clear n0_; (try clear hb); (try clear hb2); (try clear hk); (try clear hi)))
      go_meet
      case rel => exact ⟨_, (true), (by first | rfl | (simp; done) | (simp [*]; done)), H', ⟨by first | omega | exact Nat.le_refl _⟩, ⟨by repeat (first | (with_reducible first | exact HB.out | apply below_alloc | apply pw_below_drewN | apply below_drew1) | exact HB.out | exact HBo.out)⟩⟩
  case rest =>
    clear HC4
    try clear p2
    try clear c4
    try clear c6
    try clear c8
    obtain ⟨kq, x25_3, rfl, HA, HJ3, HB⟩ := hcut
    cases kq with
    | zero => exact absurd HA.out (by simp [shuttlecocklaw01_VarintBack.j0])
    | succ kj3 =>
      have H := HA.out
      clear HA
      simp only [shuttlecocklaw01_VarintBack.j0] at H
      by_cases c9 : x25_3 = true
      · subst c9
        have H1 : ((shuttlecocklaw01_fixed.f kj3).bind fun t147 => (some t147)) = some r := by rw [if_pos rfl] at H; exact H
        clear H
        have H := H1
        clear H1
        replace H := Option.bind_eq_some_iff.mp H
        obtain ⟨t147, A100, H⟩ := H
        replace H : (some t147) = some r := H
        have A10 := Aside0.mk A100
        clear A100
        obtain rfl := Option.some.inj H
        go_wp2_with (first | ((with_reducible refine gate_callee (f := 8) rfl ?_); refine goesL_ (some 26) rfl rfl Try.func8 (by kernel_rfl) rfl #[] rfl (by (try simp only [List.map_toArray, List.map_cons, List.map_nil]); first | done | rfl | (simp only [List.length_drop, List.length_take]; rfl)) ?_; (with_reducible refine (shuttlecocklaw01_fixed.calls kj3  t147 _ A10.out).mono ?_); rintro e w11 ⟨rfl, hb⟩; refine ⟨_, rfl, ?_⟩; have n0_ := Aside0.mk (below_step (by repeat (first | (with_reducible first | exact HB.out | apply below_alloc | apply pw_below_drewN | apply below_drew1) | exact HB.out | exact HBo.out)) hb); clear HB; have HB := n0_; clear n0_; (try clear hb); (try clear hb2); (try clear hk); (try clear hi)))
        go_ret
        exact ⟨by first | rfl | (simp [errW_none, errW_some] <;> rfl) | (simp [*, errW_none, errW_some] <;> rfl) | (simp [Aid.ne_nil, Aid.eq_nil, errW_none, errW_some]; done), by repeat (first | (with_reducible first | exact HB.out | apply below_alloc | apply pw_below_drewN | apply below_drew1) | exact HB.out | exact HBo.out)⟩
      · replace c9 := Bool.eq_false_iff.mpr c9
        subst c9
        have H1 : ((varint_Take.f kj3 a2 0).bind fun bt148 => (if bt148.2.2 = 0 then (if bt148.2.1 < 1 then (shuttlecocklaw01_VarintBack.j1 kj3 a0 a1 a2 true) else (if bt148.2.1 > (a2.size : Int) then (shuttlecocklaw01_VarintBack.j1 kj3 a0 a1 a2 true) else ((varint_Put.f kj3 bt148.1).bind fun t151 => (if 0 ≤ bt148.2.1 then (if bt148.2.1 ≤ (a2.size : Int) then (shuttlecocklaw01_VarintBack.j1 kj3 a0 a1 a2 (t151.toList != (a2.extract 0 (bt148.2.1 : Int).toNat).toList)) else (none)) else (none))))) else (shuttlecocklaw01_VarintBack.j1 kj3 a0 a1 a2 false))) = some r := by rw [if_neg (show ¬ (false = true) by decide)] at H; exact H
        clear H
        have H := H1
        clear H1
        replace H := Option.bind_eq_some_iff.mp H
        obtain ⟨⟨t148, t149, t150⟩, A120, H⟩ := H
        replace H : (if t150 = 0 then (if t149 < 1 then (shuttlecocklaw01_VarintBack.j1 kj3 a0 a1 a2 true) else (if t149 > (a2.size : Int) then (shuttlecocklaw01_VarintBack.j1 kj3 a0 a1 a2 true) else ((varint_Put.f kj3 t148).bind fun t151 => (if 0 ≤ t149 then (if t149 ≤ (a2.size : Int) then (shuttlecocklaw01_VarintBack.j1 kj3 a0 a1 a2 (t151.toList != (a2.extract 0 (t149 : Int).toNat).toList)) else (none)) else (none))))) else (shuttlecocklaw01_VarintBack.j1 kj3 a0 a1 a2 false)) = some r := H
        have A12 := Aside0.mk A120
        clear A120
        have HC13 := Aside0.mk H
        clear H
        go_upto_region 4 with (first | ((with_reducible refine gate_callee (f := 9) rfl ?_); refine goesL_ (some 29) rfl rfl Try.func9 (by kernel_rfl) rfl #[.string a2, .int .i64 0] rfl (by (try simp only [List.map_toArray, List.map_cons, List.map_nil]); first | done | rfl | (simp only [List.length_drop, List.length_take]; rfl)) ?_; (with_reducible refine (varint_Take.calls kj3 a2 0 t148 t149 t150 _ A12.out).mono ?_); rintro e w' ⟨rfl, ⟨nd, rfl⟩⟩; refine ⟨_, rfl, ?_⟩))
        (try simp only [Act.put, List.setIfInBounds_toArray, List.set_cons_zero, List.set_cons_succ])
        go_cut [52] (fun v52 wc => ∃ (kq : Nat) (x52_12 : Bool), v52 = .bool x52_12 ∧ Aside0 (shuttlecocklaw01_VarintBack.j1 kq a0 a1 a2 x52_12 = some r) ∧ Aside0 (kq ≤ kj3) ∧ Aside0 (Below w.heap.size w wc))
        case first =>
          have H := HC13.out
          clear HC13
          by_cases c14 : t150 = 0
          · rw [if_pos c14] at H
            have c14b0 : (t150 == 0) = true := beq_iff_eq.mpr c14
            have c14b1 : (t150 != 0) = false := bne_eq_false_iff_eq.mpr c14
            clear c14
            (first | rw [c14b0] | (simp only [i64_w, i32_w]; rw [c14b0]) | skip)
            by_cases c15 : t149 < 1
            · rw [if_pos c15] at H
              have c15b0 : decide (t149 < 1) = true := decide_eq_true c15
              clear c15
              have H' := Aside0.mk H
              clear H
              try go_wp2
              have HBo := HB; have n0_ := Aside0.mk (below_drew1 HB.out)
              clear HB
              have HB := n0_
              clear n0_
              refine start_ (n := 20) (S := fun w' => True) (ds := []) #[false, false, false, false, false, false, false, false, false, false, false, false, false, false, false, false, false, false, false, false] (by kernel_rfl) rfl rfl trivial (fun hHeld => ?_); refine with_tabW shuttlecocklaw01_VarintBack.tab4 shuttlecocklaw01_VarintBack.bits4 (fun HT_ HW_ => ?_)
              generalize wc.drew = w16 at HB hHeld ⊢
              refine pure_ (i := 0) (N := some 33) (v := ?_) (a' := ?_) #[true, false, false, false, false, false, false, false, false, false, false, false, false, false, false, false, false, false, false, false] rfl rfl (any_of HT_.out (by kernel_rfl)) (fun _ _ _ h => h) (Or.inl ⟨by rfl, ?_⟩) ?_ ?_
              rotate_left
              · intro w'
                go_simp
                first | with_reducible rfl | (rw [dif_pos (And.intro (of_decide_eq_true (by assumption)) (of_decide_eq_true (by assumption)))]; simp only [bt_at]; rfl)
              rotate_left
              · simp only [Act.put, List.setIfInBounds_toArray, List.set_cons_zero, List.set_cons_succ, i64_w, i32_w]
                rfl
              refine pure_ (i := 1) (N := some 34) (v := ?_) (a' := ?_) #[true, true, false, false, false, false, false, false, false, false, false, false, false, false, false, false, false, false, false, false] rfl rfl (any_of HT_.out (by kernel_rfl)) (fun _ _ _ h => h) (Or.inl ⟨by rfl, ?_⟩) ?_ ?_
              rotate_left
              · intro w'
                go_simp
                first | with_reducible rfl | (rw [dif_pos (And.intro (of_decide_eq_true (by assumption)) (of_decide_eq_true (by assumption)))]; simp only [bt_at]; rfl)
              rotate_left
              · simp only [Act.put, List.setIfInBounds_toArray, List.set_cons_zero, List.set_cons_succ, i64_w, i32_w]
                rfl
              refine pure_ (i := 2) (N := some 35) (v := ?_) (a' := ?_) #[true, true, true, false, false, false, false, false, false, false, false, false, false, false, false, false, false, false, false, false] rfl rfl (any_of HT_.out (by kernel_rfl)) (fun _ _ _ h => h) (Or.inl ⟨by rfl, ?_⟩) ?_ ?_
              rotate_left
              · intro w'
                go_simp
                first | with_reducible rfl | (rw [dif_pos (And.intro (of_decide_eq_true (by assumption)) (of_decide_eq_true (by assumption)))]; simp only [bt_at]; rfl)
              rotate_left
              · simp only [Act.put, List.setIfInBounds_toArray, List.set_cons_zero, List.set_cons_succ, i64_w, i32_w]
                rfl
              refine pure_ (i := 3) (N := some 36) (v := ?_) (a' := ?_) #[true, true, true, true, false, false, false, false, false, false, false, false, false, false, false, false, false, false, false, false] rfl rfl (any_of HT_.out (by kernel_rfl)) (fun _ _ _ h => h) (Or.inl ⟨by rfl, ?_⟩) ?_ ?_
              rotate_left
              · intro w'
                go_simp
                first | with_reducible rfl | (rw [dif_pos (And.intro (of_decide_eq_true (by assumption)) (of_decide_eq_true (by assumption)))]; simp only [bt_at]; rfl)
              rotate_left
              · simp only [Act.put, List.setIfInBounds_toArray, List.set_cons_zero, List.set_cons_succ, i64_w, i32_w]
                rfl
              refine pure_ (i := 4) (N := some 37) (v := ?_) (a' := ?_) #[true, true, true, true, true, false, false, false, false, false, false, false, false, false, false, false, false, false, false, false] rfl rfl (any_of HT_.out (by kernel_rfl)) (fun _ _ _ h => h) (Or.inl ⟨by rfl, ?_⟩) ?_ ?_
              rotate_left
              · intro w'
                go_simp
                first | with_reducible rfl | (rw [dif_pos (And.intro (of_decide_eq_true (by assumption)) (of_decide_eq_true (by assumption)))]; simp only [bt_at]; rfl)
              rotate_left
              · simp only [Act.put, List.setIfInBounds_toArray, List.set_cons_zero, List.set_cons_succ, i64_w, i32_w]
                rfl
              refine pure_ (i := 5) (N := some 38) (v := ?_) (a' := ?_) #[true, true, true, true, true, true, false, false, false, false, false, false, false, false, false, false, false, false, false, false] rfl rfl (any_of HT_.out (by kernel_rfl)) (fun _ _ _ h => h) (Or.inl ⟨by rfl, ?_⟩) ?_ ?_
              rotate_left
              · intro w'
                go_simp
                first | with_reducible rfl | (rw [dif_pos (And.intro (of_decide_eq_true (by assumption)) (of_decide_eq_true (by assumption)))]; simp only [bt_at]; rfl)
              rotate_left
              · simp only [Act.put, List.setIfInBounds_toArray, List.set_cons_zero, List.set_cons_succ, i64_w, i32_w]
                rfl
              refine pure_ (i := 6) (N := some 39) (v := undef) (a' := ?_) #[true, true, true, true, true, true, true, false, false, false, false, false, false, false, false, false, false, false, false, false] rfl rfl (any_of HT_.out (by kernel_rfl)) (fun _ _ _ h => h) (Or.inr ⟨by rfl, rfl⟩) ?_ ?_
              rotate_left
              · simp only [Act.put, List.setIfInBounds_toArray, List.set_cons_zero, List.set_cons_succ, i64_w, i32_w]
                rfl
              refine pure_ (i := 7) (N := some 40) (v := undef) (a' := ?_) #[true, true, true, true, true, true, true, true, false, false, false, false, false, false, false, false, false, false, false, false] rfl rfl (any_of HT_.out (by kernel_rfl)) (fun _ _ _ h => h) (Or.inr ⟨by rfl, rfl⟩) ?_ ?_
              rotate_left
              · simp only [Act.put, List.setIfInBounds_toArray, List.set_cons_zero, List.set_cons_succ, i64_w, i32_w]
                rfl
              refine pure_ (i := 8) (N := some 41) (v := undef) (a' := ?_) #[true, true, true, true, true, true, true, true, true, false, false, false, false, false, false, false, false, false, false, false] rfl rfl (any_of HT_.out (by kernel_rfl)) (fun _ _ _ h => h) (Or.inr ⟨by rfl, rfl⟩) ?_ ?_
              rotate_left
              · simp only [Act.put, List.setIfInBounds_toArray, List.set_cons_zero, List.set_cons_succ, i64_w, i32_w]
                rfl
              refine pure_ (i := 9) (N := some 42) (v := undef) (a' := ?_) #[true, true, true, true, true, true, true, true, true, true, false, false, false, false, false, false, false, false, false, false] rfl rfl (any_of HT_.out (by kernel_rfl)) (fun _ _ _ h => h) (Or.inr ⟨by rfl, rfl⟩) ?_ ?_
              rotate_left
              · simp only [Act.put, List.setIfInBounds_toArray, List.set_cons_zero, List.set_cons_succ, i64_w, i32_w]
                rfl
              refine pure_ (i := 10) (N := some 43) (v := ?_) (a' := ?_) #[true, true, true, true, true, true, true, true, true, true, true, false, false, false, false, false, false, false, false, false] rfl rfl (any_of HT_.out (by kernel_rfl)) (fun _ _ _ h => h) (Or.inl ⟨by rfl, ?_⟩) ?_ ?_
              rotate_left
              · intro w'
                go_simp
                first | with_reducible rfl | (rw [dif_pos (And.intro (of_decide_eq_true (by assumption)) (of_decide_eq_true (by assumption)))]; simp only [bt_at]; rfl)
              rotate_left
              · simp only [Act.put, List.setIfInBounds_toArray, List.set_cons_zero, List.set_cons_succ, i64_w, i32_w]
                rfl
              refine pure_ (i := 11) (N := some 44) (v := ?_) (a' := ?_) #[true, true, true, true, true, true, true, true, true, true, true, true, false, false, false, false, false, false, false, false] rfl rfl (any_of HT_.out (by kernel_rfl)) (fun _ _ _ h => h) (Or.inl ⟨by rfl, ?_⟩) ?_ ?_
              rotate_left
              · intro w'
                go_simp
                first | with_reducible rfl | (rw [dif_pos (And.intro (of_decide_eq_true (by assumption)) (of_decide_eq_true (by assumption)))]; simp only [bt_at]; rfl)
              rotate_left
              · simp only [Act.put, List.setIfInBounds_toArray, List.set_cons_zero, List.set_cons_succ, i64_w, i32_w]
                rfl
              refine pure_ (i := 12) (N := some 45) (v := undef) (a' := ?_) #[true, true, true, true, true, true, true, true, true, true, true, true, true, false, false, false, false, false, false, false] rfl rfl (any_of HT_.out (by kernel_rfl)) (fun _ _ _ h => h) (Or.inr ⟨by rfl, rfl⟩) ?_ ?_
              rotate_left
              · simp only [Act.put, List.setIfInBounds_toArray, List.set_cons_zero, List.set_cons_succ, i64_w, i32_w]
                rfl
              refine pure_ (i := 13) (N := some 46) (v := undef) (a' := ?_) #[true, true, true, true, true, true, true, true, true, true, true, true, true, true, false, false, false, false, false, false] rfl rfl (any_of HT_.out (by kernel_rfl)) (fun _ _ _ h => h) (Or.inr ⟨by rfl, rfl⟩) ?_ ?_
              rotate_left
              · simp only [Act.put, List.setIfInBounds_toArray, List.set_cons_zero, List.set_cons_succ, i64_w, i32_w]
                rfl
              refine pure_ (i := 14) (N := some 47) (v := undef) (a' := ?_) #[true, true, true, true, true, true, true, true, true, true, true, true, true, true, true, false, false, false, false, false] rfl rfl (any_of HT_.out (by kernel_rfl)) (fun _ _ _ h => h) (Or.inr ⟨by rfl, rfl⟩) ?_ ?_
              rotate_left
              · simp only [Act.put, List.setIfInBounds_toArray, List.set_cons_zero, List.set_cons_succ, i64_w, i32_w]
                rfl
              refine pure_ (i := 15) (N := some 48) (v := undef) (a' := ?_) #[true, true, true, true, true, true, true, true, true, true, true, true, true, true, true, true, false, false, false, false] rfl rfl (any_of HT_.out (by kernel_rfl)) (fun _ _ _ h => h) (Or.inr ⟨by rfl, rfl⟩) ?_ ?_
              rotate_left
              · simp only [Act.put, List.setIfInBounds_toArray, List.set_cons_zero, List.set_cons_succ, i64_w, i32_w]
                rfl
              refine pure_ (i := 16) (N := some 49) (v := undef) (a' := ?_) #[true, true, true, true, true, true, true, true, true, true, true, true, true, true, true, true, true, false, false, false] rfl rfl (any_of HT_.out (by kernel_rfl)) (fun _ _ _ h => h) (Or.inr ⟨by rfl, rfl⟩) ?_ ?_
              rotate_left
              · simp only [Act.put, List.setIfInBounds_toArray, List.set_cons_zero, List.set_cons_succ, i64_w, i32_w]
                rfl
              refine pure_ (i := 17) (N := some 50) (v := undef) (a' := ?_) #[true, true, true, true, true, true, true, true, true, true, true, true, true, true, true, true, true, true, false, false] rfl rfl (any_of HT_.out (by kernel_rfl)) (fun _ _ _ h => h) (Or.inr ⟨by rfl, rfl⟩) ?_ ?_
              rotate_left
              · simp only [Act.put, List.setIfInBounds_toArray, List.set_cons_zero, List.set_cons_succ, i64_w, i32_w]
                rfl
              refine pure_ (i := 18) (N := some 51) (v := ?_) (a' := ?_) #[true, true, true, true, true, true, true, true, true, true, true, true, true, true, true, true, true, true, true, false] rfl rfl (any_of HT_.out (by kernel_rfl)) (fun _ _ _ h => h) (Or.inl ⟨by rfl, ?_⟩) ?_ ?_
              rotate_left
              · intro w'
                go_simp
                first | with_reducible rfl | (rw [dif_pos (And.intro (of_decide_eq_true (by assumption)) (of_decide_eq_true (by assumption)))]; simp only [bt_at]; rfl)
              rotate_left
              · simp only [Act.put, List.setIfInBounds_toArray, List.set_cons_zero, List.set_cons_succ, i64_w, i32_w]
                rfl
              refine pure_ (i := 19) (N := some 52) (v := ?_) (a' := ?_) #[true, true, true, true, true, true, true, true, true, true, true, true, true, true, true, true, true, true, true, true] rfl rfl (any_of HT_.out (by kernel_rfl)) (fun _ _ _ h => h) (Or.inl ⟨by rfl, ?_⟩) ?_ ?_
              rotate_left
              · intro w'
                go_simp
                first | with_reducible rfl | (rw [dif_pos (And.intro (of_decide_eq_true (by assumption)) (of_decide_eq_true (by assumption)))]; simp only [bt_at]; rfl)
              rotate_left
              · simp only [Act.put, List.setIfInBounds_toArray, List.set_cons_zero, List.set_cons_succ, i64_w, i32_w]
                rfl
              refine done_ (done_of HT_.out (by kernel_rfl)) ?_
              try go_wp2
              go_meet
              case rel => exact ⟨_, (true), (by first | rfl | (simp; done) | (simp [*]; done)), H', ⟨by have := HJ3.out; first | omega | exact Nat.le_refl _⟩, ⟨by repeat (first | (with_reducible first | exact HB.out | apply below_alloc | apply pw_below_drewN | apply below_drew1) | exact HB.out | exact HBo.out)⟩⟩
            · rw [if_neg c15] at H
              have c15b0 : decide (t149 < 1) = false := decide_eq_false c15
              clear c15
              by_cases c17 : t149 > (a2.size : Int)
              · rw [if_pos c17] at H
                have c17b0 : decide ((a2.size : Int) < t149) = true := decide_eq_true c17
                clear c17
                have H' := Aside0.mk H
                clear H
                try go_wp2
                have HBo := HB; have n0_ := Aside0.mk (below_drew1 HB.out)
                clear HB
                have HB := n0_
                clear n0_
                refine start_ (n := 20) (S := fun w' => True) (ds := []) #[false, false, false, false, false, false, false, false, false, false, false, false, false, false, false, false, false, false, false, false] (by kernel_rfl) rfl rfl trivial (fun hHeld => ?_); refine with_tabW shuttlecocklaw01_VarintBack.tab4 shuttlecocklaw01_VarintBack.bits4 (fun HT_ HW_ => ?_)
                generalize wc.drew = w18 at HB hHeld ⊢
                refine pure_ (i := 0) (N := some 33) (v := ?_) (a' := ?_) #[true, false, false, false, false, false, false, false, false, false, false, false, false, false, false, false, false, false, false, false] rfl rfl (any_of HT_.out (by kernel_rfl)) (fun _ _ _ h => h) (Or.inl ⟨by rfl, ?_⟩) ?_ ?_
                rotate_left
                · intro w'
                  go_simp
                  first | with_reducible rfl | (rw [dif_pos (And.intro (of_decide_eq_true (by assumption)) (of_decide_eq_true (by assumption)))]; simp only [bt_at]; rfl)
                rotate_left
                · simp only [Act.put, List.setIfInBounds_toArray, List.set_cons_zero, List.set_cons_succ, i64_w, i32_w]
                  rfl
                refine pure_ (i := 1) (N := some 34) (v := ?_) (a' := ?_) #[true, true, false, false, false, false, false, false, false, false, false, false, false, false, false, false, false, false, false, false] rfl rfl (any_of HT_.out (by kernel_rfl)) (fun _ _ _ h => h) (Or.inl ⟨by rfl, ?_⟩) ?_ ?_
                rotate_left
                · intro w'
                  go_simp
                  first | with_reducible rfl | (rw [dif_pos (And.intro (of_decide_eq_true (by assumption)) (of_decide_eq_true (by assumption)))]; simp only [bt_at]; rfl)
                rotate_left
                · simp only [Act.put, List.setIfInBounds_toArray, List.set_cons_zero, List.set_cons_succ, i64_w, i32_w]
                  rfl
                refine pure_ (i := 2) (N := some 35) (v := ?_) (a' := ?_) #[true, true, true, false, false, false, false, false, false, false, false, false, false, false, false, false, false, false, false, false] rfl rfl (any_of HT_.out (by kernel_rfl)) (fun _ _ _ h => h) (Or.inl ⟨by rfl, ?_⟩) ?_ ?_
                rotate_left
                · intro w'
                  go_simp
                  first | with_reducible rfl | (rw [dif_pos (And.intro (of_decide_eq_true (by assumption)) (of_decide_eq_true (by assumption)))]; simp only [bt_at]; rfl)
                rotate_left
                · simp only [Act.put, List.setIfInBounds_toArray, List.set_cons_zero, List.set_cons_succ, i64_w, i32_w]
                  rfl
                refine pure_ (i := 3) (N := some 36) (v := ?_) (a' := ?_) #[true, true, true, true, false, false, false, false, false, false, false, false, false, false, false, false, false, false, false, false] rfl rfl (any_of HT_.out (by kernel_rfl)) (fun _ _ _ h => h) (Or.inl ⟨by rfl, ?_⟩) ?_ ?_
                rotate_left
                · intro w'
                  go_simp
                  first | with_reducible rfl | (rw [dif_pos (And.intro (of_decide_eq_true (by assumption)) (of_decide_eq_true (by assumption)))]; simp only [bt_at]; rfl)
                rotate_left
                · simp only [Act.put, List.setIfInBounds_toArray, List.set_cons_zero, List.set_cons_succ, i64_w, i32_w]
                  rfl
                refine pure_ (i := 4) (N := some 37) (v := ?_) (a' := ?_) #[true, true, true, true, true, false, false, false, false, false, false, false, false, false, false, false, false, false, false, false] rfl rfl (any_of HT_.out (by kernel_rfl)) (fun _ _ _ h => h) (Or.inl ⟨by rfl, ?_⟩) ?_ ?_
                rotate_left
                · intro w'
                  go_simp
                  first | with_reducible rfl | (rw [dif_pos (And.intro (of_decide_eq_true (by assumption)) (of_decide_eq_true (by assumption)))]; simp only [bt_at]; rfl)
                rotate_left
                · simp only [Act.put, List.setIfInBounds_toArray, List.set_cons_zero, List.set_cons_succ, i64_w, i32_w]
                  rfl
                refine pure_ (i := 5) (N := some 38) (v := ?_) (a' := ?_) #[true, true, true, true, true, true, false, false, false, false, false, false, false, false, false, false, false, false, false, false] rfl rfl (any_of HT_.out (by kernel_rfl)) (fun _ _ _ h => h) (Or.inl ⟨by rfl, ?_⟩) ?_ ?_
                rotate_left
                · intro w'
                  go_simp
                  first | with_reducible rfl | (rw [dif_pos (And.intro (of_decide_eq_true (by assumption)) (of_decide_eq_true (by assumption)))]; simp only [bt_at]; rfl)
                rotate_left
                · simp only [Act.put, List.setIfInBounds_toArray, List.set_cons_zero, List.set_cons_succ, i64_w, i32_w]
                  rfl
                refine pure_ (i := 6) (N := some 39) (v := ?_) (a' := ?_) #[true, true, true, true, true, true, true, false, false, false, false, false, false, false, false, false, false, false, false, false] rfl rfl (any_of HT_.out (by kernel_rfl)) (fun _ _ _ h => h) (Or.inl ⟨by rfl, ?_⟩) ?_ ?_
                rotate_left
                · intro w'
                  go_simp
                  first | with_reducible rfl | (rw [dif_pos (And.intro (of_decide_eq_true (by assumption)) (of_decide_eq_true (by assumption)))]; simp only [bt_at]; rfl)
                rotate_left
                · simp only [Act.put, List.setIfInBounds_toArray, List.set_cons_zero, List.set_cons_succ, i64_w, i32_w]
                  rfl
                refine pure_ (i := 7) (N := some 40) (v := ?_) (a' := ?_) #[true, true, true, true, true, true, true, true, false, false, false, false, false, false, false, false, false, false, false, false] rfl rfl (any_of HT_.out (by kernel_rfl)) (fun _ _ _ h => h) (Or.inl ⟨by rfl, ?_⟩) ?_ ?_
                rotate_left
                · intro w'
                  go_simp
                  first | with_reducible rfl | (rw [dif_pos (And.intro (of_decide_eq_true (by assumption)) (of_decide_eq_true (by assumption)))]; simp only [bt_at]; rfl)
                rotate_left
                · simp only [Act.put, List.setIfInBounds_toArray, List.set_cons_zero, List.set_cons_succ, i64_w, i32_w]
                  rfl
                refine pure_ (i := 8) (N := some 41) (v := ?_) (a' := ?_) #[true, true, true, true, true, true, true, true, true, false, false, false, false, false, false, false, false, false, false, false] rfl rfl (any_of HT_.out (by kernel_rfl)) (fun _ _ _ h => h) (Or.inl ⟨by rfl, ?_⟩) ?_ ?_
                rotate_left
                · intro w'
                  go_simp
                  first | with_reducible rfl | (rw [dif_pos (And.intro (of_decide_eq_true (by assumption)) (of_decide_eq_true (by assumption)))]; simp only [bt_at]; rfl)
                rotate_left
                · simp only [Act.put, List.setIfInBounds_toArray, List.set_cons_zero, List.set_cons_succ, i64_w, i32_w]
                  rfl
                refine pure_ (i := 9) (N := some 42) (v := ?_) (a' := ?_) #[true, true, true, true, true, true, true, true, true, true, false, false, false, false, false, false, false, false, false, false] rfl rfl (any_of HT_.out (by kernel_rfl)) (fun _ _ _ h => h) (Or.inl ⟨by rfl, ?_⟩) ?_ ?_
                rotate_left
                · intro w'
                  go_simp
                  first | with_reducible rfl | (rw [dif_pos (And.intro (of_decide_eq_true (by assumption)) (of_decide_eq_true (by assumption)))]; simp only [bt_at]; rfl)
                rotate_left
                · simp only [Act.put, List.setIfInBounds_toArray, List.set_cons_zero, List.set_cons_succ, i64_w, i32_w]
                  rfl
                refine pure_ (i := 10) (N := some 43) (v := ?_) (a' := ?_) #[true, true, true, true, true, true, true, true, true, true, true, false, false, false, false, false, false, false, false, false] rfl rfl (any_of HT_.out (by kernel_rfl)) (fun _ _ _ h => h) (Or.inl ⟨by rfl, ?_⟩) ?_ ?_
                rotate_left
                · intro w'
                  go_simp
                  first | with_reducible rfl | (rw [dif_pos (And.intro (of_decide_eq_true (by assumption)) (of_decide_eq_true (by assumption)))]; simp only [bt_at]; rfl)
                rotate_left
                · simp only [Act.put, List.setIfInBounds_toArray, List.set_cons_zero, List.set_cons_succ, i64_w, i32_w]
                  rfl
                refine pure_ (i := 11) (N := some 44) (v := ?_) (a' := ?_) #[true, true, true, true, true, true, true, true, true, true, true, true, false, false, false, false, false, false, false, false] rfl rfl (any_of HT_.out (by kernel_rfl)) (fun _ _ _ h => h) (Or.inl ⟨by rfl, ?_⟩) ?_ ?_
                rotate_left
                · intro w'
                  go_simp
                  first | with_reducible rfl | (rw [dif_pos (And.intro (of_decide_eq_true (by assumption)) (of_decide_eq_true (by assumption)))]; simp only [bt_at]; rfl)
                rotate_left
                · simp only [Act.put, List.setIfInBounds_toArray, List.set_cons_zero, List.set_cons_succ, i64_w, i32_w]
                  rfl
                refine pure_ (i := 12) (N := some 45) (v := undef) (a' := ?_) #[true, true, true, true, true, true, true, true, true, true, true, true, true, false, false, false, false, false, false, false] rfl rfl (any_of HT_.out (by kernel_rfl)) (fun _ _ _ h => h) (Or.inr ⟨by rfl, rfl⟩) ?_ ?_
                rotate_left
                · simp only [Act.put, List.setIfInBounds_toArray, List.set_cons_zero, List.set_cons_succ, i64_w, i32_w]
                  rfl
                refine pure_ (i := 13) (N := some 46) (v := undef) (a' := ?_) #[true, true, true, true, true, true, true, true, true, true, true, true, true, true, false, false, false, false, false, false] rfl rfl (any_of HT_.out (by kernel_rfl)) (fun _ _ _ h => h) (Or.inr ⟨by rfl, rfl⟩) ?_ ?_
                rotate_left
                · simp only [Act.put, List.setIfInBounds_toArray, List.set_cons_zero, List.set_cons_succ, i64_w, i32_w]
                  rfl
                refine pure_ (i := 14) (N := some 47) (v := undef) (a' := ?_) #[true, true, true, true, true, true, true, true, true, true, true, true, true, true, true, false, false, false, false, false] rfl rfl (any_of HT_.out (by kernel_rfl)) (fun _ _ _ h => h) (Or.inr ⟨by rfl, rfl⟩) ?_ ?_
                rotate_left
                · simp only [Act.put, List.setIfInBounds_toArray, List.set_cons_zero, List.set_cons_succ, i64_w, i32_w]
                  rfl
                refine pure_ (i := 15) (N := some 48) (v := undef) (a' := ?_) #[true, true, true, true, true, true, true, true, true, true, true, true, true, true, true, true, false, false, false, false] rfl rfl (any_of HT_.out (by kernel_rfl)) (fun _ _ _ h => h) (Or.inr ⟨by rfl, rfl⟩) ?_ ?_
                rotate_left
                · simp only [Act.put, List.setIfInBounds_toArray, List.set_cons_zero, List.set_cons_succ, i64_w, i32_w]
                  rfl
                refine pure_ (i := 16) (N := some 49) (v := undef) (a' := ?_) #[true, true, true, true, true, true, true, true, true, true, true, true, true, true, true, true, true, false, false, false] rfl rfl (any_of HT_.out (by kernel_rfl)) (fun _ _ _ h => h) (Or.inr ⟨by rfl, rfl⟩) ?_ ?_
                rotate_left
                · simp only [Act.put, List.setIfInBounds_toArray, List.set_cons_zero, List.set_cons_succ, i64_w, i32_w]
                  rfl
                refine pure_ (i := 17) (N := some 50) (v := undef) (a' := ?_) #[true, true, true, true, true, true, true, true, true, true, true, true, true, true, true, true, true, true, false, false] rfl rfl (any_of HT_.out (by kernel_rfl)) (fun _ _ _ h => h) (Or.inr ⟨by rfl, rfl⟩) ?_ ?_
                rotate_left
                · simp only [Act.put, List.setIfInBounds_toArray, List.set_cons_zero, List.set_cons_succ, i64_w, i32_w]
                  rfl
                refine pure_ (i := 18) (N := some 51) (v := ?_) (a' := ?_) #[true, true, true, true, true, true, true, true, true, true, true, true, true, true, true, true, true, true, true, false] rfl rfl (any_of HT_.out (by kernel_rfl)) (fun _ _ _ h => h) (Or.inl ⟨by rfl, ?_⟩) ?_ ?_
                rotate_left
                · intro w'
                  go_simp
                  first | with_reducible rfl | (rw [dif_pos (And.intro (of_decide_eq_true (by assumption)) (of_decide_eq_true (by assumption)))]; simp only [bt_at]; rfl)
                rotate_left
                · simp only [Act.put, List.setIfInBounds_toArray, List.set_cons_zero, List.set_cons_succ, i64_w, i32_w]
                  rfl
                refine pure_ (i := 19) (N := some 52) (v := ?_) (a' := ?_) #[true, true, true, true, true, true, true, true, true, true, true, true, true, true, true, true, true, true, true, true] rfl rfl (any_of HT_.out (by kernel_rfl)) (fun _ _ _ h => h) (Or.inl ⟨by rfl, ?_⟩) ?_ ?_
                rotate_left
                · intro w'
                  go_simp
                  first | with_reducible rfl | (rw [dif_pos (And.intro (of_decide_eq_true (by assumption)) (of_decide_eq_true (by assumption)))]; simp only [bt_at]; rfl)
                rotate_left
                · simp only [Act.put, List.setIfInBounds_toArray, List.set_cons_zero, List.set_cons_succ, i64_w, i32_w]
                  rfl
                refine done_ (done_of HT_.out (by kernel_rfl)) ?_
                try go_wp2
                go_meet
                case rel => exact ⟨_, (true), (by first | rfl | (simp; done) | (simp [*]; done)), H', ⟨by have := HJ3.out; first | omega | exact Nat.le_refl _⟩, ⟨by repeat (first | (with_reducible first | exact HB.out | apply below_alloc | apply pw_below_drewN | apply below_drew1) | exact HB.out | exact HBo.out)⟩⟩
              · rw [if_neg c17] at H
                have c17b0 : decide ((a2.size : Int) < t149) = false := decide_eq_false c17
                clear c17
                replace H := Option.bind_eq_some_iff.mp H
                obtain ⟨t151, A190, H⟩ := H
                replace H : (if 0 ≤ t149 then (if t149 ≤ (a2.size : Int) then (shuttlecocklaw01_VarintBack.j1 kj3 a0 a1 a2 (t151.toList != (a2.extract 0 (t149 : Int).toNat).toList)) else (none)) else (none)) = some r := H
                have A19 := Aside0.mk A190
                clear A190
                by_cases c20 : 0 ≤ t149
                · rw [if_pos c20] at H
                  have c20b0 := eq_true c20
                  have c20b1 : decide (0 ≤ t149) = true := decide_eq_true c20
                  clear c20
                  by_cases c21 : t149 ≤ (a2.size : Int)
                  · rw [if_pos c21] at H
                    have c21b0 := eq_true c21
                    have c21b1 : decide (t149 ≤ (a2.size : Int)) = true := decide_eq_true c21
                    clear c21
                    have H' := Aside0.mk H
                    clear H
                    try go_wp2
                    have HBo := HB; have n0_ := Aside0.mk (below_drew1 HB.out)
                    clear HB
                    have HB := n0_
                    clear n0_
                    refine start_ (n := 20) (S := fun w' => True) (ds := []) #[false, false, false, false, false, false, false, false, false, false, false, false, false, false, false, false, false, false, false, false] (by kernel_rfl) rfl rfl trivial (fun hHeld => ?_); refine with_tabW shuttlecocklaw01_VarintBack.tab4 shuttlecocklaw01_VarintBack.bits4 (fun HT_ HW_ => ?_)
                    generalize wc.drew = w22 at HB hHeld ⊢
                    refine pure_ (i := 0) (N := some 33) (v := ?_) (a' := ?_) #[true, false, false, false, false, false, false, false, false, false, false, false, false, false, false, false, false, false, false, false] rfl rfl (any_of HT_.out (by kernel_rfl)) (fun _ _ _ h => h) (Or.inl ⟨by rfl, ?_⟩) ?_ ?_
                    rotate_left
                    · intro w'
                      go_simp
                      first | with_reducible rfl | (rw [dif_pos (And.intro (of_decide_eq_true (by assumption)) (of_decide_eq_true (by assumption)))]; simp only [bt_at]; rfl)
                    rotate_left
                    · simp only [Act.put, List.setIfInBounds_toArray, List.set_cons_zero, List.set_cons_succ, i64_w, i32_w]
                      rfl
                    refine pure_ (i := 1) (N := some 34) (v := ?_) (a' := ?_) #[true, true, false, false, false, false, false, false, false, false, false, false, false, false, false, false, false, false, false, false] rfl rfl (any_of HT_.out (by kernel_rfl)) (fun _ _ _ h => h) (Or.inl ⟨by rfl, ?_⟩) ?_ ?_
                    rotate_left
                    · intro w'
                      go_simp
                      first | with_reducible rfl | (rw [dif_pos (And.intro (of_decide_eq_true (by assumption)) (of_decide_eq_true (by assumption)))]; simp only [bt_at]; rfl)
                    rotate_left
                    · simp only [Act.put, List.setIfInBounds_toArray, List.set_cons_zero, List.set_cons_succ, i64_w, i32_w]
                      rfl
                    refine pure_ (i := 2) (N := some 35) (v := ?_) (a' := ?_) #[true, true, true, false, false, false, false, false, false, false, false, false, false, false, false, false, false, false, false, false] rfl rfl (any_of HT_.out (by kernel_rfl)) (fun _ _ _ h => h) (Or.inl ⟨by rfl, ?_⟩) ?_ ?_
                    rotate_left
                    · intro w'
                      go_simp
                      first | with_reducible rfl | (rw [dif_pos (And.intro (of_decide_eq_true (by assumption)) (of_decide_eq_true (by assumption)))]; simp only [bt_at]; rfl)
                    rotate_left
                    · simp only [Act.put, List.setIfInBounds_toArray, List.set_cons_zero, List.set_cons_succ, i64_w, i32_w]
                      rfl
                    refine pure_ (i := 3) (N := some 36) (v := ?_) (a' := ?_) #[true, true, true, true, false, false, false, false, false, false, false, false, false, false, false, false, false, false, false, false] rfl rfl (any_of HT_.out (by kernel_rfl)) (fun _ _ _ h => h) (Or.inl ⟨by rfl, ?_⟩) ?_ ?_
                    rotate_left
                    · intro w'
                      go_simp
                      first | with_reducible rfl | (rw [dif_pos (And.intro (of_decide_eq_true (by assumption)) (of_decide_eq_true (by assumption)))]; simp only [bt_at]; rfl)
                    rotate_left
                    · simp only [Act.put, List.setIfInBounds_toArray, List.set_cons_zero, List.set_cons_succ, i64_w, i32_w]
                      rfl
                    refine pure_ (i := 4) (N := some 37) (v := ?_) (a' := ?_) #[true, true, true, true, true, false, false, false, false, false, false, false, false, false, false, false, false, false, false, false] rfl rfl (any_of HT_.out (by kernel_rfl)) (fun _ _ _ h => h) (Or.inl ⟨by rfl, ?_⟩) ?_ ?_
                    rotate_left
                    · intro w'
                      go_simp
                      first | with_reducible rfl | (rw [dif_pos (And.intro (of_decide_eq_true (by assumption)) (of_decide_eq_true (by assumption)))]; simp only [bt_at]; rfl)
                    rotate_left
                    · simp only [Act.put, List.setIfInBounds_toArray, List.set_cons_zero, List.set_cons_succ, i64_w, i32_w]
                      rfl
                    refine pure_ (i := 5) (N := some 38) (v := ?_) (a' := ?_) #[true, true, true, true, true, true, false, false, false, false, false, false, false, false, false, false, false, false, false, false] rfl rfl (any_of HT_.out (by kernel_rfl)) (fun _ _ _ h => h) (Or.inl ⟨by rfl, ?_⟩) ?_ ?_
                    rotate_left
                    · intro w'
                      go_simp
                      first | with_reducible rfl | (rw [dif_pos (And.intro (of_decide_eq_true (by assumption)) (of_decide_eq_true (by assumption)))]; simp only [bt_at]; rfl)
                    rotate_left
                    · simp only [Act.put, List.setIfInBounds_toArray, List.set_cons_zero, List.set_cons_succ, i64_w, i32_w]
                      rfl
                    refine pure_ (i := 6) (N := some 39) (v := ?_) (a' := ?_) #[true, true, true, true, true, true, true, false, false, false, false, false, false, false, false, false, false, false, false, false] rfl rfl (any_of HT_.out (by kernel_rfl)) (fun _ _ _ h => h) (Or.inl ⟨by rfl, ?_⟩) ?_ ?_
                    rotate_left
                    · intro w'
                      go_simp
                      first | with_reducible rfl | (rw [dif_pos (And.intro (of_decide_eq_true (by assumption)) (of_decide_eq_true (by assumption)))]; simp only [bt_at]; rfl)
                    rotate_left
                    · simp only [Act.put, List.setIfInBounds_toArray, List.set_cons_zero, List.set_cons_succ, i64_w, i32_w]
                      rfl
                    refine pure_ (i := 7) (N := some 40) (v := ?_) (a' := ?_) #[true, true, true, true, true, true, true, true, false, false, false, false, false, false, false, false, false, false, false, false] rfl rfl (any_of HT_.out (by kernel_rfl)) (fun _ _ _ h => h) (Or.inl ⟨by rfl, ?_⟩) ?_ ?_
                    rotate_left
                    · intro w'
                      go_simp
                      first | with_reducible rfl | (rw [dif_pos (And.intro (of_decide_eq_true (by assumption)) (of_decide_eq_true (by assumption)))]; simp only [bt_at]; rfl)
                    rotate_left
                    · simp only [Act.put, List.setIfInBounds_toArray, List.set_cons_zero, List.set_cons_succ, i64_w, i32_w]
                      rfl
                    refine pure_ (i := 8) (N := some 41) (v := ?_) (a' := ?_) #[true, true, true, true, true, true, true, true, true, false, false, false, false, false, false, false, false, false, false, false] rfl rfl (any_of HT_.out (by kernel_rfl)) (fun _ _ _ h => h) (Or.inl ⟨by rfl, ?_⟩) ?_ ?_
                    rotate_left
                    · intro w'
                      go_simp
                      first | with_reducible rfl | (rw [dif_pos (And.intro (of_decide_eq_true (by assumption)) (of_decide_eq_true (by assumption)))]; simp only [bt_at]; rfl)
                    rotate_left
                    · simp only [Act.put, List.setIfInBounds_toArray, List.set_cons_zero, List.set_cons_succ, i64_w, i32_w]
                      rfl
                    refine pure_ (i := 9) (N := some 42) (v := ?_) (a' := ?_) #[true, true, true, true, true, true, true, true, true, true, false, false, false, false, false, false, false, false, false, false] rfl rfl (any_of HT_.out (by kernel_rfl)) (fun _ _ _ h => h) (Or.inl ⟨by rfl, ?_⟩) ?_ ?_
                    rotate_left
                    · intro w'
                      go_simp
                      first | with_reducible rfl | (rw [dif_pos (And.intro (of_decide_eq_true (by assumption)) (of_decide_eq_true (by assumption)))]; simp only [bt_at]; rfl)
                    rotate_left
                    · simp only [Act.put, List.setIfInBounds_toArray, List.set_cons_zero, List.set_cons_succ, i64_w, i32_w]
                      rfl
                    refine pure_ (i := 10) (N := some 43) (v := ?_) (a' := ?_) #[true, true, true, true, true, true, true, true, true, true, true, false, false, false, false, false, false, false, false, false] rfl rfl (any_of HT_.out (by kernel_rfl)) (fun _ _ _ h => h) (Or.inl ⟨by rfl, ?_⟩) ?_ ?_
                    rotate_left
                    · intro w'
                      go_simp
                      first | with_reducible rfl | (rw [dif_pos (And.intro (of_decide_eq_true (by assumption)) (of_decide_eq_true (by assumption)))]; simp only [bt_at]; rfl)
                    rotate_left
                    · simp only [Act.put, List.setIfInBounds_toArray, List.set_cons_zero, List.set_cons_succ, i64_w, i32_w]
                      rfl
                    refine pure_ (i := 11) (N := some 44) (v := ?_) (a' := ?_) #[true, true, true, true, true, true, true, true, true, true, true, true, false, false, false, false, false, false, false, false] rfl rfl (any_of HT_.out (by kernel_rfl)) (fun _ _ _ h => h) (Or.inl ⟨by rfl, ?_⟩) ?_ ?_
                    rotate_left
                    · intro w'
                      go_simp
                      first | with_reducible rfl | (rw [dif_pos (And.intro (of_decide_eq_true (by assumption)) (of_decide_eq_true (by assumption)))]; simp only [bt_at]; rfl)
                    rotate_left
                    · simp only [Act.put, List.setIfInBounds_toArray, List.set_cons_zero, List.set_cons_succ, i64_w, i32_w]
                      rfl
                    refine pure_ (i := 12) (N := some 45) (v := ?_) (a' := ?_) #[true, true, true, true, true, true, true, true, true, true, true, true, true, false, false, false, false, false, false, false] rfl rfl (any_of HT_.out (by kernel_rfl)) (fun _ _ _ h => h) (Or.inl ⟨by rfl, ?_⟩) ?_ ?_
                    rotate_left
                    · intro w'
                      go_simp
                      first | with_reducible rfl | (rw [dif_pos (And.intro (of_decide_eq_true (by assumption)) (of_decide_eq_true (by assumption)))]; simp only [bt_at]; rfl)
                    rotate_left
                    · simp only [Act.put, List.setIfInBounds_toArray, List.set_cons_zero, List.set_cons_succ, i64_w, i32_w]
                      rfl
                    refine pure_ (i := 14) (N := some 47) (v := ?_) (a' := ?_) #[true, true, true, true, true, true, true, true, true, true, true, true, true, false, true, false, false, false, false, false] rfl rfl (any_of HT_.out (by kernel_rfl)) (fun _ _ _ h => h) (Or.inl ⟨by rfl, ?_⟩) ?_ ?_
                    rotate_left
                    · intro w'
                      go_simp
                      first | with_reducible rfl | (rw [dif_pos (And.intro (of_decide_eq_true (by assumption)) (of_decide_eq_true (by assumption)))]; simp only [bt_at]; rfl)
                    rotate_left
                    · simp only [Act.put, List.setIfInBounds_toArray, List.set_cons_zero, List.set_cons_succ, i64_w, i32_w]
                      rfl
                    refine pure_ (i := 15) (N := some 48) (v := ?_) (a' := ?_) #[true, true, true, true, true, true, true, true, true, true, true, true, true, false, true, true, false, false, false, false] rfl rfl (any_of HT_.out (by kernel_rfl)) (fun _ _ _ h => h) (Or.inl ⟨by rfl, ?_⟩) ?_ ?_
                    rotate_left
                    · intro w'
                      go_simp
                      first | with_reducible rfl | (rw [dif_pos (And.intro (of_decide_eq_true (by assumption)) (of_decide_eq_true (by assumption)))]; simp only [bt_at]; rfl)
                    rotate_left
                    · simp only [Act.put, List.setIfInBounds_toArray, List.set_cons_zero, List.set_cons_succ, i64_w, i32_w]
                      rfl
                    refine pure_ (i := 16) (N := some 49) (v := ?_) (a' := ?_) #[true, true, true, true, true, true, true, true, true, true, true, true, true, false, true, true, true, false, false, false] rfl rfl (any_of HT_.out (by kernel_rfl)) (fun _ _ _ h => h) (Or.inl ⟨by rfl, ?_⟩) ?_ ?_
                    rotate_left
                    · intro w'
                      go_simp
                      first | with_reducible rfl | (rw [dif_pos (And.intro (of_decide_eq_true (by assumption)) (of_decide_eq_true (by assumption)))]; simp only [bt_at]; rfl)
                    rotate_left
                    · simp only [Act.put, List.setIfInBounds_toArray, List.set_cons_zero, List.set_cons_succ, i64_w, i32_w]
                      rfl
                    refine one_ (i := 13) (N := some 46) #[true, true, true, true, true, true, true, true, true, true, true, true, true, true, true, true, true, false, false, false] rfl rfl (one_of HT_.out (by kernel_rfl)) (by decide) (fun K hK => ?_)
                    refine goes_ Try.func11 (by kernel_rfl) rfl #[.int .i64 t148] (by rfl) rfl rfl (by (try simp only [List.map_toArray, List.map_cons, List.map_nil]); first | done | rfl | (simp only [List.length_drop, List.length_take]; rfl)) ?_
                    with_reducible refine (varint_Put.calls kj3 t148 t151 _ A19.out).mono ?_
                    rintro e w23 ⟨rfl, hb⟩
                    refine ⟨_, rfl, ?_⟩
                    have n0_ := Aside0.mk (below_step (by repeat (first | (with_reducible first | exact HB.out | apply below_alloc | apply pw_below_drewN | apply below_drew1) | exact HB.out | exact HBo.out)) hb)
                    clear HB
                    have HB := n0_
                    clear n0_
                    (try clear hb)
                    (try clear hb2)
                    (try clear hk)
                    (try clear hi)
                    refine hK.out _ _ trivial (fun hHeld => ?_)
                    clear hK K
                    refine norm_ (a' := ?_) ?_ ?_
                    rotate_left
                    · show Act.put _ (some 46) _ = _
                      simp only [Act.put, List.setIfInBounds_toArray, List.set_cons_zero, List.set_cons_succ, i64_w, i32_w]
                      rfl
                    refine pure_ (i := 17) (N := some 50) (v := ?_) (a' := ?_) #[true, true, true, true, true, true, true, true, true, true, true, true, true, true, true, true, true, true, false, false] rfl rfl (any_of HT_.out (by kernel_rfl)) (fun _ _ _ h => h) (Or.inl ⟨by rfl, ?_⟩) ?_ ?_
                    rotate_left
                    · intro w'
                      go_simp
                      first | with_reducible rfl | (rw [dif_pos (And.intro (of_decide_eq_true (by assumption)) (of_decide_eq_true (by assumption)))]; simp only [bt_at]; rfl)
                    rotate_left
                    · simp only [Act.put, List.setIfInBounds_toArray, List.set_cons_zero, List.set_cons_succ, i64_w, i32_w]
                      rfl
                    refine pure_ (i := 18) (N := some 51) (v := ?_) (a' := ?_) #[true, true, true, true, true, true, true, true, true, true, true, true, true, true, true, true, true, true, true, false] rfl rfl (any_of HT_.out (by kernel_rfl)) (fun _ _ _ h => h) (Or.inl ⟨by rfl, ?_⟩) ?_ ?_
                    rotate_left
                    · intro w'
                      go_simp
                      first | with_reducible rfl | (rw [dif_pos (And.intro (of_decide_eq_true (by assumption)) (of_decide_eq_true (by assumption)))]; simp only [bt_at]; rfl)
                    rotate_left
                    · simp only [Act.put, List.setIfInBounds_toArray, List.set_cons_zero, List.set_cons_succ, i64_w, i32_w]
                      rfl
                    refine pure_ (i := 19) (N := some 52) (v := ?_) (a' := ?_) #[true, true, true, true, true, true, true, true, true, true, true, true, true, true, true, true, true, true, true, true] rfl rfl (any_of HT_.out (by kernel_rfl)) (fun _ _ _ h => h) (Or.inl ⟨by rfl, ?_⟩) ?_ ?_
                    rotate_left
                    · intro w'
                      go_simp
                      first | with_reducible rfl | (rw [dif_pos (And.intro (of_decide_eq_true (by assumption)) (of_decide_eq_true (by assumption)))]; simp only [bt_at]; rfl)
                    rotate_left
                    · simp only [Act.put, List.setIfInBounds_toArray, List.set_cons_zero, List.set_cons_succ, i64_w, i32_w]
                      rfl
                    refine done_ (done_of HT_.out (by kernel_rfl)) ?_
                    try go_wp2
                    go_meet
                    case rel => exact ⟨_, ((t151.toList != (a2.extract 0 (t149 : Int).toNat).toList)), (by first | rfl | (simp; done) | (simp [*]; done)), H', ⟨by have := HJ3.out; first | omega | exact Nat.le_refl _⟩, ⟨by repeat (first | (with_reducible first | exact HB.out | apply below_alloc | apply pw_below_drewN | apply below_drew1) | exact HB.out | exact HBo.out)⟩⟩
                  · rw [if_neg c21] at H
                    exact absurd H (by simp)
                · rw [if_neg c20] at H
                  exact absurd H (by simp)
          · rw [if_neg c14] at H
            have c14b0 : (t150 == 0) = false := beq_eq_false_iff_ne.mpr c14
            have c14b1 : (t150 != 0) = true := bne_iff_ne.mpr c14
            (first | rw [c14b0] | (simp only [i64_w, i32_w]; rw [c14b0]) | skip)
            have H' := Aside0.mk H
            clear H
            try go_wp2
            have HBo := HB; have n0_ := Aside0.mk (below_drew1 HB.out)
            clear HB
            have HB := n0_
            clear n0_
            refine start_ (n := 20) (S := fun w' => True) (ds := []) #[false, false, false, false, false, false, false, false, false, false, false, false, false, false, false, false, false, false, false, false] (by kernel_rfl) rfl rfl trivial (fun hHeld => ?_); refine with_tabW shuttlecocklaw01_VarintBack.tab4 shuttlecocklaw01_VarintBack.bits4 (fun HT_ HW_ => ?_)
            generalize wc.drew = w24 at HB hHeld ⊢
            refine pure_ (i := 0) (N := some 33) (v := ?_) (a' := ?_) #[true, false, false, false, false, false, false, false, false, false, false, false, false, false, false, false, false, false, false, false] rfl rfl (any_of HT_.out (by kernel_rfl)) (fun _ _ _ h => h) (Or.inl ⟨by rfl, ?_⟩) ?_ ?_
            rotate_left
            · intro w'
              go_simp
              first | with_reducible rfl | (rw [dif_pos (And.intro (of_decide_eq_true (by assumption)) (of_decide_eq_true (by assumption)))]; simp only [bt_at]; rfl)
            rotate_left
            · simp only [Act.put, List.setIfInBounds_toArray, List.set_cons_zero, List.set_cons_succ, i64_w, i32_w]
              rfl
            refine pure_ (i := 1) (N := some 34) (v := ?_) (a' := ?_) #[true, true, false, false, false, false, false, false, false, false, false, false, false, false, false, false, false, false, false, false] rfl rfl (any_of HT_.out (by kernel_rfl)) (fun _ _ _ h => h) (Or.inl ⟨by rfl, ?_⟩) ?_ ?_
            rotate_left
            · intro w'
              go_simp
              first | with_reducible rfl | (rw [dif_pos (And.intro (of_decide_eq_true (by assumption)) (of_decide_eq_true (by assumption)))]; simp only [bt_at]; rfl)
            rotate_left
            · simp only [Act.put, List.setIfInBounds_toArray, List.set_cons_zero, List.set_cons_succ, i64_w, i32_w]
              rfl
            refine pure_ (i := 2) (N := some 35) (v := ?_) (a' := ?_) #[true, true, true, false, false, false, false, false, false, false, false, false, false, false, false, false, false, false, false, false] rfl rfl (any_of HT_.out (by kernel_rfl)) (fun _ _ _ h => h) (Or.inl ⟨by rfl, ?_⟩) ?_ ?_
            rotate_left
            · intro w'
              go_simp
              first | with_reducible rfl | (rw [dif_pos (And.intro (of_decide_eq_true (by assumption)) (of_decide_eq_true (by assumption)))]; simp only [bt_at]; rfl)
            rotate_left
            · simp only [Act.put, List.setIfInBounds_toArray, List.set_cons_zero, List.set_cons_succ, i64_w, i32_w]
              rfl
            refine pure_ (i := 3) (N := some 36) (v := undef) (a' := ?_) #[true, true, true, true, false, false, false, false, false, false, false, false, false, false, false, false, false, false, false, false] rfl rfl (any_of HT_.out (by kernel_rfl)) (fun _ _ _ h => h) (Or.inr ⟨by rfl, rfl⟩) ?_ ?_
            rotate_left
            · simp only [Act.put, List.setIfInBounds_toArray, List.set_cons_zero, List.set_cons_succ, i64_w, i32_w]
              rfl
            refine pure_ (i := 4) (N := some 37) (v := undef) (a' := ?_) #[true, true, true, true, true, false, false, false, false, false, false, false, false, false, false, false, false, false, false, false] rfl rfl (any_of HT_.out (by kernel_rfl)) (fun _ _ _ h => h) (Or.inr ⟨by rfl, rfl⟩) ?_ ?_
            rotate_left
            · simp only [Act.put, List.setIfInBounds_toArray, List.set_cons_zero, List.set_cons_succ, i64_w, i32_w]
              rfl
            refine pure_ (i := 5) (N := some 38) (v := undef) (a' := ?_) #[true, true, true, true, true, true, false, false, false, false, false, false, false, false, false, false, false, false, false, false] rfl rfl (any_of HT_.out (by kernel_rfl)) (fun _ _ _ h => h) (Or.inr ⟨by rfl, rfl⟩) ?_ ?_
            rotate_left
            · simp only [Act.put, List.setIfInBounds_toArray, List.set_cons_zero, List.set_cons_succ, i64_w, i32_w]
              rfl
            refine pure_ (i := 6) (N := some 39) (v := undef) (a' := ?_) #[true, true, true, true, true, true, true, false, false, false, false, false, false, false, false, false, false, false, false, false] rfl rfl (any_of HT_.out (by kernel_rfl)) (fun _ _ _ h => h) (Or.inr ⟨by rfl, rfl⟩) ?_ ?_
            rotate_left
            · simp only [Act.put, List.setIfInBounds_toArray, List.set_cons_zero, List.set_cons_succ, i64_w, i32_w]
              rfl
            refine pure_ (i := 7) (N := some 40) (v := undef) (a' := ?_) #[true, true, true, true, true, true, true, true, false, false, false, false, false, false, false, false, false, false, false, false] rfl rfl (any_of HT_.out (by kernel_rfl)) (fun _ _ _ h => h) (Or.inr ⟨by rfl, rfl⟩) ?_ ?_
            rotate_left
            · simp only [Act.put, List.setIfInBounds_toArray, List.set_cons_zero, List.set_cons_succ, i64_w, i32_w]
              rfl
            refine pure_ (i := 8) (N := some 41) (v := undef) (a' := ?_) #[true, true, true, true, true, true, true, true, true, false, false, false, false, false, false, false, false, false, false, false] rfl rfl (any_of HT_.out (by kernel_rfl)) (fun _ _ _ h => h) (Or.inr ⟨by rfl, rfl⟩) ?_ ?_
            rotate_left
            · simp only [Act.put, List.setIfInBounds_toArray, List.set_cons_zero, List.set_cons_succ, i64_w, i32_w]
              rfl
            refine pure_ (i := 9) (N := some 42) (v := undef) (a' := ?_) #[true, true, true, true, true, true, true, true, true, true, false, false, false, false, false, false, false, false, false, false] rfl rfl (any_of HT_.out (by kernel_rfl)) (fun _ _ _ h => h) (Or.inr ⟨by rfl, rfl⟩) ?_ ?_
            rotate_left
            · simp only [Act.put, List.setIfInBounds_toArray, List.set_cons_zero, List.set_cons_succ, i64_w, i32_w]
              rfl
            refine pure_ (i := 10) (N := some 43) (v := undef) (a' := ?_) #[true, true, true, true, true, true, true, true, true, true, true, false, false, false, false, false, false, false, false, false] rfl rfl (any_of HT_.out (by kernel_rfl)) (fun _ _ _ h => h) (Or.inr ⟨by rfl, rfl⟩) ?_ ?_
            rotate_left
            · simp only [Act.put, List.setIfInBounds_toArray, List.set_cons_zero, List.set_cons_succ, i64_w, i32_w]
              rfl
            refine pure_ (i := 11) (N := some 44) (v := undef) (a' := ?_) #[true, true, true, true, true, true, true, true, true, true, true, true, false, false, false, false, false, false, false, false] rfl rfl (any_of HT_.out (by kernel_rfl)) (fun _ _ _ h => h) (Or.inr ⟨by rfl, rfl⟩) ?_ ?_
            rotate_left
            · simp only [Act.put, List.setIfInBounds_toArray, List.set_cons_zero, List.set_cons_succ, i64_w, i32_w]
              rfl
            refine pure_ (i := 12) (N := some 45) (v := undef) (a' := ?_) #[true, true, true, true, true, true, true, true, true, true, true, true, true, false, false, false, false, false, false, false] rfl rfl (any_of HT_.out (by kernel_rfl)) (fun _ _ _ h => h) (Or.inr ⟨by rfl, rfl⟩) ?_ ?_
            rotate_left
            · simp only [Act.put, List.setIfInBounds_toArray, List.set_cons_zero, List.set_cons_succ, i64_w, i32_w]
              rfl
            refine pure_ (i := 13) (N := some 46) (v := undef) (a' := ?_) #[true, true, true, true, true, true, true, true, true, true, true, true, true, true, false, false, false, false, false, false] rfl rfl (any_of HT_.out (by kernel_rfl)) (fun _ _ _ h => h) (Or.inr ⟨by rfl, rfl⟩) ?_ ?_
            rotate_left
            · simp only [Act.put, List.setIfInBounds_toArray, List.set_cons_zero, List.set_cons_succ, i64_w, i32_w]
              rfl
            refine pure_ (i := 14) (N := some 47) (v := undef) (a' := ?_) #[true, true, true, true, true, true, true, true, true, true, true, true, true, true, true, false, false, false, false, false] rfl rfl (any_of HT_.out (by kernel_rfl)) (fun _ _ _ h => h) (Or.inr ⟨by rfl, rfl⟩) ?_ ?_
            rotate_left
            · simp only [Act.put, List.setIfInBounds_toArray, List.set_cons_zero, List.set_cons_succ, i64_w, i32_w]
              rfl
            refine pure_ (i := 15) (N := some 48) (v := undef) (a' := ?_) #[true, true, true, true, true, true, true, true, true, true, true, true, true, true, true, true, false, false, false, false] rfl rfl (any_of HT_.out (by kernel_rfl)) (fun _ _ _ h => h) (Or.inr ⟨by rfl, rfl⟩) ?_ ?_
            rotate_left
            · simp only [Act.put, List.setIfInBounds_toArray, List.set_cons_zero, List.set_cons_succ, i64_w, i32_w]
              rfl
            refine pure_ (i := 16) (N := some 49) (v := undef) (a' := ?_) #[true, true, true, true, true, true, true, true, true, true, true, true, true, true, true, true, true, false, false, false] rfl rfl (any_of HT_.out (by kernel_rfl)) (fun _ _ _ h => h) (Or.inr ⟨by rfl, rfl⟩) ?_ ?_
            rotate_left
            · simp only [Act.put, List.setIfInBounds_toArray, List.set_cons_zero, List.set_cons_succ, i64_w, i32_w]
              rfl
            refine pure_ (i := 17) (N := some 50) (v := undef) (a' := ?_) #[true, true, true, true, true, true, true, true, true, true, true, true, true, true, true, true, true, true, false, false] rfl rfl (any_of HT_.out (by kernel_rfl)) (fun _ _ _ h => h) (Or.inr ⟨by rfl, rfl⟩) ?_ ?_
            rotate_left
            · simp only [Act.put, List.setIfInBounds_toArray, List.set_cons_zero, List.set_cons_succ, i64_w, i32_w]
              rfl
            refine pure_ (i := 18) (N := some 51) (v := undef) (a' := ?_) #[true, true, true, true, true, true, true, true, true, true, true, true, true, true, true, true, true, true, true, false] rfl rfl (any_of HT_.out (by kernel_rfl)) (fun _ _ _ h => h) (Or.inr ⟨by rfl, rfl⟩) ?_ ?_
            rotate_left
            · simp only [Act.put, List.setIfInBounds_toArray, List.set_cons_zero, List.set_cons_succ, i64_w, i32_w]
              rfl
            refine pure_ (i := 19) (N := some 52) (v := ?_) (a' := ?_) #[true, true, true, true, true, true, true, true, true, true, true, true, true, true, true, true, true, true, true, true] rfl rfl (any_of HT_.out (by kernel_rfl)) (fun _ _ _ h => h) (Or.inl ⟨by rfl, ?_⟩) ?_ ?_
            rotate_left
            · intro w'
              go_simp
              first | with_reducible rfl | (rw [dif_pos (And.intro (of_decide_eq_true (by assumption)) (of_decide_eq_true (by assumption)))]; simp only [bt_at]; rfl)
            rotate_left
            · simp only [Act.put, List.setIfInBounds_toArray, List.set_cons_zero, List.set_cons_succ, i64_w, i32_w]
              rfl
            refine done_ (done_of HT_.out (by kernel_rfl)) ?_
            try go_wp2
            go_meet
            case rel => exact ⟨_, (false), (by first | rfl | (simp; done) | (simp [*]; done)), H', ⟨by have := HJ3.out; first | omega | exact Nat.le_refl _⟩, ⟨by repeat (first | (with_reducible first | exact HB.out | apply below_alloc | apply pw_below_drewN | apply below_drew1) | exact HB.out | exact HBo.out)⟩⟩
        case rest =>
          clear HC13
          try clear c1
          try clear c2
          try clear p2
          try clear c11
          try clear c14
          try clear c14b0
          try clear c14b1
          try clear c15
          try clear c15b0
          try clear c17
          try clear c17b0
          try clear c20
          try clear c20b0
          try clear c20b1
          try clear c21
          try clear c21b0
          try clear c21b1
          obtain ⟨kq, x52_12, rfl, HA, HJ12, HB⟩ := hcut
          cases kq with
          | zero => exact absurd HA.out (by simp [shuttlecocklaw01_VarintBack.j1])
          | succ kj12 =>
            have H := HA.out
            clear HA
            simp only [shuttlecocklaw01_VarintBack.j1] at H
            by_cases c25 : x52_12 = true
            · subst c25
              have H1 : (some false) = some r := by rw [if_pos rfl] at H; exact H
              clear H
              have H := H1
              clear H1
              obtain rfl := Option.some.inj H
              go_wp2
              go_ret
              exact ⟨by first | rfl | (simp [errW_none, errW_some] <;> rfl) | (simp [*, errW_none, errW_some] <;> rfl) | (simp [Aid.ne_nil, Aid.eq_nil, errW_none, errW_some]; done), by repeat (first | (with_reducible first | exact HB.out | apply below_alloc | apply pw_below_drewN | apply below_drew1) | exact HB.out | exact HBo.out)⟩
            · replace c25 := Bool.eq_false_iff.mpr c25
              subst c25
              have H1 : ((varint_Put.f kj12 a0).bind fun t152 => ((varint_Put.f kj12 a1).bind fun t153 => (if t152.toList = ([] : List UInt8) then (shuttlecocklaw01_VarintBack.j2 kj12 a0 a1 a2 t152 t153 true) else (shuttlecocklaw01_VarintBack.j2 kj12 a0 a1 a2 t152 t153 (t153.toList == ([] : List UInt8)))))) = some r := by rw [if_neg (show ¬ (false = true) by decide)] at H; exact H
              clear H
              have H := H1
              clear H1
              replace H := Option.bind_eq_some_iff.mp H
              obtain ⟨t152, A260, H⟩ := H
              replace H : ((varint_Put.f kj12 a1).bind fun t153 => (if t152.toList = ([] : List UInt8) then (shuttlecocklaw01_VarintBack.j2 kj12 a0 a1 a2 t152 t153 true) else (shuttlecocklaw01_VarintBack.j2 kj12 a0 a1 a2 t152 t153 (t153.toList == ([] : List UInt8))))) = some r := H
              have A26 := Aside0.mk A260
              clear A260
              replace H := Option.bind_eq_some_iff.mp H
              obtain ⟨t153, A270, H⟩ := H
              replace H : (if t152.toList = ([] : List UInt8) then (shuttlecocklaw01_VarintBack.j2 kj12 a0 a1 a2 t152 t153 true) else (shuttlecocklaw01_VarintBack.j2 kj12 a0 a1 a2 t152 t153 (t153.toList == ([] : List UInt8)))) = some r := H
              have A27 := Aside0.mk A270
              clear A270
              have HC28 := Aside0.mk H
              clear H
              go_upto_region 7 with (first | ((with_reducible refine gate_callee (f := 11) rfl ?_); refine goesL_ (some 54) rfl rfl Try.func11 (by kernel_rfl) rfl #[.int .i64 a0] rfl (by (try simp only [List.map_toArray, List.map_cons, List.map_nil]); first | done | rfl | (simp only [List.length_drop, List.length_take]; rfl)) ?_; (with_reducible refine (varint_Put.calls kj12 a0 t152 _ A26.out).mono ?_); rintro e w29 ⟨rfl, hb⟩; refine ⟨_, rfl, ?_⟩; have n0_ := Aside0.mk (below_step (by repeat (first | (with_reducible first | exact HB.out | apply below_alloc | apply pw_below_drewN | apply below_drew1) | exact HB.out | exact HBo.out)) hb); clear HB; have HB := n0_; clear n0_; (try clear hb); (try clear hb2); (try clear hk); (try clear hi)) | ((with_reducible refine gate_callee (f := 11) rfl ?_); refine goesL_ (some 56) rfl rfl Try.func11 (by kernel_rfl) rfl #[.int .i64 a1] rfl (by (try simp only [List.map_toArray, List.map_cons, List.map_nil]); first | done | rfl | (simp only [List.length_drop, List.length_take]; rfl)) ?_; (with_reducible refine (varint_Put.calls kj12 a1 t153 _ A27.out).mono ?_); rintro e w30 ⟨rfl, hb⟩; refine ⟨_, rfl, ?_⟩; have n0_ := Aside0.mk (below_step (by repeat (first | (with_reducible first | exact HB.out | apply below_alloc | apply pw_below_drewN | apply below_drew1) | exact HB.out | exact HBo.out)) hb); clear HB; have HB := n0_; clear n0_; (try clear hb); (try clear hb2); (try clear hk); (try clear hi)))
              (try simp only [Act.put, List.setIfInBounds_toArray, List.set_cons_zero, List.set_cons_succ])
              go_cut [62] (fun v62 wc => ∃ (kq : Nat) (x62_27 : Bool), v62 = .bool x62_27 ∧ Aside0 (shuttlecocklaw01_VarintBack.j2 kq a0 a1 a2 t152 t153 x62_27 = some r) ∧ Aside0 (kq ≤ kj12) ∧ Aside0 (Below w.heap.size w wc))
              case first =>
                have H := HC28.out
                clear HC28
                by_cases c31 : t152.toList = ([] : List UInt8)
                · rw [if_pos c31] at H
                  have c31b0 : (t152.toList == ([] : List UInt8)) = true := beq_iff_eq.mpr c31
                  have c31b1 : (t152.toList != ([] : List UInt8)) = false := bne_eq_false_iff_eq.mpr c31
                  clear c31
                  (first | rw [c31b0] | (simp only [i64_w, i32_w]; rw [c31b0]) | skip)
                  have H' := Aside0.mk H
                  clear H
                  go_wp2
                  go_meet
                  case rel => exact ⟨_, (true), (by first | rfl | (simp; done) | (simp [*]; done)), H', ⟨by have := HJ3.out; have := HJ12.out; first | omega | exact Nat.le_refl _⟩, ⟨by repeat (first | (with_reducible first | exact HB.out | apply below_alloc | apply pw_below_drewN | apply below_drew1) | exact HB.out | exact HBo.out)⟩⟩
                · rw [if_neg c31] at H
                  have c31b0 : (t152.toList == ([] : List UInt8)) = false := beq_eq_false_iff_ne.mpr c31
                  have c31b1 : (t152.toList != ([] : List UInt8)) = true := bne_iff_ne.mpr c31
                  (first | rw [c31b0] | (simp only [i64_w, i32_w]; rw [c31b0]) | skip)
                  have H' := Aside0.mk H
                  clear H
                  go_wp2
                  go_meet
                  case rel => exact ⟨_, ((t153.toList == ([] : List UInt8))), (by first | rfl | (simp; done) | (simp [*]; done)), H', ⟨by have := HJ3.out; have := HJ12.out; first | omega | exact Nat.le_refl _⟩, ⟨by repeat (first | (with_reducible first | exact HB.out | apply below_alloc | apply pw_below_drewN | apply below_drew1) | exact HB.out | exact HBo.out)⟩⟩
              case rest =>
                clear HC28
                try clear c1
                try clear c2
                try clear p2
                try clear c3
                try clear c11
                try clear c14
                try clear c14b0
                try clear c14b1
                try clear c15
                try clear c15b0
                try clear c17
                try clear c17b0
                try clear c20
                try clear c20b0
                try clear c20b1
                try clear c21
                try clear c21b0
                try clear c21b1
                try clear c25
                try clear c31
                try clear c31b0
                try clear c31b1
                try clear p2
                obtain ⟨kq, x62_27, rfl, HA, HJ27, HB⟩ := hcut
                cases kq with
                | zero => exact absurd HA.out (by simp [shuttlecocklaw01_VarintBack.j2])
                | succ kj27 =>
                  have H := HA.out
                  clear HA
                  simp only [shuttlecocklaw01_VarintBack.j2] at H
                  by_cases c32 : x62_27 = true
                  · subst c32
                    have H1 : (if a0 < 0 then (if a1 < 0 then (some true) else (if a1 ≥ 4611686018427387904 then (some true) else (some (t153.toList != ([] : List UInt8))))) else (if a0 ≥ 4611686018427387904 then (if a1 < 0 then (some true) else (if a1 ≥ 4611686018427387904 then (some true) else (some (t153.toList != ([] : List UInt8))))) else (if t152.toList = ([] : List UInt8) then (some false) else (if a1 < 0 then (some true) else (if a1 ≥ 4611686018427387904 then (some true) else (some (t153.toList != ([] : List UInt8)))))))) = some r := by rw [if_pos rfl] at H; exact H
                    clear H
                    have H := H1
                    clear H1
                    by_cases c33 : a0 < 0
                    · rw [if_pos c33] at H
                      have c33b0 : decide (a0 < 0) = true := decide_eq_true c33
                      clear c33
                      by_cases c34 : a1 < 0
                      · rw [if_pos c34] at H
                        have c34b0 : decide (a1 < 0) = true := decide_eq_true c34
                        clear c34
                        obtain rfl := Option.some.inj H
                        go_wp2
                        go_ret
                        exact ⟨by first | rfl | (simp [errW_none, errW_some] <;> rfl) | (simp [*, errW_none, errW_some] <;> rfl) | (simp [Aid.ne_nil, Aid.eq_nil, errW_none, errW_some]; done), by repeat (first | (with_reducible first | exact HB.out | apply below_alloc | apply pw_below_drewN | apply below_drew1) | exact HB.out | exact HBo.out)⟩
                      · rw [if_neg c34] at H
                        have c34b0 : decide (a1 < 0) = false := decide_eq_false c34
                        clear c34
                        by_cases c35 : a1 ≥ 4611686018427387904
                        · rw [if_pos c35] at H
                          have c35b0 : decide (4611686018427387904 ≤ a1) = true := decide_eq_true c35
                          clear c35
                          obtain rfl := Option.some.inj H
                          go_wp2
                          go_ret
                          exact ⟨by first | rfl | (simp [errW_none, errW_some] <;> rfl) | (simp [*, errW_none, errW_some] <;> rfl) | (simp [Aid.ne_nil, Aid.eq_nil, errW_none, errW_some]; done), by repeat (first | (with_reducible first | exact HB.out | apply below_alloc | apply pw_below_drewN | apply below_drew1) | exact HB.out | exact HBo.out)⟩
                        · rw [if_neg c35] at H
                          have c35b0 : decide (4611686018427387904 ≤ a1) = false := decide_eq_false c35
                          clear c35
                          obtain rfl := Option.some.inj H
                          go_wp2
                          go_ret
                          exact ⟨by first | rfl | (simp [errW_none, errW_some] <;> rfl) | (simp [*, errW_none, errW_some] <;> rfl) | (simp [Aid.ne_nil, Aid.eq_nil, errW_none, errW_some]; done), by repeat (first | (with_reducible first | exact HB.out | apply below_alloc | apply pw_below_drewN | apply below_drew1) | exact HB.out | exact HBo.out)⟩
                    · rw [if_neg c33] at H
                      have c33b0 : decide (a0 < 0) = false := decide_eq_false c33
                      clear c33
                      by_cases c36 : a0 ≥ 4611686018427387904
                      · rw [if_pos c36] at H
                        have c36b0 : decide (4611686018427387904 ≤ a0) = true := decide_eq_true c36
                        clear c36
                        by_cases c37 : a1 < 0
                        · rw [if_pos c37] at H
                          have c37b0 : decide (a1 < 0) = true := decide_eq_true c37
                          clear c37
                          obtain rfl := Option.some.inj H
                          go_wp2
                          go_ret
                          exact ⟨by first | rfl | (simp [errW_none, errW_some] <;> rfl) | (simp [*, errW_none, errW_some] <;> rfl) | (simp [Aid.ne_nil, Aid.eq_nil, errW_none, errW_some]; done), by repeat (first | (with_reducible first | exact HB.out | apply below_alloc | apply pw_below_drewN | apply below_drew1) | exact HB.out | exact HBo.out)⟩
                        · rw [if_neg c37] at H
                          have c37b0 : decide (a1 < 0) = false := decide_eq_false c37
                          clear c37
                          by_cases c38 : a1 ≥ 4611686018427387904
                          · rw [if_pos c38] at H
                            have c38b0 : decide (4611686018427387904 ≤ a1) = true := decide_eq_true c38
                            clear c38
                            obtain rfl := Option.some.inj H
                            go_wp2
                            go_ret
                            exact ⟨by first | rfl | (simp [errW_none, errW_some] <;> rfl) | (simp [*, errW_none, errW_some] <;> rfl) | (simp [Aid.ne_nil, Aid.eq_nil, errW_none, errW_some]; done), by repeat (first | (with_reducible first | exact HB.out | apply below_alloc | apply pw_below_drewN | apply below_drew1) | exact HB.out | exact HBo.out)⟩
                          · rw [if_neg c38] at H
                            have c38b0 : decide (4611686018427387904 ≤ a1) = false := decide_eq_false c38
                            clear c38
                            obtain rfl := Option.some.inj H
                            go_wp2
                            go_ret
                            exact ⟨by first | rfl | (simp [errW_none, errW_some] <;> rfl) | (simp [*, errW_none, errW_some] <;> rfl) | (simp [Aid.ne_nil, Aid.eq_nil, errW_none, errW_some]; done), by repeat (first | (with_reducible first | exact HB.out | apply below_alloc | apply pw_below_drewN | apply below_drew1) | exact HB.out | exact HBo.out)⟩
                      · rw [if_neg c36] at H
                        have c36b0 : decide (4611686018427387904 ≤ a0) = false := decide_eq_false c36
                        clear c36
                        by_cases c39 : t152.toList = ([] : List UInt8)
                        · rw [if_pos c39] at H
                          have c39b0 : (t152.toList == ([] : List UInt8)) = true := beq_iff_eq.mpr c39
                          have c39b1 : (t152.toList != ([] : List UInt8)) = false := bne_eq_false_iff_eq.mpr c39
                          clear c39
                          obtain rfl := Option.some.inj H
                          go_wp2
                          go_ret
                          exact ⟨by first | rfl | (simp [errW_none, errW_some] <;> rfl) | (simp [*, errW_none, errW_some] <;> rfl) | (simp [Aid.ne_nil, Aid.eq_nil, errW_none, errW_some]; done), by repeat (first | (with_reducible first | exact HB.out | apply below_alloc | apply pw_below_drewN | apply below_drew1) | exact HB.out | exact HBo.out)⟩
                        · rw [if_neg c39] at H
                          have c39b0 : (t152.toList == ([] : List UInt8)) = false := beq_eq_false_iff_ne.mpr c39
                          have c39b1 : (t152.toList != ([] : List UInt8)) = true := bne_iff_ne.mpr c39
                          by_cases c40 : a1 < 0
                          · rw [if_pos c40] at H
                            have c40b0 : decide (a1 < 0) = true := decide_eq_true c40
                            clear c40
                            obtain rfl := Option.some.inj H
                            go_wp2
                            go_ret
                            exact ⟨by first | rfl | (simp [errW_none, errW_some] <;> rfl) | (simp [*, errW_none, errW_some] <;> rfl) | (simp [Aid.ne_nil, Aid.eq_nil, errW_none, errW_some]; done), by repeat (first | (with_reducible first | exact HB.out | apply below_alloc | apply pw_below_drewN | apply below_drew1) | exact HB.out | exact HBo.out)⟩
                          · rw [if_neg c40] at H
                            have c40b0 : decide (a1 < 0) = false := decide_eq_false c40
                            clear c40
                            by_cases c41 : a1 ≥ 4611686018427387904
                            · rw [if_pos c41] at H
                              have c41b0 : decide (4611686018427387904 ≤ a1) = true := decide_eq_true c41
                              clear c41
                              obtain rfl := Option.some.inj H
                              go_wp2
                              go_ret
                              exact ⟨by first | rfl | (simp [errW_none, errW_some] <;> rfl) | (simp [*, errW_none, errW_some] <;> rfl) | (simp [Aid.ne_nil, Aid.eq_nil, errW_none, errW_some]; done), by repeat (first | (with_reducible first | exact HB.out | apply below_alloc | apply pw_below_drewN | apply below_drew1) | exact HB.out | exact HBo.out)⟩
                            · rw [if_neg c41] at H
                              have c41b0 : decide (4611686018427387904 ≤ a1) = false := decide_eq_false c41
                              clear c41
                              obtain rfl := Option.some.inj H
                              go_wp2
                              go_ret
                              exact ⟨by first | rfl | (simp [errW_none, errW_some] <;> rfl) | (simp [*, errW_none, errW_some] <;> rfl) | (simp [Aid.ne_nil, Aid.eq_nil, errW_none, errW_some]; done), by repeat (first | (with_reducible first | exact HB.out | apply below_alloc | apply pw_below_drewN | apply below_drew1) | exact HB.out | exact HBo.out)⟩
                  · replace c32 := Bool.eq_false_iff.mpr c32
                    subst c32
                    have H1 : (if a2.size + t152.size ≤ 9223372036854775807 then (if (a2 ++ t152).size + t153.size ≤ 9223372036854775807 then ((varint_Take.f kj27 ((a2 ++ t152) ++ t153) (a2.size : Int)).bind fun bt154 => ((varint_Take.f kj27 ((a2 ++ t152) ++ t153) bt154.2.1).bind fun bt157 => (if (t152.size : Int) ≤ (t153.size : Int) then (if 0 ≤ (t152.size : Int) then (if bt154.2.2 = 0 then (if bt154.1 = a0 then (if bt154.2.1 = (wrap64 ((a2.size : Int) + (t152.size : Int))) then (if bt157.2.2 = 0 then (if bt157.1 = a1 then (if bt157.2.1 = (wrap64 (bt154.2.1 + (t153.size : Int))) then (some (((t153.extract 0 ((t152.size : Int) : Int).toNat).toList == t152.toList) == (a0 == a1))) else (some false)) else (some false)) else (some false)) else (some false)) else (some false)) else (some false)) else (none)) else (if bt154.2.2 = 0 then (if bt154.1 = a0 then (if bt154.2.1 = (wrap64 ((a2.size : Int) + (t152.size : Int))) then (if bt157.2.2 = 0 then (if bt157.1 = a1 then (if bt157.2.1 = (wrap64 (bt154.2.1 + (t153.size : Int))) then (some (false == (a0 == a1))) else (some false)) else (some false)) else (some false)) else (some false)) else (some false)) else (some false))))) else (none)) else (none)) = some r := by rw [if_neg (show ¬ (false = true) by decide)] at H; exact H
                    clear H
                    have H := H1
                    clear H1
                    by_cases c42 : a2.size + t152.size ≤ 9223372036854775807
                    · rw [if_pos c42] at H
                      have c42b0 := eq_true c42
                      have c42b1 : decide (a2.size + t152.size ≤ 9223372036854775807) = true := decide_eq_true c42
                      try have c42b2 : (9223372036854775807 < a2.size + t152.size) = False := eq_false (Nat.not_lt.2 c42)
                      by_cases c43 : (a2 ++ t152).size + t153.size ≤ 9223372036854775807
                      · rw [if_pos c43] at H
                        have c43b0 := eq_true c43
                        have c43b1 : decide ((a2 ++ t152).size + t153.size ≤ 9223372036854775807) = true := decide_eq_true c43
                        try have c43b2 : (9223372036854775807 < (a2 ++ t152).size + t153.size) = False := eq_false (Nat.not_lt.2 c43)
                        replace H := Option.bind_eq_some_iff.mp H
                        obtain ⟨⟨t154, t155, t156⟩, A440, H⟩ := H
                        replace H : ((varint_Take.f kj27 ((a2 ++ t152) ++ t153) t155).bind fun bt157 => (if (t152.size : Int) ≤ (t153.size : Int) then (if 0 ≤ (t152.size : Int) then (if t156 = 0 then (if t154 = a0 then (if t155 = (wrap64 ((a2.size : Int) + (t152.size : Int))) then (if bt157.2.2 = 0 then (if bt157.1 = a1 then (if bt157.2.1 = (wrap64 (t155 + (t153.size : Int))) then (some (((t153.extract 0 ((t152.size : Int) : Int).toNat).toList == t152.toList) == (a0 == a1))) else (some false)) else (some false)) else (some false)) else (some false)) else (some false)) else (some false)) else (none)) else (if t156 = 0 then (if t154 = a0 then (if t155 = (wrap64 ((a2.size : Int) + (t152.size : Int))) then (if bt157.2.2 = 0 then (if bt157.1 = a1 then (if bt157.2.1 = (wrap64 (t155 + (t153.size : Int))) then (some (false == (a0 == a1))) else (some false)) else (some false)) else (some false)) else (some false)) else (some false)) else (some false)))) = some r := H
                        have A44 := Aside0.mk A440
                        clear A440
                        replace H := Option.bind_eq_some_iff.mp H
                        obtain ⟨⟨t157, t158, t159⟩, A450, H⟩ := H
                        replace H : (if (t152.size : Int) ≤ (t153.size : Int) then (if 0 ≤ (t152.size : Int) then (if t156 = 0 then (if t154 = a0 then (if t155 = (wrap64 ((a2.size : Int) + (t152.size : Int))) then (if t159 = 0 then (if t157 = a1 then (if t158 = (wrap64 (t155 + (t153.size : Int))) then (some (((t153.extract 0 ((t152.size : Int) : Int).toNat).toList == t152.toList) == (a0 == a1))) else (some false)) else (some false)) else (some false)) else (some false)) else (some false)) else (some false)) else (none)) else (if t156 = 0 then (if t154 = a0 then (if t155 = (wrap64 ((a2.size : Int) + (t152.size : Int))) then (if t159 = 0 then (if t157 = a1 then (if t158 = (wrap64 (t155 + (t153.size : Int))) then (some (false == (a0 == a1))) else (some false)) else (some false)) else (some false)) else (some false)) else (some false)) else (some false))) = some r := H
                        have A45 := Aside0.mk A450
                        clear A450
                        by_cases c46 : (t152.size : Int) ≤ (t153.size : Int)
                        · rw [if_pos c46] at H
                          have c46b0 : decide ((t152.size : Int) ≤ (t153.size : Int)) = true := decide_eq_true c46
                          have c46b1 : decide (t152.size ≤ t153.size) = true := decide_eq_true (Int.ofNat_le.mp c46)
                          clear c46
                          by_cases c47 : 0 ≤ (t152.size : Int)
                          · rw [if_pos c47] at H
                            have c47b0 := eq_true c47
                            have c47b1 : decide (0 ≤ (t152.size : Int)) = true := decide_eq_true c47
                            clear c47
                            have c48b0 := eq_true (of_decide_eq_true (by first | (with_reducible assumption) | assumption) : (t152.size : Int) ≤ (t153.size : Int))
                            by_cases c49 : t156 = 0
                            · rw [if_pos c49] at H
                              have c49b0 : (t156 == 0) = true := beq_iff_eq.mpr c49
                              have c49b1 : (t156 != 0) = false := bne_eq_false_iff_eq.mpr c49
                              clear c49
                              by_cases c50 : t154 = a0
                              · rw [if_pos c50] at H
                                have c50b0 : (t154 == a0) = true := beq_iff_eq.mpr c50
                                have c50b1 : (t154 != a0) = false := bne_eq_false_iff_eq.mpr c50
                                clear c50
                                by_cases c51 : t155 = (wrap64 ((a2.size : Int) + (t152.size : Int)))
                                · rw [if_pos c51] at H
                                  have c51b0 : (t155 == (wrap64 ((a2.size : Int) + (t152.size : Int)))) = true := beq_iff_eq.mpr c51
                                  have c51b1 : (t155 != (wrap64 ((a2.size : Int) + (t152.size : Int)))) = false := bne_eq_false_iff_eq.mpr c51
                                  rw [show wrap64 ((a2.size : Int) + (t152.size : Int)) = (a2.size : Int) + (t152.size : Int) from by have q2_ : a2.size + t152.size ≤ 9223372036854775807 := of_decide_eq_true c42b1; unfold wrap64; omega] at c51b0 c51b1
                                  clear c51
                                  by_cases c52 : t159 = 0
                                  · rw [if_pos c52] at H
                                    have c52b0 : (t159 == 0) = true := beq_iff_eq.mpr c52
                                    have c52b1 : (t159 != 0) = false := bne_eq_false_iff_eq.mpr c52
                                    clear c52
                                    by_cases c53 : t157 = a1
                                    · rw [if_pos c53] at H
                                      have c53b0 : (t157 == a1) = true := beq_iff_eq.mpr c53
                                      have c53b1 : (t157 != a1) = false := bne_eq_false_iff_eq.mpr c53
                                      clear c53
                                      by_cases c54 : t158 = (wrap64 (t155 + (t153.size : Int)))
                                      · rw [if_pos c54] at H
                                        have c54b0 : (t158 == (wrap64 (t155 + (t153.size : Int)))) = true := beq_iff_eq.mpr c54
                                        have c54b1 : (t158 != (wrap64 (t155 + (t153.size : Int)))) = false := bne_eq_false_iff_eq.mpr c54
                                        clear c54
                                        obtain rfl := Option.some.inj H
                                        go_wp2_with (first | ((with_reducible refine gate_callee (f := 9) rfl ?_); refine goesL_ (some 93) rfl rfl Try.func9 (by kernel_rfl) rfl #[.string ((a2 ++ t152) ++ t153), .int .i64 (a2.size : Int)] rfl (by (try simp only [List.map_toArray, List.map_cons, List.map_nil]); first | done | rfl | (simp only [List.length_drop, List.length_take]; rfl)) ?_; (with_reducible refine (varint_Take.calls kj27 ((a2 ++ t152) ++ t153) (a2.size : Int) t154 t155 t156 _ A44.out).mono ?_); rintro e w' ⟨rfl, ⟨nd, rfl⟩⟩; refine ⟨_, rfl, ?_⟩) | ((with_reducible refine gate_callee (f := 9) rfl ?_); refine goesL_ (some 104) rfl rfl Try.func9 (by kernel_rfl) rfl #[.string ((a2 ++ t152) ++ t153), .int .i64 t155] rfl (by (try simp only [List.map_toArray, List.map_cons, List.map_nil]); first | done | rfl | (simp only [List.length_drop, List.length_take]; rfl)) ?_; (with_reducible refine (varint_Take.calls kj27 ((a2 ++ t152) ++ t153) t155 t157 t158 t159 _ A45.out).mono ?_); rintro e w' ⟨rfl, ⟨nd, rfl⟩⟩; refine ⟨_, rfl, ?_⟩))
                                        go_ret
                                        exact ⟨by first | rfl | (simp [errW_none, errW_some] <;> rfl) | (simp [*, errW_none, errW_some] <;> rfl) | (simp [Aid.ne_nil, Aid.eq_nil, errW_none, errW_some]; done), by repeat (first | (with_reducible first | exact HB.out | apply below_alloc | apply pw_below_drewN | apply below_drew1) | exact HB.out | exact HBo.out)⟩
                                      · rw [if_neg c54] at H
                                        have c54b0 : (t158 == (wrap64 (t155 + (t153.size : Int)))) = false := beq_eq_false_iff_ne.mpr c54
                                        have c54b1 : (t158 != (wrap64 (t155 + (t153.size : Int)))) = true := bne_iff_ne.mpr c54
                                        obtain rfl := Option.some.inj H
                                        go_wp2_with (first | ((with_reducible refine gate_callee (f := 9) rfl ?_); refine goesL_ (some 93) rfl rfl Try.func9 (by kernel_rfl) rfl #[.string ((a2 ++ t152) ++ t153), .int .i64 (a2.size : Int)] rfl (by (try simp only [List.map_toArray, List.map_cons, List.map_nil]); first | done | rfl | (simp only [List.length_drop, List.length_take]; rfl)) ?_; (with_reducible refine (varint_Take.calls kj27 ((a2 ++ t152) ++ t153) (a2.size : Int) t154 t155 t156 _ A44.out).mono ?_); rintro e w' ⟨rfl, ⟨nd, rfl⟩⟩; refine ⟨_, rfl, ?_⟩) | ((with_reducible refine gate_callee (f := 9) rfl ?_); refine goesL_ (some 104) rfl rfl Try.func9 (by kernel_rfl) rfl #[.string ((a2 ++ t152) ++ t153), .int .i64 t155] rfl (by (try simp only [List.map_toArray, List.map_cons, List.map_nil]); first | done | rfl | (simp only [List.length_drop, List.length_take]; rfl)) ?_; (with_reducible refine (varint_Take.calls kj27 ((a2 ++ t152) ++ t153) t155 t157 t158 t159 _ A45.out).mono ?_); rintro e w' ⟨rfl, ⟨nd, rfl⟩⟩; refine ⟨_, rfl, ?_⟩))
                                        go_ret
                                        exact ⟨by first | rfl | (simp [errW_none, errW_some] <;> rfl) | (simp [*, errW_none, errW_some] <;> rfl) | (simp [Aid.ne_nil, Aid.eq_nil, errW_none, errW_some]; done), by repeat (first | (with_reducible first | exact HB.out | apply below_alloc | apply pw_below_drewN | apply below_drew1) | exact HB.out | exact HBo.out)⟩
                                    · rw [if_neg c53] at H
                                      have c53b0 : (t157 == a1) = false := beq_eq_false_iff_ne.mpr c53
                                      have c53b1 : (t157 != a1) = true := bne_iff_ne.mpr c53
                                      obtain rfl := Option.some.inj H
                                      go_wp2_with (first | ((with_reducible refine gate_callee (f := 9) rfl ?_); refine goesL_ (some 93) rfl rfl Try.func9 (by kernel_rfl) rfl #[.string ((a2 ++ t152) ++ t153), .int .i64 (a2.size : Int)] rfl (by (try simp only [List.map_toArray, List.map_cons, List.map_nil]); first | done | rfl | (simp only [List.length_drop, List.length_take]; rfl)) ?_; (with_reducible refine (varint_Take.calls kj27 ((a2 ++ t152) ++ t153) (a2.size : Int) t154 t155 t156 _ A44.out).mono ?_); rintro e w' ⟨rfl, ⟨nd, rfl⟩⟩; refine ⟨_, rfl, ?_⟩) | ((with_reducible refine gate_callee (f := 9) rfl ?_); refine goesL_ (some 104) rfl rfl Try.func9 (by kernel_rfl) rfl #[.string ((a2 ++ t152) ++ t153), .int .i64 t155] rfl (by (try simp only [List.map_toArray, List.map_cons, List.map_nil]); first | done | rfl | (simp only [List.length_drop, List.length_take]; rfl)) ?_; (with_reducible refine (varint_Take.calls kj27 ((a2 ++ t152) ++ t153) t155 t157 t158 t159 _ A45.out).mono ?_); rintro e w' ⟨rfl, ⟨nd, rfl⟩⟩; refine ⟨_, rfl, ?_⟩))
                                      go_ret
                                      exact ⟨by first | rfl | (simp [errW_none, errW_some] <;> rfl) | (simp [*, errW_none, errW_some] <;> rfl) | (simp [Aid.ne_nil, Aid.eq_nil, errW_none, errW_some]; done), by repeat (first | (with_reducible first | exact HB.out | apply below_alloc | apply pw_below_drewN | apply below_drew1) | exact HB.out | exact HBo.out)⟩
                                  · rw [if_neg c52] at H
                                    have c52b0 : (t159 == 0) = false := beq_eq_false_iff_ne.mpr c52
                                    have c52b1 : (t159 != 0) = true := bne_iff_ne.mpr c52
                                    obtain rfl := Option.some.inj H
                                    go_wp2_with (first | ((with_reducible refine gate_callee (f := 9) rfl ?_); refine goesL_ (some 93) rfl rfl Try.func9 (by kernel_rfl) rfl #[.string ((a2 ++ t152) ++ t153), .int .i64 (a2.size : Int)] rfl (by (try simp only [List.map_toArray, List.map_cons, List.map_nil]); first | done | rfl | (simp only [List.length_drop, List.length_take]; rfl)) ?_; (with_reducible refine (varint_Take.calls kj27 ((a2 ++ t152) ++ t153) (a2.size : Int) t154 t155 t156 _ A44.out).mono ?_); rintro e w' ⟨rfl, ⟨nd, rfl⟩⟩; refine ⟨_, rfl, ?_⟩) | ((with_reducible refine gate_callee (f := 9) rfl ?_); refine goesL_ (some 104) rfl rfl Try.func9 (by kernel_rfl) rfl #[.string ((a2 ++ t152) ++ t153), .int .i64 t155] rfl (by (try simp only [List.map_toArray, List.map_cons, List.map_nil]); first | done | rfl | (simp only [List.length_drop, List.length_take]; rfl)) ?_; (with_reducible refine (varint_Take.calls kj27 ((a2 ++ t152) ++ t153) t155 t157 t158 t159 _ A45.out).mono ?_); rintro e w' ⟨rfl, ⟨nd, rfl⟩⟩; refine ⟨_, rfl, ?_⟩))
                                    go_ret
                                    exact ⟨by first | rfl | (simp [errW_none, errW_some] <;> rfl) | (simp [*, errW_none, errW_some] <;> rfl) | (simp [Aid.ne_nil, Aid.eq_nil, errW_none, errW_some]; done), by repeat (first | (with_reducible first | exact HB.out | apply below_alloc | apply pw_below_drewN | apply below_drew1) | exact HB.out | exact HBo.out)⟩
                                · rw [if_neg c51] at H
                                  have c51b0 : (t155 == (wrap64 ((a2.size : Int) + (t152.size : Int)))) = false := beq_eq_false_iff_ne.mpr c51
                                  have c51b1 : (t155 != (wrap64 ((a2.size : Int) + (t152.size : Int)))) = true := bne_iff_ne.mpr c51
                                  rw [show wrap64 ((a2.size : Int) + (t152.size : Int)) = (a2.size : Int) + (t152.size : Int) from by have q2_ : a2.size + t152.size ≤ 9223372036854775807 := of_decide_eq_true c42b1; unfold wrap64; omega] at c51b0 c51b1
                                  obtain rfl := Option.some.inj H
                                  go_wp2_with (first | ((with_reducible refine gate_callee (f := 9) rfl ?_); refine goesL_ (some 93) rfl rfl Try.func9 (by kernel_rfl) rfl #[.string ((a2 ++ t152) ++ t153), .int .i64 (a2.size : Int)] rfl (by (try simp only [List.map_toArray, List.map_cons, List.map_nil]); first | done | rfl | (simp only [List.length_drop, List.length_take]; rfl)) ?_; (with_reducible refine (varint_Take.calls kj27 ((a2 ++ t152) ++ t153) (a2.size : Int) t154 t155 t156 _ A44.out).mono ?_); rintro e w' ⟨rfl, ⟨nd, rfl⟩⟩; refine ⟨_, rfl, ?_⟩) | ((with_reducible refine gate_callee (f := 9) rfl ?_); refine goesL_ (some 104) rfl rfl Try.func9 (by kernel_rfl) rfl #[.string ((a2 ++ t152) ++ t153), .int .i64 t155] rfl (by (try simp only [List.map_toArray, List.map_cons, List.map_nil]); first | done | rfl | (simp only [List.length_drop, List.length_take]; rfl)) ?_; (with_reducible refine (varint_Take.calls kj27 ((a2 ++ t152) ++ t153) t155 t157 t158 t159 _ A45.out).mono ?_); rintro e w' ⟨rfl, ⟨nd, rfl⟩⟩; refine ⟨_, rfl, ?_⟩))
                                  go_ret
                                  exact ⟨by first | rfl | (simp [errW_none, errW_some] <;> rfl) | (simp [*, errW_none, errW_some] <;> rfl) | (simp [Aid.ne_nil, Aid.eq_nil, errW_none, errW_some]; done), by repeat (first | (with_reducible first | exact HB.out | apply below_alloc | apply pw_below_drewN | apply below_drew1) | exact HB.out | exact HBo.out)⟩
                              · rw [if_neg c50] at H
                                have c50b0 : (t154 == a0) = false := beq_eq_false_iff_ne.mpr c50
                                have c50b1 : (t154 != a0) = true := bne_iff_ne.mpr c50
                                obtain rfl := Option.some.inj H
                                go_wp2_with (first | ((with_reducible refine gate_callee (f := 9) rfl ?_); refine goesL_ (some 93) rfl rfl Try.func9 (by kernel_rfl) rfl #[.string ((a2 ++ t152) ++ t153), .int .i64 (a2.size : Int)] rfl (by (try simp only [List.map_toArray, List.map_cons, List.map_nil]); first | done | rfl | (simp only [List.length_drop, List.length_take]; rfl)) ?_; (with_reducible refine (varint_Take.calls kj27 ((a2 ++ t152) ++ t153) (a2.size : Int) t154 t155 t156 _ A44.out).mono ?_); rintro e w' ⟨rfl, ⟨nd, rfl⟩⟩; refine ⟨_, rfl, ?_⟩) | ((with_reducible refine gate_callee (f := 9) rfl ?_); refine goesL_ (some 104) rfl rfl Try.func9 (by kernel_rfl) rfl #[.string ((a2 ++ t152) ++ t153), .int .i64 t155] rfl (by (try simp only [List.map_toArray, List.map_cons, List.map_nil]); first | done | rfl | (simp only [List.length_drop, List.length_take]; rfl)) ?_; (with_reducible refine (varint_Take.calls kj27 ((a2 ++ t152) ++ t153) t155 t157 t158 t159 _ A45.out).mono ?_); rintro e w' ⟨rfl, ⟨nd, rfl⟩⟩; refine ⟨_, rfl, ?_⟩))
                                go_ret
                                exact ⟨by first | rfl | (simp [errW_none, errW_some] <;> rfl) | (simp [*, errW_none, errW_some] <;> rfl) | (simp [Aid.ne_nil, Aid.eq_nil, errW_none, errW_some]; done), by repeat (first | (with_reducible first | exact HB.out | apply below_alloc | apply pw_below_drewN | apply below_drew1) | exact HB.out | exact HBo.out)⟩
                            · rw [if_neg c49] at H
                              have c49b0 : (t156 == 0) = false := beq_eq_false_iff_ne.mpr c49
                              have c49b1 : (t156 != 0) = true := bne_iff_ne.mpr c49
                              obtain rfl := Option.some.inj H
                              go_wp2_with (first | ((with_reducible refine gate_callee (f := 9) rfl ?_); refine goesL_ (some 93) rfl rfl Try.func9 (by kernel_rfl) rfl #[.string ((a2 ++ t152) ++ t153), .int .i64 (a2.size : Int)] rfl (by (try simp only [List.map_toArray, List.map_cons, List.map_nil]); first | done | rfl | (simp only [List.length_drop, List.length_take]; rfl)) ?_; (with_reducible refine (varint_Take.calls kj27 ((a2 ++ t152) ++ t153) (a2.size : Int) t154 t155 t156 _ A44.out).mono ?_); rintro e w' ⟨rfl, ⟨nd, rfl⟩⟩; refine ⟨_, rfl, ?_⟩) | ((with_reducible refine gate_callee (f := 9) rfl ?_); refine goesL_ (some 104) rfl rfl Try.func9 (by kernel_rfl) rfl #[.string ((a2 ++ t152) ++ t153), .int .i64 t155] rfl (by (try simp only [List.map_toArray, List.map_cons, List.map_nil]); first | done | rfl | (simp only [List.length_drop, List.length_take]; rfl)) ?_; (with_reducible refine (varint_Take.calls kj27 ((a2 ++ t152) ++ t153) t155 t157 t158 t159 _ A45.out).mono ?_); rintro e w' ⟨rfl, ⟨nd, rfl⟩⟩; refine ⟨_, rfl, ?_⟩))
                              go_ret
                              exact ⟨by first | rfl | (simp [errW_none, errW_some] <;> rfl) | (simp [*, errW_none, errW_some] <;> rfl) | (simp [Aid.ne_nil, Aid.eq_nil, errW_none, errW_some]; done), by repeat (first | (with_reducible first | exact HB.out | apply below_alloc | apply pw_below_drewN | apply below_drew1) | exact HB.out | exact HBo.out)⟩
                          · rw [if_neg c47] at H
                            exact absurd H (by simp)
                        · rw [if_neg c46] at H
                          have c46b0 : decide ((t152.size : Int) ≤ (t153.size : Int)) = false := decide_eq_false c46
                          have c46b1 : decide (t152.size ≤ t153.size) = false := decide_eq_false (fun h => c46 (Int.ofNat_le.mpr h))
                          clear c46
                          by_cases c55 : t156 = 0
                          · rw [if_pos c55] at H
                            have c55b0 : (t156 == 0) = true := beq_iff_eq.mpr c55
                            have c55b1 : (t156 != 0) = false := bne_eq_false_iff_eq.mpr c55
                            clear c55
                            by_cases c56 : t154 = a0
                            · rw [if_pos c56] at H
                              have c56b0 : (t154 == a0) = true := beq_iff_eq.mpr c56
                              have c56b1 : (t154 != a0) = false := bne_eq_false_iff_eq.mpr c56
                              clear c56
                              by_cases c57 : t155 = (wrap64 ((a2.size : Int) + (t152.size : Int)))
                              · rw [if_pos c57] at H
                                have c57b0 : (t155 == (wrap64 ((a2.size : Int) + (t152.size : Int)))) = true := beq_iff_eq.mpr c57
                                have c57b1 : (t155 != (wrap64 ((a2.size : Int) + (t152.size : Int)))) = false := bne_eq_false_iff_eq.mpr c57
                                rw [show wrap64 ((a2.size : Int) + (t152.size : Int)) = (a2.size : Int) + (t152.size : Int) from by have q2_ : a2.size + t152.size ≤ 9223372036854775807 := of_decide_eq_true c42b1; unfold wrap64; omega] at c57b0 c57b1
                                clear c57
                                by_cases c58 : t159 = 0
                                · rw [if_pos c58] at H
                                  have c58b0 : (t159 == 0) = true := beq_iff_eq.mpr c58
                                  have c58b1 : (t159 != 0) = false := bne_eq_false_iff_eq.mpr c58
                                  clear c58
                                  by_cases c59 : t157 = a1
                                  · rw [if_pos c59] at H
                                    have c59b0 : (t157 == a1) = true := beq_iff_eq.mpr c59
                                    have c59b1 : (t157 != a1) = false := bne_eq_false_iff_eq.mpr c59
                                    clear c59
                                    by_cases c60 : t158 = (wrap64 (t155 + (t153.size : Int)))
                                    · rw [if_pos c60] at H
                                      have c60b0 : (t158 == (wrap64 (t155 + (t153.size : Int)))) = true := beq_iff_eq.mpr c60
                                      have c60b1 : (t158 != (wrap64 (t155 + (t153.size : Int)))) = false := bne_eq_false_iff_eq.mpr c60
                                      clear c60
                                      obtain rfl := Option.some.inj H
                                      go_wp2_with (first | ((with_reducible refine gate_callee (f := 9) rfl ?_); refine goesL_ (some 93) rfl rfl Try.func9 (by kernel_rfl) rfl #[.string ((a2 ++ t152) ++ t153), .int .i64 (a2.size : Int)] rfl (by (try simp only [List.map_toArray, List.map_cons, List.map_nil]); first | done | rfl | (simp only [List.length_drop, List.length_take]; rfl)) ?_; (with_reducible refine (varint_Take.calls kj27 ((a2 ++ t152) ++ t153) (a2.size : Int) t154 t155 t156 _ A44.out).mono ?_); rintro e w' ⟨rfl, ⟨nd, rfl⟩⟩; refine ⟨_, rfl, ?_⟩) | ((with_reducible refine gate_callee (f := 9) rfl ?_); refine goesL_ (some 104) rfl rfl Try.func9 (by kernel_rfl) rfl #[.string ((a2 ++ t152) ++ t153), .int .i64 t155] rfl (by (try simp only [List.map_toArray, List.map_cons, List.map_nil]); first | done | rfl | (simp only [List.length_drop, List.length_take]; rfl)) ?_; (with_reducible refine (varint_Take.calls kj27 ((a2 ++ t152) ++ t153) t155 t157 t158 t159 _ A45.out).mono ?_); rintro e w' ⟨rfl, ⟨nd, rfl⟩⟩; refine ⟨_, rfl, ?_⟩))
                                      go_ret
                                      exact ⟨by first | rfl | (simp [errW_none, errW_some] <;> rfl) | (simp [*, errW_none, errW_some] <;> rfl) | (simp [Aid.ne_nil, Aid.eq_nil, errW_none, errW_some]; done), by repeat (first | (with_reducible first | exact HB.out | apply below_alloc | apply pw_below_drewN | apply below_drew1) | exact HB.out | exact HBo.out)⟩
                                    · rw [if_neg c60] at H
                                      have c60b0 : (t158 == (wrap64 (t155 + (t153.size : Int)))) = false := beq_eq_false_iff_ne.mpr c60
                                      have c60b1 : (t158 != (wrap64 (t155 + (t153.size : Int)))) = true := bne_iff_ne.mpr c60
                                      obtain rfl := Option.some.inj H
                                      go_wp2_with (first | ((with_reducible refine gate_callee (f := 9) rfl ?_); refine goesL_ (some 93) rfl rfl Try.func9 (by kernel_rfl) rfl #[.string ((a2 ++ t152) ++ t153), .int .i64 (a2.size : Int)] rfl (by (try simp only [List.map_toArray, List.map_cons, List.map_nil]); first | done | rfl | (simp only [List.length_drop, List.length_take]; rfl)) ?_; (with_reducible refine (varint_Take.calls kj27 ((a2 ++ t152) ++ t153) (a2.size : Int) t154 t155 t156 _ A44.out).mono ?_); rintro e w' ⟨rfl, ⟨nd, rfl⟩⟩; refine ⟨_, rfl, ?_⟩) | ((with_reducible refine gate_callee (f := 9) rfl ?_); refine goesL_ (some 104) rfl rfl Try.func9 (by kernel_rfl) rfl #[.string ((a2 ++ t152) ++ t153), .int .i64 t155] rfl (by (try simp only [List.map_toArray, List.map_cons, List.map_nil]); first | done | rfl | (simp only [List.length_drop, List.length_take]; rfl)) ?_; (with_reducible refine (varint_Take.calls kj27 ((a2 ++ t152) ++ t153) t155 t157 t158 t159 _ A45.out).mono ?_); rintro e w' ⟨rfl, ⟨nd, rfl⟩⟩; refine ⟨_, rfl, ?_⟩))
                                      go_ret
                                      exact ⟨by first | rfl | (simp [errW_none, errW_some] <;> rfl) | (simp [*, errW_none, errW_some] <;> rfl) | (simp [Aid.ne_nil, Aid.eq_nil, errW_none, errW_some]; done), by repeat (first | (with_reducible first | exact HB.out | apply below_alloc | apply pw_below_drewN | apply below_drew1) | exact HB.out | exact HBo.out)⟩
                                  · rw [if_neg c59] at H
                                    have c59b0 : (t157 == a1) = false := beq_eq_false_iff_ne.mpr c59
                                    have c59b1 : (t157 != a1) = true := bne_iff_ne.mpr c59
                                    obtain rfl := Option.some.inj H
                                    go_wp2_with (first | ((with_reducible refine gate_callee (f := 9) rfl ?_); refine goesL_ (some 93) rfl rfl Try.func9 (by kernel_rfl) rfl #[.string ((a2 ++ t152) ++ t153), .int .i64 (a2.size : Int)] rfl (by (try simp only [List.map_toArray, List.map_cons, List.map_nil]); first | done | rfl | (simp only [List.length_drop, List.length_take]; rfl)) ?_; (with_reducible refine (varint_Take.calls kj27 ((a2 ++ t152) ++ t153) (a2.size : Int) t154 t155 t156 _ A44.out).mono ?_); rintro e w' ⟨rfl, ⟨nd, rfl⟩⟩; refine ⟨_, rfl, ?_⟩) | ((with_reducible refine gate_callee (f := 9) rfl ?_); refine goesL_ (some 104) rfl rfl Try.func9 (by kernel_rfl) rfl #[.string ((a2 ++ t152) ++ t153), .int .i64 t155] rfl (by (try simp only [List.map_toArray, List.map_cons, List.map_nil]); first | done | rfl | (simp only [List.length_drop, List.length_take]; rfl)) ?_; (with_reducible refine (varint_Take.calls kj27 ((a2 ++ t152) ++ t153) t155 t157 t158 t159 _ A45.out).mono ?_); rintro e w' ⟨rfl, ⟨nd, rfl⟩⟩; refine ⟨_, rfl, ?_⟩))
                                    go_ret
                                    exact ⟨by first | rfl | (simp [errW_none, errW_some] <;> rfl) | (simp [*, errW_none, errW_some] <;> rfl) | (simp [Aid.ne_nil, Aid.eq_nil, errW_none, errW_some]; done), by repeat (first | (with_reducible first | exact HB.out | apply below_alloc | apply pw_below_drewN | apply below_drew1) | exact HB.out | exact HBo.out)⟩
                                · rw [if_neg c58] at H
                                  have c58b0 : (t159 == 0) = false := beq_eq_false_iff_ne.mpr c58
                                  have c58b1 : (t159 != 0) = true := bne_iff_ne.mpr c58
                                  obtain rfl := Option.some.inj H
                                  go_wp2_with (first | ((with_reducible refine gate_callee (f := 9) rfl ?_); refine goesL_ (some 93) rfl rfl Try.func9 (by kernel_rfl) rfl #[.string ((a2 ++ t152) ++ t153), .int .i64 (a2.size : Int)] rfl (by (try simp only [List.map_toArray, List.map_cons, List.map_nil]); first | done | rfl | (simp only [List.length_drop, List.length_take]; rfl)) ?_; (with_reducible refine (varint_Take.calls kj27 ((a2 ++ t152) ++ t153) (a2.size : Int) t154 t155 t156 _ A44.out).mono ?_); rintro e w' ⟨rfl, ⟨nd, rfl⟩⟩; refine ⟨_, rfl, ?_⟩) | ((with_reducible refine gate_callee (f := 9) rfl ?_); refine goesL_ (some 104) rfl rfl Try.func9 (by kernel_rfl) rfl #[.string ((a2 ++ t152) ++ t153), .int .i64 t155] rfl (by (try simp only [List.map_toArray, List.map_cons, List.map_nil]); first | done | rfl | (simp only [List.length_drop, List.length_take]; rfl)) ?_; (with_reducible refine (varint_Take.calls kj27 ((a2 ++ t152) ++ t153) t155 t157 t158 t159 _ A45.out).mono ?_); rintro e w' ⟨rfl, ⟨nd, rfl⟩⟩; refine ⟨_, rfl, ?_⟩))
                                  go_ret
                                  exact ⟨by first | rfl | (simp [errW_none, errW_some] <;> rfl) | (simp [*, errW_none, errW_some] <;> rfl) | (simp [Aid.ne_nil, Aid.eq_nil, errW_none, errW_some]; done), by repeat (first | (with_reducible first | exact HB.out | apply below_alloc | apply pw_below_drewN | apply below_drew1) | exact HB.out | exact HBo.out)⟩
                              · rw [if_neg c57] at H
                                have c57b0 : (t155 == (wrap64 ((a2.size : Int) + (t152.size : Int)))) = false := beq_eq_false_iff_ne.mpr c57
                                have c57b1 : (t155 != (wrap64 ((a2.size : Int) + (t152.size : Int)))) = true := bne_iff_ne.mpr c57
                                rw [show wrap64 ((a2.size : Int) + (t152.size : Int)) = (a2.size : Int) + (t152.size : Int) from by have q2_ : a2.size + t152.size ≤ 9223372036854775807 := of_decide_eq_true c42b1; unfold wrap64; omega] at c57b0 c57b1
                                obtain rfl := Option.some.inj H
                                go_wp2_with (first | ((with_reducible refine gate_callee (f := 9) rfl ?_); refine goesL_ (some 93) rfl rfl Try.func9 (by kernel_rfl) rfl #[.string ((a2 ++ t152) ++ t153), .int .i64 (a2.size : Int)] rfl (by (try simp only [List.map_toArray, List.map_cons, List.map_nil]); first | done | rfl | (simp only [List.length_drop, List.length_take]; rfl)) ?_; (with_reducible refine (varint_Take.calls kj27 ((a2 ++ t152) ++ t153) (a2.size : Int) t154 t155 t156 _ A44.out).mono ?_); rintro e w' ⟨rfl, ⟨nd, rfl⟩⟩; refine ⟨_, rfl, ?_⟩) | ((with_reducible refine gate_callee (f := 9) rfl ?_); refine goesL_ (some 104) rfl rfl Try.func9 (by kernel_rfl) rfl #[.string ((a2 ++ t152) ++ t153), .int .i64 t155] rfl (by (try simp only [List.map_toArray, List.map_cons, List.map_nil]); first | done | rfl | (simp only [List.length_drop, List.length_take]; rfl)) ?_; (with_reducible refine (varint_Take.calls kj27 ((a2 ++ t152) ++ t153) t155 t157 t158 t159 _ A45.out).mono ?_); rintro e w' ⟨rfl, ⟨nd, rfl⟩⟩; refine ⟨_, rfl, ?_⟩))
                                go_ret
                                exact ⟨by first | rfl | (simp [errW_none, errW_some] <;> rfl) | (simp [*, errW_none, errW_some] <;> rfl) | (simp [Aid.ne_nil, Aid.eq_nil, errW_none, errW_some]; done), by repeat (first | (with_reducible first | exact HB.out | apply below_alloc | apply pw_below_drewN | apply below_drew1) | exact HB.out | exact HBo.out)⟩
                            · rw [if_neg c56] at H
                              have c56b0 : (t154 == a0) = false := beq_eq_false_iff_ne.mpr c56
                              have c56b1 : (t154 != a0) = true := bne_iff_ne.mpr c56
                              obtain rfl := Option.some.inj H
                              go_wp2_with (first | ((with_reducible refine gate_callee (f := 9) rfl ?_); refine goesL_ (some 93) rfl rfl Try.func9 (by kernel_rfl) rfl #[.string ((a2 ++ t152) ++ t153), .int .i64 (a2.size : Int)] rfl (by (try simp only [List.map_toArray, List.map_cons, List.map_nil]); first | done | rfl | (simp only [List.length_drop, List.length_take]; rfl)) ?_; (with_reducible refine (varint_Take.calls kj27 ((a2 ++ t152) ++ t153) (a2.size : Int) t154 t155 t156 _ A44.out).mono ?_); rintro e w' ⟨rfl, ⟨nd, rfl⟩⟩; refine ⟨_, rfl, ?_⟩) | ((with_reducible refine gate_callee (f := 9) rfl ?_); refine goesL_ (some 104) rfl rfl Try.func9 (by kernel_rfl) rfl #[.string ((a2 ++ t152) ++ t153), .int .i64 t155] rfl (by (try simp only [List.map_toArray, List.map_cons, List.map_nil]); first | done | rfl | (simp only [List.length_drop, List.length_take]; rfl)) ?_; (with_reducible refine (varint_Take.calls kj27 ((a2 ++ t152) ++ t153) t155 t157 t158 t159 _ A45.out).mono ?_); rintro e w' ⟨rfl, ⟨nd, rfl⟩⟩; refine ⟨_, rfl, ?_⟩))
                              go_ret
                              exact ⟨by first | rfl | (simp [errW_none, errW_some] <;> rfl) | (simp [*, errW_none, errW_some] <;> rfl) | (simp [Aid.ne_nil, Aid.eq_nil, errW_none, errW_some]; done), by repeat (first | (with_reducible first | exact HB.out | apply below_alloc | apply pw_below_drewN | apply below_drew1) | exact HB.out | exact HBo.out)⟩
                          · rw [if_neg c55] at H
                            have c55b0 : (t156 == 0) = false := beq_eq_false_iff_ne.mpr c55
                            have c55b1 : (t156 != 0) = true := bne_iff_ne.mpr c55
                            obtain rfl := Option.some.inj H
                            go_wp2_with (first | ((with_reducible refine gate_callee (f := 9) rfl ?_); refine goesL_ (some 93) rfl rfl Try.func9 (by kernel_rfl) rfl #[.string ((a2 ++ t152) ++ t153), .int .i64 (a2.size : Int)] rfl (by (try simp only [List.map_toArray, List.map_cons, List.map_nil]); first | done | rfl | (simp only [List.length_drop, List.length_take]; rfl)) ?_; (with_reducible refine (varint_Take.calls kj27 ((a2 ++ t152) ++ t153) (a2.size : Int) t154 t155 t156 _ A44.out).mono ?_); rintro e w' ⟨rfl, ⟨nd, rfl⟩⟩; refine ⟨_, rfl, ?_⟩) | ((with_reducible refine gate_callee (f := 9) rfl ?_); refine goesL_ (some 104) rfl rfl Try.func9 (by kernel_rfl) rfl #[.string ((a2 ++ t152) ++ t153), .int .i64 t155] rfl (by (try simp only [List.map_toArray, List.map_cons, List.map_nil]); first | done | rfl | (simp only [List.length_drop, List.length_take]; rfl)) ?_; (with_reducible refine (varint_Take.calls kj27 ((a2 ++ t152) ++ t153) t155 t157 t158 t159 _ A45.out).mono ?_); rintro e w' ⟨rfl, ⟨nd, rfl⟩⟩; refine ⟨_, rfl, ?_⟩))
                            go_ret
                            exact ⟨by first | rfl | (simp [errW_none, errW_some] <;> rfl) | (simp [*, errW_none, errW_some] <;> rfl) | (simp [Aid.ne_nil, Aid.eq_nil, errW_none, errW_some]; done), by repeat (first | (with_reducible first | exact HB.out | apply below_alloc | apply pw_below_drewN | apply below_drew1) | exact HB.out | exact HBo.out)⟩
                      · rw [if_neg c43] at H
                        exact absurd H (by simp)
                    · rw [if_neg c42] at H
                      exact absurd H (by simp)

/-- THE ONE PURE STATEMENT of shuttlecocklaw01_VarintBack: yours. -/
def shuttlecocklaw01_VarintBack.Pure : Prop := ∀ (a0 : Int) (a1 : Int) (a2 : ByteArray), (Lit.int .i64 a0).wf = true → (Lit.int .i64 a1).wf = true → a2.size ≤ 140737488351232 → ∃ k, shuttlecocklaw01_VarintBack.f k a0 a1 a2 = some true
theorem shuttlecocklaw01_VarintBack.walk (P : shuttlecocklaw01_VarintBack.Pure) (a0 : Int) (a1 : Int) (a2 : ByteArray) (w : World) (w0 : (Lit.int .i64 a0).wf = true) (w1 : (Lit.int .i64 a1).wf = true) (w2 : a2.size ≤ 140737488351232) :
    Calls Try.prog 4 #[.int .i64 a0, .int .i64 a1, .string a2] w fun e w' => e = .returned (.bool true) ∧ Below w.heap.size w w' := by
  obtain ⟨k, h⟩ := P a0 a1 a2 w0 w1 w2
  refine (shuttlecocklaw01_VarintBack.calls k a0 a1 a2 true w h).mono ?_
  rintro e w' ⟨rfl, hd⟩
  exact ⟨rfl, hd⟩

end Go.Proofs.Ytcnbddcofgolmaa.Q
