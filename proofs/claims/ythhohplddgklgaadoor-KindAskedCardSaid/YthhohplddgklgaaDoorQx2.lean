-- printed by a program of this session (NOTES: hprint); not the kit's print
import Derived.Test.YthhohplddgklgaaDoorQx0
import Derived.Test.YthhohplddgklgaaDoorQx1
namespace Go.Proofs.YthhohplddgklgaaDoor.Q
open Go.RowKit Go.Proofs.YthhohplddgklgaaDoorW.PrintWords Go.Proofs.YthhohplddgklgaaDoorW.PrintLast Go.Proofs.YthhohplddgklgaaDoorW.PrintMore
attribute [local go_sem] max2_int min2_int max_two min_two max_three min_three max_four min_four   -- for this text's walks alone
set_option linter.unusedVariables false
set_option linter.unusedSimpArgs false

/-! ### shuttlecockref03_Of: function 18 -/
mutual
def shuttlecockref03_Of.l0 : Nat → ByteArray → Int → Option (Int)
  | 0, _, _ => none
  | k + 1, x0, x3 => if x3 < 256 then (shuttlecockref03_Of.j1 k x0 x3 (x0.toList != ([] : List UInt8))) else (shuttlecockref03_Of.j1 k x0 x3 false)
def shuttlecockref03_Of.j1 : Nat → ByteArray → Int → Bool → Option (Int)
  | 0, _, _, _ => none
  | k + 1, x0, x3, x9 => if x9 = true then ((shuttlecockref03_Name.f k x3).bind fun t133 => (if t133.toList = x0.toList then (some x3) else (shuttlecockref03_Of.l0 k x0 (wrap64 (x3 + 1))))) else (some 0)
end
def shuttlecockref03_Of.f (k : Nat) (a0 : ByteArray) : Option (Int) := shuttlecockref03_Of.l0 k a0 1
theorem shuttlecockref03_Of.mono_l : ∀ k, (∀ y0 y1, LeO (shuttlecockref03_Of.l0 k y0 y1) (shuttlecockref03_Of.l0 (k + 1) y0 y1)) ∧ (∀ y0 y1 y2, LeO (shuttlecockref03_Of.j1 k y0 y1 y2) (shuttlecockref03_Of.j1 (k + 1) y0 y1 y2))
  | 0 => ⟨fun _ _ r h => by simp [shuttlecockref03_Of.l0] at h, fun _ _ _ r h => by simp [shuttlecockref03_Of.j1] at h⟩
  | k + 1 => by
    obtain ⟨ih0, ih1⟩ := shuttlecockref03_Of.mono_l k
    refine ⟨?_, ?_⟩
    · intro y0 y1
      unfold shuttlecockref03_Of.l0
      repeat' first
      | (with_reducible exact ih0 _ _)
      | (with_reducible exact ih1 _ _ _)
      | (with_reducible exact shuttlecockref03_Name.mono _ _)
      | (with_reducible exact LeO.refl _)
      | (with_reducible exact LeO.none _)
      | (with_reducible refine LeO.ite ?_ ?_)
      | (with_reducible refine LeO.bind ?_ (fun _ => ?_))
      | exact ih0 _ _
      | exact ih1 _ _ _
      | exact shuttlecockref03_Name.mono _ _
      | exact LeO.none _
      | refine LeO.ite ?_ ?_
      | refine LeO.bind ?_ (fun _ => ?_)
    · intro y0 y1 y2
      unfold shuttlecockref03_Of.j1
      repeat' first
      | (with_reducible exact ih0 _ _)
      | (with_reducible exact ih1 _ _ _)
      | (with_reducible exact shuttlecockref03_Name.mono _ _)
      | (with_reducible exact LeO.refl _)
      | (with_reducible exact LeO.none _)
      | (with_reducible refine LeO.ite ?_ ?_)
      | (with_reducible refine LeO.bind ?_ (fun _ => ?_))
      | exact ih0 _ _
      | exact ih1 _ _ _
      | exact shuttlecockref03_Name.mono _ _
      | exact LeO.none _
      | refine LeO.ite ?_ ?_
      | refine LeO.bind ?_ (fun _ => ?_)
theorem shuttlecockref03_Of.mono : ∀ a0 k, LeO (shuttlecockref03_Of.f k a0) (shuttlecockref03_Of.f (k + 1) a0) := by
  intro a0 k
  obtain ⟨ih0, ih1⟩ := shuttlecockref03_Of.mono_l k
  unfold shuttlecockref03_Of.f
  repeat' first
      | (with_reducible exact ih0 _ _)
      | (with_reducible exact ih1 _ _ _)
      | (with_reducible exact shuttlecockref03_Name.mono _ _)
      | (with_reducible exact LeO.refl _)
      | (with_reducible exact LeO.none _)
      | (with_reducible refine LeO.ite ?_ ?_)
      | (with_reducible refine LeO.bind ?_ (fun _ => ?_))
      | exact ih0 _ _
      | exact ih1 _ _ _
      | exact shuttlecockref03_Name.mono _ _
      | exact LeO.none _
      | refine LeO.ite ?_ ?_
      | refine LeO.bind ?_ (fun _ => ?_)
set_option maxHeartbeats 8000000 in
set_option maxRecDepth 100000 in
theorem shuttlecockref03_Of.calls (k : Nat) (a0 : ByteArray) (r : Int) (w : World) (h : shuttlecockref03_Of.f k a0 = some r) :
    Calls Tryd.prog 18 #[.string a0] w fun e w' => e = .returned (.int .i64 r) ∧ Below w.heap.size w w' := by
  have HB := Aside0.mk (Below.refl w.heap.size w)
  have H : (shuttlecockref03_Of.l0 k a0 1) = some r := h
  clear h
  have H' := Aside0.mk H
  clear H
  go_enter Tryd.func18, Tryd.ntmps18
  go_wp2
  go_loopg [3] k (fun kq v3 w' => ∃ (x3_1 : Int), v3 = .int .i64 x3_1 ∧ Aside0 (shuttlecockref03_Of.l0 kq a0 x3_1 = some r) ∧ Aside0 (kq ≤ k) ∧ Aside0 (Below w.heap.size w w'))
  case atStart => exact ⟨(1), (by first | rfl | (simp; done) | (simp [*]; done) | (simp; generalize ByteArray.toList _ = l_; cases l_ <;> rfl)), H', ⟨Nat.le_refl _⟩, ⟨by repeat (first | (with_reducible first | exact HB.out | apply below_alloc | apply pw_below_drewN | apply below_drew1) | exact HB.out | exact HBo.out)⟩⟩
  case round =>
    clear H'
    try clear c1
    obtain ⟨x3_1, rfl, HA, HK1, HB⟩ := hrel
    cases gk with
    | zero => exact absurd HA.out (by simp [shuttlecockref03_Of.l0])
    | succ k1 =>
      have H := HA.out
      clear HA
      simp only [shuttlecockref03_Of.l0] at H
      have HC2 := Aside0.mk H
      clear H
      go_upto_region 2 with (fail)
      go_cut [9] (fun v9 wc => ∃ (kq : Nat) (x9_1 : Bool), v9 = .bool x9_1 ∧ Aside0 (shuttlecockref03_Of.j1 kq a0 x3_1 x9_1 = some r) ∧ Aside0 (kq ≤ k1) ∧ Aside0 (Below w.heap.size w wc))
      case first =>
        have H := HC2.out
        clear HC2
        by_cases c3 : x3_1 < 256
        · rw [if_pos c3] at H
          have c3b0 : decide (x3_1 < 256) = true := decide_eq_true c3
          clear c3
          (first | rw [c3b0] | (simp only [i64_w, i32_w]; rw [c3b0]) | skip)
          have H' := Aside0.mk H
          clear H
          go_wp2
          go_meet
          case rel => exact ⟨_, ((a0.toList != ([] : List UInt8))), (by first | rfl | (simp; done) | (simp [*]; done) | (simp; generalize ByteArray.toList _ = l_; cases l_ <;> rfl)), H', ⟨by have := HK1.out; first | omega | exact Nat.le_refl _⟩, ⟨by repeat (first | (with_reducible first | exact HB.out | apply below_alloc | apply pw_below_drewN | apply below_drew1) | exact HB.out | exact HBo.out)⟩⟩
        · rw [if_neg c3] at H
          have c3b0 : decide (x3_1 < 256) = false := decide_eq_false c3
          clear c3
          (first | rw [c3b0] | (simp only [i64_w, i32_w]; rw [c3b0]) | skip)
          have H' := Aside0.mk H
          clear H
          go_wp2
          go_meet
          case rel => exact ⟨_, (false), (by first | rfl | (simp; done) | (simp [*]; done) | (simp; generalize ByteArray.toList _ = l_; cases l_ <;> rfl)), H', ⟨by have := HK1.out; first | omega | exact Nat.le_refl _⟩, ⟨by repeat (first | (with_reducible first | exact HB.out | apply below_alloc | apply pw_below_drewN | apply below_drew1) | exact HB.out | exact HBo.out)⟩⟩
      case rest =>
        clear HC2
        try clear c1
        try clear p2
        try clear c3
        try clear c3b0
        obtain ⟨kq, x9_1, rfl, HA, HJ1, HB⟩ := hcut
        cases kq with
        | zero => exact absurd HA.out (by simp [shuttlecockref03_Of.j1])
        | succ kj1 =>
          have H := HA.out
          clear HA
          simp only [shuttlecockref03_Of.j1] at H
          by_cases c4 : x9_1 = true
          · subst c4
            have H1 : ((shuttlecockref03_Name.f kj1 x3_1).bind fun t133 => (if t133.toList = a0.toList then (some x3_1) else (shuttlecockref03_Of.l0 kj1 a0 (wrap64 (x3_1 + 1))))) = some r := by rw [if_pos rfl] at H; exact H
            clear H
            have H := H1
            clear H1
            replace H := Option.bind_eq_some_iff.mp H
            obtain ⟨t133, A50, H⟩ := H
            replace H : (if t133.toList = a0.toList then (some x3_1) else (shuttlecockref03_Of.l0 kj1 a0 (wrap64 (x3_1 + 1)))) = some r := H
            have A5 := Aside0.mk A50
            clear A50
            by_cases c6 : t133.toList = a0.toList
            · rw [if_pos c6] at H
              have c6b0 : (t133.toList == a0.toList) = true := beq_iff_eq.mpr c6
              have c6b1 : (t133.toList != a0.toList) = false := bne_eq_false_iff_eq.mpr c6
              clear c6
              obtain rfl := Option.some.inj H
              go_wp2_with (first | ((with_reducible refine gate_callee (f := 9) rfl ?_); refine goesL_ (some 13) rfl rfl Tryd.func9 (by kernel_rfl) rfl #[.int .i64 x3_1] rfl (by (try simp only [List.map_toArray, List.map_cons, List.map_nil]); first | done | rfl | (simp only [List.length_drop, List.length_take]; rfl)) ?_; (with_reducible refine (shuttlecockref03_Name.calls kj1 x3_1 t133 _ A5.out).mono ?_); rintro e w7 ⟨rfl, hb⟩; refine ⟨_, rfl, ?_⟩; have n0_ := Aside0.mk (below_step (by repeat (first | (with_reducible first | exact HB.out | apply below_alloc | apply pw_below_drewN | apply below_drew1) | exact HB.out | exact HBo.out)) hb); clear HB; have HB := n0_; clear n0_; (try clear hb); (try clear hb2); (try clear hk); (try clear hi)))
              go_ret
              exact ⟨by first | rfl | (simp [errW_none, errW_some] <;> rfl) | (simp [*, errW_none, errW_some] <;> rfl) | (simp [Aid.ne_nil, Aid.eq_nil, errW_none, errW_some]; done), by repeat (first | (with_reducible first | exact HB.out | apply below_alloc | apply pw_below_drewN | apply below_drew1) | exact HB.out | exact HBo.out)⟩
            · rw [if_neg c6] at H
              have c6b0 : (t133.toList == a0.toList) = false := beq_eq_false_iff_ne.mpr c6
              have c6b1 : (t133.toList != a0.toList) = true := bne_iff_ne.mpr c6
              have H' := Aside0.mk H
              clear H
              go_wp2_with (first | ((with_reducible refine gate_callee (f := 9) rfl ?_); refine goesL_ (some 13) rfl rfl Tryd.func9 (by kernel_rfl) rfl #[.int .i64 x3_1] rfl (by (try simp only [List.map_toArray, List.map_cons, List.map_nil]); first | done | rfl | (simp only [List.length_drop, List.length_take]; rfl)) ?_; (with_reducible refine (shuttlecockref03_Name.calls kj1 x3_1 t133 _ A5.out).mono ?_); rintro e w8 ⟨rfl, hb⟩; refine ⟨_, rfl, ?_⟩; have n0_ := Aside0.mk (below_step (by repeat (first | (with_reducible first | exact HB.out | apply below_alloc | apply pw_below_drewN | apply below_drew1) | exact HB.out | exact HBo.out)) hb); clear HB; have HB := n0_; clear n0_; (try clear hb); (try clear hb2); (try clear hk); (try clear hi)))
              go_roundg kj1
              case measure => have := HK1.out; have := HJ1.out; omega
              case rel => exact ⟨(wrap64 (x3_1 + 1)), (by first | rfl | (simp; done) | (simp [*]; done) | (simp; generalize ByteArray.toList _ = l_; cases l_ <;> rfl)), H', ⟨by have := HK1.out; have := HJ1.out; omega⟩, ⟨by repeat (first | (with_reducible first | exact HB.out | apply below_alloc | apply pw_below_drewN | apply below_drew1) | exact HB.out | exact HBo.out)⟩⟩
          · replace c4 := Bool.eq_false_iff.mpr c4
            subst c4
            have H1 : (some 0) = some r := by rw [if_neg (show ¬ (false = true) by decide)] at H; exact H
            clear H
            have H := H1
            clear H1
            obtain rfl := Option.some.inj H
            go_wp2
            go_ret
            exact ⟨by first | rfl | (simp [errW_none, errW_some] <;> rfl) | (simp [*, errW_none, errW_some] <;> rfl) | (simp [Aid.ne_nil, Aid.eq_nil, errW_none, errW_some]; done), by repeat (first | (with_reducible first | exact HB.out | apply below_alloc | apply pw_below_drewN | apply below_drew1) | exact HB.out | exact HBo.out)⟩

/-! ### shuttlecocklaw03_KindTells: function 3 -/
def shuttlecocklaw03_KindTells.f (k : Nat) (a0 : Int) (a1 : ByteArray) : Option (Bool) := if (a1.size : Int) > 100 then ((shuttlecocklaw03_fixed.f).bind fun t134 => (some t134)) else ((shuttlecocklaw03_fixed.f).bind fun t135 => (if t135 = true then ((kind_Name.f a0).bind fun t136 => ((shuttlecockref03_Name.f k a0).bind fun t137 => (if t136.toList = t137.toList then ((kind_Args.f a0).bind fun t138 => ((shuttlecockref03_Args.f k a0).bind fun t141 => ((shuttlecockref01_Ints.f k t138 t141).bind fun t144 => (if t144 = true then ((kind_Known.f a0).bind fun t145 => ((shuttlecockref03_Known.f a0).bind fun t146 => (if (t145 == t146) = true then ((kind_Exp.f a0).bind fun t147 => ((shuttlecockref03_Exp.f a0).bind fun t148 => (if (t147 == t148) = true then ((kind_Of.f a1).bind fun t149 => ((shuttlecockref03_Of.f k a1).bind fun t150 => (some (t149 == t150)))) else (none)))) else (none)))) else (none))))) else (none)))) else (none)))
theorem shuttlecocklaw03_KindTells.mono : ∀ a0 a1 k, LeO (shuttlecocklaw03_KindTells.f k a0 a1) (shuttlecocklaw03_KindTells.f (k + 1) a0 a1) := by
  intro a0 a1 k
  unfold shuttlecocklaw03_KindTells.f
  repeat' first
      | (with_reducible exact shuttlecockref01_Ints.mono _ _ _)
      | (with_reducible exact shuttlecockref03_Args.mono _ _)
      | (with_reducible exact shuttlecockref03_Name.mono _ _)
      | (with_reducible exact shuttlecockref03_Of.mono _ _)
      | (with_reducible exact LeO.refl _)
      | (with_reducible exact LeO.none _)
      | (with_reducible refine LeO.ite ?_ ?_)
      | (with_reducible refine LeO.bind ?_ (fun _ => ?_))
      | exact shuttlecockref01_Ints.mono _ _ _
      | exact shuttlecockref03_Args.mono _ _
      | exact shuttlecockref03_Name.mono _ _
      | exact shuttlecockref03_Of.mono _ _
      | exact LeO.none _
      | refine LeO.ite ?_ ?_
      | refine LeO.bind ?_ (fun _ => ?_)
set_option maxHeartbeats 8000000 in
set_option maxRecDepth 100000 in
theorem shuttlecocklaw03_KindTells.calls (k : Nat) (a0 : Int) (a1 : ByteArray) (r : Bool) (w : World) (hV : Kind.Vars w) (h : shuttlecocklaw03_KindTells.f k a0 a1 = some r) :
    Calls Tryd.prog 3 #[.int .i64 a0, .string a1] w fun e w' => e = .returned (.bool r) ∧ Below w.heap.size w w' := by
  have HV := Aside0.mk hV
  clear hV
  have HB := Aside0.mk (Below.refl w.heap.size w)
  have H : (if (a1.size : Int) > 100 then ((shuttlecocklaw03_fixed.f).bind fun t134 => (some t134)) else ((shuttlecocklaw03_fixed.f).bind fun t135 => (if t135 = true then ((kind_Name.f a0).bind fun t136 => ((shuttlecockref03_Name.f k a0).bind fun t137 => (if t136.toList = t137.toList then ((kind_Args.f a0).bind fun t138 => ((shuttlecockref03_Args.f k a0).bind fun t141 => ((shuttlecockref01_Ints.f k t138 t141).bind fun t144 => (if t144 = true then ((kind_Known.f a0).bind fun t145 => ((shuttlecockref03_Known.f a0).bind fun t146 => (if (t145 == t146) = true then ((kind_Exp.f a0).bind fun t147 => ((shuttlecockref03_Exp.f a0).bind fun t148 => (if (t147 == t148) = true then ((kind_Of.f a1).bind fun t149 => ((shuttlecockref03_Of.f k a1).bind fun t150 => (some (t149 == t150)))) else (none)))) else (none)))) else (none))))) else (none)))) else (none)))) = some r := h
  clear h
  by_cases c3 : (a1.size : Int) > 100
  · rw [if_pos c3] at H
    have c3b0 : decide (100 < (a1.size : Int)) = true := decide_eq_true c3
    have c3b1 : decide (100 < a1.size) = true := decide_eq_true (by omega)
    clear c3
    replace H := Option.bind_eq_some_iff.mp H
    obtain ⟨t134, A40, H⟩ := H
    replace H : (some t134) = some r := H
    have A4 := Aside0.mk A40
    clear A40
    obtain rfl := Option.some.inj H
    go_enter Tryd.func3, Tryd.ntmps3
    go_wp2_with (first | ((with_reducible refine gate_callee (f := 7) rfl ?_); refine goesL_ (some 8) rfl rfl Tryd.func7 (by kernel_rfl) rfl #[] rfl (by (try simp only [List.map_toArray, List.map_cons, List.map_nil]); first | done | rfl | (simp only [List.length_drop, List.length_take]; rfl)) ?_; (with_reducible refine (shuttlecocklaw03_fixed.calls  t134 _ ?sideV A4.out).mono ?_); (case sideV => exact Kind.Vars.below HV.out (by repeat (first | (with_reducible first | exact HB.out | apply below_alloc | apply pw_below_drewN | apply below_drew1) | exact HB.out | exact HBo.out))); rintro e w5 ⟨rfl, hb⟩; refine ⟨_, rfl, ?_⟩; have n0_ := Aside0.mk (below_step (by repeat (first | (with_reducible first | exact HB.out | apply below_alloc | apply pw_below_drewN | apply below_drew1) | exact HB.out | exact HBo.out)) hb); clear HB; have HB := n0_; clear n0_; (try clear hb); (try clear hb2); (try clear hk); (try clear hi)))
    go_ret
    exact ⟨by first | rfl | (simp [errW_none, errW_some] <;> rfl) | (simp [*, errW_none, errW_some] <;> rfl) | (simp [Aid.ne_nil, Aid.eq_nil, errW_none, errW_some]; done), by repeat (first | (with_reducible first | exact HB.out | apply below_alloc | apply pw_below_drewN | apply below_drew1) | exact HB.out | exact HBo.out)⟩
  · rw [if_neg c3] at H
    have c3b0 : decide (100 < (a1.size : Int)) = false := decide_eq_false c3
    have c3b1 : decide (100 < a1.size) = false := decide_eq_false (by omega)
    clear c3
    replace H := Option.bind_eq_some_iff.mp H
    obtain ⟨t135, A60, H⟩ := H
    replace H : (if t135 = true then ((kind_Name.f a0).bind fun t136 => ((shuttlecockref03_Name.f k a0).bind fun t137 => (if t136.toList = t137.toList then ((kind_Args.f a0).bind fun t138 => ((shuttlecockref03_Args.f k a0).bind fun t141 => ((shuttlecockref01_Ints.f k t138 t141).bind fun t144 => (if t144 = true then ((kind_Known.f a0).bind fun t145 => ((shuttlecockref03_Known.f a0).bind fun t146 => (if (t145 == t146) = true then ((kind_Exp.f a0).bind fun t147 => ((shuttlecockref03_Exp.f a0).bind fun t148 => (if (t147 == t148) = true then ((kind_Of.f a1).bind fun t149 => ((shuttlecockref03_Of.f k a1).bind fun t150 => (some (t149 == t150)))) else (none)))) else (none)))) else (none))))) else (none)))) else (none)) = some r := H
    have A6 := Aside0.mk A60
    clear A60
    by_cases c7 : t135 = true
    · subst c7
      have H1 : ((kind_Name.f a0).bind fun t136 => ((shuttlecockref03_Name.f k a0).bind fun t137 => (if t136.toList = t137.toList then ((kind_Args.f a0).bind fun t138 => ((shuttlecockref03_Args.f k a0).bind fun t141 => ((shuttlecockref01_Ints.f k t138 t141).bind fun t144 => (if t144 = true then ((kind_Known.f a0).bind fun t145 => ((shuttlecockref03_Known.f a0).bind fun t146 => (if (t145 == t146) = true then ((kind_Exp.f a0).bind fun t147 => ((shuttlecockref03_Exp.f a0).bind fun t148 => (if (t147 == t148) = true then ((kind_Of.f a1).bind fun t149 => ((shuttlecockref03_Of.f k a1).bind fun t150 => (some (t149 == t150)))) else (none)))) else (none)))) else (none))))) else (none)))) = some r := by rw [if_pos rfl] at H; exact H
      clear H
      have H := H1
      clear H1
      replace H := Option.bind_eq_some_iff.mp H
      obtain ⟨t136, A80, H⟩ := H
      replace H : ((shuttlecockref03_Name.f k a0).bind fun t137 => (if t136.toList = t137.toList then ((kind_Args.f a0).bind fun t138 => ((shuttlecockref03_Args.f k a0).bind fun t141 => ((shuttlecockref01_Ints.f k t138 t141).bind fun t144 => (if t144 = true then ((kind_Known.f a0).bind fun t145 => ((shuttlecockref03_Known.f a0).bind fun t146 => (if (t145 == t146) = true then ((kind_Exp.f a0).bind fun t147 => ((shuttlecockref03_Exp.f a0).bind fun t148 => (if (t147 == t148) = true then ((kind_Of.f a1).bind fun t149 => ((shuttlecockref03_Of.f k a1).bind fun t150 => (some (t149 == t150)))) else (none)))) else (none)))) else (none))))) else (none))) = some r := H
      have A8 := Aside0.mk A80
      clear A80
      replace H := Option.bind_eq_some_iff.mp H
      obtain ⟨t137, A90, H⟩ := H
      replace H : (if t136.toList = t137.toList then ((kind_Args.f a0).bind fun t138 => ((shuttlecockref03_Args.f k a0).bind fun t141 => ((shuttlecockref01_Ints.f k t138 t141).bind fun t144 => (if t144 = true then ((kind_Known.f a0).bind fun t145 => ((shuttlecockref03_Known.f a0).bind fun t146 => (if (t145 == t146) = true then ((kind_Exp.f a0).bind fun t147 => ((shuttlecockref03_Exp.f a0).bind fun t148 => (if (t147 == t148) = true then ((kind_Of.f a1).bind fun t149 => ((shuttlecockref03_Of.f k a1).bind fun t150 => (some (t149 == t150)))) else (none)))) else (none)))) else (none))))) else (none)) = some r := H
      have A9 := Aside0.mk A90
      clear A90
      by_cases c10 : t136.toList = t137.toList
      · rw [if_pos c10] at H
        have c10b0 : (t136.toList == t137.toList) = true := beq_iff_eq.mpr c10
        have c10b1 : (t136.toList != t137.toList) = false := bne_eq_false_iff_eq.mpr c10
        clear c10
        replace H := Option.bind_eq_some_iff.mp H
        obtain ⟨t138, A110, H⟩ := H
        replace H : ((shuttlecockref03_Args.f k a0).bind fun t141 => ((shuttlecockref01_Ints.f k t138 t141).bind fun t144 => (if t144 = true then ((kind_Known.f a0).bind fun t145 => ((shuttlecockref03_Known.f a0).bind fun t146 => (if (t145 == t146) = true then ((kind_Exp.f a0).bind fun t147 => ((shuttlecockref03_Exp.f a0).bind fun t148 => (if (t147 == t148) = true then ((kind_Of.f a1).bind fun t149 => ((shuttlecockref03_Of.f k a1).bind fun t150 => (some (t149 == t150)))) else (none)))) else (none)))) else (none)))) = some r := H
        have A11 := Aside0.mk A110
        clear A110
        replace H := Option.bind_eq_some_iff.mp H
        obtain ⟨t141, A120, H⟩ := H
        replace H : ((shuttlecockref01_Ints.f k t138 t141).bind fun t144 => (if t144 = true then ((kind_Known.f a0).bind fun t145 => ((shuttlecockref03_Known.f a0).bind fun t146 => (if (t145 == t146) = true then ((kind_Exp.f a0).bind fun t147 => ((shuttlecockref03_Exp.f a0).bind fun t148 => (if (t147 == t148) = true then ((kind_Of.f a1).bind fun t149 => ((shuttlecockref03_Of.f k a1).bind fun t150 => (some (t149 == t150)))) else (none)))) else (none)))) else (none))) = some r := H
        have A12 := Aside0.mk A120
        clear A120
        replace H := Option.bind_eq_some_iff.mp H
        obtain ⟨t144, A130, H⟩ := H
        replace H : (if t144 = true then ((kind_Known.f a0).bind fun t145 => ((shuttlecockref03_Known.f a0).bind fun t146 => (if (t145 == t146) = true then ((kind_Exp.f a0).bind fun t147 => ((shuttlecockref03_Exp.f a0).bind fun t148 => (if (t147 == t148) = true then ((kind_Of.f a1).bind fun t149 => ((shuttlecockref03_Of.f k a1).bind fun t150 => (some (t149 == t150)))) else (none)))) else (none)))) else (none)) = some r := H
        have A13 := Aside0.mk A130
        clear A130
        by_cases c14 : t144 = true
        · subst c14
          have H1 : ((kind_Known.f a0).bind fun t145 => ((shuttlecockref03_Known.f a0).bind fun t146 => (if (t145 == t146) = true then ((kind_Exp.f a0).bind fun t147 => ((shuttlecockref03_Exp.f a0).bind fun t148 => (if (t147 == t148) = true then ((kind_Of.f a1).bind fun t149 => ((shuttlecockref03_Of.f k a1).bind fun t150 => (some (t149 == t150)))) else (none)))) else (none)))) = some r := by rw [if_pos rfl] at H; exact H
          clear H
          have H := H1
          clear H1
          replace H := Option.bind_eq_some_iff.mp H
          obtain ⟨t145, A150, H⟩ := H
          replace H : ((shuttlecockref03_Known.f a0).bind fun t146 => (if (t145 == t146) = true then ((kind_Exp.f a0).bind fun t147 => ((shuttlecockref03_Exp.f a0).bind fun t148 => (if (t147 == t148) = true then ((kind_Of.f a1).bind fun t149 => ((shuttlecockref03_Of.f k a1).bind fun t150 => (some (t149 == t150)))) else (none)))) else (none))) = some r := H
          have A15 := Aside0.mk A150
          clear A150
          replace H := Option.bind_eq_some_iff.mp H
          obtain ⟨t146, A160, H⟩ := H
          replace H : (if (t145 == t146) = true then ((kind_Exp.f a0).bind fun t147 => ((shuttlecockref03_Exp.f a0).bind fun t148 => (if (t147 == t148) = true then ((kind_Of.f a1).bind fun t149 => ((shuttlecockref03_Of.f k a1).bind fun t150 => (some (t149 == t150)))) else (none)))) else (none)) = some r := H
          have A16 := Aside0.mk A160
          clear A160
          by_cases c17 : (t145 == t146) = true
          · rw [if_pos c17] at H
            have c17b0 : (t145 == t146) = true := c17
            (try (have c17b1 : decide (t145 = t146) = true := by simpa using c17))
            (try (have c17b2 : (t145 == t146) = true := by simpa using c17))
            clear c17
            replace H := Option.bind_eq_some_iff.mp H
            obtain ⟨t147, A180, H⟩ := H
            replace H : ((shuttlecockref03_Exp.f a0).bind fun t148 => (if (t147 == t148) = true then ((kind_Of.f a1).bind fun t149 => ((shuttlecockref03_Of.f k a1).bind fun t150 => (some (t149 == t150)))) else (none))) = some r := H
            have A18 := Aside0.mk A180
            clear A180
            replace H := Option.bind_eq_some_iff.mp H
            obtain ⟨t148, A190, H⟩ := H
            replace H : (if (t147 == t148) = true then ((kind_Of.f a1).bind fun t149 => ((shuttlecockref03_Of.f k a1).bind fun t150 => (some (t149 == t150)))) else (none)) = some r := H
            have A19 := Aside0.mk A190
            clear A190
            by_cases c20 : (t147 == t148) = true
            · rw [if_pos c20] at H
              have c20b0 : (t147 == t148) = true := c20
              (try (have c20b1 : decide (t147 = t148) = true := by simpa using c20))
              (try (have c20b2 : (t147 == t148) = true := by simpa using c20))
              clear c20
              replace H := Option.bind_eq_some_iff.mp H
              obtain ⟨t149, A210, H⟩ := H
              replace H : ((shuttlecockref03_Of.f k a1).bind fun t150 => (some (t149 == t150))) = some r := H
              have A21 := Aside0.mk A210
              clear A210
              replace H := Option.bind_eq_some_iff.mp H
              obtain ⟨t150, A220, H⟩ := H
              replace H : (some (t149 == t150)) = some r := H
              have A22 := Aside0.mk A220
              clear A220
              obtain rfl := Option.some.inj H
              go_enter Tryd.func3, Tryd.ntmps3
              go_wp2_with (first | ((with_reducible refine gate_callee (f := 7) rfl ?_); refine goesL_ (some 9) rfl rfl Tryd.func7 (by kernel_rfl) rfl #[] rfl (by (try simp only [List.map_toArray, List.map_cons, List.map_nil]); first | done | rfl | (simp only [List.length_drop, List.length_take]; rfl)) ?_; (with_reducible refine (shuttlecocklaw03_fixed.calls  true _ ?sideV A6.out).mono ?_); (case sideV => exact Kind.Vars.below HV.out (by repeat (first | (with_reducible first | exact HB.out | apply below_alloc | apply pw_below_drewN | apply below_drew1) | exact HB.out | exact HBo.out))); rintro e w23 ⟨rfl, hb⟩; refine ⟨_, rfl, ?_⟩; have n0_ := Aside0.mk (below_step (by repeat (first | (with_reducible first | exact HB.out | apply below_alloc | apply pw_below_drewN | apply below_drew1) | exact HB.out | exact HBo.out)) hb); clear HB; have HB := n0_; clear n0_; (try clear hb); (try clear hb2); (try clear hk); (try clear hi)) | (go_at_call 8; (with_reducible refine (kind_Name.calls a0 t136 _ ?sideV A8.out).mono ?_); (case sideV => exact Kind.Vars.below HV.out (by repeat (first | (with_reducible first | exact HB.out | apply below_alloc | apply pw_below_drewN | apply below_drew1) | exact HB.out | exact HBo.out))); rintro e w24 ⟨rfl, hb⟩; have n0_ := Aside0.mk (below_step (by repeat (first | (with_reducible first | exact HB.out | apply below_alloc | apply pw_below_drewN | apply below_drew1) | exact HB.out | exact HBo.out)) hb); clear HB; have HB := n0_; clear n0_; (try clear hb); (try clear hb2); (try clear hk); (try clear hi)) | (go_at_call 9; (with_reducible refine (shuttlecockref03_Name.calls k a0 t137 _ A9.out).mono ?_); rintro e w25 ⟨rfl, hb⟩; have n0_ := Aside0.mk (below_step (by repeat (first | (with_reducible first | exact HB.out | apply below_alloc | apply pw_below_drewN | apply below_drew1) | exact HB.out | exact HBo.out)) hb); clear HB; have HB := n0_; clear n0_; (try clear hb); (try clear hb2); (try clear hk); (try clear hi)) | (go_at_call 11; (with_reducible refine (kind_Args.calls a0 t138 _ A11.out).mono ?_); rintro e w26 ⟨v139, rfl, ho0, hb⟩; have n0_ := Aside0.mk (Kd.R_lower ho0 (below_size (by repeat (first | (with_reducible first | exact HB.out | apply below_alloc | apply pw_below_drewN | apply below_drew1) | exact HB.out | exact HBo.out)))); have n1_ := Aside0.mk (below_step (by repeat (first | (with_reducible first | exact HB.out | apply below_alloc | apply pw_below_drewN | apply below_drew1) | exact HB.out | exact HBo.out)) hb); clear HB; have HO140 := n0_; have HB := n1_; clear n0_ n1_; (try clear hb); (try clear hb2); (try clear hk); (try clear hi); (try clear ho0)) | (go_at_call 12; (with_reducible refine (shuttlecockref03_Args.calls k a0 t141 _ A12.out).mono ?_); rintro e w27 ⟨v142, rfl, ho0, hb⟩; have n0_ := Aside0.mk (Kd.R_elder' (by (with_reducible repeat (first | apply Kd.R_alloc | apply Kd.R_drewN | apply Kd.R_drew)); exact HO140.out) (Kd.R_base ho0) hb); have n1_ := Aside0.mk (Kd.R_lower (Kd.R_new' ho0 (Kd.R_lt (by (with_reducible repeat (first | apply Kd.R_alloc | apply Kd.R_drewN | apply Kd.R_drew)); exact HO140.out))) (below_size (by repeat (first | (with_reducible first | exact HB.out | apply below_alloc | apply pw_below_drewN | apply below_drew1) | exact HB.out | exact HBo.out)))); have n2_ := Aside0.mk (below_step (by repeat (first | (with_reducible first | exact HB.out | apply below_alloc | apply pw_below_drewN | apply below_drew1) | exact HB.out | exact HBo.out)) hb); clear HO140; clear HB; have HO140 := n0_; have HO143 := n1_; have HB := n2_; clear n0_ n1_ n2_; (try clear hb); (try clear hb2); (try clear hk); (try clear hi); (try clear ho0); obtain ⟨Ao28, co28, eo28⟩ := Kd.R_slice HO140.out; subst eo28; obtain ⟨Ao29, co29, eo29⟩ := Kd.R_slice HO143.out; subst eo29) | (go_at_call 10; (with_reducible refine (shuttlecockref01_Ints.calls k _ _ t138 _ _ t141 true _ ?side1 ?side2 ?side3 ?side4 A13.out).mono ?_); (case side1 => repeat (first | exact (Kd.R_reads' HO140.out).2.2 | (with_reducible refine Kd.C_alloc ?_ _) | (with_reducible refine Kd.C_drewN ?_ _) | (with_reducible refine Kd.C_drew ?_))); (case side2 => exact (Kd.R_reads' HO140.out).2.1); (case side3 => repeat (first | exact (Kd.R_reads' HO143.out).2.2 | (with_reducible refine Kd.C_alloc ?_ _) | (with_reducible refine Kd.C_drewN ?_ _) | (with_reducible refine Kd.C_drew ?_))); (case side4 => exact (Kd.R_reads' HO143.out).2.1); rintro e w' ⟨rfl, ⟨nd, rfl⟩⟩) | (go_at_call 13; (with_reducible refine (kind_Known.calls a0 t145 _ A15.out).mono ?_); rintro e w30 ⟨rfl, hb⟩; have n0_ := Aside0.mk (Kd.R_below (by (with_reducible repeat (first | apply Kd.R_alloc | apply Kd.R_drewN | apply Kd.R_drew)); exact HO140.out) hb); have n1_ := Aside0.mk (Kd.R_below (by (with_reducible repeat (first | apply Kd.R_alloc | apply Kd.R_drewN | apply Kd.R_drew)); exact HO143.out) hb); have n2_ := Aside0.mk (below_step (by repeat (first | (with_reducible first | exact HB.out | apply below_alloc | apply pw_below_drewN | apply below_drew1) | exact HB.out | exact HBo.out)) hb); clear HO140; clear HO143; clear HB; have HO140 := n0_; have HO143 := n1_; have HB := n2_; clear n0_ n1_ n2_; (try clear hb); (try clear hb2); (try clear hk); (try clear hi)) | (go_at_call 14; (with_reducible refine (shuttlecockref03_Known.calls a0 t146 _ A16.out).mono ?_); rintro e w' ⟨rfl, ⟨nd, rfl⟩⟩) | (go_at_call 15; (with_reducible refine (kind_Exp.calls a0 t147 _ A18.out).mono ?_); rintro e w' ⟨rfl, ⟨nd, rfl⟩⟩) | (go_at_call 16; (with_reducible refine (shuttlecockref03_Exp.calls a0 t148 _ A19.out).mono ?_); rintro e w' ⟨rfl, ⟨nd, rfl⟩⟩) | (go_at_call 17; (with_reducible refine (kind_Of.calls a1 t149 _ ?sideV A21.out).mono ?_); (case sideV => exact Kind.Vars.below HV.out (by repeat (first | (with_reducible first | exact HB.out | apply below_alloc | apply pw_below_drewN | apply below_drew1) | exact HB.out | exact HBo.out))); rintro e w31 ⟨rfl, hb⟩; have n0_ := Aside0.mk (Kd.R_below (by (with_reducible repeat (first | apply Kd.R_alloc | apply Kd.R_drewN | apply Kd.R_drew)); exact HO140.out) hb); have n1_ := Aside0.mk (Kd.R_below (by (with_reducible repeat (first | apply Kd.R_alloc | apply Kd.R_drewN | apply Kd.R_drew)); exact HO143.out) hb); have n2_ := Aside0.mk (below_step (by repeat (first | (with_reducible first | exact HB.out | apply below_alloc | apply pw_below_drewN | apply below_drew1) | exact HB.out | exact HBo.out)) hb); clear HO140; clear HO143; clear HB; have HO140 := n0_; have HO143 := n1_; have HB := n2_; clear n0_ n1_ n2_; (try clear hb); (try clear hb2); (try clear hk); (try clear hi)) | (go_at_call 18; (with_reducible refine (shuttlecockref03_Of.calls k a1 t150 _ A22.out).mono ?_); rintro e w32 ⟨rfl, hb⟩; have n0_ := Aside0.mk (Kd.R_below (by (with_reducible repeat (first | apply Kd.R_alloc | apply Kd.R_drewN | apply Kd.R_drew)); exact HO140.out) hb); have n1_ := Aside0.mk (Kd.R_below (by (with_reducible repeat (first | apply Kd.R_alloc | apply Kd.R_drewN | apply Kd.R_drew)); exact HO143.out) hb); have n2_ := Aside0.mk (below_step (by repeat (first | (with_reducible first | exact HB.out | apply below_alloc | apply pw_below_drewN | apply below_drew1) | exact HB.out | exact HBo.out)) hb); clear HO140; clear HO143; clear HB; have HO140 := n0_; have HO143 := n1_; have HB := n2_; clear n0_ n1_ n2_; (try clear hb); (try clear hb2); (try clear hk); (try clear hi)))
              go_ret
              exact ⟨by first | rfl | (simp [errW_none, errW_some] <;> rfl) | (simp [*, errW_none, errW_some] <;> rfl) | (simp [Aid.ne_nil, Aid.eq_nil, errW_none, errW_some]; done), by repeat (first | (with_reducible first | exact HB.out | apply below_alloc | apply pw_below_drewN | apply below_drew1) | exact HB.out | exact HBo.out)⟩
            · rw [if_neg c20] at H
              exact absurd H (by simp)
          · rw [if_neg c17] at H
            exact absurd H (by simp)
        · replace c14 := Bool.eq_false_iff.mpr c14
          subst c14
          have H1 : (none) = some r := by rw [if_neg (show ¬ (false = true) by decide)] at H; exact H
          clear H
          have H := H1
          clear H1
          exact absurd H (by simp)
      · rw [if_neg c10] at H
        exact absurd H (by simp)
    · replace c7 := Bool.eq_false_iff.mpr c7
      subst c7
      have H1 : (none) = some r := by rw [if_neg (show ¬ (false = true) by decide)] at H; exact H
      clear H
      have H := H1
      clear H1
      exact absurd H (by simp)

/-- THE ONE PURE STATEMENT of shuttlecocklaw03_KindTells: yours. -/
def shuttlecocklaw03_KindTells.Pure : Prop := ∀ (a0 : Int) (a1 : ByteArray), (Lit.int .i64 a0).wf = true → a1.size ≤ 140737488351232 → ∃ k, shuttlecocklaw03_KindTells.f k a0 a1 = some true
theorem shuttlecocklaw03_KindTells.walk (P : shuttlecocklaw03_KindTells.Pure) (a0 : Int) (a1 : ByteArray) (w : World) (hV : Kind.Vars w) (w0 : (Lit.int .i64 a0).wf = true) (w1 : a1.size ≤ 140737488351232) :
    Calls Tryd.prog 3 #[.int .i64 a0, .string a1] w fun e w' => e = .returned (.bool true) ∧ Below w.heap.size w w' := by
  obtain ⟨k, h⟩ := P a0 a1 w0 w1
  refine (shuttlecocklaw03_KindTells.calls k a0 a1 true w hV h).mono ?_
  rintro e w' ⟨rfl, hd⟩
  exact ⟨rfl, hd⟩

end Go.Proofs.YthhohplddgklgaaDoor.Q
