-- printed by a program of this session (NOTES: hprint); not the kit's print
import Derived.Test.YthhohplddgklgaaDoorQx0
namespace Go.Proofs.YthhohplddgklgaaDoor.Q
open Go.RowKit Go.Proofs.YthhohplddgklgaaDoorW.PrintWords Go.Proofs.YthhohplddgklgaaDoorW.PrintLast Go.Proofs.YthhohplddgklgaaDoorW.PrintMore
attribute [local go_sem] max2_int min2_int max_two min_two max_three min_three max_four min_four   -- for this text's walks alone
set_option linter.unusedVariables false
set_option linter.unusedSimpArgs false

/-! ### kind_Name: function 8, by hand -/
def kind_Name.f (a0 : Int) : Option (ByteArray) := if (Lit.int .i64 a0).wf = true then some (Kind.nameF a0) else none
theorem kind_Name.calls (a0 : Int) (r : ByteArray) (w : World) (hV : Kind.Vars w) (h : kind_Name.f a0 = some r) :
    Calls Tryd.prog 8 #[.int .i64 a0] w fun e w' => e = .returned (.string r) ∧ Below w.heap.size w w' := by
  unfold kind_Name.f at h
  split at h
  · rename_i hw
    obtain rfl := Option.some.inj h
    exact Kind.name_calls a0 w hV hw
  · cases h

/-! ### kind_Args: function 11, by hand -/
def kind_Args.f (a0 : Int) : Option (List Int) := if (Lit.int .i64 a0).wf = true then some (Kind.argsL a0) else none
theorem kind_Args.calls (a0 : Int) (r : List Int) (w : World) (h : kind_Args.f a0 = some r) :
    Calls Tryd.prog 11 #[.int .i64 a0] w fun e w' => ∃ v0_ : Value, e = .returned (v0_) ∧ Kd.R (Kd.int .i64) 3 w' w.heap.size (fun _ => True) v0_ r ∧ Below w.heap.size w w' := by
  unfold kind_Args.f at h
  split at h
  · rename_i hw
    obtain rfl := Option.some.inj h
    exact Kind.args_calls a0 w hw
  · cases h

/-! ### kind_Known: function 13, by hand -/
def kind_Known.f (a0 : Int) : Option (Bool) := if (Lit.int .i64 a0).wf = true then some (Kind.knownB a0) else none
theorem kind_Known.calls (a0 : Int) (r : Bool) (w : World) (h : kind_Known.f a0 = some r) :
    Calls Tryd.prog 13 #[.int .i64 a0] w fun e w' => e = .returned (.bool r) ∧ Below w.heap.size w w' := by
  unfold kind_Known.f at h
  split at h
  · rename_i hw
    obtain rfl := Option.some.inj h
    exact Kind.known_calls a0 w hw
  · cases h

/-! ### kind_Exp: function 15 -/
def kind_Exp.f (a0 : Int) : Option (Bool) := if a0 ≥ 128 then (some (decide (a0 < 256))) else (some false)
set_option maxHeartbeats 8000000 in
set_option maxRecDepth 100000 in
theorem kind_Exp.calls (a0 : Int) (r : Bool) (w : World) (h : kind_Exp.f a0 = some r) :
    Calls Tryd.prog 15 #[.int .i64 a0] w fun e w' => e = .returned (.bool r) ∧ Drawn0 w w' := by
  have H : (if a0 ≥ 128 then (some (decide (a0 < 256))) else (some false)) = some r := h
  clear h
  by_cases c2 : a0 ≥ 128
  · rw [if_pos c2] at H
    have c2b0 : decide (128 ≤ a0) = true := decide_eq_true c2
    clear c2
    obtain rfl := Option.some.inj H
    go_enter Tryd.func15, Tryd.ntmps15
    go_wp2
    go_ret
    exact ⟨by first | rfl | (simp; done) | (simp [*]; done), by repeat (first | exact Drawn0.refl _ | apply Drawn0.step)⟩
  · rw [if_neg c2] at H
    have c2b0 : decide (128 ≤ a0) = false := decide_eq_false c2
    clear c2
    obtain rfl := Option.some.inj H
    go_enter Tryd.func15, Tryd.ntmps15
    go_wp2
    go_ret
    exact ⟨by first | rfl | (simp; done) | (simp [*]; done), by repeat (first | exact Drawn0.refl _ | apply Drawn0.step)⟩

/-! ### kind_Of: function 17, by hand -/
def kind_Of.f (a0 : ByteArray) : Option (Int) := if a0.size ≤ 281474976710656 then some (Kind.ofF a0) else none
theorem kind_Of.calls (a0 : ByteArray) (r : Int) (w : World) (hV : Kind.Vars w) (h : kind_Of.f a0 = some r) :
    Calls Tryd.prog 17 #[.string a0] w fun e w' => e = .returned (.int .i64 r) ∧ Below w.heap.size w w' := by
  unfold kind_Of.f at h
  split at h
  · rename_i hw
    obtain rfl := Option.some.inj h
    exact Kind.of_calls a0 hw w hV
  · cases h

/-! ### shuttlecocklaw03_fixed: function 7, by hand -/
def shuttlecocklaw03_fixed.f : Option (Bool) := some true
theorem itoa200 : Lib.itoa 200 = [50, 48, 48] := by
  simp [Lib.itoa, Lib.decDigits]
theorem name200 : Kind.nameF 200 = (⟨#[101, 120, 112, 50, 48, 48]⟩ : ByteArray) := by
  unfold Kind.nameF
  rw [if_neg (by decide), if_pos (by decide), itoa200]
  rfl
theorem ofC : Kind.ofF (⟨#[99, 114, 101, 97, 116, 101]⟩ : ByteArray) = 3 := by
  have h : Kind.fstK (⟨#[99, 114, 101, 97, 116, 101]⟩ : ByteArray) 10 1 = some 3 := by decide +kernel
  unfold Kind.ofF
  rw [h]
theorem ofN : Kind.ofF (⟨#[]⟩ : ByteArray) = 0 := by
  have h : Kind.fstK (⟨#[]⟩ : ByteArray) 10 1 = none := by decide +kernel
  unfold Kind.ofF
  rw [h]
  rfl
set_option maxRecDepth 100000 in
set_option maxHeartbeats 8000000 in
theorem shuttlecocklaw03_fixed.calls (r : Bool) (w : World) (hV : Kind.Vars w) (h : shuttlecocklaw03_fixed.f = some r) :
    Calls Tryd.prog 7 #[] w fun e w' => e = .returned (.bool r) ∧ Below w.heap.size w w' := by
  obtain rfl := Option.some.inj h
  clear h
  have HV := Aside0.mk hV
  clear hV
  have n1 : Kind.nx 0 = 1 := by unfold Kind.nx wrap64; omega
  have n2 : Kind.nx 1 = 2 := by unfold Kind.nx wrap64; omega
  have n3 : Kind.nx 2 = 3 := by unfold Kind.nx wrap64; omega
  have n4 : Kind.nx 3 = 4 := by unfold Kind.nx wrap64; omega
  have m3 : Kind.nameF 3 = (⟨#[99, 114, 101, 97, 116, 101]⟩ : ByteArray) := by decide +kernel
  have N1 := Aside0.mk n1
  have N2 := Aside0.mk n2
  have N3 := Aside0.mk n3
  have N4 := Aside0.mk n4
  have M3 := Aside0.mk m3
  clear n1 n2 n3 n4 m3
  go_enter Tryd.func7, Tryd.ntmps7
  go_wp2_with (first | (go_at_call 19; with_reducible refine (Kind.new_calls w).mono ?_; rintro e w1 ⟨rfl, hk, hb, _⟩; have HB1 := Aside0.mk hb; have HK1 := Aside0.mk hk; clear hk hb) | (go_at_call 22; first | (with_reducible refine (Kind.asked_calls w.heap.size w.heap.size 0 _ (.inl HK1.out)).mono ?_; rintro e w2 ⟨rfl, hk, hg⟩; rw [N1.out] at hk ⊢; have HB2 := Aside0.mk (HB1.out.trans (Kind.below_of hg (Nat.le_refl _) HB1.out.size)); have HK2 := Aside0.mk hk; clear HK1 hk hg) | (with_reducible refine (Kind.none_asked _).mono ?_; rintro e w12 ⟨rfl, rfl⟩) | (with_reducible refine (Kind.asked_calls w.heap.size w.heap.size 3 _ (.inr HD.out)).mono ?_; rintro e w11 ⟨rfl, hk, hg⟩; rw [N4.out] at hk ⊢; have HBE := Aside0.mk (HB.out.trans (Kind.below_of hg (Nat.le_refl _) HB.out.size)); clear hk hg)) | (go_at_call 20; first | (with_reducible refine (Kind.mknown_calls w.heap.size w.heap.size 1 3 _ HK2.out HB2.out.size (Kind.Or.klt HK2.out) (by decide)).mono ?_; rintro e w3 ⟨rfl, hd, hg⟩; rw [N2.out] at hd; rw [show Kind.knownB 3 = true by decide]; have HB3 := Aside0.mk (HB2.out.trans (Kind.below_of hg (Nat.le_refl _) HB2.out.size)); have HD3 := Aside0.mk hd; clear HK2 hd hg) | (with_reducible refine (Kind.none_known 3 _).mono ?_; rintro e w13 ⟨rfl, rfl⟩)) | (go_at_call 21; first | (with_reducible refine (Kind.pname_calls w w.heap.size 2 3 _ (.inr HD3.out) (Nat.le_refl _) HB3.out HV.out (by decide)).mono ?_; rintro e w4 ⟨rfl, hd, hg⟩; rw [N3.out] at hd; rw [M3.out]; have HB := Aside0.mk (HB3.out.trans (Kind.below_of hg (Nat.le_refl _) HB3.out.size)); have HD := Aside0.mk hd; clear HD3 hd hg) | (with_reducible refine (Kind.none_name 3 _).mono ?_; rintro e w14 ⟨rfl, rfl⟩)) | (go_at_call 8; with_reducible refine (Kind.name_calls 200 _ (HV.out.below HB.out) (by decide)).mono ?_; rintro e w5 ⟨rfl, hb⟩; rw [name200]; have n0_ := Aside0.mk (below_step HB.out hb); have n1_ := Aside0.mk (HD.out.below hb); clear HB HD hb; have HB := n0_; have HD := n1_; clear n0_ n1_) | (go_at_call 17; first | (with_reducible refine (Kind.of_calls (⟨#[99, 114, 101, 97, 116, 101]⟩ : ByteArray) (by decide) _ (HV.out.below HB.out)).mono ?_; rintro e w6 ⟨rfl, hb⟩; rw [ofC]; have n0_ := Aside0.mk (below_step HB.out hb); have n1_ := Aside0.mk (HD.out.below hb); clear HB HD hb; have HB := n0_; have HD := n1_; clear n0_ n1_) | (with_reducible refine (Kind.of_calls (⟨#[]⟩ : ByteArray) (by decide) _ (HV.out.below HB.out)).mono ?_; rintro e w6 ⟨rfl, hb⟩; rw [ofN]; have n0_ := Aside0.mk (below_step HB.out hb); have n1_ := Aside0.mk (HD.out.below hb); clear HB HD hb; have HB := n0_; have HD := n1_; clear n0_ n1_)) | (go_at_call 13; first | (with_reducible refine (Kind.known_calls 10 _ (by decide)).mono ?_; rintro e w7 ⟨rfl, hb⟩; rw [show Kind.knownB 10 = true by decide]; have n0_ := Aside0.mk (below_step HB.out hb); have n1_ := Aside0.mk (HD.out.below hb); clear HB HD hb; have HB := n0_; have HD := n1_; clear n0_ n1_) | (with_reducible refine (Kind.known_calls 11 _ (by decide)).mono ?_; rintro e w7 ⟨rfl, hb⟩; rw [show Kind.knownB 11 = false by decide]; have n0_ := Aside0.mk (below_step HB.out hb); have n1_ := Aside0.mk (HD.out.below hb); clear HB HD hb; have HB := n0_; have HD := n1_; clear n0_ n1_)) | (go_at_call 15; first | (with_reducible refine (Kind.exp_calls 128 _).mono ?_; rintro e w8 ⟨rfl, rfl⟩; rw [show Kind.expB 128 = true by decide]) | (with_reducible refine (Kind.exp_calls 256 _).mono ?_; rintro e w8 ⟨rfl, rfl⟩; rw [show Kind.expB 256 = false by decide])) | (go_at_call 11; with_reducible refine (Kind.args_calls 7 _ (by decide)).mono ?_; rintro e w9 ⟨v9, rfl, hr, hb⟩; obtain ⟨A9, c9, rfl⟩ := Kd.R_slice hr; rw [show (Kind.argsL 7).length = 3 by decide]; clear hr; have n0_ := Aside0.mk (below_step HB.out hb); have n1_ := Aside0.mk (HD.out.below hb); clear HB HD hb; have HB := n0_; have HD := n1_; clear n0_ n1_))
  go_ret
  exact ⟨rfl, HBE.out⟩

/-! ### shuttlecockref03_Known: function 14 -/
def shuttlecockref03_Known.f (a0 : Int) : Option (Bool) := if a0 ≥ 1 then (some (decide (a0 < 11))) else (some false)
set_option maxHeartbeats 8000000 in
set_option maxRecDepth 100000 in
theorem shuttlecockref03_Known.calls (a0 : Int) (r : Bool) (w : World) (h : shuttlecockref03_Known.f a0 = some r) :
    Calls Tryd.prog 14 #[.int .i64 a0] w fun e w' => e = .returned (.bool r) ∧ Drawn0 w w' := by
  have H : (if a0 ≥ 1 then (some (decide (a0 < 11))) else (some false)) = some r := h
  clear h
  by_cases c2 : a0 ≥ 1
  · rw [if_pos c2] at H
    have c2b0 : decide (1 ≤ a0) = true := decide_eq_true c2
    clear c2
    obtain rfl := Option.some.inj H
    go_enter Tryd.func14, Tryd.ntmps14
    go_wp2
    go_ret
    exact ⟨by first | rfl | (simp; done) | (simp [*]; done), by repeat (first | exact Drawn0.refl _ | apply Drawn0.step)⟩
  · rw [if_neg c2] at H
    have c2b0 : decide (1 ≤ a0) = false := decide_eq_false c2
    clear c2
    obtain rfl := Option.some.inj H
    go_enter Tryd.func14, Tryd.ntmps14
    go_wp2
    go_ret
    exact ⟨by first | rfl | (simp; done) | (simp [*]; done), by repeat (first | exact Drawn0.refl _ | apply Drawn0.step)⟩

/-! ### shuttlecockref03_Exp: function 16 -/
def shuttlecockref03_Exp.f (a0 : Int) : Option (Bool) := if a0 ≥ 128 then (some (decide (a0 ≤ 255))) else (some false)
set_option maxHeartbeats 8000000 in
set_option maxRecDepth 100000 in
theorem shuttlecockref03_Exp.calls (a0 : Int) (r : Bool) (w : World) (h : shuttlecockref03_Exp.f a0 = some r) :
    Calls Tryd.prog 16 #[.int .i64 a0] w fun e w' => e = .returned (.bool r) ∧ Drawn0 w w' := by
  have H : (if a0 ≥ 128 then (some (decide (a0 ≤ 255))) else (some false)) = some r := h
  clear h
  by_cases c2 : a0 ≥ 128
  · rw [if_pos c2] at H
    have c2b0 : decide (128 ≤ a0) = true := decide_eq_true c2
    clear c2
    obtain rfl := Option.some.inj H
    go_enter Tryd.func16, Tryd.ntmps16
    go_wp2
    go_ret
    exact ⟨by first | rfl | (simp; done) | (simp [*]; done), by repeat (first | exact Drawn0.refl _ | apply Drawn0.step)⟩
  · rw [if_neg c2] at H
    have c2b0 : decide (128 ≤ a0) = false := decide_eq_false c2
    clear c2
    obtain rfl := Option.some.inj H
    go_enter Tryd.func16, Tryd.ntmps16
    go_wp2
    go_ret
    exact ⟨by first | rfl | (simp; done) | (simp [*]; done), by repeat (first | exact Drawn0.refl _ | apply Drawn0.step)⟩

/-! ### shuttlecockref01_Digits: function 31 -/
def shuttlecockref01_Digits.l0 : Nat → Int → ByteArray → Option (ByteArray)
  | 0, _, _ => none
  | k + 1, x0, x3 => if x0 > 9 then (if 0 ≤ (Int.tmod x0 10) then (if (Int.tmod x0 10) ≤ (IntKind.u64.wrap ((Int.tmod x0 10) + 1)) then (if (IntKind.u64.wrap ((Int.tmod x0 10) + 1)) ≤ 10 then (if ((⟨#[48, 49, 50, 51, 52, 53, 54, 55, 56, 57]⟩ : ByteArray).extract ((Int.tmod x0 10) : Int).toNat ((IntKind.u64.wrap ((Int.tmod x0 10) + 1)) : Int).toNat).size + x3.size ≤ 9223372036854775807 then (shuttlecockref01_Digits.l0 k (IntKind.u64.wrap (Int.tdiv x0 10)) (((⟨#[48, 49, 50, 51, 52, 53, 54, 55, 56, 57]⟩ : ByteArray).extract ((Int.tmod x0 10) : Int).toNat ((IntKind.u64.wrap ((Int.tmod x0 10) + 1)) : Int).toNat) ++ x3)) else (none)) else (none)) else (none)) else (none)) else (if 0 ≤ x0 then (if x0 ≤ (IntKind.u64.wrap (x0 + 1)) then (if (IntKind.u64.wrap (x0 + 1)) ≤ 10 then (if ((⟨#[48, 49, 50, 51, 52, 53, 54, 55, 56, 57]⟩ : ByteArray).extract (x0 : Int).toNat ((IntKind.u64.wrap (x0 + 1)) : Int).toNat).size + x3.size ≤ 9223372036854775807 then (some (((⟨#[48, 49, 50, 51, 52, 53, 54, 55, 56, 57]⟩ : ByteArray).extract (x0 : Int).toNat ((IntKind.u64.wrap (x0 + 1)) : Int).toNat) ++ x3)) else (none)) else (none)) else (none)) else (none))
def shuttlecockref01_Digits.f (k : Nat) (a0 : Int) : Option (ByteArray) := shuttlecockref01_Digits.l0 k a0 (⟨#[]⟩ : ByteArray)
theorem shuttlecockref01_Digits.mono_l : ∀ k, (∀ y0 y1, LeO (shuttlecockref01_Digits.l0 k y0 y1) (shuttlecockref01_Digits.l0 (k + 1) y0 y1))
  | 0 => fun _ _ r h => by simp [shuttlecockref01_Digits.l0] at h
  | k + 1 => by
    have ih0 := shuttlecockref01_Digits.mono_l k
    · intro y0 y1
      unfold shuttlecockref01_Digits.l0
      repeat' first
      | (with_reducible exact ih0 _ _)
      | (with_reducible exact LeO.refl _)
      | (with_reducible exact LeO.none _)
      | (with_reducible refine LeO.ite ?_ ?_)
      | (with_reducible refine LeO.bind ?_ (fun _ => ?_))
      | exact ih0 _ _
      | exact LeO.none _
      | refine LeO.ite ?_ ?_
      | refine LeO.bind ?_ (fun _ => ?_)
theorem shuttlecockref01_Digits.mono : ∀ a0 k, LeO (shuttlecockref01_Digits.f k a0) (shuttlecockref01_Digits.f (k + 1) a0) := by
  intro a0 k
  have ih0 := shuttlecockref01_Digits.mono_l k
  unfold shuttlecockref01_Digits.f
  repeat' first
      | (with_reducible exact ih0 _ _)
      | (with_reducible exact LeO.refl _)
      | (with_reducible exact LeO.none _)
      | (with_reducible refine LeO.ite ?_ ?_)
      | (with_reducible refine LeO.bind ?_ (fun _ => ?_))
      | exact ih0 _ _
      | exact LeO.none _
      | refine LeO.ite ?_ ?_
      | refine LeO.bind ?_ (fun _ => ?_)
set_option maxHeartbeats 8000000 in
set_option maxRecDepth 100000 in
theorem shuttlecockref01_Digits.calls (k : Nat) (a0 : Int) (r : ByteArray) (w : World) (h : shuttlecockref01_Digits.f k a0 = some r) :
    Calls Tryd.prog 31 #[.int .u64 a0] w fun e w' => e = .returned (.string r) ∧ Drawn0 w w' := by
  have H : (shuttlecockref01_Digits.l0 k a0 (⟨#[]⟩ : ByteArray)) = some r := h
  clear h
  have H' := Aside0.mk H
  clear H
  go_enter Tryd.func31, Tryd.ntmps31
  go_wp2
  go_loopg [0, 3] k (fun kq v0 v3 w' => ∃ (x0_1 : Int) (x3_1 : ByteArray), v0 = .int .u64 x0_1 ∧ v3 = .string x3_1 ∧ Aside0 (shuttlecockref01_Digits.l0 kq x0_1 x3_1 = some r) ∧ Aside0 (kq ≤ k) ∧ Drawn0 w w')
  case atStart => exact ⟨(a0), ((⟨#[]⟩ : ByteArray)), (by first | rfl | (simp; done) | (simp [*]; done)), (by first | rfl | (simp; done) | (simp [*]; done) | (simp; generalize ByteArray.toList _ = l_; cases l_ <;> rfl)), H', ⟨Nat.le_refl _⟩, by repeat (first | exact Drawn0.refl _ | apply Drawn0.step)⟩
  case round =>
    clear H'
    obtain ⟨x0_1, x3_1, rfl, rfl, HA, HK1, ⟨m1, rfl⟩⟩ := hrel
    cases gk with
    | zero => exact absurd HA.out (by simp [shuttlecockref01_Digits.l0])
    | succ k1 =>
      have H := HA.out
      clear HA
      simp only [shuttlecockref01_Digits.l0] at H
      by_cases c2 : x0_1 > 9
      · rw [if_pos c2] at H
        have c2b0 : decide (9 < x0_1) = true := decide_eq_true c2
        clear c2
        obtain ⟨ji3, hji3⟩ : ∃ j_ : Int, (Int.tmod x0_1 10) = j_ := ⟨_, rfl⟩
        replace H : (if 0 ≤ (ji3) then (if (ji3) ≤ (IntKind.u64.wrap ((ji3) + 1)) then (if (IntKind.u64.wrap ((ji3) + 1)) ≤ 10 then (if ((⟨#[48, 49, 50, 51, 52, 53, 54, 55, 56, 57]⟩ : ByteArray).extract ((ji3) : Int).toNat ((IntKind.u64.wrap ((ji3) + 1)) : Int).toNat).size + x3_1.size ≤ 9223372036854775807 then (shuttlecockref01_Digits.l0 k1 (IntKind.u64.wrap (Int.tdiv x0_1 10)) (((⟨#[48, 49, 50, 51, 52, 53, 54, 55, 56, 57]⟩ : ByteArray).extract ((ji3) : Int).toNat ((IntKind.u64.wrap ((ji3) + 1)) : Int).toNat) ++ x3_1)) else (none)) else (none)) else (none)) else (none)) = some r := by first | (rw [hji3] at H; exact H) | (simp only [hji3] at H ⊢; exact H)
        by_cases c4 : 0 ≤ (ji3)
        · rw [if_pos c4] at H
          have c4b0 := eq_true c4
          have c4b1 : decide (0 ≤ (ji3)) = true := decide_eq_true c4
          clear c4
          by_cases c5 : (ji3) ≤ (IntKind.u64.wrap ((ji3) + 1))
          · rw [if_pos c5] at H
            have c5b0 := eq_true c5
            have c5b1 : decide ((ji3) ≤ (IntKind.u64.wrap ((ji3) + 1))) = true := decide_eq_true c5
            by_cases c6 : (IntKind.u64.wrap ((ji3) + 1)) ≤ 10
            · rw [if_pos c6] at H
              have c6b0 := eq_true c6
              have c6b1 : decide ((IntKind.u64.wrap ((ji3) + 1)) ≤ 10) = true := decide_eq_true c6
              by_cases c7 : ((⟨#[48, 49, 50, 51, 52, 53, 54, 55, 56, 57]⟩ : ByteArray).extract ((ji3) : Int).toNat ((IntKind.u64.wrap ((ji3) + 1)) : Int).toNat).size + x3_1.size ≤ 9223372036854775807
              · rw [if_pos c7] at H
                have c7b0 := eq_true c7
                have c7b1 : decide (((⟨#[48, 49, 50, 51, 52, 53, 54, 55, 56, 57]⟩ : ByteArray).extract ((ji3) : Int).toNat ((IntKind.u64.wrap ((ji3) + 1)) : Int).toNat).size + x3_1.size ≤ 9223372036854775807) = true := decide_eq_true c7
                try have c7b2 : (9223372036854775807 < ((⟨#[48, 49, 50, 51, 52, 53, 54, 55, 56, 57]⟩ : ByteArray).extract ((ji3) : Int).toNat ((IntKind.u64.wrap ((ji3) + 1)) : Int).toNat).size + x3_1.size) = False := eq_false (Nat.not_lt.2 c7)
                have H' := Aside0.mk H
                clear H
                go_wp2
                go_roundg k1
                case measure => have := HK1.out; omega
                case rel => exact ⟨(IntKind.u64.wrap (Int.tdiv x0_1 10)), (((⟨#[48, 49, 50, 51, 52, 53, 54, 55, 56, 57]⟩ : ByteArray).extract ((ji3) : Int).toNat ((IntKind.u64.wrap ((ji3) + 1)) : Int).toNat) ++ x3_1), (by first | rfl | (simp; done) | (simp [*]; done)), (by first | rfl | (simp; done) | (simp only [← hji3] <;> (first | rfl | simp)) | (simp [*]; done)), H', ⟨by have := HK1.out; omega⟩, by repeat (first | exact Drawn0.refl _ | apply Drawn0.step)⟩
              · rw [if_neg c7] at H
                exact absurd H (by simp)
            · rw [if_neg c6] at H
              exact absurd H (by simp)
          · rw [if_neg c5] at H
            exact absurd H (by simp)
        · rw [if_neg c4] at H
          exact absurd H (by simp)
      · rw [if_neg c2] at H
        have c2b0 : decide (9 < x0_1) = false := decide_eq_false c2
        clear c2
        by_cases c8 : 0 ≤ x0_1
        · rw [if_pos c8] at H
          have c8b0 := eq_true c8
          have c8b1 : decide (0 ≤ x0_1) = true := decide_eq_true c8
          clear c8
          by_cases c9 : x0_1 ≤ (IntKind.u64.wrap (x0_1 + 1))
          · rw [if_pos c9] at H
            have c9b0 := eq_true c9
            have c9b1 : decide (x0_1 ≤ (IntKind.u64.wrap (x0_1 + 1))) = true := decide_eq_true c9
            by_cases c10 : (IntKind.u64.wrap (x0_1 + 1)) ≤ 10
            · rw [if_pos c10] at H
              have c10b0 := eq_true c10
              have c10b1 : decide ((IntKind.u64.wrap (x0_1 + 1)) ≤ 10) = true := decide_eq_true c10
              by_cases c11 : ((⟨#[48, 49, 50, 51, 52, 53, 54, 55, 56, 57]⟩ : ByteArray).extract (x0_1 : Int).toNat ((IntKind.u64.wrap (x0_1 + 1)) : Int).toNat).size + x3_1.size ≤ 9223372036854775807
              · rw [if_pos c11] at H
                have c11b0 := eq_true c11
                have c11b1 : decide (((⟨#[48, 49, 50, 51, 52, 53, 54, 55, 56, 57]⟩ : ByteArray).extract (x0_1 : Int).toNat ((IntKind.u64.wrap (x0_1 + 1)) : Int).toNat).size + x3_1.size ≤ 9223372036854775807) = true := decide_eq_true c11
                try have c11b2 : (9223372036854775807 < ((⟨#[48, 49, 50, 51, 52, 53, 54, 55, 56, 57]⟩ : ByteArray).extract (x0_1 : Int).toNat ((IntKind.u64.wrap (x0_1 + 1)) : Int).toNat).size + x3_1.size) = False := eq_false (Nat.not_lt.2 c11)
                obtain rfl := Option.some.inj H
                go_wp2
                go_ret
                exact ⟨by first | rfl | (simp; done) | (simp [*]; done), by repeat (first | exact Drawn0.refl _ | apply Drawn0.step)⟩
              · rw [if_neg c11] at H
                exact absurd H (by simp)
            · rw [if_neg c10] at H
              exact absurd H (by simp)
          · rw [if_neg c9] at H
            exact absurd H (by simp)
        · rw [if_neg c8] at H
          exact absurd H (by simp)

/-! ### shuttlecockref01_Signed: function 23 -/
def shuttlecockref01_Signed.f (k : Nat) (a0 : Int) : Option (ByteArray) := if a0 < 0 then ((shuttlecockref01_Digits.f k (IntKind.u64.wrap ((IntKind.u64.wrap (wrap64 (-(wrap64 (a0 + 1))))) + 1))).bind fun t101 => (if 1 + t101.size ≤ 9223372036854775807 then (some ((⟨#[45]⟩ : ByteArray) ++ t101)) else (none))) else ((shuttlecockref01_Digits.f k (IntKind.u64.wrap (a0))).bind fun t102 => (some t102))
theorem shuttlecockref01_Signed.mono : ∀ a0 k, LeO (shuttlecockref01_Signed.f k a0) (shuttlecockref01_Signed.f (k + 1) a0) := by
  intro a0 k
  unfold shuttlecockref01_Signed.f
  repeat' first
      | (with_reducible exact shuttlecockref01_Digits.mono _ _)
      | (with_reducible exact LeO.refl _)
      | (with_reducible exact LeO.none _)
      | (with_reducible refine LeO.ite ?_ ?_)
      | (with_reducible refine LeO.bind ?_ (fun _ => ?_))
      | exact shuttlecockref01_Digits.mono _ _
      | exact LeO.none _
      | refine LeO.ite ?_ ?_
      | refine LeO.bind ?_ (fun _ => ?_)
set_option maxHeartbeats 8000000 in
set_option maxRecDepth 100000 in
theorem shuttlecockref01_Signed.calls (k : Nat) (a0 : Int) (r : ByteArray) (w : World) (h : shuttlecockref01_Signed.f k a0 = some r) :
    Calls Tryd.prog 23 #[.int .i64 a0] w fun e w' => e = .returned (.string r) ∧ Drawn0 w w' := by
  have H : (if a0 < 0 then ((shuttlecockref01_Digits.f k (IntKind.u64.wrap ((IntKind.u64.wrap (wrap64 (-(wrap64 (a0 + 1))))) + 1))).bind fun t101 => (if 1 + t101.size ≤ 9223372036854775807 then (some ((⟨#[45]⟩ : ByteArray) ++ t101)) else (none))) else ((shuttlecockref01_Digits.f k (IntKind.u64.wrap (a0))).bind fun t102 => (some t102))) = some r := h
  clear h
  by_cases c2 : a0 < 0
  · rw [if_pos c2] at H
    have c2b0 : decide (a0 < 0) = true := decide_eq_true c2
    clear c2
    replace H := Option.bind_eq_some_iff.mp H
    obtain ⟨t101, A30, H⟩ := H
    replace H : (if 1 + t101.size ≤ 9223372036854775807 then (some ((⟨#[45]⟩ : ByteArray) ++ t101)) else (none)) = some r := H
    have A3 := Aside0.mk A30
    clear A30
    by_cases c4 : 1 + t101.size ≤ 9223372036854775807
    · rw [if_pos c4] at H
      have c4b0 := eq_true c4
      have c4b1 : decide (1 + t101.size ≤ 9223372036854775807) = true := decide_eq_true c4
      try have c4b2 : (9223372036854775807 < 1 + t101.size) = False := eq_false (Nat.not_lt.2 c4)
      obtain rfl := Option.some.inj H
      go_enter Tryd.func23, Tryd.ntmps23
      go_wp2_with (first | ((with_reducible refine gate_callee (f := 31) rfl ?_); refine goesL_ (some 10) rfl rfl Tryd.func31 (by kernel_rfl) rfl #[.int .u64 (IntKind.u64.wrap ((IntKind.u64.wrap (wrap64 (-(wrap64 (a0 + 1))))) + 1))] rfl (by (try simp only [List.map_toArray, List.map_cons, List.map_nil]); first | done | rfl | (simp only [List.length_drop, List.length_take]; rfl)) ?_; (with_reducible refine (shuttlecockref01_Digits.calls k (IntKind.u64.wrap ((IntKind.u64.wrap (wrap64 (-(wrap64 (a0 + 1))))) + 1)) t101 _ A3.out).mono ?_); rintro e w' ⟨rfl, ⟨nd, rfl⟩⟩; refine ⟨_, rfl, ?_⟩))
      go_ret
      exact ⟨by first | rfl | (simp; done) | (simp [*]; done), by repeat (first | exact Drawn0.refl _ | apply Drawn0.step)⟩
    · rw [if_neg c4] at H
      exact absurd H (by simp)
  · rw [if_neg c2] at H
    have c2b0 : decide (a0 < 0) = false := decide_eq_false c2
    clear c2
    replace H := Option.bind_eq_some_iff.mp H
    obtain ⟨t102, A50, H⟩ := H
    replace H : (some t102) = some r := H
    have A5 := Aside0.mk A50
    clear A50
    obtain rfl := Option.some.inj H
    go_enter Tryd.func23, Tryd.ntmps23
    go_wp2_with (first | ((with_reducible refine gate_callee (f := 31) rfl ?_); refine goesL_ (some 14) rfl rfl Tryd.func31 (by kernel_rfl) rfl #[.int .u64 (IntKind.u64.wrap (a0))] rfl (by (try simp only [List.map_toArray, List.map_cons, List.map_nil]); first | done | rfl | (simp only [List.length_drop, List.length_take]; rfl)) ?_; (with_reducible refine (shuttlecockref01_Digits.calls k (IntKind.u64.wrap (a0)) t102 _ A5.out).mono ?_); rintro e w' ⟨rfl, ⟨nd, rfl⟩⟩; refine ⟨_, rfl, ?_⟩))
    go_ret
    exact ⟨by first | rfl | (simp; done) | (simp [*]; done), by repeat (first | exact Drawn0.refl _ | apply Drawn0.step)⟩

/-! ### shuttlecockref03_Name: function 9 -/
def shuttlecockref03_Name.f (k : Nat) (a0 : Int) : Option (ByteArray) := (some (([(⟨#[]⟩ : ByteArray), (⟨#[112, 114, 111, 99, 115, 116, 97, 114, 116]⟩ : ByteArray), (⟨#[112, 114, 111, 99, 115, 116, 111, 112]⟩ : ByteArray), (⟨#[99, 114, 101, 97, 116, 101]⟩ : ByteArray), (⟨#[115, 116, 97, 114, 116]⟩ : ByteArray), (⟨#[115, 116, 111, 112]⟩ : ByteArray), (⟨#[98, 108, 111, 99, 107]⟩ : ByteArray), (⟨#[117, 110, 98, 108, 111, 99, 107]⟩ : ByteArray), (⟨#[101, 120, 105, 116]⟩ : ByteArray), (⟨#[115, 121, 115, 101, 110, 116, 101, 114]⟩ : ByteArray), (⟨#[115, 121, 115, 101, 120, 105, 116]⟩ : ByteArray)] : List ByteArray) : List ByteArray)).bind fun y103 => ((shuttlecockref03_Known.f a0).bind fun t106 => (if t106 = true then (if 0 ≤ a0 then (if a0 < (y103.length : Int) then (some (rdOf ByteArray.empty y103 a0)) else (none)) else (none)) else ((shuttlecockref03_Exp.f a0).bind fun t108 => (if t108 = true then ((shuttlecockref01_Signed.f k a0).bind fun t109 => (if 3 + t109.size ≤ 9223372036854775807 then (some ((⟨#[101, 120, 112]⟩ : ByteArray) ++ t109)) else (none))) else (some (⟨#[]⟩ : ByteArray))))))
theorem shuttlecockref03_Name.mono : ∀ a0 k, LeO (shuttlecockref03_Name.f k a0) (shuttlecockref03_Name.f (k + 1) a0) := by
  intro a0 k
  unfold shuttlecockref03_Name.f
  repeat' first
      | (with_reducible exact shuttlecockref01_Signed.mono _ _)
      | (with_reducible exact LeO.refl _)
      | (with_reducible exact LeO.none _)
      | (with_reducible refine LeO.ite ?_ ?_)
      | (with_reducible refine LeO.bind ?_ (fun _ => ?_))
      | exact shuttlecockref01_Signed.mono _ _
      | exact LeO.none _
      | refine LeO.ite ?_ ?_
      | refine LeO.bind ?_ (fun _ => ?_)
set_option maxHeartbeats 8000000 in
set_option maxRecDepth 100000 in
theorem shuttlecockref03_Name.calls (k : Nat) (a0 : Int) (r : ByteArray) (w : World) (h : shuttlecockref03_Name.f k a0 = some r) :
    Calls Tryd.prog 9 #[.int .i64 a0] w fun e w' => e = .returned (.string r) ∧ Below w.heap.size w w' := by
  have HB := Aside0.mk (Below.refl w.heap.size w)
  have H : ((some (([(⟨#[]⟩ : ByteArray), (⟨#[112, 114, 111, 99, 115, 116, 97, 114, 116]⟩ : ByteArray), (⟨#[112, 114, 111, 99, 115, 116, 111, 112]⟩ : ByteArray), (⟨#[99, 114, 101, 97, 116, 101]⟩ : ByteArray), (⟨#[115, 116, 97, 114, 116]⟩ : ByteArray), (⟨#[115, 116, 111, 112]⟩ : ByteArray), (⟨#[98, 108, 111, 99, 107]⟩ : ByteArray), (⟨#[117, 110, 98, 108, 111, 99, 107]⟩ : ByteArray), (⟨#[101, 120, 105, 116]⟩ : ByteArray), (⟨#[115, 121, 115, 101, 110, 116, 101, 114]⟩ : ByteArray), (⟨#[115, 121, 115, 101, 120, 105, 116]⟩ : ByteArray)] : List ByteArray) : List ByteArray)).bind fun y103 => ((shuttlecockref03_Known.f a0).bind fun t106 => (if t106 = true then (if 0 ≤ a0 then (if a0 < (y103.length : Int) then (some (rdOf ByteArray.empty y103 a0)) else (none)) else (none)) else ((shuttlecockref03_Exp.f a0).bind fun t108 => (if t108 = true then ((shuttlecockref01_Signed.f k a0).bind fun t109 => (if 3 + t109.size ≤ 9223372036854775807 then (some ((⟨#[101, 120, 112]⟩ : ByteArray) ++ t109)) else (none))) else (some (⟨#[]⟩ : ByteArray))))))) = some r := h
  clear h
  obtain ⟨y103, hy103⟩ : ∃ y_ : List ByteArray, y_ = (([(⟨#[]⟩ : ByteArray), (⟨#[112, 114, 111, 99, 115, 116, 97, 114, 116]⟩ : ByteArray), (⟨#[112, 114, 111, 99, 115, 116, 111, 112]⟩ : ByteArray), (⟨#[99, 114, 101, 97, 116, 101]⟩ : ByteArray), (⟨#[115, 116, 97, 114, 116]⟩ : ByteArray), (⟨#[115, 116, 111, 112]⟩ : ByteArray), (⟨#[98, 108, 111, 99, 107]⟩ : ByteArray), (⟨#[117, 110, 98, 108, 111, 99, 107]⟩ : ByteArray), (⟨#[101, 120, 105, 116]⟩ : ByteArray), (⟨#[115, 121, 115, 101, 110, 116, 101, 114]⟩ : ByteArray), (⟨#[115, 121, 115, 101, 120, 105, 116]⟩ : ByteArray)] : List ByteArray)) := ⟨_, rfl⟩
  replace H : ((shuttlecockref03_Known.f a0).bind fun t106 => (if t106 = true then (if 0 ≤ a0 then (if a0 < (y103.length : Int) then (some (rdOf ByteArray.empty y103 a0)) else (none)) else (none)) else ((shuttlecockref03_Exp.f a0).bind fun t108 => (if t108 = true then ((shuttlecockref01_Signed.f k a0).bind fun t109 => (if 3 + t109.size ≤ 9223372036854775807 then (some ((⟨#[101, 120, 112]⟩ : ByteArray) ++ t109)) else (none))) else (some (⟨#[]⟩ : ByteArray)))))) = some r := by first | (rw [hy103]; with_reducible exact H) | (have H2_ := (Option.bind_some _ _).symm.trans H; rw [hy103]; with_reducible exact H2_) | (have H2_ := (Option.bind_some _ _).symm.trans H; with_reducible exact H2_) | with_reducible exact H | (rw [hy103]; exact H) | exact H
  have Ny103 := Aside0.mk hy103
  clear hy103
  replace H := Option.bind_eq_some_iff.mp H
  obtain ⟨t106, A20, H⟩ := H
  replace H : (if t106 = true then (if 0 ≤ a0 then (if a0 < (y103.length : Int) then (some (rdOf ByteArray.empty y103 a0)) else (none)) else (none)) else ((shuttlecockref03_Exp.f a0).bind fun t108 => (if t108 = true then ((shuttlecockref01_Signed.f k a0).bind fun t109 => (if 3 + t109.size ≤ 9223372036854775807 then (some ((⟨#[101, 120, 112]⟩ : ByteArray) ++ t109)) else (none))) else (some (⟨#[]⟩ : ByteArray))))) = some r := H
  have A2 := Aside0.mk A20
  clear A20
  by_cases c3 : t106 = true
  · subst c3
    have H1 : (if 0 ≤ a0 then (if a0 < (y103.length : Int) then (some (rdOf ByteArray.empty y103 a0)) else (none)) else (none)) = some r := by rw [if_pos rfl] at H; exact H
    clear H
    have H := H1
    clear H1
    by_cases c4 : 0 ≤ a0
    · rw [if_pos c4] at H
      have c4b0 : decide (0 ≤ a0) = true := decide_eq_true c4
      clear c4
      by_cases c5 : a0 < (y103.length : Int)
      · rw [if_pos c5] at H
        have c5b0 : decide (a0 < (y103.length : Int)) = true := decide_eq_true c5
        clear c5
        obtain rfl := Option.some.inj H
        go_enter Tryd.func9, Tryd.ntmps9
        go_wp2_with (first | ((with_reducible refine gate_dst (N := 4) rfl ?_); refine Kd.R_lit Kd.string _ 9 ?hg (N := 4) ?hd (xs := ([(⟨#[]⟩ : ByteArray), (⟨#[112, 114, 111, 99, 115, 116, 97, 114, 116]⟩ : ByteArray), (⟨#[112, 114, 111, 99, 115, 116, 111, 112]⟩ : ByteArray), (⟨#[99, 114, 101, 97, 116, 101]⟩ : ByteArray), (⟨#[115, 116, 97, 114, 116]⟩ : ByteArray), (⟨#[115, 116, 111, 112]⟩ : ByteArray), (⟨#[98, 108, 111, 99, 107]⟩ : ByteArray), (⟨#[117, 110, 98, 108, 111, 99, 107]⟩ : ByteArray), (⟨#[101, 120, 105, 116]⟩ : ByteArray), (⟨#[115, 121, 115, 101, 110, 116, 101, 114]⟩ : ByteArray), (⟨#[115, 121, 115, 101, 120, 105, 116]⟩ : ByteArray)] : List ByteArray)) (inner := [.string (⟨#[]⟩ : ByteArray), .string (⟨#[112, 114, 111, 99, 115, 116, 97, 114, 116]⟩ : ByteArray), .string (⟨#[112, 114, 111, 99, 115, 116, 111, 112]⟩ : ByteArray), .string (⟨#[99, 114, 101, 97, 116, 101]⟩ : ByteArray), .string (⟨#[115, 116, 97, 114, 116]⟩ : ByteArray), .string (⟨#[115, 116, 111, 112]⟩ : ByteArray), .string (⟨#[98, 108, 111, 99, 107]⟩ : ByteArray), .string (⟨#[117, 110, 98, 108, 111, 99, 107]⟩ : ByteArray), .string (⟨#[101, 120, 105, 116]⟩ : ByteArray), .string (⟨#[115, 121, 115, 101, 110, 116, 101, 114]⟩ : ByteArray), .string (⟨#[115, 121, 115, 101, 120, 105, 116]⟩ : ByteArray)]) (ok := fun _ => True) (okp := fun _ => True) ?hr ?hp (fun _ hk => hk) trivial (Below.refl _ _) (Nat.le_refl _) (by simp) ?_; (case hd => rfl); (case hg => rfl); (case hr => first | (go_simp; done) | (go_simp; rfl)); (case hp => exact (Reps.one (show Kd.M Kd.string _ _ _ (⟨#[]⟩ : ByteArray) [.string (⟨#[]⟩ : ByteArray)] from rfl) (Reps.one (show Kd.M Kd.string _ _ _ (⟨#[112, 114, 111, 99, 115, 116, 97, 114, 116]⟩ : ByteArray) [.string (⟨#[112, 114, 111, 99, 115, 116, 97, 114, 116]⟩ : ByteArray)] from rfl) (Reps.one (show Kd.M Kd.string _ _ _ (⟨#[112, 114, 111, 99, 115, 116, 111, 112]⟩ : ByteArray) [.string (⟨#[112, 114, 111, 99, 115, 116, 111, 112]⟩ : ByteArray)] from rfl) (Reps.one (show Kd.M Kd.string _ _ _ (⟨#[99, 114, 101, 97, 116, 101]⟩ : ByteArray) [.string (⟨#[99, 114, 101, 97, 116, 101]⟩ : ByteArray)] from rfl) (Reps.one (show Kd.M Kd.string _ _ _ (⟨#[115, 116, 97, 114, 116]⟩ : ByteArray) [.string (⟨#[115, 116, 97, 114, 116]⟩ : ByteArray)] from rfl) (Reps.one (show Kd.M Kd.string _ _ _ (⟨#[115, 116, 111, 112]⟩ : ByteArray) [.string (⟨#[115, 116, 111, 112]⟩ : ByteArray)] from rfl) (Reps.one (show Kd.M Kd.string _ _ _ (⟨#[98, 108, 111, 99, 107]⟩ : ByteArray) [.string (⟨#[98, 108, 111, 99, 107]⟩ : ByteArray)] from rfl) (Reps.one (show Kd.M Kd.string _ _ _ (⟨#[117, 110, 98, 108, 111, 99, 107]⟩ : ByteArray) [.string (⟨#[117, 110, 98, 108, 111, 99, 107]⟩ : ByteArray)] from rfl) (Reps.one (show Kd.M Kd.string _ _ _ (⟨#[101, 120, 105, 116]⟩ : ByteArray) [.string (⟨#[101, 120, 105, 116]⟩ : ByteArray)] from rfl) (Reps.one (show Kd.M Kd.string _ _ _ (⟨#[115, 121, 115, 101, 110, 116, 101, 114]⟩ : ByteArray) [.string (⟨#[115, 121, 115, 101, 110, 116, 101, 114]⟩ : ByteArray)] from rfl) (Reps.one (show Kd.M Kd.string _ _ _ (⟨#[115, 121, 115, 101, 120, 105, 116]⟩ : ByteArray) [.string (⟨#[115, 121, 115, 101, 120, 105, 116]⟩ : ByteArray)] from rfl) (Reps.none _ _))))))))))))); intro v104 w6 ho7 hb hg_ hnew_; clear hg_ hnew_; (first | rw [← Ny103.out] at ho7 | (simp only [Int.reduceToNat] at ho7; rw [← Ny103.out] at ho7)); have n0_ := Aside0.mk (Kd.R_lower ho7 (below_size (by repeat (first | (with_reducible first | exact HB.out | apply below_alloc | apply pw_below_drewN | apply below_drew1) | exact HB.out | exact HBo.out)))); have n1_ := Aside0.mk (below_step (by repeat (first | (with_reducible first | exact HB.out | apply below_alloc | apply pw_below_drewN | apply below_drew1) | exact HB.out | exact HBo.out)) hb); clear HB; have HO105 := n0_; have HB := n1_; clear n0_ n1_; clear hb ho7) | ((with_reducible refine gate_callee (f := 14) rfl ?_); refine goesL_ (some 6) rfl rfl Tryd.func14 (by kernel_rfl) rfl #[.int .i64 a0] rfl (by (try simp only [List.map_toArray, List.map_cons, List.map_nil]); first | done | rfl | (simp only [List.length_drop, List.length_take]; rfl)) ?_; (with_reducible refine (shuttlecockref03_Known.calls a0 true _ A2.out).mono ?_); rintro e w' ⟨rfl, ⟨nd, rfl⟩⟩; refine ⟨_, rfl, ?_⟩; obtain ⟨Ao8, co8, eo8⟩ := Kd.R_slice HO105.out; subst eo8; have p107 : 0 ≤ (a0 : Int) := of_decide_eq_true (by first | (with_reducible assumption) | assumption); have q107 : a0 < (y103.length : Int) := of_decide_eq_true (by first | (with_reducible assumption) | assumption); obtain ⟨ad107, e107, hx107_0⟩ := Kd.at_string (Kd.R_reads' HO105.out).2.2 a0 p107 q107; cases e107; replace p107 := eq_true p107; replace q107 := eq_true q107))
        go_ret
        exact ⟨by first | rfl | (simp [errW_none, errW_some] <;> rfl) | (simp [*, errW_none, errW_some] <;> rfl) | (simp [Aid.ne_nil, Aid.eq_nil, errW_none, errW_some]; done), by repeat (first | (with_reducible first | exact HB.out | apply below_alloc | apply pw_below_drewN | apply below_drew1) | exact HB.out | exact HBo.out)⟩
      · rw [if_neg c5] at H
        exact absurd H (by simp)
    · rw [if_neg c4] at H
      exact absurd H (by simp)
  · replace c3 := Bool.eq_false_iff.mpr c3
    subst c3
    have H1 : ((shuttlecockref03_Exp.f a0).bind fun t108 => (if t108 = true then ((shuttlecockref01_Signed.f k a0).bind fun t109 => (if 3 + t109.size ≤ 9223372036854775807 then (some ((⟨#[101, 120, 112]⟩ : ByteArray) ++ t109)) else (none))) else (some (⟨#[]⟩ : ByteArray)))) = some r := by rw [if_neg (show ¬ (false = true) by decide)] at H; exact H
    clear H
    have H := H1
    clear H1
    replace H := Option.bind_eq_some_iff.mp H
    obtain ⟨t108, A90, H⟩ := H
    replace H : (if t108 = true then ((shuttlecockref01_Signed.f k a0).bind fun t109 => (if 3 + t109.size ≤ 9223372036854775807 then (some ((⟨#[101, 120, 112]⟩ : ByteArray) ++ t109)) else (none))) else (some (⟨#[]⟩ : ByteArray))) = some r := H
    have A9 := Aside0.mk A90
    clear A90
    by_cases c10 : t108 = true
    · subst c10
      have H1 : ((shuttlecockref01_Signed.f k a0).bind fun t109 => (if 3 + t109.size ≤ 9223372036854775807 then (some ((⟨#[101, 120, 112]⟩ : ByteArray) ++ t109)) else (none))) = some r := by rw [if_pos rfl] at H; exact H
      clear H
      have H := H1
      clear H1
      replace H := Option.bind_eq_some_iff.mp H
      obtain ⟨t109, A110, H⟩ := H
      replace H : (if 3 + t109.size ≤ 9223372036854775807 then (some ((⟨#[101, 120, 112]⟩ : ByteArray) ++ t109)) else (none)) = some r := H
      have A11 := Aside0.mk A110
      clear A110
      by_cases c12 : 3 + t109.size ≤ 9223372036854775807
      · rw [if_pos c12] at H
        have c12b0 := eq_true c12
        have c12b1 : decide (3 + t109.size ≤ 9223372036854775807) = true := decide_eq_true c12
        try have c12b2 : (9223372036854775807 < 3 + t109.size) = False := eq_false (Nat.not_lt.2 c12)
        obtain rfl := Option.some.inj H
        go_enter Tryd.func9, Tryd.ntmps9
        go_wp2_with (first | ((with_reducible refine gate_dst (N := 4) rfl ?_); refine Kd.R_lit Kd.string _ 9 ?hg (N := 4) ?hd (xs := ([(⟨#[]⟩ : ByteArray), (⟨#[112, 114, 111, 99, 115, 116, 97, 114, 116]⟩ : ByteArray), (⟨#[112, 114, 111, 99, 115, 116, 111, 112]⟩ : ByteArray), (⟨#[99, 114, 101, 97, 116, 101]⟩ : ByteArray), (⟨#[115, 116, 97, 114, 116]⟩ : ByteArray), (⟨#[115, 116, 111, 112]⟩ : ByteArray), (⟨#[98, 108, 111, 99, 107]⟩ : ByteArray), (⟨#[117, 110, 98, 108, 111, 99, 107]⟩ : ByteArray), (⟨#[101, 120, 105, 116]⟩ : ByteArray), (⟨#[115, 121, 115, 101, 110, 116, 101, 114]⟩ : ByteArray), (⟨#[115, 121, 115, 101, 120, 105, 116]⟩ : ByteArray)] : List ByteArray)) (inner := [.string (⟨#[]⟩ : ByteArray), .string (⟨#[112, 114, 111, 99, 115, 116, 97, 114, 116]⟩ : ByteArray), .string (⟨#[112, 114, 111, 99, 115, 116, 111, 112]⟩ : ByteArray), .string (⟨#[99, 114, 101, 97, 116, 101]⟩ : ByteArray), .string (⟨#[115, 116, 97, 114, 116]⟩ : ByteArray), .string (⟨#[115, 116, 111, 112]⟩ : ByteArray), .string (⟨#[98, 108, 111, 99, 107]⟩ : ByteArray), .string (⟨#[117, 110, 98, 108, 111, 99, 107]⟩ : ByteArray), .string (⟨#[101, 120, 105, 116]⟩ : ByteArray), .string (⟨#[115, 121, 115, 101, 110, 116, 101, 114]⟩ : ByteArray), .string (⟨#[115, 121, 115, 101, 120, 105, 116]⟩ : ByteArray)]) (ok := fun _ => True) (okp := fun _ => True) ?hr ?hp (fun _ hk => hk) trivial (Below.refl _ _) (Nat.le_refl _) (by simp) ?_; (case hd => rfl); (case hg => rfl); (case hr => first | (go_simp; done) | (go_simp; rfl)); (case hp => exact (Reps.one (show Kd.M Kd.string _ _ _ (⟨#[]⟩ : ByteArray) [.string (⟨#[]⟩ : ByteArray)] from rfl) (Reps.one (show Kd.M Kd.string _ _ _ (⟨#[112, 114, 111, 99, 115, 116, 97, 114, 116]⟩ : ByteArray) [.string (⟨#[112, 114, 111, 99, 115, 116, 97, 114, 116]⟩ : ByteArray)] from rfl) (Reps.one (show Kd.M Kd.string _ _ _ (⟨#[112, 114, 111, 99, 115, 116, 111, 112]⟩ : ByteArray) [.string (⟨#[112, 114, 111, 99, 115, 116, 111, 112]⟩ : ByteArray)] from rfl) (Reps.one (show Kd.M Kd.string _ _ _ (⟨#[99, 114, 101, 97, 116, 101]⟩ : ByteArray) [.string (⟨#[99, 114, 101, 97, 116, 101]⟩ : ByteArray)] from rfl) (Reps.one (show Kd.M Kd.string _ _ _ (⟨#[115, 116, 97, 114, 116]⟩ : ByteArray) [.string (⟨#[115, 116, 97, 114, 116]⟩ : ByteArray)] from rfl) (Reps.one (show Kd.M Kd.string _ _ _ (⟨#[115, 116, 111, 112]⟩ : ByteArray) [.string (⟨#[115, 116, 111, 112]⟩ : ByteArray)] from rfl) (Reps.one (show Kd.M Kd.string _ _ _ (⟨#[98, 108, 111, 99, 107]⟩ : ByteArray) [.string (⟨#[98, 108, 111, 99, 107]⟩ : ByteArray)] from rfl) (Reps.one (show Kd.M Kd.string _ _ _ (⟨#[117, 110, 98, 108, 111, 99, 107]⟩ : ByteArray) [.string (⟨#[117, 110, 98, 108, 111, 99, 107]⟩ : ByteArray)] from rfl) (Reps.one (show Kd.M Kd.string _ _ _ (⟨#[101, 120, 105, 116]⟩ : ByteArray) [.string (⟨#[101, 120, 105, 116]⟩ : ByteArray)] from rfl) (Reps.one (show Kd.M Kd.string _ _ _ (⟨#[115, 121, 115, 101, 110, 116, 101, 114]⟩ : ByteArray) [.string (⟨#[115, 121, 115, 101, 110, 116, 101, 114]⟩ : ByteArray)] from rfl) (Reps.one (show Kd.M Kd.string _ _ _ (⟨#[115, 121, 115, 101, 120, 105, 116]⟩ : ByteArray) [.string (⟨#[115, 121, 115, 101, 120, 105, 116]⟩ : ByteArray)] from rfl) (Reps.none _ _))))))))))))); intro v104 w13 ho14 hb hg_ hnew_; clear hg_ hnew_; (first | rw [← Ny103.out] at ho14 | (simp only [Int.reduceToNat] at ho14; rw [← Ny103.out] at ho14)); have n0_ := Aside0.mk (Kd.R_lower ho14 (below_size (by repeat (first | (with_reducible first | exact HB.out | apply below_alloc | apply pw_below_drewN | apply below_drew1) | exact HB.out | exact HBo.out)))); have n1_ := Aside0.mk (below_step (by repeat (first | (with_reducible first | exact HB.out | apply below_alloc | apply pw_below_drewN | apply below_drew1) | exact HB.out | exact HBo.out)) hb); clear HB; have HO105 := n0_; have HB := n1_; clear n0_ n1_; clear hb ho14) | ((with_reducible refine gate_callee (f := 14) rfl ?_); refine goesL_ (some 6) rfl rfl Tryd.func14 (by kernel_rfl) rfl #[.int .i64 a0] rfl (by (try simp only [List.map_toArray, List.map_cons, List.map_nil]); first | done | rfl | (simp only [List.length_drop, List.length_take]; rfl)) ?_; (with_reducible refine (shuttlecockref03_Known.calls a0 false _ A2.out).mono ?_); rintro e w' ⟨rfl, ⟨nd, rfl⟩⟩; refine ⟨_, rfl, ?_⟩) | ((with_reducible refine gate_callee (f := 16) rfl ?_); refine goesL_ (some 12) rfl rfl Tryd.func16 (by kernel_rfl) rfl #[.int .i64 a0] rfl (by (try simp only [List.map_toArray, List.map_cons, List.map_nil]); first | done | rfl | (simp only [List.length_drop, List.length_take]; rfl)) ?_; (with_reducible refine (shuttlecockref03_Exp.calls a0 true _ A9.out).mono ?_); rintro e w' ⟨rfl, ⟨nd, rfl⟩⟩; refine ⟨_, rfl, ?_⟩) | ((with_reducible refine gate_callee (f := 23) rfl ?_); refine goesL_ (some 14) rfl rfl Tryd.func23 (by kernel_rfl) rfl #[.int .i64 a0] rfl (by (try simp only [List.map_toArray, List.map_cons, List.map_nil]); first | done | rfl | (simp only [List.length_drop, List.length_take]; rfl)) ?_; (with_reducible refine (shuttlecockref01_Signed.calls k a0 t109 _ A11.out).mono ?_); rintro e w' ⟨rfl, ⟨nd, rfl⟩⟩; refine ⟨_, rfl, ?_⟩))
        go_ret
        exact ⟨by first | rfl | (simp [errW_none, errW_some] <;> rfl) | (simp [*, errW_none, errW_some] <;> rfl) | (simp [Aid.ne_nil, Aid.eq_nil, errW_none, errW_some]; done), by repeat (first | (with_reducible first | exact HB.out | apply below_alloc | apply pw_below_drewN | apply below_drew1) | exact HB.out | exact HBo.out)⟩
      · rw [if_neg c12] at H
        exact absurd H (by simp)
    · replace c10 := Bool.eq_false_iff.mpr c10
      subst c10
      have H1 : (some (⟨#[]⟩ : ByteArray)) = some r := by rw [if_neg (show ¬ (false = true) by decide)] at H; exact H
      clear H
      have H := H1
      clear H1
      obtain rfl := Option.some.inj H
      go_enter Tryd.func9, Tryd.ntmps9
      go_wp2_with (first | ((with_reducible refine gate_dst (N := 4) rfl ?_); refine Kd.R_lit Kd.string _ 9 ?hg (N := 4) ?hd (xs := ([(⟨#[]⟩ : ByteArray), (⟨#[112, 114, 111, 99, 115, 116, 97, 114, 116]⟩ : ByteArray), (⟨#[112, 114, 111, 99, 115, 116, 111, 112]⟩ : ByteArray), (⟨#[99, 114, 101, 97, 116, 101]⟩ : ByteArray), (⟨#[115, 116, 97, 114, 116]⟩ : ByteArray), (⟨#[115, 116, 111, 112]⟩ : ByteArray), (⟨#[98, 108, 111, 99, 107]⟩ : ByteArray), (⟨#[117, 110, 98, 108, 111, 99, 107]⟩ : ByteArray), (⟨#[101, 120, 105, 116]⟩ : ByteArray), (⟨#[115, 121, 115, 101, 110, 116, 101, 114]⟩ : ByteArray), (⟨#[115, 121, 115, 101, 120, 105, 116]⟩ : ByteArray)] : List ByteArray)) (inner := [.string (⟨#[]⟩ : ByteArray), .string (⟨#[112, 114, 111, 99, 115, 116, 97, 114, 116]⟩ : ByteArray), .string (⟨#[112, 114, 111, 99, 115, 116, 111, 112]⟩ : ByteArray), .string (⟨#[99, 114, 101, 97, 116, 101]⟩ : ByteArray), .string (⟨#[115, 116, 97, 114, 116]⟩ : ByteArray), .string (⟨#[115, 116, 111, 112]⟩ : ByteArray), .string (⟨#[98, 108, 111, 99, 107]⟩ : ByteArray), .string (⟨#[117, 110, 98, 108, 111, 99, 107]⟩ : ByteArray), .string (⟨#[101, 120, 105, 116]⟩ : ByteArray), .string (⟨#[115, 121, 115, 101, 110, 116, 101, 114]⟩ : ByteArray), .string (⟨#[115, 121, 115, 101, 120, 105, 116]⟩ : ByteArray)]) (ok := fun _ => True) (okp := fun _ => True) ?hr ?hp (fun _ hk => hk) trivial (Below.refl _ _) (Nat.le_refl _) (by simp) ?_; (case hd => rfl); (case hg => rfl); (case hr => first | (go_simp; done) | (go_simp; rfl)); (case hp => exact (Reps.one (show Kd.M Kd.string _ _ _ (⟨#[]⟩ : ByteArray) [.string (⟨#[]⟩ : ByteArray)] from rfl) (Reps.one (show Kd.M Kd.string _ _ _ (⟨#[112, 114, 111, 99, 115, 116, 97, 114, 116]⟩ : ByteArray) [.string (⟨#[112, 114, 111, 99, 115, 116, 97, 114, 116]⟩ : ByteArray)] from rfl) (Reps.one (show Kd.M Kd.string _ _ _ (⟨#[112, 114, 111, 99, 115, 116, 111, 112]⟩ : ByteArray) [.string (⟨#[112, 114, 111, 99, 115, 116, 111, 112]⟩ : ByteArray)] from rfl) (Reps.one (show Kd.M Kd.string _ _ _ (⟨#[99, 114, 101, 97, 116, 101]⟩ : ByteArray) [.string (⟨#[99, 114, 101, 97, 116, 101]⟩ : ByteArray)] from rfl) (Reps.one (show Kd.M Kd.string _ _ _ (⟨#[115, 116, 97, 114, 116]⟩ : ByteArray) [.string (⟨#[115, 116, 97, 114, 116]⟩ : ByteArray)] from rfl) (Reps.one (show Kd.M Kd.string _ _ _ (⟨#[115, 116, 111, 112]⟩ : ByteArray) [.string (⟨#[115, 116, 111, 112]⟩ : ByteArray)] from rfl) (Reps.one (show Kd.M Kd.string _ _ _ (⟨#[98, 108, 111, 99, 107]⟩ : ByteArray) [.string (⟨#[98, 108, 111, 99, 107]⟩ : ByteArray)] from rfl) (Reps.one (show Kd.M Kd.string _ _ _ (⟨#[117, 110, 98, 108, 111, 99, 107]⟩ : ByteArray) [.string (⟨#[117, 110, 98, 108, 111, 99, 107]⟩ : ByteArray)] from rfl) (Reps.one (show Kd.M Kd.string _ _ _ (⟨#[101, 120, 105, 116]⟩ : ByteArray) [.string (⟨#[101, 120, 105, 116]⟩ : ByteArray)] from rfl) (Reps.one (show Kd.M Kd.string _ _ _ (⟨#[115, 121, 115, 101, 110, 116, 101, 114]⟩ : ByteArray) [.string (⟨#[115, 121, 115, 101, 110, 116, 101, 114]⟩ : ByteArray)] from rfl) (Reps.one (show Kd.M Kd.string _ _ _ (⟨#[115, 121, 115, 101, 120, 105, 116]⟩ : ByteArray) [.string (⟨#[115, 121, 115, 101, 120, 105, 116]⟩ : ByteArray)] from rfl) (Reps.none _ _))))))))))))); intro v104 w15 ho16 hb hg_ hnew_; clear hg_ hnew_; (first | rw [← Ny103.out] at ho16 | (simp only [Int.reduceToNat] at ho16; rw [← Ny103.out] at ho16)); have n0_ := Aside0.mk (Kd.R_lower ho16 (below_size (by repeat (first | (with_reducible first | exact HB.out | apply below_alloc | apply pw_below_drewN | apply below_drew1) | exact HB.out | exact HBo.out)))); have n1_ := Aside0.mk (below_step (by repeat (first | (with_reducible first | exact HB.out | apply below_alloc | apply pw_below_drewN | apply below_drew1) | exact HB.out | exact HBo.out)) hb); clear HB; have HO105 := n0_; have HB := n1_; clear n0_ n1_; clear hb ho16) | ((with_reducible refine gate_callee (f := 14) rfl ?_); refine goesL_ (some 6) rfl rfl Tryd.func14 (by kernel_rfl) rfl #[.int .i64 a0] rfl (by (try simp only [List.map_toArray, List.map_cons, List.map_nil]); first | done | rfl | (simp only [List.length_drop, List.length_take]; rfl)) ?_; (with_reducible refine (shuttlecockref03_Known.calls a0 false _ A2.out).mono ?_); rintro e w' ⟨rfl, ⟨nd, rfl⟩⟩; refine ⟨_, rfl, ?_⟩) | ((with_reducible refine gate_callee (f := 16) rfl ?_); refine goesL_ (some 12) rfl rfl Tryd.func16 (by kernel_rfl) rfl #[.int .i64 a0] rfl (by (try simp only [List.map_toArray, List.map_cons, List.map_nil]); first | done | rfl | (simp only [List.length_drop, List.length_take]; rfl)) ?_; (with_reducible refine (shuttlecockref03_Exp.calls a0 false _ A9.out).mono ?_); rintro e w' ⟨rfl, ⟨nd, rfl⟩⟩; refine ⟨_, rfl, ?_⟩))
      go_ret
      exact ⟨by first | rfl | (simp [errW_none, errW_some] <;> rfl) | (simp [*, errW_none, errW_some] <;> rfl) | (simp [Aid.ne_nil, Aid.eq_nil, errW_none, errW_some]; done), by repeat (first | (with_reducible first | exact HB.out | apply below_alloc | apply pw_below_drewN | apply below_drew1) | exact HB.out | exact HBo.out)⟩

/-! ### shuttlecockref01_Ints: function 10 -/
def shuttlecockref01_Ints.l0 : Nat → List Int → List Int → Int → Option (Bool)
  | 0, _, _, _ => none
  | k + 1, x0, x1, x5 => if x5 < (x0.length : Int) then (if 0 ≤ x5 then (if x5 < (x1.length : Int) then (if (rd x0 x5) = (rd x1 x5) then (shuttlecockref01_Ints.l0 k x0 x1 (wrap64 (x5 + 1))) else (some false)) else (none)) else (none)) else (some true)
def shuttlecockref01_Ints.f (k : Nat) (l0 : List Int) (l1 : List Int) : Option (Bool) := if (l0.length : Int) = (l1.length : Int) then (shuttlecockref01_Ints.l0 k l0 l1 0) else (some false)
theorem shuttlecockref01_Ints.mono_l : ∀ k, (∀ y0 y1 y2, LeO (shuttlecockref01_Ints.l0 k y0 y1 y2) (shuttlecockref01_Ints.l0 (k + 1) y0 y1 y2))
  | 0 => fun _ _ _ r h => by simp [shuttlecockref01_Ints.l0] at h
  | k + 1 => by
    have ih0 := shuttlecockref01_Ints.mono_l k
    · intro y0 y1 y2
      unfold shuttlecockref01_Ints.l0
      repeat' first
      | (with_reducible exact ih0 _ _ _)
      | (with_reducible exact LeO.refl _)
      | (with_reducible exact LeO.none _)
      | (with_reducible refine LeO.ite ?_ ?_)
      | (with_reducible refine LeO.bind ?_ (fun _ => ?_))
      | exact ih0 _ _ _
      | exact LeO.none _
      | refine LeO.ite ?_ ?_
      | refine LeO.bind ?_ (fun _ => ?_)
theorem shuttlecockref01_Ints.mono : ∀ a0 a1 k, LeO (shuttlecockref01_Ints.f k a0 a1) (shuttlecockref01_Ints.f (k + 1) a0 a1) := by
  intro a0 a1 k
  have ih0 := shuttlecockref01_Ints.mono_l k
  unfold shuttlecockref01_Ints.f
  repeat' first
      | (with_reducible exact ih0 _ _ _)
      | (with_reducible exact LeO.refl _)
      | (with_reducible exact LeO.none _)
      | (with_reducible refine LeO.ite ?_ ?_)
      | (with_reducible refine LeO.bind ?_ (fun _ => ?_))
      | exact ih0 _ _ _
      | exact LeO.none _
      | refine LeO.ite ?_ ?_
      | refine LeO.bind ?_ (fun _ => ?_)
set_option maxHeartbeats 8000000 in
set_option maxRecDepth 100000 in
theorem shuttlecockref01_Ints.calls (k : Nat) (A0 : Option Addr) (c0 : Nat) (l0 : List Int) (A1 : Option Addr) (c1 : Nat) (l1 : List Int) (r : Bool) (w : World) (hr0 : Kd.C (Kd.int .i64) w A0 l0.length l0) (hc0 : l0.length ≤ c0) (hr1 : Kd.C (Kd.int .i64) w A1 l1.length l1) (hc1 : l1.length ≤ c1) (h : shuttlecockref01_Ints.f k l0 l1 = some r) :
    Calls Tryd.prog 10 #[.slice A0 l0.length c0, .slice A1 l1.length c1] w fun e w' => e = .returned (.bool r) ∧ Drawn0 w w' := by
  have HR0 := Aside0.mk hr0
  have HC0 := Aside0.mk hc0
  clear hr0 hc0
  have HR1 := Aside0.mk hr1
  have HC1 := Aside0.mk hc1
  clear hr1 hc1
  have H : (if (l0.length : Int) = (l1.length : Int) then (shuttlecockref01_Ints.l0 k l0 l1 0) else (some false)) = some r := h
  clear h
  by_cases c3 : (l0.length : Int) = (l1.length : Int)
  · rw [if_pos c3] at H
    have c3b0 : ((l0.length : Int) == (l1.length : Int)) = true := beq_iff_eq.mpr c3
    have c3b1 : ((l0.length : Int) != (l1.length : Int)) = false := bne_eq_false_iff_eq.mpr c3
    have c3b2 : (l0.length == l1.length) = true := by first | simpa using c3 | (simp at c3 ⊢; omega)
    clear c3
    have H' := Aside0.mk H
    clear H
    go_enter Tryd.func10, Tryd.ntmps10
    go_wp2
    repeat (go_quiet (fail); try go_wp2)
    go_loopg [5] k (fun kq v5 w' => ∃ (x5_1 : Int), v5 = .int .i64 x5_1 ∧ Aside0 (shuttlecockref01_Ints.l0 kq l0 l1 x5_1 = some r) ∧ Aside0 (kq ≤ k) ∧ Drawn0 w w')
    case atStart => exact ⟨(0), (by first | rfl | (simp; done) | (simp [*]; done) | (simp; generalize ByteArray.toList _ = l_; cases l_ <;> rfl)), H', ⟨Nat.le_refl _⟩, by repeat (first | exact Drawn0.refl _ | apply Drawn0.step)⟩
    case round =>
      clear H'
      try clear c1
      try clear p2
      try clear c3
      try clear c3b0
      try clear c3b1
      try clear c3b2
      obtain ⟨x5_1, rfl, HA, HK1, ⟨m1, rfl⟩⟩ := hrel
      cases gk with
      | zero => exact absurd HA.out (by simp [shuttlecockref01_Ints.l0])
      | succ k1 =>
        have H := HA.out
        clear HA
        simp only [shuttlecockref01_Ints.l0] at H
        by_cases c4 : x5_1 < (l0.length : Int)
        · rw [if_pos c4] at H
          have c4b0 : decide (x5_1 < (l0.length : Int)) = true := decide_eq_true c4
          clear c4
          by_cases c5 : 0 ≤ x5_1
          · rw [if_pos c5] at H
            have c5b0 : decide (0 ≤ x5_1) = true := decide_eq_true c5
            clear c5
            by_cases c6 : x5_1 < (l1.length : Int)
            · rw [if_pos c6] at H
              have c6b0 : decide (x5_1 < (l1.length : Int)) = true := decide_eq_true c6
              clear c6
              by_cases c7 : (rd l0 x5_1) = (rd l1 x5_1)
              · rw [if_pos c7] at H
                have c7b0 : ((rd l0 x5_1) == (rd l1 x5_1)) = true := beq_iff_eq.mpr c7
                have c7b1 : ((rd l0 x5_1) != (rd l1 x5_1)) = false := bne_eq_false_iff_eq.mpr c7
                clear c7
                have H' := Aside0.mk H
                clear H
                have p110 : 0 ≤ (x5_1 : Int) := of_decide_eq_true (by first | (with_reducible assumption) | assumption)
                have q110 : x5_1 < (l0.length : Int) := of_decide_eq_true (by first | (with_reducible assumption) | assumption)
                obtain ⟨ad110, e110, hx110_0⟩ := Kd.at_int HR0.out x5_1 p110 q110
                cases e110
                replace p110 := eq_true p110
                replace q110 := eq_true q110
                have p111 : 0 ≤ (x5_1 : Int) := of_decide_eq_true (by first | (with_reducible assumption) | assumption)
                have q111 : x5_1 < (l1.length : Int) := of_decide_eq_true (by first | (with_reducible assumption) | assumption)
                obtain ⟨ad111, e111, hx111_0⟩ := Kd.at_int HR1.out x5_1 p111 q111
                cases e111
                replace p111 := eq_true p111
                replace q111 := eq_true q111
                go_wp2
                repeat (go_quiet (fail); try go_wp2)
                go_roundg k1
                case measure => have := HK1.out; omega
                case rel => exact ⟨(wrap64 (x5_1 + 1)), (by first | rfl | (simp; done) | (simp [*]; done) | (simp; generalize ByteArray.toList _ = l_; cases l_ <;> rfl)), H', ⟨by have := HK1.out; omega⟩, by repeat (first | exact Drawn0.refl _ | apply Drawn0.step)⟩
              · rw [if_neg c7] at H
                have c7b0 : ((rd l0 x5_1) == (rd l1 x5_1)) = false := beq_eq_false_iff_ne.mpr c7
                have c7b1 : ((rd l0 x5_1) != (rd l1 x5_1)) = true := bne_iff_ne.mpr c7
                obtain rfl := Option.some.inj H
                have p110 : 0 ≤ (x5_1 : Int) := of_decide_eq_true (by first | (with_reducible assumption) | assumption)
                have q110 : x5_1 < (l0.length : Int) := of_decide_eq_true (by first | (with_reducible assumption) | assumption)
                obtain ⟨ad110, e110, hx110_0⟩ := Kd.at_int HR0.out x5_1 p110 q110
                cases e110
                replace p110 := eq_true p110
                replace q110 := eq_true q110
                have p111 : 0 ≤ (x5_1 : Int) := of_decide_eq_true (by first | (with_reducible assumption) | assumption)
                have q111 : x5_1 < (l1.length : Int) := of_decide_eq_true (by first | (with_reducible assumption) | assumption)
                obtain ⟨ad111, e111, hx111_0⟩ := Kd.at_int HR1.out x5_1 p111 q111
                cases e111
                replace p111 := eq_true p111
                replace q111 := eq_true q111
                go_wp2
                repeat (go_quiet (fail); try go_wp2)
                go_ret
                exact ⟨by first | rfl | (simp; done) | (simp [*]; done), by repeat (first | exact Drawn0.refl _ | apply Drawn0.step)⟩
            · rw [if_neg c6] at H
              exact absurd H (by simp)
          · rw [if_neg c5] at H
            exact absurd H (by simp)
        · rw [if_neg c4] at H
          have c4b0 : decide (x5_1 < (l0.length : Int)) = false := decide_eq_false c4
          clear c4
          obtain rfl := Option.some.inj H
          go_wp2
          repeat (go_quiet (fail); try go_wp2)
          go_ret
          exact ⟨by first | rfl | (simp; done) | (simp [*]; done), by repeat (first | exact Drawn0.refl _ | apply Drawn0.step)⟩
  · rw [if_neg c3] at H
    have c3b0 : ((l0.length : Int) == (l1.length : Int)) = false := beq_eq_false_iff_ne.mpr c3
    have c3b1 : ((l0.length : Int) != (l1.length : Int)) = true := bne_iff_ne.mpr c3
    have c3b2 : (l0.length == l1.length) = false := by first | simpa using c3 | (simp at c3 ⊢; omega)
    obtain rfl := Option.some.inj H
    go_enter Tryd.func10, Tryd.ntmps10
    go_wp2
    repeat (go_quiet (fail); try go_wp2)
    go_ret
    exact ⟨by first | rfl | (simp; done) | (simp [*]; done), by repeat (first | exact Drawn0.refl _ | apply Drawn0.step)⟩

/-! ### shuttlecockref03_Args: function 12 -/
def shuttlecockref03_Args.j0 : Nat → Int → Bool → Option (List Int)
  | 0, _, _ => none
  | k + 1, x3, x13 => if x13 = true then (some (([3, 4] : List Int))) else (if x3 = 7 then (some (([1, 2, 4] : List Int))) else (if x3 = 9 then (some (([4] : List Int))) else (if x3 = 10 then (some (([5, 2] : List Int))) else (some ([] : List Int)))))
def shuttlecockref03_Args.f (k : Nat) (a0 : Int) : Option (List Int) := if a0 = 1 then (some (([0, 2] : List Int))) else (if a0 = 3 then (some (([1, 4] : List Int))) else (if a0 = 4 then (some (([1, 2] : List Int))) else (if a0 = 5 then (shuttlecockref03_Args.j0 k a0 (a0 == 5)) else (shuttlecockref03_Args.j0 k a0 (a0 == 6)))))
theorem shuttlecockref03_Args.mono_l : ∀ k, (∀ y0 y1, LeO (shuttlecockref03_Args.j0 k y0 y1) (shuttlecockref03_Args.j0 (k + 1) y0 y1))
  | 0 => fun _ _ r h => by simp [shuttlecockref03_Args.j0] at h
  | k + 1 => by
    have ih0 := shuttlecockref03_Args.mono_l k
    · intro y0 y1
      unfold shuttlecockref03_Args.j0
      repeat' first
      | (with_reducible exact ih0 _ _)
      | (with_reducible exact LeO.refl _)
      | (with_reducible exact LeO.none _)
      | (with_reducible refine LeO.ite ?_ ?_)
      | (with_reducible refine LeO.bind ?_ (fun _ => ?_))
      | exact ih0 _ _
      | exact LeO.none _
      | refine LeO.ite ?_ ?_
      | refine LeO.bind ?_ (fun _ => ?_)
theorem shuttlecockref03_Args.mono : ∀ a0 k, LeO (shuttlecockref03_Args.f k a0) (shuttlecockref03_Args.f (k + 1) a0) := by
  intro a0 k
  have ih0 := shuttlecockref03_Args.mono_l k
  unfold shuttlecockref03_Args.f
  repeat' first
      | (with_reducible exact ih0 _ _)
      | (with_reducible exact LeO.refl _)
      | (with_reducible exact LeO.none _)
      | (with_reducible refine LeO.ite ?_ ?_)
      | (with_reducible refine LeO.bind ?_ (fun _ => ?_))
      | exact ih0 _ _
      | exact LeO.none _
      | refine LeO.ite ?_ ?_
      | refine LeO.bind ?_ (fun _ => ?_)
set_option maxHeartbeats 8000000 in
set_option maxRecDepth 100000 in
theorem shuttlecockref03_Args.calls (k : Nat) (a0 : Int) (r : List Int) (w : World) (h : shuttlecockref03_Args.f k a0 = some r) :
    Calls Tryd.prog 12 #[.int .i64 a0] w fun e w' => ∃ v0_ : Value, e = .returned (v0_) ∧ Kd.R (Kd.int .i64) 3 w' w.heap.size (fun _ => True) v0_ r ∧ Below w.heap.size w w' := by
  have HB := Aside0.mk (Below.refl w.heap.size w)
  have H : (if a0 = 1 then (some (([0, 2] : List Int))) else (if a0 = 3 then (some (([1, 4] : List Int))) else (if a0 = 4 then (some (([1, 2] : List Int))) else (if a0 = 5 then (shuttlecockref03_Args.j0 k a0 (a0 == 5)) else (shuttlecockref03_Args.j0 k a0 (a0 == 6)))))) = some r := h
  clear h
  by_cases c2 : a0 = 1
  · rw [if_pos c2] at H
    have c2b0 : (a0 == 1) = true := beq_iff_eq.mpr c2
    have c2b1 : (a0 != 1) = false := bne_eq_false_iff_eq.mpr c2
    clear c2
    obtain ⟨y112, hy112⟩ : ∃ y_ : List Int, y_ = (([0, 2] : List Int)) := ⟨_, rfl⟩
    replace H : (some y112) = some r := by first | (rw [hy112]; with_reducible exact H) | (have H2_ := (Option.bind_some _ _).symm.trans H; rw [hy112]; with_reducible exact H2_) | (have H2_ := (Option.bind_some _ _).symm.trans H; with_reducible exact H2_) | with_reducible exact H | (rw [hy112]; exact H) | exact H
    have Ny112 := Aside0.mk hy112
    clear hy112
    obtain rfl := Option.some.inj H
    go_enter Tryd.func12, Tryd.ntmps12
    go_wp2_with (first | ((with_reducible refine gate_dst (N := 6) rfl ?_); refine Kd.R_lit (Kd.int .i64) _ 3 ?hg (N := 6) ?hd (xs := ([0, 2] : List Int)) (inner := [.int .i64 0, .int .i64 2]) (ok := fun _ => True) (okp := fun _ => True) ?hr ?hp (fun _ hk => hk) trivial (Below.refl _ _) (Nat.le_refl _) (by simp) ?_; (case hd => rfl); (case hg => rfl); (case hr => first | (go_simp; done) | (go_simp; rfl)); (case hp => exact (Reps.one (show Kd.M (Kd.int .i64) _ _ _ 0 [.int .i64 0] from rfl) (Reps.one (show Kd.M (Kd.int .i64) _ _ _ 2 [.int .i64 2] from rfl) (Reps.none _ _)))); intro v113 w3 ho4 hb hg_ hnew_; clear hg_ hnew_; (first | rw [← Ny112.out] at ho4 | (simp only [Int.reduceToNat] at ho4; rw [← Ny112.out] at ho4)); have n0_ := Aside0.mk (Kd.R_lower ho4 (below_size (by repeat (first | (with_reducible first | exact HB.out | apply below_alloc | apply pw_below_drewN | apply below_drew1) | exact HB.out | exact HBo.out)))); have n1_ := Aside0.mk (below_step (by repeat (first | (with_reducible first | exact HB.out | apply below_alloc | apply pw_below_drewN | apply below_drew1) | exact HB.out | exact HBo.out)) hb); clear HB; have HO114 := n0_; have HB := n1_; clear n0_ n1_; clear hb ho4))
    go_ret
    exact ⟨_, by first | rfl | (simp [errW_none, errW_some] <;> rfl) | (simp [*, errW_none, errW_some] <;> rfl) | (simp [Aid.ne_nil, Aid.eq_nil, errW_none, errW_some]; done), by (with_reducible repeat (first | apply Kd.R_alloc | apply Kd.R_drewN | apply Kd.R_drew)); exact HO114.out, by repeat (first | (with_reducible first | exact HB.out | apply below_alloc | apply pw_below_drewN | apply below_drew1) | exact HB.out | exact HBo.out)⟩
  · rw [if_neg c2] at H
    have c2b0 : (a0 == 1) = false := beq_eq_false_iff_ne.mpr c2
    have c2b1 : (a0 != 1) = true := bne_iff_ne.mpr c2
    by_cases c5 : a0 = 3
    · rw [if_pos c5] at H
      have c5b0 : (a0 == 3) = true := beq_iff_eq.mpr c5
      have c5b1 : (a0 != 3) = false := bne_eq_false_iff_eq.mpr c5
      clear c5
      obtain ⟨y115, hy115⟩ : ∃ y_ : List Int, y_ = (([1, 4] : List Int)) := ⟨_, rfl⟩
      replace H : (some y115) = some r := by first | (rw [hy115]; with_reducible exact H) | (have H2_ := (Option.bind_some _ _).symm.trans H; rw [hy115]; with_reducible exact H2_) | (have H2_ := (Option.bind_some _ _).symm.trans H; with_reducible exact H2_) | with_reducible exact H | (rw [hy115]; exact H) | exact H
      have Ny115 := Aside0.mk hy115
      clear hy115
      obtain rfl := Option.some.inj H
      go_enter Tryd.func12, Tryd.ntmps12
      go_wp2_with (first | ((with_reducible refine gate_dst (N := 9) rfl ?_); refine Kd.R_lit (Kd.int .i64) _ 3 ?hg (N := 9) ?hd (xs := ([1, 4] : List Int)) (inner := [.int .i64 1, .int .i64 4]) (ok := fun _ => True) (okp := fun _ => True) ?hr ?hp (fun _ hk => hk) trivial (Below.refl _ _) (Nat.le_refl _) (by simp) ?_; (case hd => rfl); (case hg => rfl); (case hr => first | (go_simp; done) | (go_simp; rfl)); (case hp => exact (Reps.one (show Kd.M (Kd.int .i64) _ _ _ 1 [.int .i64 1] from rfl) (Reps.one (show Kd.M (Kd.int .i64) _ _ _ 4 [.int .i64 4] from rfl) (Reps.none _ _)))); intro v116 w6 ho7 hb hg_ hnew_; clear hg_ hnew_; (first | rw [← Ny115.out] at ho7 | (simp only [Int.reduceToNat] at ho7; rw [← Ny115.out] at ho7)); have n0_ := Aside0.mk (Kd.R_lower ho7 (below_size (by repeat (first | (with_reducible first | exact HB.out | apply below_alloc | apply pw_below_drewN | apply below_drew1) | exact HB.out | exact HBo.out)))); have n1_ := Aside0.mk (below_step (by repeat (first | (with_reducible first | exact HB.out | apply below_alloc | apply pw_below_drewN | apply below_drew1) | exact HB.out | exact HBo.out)) hb); clear HB; have HO117 := n0_; have HB := n1_; clear n0_ n1_; clear hb ho7))
      go_ret
      exact ⟨_, by first | rfl | (simp [errW_none, errW_some] <;> rfl) | (simp [*, errW_none, errW_some] <;> rfl) | (simp [Aid.ne_nil, Aid.eq_nil, errW_none, errW_some]; done), by (with_reducible repeat (first | apply Kd.R_alloc | apply Kd.R_drewN | apply Kd.R_drew)); exact HO117.out, by repeat (first | (with_reducible first | exact HB.out | apply below_alloc | apply pw_below_drewN | apply below_drew1) | exact HB.out | exact HBo.out)⟩
    · rw [if_neg c5] at H
      have c5b0 : (a0 == 3) = false := beq_eq_false_iff_ne.mpr c5
      have c5b1 : (a0 != 3) = true := bne_iff_ne.mpr c5
      by_cases c8 : a0 = 4
      · rw [if_pos c8] at H
        have c8b0 : (a0 == 4) = true := beq_iff_eq.mpr c8
        have c8b1 : (a0 != 4) = false := bne_eq_false_iff_eq.mpr c8
        clear c8
        obtain ⟨y118, hy118⟩ : ∃ y_ : List Int, y_ = (([1, 2] : List Int)) := ⟨_, rfl⟩
        replace H : (some y118) = some r := by first | (rw [hy118]; with_reducible exact H) | (have H2_ := (Option.bind_some _ _).symm.trans H; rw [hy118]; with_reducible exact H2_) | (have H2_ := (Option.bind_some _ _).symm.trans H; with_reducible exact H2_) | with_reducible exact H | (rw [hy118]; exact H) | exact H
        have Ny118 := Aside0.mk hy118
        clear hy118
        obtain rfl := Option.some.inj H
        go_enter Tryd.func12, Tryd.ntmps12
        go_wp2_with (first | ((with_reducible refine gate_dst (N := 12) rfl ?_); refine Kd.R_lit (Kd.int .i64) _ 3 ?hg (N := 12) ?hd (xs := ([1, 2] : List Int)) (inner := [.int .i64 1, .int .i64 2]) (ok := fun _ => True) (okp := fun _ => True) ?hr ?hp (fun _ hk => hk) trivial (Below.refl _ _) (Nat.le_refl _) (by simp) ?_; (case hd => rfl); (case hg => rfl); (case hr => first | (go_simp; done) | (go_simp; rfl)); (case hp => exact (Reps.one (show Kd.M (Kd.int .i64) _ _ _ 1 [.int .i64 1] from rfl) (Reps.one (show Kd.M (Kd.int .i64) _ _ _ 2 [.int .i64 2] from rfl) (Reps.none _ _)))); intro v119 w9 ho10 hb hg_ hnew_; clear hg_ hnew_; (first | rw [← Ny118.out] at ho10 | (simp only [Int.reduceToNat] at ho10; rw [← Ny118.out] at ho10)); have n0_ := Aside0.mk (Kd.R_lower ho10 (below_size (by repeat (first | (with_reducible first | exact HB.out | apply below_alloc | apply pw_below_drewN | apply below_drew1) | exact HB.out | exact HBo.out)))); have n1_ := Aside0.mk (below_step (by repeat (first | (with_reducible first | exact HB.out | apply below_alloc | apply pw_below_drewN | apply below_drew1) | exact HB.out | exact HBo.out)) hb); clear HB; have HO120 := n0_; have HB := n1_; clear n0_ n1_; clear hb ho10))
        go_ret
        exact ⟨_, by first | rfl | (simp [errW_none, errW_some] <;> rfl) | (simp [*, errW_none, errW_some] <;> rfl) | (simp [Aid.ne_nil, Aid.eq_nil, errW_none, errW_some]; done), by (with_reducible repeat (first | apply Kd.R_alloc | apply Kd.R_drewN | apply Kd.R_drew)); exact HO120.out, by repeat (first | (with_reducible first | exact HB.out | apply below_alloc | apply pw_below_drewN | apply below_drew1) | exact HB.out | exact HBo.out)⟩
      · rw [if_neg c8] at H
        have c8b0 : (a0 == 4) = false := beq_eq_false_iff_ne.mpr c8
        have c8b1 : (a0 != 4) = true := bne_iff_ne.mpr c8
        have HC11 := Aside0.mk H
        clear H
        go_enter Tryd.func12, Tryd.ntmps12
        go_upto_if 13 with (fail)
        go_cut [13] (fun v13 wc => ∃ (kq : Nat) (x13_10 : Bool), v13 = .bool x13_10 ∧ Aside0 (shuttlecockref03_Args.j0 kq a0 x13_10 = some r) ∧ Aside0 (kq ≤ k) ∧ Aside0 (Below w.heap.size w wc))
        case first =>
          have H := HC11.out
          clear HC11
          by_cases c12 : a0 = 5
          · rw [if_pos c12] at H
            have c12b0 : (a0 == 5) = true := beq_iff_eq.mpr c12
            have c12b1 : (a0 != 5) = false := bne_eq_false_iff_eq.mpr c12
            clear c12
            (first | rw [c12b0] | (simp only [i64_w, i32_w]; rw [c12b0]) | skip)
            have H' := Aside0.mk H
            clear H
            go_wp2
            go_meet
            case rel => exact ⟨_, ((a0 == 5)), (by first | rfl | (simp; done) | (simp [*]; done) | (simp; generalize ByteArray.toList _ = l_; cases l_ <;> rfl)), H', ⟨by first | omega | exact Nat.le_refl _⟩, ⟨by repeat (first | (with_reducible first | exact HB.out | apply below_alloc | apply pw_below_drewN | apply below_drew1) | exact HB.out | exact HBo.out)⟩⟩
          · rw [if_neg c12] at H
            have c12b0 : (a0 == 5) = false := beq_eq_false_iff_ne.mpr c12
            have c12b1 : (a0 != 5) = true := bne_iff_ne.mpr c12
            (first | rw [c12b0] | (simp only [i64_w, i32_w]; rw [c12b0]) | skip)
            have H' := Aside0.mk H
            clear H
            go_wp2
            go_meet
            case rel => exact ⟨_, ((a0 == 6)), (by first | rfl | (simp; done) | (simp [*]; done) | (simp; generalize ByteArray.toList _ = l_; cases l_ <;> rfl)), H', ⟨by first | omega | exact Nat.le_refl _⟩, ⟨by repeat (first | (with_reducible first | exact HB.out | apply below_alloc | apply pw_below_drewN | apply below_drew1) | exact HB.out | exact HBo.out)⟩⟩
        case rest =>
          clear HC11
          try clear c1
          try clear c2
          try clear c2b0
          try clear c2b1
          try clear p2
          try clear c5
          try clear c5b0
          try clear c5b1
          try clear c8
          try clear c8b0
          try clear c8b1
          try clear c12
          try clear c12b0
          try clear c12b1
          obtain ⟨kq, x13_10, rfl, HA, HJ10, HB⟩ := hcut
          cases kq with
          | zero => exact absurd HA.out (by simp [shuttlecockref03_Args.j0])
          | succ kj10 =>
            have H := HA.out
            clear HA
            simp only [shuttlecockref03_Args.j0] at H
            by_cases c13 : x13_10 = true
            · subst c13
              have H1 : (some (([3, 4] : List Int))) = some r := by rw [if_pos rfl] at H; exact H
              clear H
              have H := H1
              clear H1
              obtain ⟨y121, hy121⟩ : ∃ y_ : List Int, y_ = (([3, 4] : List Int)) := ⟨_, rfl⟩
              replace H : (some y121) = some r := by first | (rw [hy121]; with_reducible exact H) | (have H2_ := (Option.bind_some _ _).symm.trans H; rw [hy121]; with_reducible exact H2_) | (have H2_ := (Option.bind_some _ _).symm.trans H; with_reducible exact H2_) | with_reducible exact H | (rw [hy121]; exact H) | exact H
              have Ny121 := Aside0.mk hy121
              clear hy121
              obtain rfl := Option.some.inj H
              go_wp2_with (first | ((with_reducible refine gate_dst (N := 16) rfl ?_); refine Kd.R_lit (Kd.int .i64) _ 3 ?hg (N := 16) ?hd (xs := ([3, 4] : List Int)) (inner := [.int .i64 3, .int .i64 4]) (ok := fun _ => True) (okp := fun _ => True) ?hr ?hp (fun _ hk => hk) trivial (Below.refl _ _) (Nat.le_refl _) (by simp) ?_; (case hd => rfl); (case hg => rfl); (case hr => first | (go_simp; done) | (go_simp; rfl)); (case hp => exact (Reps.one (show Kd.M (Kd.int .i64) _ _ _ 3 [.int .i64 3] from rfl) (Reps.one (show Kd.M (Kd.int .i64) _ _ _ 4 [.int .i64 4] from rfl) (Reps.none _ _)))); intro v122 w14 ho15 hb hg_ hnew_; clear hg_ hnew_; (first | rw [← Ny121.out] at ho15 | (simp only [Int.reduceToNat] at ho15; rw [← Ny121.out] at ho15)); have n0_ := Aside0.mk (Kd.R_lower ho15 (below_size (by repeat (first | (with_reducible first | exact HB.out | apply below_alloc | apply pw_below_drewN | apply below_drew1) | exact HB.out | exact HBo.out)))); have n1_ := Aside0.mk (below_step (by repeat (first | (with_reducible first | exact HB.out | apply below_alloc | apply pw_below_drewN | apply below_drew1) | exact HB.out | exact HBo.out)) hb); clear HB; have HO123 := n0_; have HB := n1_; clear n0_ n1_; clear hb ho15))
              go_ret
              exact ⟨_, by first | rfl | (simp [errW_none, errW_some] <;> rfl) | (simp [*, errW_none, errW_some] <;> rfl) | (simp [Aid.ne_nil, Aid.eq_nil, errW_none, errW_some]; done), by (with_reducible repeat (first | apply Kd.R_alloc | apply Kd.R_drewN | apply Kd.R_drew)); exact HO123.out, by repeat (first | (with_reducible first | exact HB.out | apply below_alloc | apply pw_below_drewN | apply below_drew1) | exact HB.out | exact HBo.out)⟩
            · replace c13 := Bool.eq_false_iff.mpr c13
              subst c13
              have H1 : (if a0 = 7 then (some (([1, 2, 4] : List Int))) else (if a0 = 9 then (some (([4] : List Int))) else (if a0 = 10 then (some (([5, 2] : List Int))) else (some ([] : List Int))))) = some r := by rw [if_neg (show ¬ (false = true) by decide)] at H; exact H
              clear H
              have H := H1
              clear H1
              by_cases c16 : a0 = 7
              · rw [if_pos c16] at H
                have c16b0 : (a0 == 7) = true := beq_iff_eq.mpr c16
                have c16b1 : (a0 != 7) = false := bne_eq_false_iff_eq.mpr c16
                clear c16
                obtain ⟨y124, hy124⟩ : ∃ y_ : List Int, y_ = (([1, 2, 4] : List Int)) := ⟨_, rfl⟩
                replace H : (some y124) = some r := by first | (rw [hy124]; with_reducible exact H) | (have H2_ := (Option.bind_some _ _).symm.trans H; rw [hy124]; with_reducible exact H2_) | (have H2_ := (Option.bind_some _ _).symm.trans H; with_reducible exact H2_) | with_reducible exact H | (rw [hy124]; exact H) | exact H
                have Ny124 := Aside0.mk hy124
                clear hy124
                obtain rfl := Option.some.inj H
                go_wp2_with (first | ((with_reducible refine gate_dst (N := 19) rfl ?_); refine Kd.R_lit (Kd.int .i64) _ 3 ?hg (N := 19) ?hd (xs := ([1, 2, 4] : List Int)) (inner := [.int .i64 1, .int .i64 2, .int .i64 4]) (ok := fun _ => True) (okp := fun _ => True) ?hr ?hp (fun _ hk => hk) trivial (Below.refl _ _) (Nat.le_refl _) (by simp) ?_; (case hd => rfl); (case hg => rfl); (case hr => first | (go_simp; done) | (go_simp; rfl)); (case hp => exact (Reps.one (show Kd.M (Kd.int .i64) _ _ _ 1 [.int .i64 1] from rfl) (Reps.one (show Kd.M (Kd.int .i64) _ _ _ 2 [.int .i64 2] from rfl) (Reps.one (show Kd.M (Kd.int .i64) _ _ _ 4 [.int .i64 4] from rfl) (Reps.none _ _))))); intro v125 w17 ho18 hb hg_ hnew_; clear hg_ hnew_; (first | rw [← Ny124.out] at ho18 | (simp only [Int.reduceToNat] at ho18; rw [← Ny124.out] at ho18)); have n0_ := Aside0.mk (Kd.R_lower ho18 (below_size (by repeat (first | (with_reducible first | exact HB.out | apply below_alloc | apply pw_below_drewN | apply below_drew1) | exact HB.out | exact HBo.out)))); have n1_ := Aside0.mk (below_step (by repeat (first | (with_reducible first | exact HB.out | apply below_alloc | apply pw_below_drewN | apply below_drew1) | exact HB.out | exact HBo.out)) hb); clear HB; have HO126 := n0_; have HB := n1_; clear n0_ n1_; clear hb ho18))
                go_ret
                exact ⟨_, by first | rfl | (simp [errW_none, errW_some] <;> rfl) | (simp [*, errW_none, errW_some] <;> rfl) | (simp [Aid.ne_nil, Aid.eq_nil, errW_none, errW_some]; done), by (with_reducible repeat (first | apply Kd.R_alloc | apply Kd.R_drewN | apply Kd.R_drew)); exact HO126.out, by repeat (first | (with_reducible first | exact HB.out | apply below_alloc | apply pw_below_drewN | apply below_drew1) | exact HB.out | exact HBo.out)⟩
              · rw [if_neg c16] at H
                have c16b0 : (a0 == 7) = false := beq_eq_false_iff_ne.mpr c16
                have c16b1 : (a0 != 7) = true := bne_iff_ne.mpr c16
                by_cases c19 : a0 = 9
                · rw [if_pos c19] at H
                  have c19b0 : (a0 == 9) = true := beq_iff_eq.mpr c19
                  have c19b1 : (a0 != 9) = false := bne_eq_false_iff_eq.mpr c19
                  clear c19
                  obtain ⟨y127, hy127⟩ : ∃ y_ : List Int, y_ = (([4] : List Int)) := ⟨_, rfl⟩
                  replace H : (some y127) = some r := by first | (rw [hy127]; with_reducible exact H) | (have H2_ := (Option.bind_some _ _).symm.trans H; rw [hy127]; with_reducible exact H2_) | (have H2_ := (Option.bind_some _ _).symm.trans H; with_reducible exact H2_) | with_reducible exact H | (rw [hy127]; exact H) | exact H
                  have Ny127 := Aside0.mk hy127
                  clear hy127
                  obtain rfl := Option.some.inj H
                  go_wp2_with (first | ((with_reducible refine gate_dst (N := 22) rfl ?_); refine Kd.R_lit (Kd.int .i64) _ 3 ?hg (N := 22) ?hd (xs := ([4] : List Int)) (inner := [.int .i64 4]) (ok := fun _ => True) (okp := fun _ => True) ?hr ?hp (fun _ hk => hk) trivial (Below.refl _ _) (Nat.le_refl _) (by simp) ?_; (case hd => rfl); (case hg => rfl); (case hr => first | (go_simp; done) | (go_simp; rfl)); (case hp => exact (Reps.one (show Kd.M (Kd.int .i64) _ _ _ 4 [.int .i64 4] from rfl) (Reps.none _ _))); intro v128 w20 ho21 hb hg_ hnew_; clear hg_ hnew_; (first | rw [← Ny127.out] at ho21 | (simp only [Int.reduceToNat] at ho21; rw [← Ny127.out] at ho21)); have n0_ := Aside0.mk (Kd.R_lower ho21 (below_size (by repeat (first | (with_reducible first | exact HB.out | apply below_alloc | apply pw_below_drewN | apply below_drew1) | exact HB.out | exact HBo.out)))); have n1_ := Aside0.mk (below_step (by repeat (first | (with_reducible first | exact HB.out | apply below_alloc | apply pw_below_drewN | apply below_drew1) | exact HB.out | exact HBo.out)) hb); clear HB; have HO129 := n0_; have HB := n1_; clear n0_ n1_; clear hb ho21))
                  go_ret
                  exact ⟨_, by first | rfl | (simp [errW_none, errW_some] <;> rfl) | (simp [*, errW_none, errW_some] <;> rfl) | (simp [Aid.ne_nil, Aid.eq_nil, errW_none, errW_some]; done), by (with_reducible repeat (first | apply Kd.R_alloc | apply Kd.R_drewN | apply Kd.R_drew)); exact HO129.out, by repeat (first | (with_reducible first | exact HB.out | apply below_alloc | apply pw_below_drewN | apply below_drew1) | exact HB.out | exact HBo.out)⟩
                · rw [if_neg c19] at H
                  have c19b0 : (a0 == 9) = false := beq_eq_false_iff_ne.mpr c19
                  have c19b1 : (a0 != 9) = true := bne_iff_ne.mpr c19
                  by_cases c22 : a0 = 10
                  · rw [if_pos c22] at H
                    have c22b0 : (a0 == 10) = true := beq_iff_eq.mpr c22
                    have c22b1 : (a0 != 10) = false := bne_eq_false_iff_eq.mpr c22
                    clear c22
                    obtain ⟨y130, hy130⟩ : ∃ y_ : List Int, y_ = (([5, 2] : List Int)) := ⟨_, rfl⟩
                    replace H : (some y130) = some r := by first | (rw [hy130]; with_reducible exact H) | (have H2_ := (Option.bind_some _ _).symm.trans H; rw [hy130]; with_reducible exact H2_) | (have H2_ := (Option.bind_some _ _).symm.trans H; with_reducible exact H2_) | with_reducible exact H | (rw [hy130]; exact H) | exact H
                    have Ny130 := Aside0.mk hy130
                    clear hy130
                    obtain rfl := Option.some.inj H
                    go_wp2_with (first | ((with_reducible refine gate_dst (N := 25) rfl ?_); refine Kd.R_lit (Kd.int .i64) _ 3 ?hg (N := 25) ?hd (xs := ([5, 2] : List Int)) (inner := [.int .i64 5, .int .i64 2]) (ok := fun _ => True) (okp := fun _ => True) ?hr ?hp (fun _ hk => hk) trivial (Below.refl _ _) (Nat.le_refl _) (by simp) ?_; (case hd => rfl); (case hg => rfl); (case hr => first | (go_simp; done) | (go_simp; rfl)); (case hp => exact (Reps.one (show Kd.M (Kd.int .i64) _ _ _ 5 [.int .i64 5] from rfl) (Reps.one (show Kd.M (Kd.int .i64) _ _ _ 2 [.int .i64 2] from rfl) (Reps.none _ _)))); intro v131 w23 ho24 hb hg_ hnew_; clear hg_ hnew_; (first | rw [← Ny130.out] at ho24 | (simp only [Int.reduceToNat] at ho24; rw [← Ny130.out] at ho24)); have n0_ := Aside0.mk (Kd.R_lower ho24 (below_size (by repeat (first | (with_reducible first | exact HB.out | apply below_alloc | apply pw_below_drewN | apply below_drew1) | exact HB.out | exact HBo.out)))); have n1_ := Aside0.mk (below_step (by repeat (first | (with_reducible first | exact HB.out | apply below_alloc | apply pw_below_drewN | apply below_drew1) | exact HB.out | exact HBo.out)) hb); clear HB; have HO132 := n0_; have HB := n1_; clear n0_ n1_; clear hb ho24))
                    go_ret
                    exact ⟨_, by first | rfl | (simp [errW_none, errW_some] <;> rfl) | (simp [*, errW_none, errW_some] <;> rfl) | (simp [Aid.ne_nil, Aid.eq_nil, errW_none, errW_some]; done), by (with_reducible repeat (first | apply Kd.R_alloc | apply Kd.R_drewN | apply Kd.R_drew)); exact HO132.out, by repeat (first | (with_reducible first | exact HB.out | apply below_alloc | apply pw_below_drewN | apply below_drew1) | exact HB.out | exact HBo.out)⟩
                  · rw [if_neg c22] at H
                    have c22b0 : (a0 == 10) = false := beq_eq_false_iff_ne.mpr c22
                    have c22b1 : (a0 != 10) = true := bne_iff_ne.mpr c22
                    obtain rfl := Option.some.inj H
                    go_wp2
                    go_ret
                    exact ⟨_, by first | rfl | (simp [errW_none, errW_some] <;> rfl) | (simp [*, errW_none, errW_some] <;> rfl) | (simp [Aid.ne_nil, Aid.eq_nil, errW_none, errW_some]; done), by first | exact Kd.R_nil _ _ _ _ _ | exact Kd.N_nil _ _ _ _ _ | exact Kd.V_nil _ _ _ _ _ | exact Kd.Q_nil _ _ _ _ _ | exact Kd.S_nil _ _ _ _ _, by repeat (first | (with_reducible first | exact HB.out | apply below_alloc | apply pw_below_drewN | apply below_drew1) | exact HB.out | exact HBo.out)⟩

end Go.Proofs.YthhohplddgklgaaDoor.Q
