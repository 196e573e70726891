-- printed by a program of this session (NOTES: hprint); not the kit's print
import Derived.Test.YthbfgggpggjldaaQx0
import Derived.Test.YthbfgggpggjldaaQx1
namespace Go.Proofs.Ythbfgggpggjldaa.Q
open Go.RowKit Go.Proofs.YthbfgggpggjldaaW.PrintWords Go.Proofs.YthbfgggpggjldaaW.PrintLast Go.Proofs.YthbfgggpggjldaaW.PrintMore
attribute [local go_sem] max2_int min2_int max_two min_two max_three min_three max_four min_four   -- for this text's walks alone
set_option linter.unusedVariables false
set_option linter.unusedSimpArgs false

/-! ### wire_Reader_At: function 20 -/
def wire_Reader_At.f (s0_0 : ByteArray) (s0_1 : Int) (s0_2 : Int) (s0_3 : Int) : Option (Int × ByteArray × Int × Int × Int) := some (s0_1, s0_0, s0_1, s0_2, s0_3)
set_option maxHeartbeats 8000000 in
set_option maxRecDepth 100000 in
theorem wire_Reader_At.calls (g : Nat) (s0_0 : ByteArray) (s0_1 : Int) (s0_2 : Int) (s0_3 : Int) (r1 : Int) (r2 : ByteArray) (r3 : Int) (r4 : Int) (r5 : Int) (w0 w : World) (hI : IsS50 w0 w g s0_0 s0_1 s0_2 s0_3) (hB : Below w0.heap.size w0 w) (h : wire_Reader_At.f s0_0 s0_1 s0_2 s0_3 = some (r1, r2, r3, r4, r5)) :
    Calls Try.prog 20 #[.pointer (some ⟨g, 0, none⟩)] w fun e w' => e = .returned (.int .i64 r1) ∧ IsS50 w0 w' g r2 r3 r4 r5 ∧ Below w0.heap.size w0 w' ∧ KeepBut w w' g none := by
  have HI0 := Aside0.mk hI
  have HK := Aside0.mk (KeepBut.refl w g none)
  have HL := Aside0.mk hB.size
  clear hI
  have HW0 := Aside0.mk hB.size
  have HB := Aside0.mk hB
  clear hB
  have H : (some (s0_1, s0_0, s0_1, s0_2, s0_3)) = some (r1, r2, r3, r4, r5) := h
  clear h
  simp only [Option.some.injEq, Prod.mk.injEq] at H
  obtain ⟨rfl, rfl, rfl, rfl, rfl⟩ := H
  obtain ⟨HGz2, hgz2⟩ := HI0.out
  have hcz2_0 := cellS50_0 HGz2
  have hcz2_1 := cellS50_1 HGz2
  have hcz2_2 := cellS50_2 HGz2
  have hcz2_3 := cellS50_3 HGz2
  have hfz2_0 := blk_frozen HGz2 0
  have hfz2_1 := blk_frozen HGz2 1
  have hfz2_2 := blk_frozen HGz2 2
  have hfz2_3 := blk_frozen HGz2 3
  clear HGz2 hgz2
  go_enter Try.func20, Try.ntmps20
  go_wp2
  go_ret
  exact ⟨by first | rfl | (simp [errW_none, errW_some] <;> rfl) | (simp [*, errW_none, errW_some] <;> rfl) | (simp [Aid.ne_nil, Aid.eq_nil, errW_none, errW_some]; done), by repeat (first | (with_reducible first | exact HI0.out | apply IsS50.alloc | apply IsS50.drewN | apply IsS50.drew | apply IsS50.set_0 | apply IsS50.set_1 | apply IsS50.set_2 | apply IsS50.set_3) | exact HI0.out), by repeat (first | (with_reducible first | exact HB.out | apply below_alloc | apply pw_below_drewN | apply below_drew1 | refine below_set ?_ (IsS50.ge HI0.out)) | exact HB.out | exact HBo.out), by repeat (first | (with_reducible first | exact HK.out | apply KeepBut.set_ | apply keep_drewN | apply keep_drew | apply keep_alloc) | exact HK.out)⟩

/-! ### wire_Reader_Done: function 21, by hand -/
theorem wire_Reader_ok.same (g : Nat) (s0_0 : ByteArray) (s0_1 s0_2 s0_3 : Int) (w0 w : World) (hI : IsS50 w0 w g s0_0 s0_1 s0_2 s0_3) :
    Calls Try.prog 31 #[.pointer (some ⟨g, 0, none⟩)] w fun e w' => e = .returned (.bool (s0_2 == 0)) ∧ w' = w := by
  have hc2 := cellS50_2 hI.1
  go_enter Try.func31, Try.ntmps31
  go_wp2
  go_ret
  exact ⟨rfl, rfl⟩
def wire_Reader_Done.f (s0_0 : ByteArray) (s0_1 : Int) (s0_2 : Int) (s0_3 : Int) : Option (Bool × ByteArray × Int × Int × Int) := some (s0_2 == 0 && s0_1 == (s0_0.size : Int), s0_0, s0_1, s0_2, s0_3)
theorem wire_Reader_Done.calls (g : Nat) (s0_0 : ByteArray) (s0_1 s0_2 s0_3 : Int) (r1 : Bool) (r2 : ByteArray) (r3 r4 r5 : Int) (w0 w : World) (hI : IsS50 w0 w g s0_0 s0_1 s0_2 s0_3) (hB : Below w0.heap.size w0 w) (h : wire_Reader_Done.f s0_0 s0_1 s0_2 s0_3 = some (r1, r2, r3, r4, r5)) :
    Calls Try.prog 21 #[.pointer (some ⟨g, 0, none⟩)] w fun e w' => e = .returned (.bool r1) ∧ IsS50 w0 w' g r2 r3 r4 r5 ∧ Below w0.heap.size w0 w' ∧ KeepBut w w' g none := by
  unfold wire_Reader_Done.f at h
  simp only [Option.some.injEq, Prod.mk.injEq] at h
  obtain ⟨rfl, rfl, rfl, rfl, rfl⟩ := h
  have HI := Aside0.mk hI
  have HB := Aside0.mk hB
  have hc0 := cellS50_0 hI.1
  have hc1 := cellS50_1 hI.1
  clear hI hB
  by_cases hz : s0_2 = 0
  · have hz1 : (s0_2 == 0) = true := by rw [hz]; rfl
    have ok := fun n => wire_Reader_ok.same g s0_0 s0_1 s0_2 s0_3 w0 (w.drewN n) (HI.out.drewN n)
    rw [hz1] at ok
    rw [hz1]
    clear hz hz1
    go_enter Try.func21, Try.ntmps21
    go_wp2_with fail
    go_quiet ((go_at_call 31; exact Calls.quiet_of_same (ok _)))
    go_wp2
    go_ret
    exact ⟨by simp, HI.out.drewN _, pw_below_drewN HB.out _, keep_drewN (KeepBut.refl _ _ _) _⟩
  · have hz1 : (s0_2 == 0) = false := beq_eq_false_iff_ne.2 hz
    have ok := fun n => wire_Reader_ok.same g s0_0 s0_1 s0_2 s0_3 w0 (w.drewN n) (HI.out.drewN n)
    rw [hz1] at ok
    rw [hz1]
    clear hz hz1
    go_enter Try.func21, Try.ntmps21
    go_wp2_with fail
    go_quiet ((go_at_call 31; exact Calls.quiet_of_same (ok _)))
    go_wp2
    go_ret
    exact ⟨by simp, HI.out.drewN _, pw_below_drewN HB.out _, keep_drewN (KeepBut.refl _ _ _) _⟩

/-! ### stringslite_HasPrefix: function 42 -/
def stringslite_HasPrefix.f (a0 : ByteArray) (a1 : ByteArray) : Option (Bool) := if (a0.size : Int) ≥ (a1.size : Int) then (if 0 ≤ (a1.size : Int) then (if (a1.size : Int) ≤ (a0.size : Int) then (some ((a0.extract 0 ((a1.size : Int) : Int).toNat).toList == a1.toList)) else (none)) else (none)) else (some false)
set_option maxHeartbeats 8000000 in
set_option maxRecDepth 100000 in
theorem stringslite_HasPrefix.calls (a0 : ByteArray) (a1 : ByteArray) (r : Bool) (w : World) (h : stringslite_HasPrefix.f a0 a1 = some r) :
    Calls Try.prog 42 #[.string a0, .string a1] w fun e w' => e = .returned (.bool r) ∧ Drawn0 w w' := by
  have H : (if (a0.size : Int) ≥ (a1.size : Int) then (if 0 ≤ (a1.size : Int) then (if (a1.size : Int) ≤ (a0.size : Int) then (some ((a0.extract 0 ((a1.size : Int) : Int).toNat).toList == a1.toList)) else (none)) else (none)) else (some false)) = some r := h
  clear h
  by_cases c3 : (a0.size : Int) ≥ (a1.size : Int)
  · rw [if_pos c3] at H
    have c3b0 : decide ((a1.size : Int) ≤ (a0.size : Int)) = true := decide_eq_true c3
    have c3b1 : decide (a1.size ≤ a0.size) = true := decide_eq_true (Int.ofNat_le.mp c3)
    clear c3
    by_cases c4 : 0 ≤ (a1.size : Int)
    · rw [if_pos c4] at H
      have c4b0 := eq_true c4
      have c4b1 : decide (0 ≤ (a1.size : Int)) = true := decide_eq_true c4
      clear c4
      by_cases c5 : (a1.size : Int) ≤ (a0.size : Int)
      · rw [if_pos c5] at H
        have c5b0 := eq_true c5
        have c5b1 : decide ((a1.size : Int) ≤ (a0.size : Int)) = true := decide_eq_true c5
        clear c5
        obtain rfl := Option.some.inj H
        go_enter Try.func42, Try.ntmps42
        go_wp2
        go_ret
        exact ⟨by first | rfl | (simp; done) | (simp [*]; done), by repeat (first | exact Drawn0.refl _ | apply Drawn0.step)⟩
      · rw [if_neg c5] at H
        exact absurd H (by simp)
    · rw [if_neg c4] at H
      exact absurd H (by simp)
  · rw [if_neg c3] at H
    have c3b0 : decide ((a1.size : Int) ≤ (a0.size : Int)) = false := decide_eq_false c3
    have c3b1 : decide (a1.size ≤ a0.size) = false := decide_eq_false (fun h => c3 (Int.ofNat_le.mpr h))
    clear c3
    obtain rfl := Option.some.inj H
    go_enter Try.func42, Try.ntmps42
    go_wp2
    go_ret
    exact ⟨by first | rfl | (simp; done) | (simp [*]; done), by repeat (first | exact Drawn0.refl _ | apply Drawn0.step)⟩

/-! ### strings_HasPrefix: function 37 -/
def strings_HasPrefix.f (a0 : ByteArray) (a1 : ByteArray) : Option (Bool) := (stringslite_HasPrefix.f a0 a1).bind fun t157 => (some t157)
set_option maxHeartbeats 8000000 in
set_option maxRecDepth 100000 in
theorem strings_HasPrefix.calls (a0 : ByteArray) (a1 : ByteArray) (r : Bool) (w : World) (h : strings_HasPrefix.f a0 a1 = some r) :
    Calls Try.prog 37 #[.string a0, .string a1] w fun e w' => e = .returned (.bool r) ∧ Drawn0 w w' := by
  have H : ((stringslite_HasPrefix.f a0 a1).bind fun t157 => (some t157)) = some r := h
  clear h
  replace H := Option.bind_eq_some_iff.mp H
  obtain ⟨t157, A30, H⟩ := H
  replace H : (some t157) = some r := H
  have A3 := Aside0.mk A30
  clear A30
  obtain rfl := Option.some.inj H
  go_enter Try.func37, Try.ntmps37
  go_wp2_with (first | ((with_reducible refine gate_callee (f := 42) rfl ?_); refine goesL_ (some 7) rfl rfl Try.func42 (by kernel_rfl) rfl #[.string a0, .string a1] rfl (by (try simp only [List.map_toArray, List.map_cons, List.map_nil]); first | done | rfl | (simp only [List.length_drop, List.length_take]; rfl)) ?_; (with_reducible refine (stringslite_HasPrefix.calls a0 a1 t157 _ A3.out).mono ?_); rintro e w' ⟨rfl, ⟨nd, rfl⟩⟩; refine ⟨_, rfl, ?_⟩))
  go_ret
  exact ⟨by first | rfl | (simp; done) | (simp [*]; done), by repeat (first | exact Drawn0.refl _ | apply Drawn0.step)⟩

/-! ### wire_Head: function 23 -/
def wire_Head.f (a0 : ByteArray) : Option (Int × Int) := (strings_HasPrefix.f a0 (⟨#[83, 72, 84, 76, 1]⟩ : ByteArray)).bind fun t158 => (if t158 = true then (some (5, 0)) else ((strings_HasPrefix.f (⟨#[83, 72, 84, 76, 1]⟩ : ByteArray) a0).bind fun t159 => (if t159 = true then (some (0, 10)) else (some (0, 20)))))
set_option maxHeartbeats 8000000 in
set_option maxRecDepth 100000 in
theorem wire_Head.calls (a0 : ByteArray) (r1 : Int) (r2 : Int) (w : World) (h : wire_Head.f a0 = some (r1, r2)) :
    Calls Try.prog 23 #[.string a0] w fun e w' => e = .returned (.tuple #[.int .i64 r1, .int .i64 r2]) ∧ Drawn0 w w' := by
  have H : ((strings_HasPrefix.f a0 (⟨#[83, 72, 84, 76, 1]⟩ : ByteArray)).bind fun t158 => (if t158 = true then (some (5, 0)) else ((strings_HasPrefix.f (⟨#[83, 72, 84, 76, 1]⟩ : ByteArray) a0).bind fun t159 => (if t159 = true then (some (0, 10)) else (some (0, 20)))))) = some (r1, r2) := h
  clear h
  replace H := Option.bind_eq_some_iff.mp H
  obtain ⟨t158, A20, H⟩ := H
  replace H : (if t158 = true then (some (5, 0)) else ((strings_HasPrefix.f (⟨#[83, 72, 84, 76, 1]⟩ : ByteArray) a0).bind fun t159 => (if t159 = true then (some (0, 10)) else (some (0, 20))))) = some (r1, r2) := H
  have A2 := Aside0.mk A20
  clear A20
  by_cases c3 : t158 = true
  · subst c3
    have H1 : (some (5, 0)) = some (r1, r2) := by rw [if_pos rfl] at H; exact H
    clear H
    have H := H1
    clear H1
    simp only [Option.some.injEq, Prod.mk.injEq] at H
    obtain ⟨rfl, rfl⟩ := H
    go_enter Try.func23, Try.ntmps23
    go_wp2_with (first | ((with_reducible refine gate_callee (f := 37) rfl ?_); refine goesL_ (some 6) rfl rfl Try.func37 (by kernel_rfl) rfl #[.string a0, .string (⟨#[83, 72, 84, 76, 1]⟩ : ByteArray)] rfl (by (try simp only [List.map_toArray, List.map_cons, List.map_nil]); first | done | rfl | (simp only [List.length_drop, List.length_take]; rfl)) ?_; (with_reducible refine (strings_HasPrefix.calls a0 (⟨#[83, 72, 84, 76, 1]⟩ : ByteArray) true _ A2.out).mono ?_); rintro e w' ⟨rfl, ⟨nd, rfl⟩⟩; refine ⟨_, rfl, ?_⟩))
    go_ret2
    exact ⟨by first | rfl | (simp; done) | (simp [*]; done), by repeat (first | exact Drawn0.refl _ | apply Drawn0.step)⟩
  · replace c3 := Bool.eq_false_iff.mpr c3
    subst c3
    have H1 : ((strings_HasPrefix.f (⟨#[83, 72, 84, 76, 1]⟩ : ByteArray) a0).bind fun t159 => (if t159 = true then (some (0, 10)) else (some (0, 20)))) = some (r1, r2) := by rw [if_neg (show ¬ (false = true) by decide)] at H; exact H
    clear H
    have H := H1
    clear H1
    replace H := Option.bind_eq_some_iff.mp H
    obtain ⟨t159, A40, H⟩ := H
    replace H : (if t159 = true then (some (0, 10)) else (some (0, 20))) = some (r1, r2) := H
    have A4 := Aside0.mk A40
    clear A40
    by_cases c5 : t159 = true
    · subst c5
      have H1 : (some (0, 10)) = some (r1, r2) := by rw [if_pos rfl] at H; exact H
      clear H
      have H := H1
      clear H1
      simp only [Option.some.injEq, Prod.mk.injEq] at H
      obtain ⟨rfl, rfl⟩ := H
      go_enter Try.func23, Try.ntmps23
      go_wp2_with (first | ((with_reducible refine gate_callee (f := 37) rfl ?_); refine goesL_ (some 6) rfl rfl Try.func37 (by kernel_rfl) rfl #[.string a0, .string (⟨#[83, 72, 84, 76, 1]⟩ : ByteArray)] rfl (by (try simp only [List.map_toArray, List.map_cons, List.map_nil]); first | done | rfl | (simp only [List.length_drop, List.length_take]; rfl)) ?_; (with_reducible refine (strings_HasPrefix.calls a0 (⟨#[83, 72, 84, 76, 1]⟩ : ByteArray) false _ A2.out).mono ?_); rintro e w' ⟨rfl, ⟨nd, rfl⟩⟩; refine ⟨_, rfl, ?_⟩) | ((with_reducible refine gate_callee (f := 37) rfl ?_); refine goesL_ (some 9) rfl rfl Try.func37 (by kernel_rfl) rfl #[.string (⟨#[83, 72, 84, 76, 1]⟩ : ByteArray), .string a0] rfl (by (try simp only [List.map_toArray, List.map_cons, List.map_nil]); first | done | rfl | (simp only [List.length_drop, List.length_take]; rfl)) ?_; (with_reducible refine (strings_HasPrefix.calls (⟨#[83, 72, 84, 76, 1]⟩ : ByteArray) a0 true _ A4.out).mono ?_); rintro e w' ⟨rfl, ⟨nd, rfl⟩⟩; refine ⟨_, rfl, ?_⟩))
      go_ret2
      exact ⟨by first | rfl | (simp; done) | (simp [*]; done), by repeat (first | exact Drawn0.refl _ | apply Drawn0.step)⟩
    · replace c5 := Bool.eq_false_iff.mpr c5
      subst c5
      have H1 : (some (0, 20)) = some (r1, r2) := by rw [if_neg (show ¬ (false = true) by decide)] at H; exact H
      clear H
      have H := H1
      clear H1
      simp only [Option.some.injEq, Prod.mk.injEq] at H
      obtain ⟨rfl, rfl⟩ := H
      go_enter Try.func23, Try.ntmps23
      go_wp2_with (first | ((with_reducible refine gate_callee (f := 37) rfl ?_); refine goesL_ (some 6) rfl rfl Try.func37 (by kernel_rfl) rfl #[.string a0, .string (⟨#[83, 72, 84, 76, 1]⟩ : ByteArray)] rfl (by (try simp only [List.map_toArray, List.map_cons, List.map_nil]); first | done | rfl | (simp only [List.length_drop, List.length_take]; rfl)) ?_; (with_reducible refine (strings_HasPrefix.calls a0 (⟨#[83, 72, 84, 76, 1]⟩ : ByteArray) false _ A2.out).mono ?_); rintro e w' ⟨rfl, ⟨nd, rfl⟩⟩; refine ⟨_, rfl, ?_⟩) | ((with_reducible refine gate_callee (f := 37) rfl ?_); refine goesL_ (some 9) rfl rfl Try.func37 (by kernel_rfl) rfl #[.string (⟨#[83, 72, 84, 76, 1]⟩ : ByteArray), .string a0] rfl (by (try simp only [List.map_toArray, List.map_cons, List.map_nil]); first | done | rfl | (simp only [List.length_drop, List.length_take]; rfl)) ?_; (with_reducible refine (strings_HasPrefix.calls (⟨#[83, 72, 84, 76, 1]⟩ : ByteArray) a0 false _ A4.out).mono ?_); rintro e w' ⟨rfl, ⟨nd, rfl⟩⟩; refine ⟨_, rfl, ?_⟩))
      go_ret2
      exact ⟨by first | rfl | (simp; done) | (simp [*]; done), by repeat (first | exact Drawn0.refl _ | apply Drawn0.step)⟩

/-! ### varint_Put: function 38 -/
mutual
def varint_Put.j0 : Nat → Int → Bool → Option (ByteArray)
  | 0, _, _ => none
  | k + 1, x0, x9 => if x9 = true then (some (⟨#[]⟩ : ByteArray)) else (varint_Put.l0 k x0 ([] : List Int))
def varint_Put.l0 : Nat → Int → List Int → Option (ByteArray)
  | 0, _, _ => none
  | k + 1, x0, x3 => if x0 ≥ 128 then (if x3.length < 140737488355328 then (varint_Put.l0 k (x0 / 128) (x3 ++ [(Go.bits .or .i64 (Go.bits .and .i64 x0 127) 128) % 256])) else (none)) else (if x3.length < 140737488355328 then (some (strOfNums (x3 ++ [(x0) % 256]))) else (none))
end
def varint_Put.f (k : Nat) (a0 : Int) : Option (ByteArray) := if a0 < 0 then (varint_Put.j0 k a0 true) else (varint_Put.j0 k a0 (decide (a0 ≥ 4611686018427387904)))
theorem varint_Put.mono_l : ∀ k, (∀ y0 y1, LeO (varint_Put.j0 k y0 y1) (varint_Put.j0 (k + 1) y0 y1)) ∧ (∀ y0 y1, LeO (varint_Put.l0 k y0 y1) (varint_Put.l0 (k + 1) y0 y1))
  | 0 => ⟨fun _ _ r h => by simp [varint_Put.j0] at h, fun _ _ r h => by simp [varint_Put.l0] at h⟩
  | k + 1 => by
    obtain ⟨ih0, ih1⟩ := varint_Put.mono_l k
    refine ⟨?_, ?_⟩
    · intro y0 y1
      unfold varint_Put.j0
      repeat' first
      | (with_reducible exact ih0 _ _)
      | (with_reducible exact ih1 _ _)
      | (with_reducible exact LeO.refl _)
      | (with_reducible exact LeO.none _)
      | (with_reducible refine LeO.ite ?_ ?_)
      | (with_reducible refine LeO.bind ?_ (fun _ => ?_))
      | exact ih0 _ _
      | exact ih1 _ _
      | exact LeO.none _
      | refine LeO.ite ?_ ?_
      | refine LeO.bind ?_ (fun _ => ?_)
    · intro y0 y1
      unfold varint_Put.l0
      repeat' first
      | (with_reducible exact ih0 _ _)
      | (with_reducible exact ih1 _ _)
      | (with_reducible exact LeO.refl _)
      | (with_reducible exact LeO.none _)
      | (with_reducible refine LeO.ite ?_ ?_)
      | (with_reducible refine LeO.bind ?_ (fun _ => ?_))
      | exact ih0 _ _
      | exact ih1 _ _
      | exact LeO.none _
      | refine LeO.ite ?_ ?_
      | refine LeO.bind ?_ (fun _ => ?_)
theorem varint_Put.mono : ∀ a0 k, LeO (varint_Put.f k a0) (varint_Put.f (k + 1) a0) := by
  intro a0 k
  obtain ⟨ih0, ih1⟩ := varint_Put.mono_l k
  unfold varint_Put.f
  repeat' first
      | (with_reducible exact ih0 _ _)
      | (with_reducible exact ih1 _ _)
      | (with_reducible exact LeO.refl _)
      | (with_reducible exact LeO.none _)
      | (with_reducible refine LeO.ite ?_ ?_)
      | (with_reducible refine LeO.bind ?_ (fun _ => ?_))
      | exact ih0 _ _
      | exact ih1 _ _
      | exact LeO.none _
      | refine LeO.ite ?_ ?_
      | refine LeO.bind ?_ (fun _ => ?_)
set_option maxHeartbeats 8000000 in
set_option maxRecDepth 100000 in
theorem varint_Put.calls (k : Nat) (a0 : Int) (r : ByteArray) (w : World) (h : varint_Put.f k a0 = some r) :
    Calls Try.prog 38 #[.int .i64 a0] w fun e w' => e = .returned (.string r) ∧ Below w.heap.size w w' := by
  have HB := Aside0.mk (Below.refl w.heap.size w)
  have H : (if a0 < 0 then (varint_Put.j0 k a0 true) else (varint_Put.j0 k a0 (decide (a0 ≥ 4611686018427387904)))) = some r := h
  clear h
  have HC2 := Aside0.mk H
  clear H
  go_enter Try.func38, Try.ntmps38
  go_upto_region 1 with (fail)
  go_cut [9] (fun v9 wc => ∃ (kq : Nat) (x9_1 : Bool), v9 = .bool x9_1 ∧ Aside0 (varint_Put.j0 kq a0 x9_1 = some r) ∧ Aside0 (kq ≤ k) ∧ Aside0 (Below w.heap.size w wc))
  case first =>
    have H := HC2.out
    clear HC2
    by_cases c3 : a0 < 0
    · rw [if_pos c3] at H
      have c3b0 : decide (a0 < 0) = true := decide_eq_true c3
      clear c3
      (first | rw [c3b0] | (simp only [i64_w, i32_w]; rw [c3b0]) | skip)
      have H' := Aside0.mk H
      clear H
      go_wp2
      go_meet
      case rel => exact ⟨_, (true), (by first | rfl | (simp; done) | (simp [*]; done)), H', ⟨by first | omega | exact Nat.le_refl _⟩, ⟨by repeat (first | (with_reducible first | exact HB.out | apply below_alloc | apply pw_below_drewN | apply below_drew1) | exact HB.out | exact HBo.out)⟩⟩
    · rw [if_neg c3] at H
      have c3b0 : decide (a0 < 0) = false := decide_eq_false c3
      clear c3
      (first | rw [c3b0] | (simp only [i64_w, i32_w]; rw [c3b0]) | skip)
      have H' := Aside0.mk H
      clear H
      go_wp2
      go_meet
      case rel => exact ⟨_, (decide (a0 ≥ 4611686018427387904)), (by first | rfl | (simp; done) | (simp [*]; done)), H', ⟨by first | omega | exact Nat.le_refl _⟩, ⟨by repeat (first | (with_reducible first | exact HB.out | apply below_alloc | apply pw_below_drewN | apply below_drew1) | exact HB.out | exact HBo.out)⟩⟩
  case rest =>
    clear HC2
    try clear p2
    try clear c3
    try clear c3b0
    obtain ⟨kq, x9_1, rfl, HA, HJ1, HB⟩ := hcut
    cases kq with
    | zero => exact absurd HA.out (by simp [varint_Put.j0])
    | succ kj1 =>
      have H := HA.out
      clear HA
      simp only [varint_Put.j0] at H
      by_cases c4 : x9_1 = true
      · subst c4
        have H1 : (some (⟨#[]⟩ : ByteArray)) = some r := by rw [if_pos rfl] at H; exact H
        clear H
        have H := H1
        clear H1
        obtain rfl := Option.some.inj H
        go_wp2
        go_ret
        exact ⟨by first | rfl | (simp [errW_none, errW_some] <;> rfl) | (simp [*, errW_none, errW_some] <;> rfl) | (simp [Aid.ne_nil, Aid.eq_nil, errW_none, errW_some]; done), by repeat (first | (with_reducible first | exact HB.out | apply below_alloc | apply pw_below_drewN | apply below_drew1) | exact HB.out | exact HBo.out)⟩
      · replace c4 := Bool.eq_false_iff.mpr c4
        subst c4
        have H1 : (varint_Put.l0 kj1 a0 ([] : List Int)) = some r := by rw [if_neg (show ¬ (false = true) by decide)] at H; exact H
        clear H
        have H := H1
        clear H1
        have H' := Aside0.mk H
        clear H
        go_wp2
        go_loopg [0, 3] kj1 (fun kq v0 v3 w' => ∃ (x0_2 : Int) (x3_2 : List Int), v0 = .int .i64 x0_2 ∧ Aside0 (varint_Put.l0 kq x0_2 x3_2 = some r) ∧ Aside0 (kq ≤ kj1) ∧ Aside0 (Kd.R (Kd.int .u8) 5 w' w.heap.size (fun _ => True) v3 x3_2) ∧ Aside0 (Below w.heap.size w w'))
        case atStart => exact ⟨(a0), (([] : List Int)), (by first | rfl | (simp; done) | (simp [*]; done)), H', ⟨Nat.le_refl _⟩, ⟨by first | exact Kd.R_nil _ _ _ _ _ | exact Kd.N_nil _ _ _ _ _ | exact Kd.V_nil _ _ _ _ _ | exact Kd.Q_nil _ _ _ _ _ | exact Kd.S_nil _ _ _ _ _⟩, ⟨by repeat (first | (with_reducible first | exact HB.out | apply below_alloc | apply pw_below_drewN | apply below_drew1) | exact HB.out | exact HBo.out)⟩⟩
        case round =>
          clear H'
          try clear p2
          try clear c3
          try clear c3b0
          try clear c4
          try clear p2
          obtain ⟨x0_2, x3_2, rfl, HA, HK2, HO_3, HB⟩ := hrel
          cases gk with
          | zero => exact absurd HA.out (by simp [varint_Put.l0])
          | succ k2 =>
            have H := HA.out
            clear HA
            simp only [varint_Put.l0] at H
            by_cases c5 : x0_2 ≥ 128
            · rw [if_pos c5] at H
              have c5b0 : decide (128 ≤ x0_2) = true := decide_eq_true c5
              clear c5
              by_cases c6 : x3_2.length < 140737488355328
              · rw [if_pos c6] at H
                have LMc6 := Aside0.mk c6
                clear c6
                obtain ⟨y160, hy160⟩ : ∃ y_ : List Int, y_ = (x3_2 ++ [(Go.bits .or .i64 (Go.bits .and .i64 x0_2 127) 128) % 256]) := ⟨_, rfl⟩
                replace H : (varint_Put.l0 k2 (x0_2 / 128) y160) = some r := by first | (rw [hy160]; with_reducible exact H) | (have H2_ := (Option.bind_some _ _).symm.trans H; rw [hy160]; with_reducible exact H2_) | (have H2_ := (Option.bind_some _ _).symm.trans H; with_reducible exact H2_) | with_reducible exact H | (rw [hy160]; exact H) | exact H
                have Ny160 := Aside0.mk hy160
                clear hy160
                have H' := Aside0.mk H
                clear H
                go_wp2_with (first | ((with_reducible refine gate_builtin (b := .append) (xs := #[.tmp 14, .tmp 19]) rfl ?_); at_builtin; refine Kd.R_append (Kd.int .u8) (w0 := w) w.heap.size rfl (.tmp 14) (.tmp 19) 57 5 (.int .u8 0) 1 rfl Try.underlying57 info5 rfl (by decide) (by omega) u3 x3_2 ((Go.bits .or .i64 (Go.bits .and .i64 x0_2 127) 128) % 256) [.int .u8 ((Go.bits .or .i64 (Go.bits .and .i64 x0_2 127) 128) % 256)] (fun _ => True) (fun _ => False) rfl rfl ?aP (fun _ hk => hk.elim) ?aF ?aO ?aB ?aS ?aL ?_; (case aP => exact rfl); (case aB => exact (by repeat (first | (with_reducible first | exact HB.out | apply below_alloc | apply pw_below_drewN | apply below_drew1) | exact HB.out | exact HBo.out))); (case aF => exact (fun _ _ => trivial)); (case aO => exact (by (with_reducible repeat (first | apply Kd.R_alloc | apply Kd.R_drewN | apply Kd.R_drew)); exact HO_3.out)); (case aS => exact (below_size (by repeat (first | (with_reducible first | exact HB.out | apply below_alloc | apply pw_below_drewN | apply below_drew1) | exact HB.out | exact HBo.out)))); (case aL => have := LMc6.out; omega); intro v161 w7 ho hb hg hat; rw [← Ny160.out] at ho; have n0_ := Aside0.mk (hb); have n1_ := Aside0.mk (ho); clear HB; clear HO_3; have HB := n0_; have HO162 := n1_; clear n0_ n1_; clear ho hb hg hat))
                go_roundg k2
                case measure => have := HJ1.out; have := HK2.out; omega
                case rel => exact ⟨(x0_2 / 128), (y160), (by first | rfl | (simp; done) | (simp [*]; done)), H', ⟨by have := HJ1.out; have := HK2.out; omega⟩, ⟨by (with_reducible repeat (first | apply Kd.R_alloc | apply Kd.R_drewN | apply Kd.R_drew)); exact HO162.out⟩, ⟨by repeat (first | (with_reducible first | exact HB.out | apply below_alloc | apply pw_below_drewN | apply below_drew1) | exact HB.out | exact HBo.out)⟩⟩
              · rw [if_neg c6] at H
                exact absurd H (by simp)
            · rw [if_neg c5] at H
              have c5b0 : decide (128 ≤ x0_2) = false := decide_eq_false c5
              clear c5
              by_cases c8 : x3_2.length < 140737488355328
              · rw [if_pos c8] at H
                have LMc8 := Aside0.mk c8
                clear c8
                obtain ⟨y163, hy163⟩ : ∃ y_ : List Int, y_ = (x3_2 ++ [(x0_2) % 256]) := ⟨_, rfl⟩
                replace H : (some (strOfNums y163)) = some r := by first | (rw [hy163]; with_reducible exact H) | (have H2_ := (Option.bind_some _ _).symm.trans H; rw [hy163]; with_reducible exact H2_) | (have H2_ := (Option.bind_some _ _).symm.trans H; with_reducible exact H2_) | with_reducible exact H | (rw [hy163]; exact H) | exact H
                have Ny163 := Aside0.mk hy163
                clear hy163
                obtain rfl := Option.some.inj H
                go_wp2_with (first | ((with_reducible refine gate_builtin (b := .append) (xs := #[.tmp 21, .tmp 24]) rfl ?_); at_builtin; refine Kd.R_append (Kd.int .u8) (w0 := w) w.heap.size rfl (.tmp 21) (.tmp 24) 57 5 (.int .u8 0) 1 rfl Try.underlying57 info5 rfl (by decide) (by omega) u3 x3_2 ((x0_2) % 256) [.int .u8 ((x0_2) % 256)] (fun _ => True) (fun _ => False) rfl rfl ?aP (fun _ hk => hk.elim) ?aF ?aO ?aB ?aS ?aL ?_; (case aP => exact rfl); (case aB => exact (by repeat (first | (with_reducible first | exact HB.out | apply below_alloc | apply pw_below_drewN | apply below_drew1) | exact HB.out | exact HBo.out))); (case aF => exact (fun _ _ => trivial)); (case aO => exact (by (with_reducible repeat (first | apply Kd.R_alloc | apply Kd.R_drewN | apply Kd.R_drew)); exact HO_3.out)); (case aS => exact (below_size (by repeat (first | (with_reducible first | exact HB.out | apply below_alloc | apply pw_below_drewN | apply below_drew1) | exact HB.out | exact HBo.out)))); (case aL => have := LMc8.out; omega); intro v164 w9 ho hb hg hat; rw [← Ny163.out] at ho; have n0_ := Aside0.mk (hb); have n1_ := Aside0.mk (ho); clear HB; clear HO_3; have HB := n0_; have HO165 := n1_; clear n0_ n1_; clear ho hb hg hat; have hcv10 := own_string (P := Try.prog) Try.underlying57 Try.underlying5 Try.underlying9 (Kd.own_of_R HO165.out)))
                go_ret
                exact ⟨by first | rfl | (simp [errW_none, errW_some] <;> rfl) | (simp [*, errW_none, errW_some] <;> rfl) | (simp [Aid.ne_nil, Aid.eq_nil, errW_none, errW_some]; done), by repeat (first | (with_reducible first | exact HB.out | apply below_alloc | apply pw_below_drewN | apply below_drew1) | exact HB.out | exact HBo.out)⟩
              · rw [if_neg c8] at H
                exact absurd H (by simp)

/-! ### wire_Text: function 25 -/
def wire_Text.f (k : Nat) (a0 : ByteArray) : Option (ByteArray) := (varint_Put.f k (a0.size : Int)).bind fun t166 => (if t166.size + a0.size ≤ 9223372036854775807 then (some (t166 ++ a0)) else (none))
theorem wire_Text.mono : ∀ a0 k, LeO (wire_Text.f k a0) (wire_Text.f (k + 1) a0) := by
  intro a0 k
  unfold wire_Text.f
  repeat' first
      | (with_reducible exact varint_Put.mono _ _)
      | (with_reducible exact LeO.refl _)
      | (with_reducible exact LeO.none _)
      | (with_reducible refine LeO.ite ?_ ?_)
      | (with_reducible refine LeO.bind ?_ (fun _ => ?_))
      | exact varint_Put.mono _ _
      | exact LeO.none _
      | refine LeO.ite ?_ ?_
      | refine LeO.bind ?_ (fun _ => ?_)
set_option maxHeartbeats 8000000 in
set_option maxRecDepth 100000 in
theorem wire_Text.calls (k : Nat) (a0 : ByteArray) (r : ByteArray) (w : World) (h : wire_Text.f k a0 = some r) :
    Calls Try.prog 25 #[.string a0] w fun e w' => e = .returned (.string r) ∧ Below w.heap.size w w' := by
  have HB := Aside0.mk (Below.refl w.heap.size w)
  have H : ((varint_Put.f k (a0.size : Int)).bind fun t166 => (if t166.size + a0.size ≤ 9223372036854775807 then (some (t166 ++ a0)) else (none))) = some r := h
  clear h
  replace H := Option.bind_eq_some_iff.mp H
  obtain ⟨t166, A20, H⟩ := H
  replace H : (if t166.size + a0.size ≤ 9223372036854775807 then (some (t166 ++ a0)) else (none)) = some r := H
  have A2 := Aside0.mk A20
  clear A20
  by_cases c3 : t166.size + a0.size ≤ 9223372036854775807
  · rw [if_pos c3] at H
    have c3b0 := eq_true c3
    have c3b1 : decide (t166.size + a0.size ≤ 9223372036854775807) = true := decide_eq_true c3
    try have c3b2 : (9223372036854775807 < t166.size + a0.size) = False := eq_false (Nat.not_lt.2 c3)
    obtain rfl := Option.some.inj H
    go_enter Try.func25, Try.ntmps25
    go_wp2_with (first | ((with_reducible refine gate_callee (f := 38) rfl ?_); refine goesL_ (some 5) rfl rfl Try.func38 (by kernel_rfl) rfl #[.int .i64 (a0.size : Int)] rfl (by (try simp only [List.map_toArray, List.map_cons, List.map_nil]); first | done | rfl | (simp only [List.length_drop, List.length_take]; rfl)) ?_; (with_reducible refine (varint_Put.calls k (a0.size : Int) t166 _ A2.out).mono ?_); rintro e w4 ⟨rfl, hb⟩; refine ⟨_, rfl, ?_⟩; have n0_ := Aside0.mk (below_step (by repeat (first | (with_reducible first | exact HB.out | apply below_alloc | apply pw_below_drewN | apply below_drew1) | exact HB.out | exact HBo.out)) hb); clear HB; have HB := n0_; clear n0_; (try clear hb); (try clear hb2); (try clear hk); (try clear hi)))
    go_ret
    exact ⟨by first | rfl | (simp [errW_none, errW_some] <;> rfl) | (simp [*, errW_none, errW_some] <;> rfl) | (simp [Aid.ne_nil, Aid.eq_nil, errW_none, errW_some]; done), by repeat (first | (with_reducible first | exact HB.out | apply below_alloc | apply pw_below_drewN | apply below_drew1) | exact HB.out | exact HBo.out)⟩
  · rw [if_neg c3] at H
    exact absurd H (by simp)

-- NOT PRINTED: function 44 (abi_NoEscape)

-- NOT PRINTED: function 43 (strings_Builder_copyCheck)

-- NOT PRINTED: function 40 (strings_Builder_WriteString)

-- NOT PRINTED: function 41 (strings_Builder_String)

/-! ### wire_Nums: function 27, by hand -/
def wire_Nums.l0 : Nat → List Int → ByteArray → Int → Option (ByteArray)
  | 0, _, _, _ => none
  | k + 1, x0, x3, x9 => if x9 < (x0.length : Int) then (if 0 ≤ x9 then ((varint_Put.f k (rd x0 x9)).bind fun t => (if t.toList = ([] : List UInt8) then (some (⟨#[]⟩ : ByteArray)) else (if x3.size + t.size ≤ 140737488355328 then (wire_Nums.l0 k x0 (x3 ++ t) (wrap64 (x9 + 1))) else (none)))) else (none)) else (some x3)
def wire_Nums.f (k : Nat) (l0 : List Int) : Option (ByteArray) := wire_Nums.l0 k l0 (⟨#[]⟩ : ByteArray) 0
theorem wire_Nums.mono_l : ∀ k, ∀ y0 y1 y2, LeO (wire_Nums.l0 k y0 y1 y2) (wire_Nums.l0 (k + 1) y0 y1 y2)
  | 0 => fun _ _ _ r h => by simp [wire_Nums.l0] at h
  | k + 1 => fun y0 y1 y2 => by
    have ih := wire_Nums.mono_l k
    unfold wire_Nums.l0
    exact LeO.ite (LeO.ite (LeO.bind (varint_Put.mono _ _) (fun _ => LeO.ite (LeO.refl _) (LeO.ite (ih _ _ _) (LeO.refl _)))) (LeO.refl _)) (LeO.refl _)
theorem wire_Nums.mono : ∀ a0 k, LeO (wire_Nums.f k a0) (wire_Nums.f (k + 1) a0) := fun a0 k => wire_Nums.mono_l k a0 _ 0
/-- The builder holds these bytes; below lies what lay. -/
def NumsAt (w : World) (acc : ByteArray) (w' : World) : Prop := Lib.IsBuilder 59 5 w.heap.size w.heap.size (Lib.strCells acc) w' ∧ Below w.heap.size w w'
theorem NumsAt.start (w : World) : NumsAt w (⟨#[]⟩ : ByteArray) (w.alloc (.cells #[.pointer none, .slice none 0 0] 59)) := ⟨Lib.fresh_isBuilder _ _ w, below_alloc (Below.refl _ _) _⟩
theorem IsBuilder_below {B b : Nat} {bs : List Value} {w w1 : World} (h : Lib.IsBuilder 59 5 B b bs w) (hb : Below w.heap.size w w1) : Lib.IsBuilder 59 5 B b bs w1 := by
  have go : ∀ p, Lib.BuilderAt 59 5 B b p bs w → Lib.BuilderAt 59 5 B b p bs w1 := by
    rintro p ⟨hB, v, hbk, hown, hne⟩
    exact ⟨hB, v, blk_grown hbk (grown_of_below hb none) (by simp), pw_own_below hown hb, hne⟩
  rcases h with h | h
  · exact .inl (go _ h)
  · exact .inr (go _ h)
theorem NumsAt.below {w : World} {acc : ByteArray} {w' w1 : World} (h : NumsAt w acc w') (hb : Below w'.heap.size w' w1) : NumsAt w acc w1 := ⟨IsBuilder_below h.1 hb, below_step h.2 hb⟩
theorem NumsAt.put {w : World} {acc t : ByteArray} {w' w1 : World} (h : NumsAt w acc w') (k : Lib.BuilderAt 59 5 w.heap.size w.heap.size (.pointer (some ⟨w.heap.size, 0, none⟩)) (Lib.strCells acc ++ Lib.strCells t) w1) (hb : Below w.heap.size w' w1) : NumsAt w (acc ++ t) w1 := by
  refine ⟨.inr ?_, h.2.trans hb⟩
  have e : Lib.strCells (acc ++ t) = Lib.strCells acc ++ Lib.strCells t := by simp [Lib.strCells]
  rw [e]
  exact k
set_option maxHeartbeats 2000000 in
set_option maxRecDepth 100000 in
theorem wire_Nums.calls (k : Nat) (A0 : Option Addr) (c0 : Nat) (l0 : List Int) (r : ByteArray) (w : World) (hr0 : Kd.C (Kd.int .i64) w A0 l0.length l0) (hc0 : l0.length ≤ c0) (h : wire_Nums.f k l0 = some r) :
    Calls Try.prog 27 #[.slice A0 l0.length c0] w fun e w' => e = .returned (.string r) ∧ Below w.heap.size w w' := by
  have HR0 := Aside0.mk hr0
  clear hr0 hc0
  have H' : Aside0 (wire_Nums.l0 k l0 (⟨#[]⟩ : ByteArray) 0 = some r) := Aside0.mk h
  clear h
  go_enter Try.func27, Try.ntmps27
  go_wp2
  go_loopg [9] k (fun kq v9 w' => ∃ (x3 : ByteArray) (x9 : Int), v9 = .int .i64 x9 ∧ Aside0 (wire_Nums.l0 kq l0 x3 x9 = some r) ∧ NumsAt w x3 w')
  case atStart => exact ⟨_, 0, rfl, H', NumsAt.start w⟩
  case round =>
    clear H'
    obtain ⟨x3, x9, rfl, HA, HN⟩ := hrel
    cases gk with
    | zero => exact absurd HA.out (by simp [wire_Nums.l0])
    | succ k1 =>
      have H := HA.out
      clear HA
      simp only [wire_Nums.l0] at H
      by_cases c2 : x9 < (l0.length : Int)
      · rw [if_pos c2] at H
        have c2b0 : decide (x9 < (l0.length : Int)) = true := decide_eq_true c2
        by_cases c3 : 0 ≤ x9
        · rw [if_pos c3] at H
          have c3b0 : decide (0 ≤ x9) = true := decide_eq_true c3
          obtain ⟨ad, ea, hx⟩ := Kd.at_int HR0.out x9 c3 c2
          cases ea
          replace hx := (HN.2.cell (World.block_lt_of_cell? w _ hx)).trans hx
          have p1 := eq_true c3
          have q1 := eq_true c2
          clear c2 c3
          replace H := Option.bind_eq_some_iff.mp H
          obtain ⟨t, A40, H⟩ := H
          have A4 := Aside0.mk A40
          clear A40
          by_cases c5 : t.toList = ([] : List UInt8)
          · rw [if_pos c5] at H
            have c5b0 : (t.toList == ([] : List UInt8)) = true := beq_iff_eq.mpr c5
            clear c5
            obtain rfl := Option.some.inj H
            clear H
            go_wp2_with (go_at_call 38; (with_reducible refine (varint_Put.calls k1 _ t _ A4.out).mono ?_); rintro e w1 ⟨rfl, hb⟩; have HN1 := NumsAt.below HN hb; clear hb)
            go_ret
            exact ⟨rfl, HN1.2⟩
          · rw [if_neg c5] at H
            have c5b0 : (t.toList == ([] : List UInt8)) = false := beq_eq_false_iff_ne.mpr c5
            clear c5
            by_cases c8 : x3.size + t.size ≤ 140737488355328
            · rw [if_pos c8] at H
              have H' := Aside0.mk H
              clear H
              have hlen : (Lib.strCells x3).length + t.size ≤ 140737488355328 := by rw [Lib.strCells_length]; exact c8
              have HL := Aside0.mk hlen
              clear hlen c8
              go_wp2_with (first | (go_at_call 38; (with_reducible refine (varint_Put.calls k1 _ t _ A4.out).mono ?_); rintro e w1 ⟨rfl, hb⟩; have HN1 := NumsAt.below HN hb; clear hb) | (go_at_call 40; (refine (Go.Proofs.Ythbfgggpggjldaa.Bld.writeString w.heap.size w.heap.size _ t _ HN1.1 HL.out (below_size HN1.2)).mono ?_); rintro e w2 ⟨rfl, hk, hb⟩; have HN2 := NumsAt.put HN1 hk hb; clear hk hb))
              go_roundg k1
              case rel => exact ⟨_, _, rfl, H', HN2⟩
              case measure => exact Nat.lt_succ_self _
            · rw [if_neg c8] at H
              cases H
        · rw [if_neg c3] at H
          cases H
      · rw [if_neg c2] at H
        have c2b0 : decide (x9 < (l0.length : Int)) = false := decide_eq_false c2
        clear c2
        obtain rfl := Option.some.inj H
        clear H
        have HN' : Lib.IsBuilder 59 5 w.heap.size w.heap.size (Lib.byteCells x3.data.toList) _ := HN.1
        go_wp2_with (go_at_call 41; (refine (Go.Proofs.Ythbfgggpggjldaa.Bld.string_any w.heap.size w.heap.size x3.data.toList _ HN' (below_size HN.2)).mono ?_); rintro e w2 ⟨rfl, hb⟩; have HB2 := HN.2.trans hb; clear hb)
        go_ret
        exact ⟨rfl, HB2⟩

/-! ### wire_Header: function 29 -/
def wire_Header.f  : Option (ByteArray) := some (⟨#[83, 72, 84, 76, 1]⟩ : ByteArray)
set_option maxHeartbeats 8000000 in
set_option maxRecDepth 100000 in
theorem wire_Header.calls  (r : ByteArray) (w : World) (h : wire_Header.f  = some r) :
    Calls Try.prog 29 #[] w fun e w' => e = .returned (.string r) ∧ Drawn0 w w' := by
  have H : (some (⟨#[83, 72, 84, 76, 1]⟩ : ByteArray)) = some r := h
  clear h
  obtain rfl := Option.some.inj H
  go_enter Try.func29, Try.ntmps29
  go_wp2
  go_ret
  exact ⟨by first | rfl | (simp; done) | (simp [*]; done), by repeat (first | exact Drawn0.refl _ | apply Drawn0.step)⟩

/-! ### shuttlecocklaw02_fixed: function 9, by hand -/
theorem wire_Reader_ok.nil (w : World) : Calls Try.prog 31 #[.pointer none] w fun e w' => e = .returned (.bool false) ∧ w = w' := by
  go_enter Try.func31, Try.ntmps31
  go_wp2
  go_ret
  exact ⟨rfl, rfl⟩
theorem wire_Reader_ok.nil' (w : World) : Calls Try.prog 31 #[.pointer none] w fun e w' => e = .returned (.bool false) ∧ w' = w := (wire_Reader_ok.nil w).mono fun _ _ h => ⟨h.1, h.2.symm⟩
theorem wire_Reader_Num.nil (w : World) : Calls Try.prog 11 #[.pointer none] w fun e w' => e = .returned (.int .i64 0) ∧ w = w' := by
  go_enter Try.func11, Try.ntmps11
  go_wp2_with (go_at_call 31; (with_reducible refine (wire_Reader_ok.nil _).mono ?_); rintro e w1 ⟨rfl, rfl⟩)
  go_ret
  exact ⟨rfl, rfl⟩
theorem wire_Reader_Err.nil (w : World) : Calls Try.prog 19 #[.pointer none] w fun e w' => e = .returned (.tuple #[.int .i64 1, .int .i64 0]) ∧ w = w' := by
  go_enter Try.func19, Try.ntmps19
  go_wp2
  go_ret2
  exact ⟨rfl, rfl⟩
theorem wire_Reader_Done.nil (w : World) : Calls Try.prog 21 #[.pointer none] w fun e w' => e = .returned (.bool false) ∧ Drawn0 w w' := by
  have ok := fun n => wire_Reader_ok.nil' (w.drewN n)
  go_enter Try.func21, Try.ntmps21
  go_wp2_with fail
  go_quiet ((go_at_call 31; exact Calls.quiet_of_same (ok _)))
  go_wp2
  go_ret
  exact ⟨rfl, ⟨⟨_, rfl⟩⟩⟩
theorem one_lit (W : World) (b : Nat) (xs : List Int) (h : W.heap[b]? = some (.cells (xs.map (Value.int .i64)).toArray 3 (0, 0))) (hl : xs.length < 1000) : Kd.C (Kd.int .i64) W (some ⟨b, 0, none⟩) xs.length xs :=
  Kd.C_of_reads (d := (0 : Int)) (h1 := fun _ => rfl) ⟨rfl, by omega, fun _ => ⟨_, rfl, fun j hj => by
    rw [add_plain, blk_cell h j]
    simp [List.getElem?_eq_getElem hj, List.getD_eq_getElem?_getD]⟩⟩
theorem nums_lit (k : Nat) (xs : List Int) (n : Nat) (r : ByteArray) (W : World) (b : Nat) (hn : xs.length = n) (h : W.heap[b]? = some (.cells (xs.map (Value.int .i64)).toArray 3 (0, 0))) (hl : xs.length < 1000) (hf : wire_Nums.f k xs = some r) :
    Calls Try.prog 27 #[.slice (some ⟨b, 0, none⟩) n n] W fun e w' => e = .returned (.string r) ∧ Below W.heap.size W w' := by
  subst hn
  exact wire_Nums.calls k _ _ xs r W (one_lit W b xs h hl) (Nat.le_refl _) hf
def shuttlecocklaw02_fixed.f : Option (Bool) := some true
/-- A reader of the text at g, and the world below. -/
def FxAt (w : World) (g : Nat) (a e f : Int) (w' : World) : Prop := IsS50 w w' g (⟨#[172, 2]⟩ ++ ⟨#[2, 97, 98]⟩ ++ ⟨#[120]⟩) a e f ∧ Below w.heap.size w w'
theorem FxAt.below {w : World} {g : Nat} {a e f : Int} {w' w1 : World} (h : FxAt w g a e f w') (hb : Below w'.heap.size w' w1) : FxAt w g a e f w1 := ⟨h.1.below hb, below_step h.2 hb⟩
theorem fx_new (w W : World) (hB : Below w.heap.size w W) : Calls Try.prog 10 #[.string (⟨#[172, 2]⟩ ++ ⟨#[2, 97, 98]⟩ ++ ⟨#[120]⟩)] W fun e w' => ∃ g_ : Nat, e = .returned (.pointer (some ⟨g_, 0, none⟩)) ∧ FxAt w g_ 0 0 0 w' :=
  (wire_New.calls _ _ _ _ _ w W hB rfl).mono fun _ _ ⟨g, a, b, c, _⟩ => ⟨g, a, b, c⟩
theorem fx_num (w W : World) (g : Nat) (a e f n a' e' f' : Int) (h : FxAt w g a e f W) (hf : wire_Reader_Num.f 30 (⟨#[172, 2]⟩ ++ ⟨#[2, 97, 98]⟩ ++ ⟨#[120]⟩) a e f = some (n, (⟨#[172, 2]⟩ ++ ⟨#[2, 97, 98]⟩ ++ ⟨#[120]⟩), a', e', f')) :
    Calls Try.prog 11 #[.pointer (some ⟨g, 0, none⟩)] W fun ed w' => ed = .returned (.int .i64 n) ∧ FxAt w g a' e' f' w' :=
  (wire_Reader_Num.calls 30 g _ a e f n _ a' e' f' w W h.1 h.2 hf).mono fun _ _ ⟨a, b, c, _⟩ => ⟨a, b, c⟩
theorem fx_text (w W : World) (g : Nat) (h : FxAt w g 2 0 0 W) : Calls Try.prog 15 #[.pointer (some ⟨g, 0, none⟩)] W fun ed w' => ed = .returned (.string ⟨#[97, 98]⟩) ∧ FxAt w g 5 0 0 w' :=
  (wire_Reader_Text.calls 30 g _ 2 0 0 ⟨#[97, 98]⟩ _ 5 0 0 w W h.1 h.2 (by decide +kernel)).mono fun _ _ ⟨a, b, c, _⟩ => ⟨a, b, c⟩
theorem fx_byte (w W : World) (g : Nat) (h : FxAt w g 5 0 0 W) : Calls Try.prog 13 #[.pointer (some ⟨g, 0, none⟩)] W fun ed w' => ed = .returned (.int .i64 120) ∧ FxAt w g 6 0 0 w' :=
  (wire_Reader_Byte.calls g _ 5 0 0 120 _ 6 0 0 w W h.1 h.2 (by decide +kernel)).mono fun _ _ ⟨a, b, c, _⟩ => ⟨a, b, c⟩
theorem fx_done (w W : World) (g : Nat) (h : FxAt w g 6 0 0 W) : Calls Try.prog 21 #[.pointer (some ⟨g, 0, none⟩)] W fun ed w' => ed = .returned (.bool true) ∧ FxAt w g 6 0 0 w' :=
  (wire_Reader_Done.calls g _ 6 0 0 true _ 6 0 0 w W h.1 h.2 (by decide +kernel)).mono fun _ _ ⟨a, b, c, _⟩ => ⟨a, b, c⟩
theorem fx_err (w W : World) (g : Nat) (h : FxAt w g 6 10 6 W) : Calls Try.prog 19 #[.pointer (some ⟨g, 0, none⟩)] W fun ed w' => ed = .returned (.tuple #[.int .i64 10, .int .i64 6]) ∧ FxAt w g 6 10 6 w' :=
  (wire_Reader_Err.calls g _ 6 10 6 10 6 _ 6 10 6 w W h.1 h.2 (by decide +kernel)).mono fun _ _ ⟨a, b, c, _⟩ => ⟨a, b, c⟩
theorem fx_at (w W : World) (g : Nat) (h : FxAt w g 6 10 6 W) : Calls Try.prog 20 #[.pointer (some ⟨g, 0, none⟩)] W fun ed w' => ed = .returned (.int .i64 6) ∧ FxAt w g 6 10 6 w' :=
  (wire_Reader_At.calls g _ 6 10 6 6 _ 6 10 6 w W h.1 h.2 (by decide +kernel)).mono fun _ _ ⟨a, b, c, _⟩ => ⟨a, b, c⟩
theorem fx_head (s : ByteArray) (n e : Int) (w W : World) (g : Nat) (a b f : Int) (h : FxAt w g a b f W) (hf : wire_Head.f s = some (n, e)) : Calls Try.prog 23 #[.string s] W fun ed w' => ed = .returned (.tuple #[.int .i64 n, .int .i64 e]) ∧ FxAt w g a b f w' :=
  (wire_Head.calls s n e W hf).mono fun _ _ ⟨x, y⟩ => ⟨x, h.below y.below⟩
theorem fx_header (w W : World) (g : Nat) (a b f : Int) (h : FxAt w g a b f W) : Calls Try.prog 29 #[] W fun ed w' => ed = .returned (.string ⟨#[83, 72, 84, 76, 1]⟩) ∧ FxAt w g a b f w' :=
  (wire_Header.calls _ W rfl).mono fun _ _ ⟨x, y⟩ => ⟨x, h.below y.below⟩
theorem fx_donenil (w W : World) (g : Nat) (a b f : Int) (h : FxAt w g a b f W) : Calls Try.prog 21 #[.pointer none] W fun ed w' => ed = .returned (.bool false) ∧ FxAt w g a b f w' :=
  (wire_Reader_Done.nil W).mono fun _ _ ⟨x, y⟩ => ⟨x, h.below y.below⟩
theorem fx_nums (w W : World) (g : Nat) (a b f : Int) (h : FxAt w g a b f W) : Calls Try.prog 27 #[.slice (some ⟨W.heap.size, 0, none⟩) 2 2] (W.alloc (.cells #[.int .i64 1, .int .i64 (-1)] 3)) fun ed w' => ed = .returned (.string ⟨#[]⟩) ∧ FxAt w g a b f w' :=
  (nums_lit 30 [1, -1] 2 ⟨#[]⟩ (W.alloc (.cells #[.int .i64 1, .int .i64 (-1)] 3)) W.heap.size (by rfl) (heap_alloc_new W _) (by decide) (by decide +kernel)).mono fun _ _ ⟨x, y⟩ => ⟨x, (h.below (below_alloc (Below.refl _ _) _)).below y⟩
set_option maxHeartbeats 8000000 in
set_option maxRecDepth 100000 in
theorem shuttlecocklaw02_fixed.calls (r : Bool) (w : World) (h : shuttlecocklaw02_fixed.f = some r) :
    Calls Try.prog 9 #[] w fun e w' => e = .returned (.bool r) ∧ Below w.heap.size w w' := by
  obtain rfl := Option.some.inj h
  clear h
  go_enter Try.func9, Try.ntmps9
  have b0 : Below w.heap.size w (w.alloc (.cells #[.int .i64 300] 3)) := below_alloc (Below.refl _ _) _
  have k0 := nums_lit 30 [300] 1 ⟨#[172, 2]⟩ (w.alloc (.cells #[.int .i64 300] 3)) w.heap.size (by rfl) (heap_alloc_new w _) (by decide) (by decide +kernel)
  have k1 := fun W => wire_Text.calls 30 ⟨#[97, 98]⟩ ⟨#[2, 97, 98]⟩ W (by decide +kernel)
  go_wp2_with (first
    | (go_at_call 27; (with_reducible refine k0.mono ?_); rintro e w1 ⟨rfl, hb⟩; have b1 := below_step b0 hb; clear hb)
    | (go_at_call 25; (with_reducible refine (k1 _).mono ?_); rintro e w2 ⟨rfl, hb⟩; have b2 := below_step b1 hb; clear hb)
    | (go_at_call 10; (with_reducible refine (fx_new w _ b2).mono ?_); rintro e w3 ⟨g, rfl, HF⟩; clear b0 b1 b2 k0 k1)
    | (go_at_call 11; (with_reducible refine (fx_num w _ g 0 0 0 300 2 0 0 HF (by decide +kernel)).mono ?_); rintro e w4 ⟨rfl, HF4⟩; clear HF; have HF := HF4; clear HF4)
    | (go_at_call 15; (with_reducible refine (fx_text w _ g HF).mono ?_); rintro e w4 ⟨rfl, HF4⟩; clear HF; have HF := HF4; clear HF4)
    | (go_at_call 13; (with_reducible refine (fx_byte w _ g HF).mono ?_); rintro e w4 ⟨rfl, HF4⟩; clear HF; have HF := HF4; clear HF4)
    | (go_at_call 21; (with_reducible refine (fx_done w _ g HF).mono ?_); rintro e w4 ⟨rfl, HF4⟩; clear HF; have HF := HF4; clear HF4)
    | (go_at_call 11; (with_reducible refine (fx_num w _ g 6 0 0 0 6 10 6 HF (by decide +kernel)).mono ?_); rintro e w4 ⟨rfl, HF4⟩; clear HF; have HF := HF4; clear HF4)
    | (go_at_call 19; (with_reducible refine (fx_err w _ g HF).mono ?_); rintro e w4 ⟨rfl, HF4⟩; clear HF; have HF := HF4; clear HF4)
    | (go_at_call 23; (with_reducible refine (fx_head ⟨#[83, 72, 84, 76, 1, 120]⟩ 5 0 w _ g 6 10 6 HF (by decide +kernel)).mono ?_); rintro e w4 ⟨rfl, HF4⟩; clear HF; have HF := HF4; clear HF4)
    | (go_at_call 23; (with_reducible refine (fx_head ⟨#[83, 72, 84]⟩ 0 10 w _ g 6 10 6 HF (by decide +kernel)).mono ?_); rintro e w4 ⟨rfl, HF4⟩; clear HF; have HF := HF4; clear HF4)
    | (go_at_call 23; (with_reducible refine (fx_head ⟨#[83, 72, 88]⟩ 0 20 w _ g 6 10 6 HF (by decide +kernel)).mono ?_); rintro e w4 ⟨rfl, HF4⟩; clear HF; have HF := HF4; clear HF4)
    | (go_at_call 19; (with_reducible refine (wire_Reader_Err.nil _).mono ?_); rintro e w4 ⟨rfl, rfl⟩)
    | (go_at_call 20; (with_reducible refine (fx_at w _ g HF).mono ?_); rintro e w4 ⟨rfl, HF4⟩; clear HF; have HF := HF4; clear HF4)
    | (go_at_call 11; (with_reducible refine (wire_Reader_Num.nil _).mono ?_); rintro e w4 ⟨rfl, rfl⟩)
    | (go_at_call 21; (with_reducible refine (fx_donenil w _ g 6 10 6 HF).mono ?_); rintro e w4 ⟨rfl, HF4⟩; clear HF; have HF := HF4; clear HF4)
    | (go_at_call 29; (with_reducible refine (fx_header w _ g 6 10 6 HF).mono ?_); rintro e w4 ⟨rfl, HF4⟩; clear HF; have HF := HF4; clear HF4)
    | (go_at_call 27; (with_reducible refine (fx_nums w _ g 6 10 6 HF).mono ?_); rintro e w4 ⟨rfl, HF4⟩; clear HF; have HF := HF4; clear HF4))
  go_ret
  exact ⟨rfl, HF.2⟩

/-! ### shuttlecockref01_Put: function 39 -/
mutual
def shuttlecockref01_Put.j0 : Nat → Int → Bool → Option (ByteArray)
  | 0, _, _ => none
  | k + 1, x0, x9 => if x9 = true then (some (⟨#[]⟩ : ByteArray)) else (shuttlecockref01_Put.l0 k x0 (([] : List Int)))
def shuttlecockref01_Put.l0 : Nat → Int → List Int → Option (ByteArray)
  | 0, _, _ => none
  | k + 1, x0, x3 => if x0 > 127 then (if x3.length < 140737488355328 then (shuttlecockref01_Put.l0 k (wrap64 (Int.tdiv x0 128)) (x3 ++ [(wrap64 (128 + (Int.tmod x0 128))) % 256])) else (none)) else (if x3.length < 140737488355328 then (some (strOfNums (x3 ++ [(x0) % 256]))) else (none))
end
def shuttlecockref01_Put.f (k : Nat) (a0 : Int) : Option (ByteArray) := if a0 < 0 then (shuttlecockref01_Put.j0 k a0 true) else (shuttlecockref01_Put.j0 k a0 (decide (a0 ≥ 4611686018427387904)))
theorem shuttlecockref01_Put.mono_l : ∀ k, (∀ y0 y1, LeO (shuttlecockref01_Put.j0 k y0 y1) (shuttlecockref01_Put.j0 (k + 1) y0 y1)) ∧ (∀ y0 y1, LeO (shuttlecockref01_Put.l0 k y0 y1) (shuttlecockref01_Put.l0 (k + 1) y0 y1))
  | 0 => ⟨fun _ _ r h => by simp [shuttlecockref01_Put.j0] at h, fun _ _ r h => by simp [shuttlecockref01_Put.l0] at h⟩
  | k + 1 => by
    obtain ⟨ih0, ih1⟩ := shuttlecockref01_Put.mono_l k
    refine ⟨?_, ?_⟩
    · intro y0 y1
      unfold shuttlecockref01_Put.j0
      repeat' first
      | (with_reducible exact ih0 _ _)
      | (with_reducible exact ih1 _ _)
      | (with_reducible exact LeO.refl _)
      | (with_reducible exact LeO.none _)
      | (with_reducible refine LeO.ite ?_ ?_)
      | (with_reducible refine LeO.bind ?_ (fun _ => ?_))
      | exact ih0 _ _
      | exact ih1 _ _
      | exact LeO.none _
      | refine LeO.ite ?_ ?_
      | refine LeO.bind ?_ (fun _ => ?_)
    · intro y0 y1
      unfold shuttlecockref01_Put.l0
      repeat' first
      | (with_reducible exact ih0 _ _)
      | (with_reducible exact ih1 _ _)
      | (with_reducible exact LeO.refl _)
      | (with_reducible exact LeO.none _)
      | (with_reducible refine LeO.ite ?_ ?_)
      | (with_reducible refine LeO.bind ?_ (fun _ => ?_))
      | exact ih0 _ _
      | exact ih1 _ _
      | exact LeO.none _
      | refine LeO.ite ?_ ?_
      | refine LeO.bind ?_ (fun _ => ?_)
theorem shuttlecockref01_Put.mono : ∀ a0 k, LeO (shuttlecockref01_Put.f k a0) (shuttlecockref01_Put.f (k + 1) a0) := by
  intro a0 k
  obtain ⟨ih0, ih1⟩ := shuttlecockref01_Put.mono_l k
  unfold shuttlecockref01_Put.f
  repeat' first
      | (with_reducible exact ih0 _ _)
      | (with_reducible exact ih1 _ _)
      | (with_reducible exact LeO.refl _)
      | (with_reducible exact LeO.none _)
      | (with_reducible refine LeO.ite ?_ ?_)
      | (with_reducible refine LeO.bind ?_ (fun _ => ?_))
      | exact ih0 _ _
      | exact ih1 _ _
      | exact LeO.none _
      | refine LeO.ite ?_ ?_
      | refine LeO.bind ?_ (fun _ => ?_)
set_option maxHeartbeats 8000000 in
set_option maxRecDepth 100000 in
theorem shuttlecockref01_Put.calls (k : Nat) (a0 : Int) (r : ByteArray) (w : World) (h : shuttlecockref01_Put.f k a0 = some r) :
    Calls Try.prog 39 #[.int .i64 a0] w fun e w' => e = .returned (.string r) ∧ Below w.heap.size w w' := by
  have HB := Aside0.mk (Below.refl w.heap.size w)
  have H : (if a0 < 0 then (shuttlecockref01_Put.j0 k a0 true) else (shuttlecockref01_Put.j0 k a0 (decide (a0 ≥ 4611686018427387904)))) = some r := h
  clear h
  have HC2 := Aside0.mk H
  clear H
  go_enter Try.func39, Try.ntmps39
  go_upto_region 1 with (fail)
  go_cut [9] (fun v9 wc => ∃ (kq : Nat) (x9_1 : Bool), v9 = .bool x9_1 ∧ Aside0 (shuttlecockref01_Put.j0 kq a0 x9_1 = some r) ∧ Aside0 (kq ≤ k) ∧ Aside0 (Below w.heap.size w wc))
  case first =>
    have H := HC2.out
    clear HC2
    by_cases c3 : a0 < 0
    · rw [if_pos c3] at H
      have c3b0 : decide (a0 < 0) = true := decide_eq_true c3
      clear c3
      (first | rw [c3b0] | (simp only [i64_w, i32_w]; rw [c3b0]) | skip)
      have H' := Aside0.mk H
      clear H
      go_wp2
      go_meet
      case rel => exact ⟨_, (true), (by first | rfl | (simp; done) | (simp [*]; done)), H', ⟨by first | omega | exact Nat.le_refl _⟩, ⟨by repeat (first | (with_reducible first | exact HB.out | apply below_alloc | apply pw_below_drewN | apply below_drew1) | exact HB.out | exact HBo.out)⟩⟩
    · rw [if_neg c3] at H
      have c3b0 : decide (a0 < 0) = false := decide_eq_false c3
      clear c3
      (first | rw [c3b0] | (simp only [i64_w, i32_w]; rw [c3b0]) | skip)
      have H' := Aside0.mk H
      clear H
      go_wp2
      go_meet
      case rel => exact ⟨_, (decide (a0 ≥ 4611686018427387904)), (by first | rfl | (simp; done) | (simp [*]; done)), H', ⟨by first | omega | exact Nat.le_refl _⟩, ⟨by repeat (first | (with_reducible first | exact HB.out | apply below_alloc | apply pw_below_drewN | apply below_drew1) | exact HB.out | exact HBo.out)⟩⟩
  case rest =>
    clear HC2
    try clear p2
    try clear c3
    try clear c3b0
    obtain ⟨kq, x9_1, rfl, HA, HJ1, HB⟩ := hcut
    cases kq with
    | zero => exact absurd HA.out (by simp [shuttlecockref01_Put.j0])
    | succ kj1 =>
      have H := HA.out
      clear HA
      simp only [shuttlecockref01_Put.j0] at H
      by_cases c4 : x9_1 = true
      · subst c4
        have H1 : (some (⟨#[]⟩ : ByteArray)) = some r := by rw [if_pos rfl] at H; exact H
        clear H
        have H := H1
        clear H1
        obtain rfl := Option.some.inj H
        go_wp2
        go_ret
        exact ⟨by first | rfl | (simp [errW_none, errW_some] <;> rfl) | (simp [*, errW_none, errW_some] <;> rfl) | (simp [Aid.ne_nil, Aid.eq_nil, errW_none, errW_some]; done), by repeat (first | (with_reducible first | exact HB.out | apply below_alloc | apply pw_below_drewN | apply below_drew1) | exact HB.out | exact HBo.out)⟩
      · replace c4 := Bool.eq_false_iff.mpr c4
        subst c4
        have H1 : (shuttlecockref01_Put.l0 kj1 a0 (([] : List Int))) = some r := by rw [if_neg (show ¬ (false = true) by decide)] at H; exact H
        clear H
        have H := H1
        clear H1
        obtain ⟨y167, hy167⟩ : ∃ y_ : List Int, y_ = (([] : List Int)) := ⟨_, rfl⟩
        replace H : (shuttlecockref01_Put.l0 kj1 a0 y167) = some r := by first | (rw [hy167]; with_reducible exact H) | (have H2_ := (Option.bind_some _ _).symm.trans H; rw [hy167]; with_reducible exact H2_) | (have H2_ := (Option.bind_some _ _).symm.trans H; with_reducible exact H2_) | with_reducible exact H | (rw [hy167]; exact H) | exact H
        have Ny167 := Aside0.mk hy167
        clear hy167
        have H' := Aside0.mk H
        clear H
        go_wp2_with (first | ((with_reducible refine gate_dst (N := 10) rfl ?_); refine Kd.R_lit (Kd.int .u8) _ 5 ?hg (N := 10) ?hd (xs := ([] : List Int)) (inner := []) (ok := fun _ => True) (okp := fun _ => True) ?hr ?hp (fun _ hk => hk) trivial (Below.refl _ _) (Nat.le_refl _) (by simp) ?_; (case hd => rfl); (case hg => rfl); (case hr => first | (go_simp; done) | (go_simp; rfl)); (case hp => exact (Reps.none _ _)); intro v168 w5 ho6 hb hg_ hnew_; clear hg_ hnew_; (first | rw [← Ny167.out] at ho6 | (simp only [Int.reduceToNat] at ho6; rw [← Ny167.out] at ho6)); have n0_ := Aside0.mk (Kd.R_lower ho6 (below_size (by repeat (first | (with_reducible first | exact HB.out | apply below_alloc | apply pw_below_drewN | apply below_drew1) | exact HB.out | exact HBo.out)))); have n1_ := Aside0.mk (below_step (by repeat (first | (with_reducible first | exact HB.out | apply below_alloc | apply pw_below_drewN | apply below_drew1) | exact HB.out | exact HBo.out)) hb); clear HB; have HO169 := n0_; have HB := n1_; clear n0_ n1_; clear hb ho6))
        go_loopg [0, 3] kj1 (fun kq v0 v3 w' => ∃ (x0_2 : Int) (x3_2 : List Int), v0 = .int .i64 x0_2 ∧ Aside0 (shuttlecockref01_Put.l0 kq x0_2 x3_2 = some r) ∧ Aside0 (kq ≤ kj1) ∧ Aside0 (Kd.R (Kd.int .u8) 5 w' w.heap.size (fun _ => True) v3 x3_2) ∧ Aside0 (Below w.heap.size w w'))
        case atStart => exact ⟨(a0), (y167), (by first | rfl | (simp; done) | (simp [*]; done)), H', ⟨Nat.le_refl _⟩, ⟨by (with_reducible repeat (first | apply Kd.R_alloc | apply Kd.R_drewN | apply Kd.R_drew)); exact HO169.out⟩, ⟨by repeat (first | (with_reducible first | exact HB.out | apply below_alloc | apply pw_below_drewN | apply below_drew1) | exact HB.out | exact HBo.out)⟩⟩
        case round =>
          clear H'
          try clear p2
          try clear c3
          try clear c3b0
          try clear c4
          try clear p2
          obtain ⟨x0_2, x3_2, rfl, HA, HK2, HO_3, HB⟩ := hrel
          cases gk with
          | zero => exact absurd HA.out (by simp [shuttlecockref01_Put.l0])
          | succ k2 =>
            have H := HA.out
            clear HA
            simp only [shuttlecockref01_Put.l0] at H
            by_cases c7 : x0_2 > 127
            · rw [if_pos c7] at H
              have c7b0 : decide (127 < x0_2) = true := decide_eq_true c7
              clear c7
              by_cases c8 : x3_2.length < 140737488355328
              · rw [if_pos c8] at H
                have LMc8 := Aside0.mk c8
                clear c8
                obtain ⟨y170, hy170⟩ : ∃ y_ : List Int, y_ = (x3_2 ++ [(wrap64 (128 + (Int.tmod x0_2 128))) % 256]) := ⟨_, rfl⟩
                replace H : (shuttlecockref01_Put.l0 k2 (wrap64 (Int.tdiv x0_2 128)) y170) = some r := by first | (rw [hy170]; with_reducible exact H) | (have H2_ := (Option.bind_some _ _).symm.trans H; rw [hy170]; with_reducible exact H2_) | (have H2_ := (Option.bind_some _ _).symm.trans H; with_reducible exact H2_) | with_reducible exact H | (rw [hy170]; exact H) | exact H
                have Ny170 := Aside0.mk hy170
                clear hy170
                have H' := Aside0.mk H
                clear H
                go_wp2_with (first | ((with_reducible refine gate_builtin (b := .append) (xs := #[.tmp 13, .tmp 18]) rfl ?_); at_builtin; refine Kd.R_append (Kd.int .u8) (w0 := w) w.heap.size rfl (.tmp 13) (.tmp 18) 57 5 (.int .u8 0) 1 rfl Try.underlying57 info5 rfl (by decide) (by omega) u3 x3_2 ((wrap64 (128 + (Int.tmod x0_2 128))) % 256) [.int .u8 ((wrap64 (128 + (Int.tmod x0_2 128))) % 256)] (fun _ => True) (fun _ => False) rfl rfl ?aP (fun _ hk => hk.elim) ?aF ?aO ?aB ?aS ?aL ?_; (case aP => exact rfl); (case aB => exact (by repeat (first | (with_reducible first | exact HB.out | apply below_alloc | apply pw_below_drewN | apply below_drew1) | exact HB.out | exact HBo.out))); (case aF => exact (fun _ _ => trivial)); (case aO => exact (by (with_reducible repeat (first | apply Kd.R_alloc | apply Kd.R_drewN | apply Kd.R_drew)); exact HO_3.out)); (case aS => exact (below_size (by repeat (first | (with_reducible first | exact HB.out | apply below_alloc | apply pw_below_drewN | apply below_drew1) | exact HB.out | exact HBo.out)))); (case aL => have := LMc8.out; omega); intro v171 w9 ho hb hg hat; rw [← Ny170.out] at ho; have n0_ := Aside0.mk (hb); have n1_ := Aside0.mk (ho); clear HB; clear HO_3; have HB := n0_; have HO172 := n1_; clear n0_ n1_; clear ho hb hg hat))
                go_roundg k2
                case measure => have := HJ1.out; have := HK2.out; omega
                case rel => exact ⟨(wrap64 (Int.tdiv x0_2 128)), (y170), (by first | rfl | (simp; done) | (simp [*]; done)), H', ⟨by have := HJ1.out; have := HK2.out; omega⟩, ⟨by (with_reducible repeat (first | apply Kd.R_alloc | apply Kd.R_drewN | apply Kd.R_drew)); exact HO172.out⟩, ⟨by repeat (first | (with_reducible first | exact HB.out | apply below_alloc | apply pw_below_drewN | apply below_drew1) | exact HB.out | exact HBo.out)⟩⟩
              · rw [if_neg c8] at H
                exact absurd H (by simp)
            · rw [if_neg c7] at H
              have c7b0 : decide (127 < x0_2) = false := decide_eq_false c7
              clear c7
              by_cases c10 : x3_2.length < 140737488355328
              · rw [if_pos c10] at H
                have LMc10 := Aside0.mk c10
                clear c10
                obtain ⟨y173, hy173⟩ : ∃ y_ : List Int, y_ = (x3_2 ++ [(x0_2) % 256]) := ⟨_, rfl⟩
                replace H : (some (strOfNums y173)) = some r := by first | (rw [hy173]; with_reducible exact H) | (have H2_ := (Option.bind_some _ _).symm.trans H; rw [hy173]; with_reducible exact H2_) | (have H2_ := (Option.bind_some _ _).symm.trans H; with_reducible exact H2_) | with_reducible exact H | (rw [hy173]; exact H) | exact H
                have Ny173 := Aside0.mk hy173
                clear hy173
                obtain rfl := Option.some.inj H
                go_wp2_with (first | ((with_reducible refine gate_builtin (b := .append) (xs := #[.tmp 22, .tmp 25]) rfl ?_); at_builtin; refine Kd.R_append (Kd.int .u8) (w0 := w) w.heap.size rfl (.tmp 22) (.tmp 25) 57 5 (.int .u8 0) 1 rfl Try.underlying57 info5 rfl (by decide) (by omega) u3 x3_2 ((x0_2) % 256) [.int .u8 ((x0_2) % 256)] (fun _ => True) (fun _ => False) rfl rfl ?aP (fun _ hk => hk.elim) ?aF ?aO ?aB ?aS ?aL ?_; (case aP => exact rfl); (case aB => exact (by repeat (first | (with_reducible first | exact HB.out | apply below_alloc | apply pw_below_drewN | apply below_drew1) | exact HB.out | exact HBo.out))); (case aF => exact (fun _ _ => trivial)); (case aO => exact (by (with_reducible repeat (first | apply Kd.R_alloc | apply Kd.R_drewN | apply Kd.R_drew)); exact HO_3.out)); (case aS => exact (below_size (by repeat (first | (with_reducible first | exact HB.out | apply below_alloc | apply pw_below_drewN | apply below_drew1) | exact HB.out | exact HBo.out)))); (case aL => have := LMc10.out; omega); intro v174 w11 ho hb hg hat; rw [← Ny173.out] at ho; have n0_ := Aside0.mk (hb); have n1_ := Aside0.mk (ho); clear HB; clear HO_3; have HB := n0_; have HO175 := n1_; clear n0_ n1_; clear ho hb hg hat; have hcv12 := own_string (P := Try.prog) Try.underlying57 Try.underlying5 Try.underlying9 (Kd.own_of_R HO175.out)))
                go_ret
                exact ⟨by first | rfl | (simp [errW_none, errW_some] <;> rfl) | (simp [*, errW_none, errW_some] <;> rfl) | (simp [Aid.ne_nil, Aid.eq_nil, errW_none, errW_some]; done), by repeat (first | (with_reducible first | exact HB.out | apply below_alloc | apply pw_below_drewN | apply below_drew1) | exact HB.out | exact HBo.out)⟩
              · rw [if_neg c10] at H
                exact absurd H (by simp)

end Go.Proofs.Ythbfgggpggjldaa.Q
