-- printed by a program of this session (NOTES: hprint); not the kit's print
-- minified3
-- minified2
-- minified
-- halved
import Derived.Test.YtlmmlmmbnfcogaaOg
import Derived.Test.YtlmmlmmbnfcogaaAl
import Derived.Test.YtlmmlmmbnfcogaaQx0
import Derived.Test.YtlmmlmmbnfcogaaQx14
namespace Go.Proofs.Ytlmmlmmbnfcogaa.Q
open Go.RowKit Go.Proofs.YtlmmlmmbnfcogaaW.PrintWords Go.Proofs.YtlmmlmmbnfcogaaW.PrintLast Go.Proofs.YtlmmlmmbnfcogaaW.PrintMore
attribute [local go_sem] max2_int min2_int max_two min_two max_three min_three max_four min_four   -- for this text's walks alone
set_option linter.unusedVariables false
set_option linter.unusedSimpArgs false

def q15_0 : Array Bool := let o := true; let z := false; #[z,z,z,z,z,z,z]
def q15_1 : Array Bool := let o := true; let z := false; #[o,z,z,z,z,z,z]
def q15_2 : Array Bool := let o := true; let z := false; #[o,o,z,z,z,z,z]
def q15_3 : Array Bool := let o := true; let z := false; #[o,o,o,z,z,z,z]
def q15_4 : Array Bool := let o := true; let z := false; #[o,o,o,z,o,z,z]
def q15_5 : Array Bool := let o := true; let z := false; #[o,o,o,o,o,z,z]
def q15_6 : Array Bool := let o := true; let z := false; #[o,o,o,o,o,o,z]
def q15_7 : Array Bool := let o := true; let z := false; #[o,o,o,o,o,o,o]
def q15_8 : Array Bool := let o := true; let z := false; #[z,z,z,z,z,z]
def q15_9 : Array Bool := let o := true; let z := false; #[o,z,z,z,z,z]
def q15_10 : Array Bool := let o := true; let z := false; #[o,z,o,z,z,z]
def q15_11 : Array Bool := let o := true; let z := false; #[o,o,o,o,o,z]
def q15_12 : Array Bool := let o := true; let z := false; #[o,o,o,z,z,z]
def q15_13 : Array Bool := let o := true; let z := false; #[o,z,o,o,z,z]
def q15_14 : Array Bool := let o := true; let z := false; #[o,o,o,z,o,z]
def q15_15 : Array Bool := let o := true; let z := false; #[o,o,o,o,z,z]
def q15_16 : Array Bool := let o := true; let z := false; #[o,o,o,o,o,o]
def q15_17 : Array Bool := let o := true; let z := false; #[z,z,z,z,z,z,z,z,z,z,z]
def q15_18 : Array Bool := let o := true; let z := false; #[o,z,z,z,z,z,z,z,z,z,z]
def q15_19 : Array Bool := let o := true; let z := false; #[o,o,z,z,z,z,z,z,z,z,z]
def q15_20 : Array Bool := let o := true; let z := false; #[o,o,o,z,z,z,z,z,z,z,z]
def q15_21 : Array Bool := let o := true; let z := false; #[o,o,o,z,o,z,z,z,z,z,z]
def q15_22 : Array Bool := let o := true; let z := false; #[o,o,o,z,o,o,z,z,z,z,z]
def q15_23 : Array Bool := let o := true; let z := false; #[o,o,o,z,o,o,o,z,z,z,z]
def q15_24 : Array Bool := let o := true; let z := false; #[o,o,o,z,o,o,o,z,o,z,z]
def q15_25 : Array Bool := let o := true; let z := false; #[o,o,o,o,o,o,o,z,o,z,z]
def q15_26 : Array Bool := let o := true; let z := false; #[o,o,o,o,o,o,o,z,o,o,z]
def q15_27 : Array Bool := let o := true; let z := false; #[o,o,o,o,o,o,o,o,o,o,z]
def q15_28 : Array Bool := let o := true; let z := false; #[o,o,o,o,o,o,o,o,o,o,o]
/-! ### shuttlecockref07_names: function 23 -/
def shuttlecockref07_names.l0 : Nat → Int → List Bool → List ByteArray → Int → ByteArray → Int → Int → Int → Option (List ByteArray × Int × Int × ByteArray × Int × Int × Int)
 | 0, _, _, _, _, _, _, _, _ => none
 | k + 1, x5, x6, x7, x8, x1000, x1001, x1002, x1003 => if x8 < x5 then ((shuttlecockref02_Reader_Num.f k x1000 x1001 x1002 x1003).bind fun bt246 => (if bt246.2.2.2.1 = 0 then ((shuttlecockref07_fresh.f bt246.1 x6).bind fun t251 => (if t251 = true then (if 0 ≤ (wrap64 (bt246.1 - 1)) then (if (wrap64 (bt246.1 - 1)) < (x6.length : Int) then ((shuttlecockref02_Reader_Text.f k bt246.2.1 bt246.2.2.1 bt246.2.2.2.1 bt246.2.2.2.2).bind fun bt253 => (if (wrap64 (bt246.1 - 1)) < (x7.length : Int) then (if bt253.2.2.2.1 = 0 then (shuttlecockref07_names.l0 k x5 (x6.set ((wrap64 (bt246.1 - 1)) : Int).toNat true) (x7.set ((wrap64 (bt246.1 - 1)) : Int).toNat bt253.1) (wrap64 (x8 + 1)) bt253.2.1 bt253.2.2.1 bt253.2.2.2.1 bt253.2.2.2.2) else (some (([] : List ByteArray), bt253.2.2.2.2, bt253.2.2.2.1, bt253.2.1, bt253.2.2.1, bt253.2.2.2.1, bt253.2.2.2.2))) else (none))) else (none)) else (none)) else (some (([] : List ByteArray), bt246.2.2.1, 70, bt246.2.1, bt246.2.2.1, bt246.2.2.2.1, bt246.2.2.2.2)))) else (some (([] : List ByteArray), bt246.2.2.2.2, bt246.2.2.2.1, bt246.2.1, bt246.2.2.1, bt246.2.2.2.1, bt246.2.2.2.2)))) else (some (x7, 0, 0, x1000, x1001, x1002, x1003))
def shuttlecockref07_names.f (k : Nat) (s0_0 : ByteArray) (s0_1 : Int) (s0_2 : Int) (s0_3 : Int) : Option (List ByteArray × Int × Int × ByteArray × Int × Int × Int) := (shuttlecockref02_Reader_Num.f k s0_0 s0_1 s0_2 s0_3).bind fun bt235 => (if bt235.2.2.2.1 = 0 then (if bt235.1 > 10000 then (some (([] : List ByteArray), bt235.2.2.1, 70, bt235.2.1, bt235.2.2.1, bt235.2.2.2.1, bt235.2.2.2.2)) else (if 0 ≤ bt235.1 then (if (bt235.1 : Int).toNat ≤ 281474976710656 then (if (bt235.1 : Int).toNat ≤ 17592186044416 then (shuttlecockref07_names.l0 k bt235.1 (List.replicate (bt235.1 : Int).toNat false) (List.replicate (bt235.1 : Int).toNat (⟨#[]⟩ : ByteArray)) 0 bt235.2.1 bt235.2.2.1 bt235.2.2.2.1 bt235.2.2.2.2) else (none)) else (none)) else (none))) else (some (([] : List ByteArray), bt235.2.2.2.2, bt235.2.2.2.1, bt235.2.1, bt235.2.2.1, bt235.2.2.2.1, bt235.2.2.2.2)))
theorem shuttlecockref07_names.mono_l : ∀ k, (∀ y0 y1 y2 y3 y4 y5 y6 y7, LeO (shuttlecockref07_names.l0 k y0 y1 y2 y3 y4 y5 y6 y7) (shuttlecockref07_names.l0 (k + 1) y0 y1 y2 y3 y4 y5 y6 y7))
 | 0 => fun _ _ _ _ _ _ _ _ r h => by simp [shuttlecockref07_names.l0] at h
 | k + 1 => by
  have ih0 := shuttlecockref07_names.mono_l k
  ·
   intro y0 y1 y2 y3 y4 y5 y6 y7
   unfold shuttlecockref07_names.l0
   repeat' first
   | (with_reducible exact ih0 _ _ _ _ _ _ _ _)
   | (with_reducible exact shuttlecockref02_Reader_Num.mono _ _ _ _ _)
   | (with_reducible exact shuttlecockref02_Reader_Text.mono _ _ _ _ _)
   | (with_reducible exact LeO.refl _)
   | (with_reducible exact LeO.none _)
   | (with_reducible refine LeO.ite ?_ ?_)
   | (with_reducible refine LeO.bind ?_ (fun _ => ?_))
   | exact LeO.none _
   | refine LeO.ite ?_ ?_
   | refine LeO.bind ?_ (fun _ => ?_)
theorem shuttlecockref07_names.mono : ∀ a0 a1 a2 a3 k, LeO (shuttlecockref07_names.f k a0 a1 a2 a3) (shuttlecockref07_names.f (k + 1) a0 a1 a2 a3) := by
 intro a0 a1 a2 a3 k
 have ih0 := shuttlecockref07_names.mono_l k
 unfold shuttlecockref07_names.f
 repeat' first
   | (with_reducible exact ih0 _ _ _ _ _ _ _ _)
   | (with_reducible exact shuttlecockref02_Reader_Num.mono _ _ _ _ _)
   | (with_reducible exact shuttlecockref02_Reader_Text.mono _ _ _ _ _)
   | (with_reducible exact LeO.refl _)
   | (with_reducible exact LeO.none _)
   | (with_reducible refine LeO.ite ?_ ?_)
   | (with_reducible refine LeO.bind ?_ (fun _ => ?_))
   | exact LeO.none _
   | refine LeO.ite ?_ ?_
   | refine LeO.bind ?_ (fun _ => ?_)
def shuttlecockref07_names.T3 : Bool × List (List Nat × List Nat) := (true, [([], []), ([0], [0]), ([1], [1]), ([2], [2]), ([], []), ([4], [4]), ([5], [5]), ([6], [6]), ([], []), ([3, 8, 0, 1, 2, 3, 8], [3]), ([7, 9, 0, 1, 2, 3, 4, 5, 6, 7, 8, 9], [7])])
def shuttlecockref07_names.B3 : List Nat := [0, 1, 3, 7, 0, 16, 48, 112, 0, 271, 1023]
theorem shuttlecockref07_names.tab3 : rtab .any (opsOf Try.f23 3) = shuttlecockref07_names.T3 := by kernel_rfl
theorem shuttlecockref07_names.bits3 : waitsOk shuttlecockref07_names.T3.2 shuttlecockref07_names.B3 = true := by kernel_rfl
def shuttlecockref07_names.T12 : Bool × List (List Nat × List Nat) := (true, [([], []), ([0], [0]), ([1], [1]), ([2], [2]), ([], []), ([4], [4]), ([5], [5]), ([6], [6]), ([], []), ([3, 8, 0, 1, 2, 3, 8], [3]), ([7, 9, 0, 1, 2, 3, 4, 5, 6, 7, 8, 9], [7])])
def shuttlecockref07_names.B12 : List Nat := [0, 1, 3, 7, 0, 16, 48, 112, 0, 271, 1023]
theorem shuttlecockref07_names.tab12 : rtab .any (opsOf Try.f23 12) = shuttlecockref07_names.T12 := by kernel_rfl
theorem shuttlecockref07_names.bits12 : waitsOk shuttlecockref07_names.T12.2 shuttlecockref07_names.B12 = true := by kernel_rfl
def shuttlecockref07_names.T18 : Bool × List (List Nat × List Nat) := (true, [([], []), ([0], [0]), ([1], [1]), ([2], [2]), ([], []), ([4], [4]), ([5], [5]), ([6], [6]), ([], []), ([3, 8, 0, 1, 2, 3, 8], [3]), ([7, 9, 0, 1, 2, 3, 4, 5, 6, 7, 8, 9], [7])])
def shuttlecockref07_names.B18 : List Nat := [0, 1, 3, 7, 0, 16, 48, 112, 0, 271, 1023]
theorem shuttlecockref07_names.tab18 : rtab .any (opsOf Try.f23 18) = shuttlecockref07_names.T18 := by kernel_rfl
theorem shuttlecockref07_names.bits18 : waitsOk shuttlecockref07_names.T18.2 shuttlecockref07_names.B18 = true := by kernel_rfl
set_option maxHeartbeats 8000000 in
set_option maxRecDepth 100000 in
theorem shuttlecockref07_names.calls (k : Nat) (g : Nat) (s0_0 : ByteArray) (s0_1 : Int) (s0_2 : Int) (s0_3 : Int) (r1 : List ByteArray) (r2 : Int) (r3 : Int) (r4 : ByteArray) (r5 : Int) (r6 : Int) (r7 : Int) (w0 w : World) (hI : IsS53 w0 w g s0_0 s0_1 s0_2 s0_3) (hB : Below w0.heap.size w0 w) (h : shuttlecockref07_names.f k s0_0 s0_1 s0_2 s0_3 = some (r1, r2, r3, r4, r5, r6, r7)) :
  Calls Try.prog 23 #[.pointer (some ⟨g, 0, none⟩)] w fun e w' => ∃ v0_ : Value, e = .returned (.tuple #[v0_, .int .i64 r2, .int .i64 r3]) ∧ Kd.R Kd.string 9 w' w.heap.size (fun _ => True) v0_ r1 ∧ IsS53 w0 w' g r4 r5 r6 r7 ∧ Below w0.heap.size w0 w' ∧ KeepBut w w' g none := by
 have HI0 := Am hI
 have HK := Am (KeepBut.refl w g none)
 have HL := Am hB.size
 clear hI
 have HW0 := Am hB.size
 have HB := Am hB
 clear hB
 have H : ((shuttlecockref02_Reader_Num.f k s0_0 s0_1 s0_2 s0_3).bind fun bt235 => (if bt235.2.2.2.1 = 0 then (if bt235.1 > 10000 then (some (([] : List ByteArray), bt235.2.2.1, 70, bt235.2.1, bt235.2.2.1, bt235.2.2.2.1, bt235.2.2.2.2)) else (if 0 ≤ bt235.1 then (if (bt235.1 : Int).toNat ≤ 281474976710656 then (if (bt235.1 : Int).toNat ≤ 17592186044416 then (shuttlecockref07_names.l0 k bt235.1 (List.replicate (bt235.1 : Int).toNat false) (List.replicate (bt235.1 : Int).toNat (⟨#[]⟩ : ByteArray)) 0 bt235.2.1 bt235.2.2.1 bt235.2.2.2.1 bt235.2.2.2.2) else (none)) else (none)) else (none))) else (some (([] : List ByteArray), bt235.2.2.2.2, bt235.2.2.2.1, bt235.2.1, bt235.2.2.1, bt235.2.2.2.1, bt235.2.2.2.2)))) = some (r1, r2, r3, r4, r5, r6, r7) := h
 clear h
 replace H := ob H
 obtain ⟨⟨t235, t236, t237, t238, t239⟩, A20, H⟩ := H
 (try dsimp only at H)
 have A2 := Am A20
 clear A20
 by_cases c3 : t238 = 0
 ·
  rw [if_pos c3] at H
  have c3b0 : (t238 == 0) = true := beq_iff_eq.mpr c3
  have c3b1 : (t238 != 0) = false := bne_eq_false_iff_eq.mpr c3
  clear c3
  by_cases c4 : t235 > 10000
  ·
   rw [if_pos c4] at H
   have c4b0 : decide (10000 < t235) = true := decide_eq_true c4
   clear c4
   simp only [Option.some.injEq, Prod.mk.injEq] at H
   obtain ⟨rfl, rfl, rfl, rfl, rfl, rfl, rfl⟩ := H
   go_enter Try.func23, Try.ntmps23
   try go_wp2_with (first | ((with_reducible refine gate_callee (f := 46) rfl ?_); refine Own.gL_ (some 11) Try.func46 (#[.pointer (some ⟨g, 0, none⟩)]) (h := ?_); (with_reducible refine (shuttlecockref02_Reader_Num.calls k g s0_0 s0_1 s0_2 s0_3 t235 t236 t237 t238 t239 w0 _ ?side1 ?side2 A2.out).mono ?_); (case side1 => exact z0); (case side2 => exact z2); rintro e w5 ⟨rfl, hi, hb, hk⟩; refine ⟨_, rfl, ?_⟩; replace HK := Am (KeepBut.trans (z1) hk (.inl rfl)); replace HB := Am (hb); replace HI0 := Am (hi); (try clear hb); (try clear hb2); (try clear hk); (try clear hi); obtain ⟨HGz6, hgz6⟩ := HI0.out; have hcz6_0 := cellS53_0 HGz6; have hcz6_1 := cellS53_1 HGz6; have hcz6_2 := cellS53_2 HGz6; have hcz6_3 := cellS53_3 HGz6; have hfz6_0 := bf HGz6 0; have hfz6_1 := bf HGz6 1; have hfz6_2 := bf HGz6 2; have hfz6_3 := bf HGz6 3; clear HGz6 hgz6))
   replace HI0 := Am (IsS53.drew HI0.out)
   replace HK := Am (keep_drew HK.out)
   replace HB := Am (b1 HB.out)
   refine start_ (n := 7) (S := fun w' => w'.cell? ⟨g, 0, none⟩ = some (.string t236) ∧ w'.cell? ⟨g, 1, none⟩ = some (.int .i64 t237) ∧ w'.cell? ⟨g, 2, none⟩ = some (.int .i64 t238) ∧ w'.cell? ⟨g, 3, none⟩ = some (.int .i64 t239)) (ds := []) q15_0 (by kernel_rfl) rfl rfl ⟨(bc (Am HI0.out.1).out 0).trans rfl, (bc (Am HI0.out.1).out 1).trans rfl, (bc (Am HI0.out.1).out 2).trans rfl, (bc (Am HI0.out.1).out 3).trans rfl⟩ (fun hHeld => ?_)
   generalize w5.drew = w7 at HI0 HK HB hHeld ⊢
   refine pure_ (i := 0) (N := some 27) (v := ?_) (a' := ?_) q15_1 rfl rfl (by kernel_rfl) (fun _ _ _ h => h) (Or.inl ⟨by rfl, ?_⟩) ?_ ?_
   rotate_left
   ·
    intro w'
    go_simp
    with_reducible rfl
   rotate_left
   ·
    simp only [Act.put, sI, sZ, sS, i64_w, i32_w]
    rfl
   refine pure_ (i := 1) (N := some 28) (v := ?_) (a' := ?_) q15_2 rfl rfl (by kernel_rfl) (fun _ _ _ h => h) (Or.inl ⟨by rfl, ?_⟩) ?_ ?_
   rotate_left
   ·
    intro w'
    go_simp
    with_reducible rfl
   rotate_left
   ·
    simp only [Act.put, sI, sZ, sS, i64_w, i32_w]
    rfl
   refine pure_ (i := 2) (N := some 29) (v := ?_) (a' := ?_) q15_3 rfl rfl (by kernel_rfl) (fun _ _ _ h => h) (Or.inl ⟨by rfl, ?_⟩) ?_ ?_
   rotate_left
   ·
    intro w'
    go_simp
    with_reducible rfl
   rotate_left
   ·
    simp only [Act.put, sI, sZ, sS, i64_w, i32_w]
    rfl
   refine pure_ (i := 4) (N := some 2) (v := ?_) (a' := ?_) q15_4 rfl rfl (by kernel_rfl) (fun _ _ _ h => h) (Or.inl ⟨by rfl, ?_⟩) ?_ ?_
   rotate_left
   ·
    intro w'
    go_simp
    with_reducible rfl
   rotate_left
   ·
    simp only [Act.put, sI, sZ, sS, i64_w, i32_w]
    rfl
   refine take_ (i := 3) (N := some 30) (v := ?_) (a' := ?_) q15_5 rfl rfl (by kernel_rfl) (fun _ _ _ h => h) (Or.inl ⟨by rfl, ?_⟩) hHeld ?_ ?_
   rotate_left
   ·
    rintro w' ⟨s0, s1, s2, s3⟩
    go_simp
    with_reducible rfl
   rotate_left
   ·
    simp only [Act.put, sI, sZ, sS, i64_w, i32_w]
    rfl
   refine pure_ (i := 5) (N := some 3) (v := ?_) (a' := ?_) q15_6 rfl rfl (by kernel_rfl) (fun _ _ _ h => h) (Or.inl ⟨by rfl, ?_⟩) ?_ ?_
   rotate_left
   ·
    intro w'
    go_simp
    with_reducible rfl
   rotate_left
   ·
    simp only [Act.put, sI, sZ, sS, i64_w, i32_w]
    rfl
   refine pure_ (i := 6) (N := some 4) (v := ?_) (a' := ?_) q15_7 rfl rfl (by kernel_rfl) (fun _ _ _ h => h) (Or.inl ⟨by rfl, ?_⟩) ?_ ?_
   rotate_left
   ·
    intro w'
    go_simp
    with_reducible rfl
   rotate_left
   ·
    simp only [Act.put, sI, sZ, sS, i64_w, i32_w]
    rfl
   refine done_ (by kernel_rfl) ?_
   try go_wp2
   go_ret3
   exact ⟨_, y1, by first | exact Kd.R_nil _ _ _ _ _ | exact Kd.N_nil _ _ _ _ _ | exact Kd.V_nil _ _ _ _ _ | exact Kd.Q_nil _ _ _ _ _ | exact Kd.S_nil _ _ _ _ _, z0, z2, z1⟩
  ·
   rw [if_neg c4] at H
   have c4b0 : decide (10000 < t235) = false := decide_eq_false c4
   clear c4
   by_cases c8 : 0 ≤ t235
   ·
    rw [if_pos c8] at H
    have c8b0 := eq_true c8
    have c8b1 : decide (0 ≤ t235) = true := decide_eq_true c8
    clear c8
    by_cases c9 : (t235 : Int).toNat ≤ 281474976710656
    ·
     rw [if_pos c9] at H
     have c9b0 := eq_true c9
     have c9b1 : decide ((t235 : Int).toNat ≤ 281474976710656) = true := decide_eq_true c9
     clear c9
     obtain ⟨y240, hy240⟩ : ∃ y_ : List Bool, y_ = (List.replicate (t235 : Int).toNat false) := ⟨_, rfl⟩
     replace H : (if (t235 : Int).toNat ≤ 17592186044416 then (shuttlecockref07_names.l0 k t235 y240 (List.replicate (t235 : Int).toNat (⟨#[]⟩ : ByteArray)) 0 t236 t237 t238 t239) else (none)) = some (r1, r2, r3, r4, r5, r6, r7) := by first | (rw [hy240]; with_reducible exact H) | (have H2_ := (Option.bind_some _ _).symm.trans H; rw [hy240]; with_reducible exact H2_) | (have H2_ := (Option.bind_some _ _).symm.trans H; with_reducible exact H2_) | with_reducible exact H | (rw [hy240]; exact H) | exact H
     have Ny240 := Am hy240
     clear hy240
     by_cases c10 : (t235 : Int).toNat ≤ 17592186044416
     ·
      rw [if_pos c10] at H
      have c10b0 := eq_true c10
      have c10b1 : decide ((t235 : Int).toNat ≤ 17592186044416) = true := decide_eq_true c10
      clear c10
      obtain ⟨y243, hy243⟩ : ∃ y_ : List ByteArray, y_ = (List.replicate (t235 : Int).toNat (⟨#[]⟩ : ByteArray)) := ⟨_, rfl⟩
      replace H : (shuttlecockref07_names.l0 k t235 y240 y243 0 t236 t237 t238 t239) = some (r1, r2, r3, r4, r5, r6, r7) := by first | (rw [hy243]; with_reducible exact H) | (have H2_ := (Option.bind_some _ _).symm.trans H; rw [hy243]; with_reducible exact H2_) | (have H2_ := (Option.bind_some _ _).symm.trans H; with_reducible exact H2_) | with_reducible exact H | (rw [hy243]; exact H) | exact H
      have Ny243 := Am hy243
      clear hy243
      have H' := Am H
      clear H
      go_enter Try.func23, Try.ntmps23
      try go_wp2_with (first | ((with_reducible refine gate_callee (f := 46) rfl ?_); refine Own.gL_ (some 11) Try.func46 (#[.pointer (some ⟨g, 0, none⟩)]) (h := ?_); (with_reducible refine (shuttlecockref02_Reader_Num.calls k g s0_0 s0_1 s0_2 s0_3 t235 t236 t237 t238 t239 w0 _ ?side1 ?side2 A2.out).mono ?_); (case side1 => exact z0); (case side2 => exact z2); rintro e w11 ⟨rfl, hi, hb, hk⟩; refine ⟨_, rfl, ?_⟩; replace HK := Am (KeepBut.trans (z1) hk (.inl rfl)); replace HB := Am (hb); replace HI0 := Am (hi); (try clear hb); (try clear hb2); (try clear hk); (try clear hi); obtain ⟨HGz12, hgz12⟩ := HI0.out; have hcz12_0 := cellS53_0 HGz12; have hcz12_1 := cellS53_1 HGz12; have hcz12_2 := cellS53_2 HGz12; have hcz12_3 := cellS53_3 HGz12; have hfz12_0 := bf HGz12 0; have hfz12_1 := bf HGz12 1; have hfz12_2 := bf HGz12 2; have hfz12_3 := bf HGz12 3; clear HGz12 hgz12))
      replace HI0 := Am (IsS53.drew HI0.out)
      replace HK := Am (keep_drew HK.out)
      replace HB := Am (b1 HB.out)
      refine start_ (n := 6) (S := fun w' => True) (ds := []) q15_8 (by kernel_rfl) rfl rfl trivial (fun hHeld => ?_)
      generalize w11.drew = w13 at HI0 HK HB hHeld ⊢
      refine pure_ (i := 0) (N := some 31) (v := ?_) (a' := ?_) q15_9 rfl rfl (by kernel_rfl) (fun _ _ _ h => h) (Or.inl ⟨by rfl, ?_⟩) ?_ ?_
      rotate_left
      ·
       intro w'
       go_simp
       with_reducible rfl
      rotate_left
      ·
       simp only [Act.put, sI, sZ, sS, i64_w, i32_w]
       rfl
      refine pure_ (i := 2) (N := some 33) (v := ?_) (a' := ?_) q15_10 rfl rfl (by kernel_rfl) (fun _ _ _ h => h) (Or.inl ⟨by rfl, ?_⟩) ?_ ?_
      rotate_left
      ·
       intro w'
       go_simp
       with_reducible rfl
      rotate_left
      ·
       simp only [Act.put, sI, sZ, sS, i64_w, i32_w]
       rfl
      refine join_ (σ := Value × Value) 1 q15_11 (fun s_ => [(32, s_.1), (34, s_.2), (6, s_.1)]) (fun s_ w' => (Kd.R Kd.bool 4 w' w.heap.size (fun _ => True) s_.1 y240) ∧ (Kd.R Kd.string 9 w' w.heap.size (fun _ => True) s_.2 y243) ∧ (IsS53 w0 w' g t236 t237 t238 t239) ∧ (KeepBut w w' g none) ∧ (Below w0.heap.size w0 w')) ?_ ?_
      rotate_left
      ·
       intro hCont
       refine two_ (i := 1) (j := 3) (Ni := some 32) (Nj := some 34) q15_12 q15_13 rfl rfl rfl rfl (by kernel_rfl) (by decide) (by decide) (fun K hK => ?_) (fun K hK => ?_)
       ·
        skip
        refine Kd.R_make_step Kd.bool _ 4 (by rfl) (N := 32) rfl 78 _ _ rfl t235 rfl rfl Try.underlying78 (.bool false) 1 info4 rfl (by decide) (by omega) false (ok := fun _ => True) (okp := fun _ => True) rfl (fun _ hk => hk) trivial dz (Nat.le_trans (Nat.mul_le_mul_right _ (dz : t235.toNat ≤ 281474976710656)) (by omega)) (Below.refl _ _) (Nat.le_refl _) ?_
        intro v241 w14 ho15 hb hg_ hnew_
        clear hg_ hnew_
        (first | rw [← Ny240.out] at ho15 | (simp only [Int.reduceToNat] at ho15; rw [← Ny240.out] at ho15))
        have n0_ := Am (Kd.R_lower ho15 (keep_size (w := w) (g := g) (row := none) (z1)))
        have n1_ := Am (IsS53.below (z0) hb)
        have n2_ := Am (KeepBut.trans (z1) (KeepBut.of_below hb g none) (.inl rfl))
        have n3_ := Am (below_step (z2) hb)
        clear HI0
        clear HK
        clear HB
        have HO242 := n0_
        have HI0 := n1_
        have HK := n2_
        have HB := n3_
        clear n0_ n1_ n2_ n3_
        clear hb ho15
        refine hK.out _ _ trivial (fun hHeld => ?_)
        clear hK K
        refine norm_ (a' := ?_) ?_ ?_
        rotate_left
        ·
         show Act.put _ (some 32) _ = _
         simp only [Act.put, sI, sZ, sS, i64_w, i32_w]
         rfl
        refine pure_ (i := 4) (N := some 6) (v := ?_) (a' := ?_) q15_14 rfl rfl (by kernel_rfl) (fun _ _ _ h => h) (Or.inl ⟨by rfl, ?_⟩) ?_ ?_
        rotate_left
        ·
         intro w'
         go_simp
         with_reducible rfl
        rotate_left
        ·
         simp only [Act.put, sI, sZ, sS, i64_w, i32_w]
         rfl
        refine one_ (i := 3) (N := some 34) q15_11 rfl rfl (by kernel_rfl) (by decide) (fun K hK => ?_)
        refine Kd.R_make_step Kd.string _ 9 (by rfl) (N := 34) rfl 22 _ _ rfl t235 rfl rfl Try.underlying22 (.string ⟨#[]⟩) 16 info9 rfl (by decide) (by omega) (⟨#[]⟩ : ByteArray) (ok := fun _ => True) (okp := fun _ => True) rfl (fun _ hk => hk) trivial dz (Nat.le_trans (Nat.mul_le_mul_right _ (dz : t235.toNat ≤ 17592186044416)) (by omega)) (Below.refl _ _) (Nat.le_refl _) ?_
        intro v244 w16 ho17 hb hg_ hnew_
        clear hg_ hnew_
        (first | rw [← Ny243.out] at ho17 | (simp only [Int.reduceToNat] at ho17; rw [← Ny243.out] at ho17))
        have n0_ := Am (Kd.R_below (by (with_reducible repeat (first | apply Kd.R_alloc | apply Kd.R_drewN | apply Kd.R_drew)); exact HO242.out) hb)
        have n1_ := Am (Kd.R_lower ho17 (keep_size (w := w) (g := g) (row := none) (z1)))
        have n2_ := Am (IsS53.below (z0) hb)
        have n3_ := Am (KeepBut.trans (z1) (KeepBut.of_below hb g none) (.inl rfl))
        have n4_ := Am (below_step (z2) hb)
        clear HO242
        clear HI0
        clear HK
        clear HB
        have HO242 := n0_
        have HO245 := n1_
        have HI0 := n2_
        have HK := n3_
        have HB := n4_
        clear n0_ n1_ n2_ n3_ n4_
        clear hb ho17
        refine hK.out _ _ trivial (fun hHeld => ?_)
        clear hK K
        refine norm_ (a' := ?_) ?_ ?_
        rotate_left
        ·
         show Act.put _ (some 34) _ = _
         simp only [Act.put, sI, sZ, sS, i64_w, i32_w]
         rfl
        exact norm_ (by simp only [putAll, Act.put, sI, sZ, sS]) (hCont (v241, v244) _ ⟨(by (with_reducible repeat (first | apply Kd.R_alloc | apply Kd.R_drewN | apply Kd.R_drew)); exact HO242.out), (by (with_reducible repeat (first | apply Kd.R_alloc | apply Kd.R_drewN | apply Kd.R_drew)); exact HO245.out), (z0), (z1), (z2)⟩)
       ·
        skip
        refine Kd.R_make_step Kd.string _ 9 (by rfl) (N := 34) rfl 22 _ _ rfl t235 rfl rfl Try.underlying22 (.string ⟨#[]⟩) 16 info9 rfl (by decide) (by omega) (⟨#[]⟩ : ByteArray) (ok := fun _ => True) (okp := fun _ => True) rfl (fun _ hk => hk) trivial dz (Nat.le_trans (Nat.mul_le_mul_right _ (dz : t235.toNat ≤ 17592186044416)) (by omega)) (Below.refl _ _) (Nat.le_refl _) ?_
        intro v244 w14 ho15 hb hg_ hnew_
        clear hg_ hnew_
        (first | rw [← Ny243.out] at ho15 | (simp only [Int.reduceToNat] at ho15; rw [← Ny243.out] at ho15))
        have n0_ := Am (Kd.R_lower ho15 (keep_size (w := w) (g := g) (row := none) (z1)))
        have n1_ := Am (IsS53.below (z0) hb)
        have n2_ := Am (KeepBut.trans (z1) (KeepBut.of_below hb g none) (.inl rfl))
        have n3_ := Am (below_step (z2) hb)
        clear HI0
        clear HK
        clear HB
        have HO245 := n0_
        have HI0 := n1_
        have HK := n2_
        have HB := n3_
        clear n0_ n1_ n2_ n3_
        clear hb ho15
        refine hK.out _ _ trivial (fun hHeld => ?_)
        clear hK K
        refine norm_ (a' := ?_) ?_ ?_
        rotate_left
        ·
         show Act.put _ (some 34) _ = _
         simp only [Act.put, sI, sZ, sS, i64_w, i32_w]
         rfl
        refine one_ (i := 1) (N := some 32) q15_15 rfl rfl (by kernel_rfl) (by decide) (fun K hK => ?_)
        refine Kd.R_make_step Kd.bool _ 4 (by rfl) (N := 32) rfl 78 _ _ rfl t235 rfl rfl Try.underlying78 (.bool false) 1 info4 rfl (by decide) (by omega) false (ok := fun _ => True) (okp := fun _ => True) rfl (fun _ hk => hk) trivial dz (Nat.le_trans (Nat.mul_le_mul_right _ (dz : t235.toNat ≤ 281474976710656)) (by omega)) (Below.refl _ _) (Nat.le_refl _) ?_
        intro v241 w16 ho17 hb hg_ hnew_
        clear hg_ hnew_
        (first | rw [← Ny240.out] at ho17 | (simp only [Int.reduceToNat] at ho17; rw [← Ny240.out] at ho17))
        have n0_ := Am (Kd.R_below (by (with_reducible repeat (first | apply Kd.R_alloc | apply Kd.R_drewN | apply Kd.R_drew)); exact HO245.out) hb)
        have n1_ := Am (Kd.R_lower ho17 (keep_size (w := w) (g := g) (row := none) (z1)))
        have n2_ := Am (IsS53.below (z0) hb)
        have n3_ := Am (KeepBut.trans (z1) (KeepBut.of_below hb g none) (.inl rfl))
        have n4_ := Am (below_step (z2) hb)
        clear HO245
        clear HI0
        clear HK
        clear HB
        have HO245 := n0_
        have HO242 := n1_
        have HI0 := n2_
        have HK := n3_
        have HB := n4_
        clear n0_ n1_ n2_ n3_ n4_
        clear hb ho17
        refine hK.out _ _ trivial (fun hHeld => ?_)
        clear hK K
        refine norm_ (a' := ?_) ?_ ?_
        rotate_left
        ·
         show Act.put _ (some 32) _ = _
         simp only [Act.put, sI, sZ, sS, i64_w, i32_w]
         rfl
        refine pure_ (i := 4) (N := some 6) (v := ?_) (a' := ?_) q15_11 rfl rfl (by kernel_rfl) (fun _ _ _ h => h) (Or.inl ⟨by rfl, ?_⟩) ?_ ?_
        rotate_left
        ·
         intro w'
         go_simp
         with_reducible rfl
        rotate_left
        ·
         simp only [Act.put, sI, sZ, sS, i64_w, i32_w]
         rfl
        exact norm_ (by simp only [putAll, Act.put, sI, sZ, sS]) (hCont (v241, v244) _ ⟨(by (with_reducible repeat (first | apply Kd.R_alloc | apply Kd.R_drewN | apply Kd.R_drew)); exact HO242.out), (by (with_reducible repeat (first | apply Kd.R_alloc | apply Kd.R_drewN | apply Kd.R_drew)); exact HO245.out), (z0), (z1), (z2)⟩)
      rintro ⟨v241, v244⟩ w18 ⟨h0_, h1_, h2_, h3_, h4_⟩
      have n0_ : Aside0 (Kd.R Kd.bool 4 w18 w.heap.size (fun _ => True) v241 y240) := ⟨h0_⟩
      have n1_ : Aside0 (Kd.R Kd.string 9 w18 w.heap.size (fun _ => True) v244 y243) := ⟨h1_⟩
      have n2_ : Aside0 (IsS53 w0 w18 g t236 t237 t238 t239) := ⟨h2_⟩
      have n3_ : Aside0 (KeepBut w w18 g none) := ⟨h3_⟩
      have n4_ : Aside0 (Below w0.heap.size w0 w18) := ⟨h4_⟩
      clear HI0
      clear HK
      clear HB
      clear h0_ h1_ h2_ h3_ h4_
      have HO242 := n0_
      have HO245 := n1_
      have HI0 := n2_
      have HK := n3_
      have HB := n4_
      clear n0_ n1_ n2_ n3_ n4_
      have hHeld := trivial
      refine norm_ (a' := ?_) ?_ ?_
      rotate_left
      ·
       simp only [putAll, Act.put, sI, sZ, sS]
       rfl
      refine pure_ (i := 5) (N := some 7) (v := ?_) (a' := ?_) q15_16 rfl rfl (by kernel_rfl) (fun _ _ _ h => h) (Or.inl ⟨by rfl, ?_⟩) ?_ ?_
      rotate_left
      ·
       intro w'
       go_simp
       with_reducible rfl
      rotate_left
      ·
       simp only [Act.put, sI, sZ, sS, i64_w, i32_w]
       rfl
      refine done_ (by kernel_rfl) ?_
      try go_wp2
      go_loopg [8] k (fun kq v8 w' => ∃ (x6_1 : List Bool) (x7_1 : List ByteArray) (x8_1 : Int) (x1000_1 : ByteArray) (x1001_1 : Int) (x1002_1 : Int) (x1003_1 : Int), v8 = .int .i64 x8_1 ∧ Aside0 (shuttlecockref07_names.l0 kq t235 x6_1 x7_1 x8_1 x1000_1 x1001_1 x1002_1 x1003_1 = some (r1, r2, r3, r4, r5, r6, r7)) ∧ Aside0 (kq ≤ k) ∧ Aside0 (Kd.R Kd.bool 4 w' w.heap.size (fun _ => True) v241 x6_1) ∧ Aside0 (Kd.R Kd.string 9 w' w.heap.size (fun _ => True) v244 x7_1) ∧ Aside0 (IsS53 w0 w' g x1000_1 x1001_1 x1002_1 x1003_1) ∧ Aside0 (KeepBut w w' g none) ∧ Aside0 (Below w0.heap.size w0 w'))
      case atStart => exact ⟨(y240), (y243), (0), (t236), (t237), (t238), (t239), (by first | rfl | (simp; done) | (simp [*]; done) | (simp; generalize ByteArray.toList _ = l_; cases l_ <;> rfl)), H', ⟨Nat.le_refl _⟩, ⟨by (with_reducible repeat (first | apply Kd.R_alloc | apply Kd.R_drewN | apply Kd.R_drew)); exact HO242.out⟩, ⟨by (with_reducible repeat (first | apply Kd.R_alloc | apply Kd.R_drewN | apply Kd.R_drew)); exact HO245.out⟩, ⟨z0⟩, ⟨z1⟩, ⟨z2⟩⟩
      case round =>
       clear H'
       try clear c1
       try clear c2
       try clear p2
       try clear c3
       try clear c3b0
       try clear c3b1
       try clear c4
       try clear c4b0
       try clear c8
       try clear c8b0
       try clear c8b1
       try clear c9
       try clear c9b0
       try clear c9b1
       try clear c10
       try clear c10b0
       try clear c10b1
       try clear hcz12_0
       try clear hcz12_1
       try clear hcz12_2
       try clear hcz12_3
       try clear hcz6_0
       try clear hcz6_1
       try clear hcz6_2
       try clear hcz6_3
       try clear hfz12_0
       try clear hfz12_1
       try clear hfz12_2
       try clear hfz12_3
       try clear hfz6_0
       try clear hfz6_1
       try clear hfz6_2
       try clear hfz6_3
       obtain ⟨x6_1, x7_1, x8_1, x1000_1, x1001_1, x1002_1, x1003_1, rfl, HA, HK1, HO_6, HO_7, HI0, HK, HB⟩ := hrel
       cases gk with
       | zero => exact absurd HA.out (by simp [shuttlecockref07_names.l0])
       | succ k1 =>
        have H := HA.out
        clear HA
        simp only [shuttlecockref07_names.l0] at H
        by_cases c19 : x8_1 < t235
        ·
         rw [if_pos c19] at H
         have c19b0 : decide (x8_1 < t235) = true := decide_eq_true c19
         clear c19
         replace H := ob H
         obtain ⟨⟨t246, t247, t248, t249, t250⟩, A200, H⟩ := H
         (try dsimp only at H)
         have A20 := Am A200
         clear A200
         by_cases c21 : t249 = 0
         ·
          rw [if_pos c21] at H
          have c21b0 : (t249 == 0) = true := beq_iff_eq.mpr c21
          have c21b1 : (t249 != 0) = false := bne_eq_false_iff_eq.mpr c21
          clear c21
          replace H := ob H
          obtain ⟨t251, A220, H⟩ := H
          (try dsimp only at H)
          have A22 := Am A220
          clear A220
          by_cases c23 : t251 = true
          ·
           subst c23
           rw [if_pos rfl] at H
           obtain ⟨ji24, hji24⟩ : ∃ j_ : Int, (wrap64 (t246 - 1)) = j_ := ⟨_, rfl⟩
           replace H : (if 0 ≤ (ji24) then (if (ji24) < (x6_1.length : Int) then ((shuttlecockref02_Reader_Text.f k1 t247 t248 t249 t250).bind fun bt253 => (if (ji24) < (x7_1.length : Int) then (if bt253.2.2.2.1 = 0 then (shuttlecockref07_names.l0 k1 t235 (x6_1.set ((ji24) : Int).toNat true) (x7_1.set ((ji24) : Int).toNat bt253.1) (wrap64 (x8_1 + 1)) bt253.2.1 bt253.2.2.1 bt253.2.2.2.1 bt253.2.2.2.2) else (some (([] : List ByteArray), bt253.2.2.2.2, bt253.2.2.2.1, bt253.2.1, bt253.2.2.1, bt253.2.2.2.1, bt253.2.2.2.2))) else (none))) else (none)) else (none)) = some (r1, r2, r3, r4, r5, r6, r7) := by first | (rw [hji24] at H; exact H) | (simp only [hji24] at H ⊢; exact H)
           (try rw [hji24] at A20)
           (try rw [hji24] at A22)
           have hji24w : (IntKind.i64.wrap (t246 - 1)) = ji24 := (i64_w _).trans hji24
           by_cases c25 : 0 ≤ (ji24)
           ·
            rw [if_pos c25] at H
            have c25b0 : decide (0 ≤ (ji24)) = true := decide_eq_true c25
            clear c25
            by_cases c26 : (ji24) < (x6_1.length : Int)
            ·
             rw [if_pos c26] at H
             have c26b0 : decide ((ji24) < (x6_1.length : Int)) = true := decide_eq_true c26
             clear c26
             obtain ⟨y252, hy252⟩ : ∃ y_ : List Bool, y_ = (x6_1.set ((ji24) : Int).toNat true) := ⟨_, rfl⟩
             replace H : ((shuttlecockref02_Reader_Text.f k1 t247 t248 t249 t250).bind fun bt253 => (if (ji24) < (x7_1.length : Int) then (if bt253.2.2.2.1 = 0 then (shuttlecockref07_names.l0 k1 t235 y252 (x7_1.set ((ji24) : Int).toNat bt253.1) (wrap64 (x8_1 + 1)) bt253.2.1 bt253.2.2.1 bt253.2.2.2.1 bt253.2.2.2.2) else (some (([] : List ByteArray), bt253.2.2.2.2, bt253.2.2.2.1, bt253.2.1, bt253.2.2.1, bt253.2.2.2.1, bt253.2.2.2.2))) else (none))) = some (r1, r2, r3, r4, r5, r6, r7) := by first | (rw [hy252]; with_reducible exact H) | (have H2_ := (Option.bind_some _ _).symm.trans H; rw [hy252]; with_reducible exact H2_) | (have H2_ := (Option.bind_some _ _).symm.trans H; with_reducible exact H2_) | with_reducible exact H | (rw [hy252]; exact H) | exact H
             have Ny252 := Am hy252
             clear hy252
             replace H := ob H
             obtain ⟨⟨t253, t254, t255, t256, t257⟩, A280, H⟩ := H
             (try dsimp only at H)
             have A28 := Am A280
             clear A280
             by_cases c29 : (ji24) < (x7_1.length : Int)
             ·
              rw [if_pos c29] at H
              have c29b0 : decide ((ji24) < (x7_1.length : Int)) = true := decide_eq_true c29
              clear c29
              obtain ⟨y258, hy258⟩ : ∃ y_ : List ByteArray, y_ = (x7_1.set ((ji24) : Int).toNat t253) := ⟨_, rfl⟩
              replace H : (if t256 = 0 then (shuttlecockref07_names.l0 k1 t235 y252 y258 (wrap64 (x8_1 + 1)) t254 t255 t256 t257) else (some (([] : List ByteArray), t257, t256, t254, t255, t256, t257))) = some (r1, r2, r3, r4, r5, r6, r7) := by first | (rw [hy258]; with_reducible exact H) | (have H2_ := (Option.bind_some _ _).symm.trans H; rw [hy258]; with_reducible exact H2_) | (have H2_ := (Option.bind_some _ _).symm.trans H; with_reducible exact H2_) | with_reducible exact H | (rw [hy258]; exact H) | exact H
              have Ny258 := Am hy258
              clear hy258
              by_cases c31 : t256 = 0
              ·
               rw [if_pos c31] at H
               have c31b0 : (t256 == 0) = true := beq_iff_eq.mpr c31
               have c31b1 : (t256 != 0) = false := bne_eq_false_iff_eq.mpr c31
               clear c31
               have H' := Am H
               clear H
               go_wp2_with (first | ((with_reducible refine gate_callee (f := 46) rfl ?_); refine Own.gL_ (some 41) Try.func46 (#[.pointer (some ⟨g, 0, none⟩)]) (h := ?_); (with_reducible refine (shuttlecockref02_Reader_Num.calls k1 g x1000_1 x1001_1 x1002_1 x1003_1 t246 t247 t248 t249 t250 w0 _ ?side1 ?side2 A20.out).mono ?_); (case side1 => exact z0); (case side2 => exact z2); rintro e w32 ⟨rfl, hi, hb, hk⟩; refine ⟨_, rfl, ?_⟩; replace HO_6 := Am (Kd.R_mono (Kd.R_keep (IsS53.apart (show IsS53 w0 _ g x1000_1 x1001_1 x1002_1 x1003_1 from z0) (by (with_reducible repeat (first | apply Kd.R_alloc | apply Kd.R_drewN | apply Kd.R_drew)); exact HO_6.out) (by decide)) hk (fun _ h => h.2)) (fun _ h => h.1)); replace HO_7 := Am (Kd.R_mono (Kd.R_keep (IsS53.apart (show IsS53 w0 _ g x1000_1 x1001_1 x1002_1 x1003_1 from z0) (by (with_reducible repeat (first | apply Kd.R_alloc | apply Kd.R_drewN | apply Kd.R_drew)); exact HO_7.out) (by decide)) hk (fun _ h => h.2)) (fun _ h => h.1)); replace HK := Am (KeepBut.trans (z1) hk (.inl rfl)); replace HB := Am (hb); replace HI0 := Am (hi); (try clear hb); (try clear hb2); (try clear hk); (try clear hi); obtain ⟨HGz33, hgz33⟩ := HI0.out; have hcz33_0 := cellS53_0 HGz33; have hcz33_1 := cellS53_1 HGz33; have hcz33_2 := cellS53_2 HGz33; have hcz33_3 := cellS53_3 HGz33; have hfz33_0 := bf HGz33 0; have hfz33_1 := bf HGz33 1; have hfz33_2 := bf HGz33 2; have hfz33_3 := bf HGz33 3; clear HGz33 hgz33; obtain ⟨Ao34, co34, eo34⟩ := Kd.R_slice HO_6.out; subst eo34) | ((with_reducible refine gate_callee (f := 47) rfl ?_); refine Own.gL_ (some 57) Try.func47 (#[.int .i64 t246, .slice Ao34 x6_1.length co34]) (h := ?_); (with_reducible refine (shuttlecockref07_fresh.calls t246 _ _ x6_1 true _ ?side1 ?side2 A22.out).mono ?_); (case side1 => repeat (first | exact (Kd.R_reads' HO_6.out).2.2 | (with_reducible refine Kd.C_alloc ?_ _) | (with_reducible refine Kd.C_drewN ?_ _) | (with_reducible refine Kd.C_drew ?_))); (case side2 => exact (Kd.R_reads' HO_6.out).2.1); rintro e w' ⟨rfl, ⟨nd, rfl⟩⟩; refine ⟨_, rfl, ?_⟩; (try (rw [drewN_self w32]; generalize hq_ : World.drewN w32 _ = w32; have n0_ : Aside0 (Kd.R Kd.bool 4 w32 w.heap.size (fun _ => True) (.slice Ao34 x6_1.length co34) x6_1) := ⟨by rw [← hq_]; exact (by (with_reducible repeat (first | apply Kd.R_alloc | apply Kd.R_drewN | apply Kd.R_drew)); exact HO_6.out)⟩; have n1_ : Aside0 (Kd.R Kd.string 9 w32 w.heap.size (fun _ => True) v244 x7_1) := ⟨by rw [← hq_]; exact (by (with_reducible repeat (first | apply Kd.R_alloc | apply Kd.R_drewN | apply Kd.R_drew)); exact HO_7.out)⟩; have n2_ : Aside0 (IsS53 w0 w32 g t247 t248 t249 t250) := ⟨by rw [← hq_]; exact (z0)⟩; have n3_ : Aside0 (KeepBut w w32 g none) := ⟨by rw [← hq_]; exact (z1)⟩; have n4_ : Aside0 (Below w0.heap.size w0 w32) := ⟨by rw [← hq_]; exact (z2)⟩; clear HO_6 HO_7 HI0 HK HB hq_; have HO_6 := n0_; have HO_7 := n1_; have HI0 := n2_; have HK := n3_; have HB := n4_; clear n0_ n1_ n2_ n3_ n4_)); have p27 : 0 ≤ ((ji24) : Int) := dz; have q27 : ((ji24) : Int) < ((x6_1.length : Int) : Int) := dz; obtain ⟨go27, co27, eo27, gb27, gl27, cl27, HG27⟩ := Kd.R_form HO_6.out (by omega); (first | cases eo27 | (injection eo27 with ea_ en_ ec_; (first | subst ea_ | (injection ea_ with ea_; subst ea_)); subst ec_; clear en_)); have GB27 := Am gb27; have GG27 := Am HG27; clear gb27 gl27 HG27; obtain ⟨hx27_0, hf27_0⟩ := Kd.R_celln false HO_6.out ((ji24) : Int) p27 q27; replace p27 := eq_true p27; replace q27 := eq_true q27; obtain ⟨hy35_, hz35_⟩ := Kd.R_celln false HO_6.out ((ji24) : Int) dz dz; have HP35 := Kd.R_putg HO_6.out ((ji24) : Int) true) | ((with_reducible refine gate_store (t := 4) (p := 66) rfl ?_); refine store_event (t := 4) (p := 66) (v := ?vo_w36) (w1 := (w32.setCell ⟨go27, ((ji24) : Int).toNat, none⟩ (.bool true))) ?hg ?ho ?hn ?hr ?_; (case ho => rfl); (case hg => rfl); (case hn => rfl); (case hr => first | (go_simp; done) | (go_simp; rfl)); intro w36 hw; have hg : w32.grownBy w36 (some go27) := (by rw [hw]; exact HP35.2); have hp_ : Kd.R Kd.bool 4 w36 w.heap.size (fun _ => True) (.slice (some ⟨go27, 0, none⟩) x6_1.length co34) y252 := (by rw [hw, Ny252.out]; exact HP35.1); clear HP35; have n0_ := Am (hp_); have n1_ := Am (Kd.R_over' (v := (.slice (some ⟨go27, 0, none⟩) x6_1.length co34)) (by (with_reducible repeat (first | apply Kd.R_alloc | apply Kd.R_drewN | apply Kd.R_drew)); exact HO_7.out) (Kd.R_typed HO_6.out) (by decide) hg); have n2_ := Am (IsS53.grown (show IsS53 w0 _ g t247 t248 t249 t250 from z0) hg (IsS53.own_ne HI0.out HO_6.out (by decide))); have n3_ := Am ((by rw [hw]; exact bs (HB.out) (Nat.le_trans HL.out GB27.out) : Below w0.heap.size w0 w36)); have n4_ := Am (KeepBut.trans (z1) (KeepBut.of_grown hg g) (Kd.R_base2 HO_6.out)); clear HO_6; clear HO_7; clear HI0; clear HB; clear HK; have HO_6 := n0_; have HO_7 := n1_; have HI0 := n2_; have HB := n3_; have HK := n4_; clear n0_ n1_ n2_ n3_ n4_; clear hg hw hp_) | ((with_reducible refine gate_callee (f := 48) rfl ?_); refine Own.gL_ (some 71) Try.func48 (#[.pointer (some ⟨g, 0, none⟩)]) (h := ?_); (with_reducible refine (shuttlecockref02_Reader_Text.calls k1 g t247 t248 t249 t250 t253 t254 t255 t256 t257 w0 _ ?side1 ?side2 A28.out).mono ?_); (case side1 => exact z0); (case side2 => exact z2); rintro e w37 ⟨rfl, hi, hb, hk⟩; refine ⟨_, rfl, ?_⟩; replace HO_6 := Am (Kd.R_mono (Kd.R_keep (IsS53.apart (show IsS53 w0 _ g t247 t248 t249 t250 from z0) (by (with_reducible repeat (first | apply Kd.R_alloc | apply Kd.R_drewN | apply Kd.R_drew)); exact HO_6.out) (by decide)) hk (fun _ h => h.2)) (fun _ h => h.1)); replace HO_7 := Am (Kd.R_mono (Kd.R_keep (IsS53.apart (show IsS53 w0 _ g t247 t248 t249 t250 from z0) (by (with_reducible repeat (first | apply Kd.R_alloc | apply Kd.R_drewN | apply Kd.R_drew)); exact HO_7.out) (by decide)) hk (fun _ h => h.2)) (fun _ h => h.1)); replace HK := Am (KeepBut.trans (z1) hk (.inl rfl)); replace HB := Am (hb); replace HI0 := Am (hi); (try clear hb); (try clear hb2); (try clear hk); (try clear hi); have p30 : 0 ≤ ((ji24) : Int) := dz; have q30 : ((ji24) : Int) < ((x7_1.length : Int) : Int) := dz; obtain ⟨go30, co30, eo30, gb30, gl30, cl30, HG30⟩ := Kd.R_form HO_7.out (by omega); (first | cases eo30 | (injection eo30 with ea_ en_ ec_; (first | subst ea_ | (injection ea_ with ea_; subst ea_)); subst ec_; clear en_)); have GB30 := Am gb30; have GG30 := Am HG30; clear gb30 gl30 HG30; obtain ⟨hx30_0, hf30_0⟩ := Kd.R_celln (⟨#[]⟩ : ByteArray) HO_7.out ((ji24) : Int) p30 q30; replace p30 := eq_true p30; replace q30 := eq_true q30; obtain ⟨hy38_, hz38_⟩ := Kd.R_celln (⟨#[]⟩ : ByteArray) HO_7.out ((ji24) : Int) dz dz; have HP38 := Kd.R_putg HO_7.out ((ji24) : Int) t253) | ((with_reducible refine gate_store (t := 9) (p := 72) rfl ?_); refine store_event (t := 9) (p := 72) (v := ?vo_w39) (w1 := (w37.setCell ⟨go30, ((ji24) : Int).toNat, none⟩ (.string t253))) ?hg ?ho ?hn ?hr ?_; (case ho => rfl); (case hg => rfl); (case hn => rfl); (case hr => first | (go_simp; done) | (go_simp; rfl)); intro w39 hw; have hg : w37.grownBy w39 (some go30) := (by rw [hw]; exact HP38.2); have hp_ : Kd.R Kd.string 9 w39 w.heap.size (fun _ => True) (.slice (some ⟨go30, 0, none⟩) x7_1.length co30) y258 := (by rw [hw, Ny258.out]; exact HP38.1); clear HP38; have n0_ := Am (Kd.R_over' (v := (.slice (some ⟨go30, 0, none⟩) x7_1.length co30)) (by (with_reducible repeat (first | apply Kd.R_alloc | apply Kd.R_drewN | apply Kd.R_drew)); exact HO_6.out) (Kd.R_typed HO_7.out) (by decide) hg); have n1_ := Am (hp_); have n2_ := Am (IsS53.grown (show IsS53 w0 _ g t254 t255 t256 t257 from z0) hg (IsS53.own_ne HI0.out HO_7.out (by decide))); have n3_ := Am ((by rw [hw]; exact bs (HB.out) (Nat.le_trans HL.out GB30.out) : Below w0.heap.size w0 w39)); have n4_ := Am (KeepBut.trans (z1) (KeepBut.of_grown hg g) (Kd.R_base2 HO_7.out)); clear HO_6; clear HO_7; clear HI0; clear HB; clear HK; have HO_6 := n0_; have HO_7 := n1_; have HI0 := n2_; have HB := n3_; have HK := n4_; clear n0_ n1_ n2_ n3_ n4_; clear hg hw hp_; obtain ⟨HGz40, hgz40⟩ := HI0.out; have hcz40_0 := cellS53_0 HGz40; have hcz40_1 := cellS53_1 HGz40; have hcz40_2 := cellS53_2 HGz40; have hcz40_3 := cellS53_3 HGz40; have hfz40_0 := bf HGz40 0; have hfz40_1 := bf HGz40 1; have hfz40_2 := bf HGz40 2; have hfz40_3 := bf HGz40 3; clear HGz40 hgz40))
               go_roundg k1
               case measure => have := HK1.out; omega
               case rel => exact ⟨(y252), (y258), (wrap64 (x8_1 + 1)), (t254), (t255), (t256), (t257), (by first | rfl | (simp; done) | (simp [*]; done) | (simp; generalize ByteArray.toList _ = l_; cases l_ <;> rfl)), H', ⟨by have := HK1.out; omega⟩, ⟨by (with_reducible repeat (first | apply Kd.R_alloc | apply Kd.R_drewN | apply Kd.R_drew)); exact HO_6.out⟩, ⟨by (with_reducible repeat (first | apply Kd.R_alloc | apply Kd.R_drewN | apply Kd.R_drew)); exact HO_7.out⟩, ⟨z0⟩, ⟨z1⟩, ⟨z2⟩⟩
              ·
               rw [if_neg c31] at H
               have c31b0 : (t256 == 0) = false := beq_eq_false_iff_ne.mpr c31
               have c31b1 : (t256 != 0) = true := bne_iff_ne.mpr c31
               simp only [Option.some.injEq, Prod.mk.injEq] at H
               obtain ⟨rfl, rfl, rfl, rfl, rfl, rfl, rfl⟩ := H
               try go_wp2_with (first | ((with_reducible refine gate_callee (f := 46) rfl ?_); refine Own.gL_ (some 41) Try.func46 (#[.pointer (some ⟨g, 0, none⟩)]) (h := ?_); (with_reducible refine (shuttlecockref02_Reader_Num.calls k1 g x1000_1 x1001_1 x1002_1 x1003_1 t246 t247 t248 t249 t250 w0 _ ?side1 ?side2 A20.out).mono ?_); (case side1 => exact z0); (case side2 => exact z2); rintro e w41 ⟨rfl, hi, hb, hk⟩; refine ⟨_, rfl, ?_⟩; replace HO_6 := Am (Kd.R_mono (Kd.R_keep (IsS53.apart (show IsS53 w0 _ g x1000_1 x1001_1 x1002_1 x1003_1 from z0) (by (with_reducible repeat (first | apply Kd.R_alloc | apply Kd.R_drewN | apply Kd.R_drew)); exact HO_6.out) (by decide)) hk (fun _ h => h.2)) (fun _ h => h.1)); replace HO_7 := Am (Kd.R_mono (Kd.R_keep (IsS53.apart (show IsS53 w0 _ g x1000_1 x1001_1 x1002_1 x1003_1 from z0) (by (with_reducible repeat (first | apply Kd.R_alloc | apply Kd.R_drewN | apply Kd.R_drew)); exact HO_7.out) (by decide)) hk (fun _ h => h.2)) (fun _ h => h.1)); replace HK := Am (KeepBut.trans (z1) hk (.inl rfl)); replace HB := Am (hb); replace HI0 := Am (hi); (try clear hb); (try clear hb2); (try clear hk); (try clear hi); obtain ⟨HGz42, hgz42⟩ := HI0.out; have hcz42_0 := cellS53_0 HGz42; have hcz42_1 := cellS53_1 HGz42; have hcz42_2 := cellS53_2 HGz42; have hcz42_3 := cellS53_3 HGz42; have hfz42_0 := bf HGz42 0; have hfz42_1 := bf HGz42 1; have hfz42_2 := bf HGz42 2; have hfz42_3 := bf HGz42 3; clear HGz42 hgz42; obtain ⟨Ao43, co43, eo43⟩ := Kd.R_slice HO_6.out; subst eo43) | ((with_reducible refine gate_callee (f := 47) rfl ?_); refine Own.gL_ (some 57) Try.func47 (#[.int .i64 t246, .slice Ao43 x6_1.length co43]) (h := ?_); (with_reducible refine (shuttlecockref07_fresh.calls t246 _ _ x6_1 true _ ?side1 ?side2 A22.out).mono ?_); (case side1 => repeat (first | exact (Kd.R_reads' HO_6.out).2.2 | (with_reducible refine Kd.C_alloc ?_ _) | (with_reducible refine Kd.C_drewN ?_ _) | (with_reducible refine Kd.C_drew ?_))); (case side2 => exact (Kd.R_reads' HO_6.out).2.1); rintro e w' ⟨rfl, ⟨nd, rfl⟩⟩; refine ⟨_, rfl, ?_⟩; (try (rw [drewN_self w41]; generalize hq_ : World.drewN w41 _ = w41; have n0_ : Aside0 (Kd.R Kd.bool 4 w41 w.heap.size (fun _ => True) (.slice Ao43 x6_1.length co43) x6_1) := ⟨by rw [← hq_]; exact (by (with_reducible repeat (first | apply Kd.R_alloc | apply Kd.R_drewN | apply Kd.R_drew)); exact HO_6.out)⟩; have n1_ : Aside0 (Kd.R Kd.string 9 w41 w.heap.size (fun _ => True) v244 x7_1) := ⟨by rw [← hq_]; exact (by (with_reducible repeat (first | apply Kd.R_alloc | apply Kd.R_drewN | apply Kd.R_drew)); exact HO_7.out)⟩; have n2_ : Aside0 (IsS53 w0 w41 g t247 t248 t249 t250) := ⟨by rw [← hq_]; exact (z0)⟩; have n3_ : Aside0 (KeepBut w w41 g none) := ⟨by rw [← hq_]; exact (z1)⟩; have n4_ : Aside0 (Below w0.heap.size w0 w41) := ⟨by rw [← hq_]; exact (z2)⟩; clear HO_6 HO_7 HI0 HK HB hq_; have HO_6 := n0_; have HO_7 := n1_; have HI0 := n2_; have HK := n3_; have HB := n4_; clear n0_ n1_ n2_ n3_ n4_)); have p27 : 0 ≤ ((ji24) : Int) := dz; have q27 : ((ji24) : Int) < ((x6_1.length : Int) : Int) := dz; obtain ⟨go27, co27, eo27, gb27, gl27, cl27, HG27⟩ := Kd.R_form HO_6.out (by omega); (first | cases eo27 | (injection eo27 with ea_ en_ ec_; (first | subst ea_ | (injection ea_ with ea_; subst ea_)); subst ec_; clear en_)); have GB27 := Am gb27; have GG27 := Am HG27; clear gb27 gl27 HG27; obtain ⟨hx27_0, hf27_0⟩ := Kd.R_celln false HO_6.out ((ji24) : Int) p27 q27; replace p27 := eq_true p27; replace q27 := eq_true q27; obtain ⟨hy44_, hz44_⟩ := Kd.R_celln false HO_6.out ((ji24) : Int) dz dz; have HP44 := Kd.R_putg HO_6.out ((ji24) : Int) true) | ((with_reducible refine gate_store (t := 4) (p := 66) rfl ?_); refine store_event (t := 4) (p := 66) (v := ?vo_w45) (w1 := (w41.setCell ⟨go27, ((ji24) : Int).toNat, none⟩ (.bool true))) ?hg ?ho ?hn ?hr ?_; (case ho => rfl); (case hg => rfl); (case hn => rfl); (case hr => first | (go_simp; done) | (go_simp; rfl)); intro w45 hw; have hg : w41.grownBy w45 (some go27) := (by rw [hw]; exact HP44.2); have hp_ : Kd.R Kd.bool 4 w45 w.heap.size (fun _ => True) (.slice (some ⟨go27, 0, none⟩) x6_1.length co43) y252 := (by rw [hw, Ny252.out]; exact HP44.1); clear HP44; have n0_ := Am (hp_); have n1_ := Am (Kd.R_over' (v := (.slice (some ⟨go27, 0, none⟩) x6_1.length co43)) (by (with_reducible repeat (first | apply Kd.R_alloc | apply Kd.R_drewN | apply Kd.R_drew)); exact HO_7.out) (Kd.R_typed HO_6.out) (by decide) hg); have n2_ := Am (IsS53.grown (show IsS53 w0 _ g t247 t248 t249 t250 from z0) hg (IsS53.own_ne HI0.out HO_6.out (by decide))); have n3_ := Am ((by rw [hw]; exact bs (HB.out) (Nat.le_trans HL.out GB27.out) : Below w0.heap.size w0 w45)); have n4_ := Am (KeepBut.trans (z1) (KeepBut.of_grown hg g) (Kd.R_base2 HO_6.out)); clear HO_6; clear HO_7; clear HI0; clear HB; clear HK; have HO_6 := n0_; have HO_7 := n1_; have HI0 := n2_; have HB := n3_; have HK := n4_; clear n0_ n1_ n2_ n3_ n4_; clear hg hw hp_) | ((with_reducible refine gate_callee (f := 48) rfl ?_); refine Own.gL_ (some 71) Try.func48 (#[.pointer (some ⟨g, 0, none⟩)]) (h := ?_); (with_reducible refine (shuttlecockref02_Reader_Text.calls k1 g t247 t248 t249 t250 t253 t254 t255 t256 t257 w0 _ ?side1 ?side2 A28.out).mono ?_); (case side1 => exact z0); (case side2 => exact z2); rintro e w46 ⟨rfl, hi, hb, hk⟩; refine ⟨_, rfl, ?_⟩; replace HO_6 := Am (Kd.R_mono (Kd.R_keep (IsS53.apart (show IsS53 w0 _ g t247 t248 t249 t250 from z0) (by (with_reducible repeat (first | apply Kd.R_alloc | apply Kd.R_drewN | apply Kd.R_drew)); exact HO_6.out) (by decide)) hk (fun _ h => h.2)) (fun _ h => h.1)); replace HO_7 := Am (Kd.R_mono (Kd.R_keep (IsS53.apart (show IsS53 w0 _ g t247 t248 t249 t250 from z0) (by (with_reducible repeat (first | apply Kd.R_alloc | apply Kd.R_drewN | apply Kd.R_drew)); exact HO_7.out) (by decide)) hk (fun _ h => h.2)) (fun _ h => h.1)); replace HK := Am (KeepBut.trans (z1) hk (.inl rfl)); replace HB := Am (hb); replace HI0 := Am (hi); (try clear hb); (try clear hb2); (try clear hk); (try clear hi); have p30 : 0 ≤ ((ji24) : Int) := dz; have q30 : ((ji24) : Int) < ((x7_1.length : Int) : Int) := dz; obtain ⟨go30, co30, eo30, gb30, gl30, cl30, HG30⟩ := Kd.R_form HO_7.out (by omega); (first | cases eo30 | (injection eo30 with ea_ en_ ec_; (first | subst ea_ | (injection ea_ with ea_; subst ea_)); subst ec_; clear en_)); have GB30 := Am gb30; have GG30 := Am HG30; clear gb30 gl30 HG30; obtain ⟨hx30_0, hf30_0⟩ := Kd.R_celln (⟨#[]⟩ : ByteArray) HO_7.out ((ji24) : Int) p30 q30; replace p30 := eq_true p30; replace q30 := eq_true q30; obtain ⟨hy47_, hz47_⟩ := Kd.R_celln (⟨#[]⟩ : ByteArray) HO_7.out ((ji24) : Int) dz dz; have HP47 := Kd.R_putg HO_7.out ((ji24) : Int) t253) | ((with_reducible refine gate_store (t := 9) (p := 72) rfl ?_); refine store_event (t := 9) (p := 72) (v := ?vo_w48) (w1 := (w46.setCell ⟨go30, ((ji24) : Int).toNat, none⟩ (.string t253))) ?hg ?ho ?hn ?hr ?_; (case ho => rfl); (case hg => rfl); (case hn => rfl); (case hr => first | (go_simp; done) | (go_simp; rfl)); intro w48 hw; have hg : w46.grownBy w48 (some go30) := (by rw [hw]; exact HP47.2); have hp_ : Kd.R Kd.string 9 w48 w.heap.size (fun _ => True) (.slice (some ⟨go30, 0, none⟩) x7_1.length co30) y258 := (by rw [hw, Ny258.out]; exact HP47.1); clear HP47; have n0_ := Am (Kd.R_over' (v := (.slice (some ⟨go30, 0, none⟩) x7_1.length co30)) (by (with_reducible repeat (first | apply Kd.R_alloc | apply Kd.R_drewN | apply Kd.R_drew)); exact HO_6.out) (Kd.R_typed HO_7.out) (by decide) hg); have n1_ := Am (hp_); have n2_ := Am (IsS53.grown (show IsS53 w0 _ g t254 t255 t256 t257 from z0) hg (IsS53.own_ne HI0.out HO_7.out (by decide))); have n3_ := Am ((by rw [hw]; exact bs (HB.out) (Nat.le_trans HL.out GB30.out) : Below w0.heap.size w0 w48)); have n4_ := Am (KeepBut.trans (z1) (KeepBut.of_grown hg g) (Kd.R_base2 HO_7.out)); clear HO_6; clear HO_7; clear HI0; clear HB; clear HK; have HO_6 := n0_; have HO_7 := n1_; have HI0 := n2_; have HB := n3_; have HK := n4_; clear n0_ n1_ n2_ n3_ n4_; clear hg hw hp_; obtain ⟨HGz49, hgz49⟩ := HI0.out; have hcz49_0 := cellS53_0 HGz49; have hcz49_1 := cellS53_1 HGz49; have hcz49_2 := cellS53_2 HGz49; have hcz49_3 := cellS53_3 HGz49; have hfz49_0 := bf HGz49 0; have hfz49_1 := bf HGz49 1; have hfz49_2 := bf HGz49 2; have hfz49_3 := bf HGz49 3; clear HGz49 hgz49))
               replace HO_6 := Am (Kd.R_drew HO_6.out)
               replace HO_7 := Am (Kd.R_drew HO_7.out)
               replace HI0 := Am (IsS53.drew HI0.out)
               replace HK := Am (keep_drew HK.out)
               replace HB := Am (b1 HB.out)
               refine start_ (n := 11) (S := fun w' => w'.cell? ⟨g, 0, none⟩ = some (.string t254) ∧ w'.cell? ⟨g, 1, none⟩ = some (.int .i64 t255) ∧ w'.cell? ⟨g, 2, none⟩ = some (.int .i64 t256) ∧ w'.cell? ⟨g, 3, none⟩ = some (.int .i64 t257)) (ds := []) q15_17 (by kernel_rfl) rfl rfl ⟨(bc (Am HI0.out.1).out 0).trans rfl, (bc (Am HI0.out.1).out 1).trans rfl, (bc (Am HI0.out.1).out 2).trans rfl, (bc (Am HI0.out.1).out 3).trans rfl⟩ (fun hHeld => ?_); refine with_tabW shuttlecockref07_names.tab18 shuttlecockref07_names.bits18 (fun HT_ HW_ => ?_)
               generalize w48.drew = w50 at HO_6 HO_7 HI0 HK HB hHeld ⊢
               refine Own.pr_ 0 (some 78) q15_18 HT_ (h := ?_)
               refine Own.pr_ 1 (some 79) q15_19 HT_ (h := ?_)
               refine Own.pr_ 2 (some 80) q15_20 HT_ (h := ?_)
               refine Own.pr_ 4 (some 82) q15_21 HT_ (h := ?_)
               refine Own.pr_ 5 (some 83) q15_22 HT_ (h := ?_)
               refine Own.pr_ 6 (some 84) q15_23 HT_ (h := ?_)
               refine Own.pr_ 8 (some 2) q15_24 HT_ (h := ?_)
               refine Own.tk_ 3 (some 81) q15_25 HT_ HW_ hHeld (hy := by rintro w' ⟨s0, s1, s2, s3⟩; go_simp; with_reducible rfl) (h := ?_)
               refine Own.pr_ 9 (some 3) q15_26 HT_ (h := ?_)
               refine Own.tk_ 7 (some 85) q15_27 HT_ HW_ hHeld (hy := by rintro w' ⟨s0, s1, s2, s3⟩; go_simp; with_reducible rfl) (h := ?_)
               refine Own.pr_ 10 (some 4) q15_28 HT_ (h := ?_)
               refine done_ (done_of HT_.out (by kernel_rfl)) ?_
               try go_wp2
               go_ret3
               exact ⟨_, by first | rfl | (simp [errW_none, errW_some] <;> rfl) | (simp only [← hji24]; first | rfl | (simp [errW_none, errW_some] <;> rfl)) | (simp [*, errW_none, errW_some] <;> rfl) | (simp [Aid.ne_nil, Aid.eq_nil, errW_none, errW_some]; done), by first | exact Kd.R_nil _ _ _ _ _ | exact Kd.N_nil _ _ _ _ _ | exact Kd.V_nil _ _ _ _ _ | exact Kd.Q_nil _ _ _ _ _ | exact Kd.S_nil _ _ _ _ _, z0, z2, z1⟩
             ·
              rw [if_neg c29] at H
              exact absurd H (by simp)
            ·
             rw [if_neg c26] at H
             exact absurd H (by simp)
           ·
            rw [if_neg c25] at H
            exact absurd H (by simp)
          ·
           replace c23 := Bool.eq_false_iff.mpr c23
           subst c23
           rw [if_neg (show ¬ (false = true) by decide)] at H
           simp only [Option.some.injEq, Prod.mk.injEq] at H
           obtain ⟨rfl, rfl, rfl, rfl, rfl, rfl, rfl⟩ := H
           try go_wp2_with (first | ((with_reducible refine gate_callee (f := 46) rfl ?_); refine Own.gL_ (some 41) Try.func46 (#[.pointer (some ⟨g, 0, none⟩)]) (h := ?_); (with_reducible refine (shuttlecockref02_Reader_Num.calls k1 g x1000_1 x1001_1 x1002_1 x1003_1 t246 t247 t248 t249 t250 w0 _ ?side1 ?side2 A20.out).mono ?_); (case side1 => exact z0); (case side2 => exact z2); rintro e w51 ⟨rfl, hi, hb, hk⟩; refine ⟨_, rfl, ?_⟩; replace HO_6 := Am (Kd.R_mono (Kd.R_keep (IsS53.apart (show IsS53 w0 _ g x1000_1 x1001_1 x1002_1 x1003_1 from z0) (by (with_reducible repeat (first | apply Kd.R_alloc | apply Kd.R_drewN | apply Kd.R_drew)); exact HO_6.out) (by decide)) hk (fun _ h => h.2)) (fun _ h => h.1)); replace HO_7 := Am (Kd.R_mono (Kd.R_keep (IsS53.apart (show IsS53 w0 _ g x1000_1 x1001_1 x1002_1 x1003_1 from z0) (by (with_reducible repeat (first | apply Kd.R_alloc | apply Kd.R_drewN | apply Kd.R_drew)); exact HO_7.out) (by decide)) hk (fun _ h => h.2)) (fun _ h => h.1)); replace HK := Am (KeepBut.trans (z1) hk (.inl rfl)); replace HB := Am (hb); replace HI0 := Am (hi); (try clear hb); (try clear hb2); (try clear hk); (try clear hi); obtain ⟨HGz52, hgz52⟩ := HI0.out; have hcz52_0 := cellS53_0 HGz52; have hcz52_1 := cellS53_1 HGz52; have hcz52_2 := cellS53_2 HGz52; have hcz52_3 := cellS53_3 HGz52; have hfz52_0 := bf HGz52 0; have hfz52_1 := bf HGz52 1; have hfz52_2 := bf HGz52 2; have hfz52_3 := bf HGz52 3; clear HGz52 hgz52; obtain ⟨Ao53, co53, eo53⟩ := Kd.R_slice HO_6.out; subst eo53) | ((with_reducible refine gate_callee (f := 47) rfl ?_); refine Own.gL_ (some 57) Try.func47 (#[.int .i64 t246, .slice Ao53 x6_1.length co53]) (h := ?_); (with_reducible refine (shuttlecockref07_fresh.calls t246 _ _ x6_1 false _ ?side1 ?side2 A22.out).mono ?_); (case side1 => repeat (first | exact (Kd.R_reads' HO_6.out).2.2 | (with_reducible refine Kd.C_alloc ?_ _) | (with_reducible refine Kd.C_drewN ?_ _) | (with_reducible refine Kd.C_drew ?_))); (case side2 => exact (Kd.R_reads' HO_6.out).2.1); rintro e w' ⟨rfl, ⟨nd, rfl⟩⟩; refine ⟨_, rfl, ?_⟩))
           (try (rw [drewN_self w51]; generalize hq_ : World.drewN w51 _ = w51; have n0_ : Aside0 (Kd.R Kd.bool 4 w51 w.heap.size (fun _ => True) (.slice Ao53 x6_1.length co53) x6_1) := ⟨by rw [← hq_]; exact (by (with_reducible repeat (first | apply Kd.R_alloc | apply Kd.R_drewN | apply Kd.R_drew)); exact HO_6.out)⟩; have n1_ : Aside0 (Kd.R Kd.string 9 w51 w.heap.size (fun _ => True) v244 x7_1) := ⟨by rw [← hq_]; exact (by (with_reducible repeat (first | apply Kd.R_alloc | apply Kd.R_drewN | apply Kd.R_drew)); exact HO_7.out)⟩; have n2_ : Aside0 (IsS53 w0 w51 g t247 t248 t249 t250) := ⟨by rw [← hq_]; exact (z0)⟩; have n3_ : Aside0 (KeepBut w w51 g none) := ⟨by rw [← hq_]; exact (z1)⟩; have n4_ : Aside0 (Below w0.heap.size w0 w51) := ⟨by rw [← hq_]; exact (z2)⟩; clear HO_6 HO_7 HI0 HK HB hq_; have HO_6 := n0_; have HO_7 := n1_; have HI0 := n2_; have HK := n3_; have HB := n4_; clear n0_ n1_ n2_ n3_ n4_))
           replace HO_6 := Am (Kd.R_drew HO_6.out)
           replace HO_7 := Am (Kd.R_drew HO_7.out)
           replace HI0 := Am (IsS53.drew HI0.out)
           replace HK := Am (keep_drew HK.out)
           replace HB := Am (b1 HB.out)
           refine start_ (n := 7) (S := fun w' => w'.cell? ⟨g, 0, none⟩ = some (.string t247) ∧ w'.cell? ⟨g, 1, none⟩ = some (.int .i64 t248) ∧ w'.cell? ⟨g, 2, none⟩ = some (.int .i64 t249) ∧ w'.cell? ⟨g, 3, none⟩ = some (.int .i64 t250)) (ds := []) q15_0 (by kernel_rfl) rfl rfl ⟨(bc (Am HI0.out.1).out 0).trans rfl, (bc (Am HI0.out.1).out 1).trans rfl, (bc (Am HI0.out.1).out 2).trans rfl, (bc (Am HI0.out.1).out 3).trans rfl⟩ (fun hHeld => ?_)
           generalize w51.drew = w54 at HO_6 HO_7 HI0 HK HB hHeld ⊢
           refine pure_ (i := 0) (N := some 59) (v := ?_) (a' := ?_) q15_1 rfl rfl (by kernel_rfl) (fun _ _ _ h => h) (Or.inl ⟨by rfl, ?_⟩) ?_ ?_
           rotate_left
           ·
            intro w'
            go_simp
            with_reducible rfl
           rotate_left
           ·
            simp only [Act.put, sI, sZ, sS, i64_w, i32_w]
            rfl
           refine pure_ (i := 1) (N := some 60) (v := ?_) (a' := ?_) q15_2 rfl rfl (by kernel_rfl) (fun _ _ _ h => h) (Or.inl ⟨by rfl, ?_⟩) ?_ ?_
           rotate_left
           ·
            intro w'
            go_simp
            with_reducible rfl
           rotate_left
           ·
            simp only [Act.put, sI, sZ, sS, i64_w, i32_w]
            rfl
           refine pure_ (i := 2) (N := some 61) (v := ?_) (a' := ?_) q15_3 rfl rfl (by kernel_rfl) (fun _ _ _ h => h) (Or.inl ⟨by rfl, ?_⟩) ?_ ?_
           rotate_left
           ·
            intro w'
            go_simp
            with_reducible rfl
           rotate_left
           ·
            simp only [Act.put, sI, sZ, sS, i64_w, i32_w]
            rfl
           refine pure_ (i := 4) (N := some 2) (v := ?_) (a' := ?_) q15_4 rfl rfl (by kernel_rfl) (fun _ _ _ h => h) (Or.inl ⟨by rfl, ?_⟩) ?_ ?_
           rotate_left
           ·
            intro w'
            go_simp
            with_reducible rfl
           rotate_left
           ·
            simp only [Act.put, sI, sZ, sS, i64_w, i32_w]
            rfl
           refine take_ (i := 3) (N := some 62) (v := ?_) (a' := ?_) q15_5 rfl rfl (by kernel_rfl) (fun _ _ _ h => h) (Or.inl ⟨by rfl, ?_⟩) hHeld ?_ ?_
           rotate_left
           ·
            rintro w' ⟨s0, s1, s2, s3⟩
            go_simp
            with_reducible rfl
           rotate_left
           ·
            simp only [Act.put, sI, sZ, sS, i64_w, i32_w]
            rfl
           refine pure_ (i := 5) (N := some 3) (v := ?_) (a' := ?_) q15_6 rfl rfl (by kernel_rfl) (fun _ _ _ h => h) (Or.inl ⟨by rfl, ?_⟩) ?_ ?_
           rotate_left
           ·
            intro w'
            go_simp
            with_reducible rfl
           rotate_left
           ·
            simp only [Act.put, sI, sZ, sS, i64_w, i32_w]
            rfl
           refine pure_ (i := 6) (N := some 4) (v := ?_) (a' := ?_) q15_7 rfl rfl (by kernel_rfl) (fun _ _ _ h => h) (Or.inl ⟨by rfl, ?_⟩) ?_ ?_
           rotate_left
           ·
            intro w'
            go_simp
            with_reducible rfl
           rotate_left
           ·
            simp only [Act.put, sI, sZ, sS, i64_w, i32_w]
            rfl
           refine done_ (by kernel_rfl) ?_
           try go_wp2
           go_ret3
           exact ⟨_, y1, by first | exact Kd.R_nil _ _ _ _ _ | exact Kd.N_nil _ _ _ _ _ | exact Kd.V_nil _ _ _ _ _ | exact Kd.Q_nil _ _ _ _ _ | exact Kd.S_nil _ _ _ _ _, z0, z2, z1⟩
         ·
          rw [if_neg c21] at H
          have c21b0 : (t249 == 0) = false := beq_eq_false_iff_ne.mpr c21
          have c21b1 : (t249 != 0) = true := bne_iff_ne.mpr c21
          simp only [Option.some.injEq, Prod.mk.injEq] at H
          obtain ⟨rfl, rfl, rfl, rfl, rfl, rfl, rfl⟩ := H
          try go_wp2_with (first | ((with_reducible refine gate_callee (f := 46) rfl ?_); refine Own.gL_ (some 41) Try.func46 (#[.pointer (some ⟨g, 0, none⟩)]) (h := ?_); (with_reducible refine (shuttlecockref02_Reader_Num.calls k1 g x1000_1 x1001_1 x1002_1 x1003_1 t246 t247 t248 t249 t250 w0 _ ?side1 ?side2 A20.out).mono ?_); (case side1 => exact z0); (case side2 => exact z2); rintro e w55 ⟨rfl, hi, hb, hk⟩; refine ⟨_, rfl, ?_⟩; replace HO_6 := Am (Kd.R_mono (Kd.R_keep (IsS53.apart (show IsS53 w0 _ g x1000_1 x1001_1 x1002_1 x1003_1 from z0) (by (with_reducible repeat (first | apply Kd.R_alloc | apply Kd.R_drewN | apply Kd.R_drew)); exact HO_6.out) (by decide)) hk (fun _ h => h.2)) (fun _ h => h.1)); replace HO_7 := Am (Kd.R_mono (Kd.R_keep (IsS53.apart (show IsS53 w0 _ g x1000_1 x1001_1 x1002_1 x1003_1 from z0) (by (with_reducible repeat (first | apply Kd.R_alloc | apply Kd.R_drewN | apply Kd.R_drew)); exact HO_7.out) (by decide)) hk (fun _ h => h.2)) (fun _ h => h.1)); replace HK := Am (KeepBut.trans (z1) hk (.inl rfl)); replace HB := Am (hb); replace HI0 := Am (hi); (try clear hb); (try clear hb2); (try clear hk); (try clear hi); obtain ⟨HGz56, hgz56⟩ := HI0.out; have hcz56_0 := cellS53_0 HGz56; have hcz56_1 := cellS53_1 HGz56; have hcz56_2 := cellS53_2 HGz56; have hcz56_3 := cellS53_3 HGz56; have hfz56_0 := bf HGz56 0; have hfz56_1 := bf HGz56 1; have hfz56_2 := bf HGz56 2; have hfz56_3 := bf HGz56 3; clear HGz56 hgz56))
          replace HO_6 := Am (Kd.R_drew HO_6.out)
          replace HO_7 := Am (Kd.R_drew HO_7.out)
          replace HI0 := Am (IsS53.drew HI0.out)
          replace HK := Am (keep_drew HK.out)
          replace HB := Am (b1 HB.out)
          refine start_ (n := 11) (S := fun w' => w'.cell? ⟨g, 0, none⟩ = some (.string t247) ∧ w'.cell? ⟨g, 1, none⟩ = some (.int .i64 t248) ∧ w'.cell? ⟨g, 2, none⟩ = some (.int .i64 t249) ∧ w'.cell? ⟨g, 3, none⟩ = some (.int .i64 t250)) (ds := []) q15_17 (by kernel_rfl) rfl rfl ⟨(bc (Am HI0.out.1).out 0).trans rfl, (bc (Am HI0.out.1).out 1).trans rfl, (bc (Am HI0.out.1).out 2).trans rfl, (bc (Am HI0.out.1).out 3).trans rfl⟩ (fun hHeld => ?_); refine with_tabW shuttlecockref07_names.tab12 shuttlecockref07_names.bits12 (fun HT_ HW_ => ?_)
          generalize w55.drew = w57 at HO_6 HO_7 HI0 HK HB hHeld ⊢
          refine Own.pr_ 0 (some 47) q15_18 HT_ (h := ?_)
          refine Own.pr_ 1 (some 48) q15_19 HT_ (h := ?_)
          refine Own.pr_ 2 (some 49) q15_20 HT_ (h := ?_)
          refine Own.pr_ 4 (some 51) q15_21 HT_ (h := ?_)
          refine Own.pr_ 5 (some 52) q15_22 HT_ (h := ?_)
          refine Own.pr_ 6 (some 53) q15_23 HT_ (h := ?_)
          refine Own.pr_ 8 (some 2) q15_24 HT_ (h := ?_)
          refine Own.tk_ 3 (some 50) q15_25 HT_ HW_ hHeld (hy := by rintro w' ⟨s0, s1, s2, s3⟩; go_simp; with_reducible rfl) (h := ?_)
          refine Own.pr_ 9 (some 3) q15_26 HT_ (h := ?_)
          refine Own.tk_ 7 (some 54) q15_27 HT_ HW_ hHeld (hy := by rintro w' ⟨s0, s1, s2, s3⟩; go_simp; with_reducible rfl) (h := ?_)
          refine Own.pr_ 10 (some 4) q15_28 HT_ (h := ?_)
          refine done_ (done_of HT_.out (by kernel_rfl)) ?_
          try go_wp2
          go_ret3
          exact ⟨_, y1, by first | exact Kd.R_nil _ _ _ _ _ | exact Kd.N_nil _ _ _ _ _ | exact Kd.V_nil _ _ _ _ _ | exact Kd.Q_nil _ _ _ _ _ | exact Kd.S_nil _ _ _ _ _, z0, z2, z1⟩
        ·
         rw [if_neg c19] at H
         have c19b0 : decide (x8_1 < t235) = false := decide_eq_false c19
         clear c19
         simp only [Option.some.injEq, Prod.mk.injEq] at H
         obtain ⟨rfl, rfl, rfl, rfl, rfl, rfl, rfl⟩ := H
         go_wp2
         go_ret3
         exact ⟨_, y1, by (with_reducible repeat (first | apply Kd.R_alloc | apply Kd.R_drewN | apply Kd.R_drew)); exact HO_7.out, z0, z2, z1⟩
     ·
      rw [if_neg c10] at H
      exact absurd H (by simp)
    ·
     rw [if_neg c9] at H
     exact absurd H (by simp)
   ·
    rw [if_neg c8] at H
    exact absurd H (by simp)
 ·
  rw [if_neg c3] at H
  have c3b0 : (t238 == 0) = false := beq_eq_false_iff_ne.mpr c3
  have c3b1 : (t238 != 0) = true := bne_iff_ne.mpr c3
  simp only [Option.some.injEq, Prod.mk.injEq] at H
  obtain ⟨rfl, rfl, rfl, rfl, rfl, rfl, rfl⟩ := H
  go_enter Try.func23, Try.ntmps23
  try go_wp2_with (first | ((with_reducible refine gate_callee (f := 46) rfl ?_); refine Own.gL_ (some 11) Try.func46 (#[.pointer (some ⟨g, 0, none⟩)]) (h := ?_); (with_reducible refine (shuttlecockref02_Reader_Num.calls k g s0_0 s0_1 s0_2 s0_3 t235 t236 t237 t238 t239 w0 _ ?side1 ?side2 A2.out).mono ?_); (case side1 => exact z0); (case side2 => exact z2); rintro e w58 ⟨rfl, hi, hb, hk⟩; refine ⟨_, rfl, ?_⟩; replace HK := Am (KeepBut.trans (z1) hk (.inl rfl)); replace HB := Am (hb); replace HI0 := Am (hi); (try clear hb); (try clear hb2); (try clear hk); (try clear hi); obtain ⟨HGz59, hgz59⟩ := HI0.out; have hcz59_0 := cellS53_0 HGz59; have hcz59_1 := cellS53_1 HGz59; have hcz59_2 := cellS53_2 HGz59; have hcz59_3 := cellS53_3 HGz59; have hfz59_0 := bf HGz59 0; have hfz59_1 := bf HGz59 1; have hfz59_2 := bf HGz59 2; have hfz59_3 := bf HGz59 3; clear HGz59 hgz59))
  replace HI0 := Am (IsS53.drew HI0.out)
  replace HK := Am (keep_drew HK.out)
  replace HB := Am (b1 HB.out)
  refine start_ (n := 11) (S := fun w' => w'.cell? ⟨g, 0, none⟩ = some (.string t236) ∧ w'.cell? ⟨g, 1, none⟩ = some (.int .i64 t237) ∧ w'.cell? ⟨g, 2, none⟩ = some (.int .i64 t238) ∧ w'.cell? ⟨g, 3, none⟩ = some (.int .i64 t239)) (ds := []) q15_17 (by kernel_rfl) rfl rfl ⟨(bc (Am HI0.out.1).out 0).trans rfl, (bc (Am HI0.out.1).out 1).trans rfl, (bc (Am HI0.out.1).out 2).trans rfl, (bc (Am HI0.out.1).out 3).trans rfl⟩ (fun hHeld => ?_); refine with_tabW shuttlecockref07_names.tab3 shuttlecockref07_names.bits3 (fun HT_ HW_ => ?_)
  generalize w58.drew = w60 at HI0 HK HB hHeld ⊢
  refine Own.pr_ 0 (some 17) q15_18 HT_ (h := ?_)
  refine Own.pr_ 1 (some 18) q15_19 HT_ (h := ?_)
  refine Own.pr_ 2 (some 19) q15_20 HT_ (h := ?_)
  refine Own.pr_ 4 (some 21) q15_21 HT_ (h := ?_)
  refine Own.pr_ 5 (some 22) q15_22 HT_ (h := ?_)
  refine Own.pr_ 6 (some 23) q15_23 HT_ (h := ?_)
  refine Own.pr_ 8 (some 2) q15_24 HT_ (h := ?_)
  refine Own.tk_ 3 (some 20) q15_25 HT_ HW_ hHeld (hy := by rintro w' ⟨s0, s1, s2, s3⟩; go_simp; with_reducible rfl) (h := ?_)
  refine Own.pr_ 9 (some 3) q15_26 HT_ (h := ?_)
  refine Own.tk_ 7 (some 24) q15_27 HT_ HW_ hHeld (hy := by rintro w' ⟨s0, s1, s2, s3⟩; go_simp; with_reducible rfl) (h := ?_)
  refine Own.pr_ 10 (some 4) q15_28 HT_ (h := ?_)
  refine done_ (done_of HT_.out (by kernel_rfl)) ?_
  try go_wp2
  go_ret3
  exact ⟨_, y1, by first | exact Kd.R_nil _ _ _ _ _ | exact Kd.N_nil _ _ _ _ _ | exact Kd.V_nil _ _ _ _ _ | exact Kd.Q_nil _ _ _ _ _ | exact Kd.S_nil _ _ _ _ _, z0, z2, z1⟩

end Go.Proofs.Ytlmmlmmbnfcogaa.Q
