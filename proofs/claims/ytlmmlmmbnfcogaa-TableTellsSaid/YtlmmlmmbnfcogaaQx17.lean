-- printed by a program of this session (NOTES: hprint); not the kit's print
-- minified3
-- minified2
-- minified
-- halved
import Derived.Test.YtlmmlmmbnfcogaaOg
import Derived.Test.YtlmmlmmbnfcogaaAl
import Derived.Test.YtlmmlmmbnfcogaaQx0
import Derived.Test.YtlmmlmmbnfcogaaQx14
import Derived.Test.YtlmmlmmbnfcogaaQx16
namespace Go.Proofs.Ytlmmlmmbnfcogaa.Q
open Go.RowKit Go.Proofs.YtlmmlmmbnfcogaaW.PrintWords Go.Proofs.YtlmmlmmbnfcogaaW.PrintLast Go.Proofs.YtlmmlmmbnfcogaaW.PrintMore
attribute [local go_sem] max2_int min2_int max_two min_two max_three min_three max_four min_four   -- for this text's walks alone
set_option linter.unusedVariables false
set_option linter.unusedSimpArgs false

def q17_0 : Array Bool := let o := true; let z := false; #[z,z,z,z,z,z,z]
def q17_1 : Array Bool := let o := true; let z := false; #[o,z,z,z,z,z,z]
def q17_2 : Array Bool := let o := true; let z := false; #[o,o,z,z,z,z,z]
def q17_3 : Array Bool := let o := true; let z := false; #[o,o,o,z,z,z,z]
def q17_4 : Array Bool := let o := true; let z := false; #[o,o,o,z,o,z,z]
def q17_5 : Array Bool := let o := true; let z := false; #[o,o,o,o,o,z,z]
def q17_6 : Array Bool := let o := true; let z := false; #[o,o,o,o,o,o,z]
def q17_7 : Array Bool := let o := true; let z := false; #[o,o,o,o,o,o,o]
def q17_8 : Array Bool := let o := true; let z := false; #[z,z,z,z,z,z]
def q17_9 : Array Bool := let o := true; let z := false; #[o,z,z,z,z,z]
def q17_10 : Array Bool := let o := true; let z := false; #[o,z,o,z,z,z]
def q17_11 : Array Bool := let o := true; let z := false; #[o,o,o,o,o,z]
def q17_12 : Array Bool := let o := true; let z := false; #[o,o,o,z,z,z]
def q17_13 : Array Bool := let o := true; let z := false; #[o,z,o,o,z,z]
def q17_14 : Array Bool := let o := true; let z := false; #[o,o,o,z,o,z]
def q17_15 : Array Bool := let o := true; let z := false; #[o,o,o,o,z,z]
def q17_16 : Array Bool := let o := true; let z := false; #[o,o,o,o,o,o]
def q17_17 : Array Bool := let o := true; let z := false; #[z,z,z,z,z,z,z,z,z,z,z]
def q17_18 : Array Bool := let o := true; let z := false; #[o,z,z,z,z,z,z,z,z,z,z]
def q17_19 : Array Bool := let o := true; let z := false; #[o,o,z,z,z,z,z,z,z,z,z]
def q17_20 : Array Bool := let o := true; let z := false; #[o,o,o,z,z,z,z,z,z,z,z]
def q17_21 : Array Bool := let o := true; let z := false; #[o,o,o,z,o,z,z,z,z,z,z]
def q17_22 : Array Bool := let o := true; let z := false; #[o,o,o,z,o,o,z,z,z,z,z]
def q17_23 : Array Bool := let o := true; let z := false; #[o,o,o,z,o,o,o,z,z,z,z]
def q17_24 : Array Bool := let o := true; let z := false; #[o,o,o,z,o,o,o,z,o,z,z]
def q17_25 : Array Bool := let o := true; let z := false; #[o,o,o,o,o,o,o,z,o,z,z]
def q17_26 : Array Bool := let o := true; let z := false; #[o,o,o,o,o,o,o,z,o,o,z]
def q17_27 : Array Bool := let o := true; let z := false; #[o,o,o,o,o,o,o,o,o,o,z]
def q17_28 : Array Bool := let o := true; let z := false; #[o,o,o,o,o,o,o,o,o,o,o]
/-! ### shuttlecockref07_stacks: function 24 -/
def shuttlecockref07_stacks.l0 : Nat → Int → List Bool → List (List (S70)) → Int → ByteArray → Int → Int → Int → Option ((List (List (S70))) × Int × Int × ByteArray × Int × Int × Int)
 | 0, _, _, _, _, _, _, _, _ => none
 | k + 1, x5, x6, x7, x8, x1000, x1001, x1002, x1003 => if x8 < x5 then ((shuttlecockref02_Reader_Num.f k x1000 x1001 x1002 x1003).bind fun bt291 => (if bt291.2.2.2.1 = 0 then ((shuttlecockref07_fresh.f bt291.1 x6).bind fun t296 => (if t296 = true then (if 0 ≤ (wrap64 (bt291.1 - 1)) then (if (wrap64 (bt291.1 - 1)) < (x6.length : Int) then ((shuttlecockref07_frames.f k bt291.2.1 bt291.2.2.1 bt291.2.2.2.1 bt291.2.2.2.2).bind fun bt298 => (if bt298.2.2.1 = 0 then (if (wrap64 (bt291.1 - 1)) < (x7.length : Int) then (shuttlecockref07_stacks.l0 k x5 (x6.set ((wrap64 (bt291.1 - 1)) : Int).toNat true) (x7.set ((wrap64 (bt291.1 - 1)) : Int).toNat bt298.1) (wrap64 (x8 + 1)) bt298.2.2.2.1 bt298.2.2.2.2.1 bt298.2.2.2.2.2.1 bt298.2.2.2.2.2.2) else (none)) else (some (([] : List (List (S70))), bt298.2.1, bt298.2.2.1, bt298.2.2.2.1, bt298.2.2.2.2.1, bt298.2.2.2.2.2.1, bt298.2.2.2.2.2.2)))) else (none)) else (none)) else (some (([] : List (List (S70))), bt291.2.2.1, 70, bt291.2.1, bt291.2.2.1, bt291.2.2.2.1, bt291.2.2.2.2)))) else (some (([] : List (List (S70))), bt291.2.2.2.2, bt291.2.2.2.1, bt291.2.1, bt291.2.2.1, bt291.2.2.2.1, bt291.2.2.2.2)))) else (some (x7, 0, 0, x1000, x1001, x1002, x1003))
def shuttlecockref07_stacks.f (k : Nat) (s0_0 : ByteArray) (s0_1 : Int) (s0_2 : Int) (s0_3 : Int) : Option ((List (List (S70))) × Int × Int × ByteArray × Int × Int × Int) := (shuttlecockref02_Reader_Num.f k s0_0 s0_1 s0_2 s0_3).bind fun bt280 => (if bt280.2.2.2.1 = 0 then (if bt280.1 > 10000 then (some (([] : List (List (S70))), bt280.2.2.1, 70, bt280.2.1, bt280.2.2.1, bt280.2.2.2.1, bt280.2.2.2.2)) else (if 0 ≤ bt280.1 then (if (bt280.1 : Int).toNat ≤ 281474976710656 then (if (bt280.1 : Int).toNat ≤ 11728124029610 then (shuttlecockref07_stacks.l0 k bt280.1 (List.replicate (bt280.1 : Int).toNat false) (List.replicate (bt280.1 : Int).toNat []) 0 bt280.2.1 bt280.2.2.1 bt280.2.2.2.1 bt280.2.2.2.2) else (none)) else (none)) else (none))) else (some (([] : List (List (S70))), bt280.2.2.2.2, bt280.2.2.2.1, bt280.2.1, bt280.2.2.1, bt280.2.2.2.1, bt280.2.2.2.2)))
theorem shuttlecockref07_stacks.mono_l : ∀ k, (∀ y0 y1 y2 y3 y4 y5 y6 y7, LeO (shuttlecockref07_stacks.l0 k y0 y1 y2 y3 y4 y5 y6 y7) (shuttlecockref07_stacks.l0 (k + 1) y0 y1 y2 y3 y4 y5 y6 y7))
 | 0 => fun _ _ _ _ _ _ _ _ r h => by simp [shuttlecockref07_stacks.l0] at h
 | k + 1 => by
  have ih0 := shuttlecockref07_stacks.mono_l k
  ·
   intro y0 y1 y2 y3 y4 y5 y6 y7
   unfold shuttlecockref07_stacks.l0
   repeat' first
   | (with_reducible exact ih0 _ _ _ _ _ _ _ _)
   | (with_reducible exact shuttlecockref02_Reader_Num.mono _ _ _ _ _)
   | (with_reducible exact shuttlecockref07_frames.mono _ _ _ _ _)
   | (with_reducible exact LeO.refl _)
   | (with_reducible exact LeO.none _)
   | (with_reducible refine LeO.ite ?_ ?_)
   | (with_reducible refine LeO.bind ?_ (fun _ => ?_))
   | exact LeO.none _
   | refine LeO.ite ?_ ?_
   | refine LeO.bind ?_ (fun _ => ?_)
theorem shuttlecockref07_stacks.mono : ∀ a0 a1 a2 a3 k, LeO (shuttlecockref07_stacks.f k a0 a1 a2 a3) (shuttlecockref07_stacks.f (k + 1) a0 a1 a2 a3) := by
 intro a0 a1 a2 a3 k
 have ih0 := shuttlecockref07_stacks.mono_l k
 unfold shuttlecockref07_stacks.f
 repeat' first
   | (with_reducible exact ih0 _ _ _ _ _ _ _ _)
   | (with_reducible exact shuttlecockref02_Reader_Num.mono _ _ _ _ _)
   | (with_reducible exact shuttlecockref07_frames.mono _ _ _ _ _)
   | (with_reducible exact LeO.refl _)
   | (with_reducible exact LeO.none _)
   | (with_reducible refine LeO.ite ?_ ?_)
   | (with_reducible refine LeO.bind ?_ (fun _ => ?_))
   | exact LeO.none _
   | refine LeO.ite ?_ ?_
   | refine LeO.bind ?_ (fun _ => ?_)
def shuttlecockref07_stacks.T3 : Bool × List (List Nat × List Nat) := (true, [([], []), ([0], [0]), ([1], [1]), ([2], [2]), ([], []), ([4], [4]), ([5], [5]), ([6], [6]), ([], []), ([3, 8, 0, 1, 2, 3, 8], [3]), ([7, 9, 0, 1, 2, 3, 4, 5, 6, 7, 8, 9], [7])])
def shuttlecockref07_stacks.B3 : List Nat := [0, 1, 3, 7, 0, 16, 48, 112, 0, 271, 1023]
theorem shuttlecockref07_stacks.tab3 : rtab .any (opsOf Try.f24 3) = shuttlecockref07_stacks.T3 := by kernel_rfl
theorem shuttlecockref07_stacks.bits3 : waitsOk shuttlecockref07_stacks.T3.2 shuttlecockref07_stacks.B3 = true := by kernel_rfl
def shuttlecockref07_stacks.T12 : Bool × List (List Nat × List Nat) := (true, [([], []), ([0], [0]), ([1], [1]), ([2], [2]), ([], []), ([4], [4]), ([5], [5]), ([6], [6]), ([], []), ([3, 8, 0, 1, 2, 3, 8], [3]), ([7, 9, 0, 1, 2, 3, 4, 5, 6, 7, 8, 9], [7])])
def shuttlecockref07_stacks.B12 : List Nat := [0, 1, 3, 7, 0, 16, 48, 112, 0, 271, 1023]
theorem shuttlecockref07_stacks.tab12 : rtab .any (opsOf Try.f24 12) = shuttlecockref07_stacks.T12 := by kernel_rfl
theorem shuttlecockref07_stacks.bits12 : waitsOk shuttlecockref07_stacks.T12.2 shuttlecockref07_stacks.B12 = true := by kernel_rfl
set_option maxHeartbeats 8000000 in
set_option maxRecDepth 100000 in
theorem shuttlecockref07_stacks.calls (k : Nat) (g : Nat) (s0_0 : ByteArray) (s0_1 : Int) (s0_2 : Int) (s0_3 : Int) (r1 : List (List (S70))) (r2 : Int) (r3 : Int) (r4 : ByteArray) (r5 : Int) (r6 : Int) (r7 : Int) (w0 w : World) (hI : IsS53 w0 w g s0_0 s0_1 s0_2 s0_3) (hB : Below w0.heap.size w0 w) (h : shuttlecockref07_stacks.f k s0_0 s0_1 s0_2 s0_3 = some (r1, r2, r3, r4, r5, r6, r7)) :
  Calls Try.prog 24 #[.pointer (some ⟨g, 0, none⟩)] w fun e w' => ∃ v0_ : Value, e = .returned (.tuple #[v0_, .int .i64 r2, .int .i64 r3]) ∧ Kd.S (Kd.slice 70 k70) 42 w' w.heap.size (fun _ => True) v0_ r1 ∧ IsS53 w0 w' g r4 r5 r6 r7 ∧ Below w0.heap.size w0 w' ∧ KeepBut w w' g none := by
 have HI0 := Am hI
 have HK := Am (KeepBut.refl w g none)
 have HL := Am hB.size
 clear hI
 have HW0 := Am hB.size
 have HB := Am hB
 clear hB
 have H : ((shuttlecockref02_Reader_Num.f k s0_0 s0_1 s0_2 s0_3).bind fun bt280 => (if bt280.2.2.2.1 = 0 then (if bt280.1 > 10000 then (some (([] : List (List (S70))), bt280.2.2.1, 70, bt280.2.1, bt280.2.2.1, bt280.2.2.2.1, bt280.2.2.2.2)) else (if 0 ≤ bt280.1 then (if (bt280.1 : Int).toNat ≤ 281474976710656 then (if (bt280.1 : Int).toNat ≤ 11728124029610 then (shuttlecockref07_stacks.l0 k bt280.1 (List.replicate (bt280.1 : Int).toNat false) (List.replicate (bt280.1 : Int).toNat []) 0 bt280.2.1 bt280.2.2.1 bt280.2.2.2.1 bt280.2.2.2.2) else (none)) else (none)) else (none))) else (some (([] : List (List (S70))), bt280.2.2.2.2, bt280.2.2.2.1, bt280.2.1, bt280.2.2.1, bt280.2.2.2.1, bt280.2.2.2.2)))) = some (r1, r2, r3, r4, r5, r6, r7) := h
 clear h
 replace H := ob H
 obtain ⟨⟨t280, t281, t282, t283, t284⟩, A20, H⟩ := H
 (try dsimp only at H)
 have A2 := Am A20
 clear A20
 by_cases c3 : t283 = 0
 ·
  rw [if_pos c3] at H
  have c3b0 : (t283 == 0) = true := beq_iff_eq.mpr c3
  have c3b1 : (t283 != 0) = false := bne_eq_false_iff_eq.mpr c3
  clear c3
  by_cases c4 : t280 > 10000
  ·
   rw [if_pos c4] at H
   have c4b0 : decide (10000 < t280) = true := decide_eq_true c4
   clear c4
   simp only [Option.some.injEq, Prod.mk.injEq] at H
   obtain ⟨rfl, rfl, rfl, rfl, rfl, rfl, rfl⟩ := H
   go_enter Try.func24, Try.ntmps24
   try go_wp2_with (first | ((with_reducible refine gate_callee (f := 46) rfl ?_); refine Own.gL_ (some 14) Try.func46 (#[.pointer (some ⟨g, 0, none⟩)]) (h := ?_); (with_reducible refine (shuttlecockref02_Reader_Num.calls k g s0_0 s0_1 s0_2 s0_3 t280 t281 t282 t283 t284 w0 _ ?side1 ?side2 A2.out).mono ?_); (case side1 => exact z0); (case side2 => exact z2); rintro e w5 ⟨rfl, hi, hb, hk⟩; refine ⟨_, rfl, ?_⟩; replace HK := Am (KeepBut.trans (z1) hk (.inl rfl)); replace HB := Am (hb); replace HI0 := Am (hi); (try clear hb); (try clear hb2); (try clear hk); (try clear hi); obtain ⟨HGz6, hgz6⟩ := HI0.out; have hcz6_0 := cellS53_0 HGz6; have hcz6_1 := cellS53_1 HGz6; have hcz6_2 := cellS53_2 HGz6; have hcz6_3 := cellS53_3 HGz6; have hfz6_0 := bf HGz6 0; have hfz6_1 := bf HGz6 1; have hfz6_2 := bf HGz6 2; have hfz6_3 := bf HGz6 3; clear HGz6 hgz6))
   replace HI0 := Am (IsS53.drew HI0.out)
   replace HK := Am (keep_drew HK.out)
   replace HB := Am (b1 HB.out)
   refine start_ (n := 7) (S := fun w' => w'.cell? ⟨g, 0, none⟩ = some (.string t281) ∧ w'.cell? ⟨g, 1, none⟩ = some (.int .i64 t282) ∧ w'.cell? ⟨g, 2, none⟩ = some (.int .i64 t283) ∧ w'.cell? ⟨g, 3, none⟩ = some (.int .i64 t284)) (ds := []) q17_0 (by kernel_rfl) rfl rfl ⟨(bc (Am HI0.out.1).out 0).trans rfl, (bc (Am HI0.out.1).out 1).trans rfl, (bc (Am HI0.out.1).out 2).trans rfl, (bc (Am HI0.out.1).out 3).trans rfl⟩ (fun hHeld => ?_)
   generalize w5.drew = w7 at HI0 HK HB hHeld ⊢
   refine pure_ (i := 0) (N := some 30) (v := ?_) (a' := ?_) q17_1 rfl rfl (by kernel_rfl) (fun _ _ _ h => h) (Or.inl ⟨by rfl, ?_⟩) ?_ ?_
   rotate_left
   ·
    intro w'
    go_simp
    with_reducible rfl
   rotate_left
   ·
    simp only [Act.put, sI, sZ, sS, i64_w, i32_w]
    rfl
   refine pure_ (i := 1) (N := some 31) (v := ?_) (a' := ?_) q17_2 rfl rfl (by kernel_rfl) (fun _ _ _ h => h) (Or.inl ⟨by rfl, ?_⟩) ?_ ?_
   rotate_left
   ·
    intro w'
    go_simp
    with_reducible rfl
   rotate_left
   ·
    simp only [Act.put, sI, sZ, sS, i64_w, i32_w]
    rfl
   refine pure_ (i := 2) (N := some 32) (v := ?_) (a' := ?_) q17_3 rfl rfl (by kernel_rfl) (fun _ _ _ h => h) (Or.inl ⟨by rfl, ?_⟩) ?_ ?_
   rotate_left
   ·
    intro w'
    go_simp
    with_reducible rfl
   rotate_left
   ·
    simp only [Act.put, sI, sZ, sS, i64_w, i32_w]
    rfl
   refine pure_ (i := 4) (N := some 2) (v := ?_) (a' := ?_) q17_4 rfl rfl (by kernel_rfl) (fun _ _ _ h => h) (Or.inl ⟨by rfl, ?_⟩) ?_ ?_
   rotate_left
   ·
    intro w'
    go_simp
    with_reducible rfl
   rotate_left
   ·
    simp only [Act.put, sI, sZ, sS, i64_w, i32_w]
    rfl
   refine take_ (i := 3) (N := some 33) (v := ?_) (a' := ?_) q17_5 rfl rfl (by kernel_rfl) (fun _ _ _ h => h) (Or.inl ⟨by rfl, ?_⟩) hHeld ?_ ?_
   rotate_left
   ·
    rintro w' ⟨s0, s1, s2, s3⟩
    go_simp
    with_reducible rfl
   rotate_left
   ·
    simp only [Act.put, sI, sZ, sS, i64_w, i32_w]
    rfl
   refine pure_ (i := 5) (N := some 3) (v := ?_) (a' := ?_) q17_6 rfl rfl (by kernel_rfl) (fun _ _ _ h => h) (Or.inl ⟨by rfl, ?_⟩) ?_ ?_
   rotate_left
   ·
    intro w'
    go_simp
    with_reducible rfl
   rotate_left
   ·
    simp only [Act.put, sI, sZ, sS, i64_w, i32_w]
    rfl
   refine pure_ (i := 6) (N := some 4) (v := ?_) (a' := ?_) q17_7 rfl rfl (by kernel_rfl) (fun _ _ _ h => h) (Or.inl ⟨by rfl, ?_⟩) ?_ ?_
   rotate_left
   ·
    intro w'
    go_simp
    with_reducible rfl
   rotate_left
   ·
    simp only [Act.put, sI, sZ, sS, i64_w, i32_w]
    rfl
   refine done_ (by kernel_rfl) ?_
   try go_wp2
   go_ret3
   exact ⟨_, y1, by first | exact Kd.S_nil _ _ _ _ _ | exact Kd.N_nil _ _ _ _ _ | exact Kd.V_nil _ _ _ _ _ | exact Kd.Q_nil _ _ _ _ _ | exact Kd.R_nil _ _ _ _ _, z0, z2, z1⟩
  ·
   rw [if_neg c4] at H
   have c4b0 : decide (10000 < t280) = false := decide_eq_false c4
   clear c4
   by_cases c8 : 0 ≤ t280
   ·
    rw [if_pos c8] at H
    have c8b0 := eq_true c8
    have c8b1 : decide (0 ≤ t280) = true := decide_eq_true c8
    clear c8
    by_cases c9 : (t280 : Int).toNat ≤ 281474976710656
    ·
     rw [if_pos c9] at H
     have c9b0 := eq_true c9
     have c9b1 : decide ((t280 : Int).toNat ≤ 281474976710656) = true := decide_eq_true c9
     clear c9
     obtain ⟨y285, hy285⟩ : ∃ y_ : List Bool, y_ = (List.replicate (t280 : Int).toNat false) := ⟨_, rfl⟩
     replace H : (if (t280 : Int).toNat ≤ 11728124029610 then (shuttlecockref07_stacks.l0 k t280 y285 (List.replicate (t280 : Int).toNat []) 0 t281 t282 t283 t284) else (none)) = some (r1, r2, r3, r4, r5, r6, r7) := by first | (rw [hy285]; with_reducible exact H) | (have H2_ := (Option.bind_some _ _).symm.trans H; rw [hy285]; with_reducible exact H2_) | (have H2_ := (Option.bind_some _ _).symm.trans H; with_reducible exact H2_) | with_reducible exact H | (rw [hy285]; exact H) | exact H
     have Ny285 := Am hy285
     clear hy285
     by_cases c10 : (t280 : Int).toNat ≤ 11728124029610
     ·
      rw [if_pos c10] at H
      have c10b0 := eq_true c10
      have c10b1 : decide ((t280 : Int).toNat ≤ 11728124029610) = true := decide_eq_true c10
      clear c10
      obtain ⟨y288, hy288⟩ : ∃ y_ : List (List (S70)), y_ = (List.replicate (t280 : Int).toNat []) := ⟨_, rfl⟩
      replace H : (shuttlecockref07_stacks.l0 k t280 y285 y288 0 t281 t282 t283 t284) = some (r1, r2, r3, r4, r5, r6, r7) := by first | (rw [hy288]; with_reducible exact H) | (have H2_ := (Option.bind_some _ _).symm.trans H; rw [hy288]; with_reducible exact H2_) | (have H2_ := (Option.bind_some _ _).symm.trans H; with_reducible exact H2_) | with_reducible exact H | (rw [hy288]; exact H) | exact H
      have Ny288 := Am hy288
      clear hy288
      have H' := Am H
      clear H
      go_enter Try.func24, Try.ntmps24
      try go_wp2_with (first | ((with_reducible refine gate_callee (f := 46) rfl ?_); refine Own.gL_ (some 14) Try.func46 (#[.pointer (some ⟨g, 0, none⟩)]) (h := ?_); (with_reducible refine (shuttlecockref02_Reader_Num.calls k g s0_0 s0_1 s0_2 s0_3 t280 t281 t282 t283 t284 w0 _ ?side1 ?side2 A2.out).mono ?_); (case side1 => exact z0); (case side2 => exact z2); rintro e w11 ⟨rfl, hi, hb, hk⟩; refine ⟨_, rfl, ?_⟩; replace HK := Am (KeepBut.trans (z1) hk (.inl rfl)); replace HB := Am (hb); replace HI0 := Am (hi); (try clear hb); (try clear hb2); (try clear hk); (try clear hi); obtain ⟨HGz12, hgz12⟩ := HI0.out; have hcz12_0 := cellS53_0 HGz12; have hcz12_1 := cellS53_1 HGz12; have hcz12_2 := cellS53_2 HGz12; have hcz12_3 := cellS53_3 HGz12; have hfz12_0 := bf HGz12 0; have hfz12_1 := bf HGz12 1; have hfz12_2 := bf HGz12 2; have hfz12_3 := bf HGz12 3; clear HGz12 hgz12))
      replace HI0 := Am (IsS53.drew HI0.out)
      replace HK := Am (keep_drew HK.out)
      replace HB := Am (b1 HB.out)
      refine start_ (n := 6) (S := fun w' => True) (ds := []) q17_8 (by kernel_rfl) rfl rfl trivial (fun hHeld => ?_)
      generalize w11.drew = w13 at HI0 HK HB hHeld ⊢
      refine pure_ (i := 0) (N := some 34) (v := ?_) (a' := ?_) q17_9 rfl rfl (by kernel_rfl) (fun _ _ _ h => h) (Or.inl ⟨by rfl, ?_⟩) ?_ ?_
      rotate_left
      ·
       intro w'
       go_simp
       with_reducible rfl
      rotate_left
      ·
       simp only [Act.put, sI, sZ, sS, i64_w, i32_w]
       rfl
      refine pure_ (i := 2) (N := some 36) (v := ?_) (a' := ?_) q17_10 rfl rfl (by kernel_rfl) (fun _ _ _ h => h) (Or.inl ⟨by rfl, ?_⟩) ?_ ?_
      rotate_left
      ·
       intro w'
       go_simp
       with_reducible rfl
      rotate_left
      ·
       simp only [Act.put, sI, sZ, sS, i64_w, i32_w]
       rfl
      refine join_ (σ := Value × Value) 1 q17_11 (fun s_ => [(35, s_.1), (37, s_.2), (6, s_.1)]) (fun s_ w' => (Kd.R Kd.bool 4 w' w.heap.size (fun _ => True) s_.1 y285) ∧ (Kd.S (Kd.slice 70 k70) 42 w' w.heap.size (fun _ => True) s_.2 y288) ∧ (IsS53 w0 w' g t281 t282 t283 t284) ∧ (KeepBut w w' g none) ∧ (Below w0.heap.size w0 w')) ?_ ?_
      rotate_left
      ·
       intro hCont
       refine two_ (i := 1) (j := 3) (Ni := some 35) (Nj := some 37) q17_12 q17_13 rfl rfl rfl rfl (by kernel_rfl) (by decide) (by decide) (fun K hK => ?_) (fun K hK => ?_)
       ·
        skip
        refine Kd.R_make_step Kd.bool _ 4 (by rfl) (N := 35) rfl 78 _ _ rfl t280 rfl rfl Try.underlying78 (.bool false) 1 info4 rfl (by decide) (by omega) false (ok := fun _ => True) (okp := fun _ => True) rfl (fun _ hk => hk) trivial dz (Nat.le_trans (Nat.mul_le_mul_right _ (dz : t280.toNat ≤ 281474976710656)) (by omega)) (Below.refl _ _) (Nat.le_refl _) ?_
        intro v286 w14 ho15 hb hg_ hnew_
        clear hg_ hnew_
        (first | rw [← Ny285.out] at ho15 | (simp only [Int.reduceToNat] at ho15; rw [← Ny285.out] at ho15))
        have n0_ := Am (Kd.R_lower ho15 (keep_size (w := w) (g := g) (row := none) (z1)))
        have n1_ := Am (IsS53.below (z0) hb)
        have n2_ := Am (KeepBut.trans (z1) (KeepBut.of_below hb g none) (.inl rfl))
        have n3_ := Am (below_step (z2) hb)
        clear HI0
        clear HK
        clear HB
        have HO287 := n0_
        have HI0 := n1_
        have HK := n2_
        have HB := n3_
        clear n0_ n1_ n2_ n3_
        clear hb ho15
        refine hK.out _ _ trivial (fun hHeld => ?_)
        clear hK K
        refine norm_ (a' := ?_) ?_ ?_
        rotate_left
        ·
         show Act.put _ (some 35) _ = _
         simp only [Act.put, sI, sZ, sS, i64_w, i32_w]
         rfl
        refine pure_ (i := 4) (N := some 6) (v := ?_) (a' := ?_) q17_14 rfl rfl (by kernel_rfl) (fun _ _ _ h => h) (Or.inl ⟨by rfl, ?_⟩) ?_ ?_
        rotate_left
        ·
         intro w'
         go_simp
         with_reducible rfl
        rotate_left
        ·
         simp only [Act.put, sI, sZ, sS, i64_w, i32_w]
         rfl
        refine one_ (i := 3) (N := some 37) q17_11 rfl rfl (by kernel_rfl) (by decide) (fun K hK => ?_)
        refine Kd.S_make_step (Kd.slice 70 k70) _ 42 (by rfl) (N := 37) rfl 23 _ _ rfl t280 rfl rfl Try.underlying23 (.slice none 0 0) 24 info42 rfl (by decide) (by omega) [] (ok := fun _ => True) (okp := fun _ => True) ⟨_, rfl, Kd.R_nil _ _ _ _ _⟩ (fun _ hk => hk) trivial dz (Nat.le_trans (Nat.mul_le_mul_right _ (dz : t280.toNat ≤ 11728124029610)) (by omega)) (Below.refl _ _) (Nat.le_refl _) ?_
        intro v289 w16 ho17 hb hg_ hnew_
        clear hg_ hnew_
        (first | rw [← Ny288.out] at ho17 | (simp only [Int.reduceToNat] at ho17; rw [← Ny288.out] at ho17))
        have n0_ := Am (Kd.R_below (by (with_reducible repeat (first | apply Kd.R_alloc | apply Kd.R_drewN | apply Kd.R_drew)); exact HO287.out) hb)
        have n1_ := Am (Kd.S_lower ho17 (keep_size (w := w) (g := g) (row := none) (z1)))
        have n2_ := Am (IsS53.below (z0) hb)
        have n3_ := Am (KeepBut.trans (z1) (KeepBut.of_below hb g none) (.inl rfl))
        have n4_ := Am (below_step (z2) hb)
        clear HO287
        clear HI0
        clear HK
        clear HB
        have HO287 := n0_
        have HO290 := n1_
        have HI0 := n2_
        have HK := n3_
        have HB := n4_
        clear n0_ n1_ n2_ n3_ n4_
        clear hb ho17
        refine hK.out _ _ trivial (fun hHeld => ?_)
        clear hK K
        refine norm_ (a' := ?_) ?_ ?_
        rotate_left
        ·
         show Act.put _ (some 37) _ = _
         simp only [Act.put, sI, sZ, sS, i64_w, i32_w]
         rfl
        exact norm_ (by simp only [putAll, Act.put, sI, sZ, sS]) (hCont (v286, v289) _ ⟨(by (with_reducible repeat (first | apply Kd.R_alloc | apply Kd.R_drewN | apply Kd.R_drew)); exact HO287.out), (by (with_reducible repeat (first | apply Kd.S_alloc | apply Kd.S_drewN | apply Kd.S_drew)); exact HO290.out), (z0), (z1), (z2)⟩)
       ·
        skip
        refine Kd.S_make_step (Kd.slice 70 k70) _ 42 (by rfl) (N := 37) rfl 23 _ _ rfl t280 rfl rfl Try.underlying23 (.slice none 0 0) 24 info42 rfl (by decide) (by omega) [] (ok := fun _ => True) (okp := fun _ => True) ⟨_, rfl, Kd.R_nil _ _ _ _ _⟩ (fun _ hk => hk) trivial dz (Nat.le_trans (Nat.mul_le_mul_right _ (dz : t280.toNat ≤ 11728124029610)) (by omega)) (Below.refl _ _) (Nat.le_refl _) ?_
        intro v289 w14 ho15 hb hg_ hnew_
        clear hg_ hnew_
        (first | rw [← Ny288.out] at ho15 | (simp only [Int.reduceToNat] at ho15; rw [← Ny288.out] at ho15))
        have n0_ := Am (Kd.S_lower ho15 (keep_size (w := w) (g := g) (row := none) (z1)))
        have n1_ := Am (IsS53.below (z0) hb)
        have n2_ := Am (KeepBut.trans (z1) (KeepBut.of_below hb g none) (.inl rfl))
        have n3_ := Am (below_step (z2) hb)
        clear HI0
        clear HK
        clear HB
        have HO290 := n0_
        have HI0 := n1_
        have HK := n2_
        have HB := n3_
        clear n0_ n1_ n2_ n3_
        clear hb ho15
        refine hK.out _ _ trivial (fun hHeld => ?_)
        clear hK K
        refine norm_ (a' := ?_) ?_ ?_
        rotate_left
        ·
         show Act.put _ (some 37) _ = _
         simp only [Act.put, sI, sZ, sS, i64_w, i32_w]
         rfl
        refine one_ (i := 1) (N := some 35) q17_15 rfl rfl (by kernel_rfl) (by decide) (fun K hK => ?_)
        refine Kd.R_make_step Kd.bool _ 4 (by rfl) (N := 35) rfl 78 _ _ rfl t280 rfl rfl Try.underlying78 (.bool false) 1 info4 rfl (by decide) (by omega) false (ok := fun _ => True) (okp := fun _ => True) rfl (fun _ hk => hk) trivial dz (Nat.le_trans (Nat.mul_le_mul_right _ (dz : t280.toNat ≤ 281474976710656)) (by omega)) (Below.refl _ _) (Nat.le_refl _) ?_
        intro v286 w16 ho17 hb hg_ hnew_
        clear hg_ hnew_
        (first | rw [← Ny285.out] at ho17 | (simp only [Int.reduceToNat] at ho17; rw [← Ny285.out] at ho17))
        have n0_ := Am (Kd.S_below (by (with_reducible repeat (first | apply Kd.S_alloc | apply Kd.S_drewN | apply Kd.S_drew)); exact HO290.out) hb)
        have n1_ := Am (Kd.R_lower ho17 (keep_size (w := w) (g := g) (row := none) (z1)))
        have n2_ := Am (IsS53.below (z0) hb)
        have n3_ := Am (KeepBut.trans (z1) (KeepBut.of_below hb g none) (.inl rfl))
        have n4_ := Am (below_step (z2) hb)
        clear HO290
        clear HI0
        clear HK
        clear HB
        have HO290 := n0_
        have HO287 := n1_
        have HI0 := n2_
        have HK := n3_
        have HB := n4_
        clear n0_ n1_ n2_ n3_ n4_
        clear hb ho17
        refine hK.out _ _ trivial (fun hHeld => ?_)
        clear hK K
        refine norm_ (a' := ?_) ?_ ?_
        rotate_left
        ·
         show Act.put _ (some 35) _ = _
         simp only [Act.put, sI, sZ, sS, i64_w, i32_w]
         rfl
        refine pure_ (i := 4) (N := some 6) (v := ?_) (a' := ?_) q17_11 rfl rfl (by kernel_rfl) (fun _ _ _ h => h) (Or.inl ⟨by rfl, ?_⟩) ?_ ?_
        rotate_left
        ·
         intro w'
         go_simp
         with_reducible rfl
        rotate_left
        ·
         simp only [Act.put, sI, sZ, sS, i64_w, i32_w]
         rfl
        exact norm_ (by simp only [putAll, Act.put, sI, sZ, sS]) (hCont (v286, v289) _ ⟨(by (with_reducible repeat (first | apply Kd.R_alloc | apply Kd.R_drewN | apply Kd.R_drew)); exact HO287.out), (by (with_reducible repeat (first | apply Kd.S_alloc | apply Kd.S_drewN | apply Kd.S_drew)); exact HO290.out), (z0), (z1), (z2)⟩)
      rintro ⟨v286, v289⟩ w18 ⟨h0_, h1_, h2_, h3_, h4_⟩
      have n0_ : Aside0 (Kd.R Kd.bool 4 w18 w.heap.size (fun _ => True) v286 y285) := ⟨h0_⟩
      have n1_ : Aside0 (Kd.S (Kd.slice 70 k70) 42 w18 w.heap.size (fun _ => True) v289 y288) := ⟨h1_⟩
      have n2_ : Aside0 (IsS53 w0 w18 g t281 t282 t283 t284) := ⟨h2_⟩
      have n3_ : Aside0 (KeepBut w w18 g none) := ⟨h3_⟩
      have n4_ : Aside0 (Below w0.heap.size w0 w18) := ⟨h4_⟩
      clear HI0
      clear HK
      clear HB
      clear h0_ h1_ h2_ h3_ h4_
      have HO287 := n0_
      have HO290 := n1_
      have HI0 := n2_
      have HK := n3_
      have HB := n4_
      clear n0_ n1_ n2_ n3_ n4_
      have hHeld := trivial
      refine norm_ (a' := ?_) ?_ ?_
      rotate_left
      ·
       simp only [putAll, Act.put, sI, sZ, sS]
       rfl
      refine pure_ (i := 5) (N := some 7) (v := ?_) (a' := ?_) q17_16 rfl rfl (by kernel_rfl) (fun _ _ _ h => h) (Or.inl ⟨by rfl, ?_⟩) ?_ ?_
      rotate_left
      ·
       intro w'
       go_simp
       with_reducible rfl
      rotate_left
      ·
       simp only [Act.put, sI, sZ, sS, i64_w, i32_w]
       rfl
      refine done_ (by kernel_rfl) ?_
      try go_wp2
      go_loopg [8] k (fun kq v8 w' => ∃ (x6_1 : List Bool) (x7_1 : List (List (S70))) (x8_1 : Int) (x1000_1 : ByteArray) (x1001_1 : Int) (x1002_1 : Int) (x1003_1 : Int), v8 = .int .i64 x8_1 ∧ Aside0 (shuttlecockref07_stacks.l0 kq t280 x6_1 x7_1 x8_1 x1000_1 x1001_1 x1002_1 x1003_1 = some (r1, r2, r3, r4, r5, r6, r7)) ∧ Aside0 (kq ≤ k) ∧ Aside0 (Kd.R Kd.bool 4 w' w.heap.size (fun _ => True) v286 x6_1) ∧ Aside0 (Kd.S (Kd.slice 70 k70) 42 w' w.heap.size (fun _ => True) v289 x7_1) ∧ Aside0 (IsS53 w0 w' g x1000_1 x1001_1 x1002_1 x1003_1) ∧ Aside0 (KeepBut w w' g none) ∧ Aside0 (Below w0.heap.size w0 w'))
      case atStart => exact ⟨(y285), (y288), (0), (t281), (t282), (t283), (t284), (by first | rfl | (simp; done) | (simp [*]; done) | (simp; generalize ByteArray.toList _ = l_; cases l_ <;> rfl)), H', ⟨Nat.le_refl _⟩, ⟨by (with_reducible repeat (first | apply Kd.R_alloc | apply Kd.R_drewN | apply Kd.R_drew)); exact HO287.out⟩, ⟨by (with_reducible repeat (first | apply Kd.S_alloc | apply Kd.S_drewN | apply Kd.S_drew)); exact HO290.out⟩, ⟨z0⟩, ⟨z1⟩, ⟨z2⟩⟩
      case round =>
       clear H'
       try clear c1
       try clear c2
       try clear p2
       try clear c3
       try clear c3b0
       try clear c3b1
       try clear c4
       try clear c4b0
       try clear c8
       try clear c8b0
       try clear c8b1
       try clear c9
       try clear c9b0
       try clear c9b1
       try clear c10
       try clear c10b0
       try clear c10b1
       try clear hcz12_0
       try clear hcz12_1
       try clear hcz12_2
       try clear hcz12_3
       try clear hcz6_0
       try clear hcz6_1
       try clear hcz6_2
       try clear hcz6_3
       try clear hfz12_0
       try clear hfz12_1
       try clear hfz12_2
       try clear hfz12_3
       try clear hfz6_0
       try clear hfz6_1
       try clear hfz6_2
       try clear hfz6_3
       obtain ⟨x6_1, x7_1, x8_1, x1000_1, x1001_1, x1002_1, x1003_1, rfl, HA, HK1, HO_6, HO_7, HI0, HK, HB⟩ := hrel
       cases gk with
       | zero => exact absurd HA.out (by simp [shuttlecockref07_stacks.l0])
       | succ k1 =>
        have H := HA.out
        clear HA
        simp only [shuttlecockref07_stacks.l0] at H
        by_cases c19 : x8_1 < t280
        ·
         rw [if_pos c19] at H
         have c19b0 : decide (x8_1 < t280) = true := decide_eq_true c19
         clear c19
         replace H := ob H
         obtain ⟨⟨t291, t292, t293, t294, t295⟩, A200, H⟩ := H
         (try dsimp only at H)
         have A20 := Am A200
         clear A200
         by_cases c21 : t294 = 0
         ·
          rw [if_pos c21] at H
          have c21b0 : (t294 == 0) = true := beq_iff_eq.mpr c21
          have c21b1 : (t294 != 0) = false := bne_eq_false_iff_eq.mpr c21
          clear c21
          replace H := ob H
          obtain ⟨t296, A220, H⟩ := H
          (try dsimp only at H)
          have A22 := Am A220
          clear A220
          by_cases c23 : t296 = true
          ·
           subst c23
           rw [if_pos rfl] at H
           obtain ⟨ji24, hji24⟩ : ∃ j_ : Int, (wrap64 (t291 - 1)) = j_ := ⟨_, rfl⟩
           replace H : (if 0 ≤ (ji24) then (if (ji24) < (x6_1.length : Int) then ((shuttlecockref07_frames.f k1 t292 t293 t294 t295).bind fun bt298 => (if bt298.2.2.1 = 0 then (if (ji24) < (x7_1.length : Int) then (shuttlecockref07_stacks.l0 k1 t280 (x6_1.set ((ji24) : Int).toNat true) (x7_1.set ((ji24) : Int).toNat bt298.1) (wrap64 (x8_1 + 1)) bt298.2.2.2.1 bt298.2.2.2.2.1 bt298.2.2.2.2.2.1 bt298.2.2.2.2.2.2) else (none)) else (some (([] : List (List (S70))), bt298.2.1, bt298.2.2.1, bt298.2.2.2.1, bt298.2.2.2.2.1, bt298.2.2.2.2.2.1, bt298.2.2.2.2.2.2)))) else (none)) else (none)) = some (r1, r2, r3, r4, r5, r6, r7) := by first | (rw [hji24] at H; exact H) | (simp only [hji24] at H ⊢; exact H)
           (try rw [hji24] at A20)
           (try rw [hji24] at A22)
           have hji24w : (IntKind.i64.wrap (t291 - 1)) = ji24 := (i64_w _).trans hji24
           by_cases c25 : 0 ≤ (ji24)
           ·
            rw [if_pos c25] at H
            have c25b0 : decide (0 ≤ (ji24)) = true := decide_eq_true c25
            clear c25
            by_cases c26 : (ji24) < (x6_1.length : Int)
            ·
             rw [if_pos c26] at H
             have c26b0 : decide ((ji24) < (x6_1.length : Int)) = true := decide_eq_true c26
             clear c26
             obtain ⟨y297, hy297⟩ : ∃ y_ : List Bool, y_ = (x6_1.set ((ji24) : Int).toNat true) := ⟨_, rfl⟩
             replace H : ((shuttlecockref07_frames.f k1 t292 t293 t294 t295).bind fun bt298 => (if bt298.2.2.1 = 0 then (if (ji24) < (x7_1.length : Int) then (shuttlecockref07_stacks.l0 k1 t280 y297 (x7_1.set ((ji24) : Int).toNat bt298.1) (wrap64 (x8_1 + 1)) bt298.2.2.2.1 bt298.2.2.2.2.1 bt298.2.2.2.2.2.1 bt298.2.2.2.2.2.2) else (none)) else (some (([] : List (List (S70))), bt298.2.1, bt298.2.2.1, bt298.2.2.2.1, bt298.2.2.2.2.1, bt298.2.2.2.2.2.1, bt298.2.2.2.2.2.2)))) = some (r1, r2, r3, r4, r5, r6, r7) := by first | (rw [hy297]; with_reducible exact H) | (have H2_ := (Option.bind_some _ _).symm.trans H; rw [hy297]; with_reducible exact H2_) | (have H2_ := (Option.bind_some _ _).symm.trans H; with_reducible exact H2_) | with_reducible exact H | (rw [hy297]; exact H) | exact H
             have Ny297 := Am hy297
             clear hy297
             replace H := ob H
             obtain ⟨⟨t298, t301, t302, t303, t304, t305, t306⟩, A280, H⟩ := H
             (try dsimp only at H)
             have A28 := Am A280
             clear A280
             by_cases c29 : t302 = 0
             ·
              rw [if_pos c29] at H
              have c29b0 : (t302 == 0) = true := beq_iff_eq.mpr c29
              have c29b1 : (t302 != 0) = false := bne_eq_false_iff_eq.mpr c29
              clear c29
              by_cases c30 : (ji24) < (x7_1.length : Int)
              ·
               rw [if_pos c30] at H
               have c30b0 : decide ((ji24) < (x7_1.length : Int)) = true := decide_eq_true c30
               clear c30
               obtain ⟨y307, hy307⟩ : ∃ y_ : List (List (S70)), y_ = (x7_1.set ((ji24) : Int).toNat t298) := ⟨_, rfl⟩
               replace H : (shuttlecockref07_stacks.l0 k1 t280 y297 y307 (wrap64 (x8_1 + 1)) t303 t304 t305 t306) = some (r1, r2, r3, r4, r5, r6, r7) := by first | (rw [hy307]; with_reducible exact H) | (have H2_ := (Option.bind_some _ _).symm.trans H; rw [hy307]; with_reducible exact H2_) | (have H2_ := (Option.bind_some _ _).symm.trans H; with_reducible exact H2_) | with_reducible exact H | (rw [hy307]; exact H) | exact H
               have Ny307 := Am hy307
               clear hy307
               have H' := Am H
               clear H
               go_wp2_with (first | ((with_reducible refine gate_callee (f := 46) rfl ?_); refine Own.gL_ (some 44) Try.func46 (#[.pointer (some ⟨g, 0, none⟩)]) (h := ?_); (with_reducible refine (shuttlecockref02_Reader_Num.calls k1 g x1000_1 x1001_1 x1002_1 x1003_1 t291 t292 t293 t294 t295 w0 _ ?side1 ?side2 A20.out).mono ?_); (case side1 => exact z0); (case side2 => exact z2); rintro e w32 ⟨rfl, hi, hb, hk⟩; refine ⟨_, rfl, ?_⟩; replace HO_6 := Am (Kd.R_mono (Kd.R_keep (IsS53.apart (show IsS53 w0 _ g x1000_1 x1001_1 x1002_1 x1003_1 from z0) (by (with_reducible repeat (first | apply Kd.R_alloc | apply Kd.R_drewN | apply Kd.R_drew)); exact HO_6.out) (by decide)) hk (fun _ h => h.2)) (fun _ h => h.1)); replace HO_7 := Am (Kd.S_mono (Kd.S_keep (IsS53.apartS (show IsS53 w0 _ g x1000_1 x1001_1 x1002_1 x1003_1 from z0) (by (with_reducible repeat (first | apply Kd.S_alloc | apply Kd.S_drewN | apply Kd.S_drew)); exact HO_7.out) (by decide)) hk (fun _ h => h.2)) (fun _ h => h.1)); replace HK := Am (KeepBut.trans (z1) hk (.inl rfl)); replace HB := Am (hb); replace HI0 := Am (hi); (try clear hb); (try clear hb2); (try clear hk); (try clear hi); obtain ⟨HGz33, hgz33⟩ := HI0.out; have hcz33_0 := cellS53_0 HGz33; have hcz33_1 := cellS53_1 HGz33; have hcz33_2 := cellS53_2 HGz33; have hcz33_3 := cellS53_3 HGz33; have hfz33_0 := bf HGz33 0; have hfz33_1 := bf HGz33 1; have hfz33_2 := bf HGz33 2; have hfz33_3 := bf HGz33 3; clear HGz33 hgz33; obtain ⟨Ao34, co34, eo34⟩ := Kd.R_slice HO_6.out; subst eo34) | ((with_reducible refine gate_callee (f := 47) rfl ?_); refine Own.gL_ (some 60) Try.func47 (#[.int .i64 t291, .slice Ao34 x6_1.length co34]) (h := ?_); (with_reducible refine (shuttlecockref07_fresh.calls t291 _ _ x6_1 true _ ?side1 ?side2 A22.out).mono ?_); (case side1 => repeat (first | exact (Kd.R_reads' HO_6.out).2.2 | (with_reducible refine Kd.C_alloc ?_ _) | (with_reducible refine Kd.C_drewN ?_ _) | (with_reducible refine Kd.C_drew ?_))); (case side2 => exact (Kd.R_reads' HO_6.out).2.1); rintro e w' ⟨rfl, ⟨nd, rfl⟩⟩; refine ⟨_, rfl, ?_⟩; (try (rw [drewN_self w32]; generalize hq_ : World.drewN w32 _ = w32; have n0_ : Aside0 (Kd.R Kd.bool 4 w32 w.heap.size (fun _ => True) (.slice Ao34 x6_1.length co34) x6_1) := ⟨by rw [← hq_]; exact (by (with_reducible repeat (first | apply Kd.R_alloc | apply Kd.R_drewN | apply Kd.R_drew)); exact HO_6.out)⟩; have n1_ : Aside0 (Kd.S (Kd.slice 70 k70) 42 w32 w.heap.size (fun _ => True) v289 x7_1) := ⟨by rw [← hq_]; exact (by (with_reducible repeat (first | apply Kd.S_alloc | apply Kd.S_drewN | apply Kd.S_drew)); exact HO_7.out)⟩; have n2_ : Aside0 (IsS53 w0 w32 g t292 t293 t294 t295) := ⟨by rw [← hq_]; exact (z0)⟩; have n3_ : Aside0 (KeepBut w w32 g none) := ⟨by rw [← hq_]; exact (z1)⟩; have n4_ : Aside0 (Below w0.heap.size w0 w32) := ⟨by rw [← hq_]; exact (z2)⟩; clear HO_6 HO_7 HI0 HK HB hq_; have HO_6 := n0_; have HO_7 := n1_; have HI0 := n2_; have HK := n3_; have HB := n4_; clear n0_ n1_ n2_ n3_ n4_)); have p27 : 0 ≤ ((ji24) : Int) := dz; have q27 : ((ji24) : Int) < ((x6_1.length : Int) : Int) := dz; obtain ⟨go27, co27, eo27, gb27, gl27, cl27, HG27⟩ := Kd.R_form HO_6.out (by omega); (first | cases eo27 | (injection eo27 with ea_ en_ ec_; (first | subst ea_ | (injection ea_ with ea_; subst ea_)); subst ec_; clear en_)); have GB27 := Am gb27; have GG27 := Am HG27; clear gb27 gl27 HG27; obtain ⟨hx27_0, hf27_0⟩ := Kd.R_celln false HO_6.out ((ji24) : Int) p27 q27; replace p27 := eq_true p27; replace q27 := eq_true q27; obtain ⟨hy35_, hz35_⟩ := Kd.R_celln false HO_6.out ((ji24) : Int) dz dz; have HP35 := Kd.R_putg HO_6.out ((ji24) : Int) true) | ((with_reducible refine gate_store (t := 4) (p := 69) rfl ?_); refine store_event (t := 4) (p := 69) (v := ?vo_w36) (w1 := (w32.setCell ⟨go27, ((ji24) : Int).toNat, none⟩ (.bool true))) ?hg ?ho ?hn ?hr ?_; (case ho => rfl); (case hg => rfl); (case hn => rfl); (case hr => first | (go_simp; done) | (go_simp; rfl) | (obtain ⟨A_, c_, e_⟩ := Kd.R_slice HO300.out; subst e_; go_simp; done) | (obtain ⟨A_, c_, e_⟩ := Kd.R_slice HO300.out; subst e_; go_simp; rfl)); intro w36 hw; have hg : w32.grownBy w36 (some go27) := (by rw [hw]; exact HP35.2); have hp_ : Kd.R Kd.bool 4 w36 w.heap.size (fun _ => True) (.slice (some ⟨go27, 0, none⟩) x6_1.length co34) y297 := (by rw [hw, Ny297.out]; exact HP35.1); clear HP35; have n0_ := Am (hp_); have n1_ := Am (Kd.S_over' (v := (.slice (some ⟨go27, 0, none⟩) x6_1.length co34)) (by (with_reducible repeat (first | apply Kd.S_alloc | apply Kd.S_drewN | apply Kd.S_drew)); exact HO_7.out) (Kd.R_typed HO_6.out) (by decide) hg); have n2_ := Am (IsS53.grown (show IsS53 w0 _ g t292 t293 t294 t295 from z0) hg (IsS53.own_ne HI0.out HO_6.out (by decide))); have n3_ := Am ((by rw [hw]; exact bs (HB.out) (Nat.le_trans HL.out GB27.out) : Below w0.heap.size w0 w36)); have n4_ := Am (KeepBut.trans (z1) (KeepBut.of_grown hg g) (Kd.R_base2 HO_6.out)); clear HO_6; clear HO_7; clear HI0; clear HB; clear HK; have HO_6 := n0_; have HO_7 := n1_; have HI0 := n2_; have HB := n3_; have HK := n4_; clear n0_ n1_ n2_ n3_ n4_; clear hg hw hp_) | ((with_reducible refine gate_callee (f := 49) rfl ?_); refine Own.gL_ (some 72) Try.func49 (#[.pointer (some ⟨g, 0, none⟩)]) (h := ?_); (with_reducible refine (shuttlecockref07_frames.calls k1 g t292 t293 t294 t295 t298 t301 t302 t303 t304 t305 t306 w0 _ ?side1 ?side2 A28.out).mono ?_); (case side1 => exact z0); (case side2 => exact z2); rintro e w37 ⟨v299, rfl, ho0, hi, hb, hk⟩; refine ⟨_, rfl, ?_⟩; have HO300 := Am (Kd.R_lower ho0 (keep_size (w := w) (g := g) (row := none) (z1))); replace HO_6 := Am (Kd.R_mono (Kd.R_keep (IsS53.apart (show IsS53 w0 _ g t292 t293 t294 t295 from z0) (by (with_reducible repeat (first | apply Kd.R_alloc | apply Kd.R_drewN | apply Kd.R_drew)); exact HO_6.out) (by decide)) hk (fun _ h => h.2)) (fun _ h => h.1)); replace HO_7 := Am (Kd.S_mono (Kd.S_told (Kd.S_oldK (IsS53.apartS (show IsS53 w0 _ g t292 t293 t294 t295 from z0) (by (with_reducible repeat (first | apply Kd.S_alloc | apply Kd.S_drewN | apply Kd.S_drew)); exact HO_7.out) (by decide)) hk) (Kd.R_base ho0)) (fun _ h_ => h_.1)); replace HK := Am (KeepBut.trans (z1) hk (.inl rfl)); replace HB := Am (hb); replace HI0 := Am (hi); (try clear hb); (try clear hb2); (try clear hk); (try clear hi); (try clear ho0); have p31 : 0 ≤ ((ji24) : Int) := dz; have q31 : ((ji24) : Int) < ((x7_1.length : Int) : Int) := dz; obtain ⟨go31, co31, eo31, gb31, gl31, cl31, HG31⟩ := Kd.S_form HO_7.out (by omega); (first | cases eo31 | (injection eo31 with ea_ en_ ec_; (first | subst ea_ | (injection ea_ with ea_; subst ea_)); subst ec_; clear en_)); have GB31 := Am gb31; have GG31 := Am HG31; clear gb31 gl31 HG31; obtain ⟨_, ce31, hcl31, hM31, hcc31, hfr31, _, _⟩ := Kd.S_elem HO_7.out [] ((ji24) : Int) p31 q31; obtain ⟨ve31_0, rfl, ge31_0⟩ := hM31; have hx31_0 := hcc31 0 _ rfl; have hf31_0 := hfr31 0; (try simp only [show ((Kd.slice 70 k70)).sz = 1 from rfl, Nat.mul_one, Nat.add_zero] at hx31_0); (try simp only [show ((Kd.slice 70 k70)).sz = 1 from rfl, Nat.mul_one, Nat.add_zero] at hf31_0); clear hcl31 hcc31 hfr31; (try clear hM31); replace p31 := eq_true p31; replace q31 := eq_true q31; have n_ := Am (Kd.S_mono (ok' := (fun k_ => some k_ ≠ (v299 : Value).ownBlock)) HO_7.out (fun k_ hk => hk.2)); clear HO_7; have HO_7 := n_; clear n_; have HX38 := Am (show Kd.S (Kd.slice 70 k70) 42 w37 w.heap.size (fun k_ => ((fun _ => True)) k_ ∧ ¬ ((fun k_ => some k_ = (v299 : Value).ownBlock)) k_) (.slice (some ⟨go31, 0, none⟩) x7_1.length co31) x7_1 from (by (with_reducible repeat (first | apply Kd.S_alloc | apply Kd.S_drewN | apply Kd.S_drew)); exact Kd.S_mono HO_7.out (fun k_ hk => ⟨trivial, fun e_ => hk e_⟩))); obtain ⟨oki38, ce38, hcl38, hM38, hcc38, hfr38, hoki38, hH38⟩ := Kd.S_elem HX38.out [] ((ji24) : Int) dz (by have h_ : ((ji24) : Int) < ((x7_1.length : Int) : Int) := dz; first | exact h_ | (have e_ := (Kd.S_reads' HO_7.out).1; omega) | simpa using h_); obtain ⟨ve38_0, rfl, ge38_0⟩ := hM38; have HP38 := Kd.S_seg hH38 dz (by have h_ : ((ji24) : Int) < ((x7_1.length : Int) : Int) := dz; first | exact h_ | (have e_ := (Kd.S_reads' HO_7.out).1; omega) | simpa using h_) (seg := [v299]) (j := 0) (show 1 ≤ 1 from by decide) (x' := t298) (Kd.M_row (Kd.R_mono (Kd.R_tight rfl (Kd.R_mono (ok' := fun k_ => ((fun _ => True)) k_ ∧ k_ ≠ go31) (Kd.R_apart' (HO300.out) (Kd.S_typed HO_7.out) (by decide)) (fun k_ hk => ⟨trivial, fun e_ => (hk.2) (by rw [e_]; rfl)⟩))) (fun _ h_ => Or.inr (h_)))) (fun _ hk => hk) (fun k_ hk_ => ((Kd.R_mono (ok' := fun k_ => ((fun _ => True)) k_ ∧ k_ ≠ go31) (Kd.R_apart' (HO300.out) (Kd.S_typed HO_7.out) (by decide)) (fun k_ hk => ⟨trivial, fun e_ => (hk.2) (by rw [e_]; rfl)⟩))).1 k_ hk_.symm); have hx38_0 := hcc38 0 _ rfl; (try simp only [show ((Kd.slice 70 k70)).sz = 1 from rfl, Nat.mul_one, Nat.add_zero] at hx38_0); have hf38_0 := hfr38 0; (try simp only [show ((Kd.slice 70 k70)).sz = 1 from rfl, Nat.mul_one, Nat.add_zero] at hf38_0); clear hcl38 hcc38 hfr38; (try clear hM38); clear hoki38 hH38; (try simp only [show ((Kd.slice 70 k70)).sz = 1 from rfl, Nat.mul_one, Nat.add_zero] at HP38)) | ((with_reducible refine gate_store (t := 42) (p := 84) rfl ?_); refine store_event (t := 42) (p := 84) (v := ?vo_w39) (w1 := (w37.setCell ⟨go31, ((ji24) : Int).toNat, none⟩ (v299))) ?hg ?ho ?hn ?hr ?_; (case ho => rfl); (case hg => rfl); (case hn => rfl); (case hr => first | (go_simp; done) | (go_simp; rfl) | (obtain ⟨A_, c_, e_⟩ := Kd.R_slice HO300.out; subst e_; go_simp; done) | (obtain ⟨A_, c_, e_⟩ := Kd.R_slice HO300.out; subst e_; go_simp; rfl)); intro w39 hw; have hg : w37.grownBy w39 (some go31) := (by rw [hw]; exact HP38.2); have hp_ : Kd.S (Kd.slice 70 k70) 42 w39 w.heap.size (fun _ => True) (.slice (some ⟨go31, 0, none⟩) x7_1.length co31) y307 := (by rw [hw, Ny307.out]; exact HP38.1); clear HP38; have n0_ := Am (Kd.R_over' (v := (.slice (some ⟨go31, 0, none⟩) x7_1.length co31)) (by (with_reducible repeat (first | apply Kd.R_alloc | apply Kd.R_drewN | apply Kd.R_drew)); exact HO_6.out) (Kd.S_typed HO_7.out) (by decide) hg); have n1_ := Am (hp_); have n2_ := Am (IsS53.grown (show IsS53 w0 _ g t303 t304 t305 t306 from z0) hg (IsS53.own_neS HI0.out HO_7.out (by decide))); have n3_ := Am ((by rw [hw]; exact bs (HB.out) (Nat.le_trans HL.out GB31.out) : Below w0.heap.size w0 w39)); have n4_ := Am (KeepBut.trans (z1) (KeepBut.of_grown hg g) (Kd.S_base2 HO_7.out)); clear HO_6; clear HO_7; clear HI0; clear HB; clear HK; clear HO300; have HO_6 := n0_; have HO_7 := n1_; have HI0 := n2_; have HB := n3_; have HK := n4_; clear n0_ n1_ n2_ n3_ n4_; clear hg hw hp_))
               go_roundg k1
               case measure => have := HK1.out; omega
               case rel => exact ⟨(y297), (y307), (wrap64 (x8_1 + 1)), (t303), (t304), (t305), (t306), (by first | rfl | (simp; done) | (simp [*]; done) | (simp; generalize ByteArray.toList _ = l_; cases l_ <;> rfl)), H', ⟨by have := HK1.out; omega⟩, ⟨by (with_reducible repeat (first | apply Kd.R_alloc | apply Kd.R_drewN | apply Kd.R_drew)); exact HO_6.out⟩, ⟨by (with_reducible repeat (first | apply Kd.S_alloc | apply Kd.S_drewN | apply Kd.S_drew)); exact HO_7.out⟩, ⟨z0⟩, ⟨z1⟩, ⟨z2⟩⟩
              ·
               rw [if_neg c30] at H
               exact absurd H (by simp)
             ·
              rw [if_neg c29] at H
              have c29b0 : (t302 == 0) = false := beq_eq_false_iff_ne.mpr c29
              have c29b1 : (t302 != 0) = true := bne_iff_ne.mpr c29
              simp only [Option.some.injEq, Prod.mk.injEq] at H
              obtain ⟨rfl, rfl, rfl, rfl, rfl, rfl, rfl⟩ := H
              go_wp2_with (first | ((with_reducible refine gate_callee (f := 46) rfl ?_); refine Own.gL_ (some 44) Try.func46 (#[.pointer (some ⟨g, 0, none⟩)]) (h := ?_); (with_reducible refine (shuttlecockref02_Reader_Num.calls k1 g x1000_1 x1001_1 x1002_1 x1003_1 t291 t292 t293 t294 t295 w0 _ ?side1 ?side2 A20.out).mono ?_); (case side1 => exact z0); (case side2 => exact z2); rintro e w40 ⟨rfl, hi, hb, hk⟩; refine ⟨_, rfl, ?_⟩; replace HO_6 := Am (Kd.R_mono (Kd.R_keep (IsS53.apart (show IsS53 w0 _ g x1000_1 x1001_1 x1002_1 x1003_1 from z0) (by (with_reducible repeat (first | apply Kd.R_alloc | apply Kd.R_drewN | apply Kd.R_drew)); exact HO_6.out) (by decide)) hk (fun _ h => h.2)) (fun _ h => h.1)); replace HO_7 := Am (Kd.S_mono (Kd.S_keep (IsS53.apartS (show IsS53 w0 _ g x1000_1 x1001_1 x1002_1 x1003_1 from z0) (by (with_reducible repeat (first | apply Kd.S_alloc | apply Kd.S_drewN | apply Kd.S_drew)); exact HO_7.out) (by decide)) hk (fun _ h => h.2)) (fun _ h => h.1)); replace HK := Am (KeepBut.trans (z1) hk (.inl rfl)); replace HB := Am (hb); replace HI0 := Am (hi); (try clear hb); (try clear hb2); (try clear hk); (try clear hi); obtain ⟨HGz41, hgz41⟩ := HI0.out; have hcz41_0 := cellS53_0 HGz41; have hcz41_1 := cellS53_1 HGz41; have hcz41_2 := cellS53_2 HGz41; have hcz41_3 := cellS53_3 HGz41; have hfz41_0 := bf HGz41 0; have hfz41_1 := bf HGz41 1; have hfz41_2 := bf HGz41 2; have hfz41_3 := bf HGz41 3; clear HGz41 hgz41; obtain ⟨Ao42, co42, eo42⟩ := Kd.R_slice HO_6.out; subst eo42) | ((with_reducible refine gate_callee (f := 47) rfl ?_); refine Own.gL_ (some 60) Try.func47 (#[.int .i64 t291, .slice Ao42 x6_1.length co42]) (h := ?_); (with_reducible refine (shuttlecockref07_fresh.calls t291 _ _ x6_1 true _ ?side1 ?side2 A22.out).mono ?_); (case side1 => repeat (first | exact (Kd.R_reads' HO_6.out).2.2 | (with_reducible refine Kd.C_alloc ?_ _) | (with_reducible refine Kd.C_drewN ?_ _) | (with_reducible refine Kd.C_drew ?_))); (case side2 => exact (Kd.R_reads' HO_6.out).2.1); rintro e w' ⟨rfl, ⟨nd, rfl⟩⟩; refine ⟨_, rfl, ?_⟩; (try (rw [drewN_self w40]; generalize hq_ : World.drewN w40 _ = w40; have n0_ : Aside0 (Kd.R Kd.bool 4 w40 w.heap.size (fun _ => True) (.slice Ao42 x6_1.length co42) x6_1) := ⟨by rw [← hq_]; exact (by (with_reducible repeat (first | apply Kd.R_alloc | apply Kd.R_drewN | apply Kd.R_drew)); exact HO_6.out)⟩; have n1_ : Aside0 (Kd.S (Kd.slice 70 k70) 42 w40 w.heap.size (fun _ => True) v289 x7_1) := ⟨by rw [← hq_]; exact (by (with_reducible repeat (first | apply Kd.S_alloc | apply Kd.S_drewN | apply Kd.S_drew)); exact HO_7.out)⟩; have n2_ : Aside0 (IsS53 w0 w40 g t292 t293 t294 t295) := ⟨by rw [← hq_]; exact (z0)⟩; have n3_ : Aside0 (KeepBut w w40 g none) := ⟨by rw [← hq_]; exact (z1)⟩; have n4_ : Aside0 (Below w0.heap.size w0 w40) := ⟨by rw [← hq_]; exact (z2)⟩; clear HO_6 HO_7 HI0 HK HB hq_; have HO_6 := n0_; have HO_7 := n1_; have HI0 := n2_; have HK := n3_; have HB := n4_; clear n0_ n1_ n2_ n3_ n4_)); have p27 : 0 ≤ ((ji24) : Int) := dz; have q27 : ((ji24) : Int) < ((x6_1.length : Int) : Int) := dz; obtain ⟨go27, co27, eo27, gb27, gl27, cl27, HG27⟩ := Kd.R_form HO_6.out (by omega); (first | cases eo27 | (injection eo27 with ea_ en_ ec_; (first | subst ea_ | (injection ea_ with ea_; subst ea_)); subst ec_; clear en_)); have GB27 := Am gb27; have GG27 := Am HG27; clear gb27 gl27 HG27; obtain ⟨hx27_0, hf27_0⟩ := Kd.R_celln false HO_6.out ((ji24) : Int) p27 q27; replace p27 := eq_true p27; replace q27 := eq_true q27; obtain ⟨hy43_, hz43_⟩ := Kd.R_celln false HO_6.out ((ji24) : Int) dz dz; have HP43 := Kd.R_putg HO_6.out ((ji24) : Int) true) | ((with_reducible refine gate_store (t := 4) (p := 69) rfl ?_); refine store_event (t := 4) (p := 69) (v := ?vo_w44) (w1 := (w40.setCell ⟨go27, ((ji24) : Int).toNat, none⟩ (.bool true))) ?hg ?ho ?hn ?hr ?_; (case ho => rfl); (case hg => rfl); (case hn => rfl); (case hr => first | (go_simp; done) | (go_simp; rfl)); intro w44 hw; have hg : w40.grownBy w44 (some go27) := (by rw [hw]; exact HP43.2); have hp_ : Kd.R Kd.bool 4 w44 w.heap.size (fun _ => True) (.slice (some ⟨go27, 0, none⟩) x6_1.length co42) y297 := (by rw [hw, Ny297.out]; exact HP43.1); clear HP43; have n0_ := Am (hp_); have n1_ := Am (Kd.S_over' (v := (.slice (some ⟨go27, 0, none⟩) x6_1.length co42)) (by (with_reducible repeat (first | apply Kd.S_alloc | apply Kd.S_drewN | apply Kd.S_drew)); exact HO_7.out) (Kd.R_typed HO_6.out) (by decide) hg); have n2_ := Am (IsS53.grown (show IsS53 w0 _ g t292 t293 t294 t295 from z0) hg (IsS53.own_ne HI0.out HO_6.out (by decide))); have n3_ := Am ((by rw [hw]; exact bs (HB.out) (Nat.le_trans HL.out GB27.out) : Below w0.heap.size w0 w44)); have n4_ := Am (KeepBut.trans (z1) (KeepBut.of_grown hg g) (Kd.R_base2 HO_6.out)); clear HO_6; clear HO_7; clear HI0; clear HB; clear HK; have HO_6 := n0_; have HO_7 := n1_; have HI0 := n2_; have HB := n3_; have HK := n4_; clear n0_ n1_ n2_ n3_ n4_; clear hg hw hp_) | ((with_reducible refine gate_callee (f := 49) rfl ?_); refine Own.gL_ (some 72) Try.func49 (#[.pointer (some ⟨g, 0, none⟩)]) (h := ?_); (with_reducible refine (shuttlecockref07_frames.calls k1 g t292 t293 t294 t295 t298 t301 t302 t303 t304 t305 t306 w0 _ ?side1 ?side2 A28.out).mono ?_); (case side1 => exact z0); (case side2 => exact z2); rintro e w45 ⟨v299, rfl, ho0, hi, hb, hk⟩; refine ⟨_, rfl, ?_⟩; have HO300 := Am (Kd.R_lower ho0 (keep_size (w := w) (g := g) (row := none) (z1))); replace HO_6 := Am (Kd.R_mono (Kd.R_keep (IsS53.apart (show IsS53 w0 _ g t292 t293 t294 t295 from z0) (by (with_reducible repeat (first | apply Kd.R_alloc | apply Kd.R_drewN | apply Kd.R_drew)); exact HO_6.out) (by decide)) hk (fun _ h => h.2)) (fun _ h => h.1)); replace HO_7 := Am (Kd.S_mono (Kd.S_told (Kd.S_oldK (IsS53.apartS (show IsS53 w0 _ g t292 t293 t294 t295 from z0) (by (with_reducible repeat (first | apply Kd.S_alloc | apply Kd.S_drewN | apply Kd.S_drew)); exact HO_7.out) (by decide)) hk) (Kd.R_base ho0)) (fun _ h_ => h_.1)); replace HK := Am (KeepBut.trans (z1) hk (.inl rfl)); replace HB := Am (hb); replace HI0 := Am (hi); (try clear hb); (try clear hb2); (try clear hk); (try clear hi); (try clear ho0)))
              go_ret3
              exact ⟨_, by first | rfl | (simp [errW_none, errW_some] <;> rfl) | (simp only [← hji24]; first | rfl | (simp [errW_none, errW_some] <;> rfl)) | (simp [*, errW_none, errW_some] <;> rfl) | (simp [Aid.ne_nil, Aid.eq_nil, errW_none, errW_some]; done), by first | exact Kd.S_nil _ _ _ _ _ | exact Kd.N_nil _ _ _ _ _ | exact Kd.V_nil _ _ _ _ _ | exact Kd.Q_nil _ _ _ _ _ | exact Kd.R_nil _ _ _ _ _, z0, z2, z1⟩
            ·
             rw [if_neg c26] at H
             exact absurd H (by simp)
           ·
            rw [if_neg c25] at H
            exact absurd H (by simp)
          ·
           replace c23 := Bool.eq_false_iff.mpr c23
           subst c23
           rw [if_neg (show ¬ (false = true) by decide)] at H
           simp only [Option.some.injEq, Prod.mk.injEq] at H
           obtain ⟨rfl, rfl, rfl, rfl, rfl, rfl, rfl⟩ := H
           try go_wp2_with (first | ((with_reducible refine gate_callee (f := 46) rfl ?_); refine Own.gL_ (some 44) Try.func46 (#[.pointer (some ⟨g, 0, none⟩)]) (h := ?_); (with_reducible refine (shuttlecockref02_Reader_Num.calls k1 g x1000_1 x1001_1 x1002_1 x1003_1 t291 t292 t293 t294 t295 w0 _ ?side1 ?side2 A20.out).mono ?_); (case side1 => exact z0); (case side2 => exact z2); rintro e w46 ⟨rfl, hi, hb, hk⟩; refine ⟨_, rfl, ?_⟩; replace HO_6 := Am (Kd.R_mono (Kd.R_keep (IsS53.apart (show IsS53 w0 _ g x1000_1 x1001_1 x1002_1 x1003_1 from z0) (by (with_reducible repeat (first | apply Kd.R_alloc | apply Kd.R_drewN | apply Kd.R_drew)); exact HO_6.out) (by decide)) hk (fun _ h => h.2)) (fun _ h => h.1)); replace HO_7 := Am (Kd.S_mono (Kd.S_keep (IsS53.apartS (show IsS53 w0 _ g x1000_1 x1001_1 x1002_1 x1003_1 from z0) (by (with_reducible repeat (first | apply Kd.S_alloc | apply Kd.S_drewN | apply Kd.S_drew)); exact HO_7.out) (by decide)) hk (fun _ h => h.2)) (fun _ h => h.1)); replace HK := Am (KeepBut.trans (z1) hk (.inl rfl)); replace HB := Am (hb); replace HI0 := Am (hi); (try clear hb); (try clear hb2); (try clear hk); (try clear hi); obtain ⟨HGz47, hgz47⟩ := HI0.out; have hcz47_0 := cellS53_0 HGz47; have hcz47_1 := cellS53_1 HGz47; have hcz47_2 := cellS53_2 HGz47; have hcz47_3 := cellS53_3 HGz47; have hfz47_0 := bf HGz47 0; have hfz47_1 := bf HGz47 1; have hfz47_2 := bf HGz47 2; have hfz47_3 := bf HGz47 3; clear HGz47 hgz47; obtain ⟨Ao48, co48, eo48⟩ := Kd.R_slice HO_6.out; subst eo48) | ((with_reducible refine gate_callee (f := 47) rfl ?_); refine Own.gL_ (some 60) Try.func47 (#[.int .i64 t291, .slice Ao48 x6_1.length co48]) (h := ?_); (with_reducible refine (shuttlecockref07_fresh.calls t291 _ _ x6_1 false _ ?side1 ?side2 A22.out).mono ?_); (case side1 => repeat (first | exact (Kd.R_reads' HO_6.out).2.2 | (with_reducible refine Kd.C_alloc ?_ _) | (with_reducible refine Kd.C_drewN ?_ _) | (with_reducible refine Kd.C_drew ?_))); (case side2 => exact (Kd.R_reads' HO_6.out).2.1); rintro e w' ⟨rfl, ⟨nd, rfl⟩⟩; refine ⟨_, rfl, ?_⟩))
           (try (rw [drewN_self w46]; generalize hq_ : World.drewN w46 _ = w46; have n0_ : Aside0 (Kd.R Kd.bool 4 w46 w.heap.size (fun _ => True) (.slice Ao48 x6_1.length co48) x6_1) := ⟨by rw [← hq_]; exact (by (with_reducible repeat (first | apply Kd.R_alloc | apply Kd.R_drewN | apply Kd.R_drew)); exact HO_6.out)⟩; have n1_ : Aside0 (Kd.S (Kd.slice 70 k70) 42 w46 w.heap.size (fun _ => True) v289 x7_1) := ⟨by rw [← hq_]; exact (by (with_reducible repeat (first | apply Kd.S_alloc | apply Kd.S_drewN | apply Kd.S_drew)); exact HO_7.out)⟩; have n2_ : Aside0 (IsS53 w0 w46 g t292 t293 t294 t295) := ⟨by rw [← hq_]; exact (z0)⟩; have n3_ : Aside0 (KeepBut w w46 g none) := ⟨by rw [← hq_]; exact (z1)⟩; have n4_ : Aside0 (Below w0.heap.size w0 w46) := ⟨by rw [← hq_]; exact (z2)⟩; clear HO_6 HO_7 HI0 HK HB hq_; have HO_6 := n0_; have HO_7 := n1_; have HI0 := n2_; have HK := n3_; have HB := n4_; clear n0_ n1_ n2_ n3_ n4_))
           replace HO_6 := Am (Kd.R_drew HO_6.out)
           replace HO_7 := Am (Kd.S_drew HO_7.out)
           replace HI0 := Am (IsS53.drew HI0.out)
           replace HK := Am (keep_drew HK.out)
           replace HB := Am (b1 HB.out)
           refine start_ (n := 7) (S := fun w' => w'.cell? ⟨g, 0, none⟩ = some (.string t292) ∧ w'.cell? ⟨g, 1, none⟩ = some (.int .i64 t293) ∧ w'.cell? ⟨g, 2, none⟩ = some (.int .i64 t294) ∧ w'.cell? ⟨g, 3, none⟩ = some (.int .i64 t295)) (ds := []) q17_0 (by kernel_rfl) rfl rfl ⟨(bc (Am HI0.out.1).out 0).trans rfl, (bc (Am HI0.out.1).out 1).trans rfl, (bc (Am HI0.out.1).out 2).trans rfl, (bc (Am HI0.out.1).out 3).trans rfl⟩ (fun hHeld => ?_)
           generalize w46.drew = w49 at HO_6 HO_7 HI0 HK HB hHeld ⊢
           refine pure_ (i := 0) (N := some 62) (v := ?_) (a' := ?_) q17_1 rfl rfl (by kernel_rfl) (fun _ _ _ h => h) (Or.inl ⟨by rfl, ?_⟩) ?_ ?_
           rotate_left
           ·
            intro w'
            go_simp
            with_reducible rfl
           rotate_left
           ·
            simp only [Act.put, sI, sZ, sS, i64_w, i32_w]
            rfl
           refine pure_ (i := 1) (N := some 63) (v := ?_) (a' := ?_) q17_2 rfl rfl (by kernel_rfl) (fun _ _ _ h => h) (Or.inl ⟨by rfl, ?_⟩) ?_ ?_
           rotate_left
           ·
            intro w'
            go_simp
            with_reducible rfl
           rotate_left
           ·
            simp only [Act.put, sI, sZ, sS, i64_w, i32_w]
            rfl
           refine pure_ (i := 2) (N := some 64) (v := ?_) (a' := ?_) q17_3 rfl rfl (by kernel_rfl) (fun _ _ _ h => h) (Or.inl ⟨by rfl, ?_⟩) ?_ ?_
           rotate_left
           ·
            intro w'
            go_simp
            with_reducible rfl
           rotate_left
           ·
            simp only [Act.put, sI, sZ, sS, i64_w, i32_w]
            rfl
           refine pure_ (i := 4) (N := some 2) (v := ?_) (a' := ?_) q17_4 rfl rfl (by kernel_rfl) (fun _ _ _ h => h) (Or.inl ⟨by rfl, ?_⟩) ?_ ?_
           rotate_left
           ·
            intro w'
            go_simp
            with_reducible rfl
           rotate_left
           ·
            simp only [Act.put, sI, sZ, sS, i64_w, i32_w]
            rfl
           refine take_ (i := 3) (N := some 65) (v := ?_) (a' := ?_) q17_5 rfl rfl (by kernel_rfl) (fun _ _ _ h => h) (Or.inl ⟨by rfl, ?_⟩) hHeld ?_ ?_
           rotate_left
           ·
            rintro w' ⟨s0, s1, s2, s3⟩
            go_simp
            with_reducible rfl
           rotate_left
           ·
            simp only [Act.put, sI, sZ, sS, i64_w, i32_w]
            rfl
           refine pure_ (i := 5) (N := some 3) (v := ?_) (a' := ?_) q17_6 rfl rfl (by kernel_rfl) (fun _ _ _ h => h) (Or.inl ⟨by rfl, ?_⟩) ?_ ?_
           rotate_left
           ·
            intro w'
            go_simp
            with_reducible rfl
           rotate_left
           ·
            simp only [Act.put, sI, sZ, sS, i64_w, i32_w]
            rfl
           refine pure_ (i := 6) (N := some 4) (v := ?_) (a' := ?_) q17_7 rfl rfl (by kernel_rfl) (fun _ _ _ h => h) (Or.inl ⟨by rfl, ?_⟩) ?_ ?_
           rotate_left
           ·
            intro w'
            go_simp
            with_reducible rfl
           rotate_left
           ·
            simp only [Act.put, sI, sZ, sS, i64_w, i32_w]
            rfl
           refine done_ (by kernel_rfl) ?_
           try go_wp2
           go_ret3
           exact ⟨_, y1, by first | exact Kd.S_nil _ _ _ _ _ | exact Kd.N_nil _ _ _ _ _ | exact Kd.V_nil _ _ _ _ _ | exact Kd.Q_nil _ _ _ _ _ | exact Kd.R_nil _ _ _ _ _, z0, z2, z1⟩
         ·
          rw [if_neg c21] at H
          have c21b0 : (t294 == 0) = false := beq_eq_false_iff_ne.mpr c21
          have c21b1 : (t294 != 0) = true := bne_iff_ne.mpr c21
          simp only [Option.some.injEq, Prod.mk.injEq] at H
          obtain ⟨rfl, rfl, rfl, rfl, rfl, rfl, rfl⟩ := H
          try go_wp2_with (first | ((with_reducible refine gate_callee (f := 46) rfl ?_); refine Own.gL_ (some 44) Try.func46 (#[.pointer (some ⟨g, 0, none⟩)]) (h := ?_); (with_reducible refine (shuttlecockref02_Reader_Num.calls k1 g x1000_1 x1001_1 x1002_1 x1003_1 t291 t292 t293 t294 t295 w0 _ ?side1 ?side2 A20.out).mono ?_); (case side1 => exact z0); (case side2 => exact z2); rintro e w50 ⟨rfl, hi, hb, hk⟩; refine ⟨_, rfl, ?_⟩; replace HO_6 := Am (Kd.R_mono (Kd.R_keep (IsS53.apart (show IsS53 w0 _ g x1000_1 x1001_1 x1002_1 x1003_1 from z0) (by (with_reducible repeat (first | apply Kd.R_alloc | apply Kd.R_drewN | apply Kd.R_drew)); exact HO_6.out) (by decide)) hk (fun _ h => h.2)) (fun _ h => h.1)); replace HO_7 := Am (Kd.S_mono (Kd.S_keep (IsS53.apartS (show IsS53 w0 _ g x1000_1 x1001_1 x1002_1 x1003_1 from z0) (by (with_reducible repeat (first | apply Kd.S_alloc | apply Kd.S_drewN | apply Kd.S_drew)); exact HO_7.out) (by decide)) hk (fun _ h => h.2)) (fun _ h => h.1)); replace HK := Am (KeepBut.trans (z1) hk (.inl rfl)); replace HB := Am (hb); replace HI0 := Am (hi); (try clear hb); (try clear hb2); (try clear hk); (try clear hi); obtain ⟨HGz51, hgz51⟩ := HI0.out; have hcz51_0 := cellS53_0 HGz51; have hcz51_1 := cellS53_1 HGz51; have hcz51_2 := cellS53_2 HGz51; have hcz51_3 := cellS53_3 HGz51; have hfz51_0 := bf HGz51 0; have hfz51_1 := bf HGz51 1; have hfz51_2 := bf HGz51 2; have hfz51_3 := bf HGz51 3; clear HGz51 hgz51))
          replace HO_6 := Am (Kd.R_drew HO_6.out)
          replace HO_7 := Am (Kd.S_drew HO_7.out)
          replace HI0 := Am (IsS53.drew HI0.out)
          replace HK := Am (keep_drew HK.out)
          replace HB := Am (b1 HB.out)
          refine start_ (n := 11) (S := fun w' => w'.cell? ⟨g, 0, none⟩ = some (.string t292) ∧ w'.cell? ⟨g, 1, none⟩ = some (.int .i64 t293) ∧ w'.cell? ⟨g, 2, none⟩ = some (.int .i64 t294) ∧ w'.cell? ⟨g, 3, none⟩ = some (.int .i64 t295)) (ds := []) q17_17 (by kernel_rfl) rfl rfl ⟨(bc (Am HI0.out.1).out 0).trans rfl, (bc (Am HI0.out.1).out 1).trans rfl, (bc (Am HI0.out.1).out 2).trans rfl, (bc (Am HI0.out.1).out 3).trans rfl⟩ (fun hHeld => ?_); refine with_tabW shuttlecockref07_stacks.tab12 shuttlecockref07_stacks.bits12 (fun HT_ HW_ => ?_)
          generalize w50.drew = w52 at HO_6 HO_7 HI0 HK HB hHeld ⊢
          refine Own.pr_ 0 (some 50) q17_18 HT_ (h := ?_)
          refine Own.pr_ 1 (some 51) q17_19 HT_ (h := ?_)
          refine Own.pr_ 2 (some 52) q17_20 HT_ (h := ?_)
          refine Own.pr_ 4 (some 54) q17_21 HT_ (h := ?_)
          refine Own.pr_ 5 (some 55) q17_22 HT_ (h := ?_)
          refine Own.pr_ 6 (some 56) q17_23 HT_ (h := ?_)
          refine Own.pr_ 8 (some 2) q17_24 HT_ (h := ?_)
          refine Own.tk_ 3 (some 53) q17_25 HT_ HW_ hHeld (hy := by rintro w' ⟨s0, s1, s2, s3⟩; go_simp; with_reducible rfl) (h := ?_)
          refine Own.pr_ 9 (some 3) q17_26 HT_ (h := ?_)
          refine Own.tk_ 7 (some 57) q17_27 HT_ HW_ hHeld (hy := by rintro w' ⟨s0, s1, s2, s3⟩; go_simp; with_reducible rfl) (h := ?_)
          refine Own.pr_ 10 (some 4) q17_28 HT_ (h := ?_)
          refine done_ (done_of HT_.out (by kernel_rfl)) ?_
          try go_wp2
          go_ret3
          exact ⟨_, y1, by first | exact Kd.S_nil _ _ _ _ _ | exact Kd.N_nil _ _ _ _ _ | exact Kd.V_nil _ _ _ _ _ | exact Kd.Q_nil _ _ _ _ _ | exact Kd.R_nil _ _ _ _ _, z0, z2, z1⟩
        ·
         rw [if_neg c19] at H
         have c19b0 : decide (x8_1 < t280) = false := decide_eq_false c19
         clear c19
         simp only [Option.some.injEq, Prod.mk.injEq] at H
         obtain ⟨rfl, rfl, rfl, rfl, rfl, rfl, rfl⟩ := H
         go_wp2
         go_ret3
         exact ⟨_, y1, by (with_reducible repeat (first | apply Kd.S_alloc | apply Kd.S_drewN | apply Kd.S_drew)); exact HO_7.out, z0, z2, z1⟩
     ·
      rw [if_neg c10] at H
      exact absurd H (by simp)
    ·
     rw [if_neg c9] at H
     exact absurd H (by simp)
   ·
    rw [if_neg c8] at H
    exact absurd H (by simp)
 ·
  rw [if_neg c3] at H
  have c3b0 : (t283 == 0) = false := beq_eq_false_iff_ne.mpr c3
  have c3b1 : (t283 != 0) = true := bne_iff_ne.mpr c3
  simp only [Option.some.injEq, Prod.mk.injEq] at H
  obtain ⟨rfl, rfl, rfl, rfl, rfl, rfl, rfl⟩ := H
  go_enter Try.func24, Try.ntmps24
  try go_wp2_with (first | ((with_reducible refine gate_callee (f := 46) rfl ?_); refine Own.gL_ (some 14) Try.func46 (#[.pointer (some ⟨g, 0, none⟩)]) (h := ?_); (with_reducible refine (shuttlecockref02_Reader_Num.calls k g s0_0 s0_1 s0_2 s0_3 t280 t281 t282 t283 t284 w0 _ ?side1 ?side2 A2.out).mono ?_); (case side1 => exact z0); (case side2 => exact z2); rintro e w53 ⟨rfl, hi, hb, hk⟩; refine ⟨_, rfl, ?_⟩; replace HK := Am (KeepBut.trans (z1) hk (.inl rfl)); replace HB := Am (hb); replace HI0 := Am (hi); (try clear hb); (try clear hb2); (try clear hk); (try clear hi); obtain ⟨HGz54, hgz54⟩ := HI0.out; have hcz54_0 := cellS53_0 HGz54; have hcz54_1 := cellS53_1 HGz54; have hcz54_2 := cellS53_2 HGz54; have hcz54_3 := cellS53_3 HGz54; have hfz54_0 := bf HGz54 0; have hfz54_1 := bf HGz54 1; have hfz54_2 := bf HGz54 2; have hfz54_3 := bf HGz54 3; clear HGz54 hgz54))
  replace HI0 := Am (IsS53.drew HI0.out)
  replace HK := Am (keep_drew HK.out)
  replace HB := Am (b1 HB.out)
  refine start_ (n := 11) (S := fun w' => w'.cell? ⟨g, 0, none⟩ = some (.string t281) ∧ w'.cell? ⟨g, 1, none⟩ = some (.int .i64 t282) ∧ w'.cell? ⟨g, 2, none⟩ = some (.int .i64 t283) ∧ w'.cell? ⟨g, 3, none⟩ = some (.int .i64 t284)) (ds := []) q17_17 (by kernel_rfl) rfl rfl ⟨(bc (Am HI0.out.1).out 0).trans rfl, (bc (Am HI0.out.1).out 1).trans rfl, (bc (Am HI0.out.1).out 2).trans rfl, (bc (Am HI0.out.1).out 3).trans rfl⟩ (fun hHeld => ?_); refine with_tabW shuttlecockref07_stacks.tab3 shuttlecockref07_stacks.bits3 (fun HT_ HW_ => ?_)
  generalize w53.drew = w55 at HI0 HK HB hHeld ⊢
  refine Own.pr_ 0 (some 20) q17_18 HT_ (h := ?_)
  refine Own.pr_ 1 (some 21) q17_19 HT_ (h := ?_)
  refine Own.pr_ 2 (some 22) q17_20 HT_ (h := ?_)
  refine Own.pr_ 4 (some 24) q17_21 HT_ (h := ?_)
  refine Own.pr_ 5 (some 25) q17_22 HT_ (h := ?_)
  refine Own.pr_ 6 (some 26) q17_23 HT_ (h := ?_)
  refine Own.pr_ 8 (some 2) q17_24 HT_ (h := ?_)
  refine Own.tk_ 3 (some 23) q17_25 HT_ HW_ hHeld (hy := by rintro w' ⟨s0, s1, s2, s3⟩; go_simp; with_reducible rfl) (h := ?_)
  refine Own.pr_ 9 (some 3) q17_26 HT_ (h := ?_)
  refine Own.tk_ 7 (some 27) q17_27 HT_ HW_ hHeld (hy := by rintro w' ⟨s0, s1, s2, s3⟩; go_simp; with_reducible rfl) (h := ?_)
  refine Own.pr_ 10 (some 4) q17_28 HT_ (h := ?_)
  refine done_ (done_of HT_.out (by kernel_rfl)) ?_
  try go_wp2
  go_ret3
  exact ⟨_, y1, by first | exact Kd.S_nil _ _ _ _ _ | exact Kd.N_nil _ _ _ _ _ | exact Kd.V_nil _ _ _ _ _ | exact Kd.Q_nil _ _ _ _ _ | exact Kd.R_nil _ _ _ _ _, z0, z2, z1⟩

end Go.Proofs.Ytlmmlmmbnfcogaa.Q
