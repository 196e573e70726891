-- printed by a program of this session (NOTES: hprint); not the kit's print
-- minified3
-- minified2
-- minified
-- halved
import Derived.Test.YtlmmlmmbnfcogaaOg
import Derived.Test.YtlmmlmmbnfcogaaAl
import Derived.Test.YtlmmlmmbnfcogaaQx0
import Derived.Test.YtlmmlmmbnfcogaaQx2
import Derived.Test.YtlmmlmmbnfcogaaQx3
namespace Go.Proofs.Ytlmmlmmbnfcogaa.Q
open Go.RowKit Go.Proofs.YtlmmlmmbnfcogaaW.PrintWords Go.Proofs.YtlmmlmmbnfcogaaW.PrintLast Go.Proofs.YtlmmlmmbnfcogaaW.PrintMore
attribute [local go_sem] max2_int min2_int max_two min_two max_three min_three max_four min_four   -- for this text's walks alone
set_option linter.unusedVariables false
set_option linter.unusedSimpArgs false

def q4_0 : Array Bool := let o := true; let z := false; #[z,z,z,z,z,z,z]
def q4_1 : Array Bool := let o := true; let z := false; #[o,z,z,z,z,z,z]
def q4_2 : Array Bool := let o := true; let z := false; #[o,z,o,z,z,z,z]
def q4_3 : Array Bool := let o := true; let z := false; #[o,o,o,z,z,z,z]
def q4_4 : Array Bool := let o := true; let z := false; #[o,o,o,o,z,z,z]
def q4_5 : Array Bool := let o := true; let z := false; #[o,o,o,o,o,z,z]
def q4_6 : Array Bool := let o := true; let z := false; #[o,o,o,o,o,o,z]
def q4_7 : Array Bool := let o := true; let z := false; #[o,o,o,o,o,o,o]
/-! ### wire_Reader_take: function 65 -/
def wire_Reader_take.f (s0_0 : ByteArray) (s0_1 : Int) (s0_2 : Int) (s0_3 : Int) (a1 : Int) (a2 : Int) : Option (ByteArray × ByteArray × Int × Int × Int) := if a1 < 0 then ((wire_Reader_fail.f s0_0 s0_1 s0_2 s0_3 1 a2).bind fun bt117 => (some ((⟨#[]⟩ : ByteArray), bt117.1, bt117.2.1, bt117.2.2.1, bt117.2.2.2))) else (if a1 > (wrap64 ((s0_0.size : Int) - s0_1)) then ((wire_Reader_fail.f s0_0 s0_1 s0_2 s0_3 10 a2).bind fun bt121 => (some ((⟨#[]⟩ : ByteArray), bt121.1, bt121.2.1, bt121.2.2.1, bt121.2.2.2))) else (if 0 ≤ s0_1 then (if s0_1 ≤ (wrap64 (s0_1 + a1)) then (if (wrap64 (s0_1 + a1)) ≤ (s0_0.size : Int) then (some (s0_0.extract (s0_1 : Int).toNat ((wrap64 (s0_1 + a1)) : Int).toNat, s0_0, wrap64 (s0_1 + a1), s0_2, s0_3)) else (none)) else (none)) else (none)))
set_option maxHeartbeats 8000000 in
set_option maxRecDepth 100000 in
theorem wire_Reader_take.calls (g : Nat) (s0_0 : ByteArray) (s0_1 : Int) (s0_2 : Int) (s0_3 : Int) (a1 : Int) (a2 : Int) (r1 : ByteArray) (r2 : ByteArray) (r3 : Int) (r4 : Int) (r5 : Int) (w0 w : World) (hI : IsS77 w0 w g s0_0 s0_1 s0_2 s0_3) (hB : Below w0.heap.size w0 w) (h : wire_Reader_take.f s0_0 s0_1 s0_2 s0_3 a1 a2 = some (r1, r2, r3, r4, r5)) :
  Calls Try.prog 65 #[.pointer (some ⟨g, 0, none⟩), .int .i64 a1, .int .i64 a2] w fun e w' => e = .returned (.string r1) ∧ IsS77 w0 w' g r2 r3 r4 r5 ∧ Below w0.heap.size w0 w' ∧ KeepBut w w' g none := by
 have HI0 := Am hI
 have HK := Am (KeepBut.refl w g none)
 have HL := Am hB.size
 clear hI
 have HW0 := Am hB.size
 have HB := Am hB
 clear hB
 have H : (if a1 < 0 then ((wire_Reader_fail.f s0_0 s0_1 s0_2 s0_3 1 a2).bind fun bt117 => (some ((⟨#[]⟩ : ByteArray), bt117.1, bt117.2.1, bt117.2.2.1, bt117.2.2.2))) else (if a1 > (wrap64 ((s0_0.size : Int) - s0_1)) then ((wire_Reader_fail.f s0_0 s0_1 s0_2 s0_3 10 a2).bind fun bt121 => (some ((⟨#[]⟩ : ByteArray), bt121.1, bt121.2.1, bt121.2.2.1, bt121.2.2.2))) else (if 0 ≤ s0_1 then (if s0_1 ≤ (wrap64 (s0_1 + a1)) then (if (wrap64 (s0_1 + a1)) ≤ (s0_0.size : Int) then (some (s0_0.extract (s0_1 : Int).toNat ((wrap64 (s0_1 + a1)) : Int).toNat, s0_0, wrap64 (s0_1 + a1), s0_2, s0_3)) else (none)) else (none)) else (none)))) = some (r1, r2, r3, r4, r5) := h
 clear h
 by_cases c4 : a1 < 0
 ·
  rw [if_pos c4] at H
  have c4b0 : decide (a1 < 0) = true := decide_eq_true c4
  clear c4
  replace H := ob H
  obtain ⟨⟨t117, t118, t119, t120⟩, A50, H⟩ := H
  (try dsimp only at H)
  have A5 := Am A50
  clear A50
  simp only [Option.some.injEq, Prod.mk.injEq] at H
  obtain ⟨rfl, rfl, rfl, rfl, rfl⟩ := H
  go_enter Try.func65, Try.ntmps65
  go_wp2_with (first | (go_at_call 69; (with_reducible refine (wire_Reader_fail.calls g s0_0 s0_1 s0_2 s0_3 1 a2 t117 t118 t119 t120 w0 _ ?side1 ?side2 A5.out).mono ?_); (case side1 => exact z4); (case side2 => exact z5); rintro e w6 ⟨rfl, hi, hb, hk⟩; replace HK := Am (KeepBut.trans (z1) hk (.inl rfl)); replace HB := Am (hb); replace HI0 := Am (hi); (try clear hb); (try clear hb2); (try clear hk); (try clear hi)))
  repeat (go_quiet (first | (go_at_call 69; (with_reducible refine (wire_Reader_fail.calls g s0_0 s0_1 s0_2 s0_3 1 a2 t117 t118 t119 t120 w0 _ ?side1 ?side2 A5.out).mono ?_); (case side1 => exact z4); (case side2 => exact z5); rintro e w6 ⟨rfl, hi, hb, hk⟩; replace HK := Am (KeepBut.trans (z1) hk (.inl rfl)); replace HB := Am (hb); replace HI0 := Am (hi); (try clear hb); (try clear hb2); (try clear hk); (try clear hi))); try go_wp2_with (first | (go_at_call 69; (with_reducible refine (wire_Reader_fail.calls g s0_0 s0_1 s0_2 s0_3 1 a2 t117 t118 t119 t120 w0 _ ?side1 ?side2 A5.out).mono ?_); (case side1 => exact z4); (case side2 => exact z5); rintro e w6 ⟨rfl, hi, hb, hk⟩; replace HK := Am (KeepBut.trans (z1) hk (.inl rfl)); replace HB := Am (hb); replace HI0 := Am (hi); (try clear hb); (try clear hb2); (try clear hk); (try clear hi))))
  go_ret
  exact ⟨y0, z4, z5, z1⟩
 ·
  rw [if_neg c4] at H
  have c4b0 : decide (a1 < 0) = false := decide_eq_false c4
  clear c4
  by_cases c7 : a1 > (wrap64 ((s0_0.size : Int) - s0_1))
  ·
   rw [if_pos c7] at H
   have c7b0 : decide ((wrap64 ((s0_0.size : Int) - s0_1)) < a1) = true := decide_eq_true c7
   clear c7
   replace H := ob H
   obtain ⟨⟨t121, t122, t123, t124⟩, A80, H⟩ := H
   (try dsimp only at H)
   have A8 := Am A80
   clear A80
   simp only [Option.some.injEq, Prod.mk.injEq] at H
   obtain ⟨rfl, rfl, rfl, rfl, rfl⟩ := H
   obtain ⟨HGz9, hgz9⟩ := HI0.out
   have hcz9_0 := cellS77_0 HGz9
   have hcz9_1 := cellS77_1 HGz9
   have hcz9_2 := cellS77_2 HGz9
   have hcz9_3 := cellS77_3 HGz9
   have hfz9_0 := bf HGz9 0
   have hfz9_1 := bf HGz9 1
   have hfz9_2 := bf HGz9 2
   have hfz9_3 := bf HGz9 3
   clear HGz9 hgz9
   go_enter Try.func65, Try.ntmps65
   go_wp2_with (first | (go_at_call 69; (with_reducible refine (wire_Reader_fail.calls g s0_0 s0_1 s0_2 s0_3 10 a2 t121 t122 t123 t124 w0 _ ?side1 ?side2 A8.out).mono ?_); (case side1 => exact z4); (case side2 => exact z5); rintro e w10 ⟨rfl, hi, hb, hk⟩; replace HK := Am (KeepBut.trans (z1) hk (.inl rfl)); replace HB := Am (hb); replace HI0 := Am (hi); (try clear hb); (try clear hb2); (try clear hk); (try clear hi)))
   repeat (go_quiet (first | (go_at_call 69; (with_reducible refine (wire_Reader_fail.calls g s0_0 s0_1 s0_2 s0_3 10 a2 t121 t122 t123 t124 w0 _ ?side1 ?side2 A8.out).mono ?_); (case side1 => exact z4); (case side2 => exact z5); rintro e w10 ⟨rfl, hi, hb, hk⟩; replace HK := Am (KeepBut.trans (z1) hk (.inl rfl)); replace HB := Am (hb); replace HI0 := Am (hi); (try clear hb); (try clear hb2); (try clear hk); (try clear hi))); try go_wp2_with (first | (go_at_call 69; (with_reducible refine (wire_Reader_fail.calls g s0_0 s0_1 s0_2 s0_3 10 a2 t121 t122 t123 t124 w0 _ ?side1 ?side2 A8.out).mono ?_); (case side1 => exact z4); (case side2 => exact z5); rintro e w10 ⟨rfl, hi, hb, hk⟩; replace HK := Am (KeepBut.trans (z1) hk (.inl rfl)); replace HB := Am (hb); replace HI0 := Am (hi); (try clear hb); (try clear hb2); (try clear hk); (try clear hi))))
   go_ret
   exact ⟨y0, z4, z5, z1⟩
  ·
   rw [if_neg c7] at H
   have c7b0 : decide ((wrap64 ((s0_0.size : Int) - s0_1)) < a1) = false := decide_eq_false c7
   clear c7
   by_cases c11 : 0 ≤ s0_1
   ·
    rw [if_pos c11] at H
    have c11b0 := eq_true c11
    have c11b1 : decide (0 ≤ s0_1) = true := decide_eq_true c11
    clear c11
    by_cases c12 : s0_1 ≤ (wrap64 (s0_1 + a1))
    ·
     rw [if_pos c12] at H
     have c12b0 := eq_true c12
     have c12b1 : decide (s0_1 ≤ (wrap64 (s0_1 + a1))) = true := decide_eq_true c12
     by_cases c13 : (wrap64 (s0_1 + a1)) ≤ (s0_0.size : Int)
     ·
      rw [if_pos c13] at H
      have c13b0 := eq_true c13
      have c13b1 : decide ((wrap64 (s0_1 + a1)) ≤ (s0_0.size : Int)) = true := decide_eq_true c13
      simp only [Option.some.injEq, Prod.mk.injEq] at H
      obtain ⟨rfl, rfl, rfl, rfl, rfl⟩ := H
      obtain ⟨HGz14, hgz14⟩ := HI0.out
      have hcz14_0 := cellS77_0 HGz14
      have hcz14_1 := cellS77_1 HGz14
      have hcz14_2 := cellS77_2 HGz14
      have hcz14_3 := cellS77_3 HGz14
      have hfz14_0 := bf HGz14 0
      have hfz14_1 := bf HGz14 1
      have hfz14_2 := bf HGz14 2
      have hfz14_3 := bf HGz14 3
      clear HGz14 hgz14
      go_enter Try.func65, Try.ntmps65
      go_wp2
      repeat (go_quiet (fail); try go_wp2)
      go_ret
      exact ⟨y0, z4, z5, z1⟩
     ·
      rw [if_neg c13] at H
      exact absurd H (by simp)
    ·
     rw [if_neg c12] at H
     exact absurd H (by simp)
   ·
    rw [if_neg c11] at H
    exact absurd H (by simp)

/-! ### wire_Reader_Text: function 55 -/
def wire_Reader_Text.f (k : Nat) (s0_0 : ByteArray) (s0_1 : Int) (s0_2 : Int) (s0_3 : Int) : Option (ByteArray × ByteArray × Int × Int × Int) := (wire_Reader_ok.f s0_0 s0_1 s0_2 s0_3).bind fun bt125 => (if bt125.1 = true then ((wire_Reader_Num.f k bt125.2.1 bt125.2.2.1 bt125.2.2.2.1 bt125.2.2.2.2).bind fun bt130 => ((wire_Reader_ok.f bt130.2.1 bt130.2.2.1 bt130.2.2.2.1 bt130.2.2.2.2).bind fun bt135 => (if bt135.1 = true then ((wire_Reader_take.f bt135.2.1 bt135.2.2.1 bt135.2.2.2.1 bt135.2.2.2.2 bt130.1 bt125.2.2.1).bind fun bt140 => (some (bt140.1, bt140.2.1, bt140.2.2.1, bt140.2.2.2.1, bt140.2.2.2.2))) else (some ((⟨#[]⟩ : ByteArray), bt135.2.1, bt135.2.2.1, bt135.2.2.2.1, bt135.2.2.2.2))))) else (some ((⟨#[]⟩ : ByteArray), bt125.2.1, bt125.2.2.1, bt125.2.2.2.1, bt125.2.2.2.2)))
theorem wire_Reader_Text.mono : ∀ a0 a1 a2 a3 k, LeO (wire_Reader_Text.f k a0 a1 a2 a3) (wire_Reader_Text.f (k + 1) a0 a1 a2 a3) := by
 intro a0 a1 a2 a3 k
 unfold wire_Reader_Text.f
 repeat' first
   | (with_reducible exact wire_Reader_Num.mono _ _ _ _ _)
   | (with_reducible exact LeO.refl _)
   | (with_reducible exact LeO.none _)
   | (with_reducible refine LeO.ite ?_ ?_)
   | (with_reducible refine LeO.bind ?_ (fun _ => ?_))
   | exact LeO.none _
   | refine LeO.ite ?_ ?_
   | refine LeO.bind ?_ (fun _ => ?_)
set_option maxHeartbeats 8000000 in
set_option maxRecDepth 100000 in
theorem wire_Reader_Text.calls (k : Nat) (g : Nat) (s0_0 : ByteArray) (s0_1 : Int) (s0_2 : Int) (s0_3 : Int) (r1 : ByteArray) (r2 : ByteArray) (r3 : Int) (r4 : Int) (r5 : Int) (w0 w : World) (hI : IsS77 w0 w g s0_0 s0_1 s0_2 s0_3) (hB : Below w0.heap.size w0 w) (h : wire_Reader_Text.f k s0_0 s0_1 s0_2 s0_3 = some (r1, r2, r3, r4, r5)) :
  Calls Try.prog 55 #[.pointer (some ⟨g, 0, none⟩)] w fun e w' => e = .returned (.string r1) ∧ IsS77 w0 w' g r2 r3 r4 r5 ∧ Below w0.heap.size w0 w' ∧ KeepBut w w' g none := by
 have HI0 := Am hI
 have HK := Am (KeepBut.refl w g none)
 have HL := Am hB.size
 clear hI
 have HW0 := Am hB.size
 have HB := Am hB
 clear hB
 have H : ((wire_Reader_ok.f s0_0 s0_1 s0_2 s0_3).bind fun bt125 => (if bt125.1 = true then ((wire_Reader_Num.f k bt125.2.1 bt125.2.2.1 bt125.2.2.2.1 bt125.2.2.2.2).bind fun bt130 => ((wire_Reader_ok.f bt130.2.1 bt130.2.2.1 bt130.2.2.2.1 bt130.2.2.2.2).bind fun bt135 => (if bt135.1 = true then ((wire_Reader_take.f bt135.2.1 bt135.2.2.1 bt135.2.2.2.1 bt135.2.2.2.2 bt130.1 bt125.2.2.1).bind fun bt140 => (some (bt140.1, bt140.2.1, bt140.2.2.1, bt140.2.2.2.1, bt140.2.2.2.2))) else (some ((⟨#[]⟩ : ByteArray), bt135.2.1, bt135.2.2.1, bt135.2.2.2.1, bt135.2.2.2.2))))) else (some ((⟨#[]⟩ : ByteArray), bt125.2.1, bt125.2.2.1, bt125.2.2.2.1, bt125.2.2.2.2)))) = some (r1, r2, r3, r4, r5) := h
 clear h
 replace H := ob H
 obtain ⟨⟨t125, t126, t127, t128, t129⟩, A20, H⟩ := H
 (try dsimp only at H)
 have A2 := Am A20
 clear A20
 by_cases c3 : t125 = true
 ·
  subst c3
  rw [if_pos rfl] at H
  replace H := ob H
  obtain ⟨⟨t130, t131, t132, t133, t134⟩, A40, H⟩ := H
  (try dsimp only at H)
  have A4 := Am A40
  clear A40
  replace H := ob H
  obtain ⟨⟨t135, t136, t137, t138, t139⟩, A50, H⟩ := H
  (try dsimp only at H)
  have A5 := Am A50
  clear A50
  by_cases c6 : t135 = true
  ·
   subst c6
   rw [if_pos rfl] at H
   replace H := ob H
   obtain ⟨⟨t140, t141, t142, t143, t144⟩, A70, H⟩ := H
   (try dsimp only at H)
   have A7 := Am A70
   clear A70
   simp only [Option.some.injEq, Prod.mk.injEq] at H
   obtain ⟨rfl, rfl, rfl, rfl, rfl⟩ := H
   go_enter Try.func55, Try.ntmps55
   go_wp2_with (first | ((with_reducible refine gate_callee (f := 43) rfl ?_); refine Own.gL_ (some 6) Try.func43 (#[.pointer (some ⟨g, 0, none⟩)]) (h := ?_); (with_reducible refine (wire_Reader_ok.calls g s0_0 s0_1 s0_2 s0_3 true t126 t127 t128 t129 w0 _ ?side1 ?side2 A2.out).mono ?_); (case side1 => exact z4); (case side2 => exact z5); rintro e w8 ⟨rfl, hi, hb, hk⟩; refine ⟨_, rfl, ?_⟩; replace HK := Am (KeepBut.trans (z1) hk (.inl rfl)); replace HB := Am (hb); replace HI0 := Am (hi); (try clear hb); (try clear hb2); (try clear hk); (try clear hi); obtain ⟨HGz9, hgz9⟩ := HI0.out; have hcz9_0 := cellS77_0 HGz9; have hcz9_1 := cellS77_1 HGz9; have hcz9_2 := cellS77_2 HGz9; have hcz9_3 := cellS77_3 HGz9; have hfz9_0 := bf HGz9 0; have hfz9_1 := bf HGz9 1; have hfz9_2 := bf HGz9 2; have hfz9_3 := bf HGz9 3; clear HGz9 hgz9) | ((with_reducible refine gate_callee (f := 63) rfl ?_); refine Own.gL_ (some 13) Try.func63 (#[.pointer (some ⟨g, 0, none⟩)]) (h := ?_); (with_reducible refine (wire_Reader_Num.calls k g t126 t127 t128 t129 t130 t131 t132 t133 t134 w0 _ ?side1 ?side2 A4.out).mono ?_); (case side1 => exact z4); (case side2 => exact z5); rintro e w10 ⟨rfl, hi, hb, hk⟩; refine ⟨_, rfl, ?_⟩; replace HK := Am (KeepBut.trans (z1) hk (.inl rfl)); replace HB := Am (hb); replace HI0 := Am (hi); (try clear hb); (try clear hb2); (try clear hk); (try clear hi)) | ((with_reducible refine gate_callee (f := 43) rfl ?_); refine Own.gL_ (some 15) Try.func43 (#[.pointer (some ⟨g, 0, none⟩)]) (h := ?_); (with_reducible refine (wire_Reader_ok.calls g t131 t132 t133 t134 true t136 t137 t138 t139 w0 _ ?side1 ?side2 A5.out).mono ?_); (case side1 => exact z4); (case side2 => exact z5); rintro e w11 ⟨rfl, hi, hb, hk⟩; refine ⟨_, rfl, ?_⟩; replace HK := Am (KeepBut.trans (z1) hk (.inl rfl)); replace HB := Am (hb); replace HI0 := Am (hi); (try clear hb); (try clear hb2); (try clear hk); (try clear hi)) | ((with_reducible refine gate_callee (f := 65) rfl ?_); refine Own.gL_ (some 20) Try.func65 (#[.pointer (some ⟨g, 0, none⟩), .int .i64 t130, .int .i64 t127]) (h := ?_); (with_reducible refine (wire_Reader_take.calls g t136 t137 t138 t139 t130 t127 t140 t141 t142 t143 t144 w0 _ ?side1 ?side2 A7.out).mono ?_); (case side1 => exact z4); (case side2 => exact z5); rintro e w12 ⟨rfl, hi, hb, hk⟩; refine ⟨_, rfl, ?_⟩; replace HK := Am (KeepBut.trans (z1) hk (.inl rfl)); replace HB := Am (hb); replace HI0 := Am (hi); (try clear hb); (try clear hb2); (try clear hk); (try clear hi)))
   go_ret
   exact ⟨y0, z4, z5, z1⟩
  ·
   replace c6 := Bool.eq_false_iff.mpr c6
   subst c6
   rw [if_neg (show ¬ (false = true) by decide)] at H
   simp only [Option.some.injEq, Prod.mk.injEq] at H
   obtain ⟨rfl, rfl, rfl, rfl, rfl⟩ := H
   go_enter Try.func55, Try.ntmps55
   go_wp2_with (first | ((with_reducible refine gate_callee (f := 43) rfl ?_); refine Own.gL_ (some 6) Try.func43 (#[.pointer (some ⟨g, 0, none⟩)]) (h := ?_); (with_reducible refine (wire_Reader_ok.calls g s0_0 s0_1 s0_2 s0_3 true t126 t127 t128 t129 w0 _ ?side1 ?side2 A2.out).mono ?_); (case side1 => exact z4); (case side2 => exact z5); rintro e w13 ⟨rfl, hi, hb, hk⟩; refine ⟨_, rfl, ?_⟩; replace HK := Am (KeepBut.trans (z1) hk (.inl rfl)); replace HB := Am (hb); replace HI0 := Am (hi); (try clear hb); (try clear hb2); (try clear hk); (try clear hi); obtain ⟨HGz14, hgz14⟩ := HI0.out; have hcz14_0 := cellS77_0 HGz14; have hcz14_1 := cellS77_1 HGz14; have hcz14_2 := cellS77_2 HGz14; have hcz14_3 := cellS77_3 HGz14; have hfz14_0 := bf HGz14 0; have hfz14_1 := bf HGz14 1; have hfz14_2 := bf HGz14 2; have hfz14_3 := bf HGz14 3; clear HGz14 hgz14) | ((with_reducible refine gate_callee (f := 63) rfl ?_); refine Own.gL_ (some 13) Try.func63 (#[.pointer (some ⟨g, 0, none⟩)]) (h := ?_); (with_reducible refine (wire_Reader_Num.calls k g t126 t127 t128 t129 t130 t131 t132 t133 t134 w0 _ ?side1 ?side2 A4.out).mono ?_); (case side1 => exact z4); (case side2 => exact z5); rintro e w15 ⟨rfl, hi, hb, hk⟩; refine ⟨_, rfl, ?_⟩; replace HK := Am (KeepBut.trans (z1) hk (.inl rfl)); replace HB := Am (hb); replace HI0 := Am (hi); (try clear hb); (try clear hb2); (try clear hk); (try clear hi)) | ((with_reducible refine gate_callee (f := 43) rfl ?_); refine Own.gL_ (some 15) Try.func43 (#[.pointer (some ⟨g, 0, none⟩)]) (h := ?_); (with_reducible refine (wire_Reader_ok.calls g t131 t132 t133 t134 false t136 t137 t138 t139 w0 _ ?side1 ?side2 A5.out).mono ?_); (case side1 => exact z4); (case side2 => exact z5); rintro e w16 ⟨rfl, hi, hb, hk⟩; refine ⟨_, rfl, ?_⟩; replace HK := Am (KeepBut.trans (z1) hk (.inl rfl)); replace HB := Am (hb); replace HI0 := Am (hi); (try clear hb); (try clear hb2); (try clear hk); (try clear hi)))
   go_ret
   exact ⟨y0, z4, z5, z1⟩
 ·
  replace c3 := Bool.eq_false_iff.mpr c3
  subst c3
  rw [if_neg (show ¬ (false = true) by decide)] at H
  simp only [Option.some.injEq, Prod.mk.injEq] at H
  obtain ⟨rfl, rfl, rfl, rfl, rfl⟩ := H
  go_enter Try.func55, Try.ntmps55
  go_wp2_with (first | ((with_reducible refine gate_callee (f := 43) rfl ?_); refine Own.gL_ (some 6) Try.func43 (#[.pointer (some ⟨g, 0, none⟩)]) (h := ?_); (with_reducible refine (wire_Reader_ok.calls g s0_0 s0_1 s0_2 s0_3 false t126 t127 t128 t129 w0 _ ?side1 ?side2 A2.out).mono ?_); (case side1 => exact z4); (case side2 => exact z5); rintro e w17 ⟨rfl, hi, hb, hk⟩; refine ⟨_, rfl, ?_⟩; replace HK := Am (KeepBut.trans (z1) hk (.inl rfl)); replace HB := Am (hb); replace HI0 := Am (hi); (try clear hb); (try clear hb2); (try clear hk); (try clear hi)))
  go_ret
  exact ⟨y0, z4, z5, z1⟩

/-! ### table_decoder_text: function 41, by hand -/
def table_decoder_text.f (k : Nat) (s0 : ByteArray) (s1 s2 s3 : Int) : Dec ByteArray := (wire_Reader_Text.f k s0 s1 s2 s3).bind fun t => some (if t.2.2.2.1 = 0 then .inl t else .inr (t.2.2.2.1, t.2.2.2.2))
theorem table_decoder_text.mono : ∀ a0 a1 a2 a3 k, LeO (table_decoder_text.f k a0 a1 a2 a3) (table_decoder_text.f (k + 1) a0 a1 a2 a3) := fun a0 a1 a2 a3 k => LeO.bind (wire_Reader_Text.mono a0 a1 a2 a3 k) (fun _ => LeO.refl _)
theorem table_decoder_text.ok_of {k : Nat} {s0 : ByteArray} {s1 s2 s3 : Int} {r1 : ByteArray} {r2 : ByteArray} {r3 r4 r5 : Int} (h : table_decoder_text.f k s0 s1 s2 s3 = some (.inl (r1, r2, r3, r4, r5))) : wire_Reader_Text.f k s0 s1 s2 s3 = some (r1, r2, r3, r4, r5) ∧ r4 = 0 := by
 obtain ⟨⟨t1, t2, t3, t4, t5⟩, h1, h2⟩ := ob h
 by_cases c : t4 = 0
 ·
  simp only [if_pos c, Option.some.injEq, Sum.inl.injEq, Prod.mk.injEq] at h2
  obtain ⟨rfl, rfl, rfl, rfl, rfl⟩ := h2
  exact ⟨h1, c⟩
 ·
  simp [if_neg c] at h2
theorem table_decoder_text.bad_of {k : Nat} {s0 : ByteArray} {s1 s2 s3 : Int} {x y : Int} (h : table_decoder_text.f k s0 s1 s2 s3 = some (.inr (x, y))) : ∃ r1 r2 r3, wire_Reader_Text.f k s0 s1 s2 s3 = some (r1, r2, r3, x, y) ∧ ¬ x = 0 := by
 obtain ⟨⟨t1, t2, t3, t4, t5⟩, h1, h2⟩ := ob h
 by_cases c : t4 = 0
 ·
  simp [if_pos c] at h2
 ·
  simp only [if_neg c, Option.some.injEq, Sum.inr.injEq, Prod.mk.injEq] at h2
  obtain ⟨rfl, rfl⟩ := h2
  exact ⟨_, _, _, h1, c⟩
set_option maxHeartbeats 2000000 in
set_option maxRecDepth 100000 in
theorem table_decoder_text.ok (k g : Nat) (s0 : ByteArray) (s1 s2 s3 : Int) (r1 : ByteArray) (r2 : ByteArray) (r3 r4 r5 : Int) (w0 w : World) (hI : IsS77 w0 w g s0 s1 s2 s3) (hB : Below w0.heap.size w0 w) (h : table_decoder_text.f k s0 s1 s2 s3 = some (.inl (r1, r2, r3, r4, r5))) :
  Calls Try.prog 41 #[.agg #[.pointer (some ⟨g, 0, none⟩)]] w fun e w' => e = .returned (.string r1) ∧ IsS77 w0 w' g r2 r3 r4 r5 ∧ Below w0.heap.size w0 w' ∧ KeepBut w w' g none := by
 obtain ⟨A0, rfl⟩ := table_decoder_text.ok_of h
 have A := Am A0
 clear h A0
 go_enter Try.func41, Try.ntmps41
 go_wp2_with (first | (go_at_call 55; (with_reducible refine (wire_Reader_Text.calls k g s0 s1 s2 s3 r1 r2 r3 0 r5 w0 _ (IsS77.alloc hI _) (bl hB _) A.out).mono ?_); rintro e w1 ⟨rfl, hi, hb, hk⟩; have hc := keep_cell hk (dec_box w g) (IsS77.fresh hI _ (Nat.le_refl _))) | (go_at_call 56; (with_reducible refine (table_decoder_sound.ok g r2 r3 r5 w0 _ hi hb).mono ?_); rintro e w2 ⟨rfl, hi2, hb2, hk2⟩))
 go_ret
 exact ⟨rfl, hi2, hb2, KeepBut.trans (KeepBut.trans (keep_alloc (KeepBut.refl _ _ _) _) hk (.inl rfl)) hk2 (.inl rfl)⟩
set_option maxHeartbeats 2000000 in
set_option maxRecDepth 100000 in
theorem table_decoder_text.bad (k g : Nat) (s0 : ByteArray) (s1 s2 s3 : Int) (x y : Int) (w0 w : World) (hI : IsS77 w0 w g s0 s1 s2 s3) (hB : Below w0.heap.size w0 w) (h : table_decoder_text.f k s0 s1 s2 s3 = some (.inr (x, y))) :
  Calls Try.prog 41 #[.agg #[.pointer (some ⟨g, 0, none⟩)]] w fun e w' => e = .panicked [{ v := wrongV x y, recovered := false }] ∧ Below w0.heap.size w0 w' ∧ KeepBut w w' g none := by
 obtain ⟨r1, r2, r3, A0, hx⟩ := table_decoder_text.bad_of h
 have A := Am A0
 clear h A0
 go_enter Try.func41, Try.ntmps41
 go_wp2_with (first | (go_at_call 55; (with_reducible refine (wire_Reader_Text.calls k g s0 s1 s2 s3 r1 r2 r3 x y w0 _ (IsS77.alloc hI _) (bl hB _) A.out).mono ?_); rintro e w1 ⟨rfl, hi, hb, hk⟩; have hc := keep_cell hk (dec_box w g) (IsS77.fresh hI _ (Nat.le_refl _))) | (go_at_call 56; (with_reducible refine (table_decoder_sound.bad g r2 r3 x y w0 _ hi hb hx).mono ?_); rintro e w2 ⟨rfl, hb2, hk2⟩))
 exact ⟨rfl, rfl, hb2, KeepBut.trans (KeepBut.trans (keep_alloc (KeepBut.refl _ _ _) _) hk (.inl rfl)) hk2 (.inl rfl)⟩

/-! ### table_decoder_stack: function 42, by hand -/
def table_decoder_stack.l0 : Nat → Int → List S70 → Int → ByteArray → Int → Int → Int → Dec (List S70)
 | 0, _, _, _, _, _, _, _ => none
 | k + 1, n, l, i, s0, s1, s2, s3 => if i < n then (table_decoder_num.f k s0 s1 s2 s3).bind (Sum.elim (fun a => (table_decoder_num.f k a.2.1 a.2.2.1 a.2.2.2.1 a.2.2.2.2).bind (Sum.elim (fun b => if l.length < 8796093022208 then table_decoder_stack.l0 k n (l ++ [(⟨a.1, b.1⟩ : S70)]) (wrap64 (i + 1)) b.2.1 b.2.2.1 b.2.2.2.1 b.2.2.2.2 else none) (fun y => some (.inr y)))) (fun y => some (.inr y))) else some (.inl (l, s0, s1, s2, s3))
def table_decoder_stack.f (k : Nat) (s0 : ByteArray) (s1 s2 s3 : Int) : Dec (List S70) := (table_decoder_many.f k s0 s1 s2 s3 100).bind (Sum.elim (fun t => table_decoder_stack.l0 k t.1 [] 0 t.2.1 t.2.2.1 t.2.2.2.1 t.2.2.2.2) (fun y => some (.inr y)))
theorem LeO.sum {α β : Type} {a b : Dec α} {f g : α × ByteArray × Int × Int × Int → Dec β} (h : LeO a b) (hf : ∀ x, LeO (f x) (g x)) : LeO (a.bind (Sum.elim f (fun y => some (.inr y)))) (b.bind (Sum.elim g (fun y => some (.inr y)))) := LeO.bind h (fun x => by cases x with | inl x => exact hf x | inr y => exact LeO.refl _)
theorem table_decoder_stack.mono_l : ∀ k, ∀ y0 y1 y2 y3 y4 y5 y6, LeO (table_decoder_stack.l0 k y0 y1 y2 y3 y4 y5 y6) (table_decoder_stack.l0 (k + 1) y0 y1 y2 y3 y4 y5 y6)
 | 0 => fun _ _ _ _ _ _ _ r h => by simp [table_decoder_stack.l0] at h
 | k + 1 => fun y0 y1 y2 y3 y4 y5 y6 => by
  have ih := table_decoder_stack.mono_l k
  unfold table_decoder_stack.l0
  exact LeO.ite (LeO.sum (table_decoder_num.mono _ _ _ _ _) (fun _ => LeO.sum (table_decoder_num.mono _ _ _ _ _) (fun _ => LeO.ite (ih _ _ _ _ _ _ _) (LeO.refl _)))) (LeO.refl _)
theorem table_decoder_stack.mono : ∀ a0 a1 a2 a3 k, LeO (table_decoder_stack.f k a0 a1 a2 a3) (table_decoder_stack.f (k + 1) a0 a1 a2 a3) := fun a0 a1 a2 a3 k => LeO.sum (table_decoder_many.mono a0 a1 a2 a3 100 k) (fun _ => table_decoder_stack.mono_l k _ _ _ _ _ _ _)
/-- What a walk of stack's ends in. -/
def StackQ (w0 w : World) (g : Nat) : (List S70 × ByteArray × Int × Int × Int) ⊕ (Int × Int) → Ending → World → Prop
 | .inl (r1, r2, r3, r4, r5), e, w' => ∃ v, e = .returned v ∧ Kd.R k70 70 w' w.heap.size (fun _ => True) v r1 ∧ IsS77 w0 w' g r2 r3 r4 r5 ∧ Below w0.heap.size w0 w' ∧ KeepBut w w' g none
 | .inr (x, y), e, w' => e = .panicked [{ v := wrongV x y, recovered := false }] ∧ Below w0.heap.size w0 w' ∧ KeepBut w w' g none
/-- The reader, the row, and what lay, at a world of the walk. -/
def StkAt (w0 w w' : World) (g : Nat) (s0 : ByteArray) (s1 s2 s3 : Int) (ok : Nat → Prop) (v : Value) (xs : List S70) : Prop := IsS77 w0 w' g s0 s1 s2 s3 ∧ Below w0.heap.size w0 w' ∧ KeepBut w w' g none ∧ Kd.R k70 70 w' w.heap.size ok v xs ∧ w'.heap[w.heap.size]? = some (.cells #[.pointer (some ⟨g, 0, none⟩)] 50 (0, 0))
section
variable {w0 w w' w1 : World} {g : Nat} {s0 t0 : ByteArray} {s1 s2 s3 t1 t2 t3 : Int} {ok ok' : Nat → Prop} {v : Value} {xs : List S70}
theorem StkAt.below (h : StkAt w0 w w' g s0 s1 s2 s3 ok v xs) (hb : Below w'.heap.size w' w1) : StkAt w0 w w1 g s0 s1 s2 s3 ok v xs := ⟨IsS77.below h.1 hb, below_step h.2.1 hb, h.2.2.1.trans (KeepBut.of_below hb g none) (.inl rfl), Kd.R_below h.2.2.2.1 hb, blk_below h.2.2.2.2 hb⟩
theorem StkAt.mono (h : StkAt w0 w w' g s0 s1 s2 s3 ok v xs) (ho : ∀ k, ok k → ok' k) : StkAt w0 w w' g s0 s1 s2 s3 ok' v xs := ⟨h.1, h.2.1, h.2.2.1, Kd.R_mono h.2.2.2.1 ho, h.2.2.2.2⟩
theorem StkAt.call (hF : w.heap.size ≠ g) (h : StkAt w0 w w' g s0 s1 s2 s3 ok v xs) (hi : IsS77 w0 w1 g t0 t1 t2 t3) (hb : Below w0.heap.size w0 w1) (hk : KeepBut w' w1 g none) : StkAt w0 w w1 g t0 t1 t2 t3 ok v xs :=
 ⟨hi, hb, h.2.2.1.trans hk (.inl rfl), Kd.R_mono (Kd.R_keep (IsS77.apart h.1 h.2.2.2.1 (by decide)) hk (fun _ h => h.2)) (fun _ h => h.1), hk.blk h.2.2.2.2 hF (by simp)⟩
theorem StkAt.elder (h : StkAt w0 w w' g s0 s1 s2 s3 ok v xs) : StkAt w0 w w' g s0 s1 s2 s3 (fun k => ok k ∧ k ≠ w'.heap.size) v xs := ⟨h.1, h.2.1, h.2.2.1, Kd.R_elderB h.2.2.2.1 _ (Nat.le_refl _), h.2.2.2.2⟩
theorem StkAt.far {b : Nat} (hL : w0.heap.size ≤ w.heap.size) (hb : w.heap.size < b) (hg : g ≠ b) (h : StkAt w0 w w' g s0 s1 s2 s3 (fun k => ok k ∧ k ≠ b) v xs) (j : Nat) (u : Value) : StkAt w0 w (w'.setCell ⟨b, j, none⟩ u) g s0 s1 s2 s3 ok v xs :=
 ⟨⟨blk_far h.1.1 hg u, h.1.2⟩, bs h.2.1 (by omega), keep_far h.2.2.1 (by show _ ≤ b; omega) u, Kd.R_mono (Kd.R_far h.2.2.2.1 (fun _ hk => hk.2) u) (fun _ hk => hk.1), blk_far h.2.2.2.2 (by show _ ≠ b; omega) u⟩
theorem StkAt.app (hL : w0.heap.size ≤ w.heap.size) (h : StkAt w0 w w' g s0 s1 s2 s3 ok v xs) {v' : Value} {xs' : List S70} (ho : Kd.R k70 70 w1 w.heap.size ok' v' xs') (hb : Below w.heap.size w' w1) (hg : w'.grownBy w1 v.ownBlock) : StkAt w0 w w1 g s0 s1 s2 s3 ok' v' xs' :=
 ⟨IsS77.grown h.1 hg (fun e => Kd.R_ne h.2.2.2.1 h.1.1 (by decide) e), below_weaken h.2.1 hL hb, KeepBut.trans h.2.2.1 (KeepBut.of_grown hg g) (Kd.R_base2 h.2.2.2.1), ho, blk_grown h.2.2.2.2 hg (fun e => Kd.R_ne h.2.2.2.1 h.2.2.2.2 (by decide) e)⟩
theorem StkAt.box (h : StkAt w0 w w' g s0 s1 s2 s3 ok v xs) : w'.cell? ⟨w.heap.size, 0, none⟩ = some (.pointer (some ⟨g, 0, none⟩)) := (bc h.2.2.2.2 0).trans rfl
end
set_option maxHeartbeats 4000000 in
set_option maxRecDepth 100000 in
theorem table_decoder_stack.calls' (k g : Nat) (s0 : ByteArray) (s1 s2 s3 : Int) (o) (w0 w : World) (hI : IsS77 w0 w g s0 s1 s2 s3) (hB : Below w0.heap.size w0 w) (h : table_decoder_stack.f k s0 s1 s2 s3 = some o) : Calls Try.prog 42 #[.agg #[.pointer (some ⟨g, 0, none⟩)]] w (StackQ w0 w g o) := by
 have HF := Am (IsS77.fresh hI w.heap.size (Nat.le_refl _))
 have HL := Am hB.size
 have hA := IsS77.alloc hI (.cells #[.pointer (some ⟨g, 0, none⟩)] 50)
 have hA2 := bl hB (.cells #[.pointer (some ⟨g, 0, none⟩)] 50)
 have HI := Am hA
 have HB := Am hA2
 clear hI hB hA hA2
 obtain ⟨⟨t1, t2, t3, t4, t5⟩ | ⟨x, y⟩, h1, h2⟩ := ob h
 ·
  have A := Am h1
  replace h2 := Am h2
  clear h h1
  go_enter Try.func42, Try.ntmps42
  go_wp2_with (go_at_call 39; (with_reducible refine (table_decoder_many.ok k g s0 s1 s2 s3 100 t1 t2 t3 t4 t5 w0 _ HI.out HB.out A.out).mono ?_); rintro e w1 ⟨rfl, hi, hb, hk⟩; have hc := hk.blk (blk_new w (.cells #[.pointer (some ⟨g, 0, none⟩)] 50)) HF.out (by simp); have HT : Aside0 (StkAt w0 w w1 g t2 t3 t4 t5 (fun _ => True) (.slice none 0 0) []) := ⟨⟨hi, hb, KeepBut.trans (keep_alloc (KeepBut.refl _ _ _) _) hk (.inl rfl), Kd.R_nil _ _ _ _ _, hc⟩⟩; clear hi hb hk hc)
  go_loopg [3, 7] k (fun kq v3 v7 w' => ∃ (l : List S70) (i : Int) (p0 : ByteArray) (p1 p2 p3 : Int), v7 = .int .i64 i ∧ Aside0 (table_decoder_stack.l0 kq t1 l i p0 p1 p2 p3 = some o) ∧ Aside0 (kq ≤ k) ∧ Aside0 (StkAt w0 w w' g p0 p1 p2 p3 (fun _ => True) v3 l))
  case atStart => exact ⟨[], 0, t2, t3, t4, t5, rfl, h2, ⟨Nat.le_refl _⟩, HT⟩
  case round =>
   clear h2 HT
   obtain ⟨l, i, p0, p1, p2, p3, rfl, HA, HK1, HT⟩ := hrel
   cases gk with
   | zero => exact absurd HA.out (by simp [table_decoder_stack.l0])
   | succ k1 =>
    have H := HA.out
    clear HA
    simp only [table_decoder_stack.l0] at H
    have hc := HT.out.box
    have HI1 := Am HT.out.1
    have HB1 := Am HT.out.2.1
    by_cases c2 : i < t1
    ·
     rw [if_pos c2] at H
     have c2b0 : decide (i < t1) = true := decide_eq_true c2
     clear c2
     obtain ⟨⟨a1, a2, a3, a4, a5⟩ | ⟨x, y⟩, h3, H⟩ := ob H
     ·
      replace h3 := Am h3
      simp only [Sum.elim_inl] at H
      obtain ⟨⟨b1, b2, b3, b4, b5⟩ | ⟨x, y⟩, h4, H⟩ := ob H
      ·
       replace h4 := Am h4
       simp only [Sum.elim_inl] at H
       by_cases c3 : l.length < 8796093022208
       ·
        rw [if_pos c3] at H
        replace H := Am H
        replace c3 := Am c3
        go_wp2_with (first | (go_at_call 53; (with_reducible refine (table_decoder_num.ok k1 g p0 p1 p2 p3 a1 a2 a3 a4 a5 w0 _ HI1.out HB1.out h3.out).mono ?_); rintro e w1 ⟨rfl, hi, hb, hk⟩; have HT1 := Am (StkAt.call HF.out HT.out hi hb hk); clear hi hb hk hc; have HT2 := Am (HT1.out.elder.below (bl (Below.refl _ _) (.cells #[.int .i64 a1, .int .i64 0] 70))); have HI2 := Am HT2.out.1; have HB2 := Am HT2.out.2.1; have hc1 := HT2.out.box; have HX := Am (blk_new w1 (.cells #[.int .i64 a1, .int .i64 0] 70)); have HG1 := Am (IsS77.fresh HT1.out.1 w1.heap.size (Nat.le_refl _))) | (go_at_call 53; (with_reducible refine (table_decoder_num.ok k1 g a2 a3 a4 a5 b1 b2 b3 b4 b5 w0 _ HI2.out HB2.out h4.out).mono ?_); rintro e w2 ⟨rfl, hi, hb, hk⟩; have HT3 := Am (StkAt.call HF.out HT2.out hi hb hk); have HX3 := Am (hk.blk HX.out HG1.out (by simp)); clear hi hb hk hc1; have hx0 := (bc HX3.out 0).trans rfl; have hx1 := (bc HX3.out 1).trans rfl; have hf1 := bf HX3.out 1) | ((with_reducible refine gate_store (t := 3) (p := 14) rfl ?_); refine store_event (t := 3) (p := 14) (v := .tmp 13) (w1 := (w2.setCell ⟨w1.heap.size, 1, none⟩ (.int .i64 b1))) ?hg ?ho ?hn ?hr ?_; (case ho => rfl); (case hg => rfl); (case hn => rfl); (case hr => first | (go_simp; done) | (go_simp; rfl)); intro w3 hw; have HT4 : Aside0 (StkAt w0 w w3 g b2 b3 b4 b5 (fun _ => True) u3 l) := ⟨by rw [hw]; exact HT3.out.far HL.out (blk_lt HT1.out.2.2.2.2) (Ne.symm HG1.out) 1 (.int .i64 b1)⟩; have HX4 : Aside0 (w3.heap[w1.heap.size]? = some (.cells #[.int .i64 a1, .int .i64 b1] 70 (0, 0))) := ⟨by rw [hw]; exact blk_set HX3.out 1 (.int .i64 b1)⟩; clear hw hx0 hx1 hf1; have hy0 := (bc HX4.out 0).trans rfl; have hy1 := (bc HX4.out 1).trans rfl) | ((with_reducible refine gate_builtin (b := .append) (xs := #[.tmp 15, .tmp 17]) rfl ?_); at_builtin; refine Kd.R_append k70 w.heap.size rfl (.tmp 15) (.tmp 17) 42 70 (.agg #[(.int .i64 0), (.int .i64 0)]) 16 rfl Try.underlying42 info70 rfl (by decide) (by omega) u3 l (⟨a1, b1⟩ : S70) [.int .i64 a1, .int .i64 b1] (fun _ => True) (fun _ => False) rfl rfl ?aP (fun _ hk => hk.elim) ?aF ?aO (Below.refl _ _) ?aS ?aL ?_; (case aP => exact k70_mkM _ _ _ (⟨a1, b1⟩ : S70)); (case aF => exact (fun _ _ => trivial)); (case aO => exact HT4.out.2.2.2.1); (case aS => exact HT4.out.2.2.1.1); (case aL => have := c3.out; omega); intro v3 w4 ho hb hg hat; have HT5 := Am (StkAt.app HL.out HT4.out ho hb hg); clear ho hb hg hat))
        go_roundg k1
        case measure => have := HK1.out; omega
        case rel => exact ⟨_, _, _, _, _, _, rfl, H, ⟨by have := HK1.out; omega⟩, HT5⟩
       ·
        simp [if_neg c3] at H
      ·
       simp only [Sum.elim_inr, Option.some.injEq] at H
       subst H
       replace h4 := Am h4
       go_wp2_with (first | (go_at_call 53; (with_reducible refine (table_decoder_num.ok k1 g p0 p1 p2 p3 a1 a2 a3 a4 a5 w0 _ HI1.out HB1.out h3.out).mono ?_); rintro e w1 ⟨rfl, hi, hb, hk⟩; have HT1 := Am (StkAt.call HF.out HT.out hi hb hk); clear hi hb hk hc; have HT2 := Am (HT1.out.elder.below (bl (Below.refl _ _) (.cells #[.int .i64 a1, .int .i64 0] 70))); have HI2 := Am HT2.out.1; have HB2 := Am HT2.out.2.1; have hc1 := HT2.out.box) | (go_at_call 53; (with_reducible refine (table_decoder_num.bad k1 g a2 a3 a4 a5 x y w0 _ HI2.out HB2.out h4.out).mono ?_); rintro e w2 ⟨rfl, hb, hk⟩))
       exact ⟨rfl, rfl, hb, HT2.out.2.2.1.trans hk (.inl rfl)⟩
     ·
      simp only [Sum.elim_inr, Option.some.injEq] at H
      subst H
      replace h3 := Am h3
      go_wp2_with (first | (go_at_call 53; (with_reducible refine (table_decoder_num.bad k1 g p0 p1 p2 p3 x y w0 _ HI1.out HB1.out h3.out).mono ?_); rintro e w1 ⟨rfl, hb, hk⟩))
      exact ⟨rfl, rfl, hb, HT.out.2.2.1.trans hk (.inl rfl)⟩
    ·
     rw [if_neg c2] at H
     have c2b0 : decide (i < t1) = false := decide_eq_false c2
     clear c2
     simp only [Option.some.injEq] at H
     subst H
     go_wp2
     go_ret
     exact ⟨_, rfl, HT.out.2.2.2.1, HT.out.1, HT.out.2.1, HT.out.2.2.1⟩
 ·
  simp only [Sum.elim_inr, Option.some.injEq] at h2
  subst h2
  have A := Am h1
  clear h h1
  go_enter Try.func42, Try.ntmps42
  go_wp2_with (go_at_call 39; (with_reducible refine (table_decoder_many.bad k g s0 s1 s2 s3 100 x y w0 _ HI.out HB.out A.out).mono ?_); rintro e w1 ⟨rfl, hb, hk⟩)
  exact ⟨rfl, rfl, hb, KeepBut.trans (keep_alloc (KeepBut.refl _ _ _) _) hk (.inl rfl)⟩
theorem table_decoder_stack.ok (k g : Nat) (s0 : ByteArray) (s1 s2 s3 : Int) (r1 : List S70) (r2 : ByteArray) (r3 r4 r5 : Int) (w0 w : World) (hI : IsS77 w0 w g s0 s1 s2 s3) (hB : Below w0.heap.size w0 w) (h : table_decoder_stack.f k s0 s1 s2 s3 = some (.inl (r1, r2, r3, r4, r5))) : Calls Try.prog 42 #[.agg #[.pointer (some ⟨g, 0, none⟩)]] w fun e w' => ∃ v, e = .returned v ∧ Kd.R k70 70 w' w.heap.size (fun _ => True) v r1 ∧ IsS77 w0 w' g r2 r3 r4 r5 ∧ Below w0.heap.size w0 w' ∧ KeepBut w w' g none :=
 table_decoder_stack.calls' k g s0 s1 s2 s3 _ w0 w hI hB h
theorem table_decoder_stack.bad (k g : Nat) (s0 : ByteArray) (s1 s2 s3 : Int) (x y : Int) (w0 w : World) (hI : IsS77 w0 w g s0 s1 s2 s3) (hB : Below w0.heap.size w0 w) (h : table_decoder_stack.f k s0 s1 s2 s3 = some (.inr (x, y))) : Calls Try.prog 42 #[.agg #[.pointer (some ⟨g, 0, none⟩)]] w fun e w' => e = .panicked [{ v := wrongV x y, recovered := false }] ∧ Below w0.heap.size w0 w' ∧ KeepBut w w' g none :=
 table_decoder_stack.calls' k g s0 s1 s2 s3 _ w0 w hI hB h

/-! ### table_decoder_table: function 20, by hand -/
def table_decoder_table.l2 : Nat → List ByteArray → Int → List Bool → List (List S70) → Int → ByteArray → Int → Int → Int → Dec (List ByteArray × List (List S70))
 | 0, _, _, _, _, _, _, _, _, _ => none
 | k + 1, ys, n, xs, zs, i, s0, s1, s2, s3 => if i < n then (table_decoder_id.f k s0 s1 s2 s3 xs).bind (Sum.elim (fun a => if a.1 < zs.length then (table_decoder_stack.f k a.2.1 a.2.2.1 a.2.2.2.1 a.2.2.2.2).bind (Sum.elim (fun b => table_decoder_table.l2 k ys n (xs.set a.1.toNat true) (zs.set a.1.toNat b.1) (wrap64 (i + 1)) b.2.1 b.2.2.1 b.2.2.2.1 b.2.2.2.2) (fun y => some (.inr y))) else none) (fun y => some (.inr y))) else some (.inl ((ys, zs), s0, s1, s2, s3))
def table_decoder_table.l1 : Nat → Int → List Bool → List ByteArray → Int → ByteArray → Int → Int → Int → Dec (List ByteArray × List (List S70))
 | 0, _, _, _, _, _, _, _, _ => none
 | k + 1, n, xs, ys, i, s0, s1, s2, s3 => if i < n then (table_decoder_id.f k s0 s1 s2 s3 xs).bind (Sum.elim (fun a => if a.1 < ys.length then (table_decoder_text.f k a.2.1 a.2.2.1 a.2.2.2.1 a.2.2.2.2).bind (Sum.elim (fun b => table_decoder_table.l1 k n (xs.set a.1.toNat true) (ys.set a.1.toNat b.1) (wrap64 (i + 1)) b.2.1 b.2.2.1 b.2.2.2.1 b.2.2.2.2) (fun y => some (.inr y))) else none) (fun y => some (.inr y))) else (table_decoder_many.f k s0 s1 s2 s3 10000).bind (Sum.elim (fun u => if 0 ≤ u.1 then table_decoder_table.l2 k ys ((List.replicate u.1.toNat false).length : Int) (List.replicate u.1.toNat false) (List.replicate (List.replicate u.1.toNat false).length []) 0 u.2.1 u.2.2.1 u.2.2.2.1 u.2.2.2.2 else none) (fun y => some (.inr y)))
def table_decoder_table.f (k : Nat) (s0 : ByteArray) (s1 s2 s3 : Int) : Dec (List ByteArray × List (List S70)) := (table_decoder_many.f k s0 s1 s2 s3 10000).bind (Sum.elim (fun u => if 0 ≤ u.1 then table_decoder_table.l1 k ((List.replicate u.1.toNat false).length : Int) (List.replicate u.1.toNat false) (List.replicate (List.replicate u.1.toNat false).length (⟨#[]⟩ : ByteArray)) 0 u.2.1 u.2.2.1 u.2.2.2.1 u.2.2.2.2 else none) (fun y => some (.inr y)))
theorem table_decoder_table.mono_l2 : ∀ k, ∀ y0 y1 y2 y3 y4 y5 y6 y7 y8, LeO (table_decoder_table.l2 k y0 y1 y2 y3 y4 y5 y6 y7 y8) (table_decoder_table.l2 (k + 1) y0 y1 y2 y3 y4 y5 y6 y7 y8)
 | 0 => fun _ _ _ _ _ _ _ _ _ r h => by simp [table_decoder_table.l2] at h
 | k + 1 => fun y0 y1 y2 y3 y4 y5 y6 y7 y8 => by
  have ih := table_decoder_table.mono_l2 k
  unfold table_decoder_table.l2
  exact LeO.ite (LeO.sum (table_decoder_id.mono _ _ _ _ _ _) (fun _ => LeO.ite (LeO.sum (table_decoder_stack.mono _ _ _ _ _) (fun _ => ih _ _ _ _ _ _ _ _ _)) (LeO.refl _))) (LeO.refl _)
theorem table_decoder_table.mono_l1 : ∀ k, ∀ y0 y1 y2 y3 y4 y5 y6 y7, LeO (table_decoder_table.l1 k y0 y1 y2 y3 y4 y5 y6 y7) (table_decoder_table.l1 (k + 1) y0 y1 y2 y3 y4 y5 y6 y7)
 | 0 => fun _ _ _ _ _ _ _ _ r h => by simp [table_decoder_table.l1] at h
 | k + 1 => fun y0 y1 y2 y3 y4 y5 y6 y7 => by
  have ih := table_decoder_table.mono_l1 k
  unfold table_decoder_table.l1
  exact LeO.ite (LeO.sum (table_decoder_id.mono _ _ _ _ _ _) (fun _ => LeO.ite (LeO.sum (table_decoder_text.mono _ _ _ _ _) (fun _ => ih _ _ _ _ _ _ _ _)) (LeO.refl _))) (LeO.sum (table_decoder_many.mono _ _ _ _ _ _) (fun _ => LeO.ite (table_decoder_table.mono_l2 k _ _ _ _ _ _ _ _ _) (LeO.refl _)))
theorem table_decoder_table.mono : ∀ a0 a1 a2 a3 k, LeO (table_decoder_table.f k a0 a1 a2 a3) (table_decoder_table.f (k + 1) a0 a1 a2 a3) := fun a0 a1 a2 a3 k => LeO.sum (table_decoder_many.mono a0 a1 a2 a3 10000 k) (fun _ => LeO.ite (table_decoder_table.mono_l1 k _ _ _ _ _ _ _ _) (LeO.refl _))
/-- What a walk of table's ends in. -/
def TableQ (w0 w : World) (g : Nat) : ((List ByteArray × List (List S70)) × ByteArray × Int × Int × Int) ⊕ (Int × Int) → Ending → World → Prop
 | .inl ((q1, q2), r2, r3, r4, r5), e, w' => ∃ v0 v1, e = .returned (.agg #[v0, v1]) ∧ Kd.R Kd.string 9 w' w.heap.size (fun _ => True) v0 q1 ∧ Kd.S (Kd.slice 70 k70) 42 w' w.heap.size (fun _ => True) v1 q2 ∧ IsS77 w0 w' g r2 r3 r4 r5 ∧ Below w0.heap.size w0 w' ∧ KeepBut w w' g none
 | .inr (x, y), e, w' => e = .panicked [{ v := wrongV x y, recovered := false }] ∧ Below w0.heap.size w0 w' ∧ KeepBut w w' g none
/-- The reader, the rows, the variables, and what lay, at a world of the walk. -/
structure TabAt (w0 w w' : World) (g : Nat) (s0 : ByteArray) (s1 s2 s3 : Int) (b4 : Nat) (v1 : Value) (xs : List Bool) (v2 : Value) (ys : List ByteArray) (v3 : Value) (zs : List (List S70)) : Prop where
 i : IsS77 w0 w' g s0 s1 s2 s3
 b : Below w0.heap.size w0 w'
 k : KeepBut w w' g none
 x0 : w'.heap[w.heap.size]? = some (.cells #[.pointer (some ⟨g, 0, none⟩)] 50 (0, 0))
 x1 : w'.heap[w.heap.size + 1]? = some (.cells #[.slice none 0 0, .slice none 0 0] 25 (0, 0))
 l : w.heap.size + 1 < b4
 x4 : w'.heap[b4]? = some (.cells #[v2, v3] 25 (0, 0))
 r1 : Kd.R Kd.bool 4 w' w.heap.size (fun _ => True) v1 xs
 r2 : Kd.R Kd.string 9 w' w.heap.size (fun _ => True) v2 ys
 r3 : Kd.S (Kd.slice 70 k70) 42 w' w.heap.size (fun _ => True) v3 zs
section
variable {w0 w w' w1 : World} {g : Nat} {s0 t0 : ByteArray} {s1 s2 s3 t1 t2 t3 : Int} {b4 : Nat} {v1 v2 v3 u : Value} {xs xs' : List Bool} {ys ys' : List ByteArray} {zs zs' : List (List S70)}
theorem TabAt.below (h : TabAt w0 w w' g s0 s1 s2 s3 b4 v1 xs v2 ys v3 zs) (hb : Below w'.heap.size w' w1) : TabAt w0 w w1 g s0 s1 s2 s3 b4 v1 xs v2 ys v3 zs :=
 ⟨IsS77.below h.i hb, below_step h.b hb, h.k.trans (KeepBut.of_below hb g none) (.inl rfl), blk_below h.x0 hb, blk_below h.x1 hb, h.l, blk_below h.x4 hb, Kd.R_below h.r1 hb, Kd.R_below h.r2 hb, Kd.S_below h.r3 hb⟩
theorem TabAt.call (h : TabAt w0 w w' g s0 s1 s2 s3 b4 v1 xs v2 ys v3 zs) (hi : IsS77 w0 w1 g t0 t1 t2 t3) (hb : Below w0.heap.size w0 w1) (hk : KeepBut w' w1 g none) : TabAt w0 w w1 g t0 t1 t2 t3 b4 v1 xs v2 ys v3 zs :=
 ⟨hi, hb, h.k.trans hk (.inl rfl), hk.blk h.x0 (blk_ne h.x0 h.i.1 (by decide)) (by simp), hk.blk h.x1 (blk_ne h.x1 h.i.1 (by decide)) (by simp), h.l, hk.blk h.x4 (blk_ne h.x4 h.i.1 (by decide)) (by simp),
  Kd.R_mono (Kd.R_keep (IsS77.apart h.i h.r1 (by decide)) hk (fun _ h => h.2)) (fun _ h => h.1), Kd.R_mono (Kd.R_keep (IsS77.apart h.i h.r2 (by decide)) hk (fun _ h => h.2)) (fun _ h => h.1), Kd.S_mono (Kd.S_keep (IsS77.apartS h.i h.r3 (by decide)) hk (fun _ h => h.2)) (fun _ h => h.1)⟩
theorem TabAt.id (h : TabAt w0 w w' g s0 s1 s2 s3 b4 v1 xs v2 ys v3 zs) (hi : IsS77 w0 w1 g t0 t1 t2 t3) (hb : Below w0.heap.size w0 w1) (hk : KeepBut w' w1 g v1.ownBlock) (hr : Kd.R Kd.bool 4 w1 w.heap.size (fun _ => True) v1 xs') : TabAt w0 w w1 g t0 t1 t2 t3 b4 v1 xs' v2 ys v3 zs := by
 have hm : ∀ k, (True ∧ k ≠ g) ∧ some k ≠ v1.ownBlock → k < w'.heap.size → w1.heap[k]? = w'.heap[k]? := fun k hk' hl => hk.2 k hl hk'.1.2 hk'.2
 exact ⟨hi, hb, h.k.trans hk (Kd.R_base2 h.r1), hk.blk h.x0 (blk_ne h.x0 h.i.1 (by decide)) (Kd.R_ne h.r1 h.x0 (by decide)), hk.blk h.x1 (blk_ne h.x1 h.i.1 (by decide)) (Kd.R_ne h.r1 h.x1 (by decide)), h.l, hk.blk h.x4 (blk_ne h.x4 h.i.1 (by decide)) (Kd.R_ne h.r1 h.x4 (by decide)), hr,
  Kd.R_mono (Kd.R_step (Kd.R_apart' (IsS77.apart h.i h.r2 (by decide)) (Kd.R_typed h.r1) (by decide)) hm) (fun _ h => h.1.1), Kd.S_mono (Kd.S_step (Kd.S_apart' (IsS77.apartS h.i h.r3 (by decide)) (Kd.R_typed h.r1) (by decide)) hm) (fun _ h => h.1.1)⟩
theorem TabAt.str (h : TabAt w0 w w' g s0 s1 s2 s3 b4 v1 xs v2 ys v3 zs) (hb : Below w0.heap.size w0 w1) (hg : w'.grownBy w1 v2.ownBlock) (hr : Kd.R Kd.string 9 w1 w.heap.size (fun _ => True) v2 ys') : TabAt w0 w w1 g s0 s1 s2 s3 b4 v1 xs v2 ys' v3 zs :=
 ⟨IsS77.grown h.i hg (IsS77.own_ne h.i h.r2 (by decide)), hb, h.k.trans (KeepBut.of_grown hg g) (Kd.R_base2 h.r2), blk_grown h.x0 hg (Kd.R_ne h.r2 h.x0 (by decide)), blk_grown h.x1 hg (Kd.R_ne h.r2 h.x1 (by decide)), h.l, blk_grown h.x4 hg (Kd.R_ne h.r2 h.x4 (by decide)), Kd.R_over' h.r1 (Kd.R_typed h.r2) (by decide) hg, hr, Kd.S_over' h.r3 (Kd.R_typed h.r2) (by decide) hg⟩
theorem TabAt.stk (h : TabAt w0 w w' g s0 s1 s2 s3 b4 v1 xs v2 ys v3 zs) (hb : Below w0.heap.size w0 w1) (hg : w'.grownBy w1 v3.ownBlock) (hr : Kd.S (Kd.slice 70 k70) 42 w1 w.heap.size (fun _ => True) v3 zs') : TabAt w0 w w1 g s0 s1 s2 s3 b4 v1 xs v2 ys v3 zs' :=
 ⟨IsS77.grown h.i hg (IsS77.own_neS h.i h.r3 (by decide)), hb, h.k.trans (KeepBut.of_grown hg g) (Kd.S_base2 h.r3), blk_grown h.x0 hg (Kd.S_ne h.r3 h.x0 (by decide)), blk_grown h.x1 hg (Kd.S_ne h.r3 h.x1 (by decide)), h.l, blk_grown h.x4 hg (Kd.S_ne h.r3 h.x4 (by decide)), Kd.R_over' h.r1 (Kd.S_typed h.r3) (by decide) hg, Kd.R_over' h.r2 (Kd.S_typed h.r3) (by decide) hg, hr⟩
theorem TabAt.row1 (h : TabAt w0 w w' g s0 s1 s2 s3 b4 v1 xs v2 ys v3 zs) (hr : Kd.R Kd.bool 4 w' w.heap.size (fun _ => True) u xs') : TabAt w0 w w' g s0 s1 s2 s3 b4 u xs' v2 ys v3 zs := { h with r1 := hr }
theorem TabAt.row3 (h : TabAt w0 w w' g s0 s1 s2 s3 b4 v1 xs v2 ys v3 zs) (hL : w0.heap.size ≤ w.heap.size) (hr : Kd.S (Kd.slice 70 k70) 42 w' w.heap.size (fun _ => True) u zs') : TabAt w0 w (w'.setCell ⟨b4, 1, none⟩ u) g s0 s1 s2 s3 b4 v1 xs v2 ys u zs' :=
 ⟨⟨blk_far h.i.1 (blk_ne h.i.1 h.x4 (by decide)) u, h.i.2⟩, bs h.b (by have := h.l; omega), keep_far h.k (by show _ ≤ b4; have := h.l; omega) u, blk_far h.x0 (by show _ ≠ b4; have := h.l; omega) u, blk_far h.x1 (by show _ ≠ b4; have := h.l; omega) u, h.l, blk_set h.x4 1 u, Kd.R_set h.r1 h.x4 (by decide) 1 u, Kd.R_set h.r2 h.x4 (by decide) 1 u, Kd.S_set hr h.x4 (by decide) 1 u⟩
theorem TabAt.box (h : TabAt w0 w w' g s0 s1 s2 s3 b4 v1 xs v2 ys v3 zs) : w'.cell? ⟨w.heap.size, 0, none⟩ = some (.pointer (some ⟨g, 0, none⟩)) := (bc h.x0 0).trans rfl
theorem TabAt.f0 (h : TabAt w0 w w' g s0 s1 s2 s3 b4 v1 xs v2 ys v3 zs) : w'.cell? ⟨b4, 0, none⟩ = some v2 := (bc h.x4 0).trans rfl
theorem TabAt.f1 (h : TabAt w0 w w' g s0 s1 s2 s3 b4 v1 xs v2 ys v3 zs) : w'.cell? ⟨b4, 1, none⟩ = some v3 := (bc h.x4 1).trans rfl
theorem TabAt.stack (h : TabAt w0 w w' g s0 s1 s2 s3 b4 v1 xs v2 ys v3 zs) (hi : IsS77 w0 w1 g t0 t1 t2 t3) (hb : Below w0.heap.size w0 w1) (hk : KeepBut w' w1 g none) {l : List S70} (hr : Kd.R k70 70 w1 w'.heap.size (fun _ => True) u l) : TabAt w0 w w1 g t0 t1 t2 t3 b4 v1 xs v2 ys v3 zs ∧ Kd.S (Kd.slice 70 k70) 42 w1 w.heap.size (fun k => some k ≠ u.ownBlock) v3 zs ∧ Kd.R k70 70 w1 w.heap.size (fun _ => True) u l :=
 ⟨h.call hi hb hk, Kd.S_mono (Kd.S_told (Kd.S_oldK (IsS77.apartS h.i h.r3 (by decide)) hk) (Kd.R_base hr)) (fun _ hk => hk.1.2), Kd.R_lower hr h.k.1⟩
theorem stk_put {W : World} {base gb n cap : Nat} {l : List S70} (hS : Kd.S (Kd.slice 70 k70) 42 W base (fun k => some k ≠ u.ownBlock) (.slice (some ⟨gb, 0, none⟩) n cap) zs) (hr : Kd.R k70 70 W base (fun _ => True) u l) (i : Int) (h0 : 0 ≤ i) (h1 : i < n) :
  (∃ v, W.cell? ⟨gb, i.toNat, none⟩ = some v) ∧ W.frozen? ⟨gb, i.toNat, none⟩ = false ∧ Kd.S (Kd.slice 70 k70) 42 (W.setCell ⟨gb, i.toNat, none⟩ u) base (fun _ => True) (.slice (some ⟨gb, 0, none⟩) n cap) (zs.set i.toNat l) ∧ W.grownBy (W.setCell ⟨gb, i.toNat, none⟩ u) (some gb) := by
 have hX : Kd.S (Kd.slice 70 k70) 42 W base (fun k => (fun _ => True) k ∧ ¬ (fun k => some k = u.ownBlock) k) (.slice (some ⟨gb, 0, none⟩) n cap) zs := Kd.S_mono hS (fun k hk => ⟨trivial, fun e => hk e⟩)
 have hne : ∀ k, some k = u.ownBlock → k ≠ gb := by
  intro k hk e
  subst e
  have := (Kd.S_R hS).1 k (by simp [Value.ownBlock])
  exact this hk
 obtain ⟨oki, c, hcl, hM, hcc, hfr, hoki, hH⟩ := Kd.S_elem hX [] i h0 h1
 obtain ⟨ve, rfl, -⟩ := hM
 have HP := Kd.S_seg hH h0 h1 (seg := [u]) (j := 0) (show 1 ≤ 1 from by decide) (x' := l) (Kd.M_row (Kd.R_mono (Kd.R_tight rfl hr) (fun _ h => Or.inr h))) (fun _ hk => hk) (fun k hk => ⟨trivial, hne k hk⟩)
 have hx := hcc 0 _ rfl
 have hf := hfr 0
 simp only [show (Kd.slice 70 k70).sz = 1 from rfl, Nat.mul_one, Nat.add_zero] at hx hf HP
 exact ⟨⟨_, hx⟩, hf, HP⟩
theorem TabAt.last (h : TabAt w0 w w' g s0 s1 s2 s3 b4 v1 xs v2 ys v3 zs) (hL : w0.heap.size ≤ w.heap.size) : ((w'.setCell ⟨w.heap.size + 1, 0, none⟩ v2).setCell ⟨w.heap.size + 1, 1, none⟩ v3).heap[w.heap.size + 1]? = some (.cells #[v2, v3] 25 (0, 0)) ∧ TableQ w0 w g (.inl ((ys, zs), s0, s1, s2, s3)) (.returned (.agg #[v2, v3])) ((w'.setCell ⟨w.heap.size + 1, 0, none⟩ v2).setCell ⟨w.heap.size + 1, 1, none⟩ v3) :=
 ⟨blk_set (blk_set h.x1 0 v2) 1 v3, v2, v3, rfl, Kd.R_set (Kd.R_set h.r2 h.x1 (by decide) 0 v2) (blk_set h.x1 0 v2) (by decide) 1 v3, Kd.S_set (Kd.S_set h.r3 h.x1 (by decide) 0 v2) (blk_set h.x1 0 v2) (by decide) 1 v3,
  ⟨blk_far (blk_far h.i.1 (blk_ne h.i.1 h.x1 (by decide)) v2) (blk_ne h.i.1 h.x1 (by decide)) v3, h.i.2⟩, bs (bs h.b (by show _ ≤ _ + 1; omega)) (by show _ ≤ _ + 1; omega), keep_far (keep_far h.k (Nat.le_succ _) v2) (Nat.le_succ _) v3⟩
/-- The marks' row alone is there: ahead of the table. -/
structure TabAt0 (w0 w w' : World) (g : Nat) (s0 : ByteArray) (s1 s2 s3 : Int) : Prop where
 i : IsS77 w0 w' g s0 s1 s2 s3
 b : Below w0.heap.size w0 w'
 k : KeepBut w w' g none
 x0 : w'.heap[w.heap.size]? = some (.cells #[.pointer (some ⟨g, 0, none⟩)] 50 (0, 0))
 x1 : w'.heap[w.heap.size + 1]? = some (.cells #[.slice none 0 0, .slice none 0 0] 25 (0, 0))
theorem TabAt0.start (hI : IsS77 w0 w g s0 s1 s2 s3) (hB : Below w0.heap.size w0 w) : TabAt0 w0 w ((w.alloc (.cells #[.pointer (some ⟨g, 0, none⟩)] 50)).alloc (.cells #[.slice none 0 0, .slice none 0 0] 25)) g s0 s1 s2 s3 :=
 ⟨IsS77.alloc (IsS77.alloc hI _) _, bl (bl hB _) _, keep_alloc (keep_alloc (KeepBut.refl _ _ _) _) _, ba (blk_new _ _) _, by have h := blk_new (w.alloc (.cells #[.pointer (some ⟨g, 0, none⟩)] 50)) (.cells #[.slice none 0 0, .slice none 0 0] 25); rwa [show (w.alloc (.cells #[.pointer (some ⟨g, 0, none⟩)] 50)).heap.size = w.heap.size + 1 by simp [go_sem]] at h⟩
theorem TabAt0.call (h : TabAt0 w0 w w' g s0 s1 s2 s3) (hi : IsS77 w0 w1 g t0 t1 t2 t3) (hb : Below w0.heap.size w0 w1) (hk : KeepBut w' w1 g none) : TabAt0 w0 w w1 g t0 t1 t2 t3 :=
 ⟨hi, hb, h.k.trans hk (.inl rfl), hk.blk h.x0 (blk_ne h.x0 h.i.1 (by decide)) (by simp), hk.blk h.x1 (blk_ne h.x1 h.i.1 (by decide)) (by simp)⟩
theorem TabAt0.below (h : TabAt0 w0 w w' g s0 s1 s2 s3) (hb : Below w'.heap.size w' w1) : TabAt0 w0 w w1 g s0 s1 s2 s3 :=
 ⟨IsS77.below h.i hb, below_step h.b hb, h.k.trans (KeepBut.of_below hb g none) (.inl rfl), blk_below h.x0 hb, blk_below h.x1 hb⟩
theorem TabAt0.up (h : TabAt0 w0 w w' g s0 s1 s2 s3) (r1 : Kd.R Kd.bool 4 w' w.heap.size (fun _ => True) v1 xs) (r2 : Kd.R Kd.string 9 w' w.heap.size (fun _ => True) v2 ys) : TabAt w0 w (w'.alloc (.cells #[v2, .slice none 0 0] 25)) g s0 s1 s2 s3 w'.heap.size v1 xs v2 ys (.slice none 0 0) [] :=
 ⟨IsS77.alloc h.i _, bl h.b _, keep_alloc h.k _, ba h.x0 _, ba h.x1 _, blk_lt h.x1, blk_new _ _, Kd.R_alloc r1 _, Kd.R_alloc r2 _, Kd.S_nil _ _ _ _ _⟩
end
set_option maxHeartbeats 4000000 in
set_option maxRecDepth 100000 in
theorem table_decoder_table.calls' (k g : Nat) (s0 : ByteArray) (s1 s2 s3 : Int) (o) (w0 w : World) (hI : IsS77 w0 w g s0 s1 s2 s3) (hB : Below w0.heap.size w0 w) (h : table_decoder_table.f k s0 s1 s2 s3 = some o) : Calls Try.prog 20 #[.agg #[.pointer (some ⟨g, 0, none⟩)]] w (TableQ w0 w g o) := by
 have HL := Am hB.size
 have HT := Am (TabAt0.start hI hB)
 have HI := Am HT.out.i
 have HB := Am HT.out.b
 have hc := (bc HT.out.x0 0).trans rfl
 clear hI hB
 obtain ⟨⟨t1, t2, t3, t4, t5⟩ | ⟨x, y⟩, h1, h2⟩ := ob h
 ·
  have A := Am h1
  simp only [Sum.elim_inl] at h2
  by_cases c1 : 0 ≤ t1
  ·
   rw [if_pos c1] at h2
   have C1 := Am c1
   have C2 := Am (table_decoder_many.ok_of h1).2
   obtain ⟨X, hX⟩ : ∃ X : List Bool, X = List.replicate t1.toNat false := ⟨_, rfl⟩
   rw [← hX] at h2
   obtain ⟨Y, hY⟩ : ∃ Y : List ByteArray, Y = List.replicate X.length (⟨#[]⟩ : ByteArray) := ⟨_, rfl⟩
   rw [← hY] at h2
   have CX := Am (show X.length ≤ 10000 by rw [hX, List.length_replicate]; have := C2.out; omega)
   replace hX := Am hX
   replace hY := Am hY
   replace h2 := Am h2
   clear h h1 c1
   go_enter Try.func20, Try.ntmps20
   go_wp2_with (first | (go_at_call 39; (with_reducible refine (table_decoder_many.ok k g s0 s1 s2 s3 10000 t1 t2 t3 t4 t5 w0 _ HI.out HB.out A.out).mono ?_); rintro e w1 ⟨rfl, hi, hb, hk⟩; have HT1 := Am (HT.out.call hi hb hk); clear hi hb hk hc) | ((with_reducible refine gate_dst (N := 9) rfl ?_); refine Kd.R_make Kd.bool _ 4 rfl (N := 9) rfl 78 _ _ rfl t1 rfl rfl Try.underlying78 (.bool false) 1 info4 rfl (by decide) (by omega) false (ok := fun _ => True) (okp := fun _ => True) rfl (fun _ hk => hk) trivial C1.out (by have := C2.out; omega) (Below.refl _ _) (Nat.le_refl _) ?_; intro v1 w2 ho hb hg_ hnew_; rw [← hX.out] at ho; have HT2 := Am (HT1.out.below hb); have HR := Am (Kd.R_lower ho HT1.out.k.1); obtain ⟨Ao, co, eo⟩ := Kd.R_slice HR.out; subst eo; clear hg_ hnew_ hb ho) | ((with_reducible refine gate_dst (N := 12) rfl ?_); refine Kd.R_make Kd.string _ 9 rfl (N := 12) rfl 22 _ _ rfl (X.length : Int) rfl rfl Try.underlying22 (.string ⟨#[]⟩) 16 info9 rfl (by decide) (by omega) (⟨#[]⟩ : ByteArray) (ok := fun _ => True) (okp := fun _ => True) rfl (fun _ hk => hk) trivial (by omega) (by have := CX.out; omega) (Below.refl _ _) (Nat.le_refl _) ?_; intro v2 w3 ho hb hg_ hnew_; rw [Int.toNat_natCast, ← hY.out] at ho; obtain ⟨Ao2, co2, eo⟩ := Kd.R_slice ho; subst eo; have HT3 := Am ((HT2.out.below hb).up (Kd.R_below HR.out hb) (Kd.R_lower ho HT2.out.k.1)); clear hg_ hnew_ hb ho))
   go_loopg [16] k (fun kq v16 w' => ∃ (xs : List Bool) (ys : List ByteArray) (i : Int) (p0 : ByteArray) (p1 p2 p3 : Int), v16 = .int .i64 i ∧ Aside0 (table_decoder_table.l1 kq (X.length : Int) xs ys i p0 p1 p2 p3 = some o) ∧ Aside0 (kq ≤ k) ∧ Aside0 (TabAt w0 w w' g p0 p1 p2 p3 w3.heap.size (.slice Ao X.length co) xs (.slice Ao2 Y.length co2) ys (.slice none 0 0) []))
   case atStart => exact ⟨X, Y, 0, t2, t3, t4, t5, rfl, h2, ⟨Nat.le_refl _⟩, HT3⟩
   case round =>
    clear h2 HT3 HT2 HT1 HT HI HB HR
    obtain ⟨xs, ys, i, p0, p1, p2, p3, rfl, HA, HK1, HT⟩ := hrel
    cases gk with
    | zero => exact absurd HA.out (by simp [table_decoder_table.l1])
    | succ k1 =>
     have H := HA.out
     clear HA
     simp only [table_decoder_table.l1] at H
     have hc := HT.out.box
     have HI1 := Am HT.out.i
     have HB1 := Am HT.out.b
     have HR1 := Am HT.out.r1
     by_cases c2 : i < (X.length : Int)
     ·
      rw [if_pos c2] at H
      have c2b0 : decide (i < (X.length : Int)) = true := decide_eq_true c2
      clear c2
      obtain ⟨⟨a1, a2, a3, a4, a5⟩ | ⟨x, y⟩, h3, H⟩ := ob H
      ·
       obtain ⟨n1, -, -, hn1, -, -, hn2⟩ := table_decoder_id.ok_of h3
       have C0 : 0 ≤ a1 := by omega
       clear hn1 hn2
       replace h3 := Am h3
       simp only [Sum.elim_inl] at H
       by_cases c3 : a1 < ys.length
       ·
        rw [if_pos c3] at H
        go_wp2_with (go_at_call 40; (with_reducible refine (table_decoder_id.ok k1 g p0 p1 p2 p3 xs w.heap.size (fun _ => True) (.slice Ao X.length co) a1 a2 a3 a4 a5 w0 _ HI1.out HB1.out HL.out HR1.out h3.out).mono ?_); rintro e w4 ⟨rfl, hi, hb, hk, hr⟩; have HT4 := Am (HT.out.id hi hb hk hr); clear hi hb hk hr hc HI1 HB1 HR1 HT)
        obtain ⟨gb, cap, e2, hgb, _⟩ := Kd.R_form HT4.out.r2 (by omega)
        injection e2 with e3 e4 e5
        subst e3 e5
        have q1 : a1 < (Y.length : Int) := by rw [e4]; exact c3
        have HGB := Am (Nat.le_trans HL.out hgb)
        have CC := Am C0
        have CQ := Am q1
        replace C0 := eq_true C0
        replace q1 := eq_true q1
        clear e4 hgb
        have HI5 := Am (HT4.out.below (below_drew (Below.refl _ _))).i
        have HB5 := Am (HT4.out.below (below_drew (Below.refl _ _))).b
        obtain ⟨⟨b1, b2, b3, b4, b5⟩ | ⟨x, y⟩, h4, H⟩ := ob H
        ·
         replace h4 := Am h4
         simp only [Sum.elim_inl] at H
         replace H := Am H
         refine start_ (n := 7) (S := fun w' => w'.cell? ⟨w.heap.size, 0, none⟩ = some (.pointer (some ⟨g, 0, none⟩)) ∧ w'.cell? ⟨w3.heap.size, 0, none⟩ = some (.slice (some ⟨gb, 0, none⟩) Y.length co2)) (ds := [6]) q4_0 (by kernel_rfl) rfl rfl ⟨HT4.out.box, HT4.out.f0⟩ (fun hHeld => ?_)
         refine pure_ (i := 0) (N := some 21) (v := ?_) (a' := ?_) q4_1 rfl rfl (by kernel_rfl) (fun _ _ _ h => h) (Or.inl ⟨by rfl, ?_⟩) ?_ ?_
         rotate_left
         ·
          intro w'
          go_simp
          with_reducible rfl
         rotate_left
         ·
          simp only [Act.put, sI, sZ, sS, i64_w, i32_w]
          rfl
         refine pure_ (i := 2) (N := some 23) (v := ?_) (a' := ?_) q4_2 rfl rfl (by kernel_rfl) (fun _ _ _ h => h) (Or.inl ⟨by rfl, ?_⟩) ?_ ?_
         rotate_left
         ·
          intro w'
          go_simp
          with_reducible rfl
         rotate_left
         ·
          simp only [Act.put, sI, sZ, sS, i64_w, i32_w]
          rfl
         refine take_ (i := 1) (N := some 22) (v := ?_) (a' := ?_) q4_3 rfl rfl (by kernel_rfl) (fun _ _ _ h => h) (Or.inl ⟨by rfl, ?_⟩) hHeld ?_ ?_
         rotate_left
         ·
          rintro w' ⟨s0, s1⟩
          go_simp
          with_reducible rfl
         rotate_left
         ·
          simp only [Act.put, sI, sZ, sS, i64_w, i32_w]
          rfl
         refine take_ (i := 3) (N := some 24) (v := ?_) (a' := ?_) q4_4 rfl rfl (by kernel_rfl) (fun _ _ _ h => h) (Or.inl ⟨by rfl, ?_⟩) hHeld ?_ ?_
         rotate_left
         ·
          rintro w' ⟨s0, s1⟩
          go_simp
          with_reducible rfl
         rotate_left
         ·
          simp only [Act.put, sI, sZ, sS, i64_w, i32_w]
          rfl
         refine one_ (i := 4) (N := some 25) q4_5 rfl rfl (by kernel_rfl) (by decide) (fun K hK => ?_)
         refine goes_ Try.func41 (by kernel_rfl) rfl #[.agg #[.pointer (some ⟨g, 0, none⟩)]] (by rfl) rfl rfl (by (try simp only [List.map_toArray, List.map_cons, List.map_nil]); first | done | rfl | (simp only [List.length_drop, List.length_take]; rfl)) ?_
         with_reducible refine (table_decoder_text.ok k1 g a2 a3 a4 a5 b1 b2 b3 b4 b5 w0 _ HI5.out HB5.out h4.out).mono ?_
         rintro e w5 ⟨rfl, hi, hb, hk⟩
         refine ⟨_, rfl, ?_⟩
         have HT6 := Am ((HT4.out.below (below_drew (Below.refl _ _))).call hi hb hk)
         clear hi hb hk HI5 HB5
         obtain ⟨hx6, hf6⟩ := Kd.R_celln ByteArray.empty HT6.out.r2 a1 CC.out CQ.out
         refine hK.out _ _ ⟨HT6.out.box, HT6.out.f0⟩ (fun hHeld => ?_)
         clear hK K
         refine norm_ (a' := ?_) ?_ ?_
         rotate_left
         ·
          show Act.put _ (some 25) _ = _
          simp only [Act.put, sI, sZ, sS, i64_w, i32_w]
          rfl
         refine pure_ (i := 5) (N := some 26) (v := ?_) (a' := ?_) q4_6 rfl rfl (by kernel_rfl) (fun _ _ _ h => h) (Or.inl ⟨by rfl, ?_⟩) ?_ ?_
         rotate_left
         ·
          intro w'
          go_simp
          with_reducible rfl
         rotate_left
         ·
          simp only [Act.put, sI, sZ, sS, i64_w, i32_w]
          rfl
         refine last_ (i := 6) (N := none) q4_7 rfl rfl (by kernel_rfl) (by decide) (fun K hK => ?_)
         refine skip_ (w1 := ?_) (by rfl) rfl ?_ ?_
         rotate_left
         ·
          go_simp
          rfl
         refine hK.out _ _ ?_
         clear hK K
         refine done_ (by kernel_rfl) ?_
         have HP := Kd.R_putg HT6.out.r2 a1 b1
         have HT7 := Am (HT6.out.str (bs HT6.out.b HGB.out) HP.2 HP.1)
         clear HP hx6 hf6 hHeld HT6 HT4
         go_wp2
         go_roundg k1
         case measure => have := HK1.out; omega
         case rel => exact ⟨_, _, _, _, _, _, _, rfl, H, ⟨by have := HK1.out; omega⟩, HT7⟩
        ·
         simp only [Sum.elim_inr, Option.some.injEq] at H
         subst H
         replace h4 := Am h4
         refine start_ (n := 7) (S := fun w' => w'.cell? ⟨w.heap.size, 0, none⟩ = some (.pointer (some ⟨g, 0, none⟩)) ∧ w'.cell? ⟨w3.heap.size, 0, none⟩ = some (.slice (some ⟨gb, 0, none⟩) Y.length co2)) (ds := [6]) q4_0 (by kernel_rfl) rfl rfl ⟨HT4.out.box, HT4.out.f0⟩ (fun hHeld => ?_)
         refine pure_ (i := 0) (N := some 21) (v := ?_) (a' := ?_) q4_1 rfl rfl (by kernel_rfl) (fun _ _ _ h => h) (Or.inl ⟨by rfl, ?_⟩) ?_ ?_
         rotate_left
         ·
          intro w'
          go_simp
          with_reducible rfl
         rotate_left
         ·
          simp only [Act.put, sI, sZ, sS, i64_w, i32_w]
          rfl
         refine pure_ (i := 2) (N := some 23) (v := ?_) (a' := ?_) q4_2 rfl rfl (by kernel_rfl) (fun _ _ _ h => h) (Or.inl ⟨by rfl, ?_⟩) ?_ ?_
         rotate_left
         ·
          intro w'
          go_simp
          with_reducible rfl
         rotate_left
         ·
          simp only [Act.put, sI, sZ, sS, i64_w, i32_w]
          rfl
         refine take_ (i := 1) (N := some 22) (v := ?_) (a' := ?_) q4_3 rfl rfl (by kernel_rfl) (fun _ _ _ h => h) (Or.inl ⟨by rfl, ?_⟩) hHeld ?_ ?_
         rotate_left
         ·
          rintro w' ⟨s0, s1⟩
          go_simp
          with_reducible rfl
         rotate_left
         ·
          simp only [Act.put, sI, sZ, sS, i64_w, i32_w]
          rfl
         refine take_ (i := 3) (N := some 24) (v := ?_) (a' := ?_) q4_4 rfl rfl (by kernel_rfl) (fun _ _ _ h => h) (Or.inl ⟨by rfl, ?_⟩) hHeld ?_ ?_
         rotate_left
         ·
          rintro w' ⟨s0, s1⟩
          go_simp
          with_reducible rfl
         rotate_left
         ·
          simp only [Act.put, sI, sZ, sS, i64_w, i32_w]
          rfl
         refine one_ (i := 4) (N := some 25) q4_5 rfl rfl (by kernel_rfl) (by decide) (fun K hK => ?_)
         refine Own.goesP_ Try.func41 (by kernel_rfl) rfl #[.agg #[.pointer (some ⟨g, 0, none⟩)]] (by rfl) rfl (by (try simp only [List.map_toArray, List.map_cons, List.map_nil]); first | done | rfl | (simp only [List.length_drop, List.length_take]; rfl)) ?_
         with_reducible refine (table_decoder_text.bad k1 g a2 a3 a4 a5 x y w0 _ HI5.out HB5.out h4.out).mono ?_
         rintro e w5 ⟨rfl, hb, hk⟩
         refine ⟨_, rfl, ?_⟩
         exact ⟨rfl, rfl, hb, (HT4.out.below (below_drew (Below.refl _ _))).k.trans hk (.inl rfl)⟩
       ·
        simp [if_neg c3] at H
      ·
       simp only [Sum.elim_inr, Option.some.injEq] at H
       subst H
       replace h3 := Am h3
       go_wp2_with (go_at_call 40; (with_reducible refine (table_decoder_id.bad k1 g p0 p1 p2 p3 xs w.heap.size (fun _ => True) (.slice Ao X.length co) x y w0 _ HI1.out HB1.out HR1.out h3.out).mono ?_); rintro e w4 ⟨rfl, hb, hk⟩)
       exact ⟨rfl, rfl, hb, HT.out.k.trans hk (.inl rfl)⟩
     ·
      rw [if_neg c2] at H
      have c2b0 : decide (i < (X.length : Int)) = false := decide_eq_false c2
      clear c2
      obtain ⟨⟨u1, u2, u3, u4, u5⟩ | ⟨x, y⟩, h5, H⟩ := ob H
      ·
       replace h5 := Am h5
       simp only [Sum.elim_inl] at H
       by_cases c4 : 0 ≤ u1
       ·
        rw [if_pos c4] at H
        have D1 := Am c4
        have D2 := Am (table_decoder_many.ok_of h5.out).2
        obtain ⟨X2, hX2⟩ : ∃ X : List Bool, X = List.replicate u1.toNat false := ⟨_, rfl⟩
        rw [← hX2] at H
        obtain ⟨Y2, hY2⟩ : ∃ Y : List (List S70), Y = List.replicate X2.length ([] : List S70) := ⟨_, rfl⟩
        rw [← hY2] at H
        have CX2 := Am (show X2.length ≤ 10000 by rw [hX2, List.length_replicate]; have := D2.out; omega)
        replace hX2 := Am hX2
        replace hY2 := Am hY2
        replace H := Am H
        clear c4
        go_wp2_with (first | (go_at_call 39; (with_reducible refine (table_decoder_many.ok k1 g p0 p1 p2 p3 10000 u1 u2 u3 u4 u5 w0 _ HI1.out HB1.out h5.out).mono ?_); rintro e w4 ⟨rfl, hi, hb, hk⟩; have HT1 := Am (HT.out.call hi hb hk); clear hi hb hk hc) | ((with_reducible refine gate_dst (N := 30) rfl ?_); refine Kd.R_make Kd.bool _ 4 rfl (N := 30) rfl 78 _ _ rfl u1 rfl rfl Try.underlying78 (.bool false) 1 info4 rfl (by decide) (by omega) false (ok := fun _ => True) (okp := fun _ => True) rfl (fun _ hk => hk) trivial D1.out (by have := D2.out; omega) (Below.refl _ _) (Nat.le_refl _) ?_; intro v5 w5 ho hb hg_ hnew_; rw [← hX2.out] at ho; have HT2 := Am ((HT1.out.below hb).row1 (Kd.R_lower ho HT1.out.k.1)); obtain ⟨Ao3, co3, eo⟩ := Kd.R_slice ho; subst eo; clear hg_ hnew_ hb ho) | ((with_reducible refine gate_dst (N := 33) rfl ?_); refine Kd.S_make (Kd.slice 70 k70) _ 42 rfl (N := 33) rfl 23 _ _ rfl (X2.length : Int) rfl rfl Try.underlying23 (.slice none 0 0) 24 info42 rfl (by decide) (by omega) ([] : List S70) (ok := fun _ => True) (okp := fun _ => True) ⟨_, rfl, Kd.R_nil _ _ _ _ _⟩ (fun _ hk => hk) trivial (by omega) (by have := CX2.out; omega) (Below.refl _ _) (Nat.le_refl _) ?_; intro v6 w6 ho hb hg_ hnew_; rw [Int.toNat_natCast, ← hY2.out] at ho; obtain ⟨Ao4, co4, eo⟩ := Kd.S_slice ho; subst eo; have HT3 := Am (HT2.out.below hb); have HS3 := Am (Kd.S_lower ho HT2.out.k.1); have hf1 := HT3.out.f1; have hz1 := bf HT3.out.x4 1; clear hg_ hnew_ hb ho) | ((with_reducible refine gate_store (t := 23) (p := 34) rfl ?_); refine store_event (t := 23) (p := 34) (v := .tmp 33) (w1 := (w6.setCell ⟨w3.heap.size, 1, none⟩ (.slice Ao4 Y2.length co4))) ?hg ?ho ?hn ?hr ?_; (case ho => rfl); (case hg => rfl); (case hn => rfl); (case hr => first | (go_simp; done) | (go_simp; rfl)); intro w7 hw; have HT4 : Aside0 (TabAt w0 w w7 g u2 u3 u4 u5 w3.heap.size (.slice Ao3 X2.length co3) X2 (.slice Ao2 Y.length co2) ys (.slice Ao4 Y2.length co4) Y2) := ⟨by rw [hw]; exact HT3.out.row3 HL.out HS3.out⟩; clear hw hf1 hz1))
        go_loopg [37] k1 (fun kq v37 w' => ∃ (xs : List Bool) (zs : List (List S70)) (i : Int) (p0 : ByteArray) (p1 p2 p3 : Int), v37 = .int .i64 i ∧ Aside0 (table_decoder_table.l2 kq ys (X2.length : Int) xs zs i p0 p1 p2 p3 = some o) ∧ Aside0 (kq ≤ k1) ∧ Aside0 (TabAt w0 w w' g p0 p1 p2 p3 w3.heap.size (.slice Ao3 X2.length co3) xs (.slice Ao2 Y.length co2) ys (.slice Ao4 Y2.length co4) zs))
        case atStart => exact ⟨X2, Y2, 0, u2, u3, u4, u5, rfl, H, ⟨Nat.le_refl _⟩, HT4⟩
        case round =>
         clear H HT4 HT3 HT2 HT1 HT HI1 HB1 HR1 HS3 HK1 h5
         obtain ⟨xs, zs, i, p0, p1, p2, p3, rfl, HA, HK1, HT⟩ := hrel
         cases gk with
         | zero => exact absurd HA.out (by simp [table_decoder_table.l2])
         | succ k2 =>
          have H := HA.out
          clear HA
          simp only [table_decoder_table.l2] at H
          have hc := HT.out.box
          have HI1 := Am HT.out.i
          have HB1 := Am HT.out.b
          have HR1 := Am HT.out.r1
          by_cases c2 : i < (X2.length : Int)
          ·
           rw [if_pos c2] at H
           have c2b0 : decide (i < (X2.length : Int)) = true := decide_eq_true c2
           clear c2
           obtain ⟨⟨a1, a2, a3, a4, a5⟩ | ⟨x, y⟩, h3, H⟩ := ob H
           ·
            obtain ⟨n1, -, -, hn1, -, -, hn2⟩ := table_decoder_id.ok_of h3
            have C0 : 0 ≤ a1 := by omega
            clear hn1 hn2
            replace h3 := Am h3
            simp only [Sum.elim_inl] at H
            by_cases c3 : a1 < zs.length
            ·
             rw [if_pos c3] at H
             go_wp2_with (go_at_call 40; (with_reducible refine (table_decoder_id.ok k2 g p0 p1 p2 p3 xs w.heap.size (fun _ => True) (.slice Ao3 X2.length co3) a1 a2 a3 a4 a5 w0 _ HI1.out HB1.out HL.out HR1.out h3.out).mono ?_); rintro e w8 ⟨rfl, hi, hb, hk, hr⟩; have HT4 := Am (HT.out.id hi hb hk hr); clear hi hb hk hr hc HI1 HB1 HR1 HT)
             obtain ⟨gb, cap, e2, hgb, _⟩ := Kd.S_form HT4.out.r3 (by omega)
             injection e2 with e3 e4 e5
             subst e3 e5
             have q1 : a1 < (Y2.length : Int) := by rw [e4]; exact c3
             have HGB := Am (Nat.le_trans HL.out hgb)
             have CC := Am C0
             have CQ := Am q1
             replace C0 := eq_true C0
             replace q1 := eq_true q1
             clear e4 hgb
             have HI5 := Am (HT4.out.below (below_drew (Below.refl _ _))).i
             have HB5 := Am (HT4.out.below (below_drew (Below.refl _ _))).b
             obtain ⟨⟨b1, b2, b3, b4, b5⟩ | ⟨x, y⟩, h4, H⟩ := ob H
             ·
              replace h4 := Am h4
              simp only [Sum.elim_inl] at H
              replace H := Am H
              refine start_ (n := 7) (S := fun w' => w'.cell? ⟨w.heap.size, 0, none⟩ = some (.pointer (some ⟨g, 0, none⟩)) ∧ w'.cell? ⟨w3.heap.size, 1, none⟩ = some (.slice (some ⟨gb, 0, none⟩) Y2.length co4)) (ds := [6]) q4_0 (by kernel_rfl) rfl rfl ⟨HT4.out.box, HT4.out.f1⟩ (fun hHeld => ?_)
              refine pure_ (i := 0) (N := some 42) (v := ?_) (a' := ?_) q4_1 rfl rfl (by kernel_rfl) (fun _ _ _ h => h) (Or.inl ⟨by rfl, ?_⟩) ?_ ?_
              rotate_left
              ·
               intro w'
               go_simp
               with_reducible rfl
              rotate_left
              ·
               simp only [Act.put, sI, sZ, sS, i64_w, i32_w]
               rfl
              refine pure_ (i := 2) (N := some 44) (v := ?_) (a' := ?_) q4_2 rfl rfl (by kernel_rfl) (fun _ _ _ h => h) (Or.inl ⟨by rfl, ?_⟩) ?_ ?_
              rotate_left
              ·
               intro w'
               go_simp
               with_reducible rfl
              rotate_left
              ·
               simp only [Act.put, sI, sZ, sS, i64_w, i32_w]
               rfl
              refine take_ (i := 1) (N := some 43) (v := ?_) (a' := ?_) q4_3 rfl rfl (by kernel_rfl) (fun _ _ _ h => h) (Or.inl ⟨by rfl, ?_⟩) hHeld ?_ ?_
              rotate_left
              ·
               rintro w' ⟨s0, s1⟩
               go_simp
               with_reducible rfl
              rotate_left
              ·
               simp only [Act.put, sI, sZ, sS, i64_w, i32_w]
               rfl
              refine take_ (i := 3) (N := some 45) (v := ?_) (a' := ?_) q4_4 rfl rfl (by kernel_rfl) (fun _ _ _ h => h) (Or.inl ⟨by rfl, ?_⟩) hHeld ?_ ?_
              rotate_left
              ·
               rintro w' ⟨s0, s1⟩
               go_simp
               with_reducible rfl
              rotate_left
              ·
               simp only [Act.put, sI, sZ, sS, i64_w, i32_w]
               rfl
              refine one_ (i := 4) (N := some 46) q4_5 rfl rfl (by kernel_rfl) (by decide) (fun K hK => ?_)
              refine goes_ Try.func42 (by kernel_rfl) rfl #[.agg #[.pointer (some ⟨g, 0, none⟩)]] (by rfl) rfl rfl (by (try simp only [List.map_toArray, List.map_cons, List.map_nil]); first | done | rfl | (simp only [List.length_drop, List.length_take]; rfl)) ?_
              with_reducible refine (table_decoder_stack.ok k2 g a2 a3 a4 a5 b1 b2 b3 b4 b5 w0 _ HI5.out HB5.out h4.out).mono ?_
              rintro e w9 ⟨v9, rfl, hr, hi, hb, hk⟩
              refine ⟨_, rfl, ?_⟩
              obtain ⟨A9, c9, eo9⟩ := Kd.R_slice hr
              subst eo9
              have HT6 := Am ((HT4.out.below (below_drew (Below.refl _ _))).stack hi hb hk hr)
              clear hi hb hk hr HI5 HB5
              obtain ⟨⟨ve, hx6⟩, hf6, HP6⟩ := stk_put HT6.out.2.1 HT6.out.2.2 a1 CC.out CQ.out
              replace HP6 := Am HP6
              refine hK.out _ _ ⟨HT6.out.1.box, HT6.out.1.f1⟩ (fun hHeld => ?_)
              clear hK K
              refine norm_ (a' := ?_) ?_ ?_
              rotate_left
              ·
               show Act.put _ (some 46) _ = _
               simp only [Act.put, sI, sZ, sS, i64_w, i32_w]
               rfl
              refine pure_ (i := 5) (N := some 47) (v := ?_) (a' := ?_) q4_6 rfl rfl (by kernel_rfl) (fun _ _ _ h => h) (Or.inl ⟨by rfl, ?_⟩) ?_ ?_
              rotate_left
              ·
               intro w'
               go_simp
               with_reducible rfl
              rotate_left
              ·
               simp only [Act.put, sI, sZ, sS, i64_w, i32_w]
               rfl
              refine last_ (i := 6) (N := none) q4_7 rfl rfl (by kernel_rfl) (by decide) (fun K hK => ?_)
              refine skip_ (w1 := ?_) (by rfl) rfl ?_ ?_
              rotate_left
              ·
               go_simp
               rfl
              refine hK.out _ _ ?_
              clear hK K
              refine done_ (by kernel_rfl) ?_
              have HT7 := Am (HT6.out.1.stk (bs HT6.out.1.b HGB.out) HP6.out.2 HP6.out.1)
              clear HP6 hx6 hf6 hHeld HT6 HT4
              go_wp2
              go_roundg k2
              case measure => have := HK1.out; omega
              case rel => exact ⟨_, _, _, _, _, _, _, rfl, H, ⟨by have := HK1.out; omega⟩, HT7⟩
             ·
              simp only [Sum.elim_inr, Option.some.injEq] at H
              subst H
              replace h4 := Am h4
              refine start_ (n := 7) (S := fun w' => w'.cell? ⟨w.heap.size, 0, none⟩ = some (.pointer (some ⟨g, 0, none⟩)) ∧ w'.cell? ⟨w3.heap.size, 1, none⟩ = some (.slice (some ⟨gb, 0, none⟩) Y2.length co4)) (ds := [6]) q4_0 (by kernel_rfl) rfl rfl ⟨HT4.out.box, HT4.out.f1⟩ (fun hHeld => ?_)
              refine pure_ (i := 0) (N := some 42) (v := ?_) (a' := ?_) q4_1 rfl rfl (by kernel_rfl) (fun _ _ _ h => h) (Or.inl ⟨by rfl, ?_⟩) ?_ ?_
              rotate_left
              ·
               intro w'
               go_simp
               with_reducible rfl
              rotate_left
              ·
               simp only [Act.put, sI, sZ, sS, i64_w, i32_w]
               rfl
              refine pure_ (i := 2) (N := some 44) (v := ?_) (a' := ?_) q4_2 rfl rfl (by kernel_rfl) (fun _ _ _ h => h) (Or.inl ⟨by rfl, ?_⟩) ?_ ?_
              rotate_left
              ·
               intro w'
               go_simp
               with_reducible rfl
              rotate_left
              ·
               simp only [Act.put, sI, sZ, sS, i64_w, i32_w]
               rfl
              refine take_ (i := 1) (N := some 43) (v := ?_) (a' := ?_) q4_3 rfl rfl (by kernel_rfl) (fun _ _ _ h => h) (Or.inl ⟨by rfl, ?_⟩) hHeld ?_ ?_
              rotate_left
              ·
               rintro w' ⟨s0, s1⟩
               go_simp
               with_reducible rfl
              rotate_left
              ·
               simp only [Act.put, sI, sZ, sS, i64_w, i32_w]
               rfl
              refine take_ (i := 3) (N := some 45) (v := ?_) (a' := ?_) q4_4 rfl rfl (by kernel_rfl) (fun _ _ _ h => h) (Or.inl ⟨by rfl, ?_⟩) hHeld ?_ ?_
              rotate_left
              ·
               rintro w' ⟨s0, s1⟩
               go_simp
               with_reducible rfl
              rotate_left
              ·
               simp only [Act.put, sI, sZ, sS, i64_w, i32_w]
               rfl
              refine one_ (i := 4) (N := some 46) q4_5 rfl rfl (by kernel_rfl) (by decide) (fun K hK => ?_)
              refine Own.goesP_ Try.func42 (by kernel_rfl) rfl #[.agg #[.pointer (some ⟨g, 0, none⟩)]] (by rfl) rfl (by (try simp only [List.map_toArray, List.map_cons, List.map_nil]); first | done | rfl | (simp only [List.length_drop, List.length_take]; rfl)) ?_
              with_reducible refine (table_decoder_stack.bad k2 g a2 a3 a4 a5 x y w0 _ HI5.out HB5.out h4.out).mono ?_
              rintro e w9 ⟨rfl, hb, hk⟩
              refine ⟨_, rfl, ?_⟩
              exact ⟨rfl, rfl, hb, (HT4.out.below (below_drew (Below.refl _ _))).k.trans hk (.inl rfl)⟩
            ·
             simp [if_neg c3] at H
           ·
            simp only [Sum.elim_inr, Option.some.injEq] at H
            subst H
            replace h3 := Am h3
            go_wp2_with (go_at_call 40; (with_reducible refine (table_decoder_id.bad k2 g p0 p1 p2 p3 xs w.heap.size (fun _ => True) (.slice Ao3 X2.length co3) x y w0 _ HI1.out HB1.out HR1.out h3.out).mono ?_); rintro e w8 ⟨rfl, hb, hk⟩)
            exact ⟨rfl, rfl, hb, HT.out.k.trans hk (.inl rfl)⟩
          ·
           rw [if_neg c2] at H
           have c2b0 : decide (i < (X2.length : Int)) = false := decide_eq_false c2
           clear c2
           simp only [Option.some.injEq] at H
           subst H
           have hf0 := HT.out.f0
           have hf1 := HT.out.f1
           have hx0 := (bc HT.out.x1 0).trans rfl
           have hx1 := (bc HT.out.x1 1).trans rfl
           have hz0 := bf HT.out.x1 0
           have hz1 := bf HT.out.x1 1
           go_wp2
           have HQ := HT.out.last HL.out
           refine bodyPost_ret (results_single rfl (.cell (w.heap.size + 1) 25 #[.slice Ao2 Y.length co2, .slice Ao4 Y2.length co4] (0, 0) _ rfl HQ.1 Try.underlying25 rfl (by kernel_rfl) .nil)) rfl ?_
           exact HQ.2
       ·
        simp [if_neg c4] at H
      ·
       simp only [Sum.elim_inr, Option.some.injEq] at H
       subst H
       replace h5 := Am h5
       go_wp2_with (go_at_call 39; (with_reducible refine (table_decoder_many.bad k1 g p0 p1 p2 p3 10000 x y w0 _ HI1.out HB1.out h5.out).mono ?_); rintro e w4 ⟨rfl, hb, hk⟩)
       exact ⟨rfl, rfl, hb, HT.out.k.trans hk (.inl rfl)⟩
  ·
   simp [if_neg c1] at h2
 ·
  simp only [Sum.elim_inr, Option.some.injEq] at h2
  subst h2
  have A := Am h1
  clear h h1
  go_enter Try.func20, Try.ntmps20
  go_wp2_with (go_at_call 39; (with_reducible refine (table_decoder_many.bad k g s0 s1 s2 s3 10000 x y w0 _ HI.out HB.out A.out).mono ?_); rintro e w1 ⟨rfl, hb, hk⟩)
  exact ⟨rfl, rfl, hb, HT.out.k.trans hk (.inl rfl)⟩

end Go.Proofs.Ytlmmlmmbnfcogaa.Q
