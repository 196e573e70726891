-- printed by a program of this session (NOTES: hprint); not the kit's print
-- minified3
-- minified2
-- minified
-- halved
import Derived.Test.YtlmmlmmbnfcogaaAl
import Derived.Test.YtlmmlmmbnfcogaaQx0
import Derived.Test.YtlmmlmmbnfcogaaQx2
namespace Go.Proofs.Ytlmmlmmbnfcogaa.Q
open Go.RowKit Go.Proofs.YtlmmlmmbnfcogaaW.PrintWords Go.Proofs.YtlmmlmmbnfcogaaW.PrintLast Go.Proofs.YtlmmlmmbnfcogaaW.PrintMore
attribute [local go_sem] max2_int min2_int max_two min_two max_three min_three max_four min_four   -- for this text's walks alone
set_option linter.unusedVariables false
set_option linter.unusedSimpArgs false

def q3_0 : Array Bool := let o := true; let z := false; #[z,z,z,z,z,z,z,z,z,z,z,z,z,z,z,z,z,z]
def q3_1 : Array Bool := let o := true; let z := false; #[z,o,z,z,z,z,z,z,z,z,z,z,z,z,z,z,z,z]
def q3_2 : Array Bool := let o := true; let z := false; #[z,o,o,z,z,z,z,z,z,z,z,z,z,z,z,z,z,z]
def q3_3 : Array Bool := let o := true; let z := false; #[z,o,o,o,z,z,z,z,z,z,z,z,z,z,z,z,z,z]
def q3_4 : Array Bool := let o := true; let z := false; #[z,o,o,o,o,z,z,z,z,z,z,z,z,z,z,z,z,z]
def q3_5 : Array Bool := let o := true; let z := false; #[z,o,o,o,o,o,z,z,z,z,z,z,z,z,z,z,z,z]
def q3_6 : Array Bool := let o := true; let z := false; #[z,o,o,o,o,o,o,z,z,z,z,z,z,z,z,z,z,z]
def q3_7 : Array Bool := let o := true; let z := false; #[z,o,o,o,o,o,o,o,z,z,z,z,z,z,z,z,z,z]
def q3_8 : Array Bool := let o := true; let z := false; #[z,o,o,o,o,o,o,o,o,z,z,z,z,z,z,z,z,z]
def q3_9 : Array Bool := let o := true; let z := false; #[z,o,o,o,o,o,o,o,o,o,z,z,z,z,z,z,z,z]
def q3_10 : Array Bool := let o := true; let z := false; #[z,o,o,o,o,o,o,o,o,o,o,z,z,z,z,z,z,z]
def q3_11 : Array Bool := let o := true; let z := false; #[z,o,o,o,o,o,o,o,o,o,o,o,z,z,z,z,z,z]
def q3_12 : Array Bool := let o := true; let z := false; #[z,o,o,o,o,o,o,o,o,o,o,o,o,z,z,z,z,z]
def q3_13 : Array Bool := let o := true; let z := false; #[z,o,o,o,o,o,o,o,o,o,o,o,o,o,z,z,z,z]
def q3_14 : Array Bool := let o := true; let z := false; #[o,o,o,o,o,o,o,o,o,o,o,o,o,o,z,z,z,z]
def q3_15 : Array Bool := let o := true; let z := false; #[o,o,o,o,o,o,o,o,o,o,o,o,o,o,o,z,z,z]
def q3_16 : Array Bool := let o := true; let z := false; #[o,o,o,o,o,o,o,o,o,o,o,o,o,o,o,o,z,z]
def q3_17 : Array Bool := let o := true; let z := false; #[o,o,o,o,o,o,o,o,o,o,o,o,o,o,o,o,o,z]
def q3_18 : Array Bool := let o := true; let z := false; #[o,o,o,o,o,o,o,o,o,o,o,o,o,o,o,o,o,o]
def q3_19 : Array Bool := let o := true; let z := false; #[z,o,o,o,o,o,o,o,o,o,o,o,o,o,o,o,z,z]
def q3_20 : Array Bool := let o := true; let z := false; #[z,o,o,o,o,o,o,o,o,o,o,o,o,o,o,o,o,z]
/-! ### wire_Reader_Num: function 63 -/
def wire_Reader_Num.f (k : Nat) (s0_0 : ByteArray) (s0_1 : Int) (s0_2 : Int) (s0_3 : Int) : Option (Int × ByteArray × Int × Int × Int) := (wire_Reader_ok.f s0_0 s0_1 s0_2 s0_3).bind fun bt105 => (if bt105.1 = true then ((varint_Take.f k bt105.2.1 bt105.2.2.1).bind fun bt110 => (if bt110.2.2 = 0 then (some (bt110.1, bt105.2.1, bt110.2.1, bt105.2.2.2.1, bt105.2.2.2.2)) else ((wire_Reader_fail.f bt105.2.1 bt105.2.2.1 bt105.2.2.2.1 bt105.2.2.2.2 bt110.2.2 bt105.2.2.1).bind fun bt113 => (some (0, bt113.1, bt113.2.1, bt113.2.2.1, bt113.2.2.2))))) else (some (0, bt105.2.1, bt105.2.2.1, bt105.2.2.2.1, bt105.2.2.2.2)))
theorem wire_Reader_Num.mono : ∀ a0 a1 a2 a3 k, LeO (wire_Reader_Num.f k a0 a1 a2 a3) (wire_Reader_Num.f (k + 1) a0 a1 a2 a3) := by
 intro a0 a1 a2 a3 k
 unfold wire_Reader_Num.f
 repeat' first
   | (with_reducible exact varint_Take.mono _ _ _)
   | (with_reducible exact LeO.refl _)
   | (with_reducible exact LeO.none _)
   | (with_reducible refine LeO.ite ?_ ?_)
   | (with_reducible refine LeO.bind ?_ (fun _ => ?_))
   | exact LeO.none _
   | refine LeO.ite ?_ ?_
   | refine LeO.bind ?_ (fun _ => ?_)
set_option maxHeartbeats 8000000 in
set_option maxRecDepth 100000 in
theorem wire_Reader_Num.calls (k : Nat) (g : Nat) (s0_0 : ByteArray) (s0_1 : Int) (s0_2 : Int) (s0_3 : Int) (r1 : Int) (r2 : ByteArray) (r3 : Int) (r4 : Int) (r5 : Int) (w0 w : World) (hI : IsS77 w0 w g s0_0 s0_1 s0_2 s0_3) (hB : Below w0.heap.size w0 w) (h : wire_Reader_Num.f k s0_0 s0_1 s0_2 s0_3 = some (r1, r2, r3, r4, r5)) :
  Calls Try.prog 63 #[.pointer (some ⟨g, 0, none⟩)] w fun e w' => e = .returned (.int .i64 r1) ∧ IsS77 w0 w' g r2 r3 r4 r5 ∧ Below w0.heap.size w0 w' ∧ KeepBut w w' g none := by
 have HI0 := Am hI
 have HK := Am (KeepBut.refl w g none)
 have HL := Am hB.size
 clear hI
 have HW0 := Am hB.size
 have HB := Am hB
 clear hB
 have H : ((wire_Reader_ok.f s0_0 s0_1 s0_2 s0_3).bind fun bt105 => (if bt105.1 = true then ((varint_Take.f k bt105.2.1 bt105.2.2.1).bind fun bt110 => (if bt110.2.2 = 0 then (some (bt110.1, bt105.2.1, bt110.2.1, bt105.2.2.2.1, bt105.2.2.2.2)) else ((wire_Reader_fail.f bt105.2.1 bt105.2.2.1 bt105.2.2.2.1 bt105.2.2.2.2 bt110.2.2 bt105.2.2.1).bind fun bt113 => (some (0, bt113.1, bt113.2.1, bt113.2.2.1, bt113.2.2.2))))) else (some (0, bt105.2.1, bt105.2.2.1, bt105.2.2.2.1, bt105.2.2.2.2)))) = some (r1, r2, r3, r4, r5) := h
 clear h
 replace H := ob H
 obtain ⟨⟨t105, t106, t107, t108, t109⟩, A20, H⟩ := H
 (try dsimp only at H)
 have A2 := Am A20
 clear A20
 by_cases c3 : t105 = true
 ·
  subst c3
  rw [if_pos rfl] at H
  replace H := ob H
  obtain ⟨⟨t110, t111, t112⟩, A40, H⟩ := H
  (try dsimp only at H)
  have A4 := Am A40
  clear A40
  by_cases c5 : t112 = 0
  ·
   rw [if_pos c5] at H
   have c5b0 : (t112 == 0) = true := beq_iff_eq.mpr c5
   have c5b1 : (t112 != 0) = false := bne_eq_false_iff_eq.mpr c5
   clear c5
   simp only [Option.some.injEq, Prod.mk.injEq] at H
   obtain ⟨rfl, rfl, rfl, rfl, rfl⟩ := H
   go_enter Try.func63, Try.ntmps63
   go_wp2_with (first | (go_at_call 43; (with_reducible refine (wire_Reader_ok.calls g s0_0 s0_1 s0_2 s0_3 true t106 t107 t108 t109 w0 _ ?side1 ?side2 A2.out).mono ?_); (case side1 => exact z4); (case side2 => exact z5); rintro e w6 ⟨rfl, hi, hb, hk⟩; replace HK := Am (KeepBut.trans (z1) hk (.inl rfl)); replace HB := Am (hb); replace HI0 := Am (hi); (try clear hb); (try clear hb2); (try clear hk); (try clear hi); obtain ⟨HGz7, hgz7⟩ := HI0.out; have hcz7_0 := cellS77_0 HGz7; have hcz7_1 := cellS77_1 HGz7; have hcz7_2 := cellS77_2 HGz7; have hcz7_3 := cellS77_3 HGz7; have hfz7_0 := bf HGz7 0; have hfz7_1 := bf HGz7 1; have hfz7_2 := bf HGz7 2; have hfz7_3 := bf HGz7 3; clear HGz7 hgz7) | (go_at_call 68; (with_reducible refine (varint_Take.calls k t106 t107 t110 t111 t112 _ A4.out).mono ?_); rintro e w' ⟨rfl, ⟨nd, rfl⟩⟩; (try first | exact ⟨rfl, _, World.drewN_drewN _ _ _⟩ | exact ⟨rfl, _, Eq.trans (World.drewN_drewN _ _ _) (congrArg (World.drewN _) (Nat.add_assoc _ _ _))⟩)))
   repeat (go_quiet (first | (go_at_call 43; (with_reducible refine (wire_Reader_ok.calls g s0_0 s0_1 s0_2 s0_3 true t106 t107 t108 t109 w0 _ ?side1 ?side2 A2.out).mono ?_); (case side1 => exact z4); (case side2 => exact z5); rintro e w6 ⟨rfl, hi, hb, hk⟩; replace HK := Am (KeepBut.trans (z1) hk (.inl rfl)); replace HB := Am (hb); replace HI0 := Am (hi); (try clear hb); (try clear hb2); (try clear hk); (try clear hi); obtain ⟨HGz7, hgz7⟩ := HI0.out; have hcz7_0 := cellS77_0 HGz7; have hcz7_1 := cellS77_1 HGz7; have hcz7_2 := cellS77_2 HGz7; have hcz7_3 := cellS77_3 HGz7; have hfz7_0 := bf HGz7 0; have hfz7_1 := bf HGz7 1; have hfz7_2 := bf HGz7 2; have hfz7_3 := bf HGz7 3; clear HGz7 hgz7) | (go_at_call 68; (with_reducible refine (varint_Take.calls k t106 t107 t110 t111 t112 _ A4.out).mono ?_); rintro e w' ⟨rfl, ⟨nd, rfl⟩⟩; (try first | exact ⟨rfl, _, World.drewN_drewN _ _ _⟩ | exact ⟨rfl, _, Eq.trans (World.drewN_drewN _ _ _) (congrArg (World.drewN _) (Nat.add_assoc _ _ _))⟩))); try go_wp2_with (first | (go_at_call 43; (with_reducible refine (wire_Reader_ok.calls g s0_0 s0_1 s0_2 s0_3 true t106 t107 t108 t109 w0 _ ?side1 ?side2 A2.out).mono ?_); (case side1 => exact z4); (case side2 => exact z5); rintro e w6 ⟨rfl, hi, hb, hk⟩; replace HK := Am (KeepBut.trans (z1) hk (.inl rfl)); replace HB := Am (hb); replace HI0 := Am (hi); (try clear hb); (try clear hb2); (try clear hk); (try clear hi); obtain ⟨HGz7, hgz7⟩ := HI0.out; have hcz7_0 := cellS77_0 HGz7; have hcz7_1 := cellS77_1 HGz7; have hcz7_2 := cellS77_2 HGz7; have hcz7_3 := cellS77_3 HGz7; have hfz7_0 := bf HGz7 0; have hfz7_1 := bf HGz7 1; have hfz7_2 := bf HGz7 2; have hfz7_3 := bf HGz7 3; clear HGz7 hgz7) | (go_at_call 68; (with_reducible refine (varint_Take.calls k t106 t107 t110 t111 t112 _ A4.out).mono ?_); rintro e w' ⟨rfl, ⟨nd, rfl⟩⟩; (try first | exact ⟨rfl, _, World.drewN_drewN _ _ _⟩ | exact ⟨rfl, _, Eq.trans (World.drewN_drewN _ _ _) (congrArg (World.drewN _) (Nat.add_assoc _ _ _))⟩))))
   go_ret
   exact ⟨y0, z4, z5, z1⟩
  ·
   rw [if_neg c5] at H
   have c5b0 : (t112 == 0) = false := beq_eq_false_iff_ne.mpr c5
   have c5b1 : (t112 != 0) = true := bne_iff_ne.mpr c5
   replace H := ob H
   obtain ⟨⟨t113, t114, t115, t116⟩, A80, H⟩ := H
   (try dsimp only at H)
   have A8 := Am A80
   clear A80
   simp only [Option.some.injEq, Prod.mk.injEq] at H
   obtain ⟨rfl, rfl, rfl, rfl, rfl⟩ := H
   go_enter Try.func63, Try.ntmps63
   go_wp2_with (first | (go_at_call 43; (with_reducible refine (wire_Reader_ok.calls g s0_0 s0_1 s0_2 s0_3 true t106 t107 t108 t109 w0 _ ?side1 ?side2 A2.out).mono ?_); (case side1 => exact z4); (case side2 => exact z5); rintro e w9 ⟨rfl, hi, hb, hk⟩; replace HK := Am (KeepBut.trans (z1) hk (.inl rfl)); replace HB := Am (hb); replace HI0 := Am (hi); (try clear hb); (try clear hb2); (try clear hk); (try clear hi); obtain ⟨HGz10, hgz10⟩ := HI0.out; have hcz10_0 := cellS77_0 HGz10; have hcz10_1 := cellS77_1 HGz10; have hcz10_2 := cellS77_2 HGz10; have hcz10_3 := cellS77_3 HGz10; have hfz10_0 := bf HGz10 0; have hfz10_1 := bf HGz10 1; have hfz10_2 := bf HGz10 2; have hfz10_3 := bf HGz10 3; clear HGz10 hgz10) | (go_at_call 68; (with_reducible refine (varint_Take.calls k t106 t107 t110 t111 t112 _ A4.out).mono ?_); rintro e w' ⟨rfl, ⟨nd, rfl⟩⟩; (try first | exact ⟨rfl, _, World.drewN_drewN _ _ _⟩ | exact ⟨rfl, _, Eq.trans (World.drewN_drewN _ _ _) (congrArg (World.drewN _) (Nat.add_assoc _ _ _))⟩)) | (go_at_call 69; (with_reducible refine (wire_Reader_fail.calls g t106 t107 t108 t109 t112 t107 t113 t114 t115 t116 w0 _ ?side1 ?side2 A8.out).mono ?_); (case side1 => exact z4); (case side2 => exact z5); rintro e w11 ⟨rfl, hi, hb, hk⟩; replace HK := Am (KeepBut.trans (z1) hk (.inl rfl)); replace HB := Am (hb); replace HI0 := Am (hi); (try clear hb); (try clear hb2); (try clear hk); (try clear hi)))
   repeat (go_quiet (first | (go_at_call 43; (with_reducible refine (wire_Reader_ok.calls g s0_0 s0_1 s0_2 s0_3 true t106 t107 t108 t109 w0 _ ?side1 ?side2 A2.out).mono ?_); (case side1 => exact z4); (case side2 => exact z5); rintro e w9 ⟨rfl, hi, hb, hk⟩; replace HK := Am (KeepBut.trans (z1) hk (.inl rfl)); replace HB := Am (hb); replace HI0 := Am (hi); (try clear hb); (try clear hb2); (try clear hk); (try clear hi); obtain ⟨HGz10, hgz10⟩ := HI0.out; have hcz10_0 := cellS77_0 HGz10; have hcz10_1 := cellS77_1 HGz10; have hcz10_2 := cellS77_2 HGz10; have hcz10_3 := cellS77_3 HGz10; have hfz10_0 := bf HGz10 0; have hfz10_1 := bf HGz10 1; have hfz10_2 := bf HGz10 2; have hfz10_3 := bf HGz10 3; clear HGz10 hgz10) | (go_at_call 68; (with_reducible refine (varint_Take.calls k t106 t107 t110 t111 t112 _ A4.out).mono ?_); rintro e w' ⟨rfl, ⟨nd, rfl⟩⟩; (try first | exact ⟨rfl, _, World.drewN_drewN _ _ _⟩ | exact ⟨rfl, _, Eq.trans (World.drewN_drewN _ _ _) (congrArg (World.drewN _) (Nat.add_assoc _ _ _))⟩)) | (go_at_call 69; (with_reducible refine (wire_Reader_fail.calls g t106 t107 t108 t109 t112 t107 t113 t114 t115 t116 w0 _ ?side1 ?side2 A8.out).mono ?_); (case side1 => exact z4); (case side2 => exact z5); rintro e w11 ⟨rfl, hi, hb, hk⟩; replace HK := Am (KeepBut.trans (z1) hk (.inl rfl)); replace HB := Am (hb); replace HI0 := Am (hi); (try clear hb); (try clear hb2); (try clear hk); (try clear hi))); try go_wp2_with (first | (go_at_call 43; (with_reducible refine (wire_Reader_ok.calls g s0_0 s0_1 s0_2 s0_3 true t106 t107 t108 t109 w0 _ ?side1 ?side2 A2.out).mono ?_); (case side1 => exact z4); (case side2 => exact z5); rintro e w9 ⟨rfl, hi, hb, hk⟩; replace HK := Am (KeepBut.trans (z1) hk (.inl rfl)); replace HB := Am (hb); replace HI0 := Am (hi); (try clear hb); (try clear hb2); (try clear hk); (try clear hi); obtain ⟨HGz10, hgz10⟩ := HI0.out; have hcz10_0 := cellS77_0 HGz10; have hcz10_1 := cellS77_1 HGz10; have hcz10_2 := cellS77_2 HGz10; have hcz10_3 := cellS77_3 HGz10; have hfz10_0 := bf HGz10 0; have hfz10_1 := bf HGz10 1; have hfz10_2 := bf HGz10 2; have hfz10_3 := bf HGz10 3; clear HGz10 hgz10) | (go_at_call 68; (with_reducible refine (varint_Take.calls k t106 t107 t110 t111 t112 _ A4.out).mono ?_); rintro e w' ⟨rfl, ⟨nd, rfl⟩⟩; (try first | exact ⟨rfl, _, World.drewN_drewN _ _ _⟩ | exact ⟨rfl, _, Eq.trans (World.drewN_drewN _ _ _) (congrArg (World.drewN _) (Nat.add_assoc _ _ _))⟩)) | (go_at_call 69; (with_reducible refine (wire_Reader_fail.calls g t106 t107 t108 t109 t112 t107 t113 t114 t115 t116 w0 _ ?side1 ?side2 A8.out).mono ?_); (case side1 => exact z4); (case side2 => exact z5); rintro e w11 ⟨rfl, hi, hb, hk⟩; replace HK := Am (KeepBut.trans (z1) hk (.inl rfl)); replace HB := Am (hb); replace HI0 := Am (hi); (try clear hb); (try clear hb2); (try clear hk); (try clear hi))))
   go_ret
   exact ⟨y0, z4, z5, z1⟩
 ·
  replace c3 := Bool.eq_false_iff.mpr c3
  subst c3
  rw [if_neg (show ¬ (false = true) by decide)] at H
  simp only [Option.some.injEq, Prod.mk.injEq] at H
  obtain ⟨rfl, rfl, rfl, rfl, rfl⟩ := H
  go_enter Try.func63, Try.ntmps63
  go_wp2_with (first | (go_at_call 43; (with_reducible refine (wire_Reader_ok.calls g s0_0 s0_1 s0_2 s0_3 false t106 t107 t108 t109 w0 _ ?side1 ?side2 A2.out).mono ?_); (case side1 => exact z4); (case side2 => exact z5); rintro e w12 ⟨rfl, hi, hb, hk⟩; replace HK := Am (KeepBut.trans (z1) hk (.inl rfl)); replace HB := Am (hb); replace HI0 := Am (hi); (try clear hb); (try clear hb2); (try clear hk); (try clear hi)))
  repeat (go_quiet (first | (go_at_call 43; (with_reducible refine (wire_Reader_ok.calls g s0_0 s0_1 s0_2 s0_3 false t106 t107 t108 t109 w0 _ ?side1 ?side2 A2.out).mono ?_); (case side1 => exact z4); (case side2 => exact z5); rintro e w12 ⟨rfl, hi, hb, hk⟩; replace HK := Am (KeepBut.trans (z1) hk (.inl rfl)); replace HB := Am (hb); replace HI0 := Am (hi); (try clear hb); (try clear hb2); (try clear hk); (try clear hi))); try go_wp2_with (first | (go_at_call 43; (with_reducible refine (wire_Reader_ok.calls g s0_0 s0_1 s0_2 s0_3 false t106 t107 t108 t109 w0 _ ?side1 ?side2 A2.out).mono ?_); (case side1 => exact z4); (case side2 => exact z5); rintro e w12 ⟨rfl, hi, hb, hk⟩; replace HK := Am (KeepBut.trans (z1) hk (.inl rfl)); replace HB := Am (hb); replace HI0 := Am (hi); (try clear hb); (try clear hb2); (try clear hk); (try clear hi))))
  go_ret
  exact ⟨y0, z4, z5, z1⟩

/-! ### table_decoder_num: function 53, by hand -/
/-- What a method of the decoder's comes to: what it hands back and the reader behind it, or an error and a place. -/
abbrev Dec (α : Type) := Option ((α × ByteArray × Int × Int × Int) ⊕ (Int × Int))
theorem LeO.dec {α β : Type} {a b : Dec α} {f g : α × ByteArray × Int × Int × Int → Dec β} (h : LeO a b) (hf : ∀ x, LeO (f x) (g x)) : LeO (a.bind fun x => Sum.elim f (fun y => some (.inr y)) x) (b.bind fun x => Sum.elim g (fun y => some (.inr y)) x) :=
 LeO.bind h (fun x => by cases x with | inl x => exact hf x | inr y => exact LeO.refl _)
def table_decoder_num.f (k : Nat) (s0 : ByteArray) (s1 s2 s3 : Int) : Dec Int := (wire_Reader_Num.f k s0 s1 s2 s3).bind fun t => some (if t.2.2.2.1 = 0 then .inl t else .inr (t.2.2.2.1, t.2.2.2.2))
theorem table_decoder_num.mono : ∀ a0 a1 a2 a3 k, LeO (table_decoder_num.f k a0 a1 a2 a3) (table_decoder_num.f (k + 1) a0 a1 a2 a3) := fun a0 a1 a2 a3 k => LeO.bind (wire_Reader_Num.mono a0 a1 a2 a3 k) (fun _ => LeO.refl _)
theorem table_decoder_num.ok_of {k : Nat} {s0 : ByteArray} {s1 s2 s3 : Int} {r1 : Int} {r2 : ByteArray} {r3 r4 r5 : Int} (h : table_decoder_num.f k s0 s1 s2 s3 = some (.inl (r1, r2, r3, r4, r5))) : wire_Reader_Num.f k s0 s1 s2 s3 = some (r1, r2, r3, r4, r5) ∧ r4 = 0 := by
 obtain ⟨⟨t1, t2, t3, t4, t5⟩, h1, h2⟩ := ob h
 by_cases c : t4 = 0
 ·
  simp only [if_pos c, Option.some.injEq, Sum.inl.injEq, Prod.mk.injEq] at h2
  obtain ⟨rfl, rfl, rfl, rfl, rfl⟩ := h2
  exact ⟨h1, c⟩
 ·
  simp [if_neg c] at h2
theorem table_decoder_num.bad_of {k : Nat} {s0 : ByteArray} {s1 s2 s3 : Int} {x y : Int} (h : table_decoder_num.f k s0 s1 s2 s3 = some (.inr (x, y))) : ∃ r1 r2 r3, wire_Reader_Num.f k s0 s1 s2 s3 = some (r1, r2, r3, x, y) ∧ ¬ x = 0 := by
 obtain ⟨⟨t1, t2, t3, t4, t5⟩, h1, h2⟩ := ob h
 by_cases c : t4 = 0
 ·
  simp [if_pos c] at h2
 ·
  simp only [if_neg c, Option.some.injEq, Sum.inr.injEq, Prod.mk.injEq] at h2
  obtain ⟨rfl, rfl⟩ := h2
  exact ⟨_, _, _, h1, c⟩
set_option maxHeartbeats 2000000 in
set_option maxRecDepth 100000 in
theorem table_decoder_num.ok (k g : Nat) (s0 : ByteArray) (s1 s2 s3 : Int) (r1 : Int) (r2 : ByteArray) (r3 r4 r5 : Int) (w0 w : World) (hI : IsS77 w0 w g s0 s1 s2 s3) (hB : Below w0.heap.size w0 w) (h : table_decoder_num.f k s0 s1 s2 s3 = some (.inl (r1, r2, r3, r4, r5))) :
  Calls Try.prog 53 #[.agg #[.pointer (some ⟨g, 0, none⟩)]] w fun e w' => e = .returned (.int .i64 r1) ∧ IsS77 w0 w' g r2 r3 r4 r5 ∧ Below w0.heap.size w0 w' ∧ KeepBut w w' g none := by
 obtain ⟨A0, rfl⟩ := table_decoder_num.ok_of h
 have A := Am A0
 clear h A0
 go_enter Try.func53, Try.ntmps53
 go_wp2_with (first | (go_at_call 63; (with_reducible refine (wire_Reader_Num.calls k g s0 s1 s2 s3 r1 r2 r3 0 r5 w0 _ (IsS77.alloc hI _) (bl hB _) A.out).mono ?_); rintro e w1 ⟨rfl, hi, hb, hk⟩; have hc := keep_cell hk (dec_box w g) (IsS77.fresh hI _ (Nat.le_refl _))) | (go_at_call 56; (with_reducible refine (table_decoder_sound.ok g r2 r3 r5 w0 _ hi hb).mono ?_); rintro e w2 ⟨rfl, hi2, hb2, hk2⟩))
 go_ret
 exact ⟨rfl, hi2, hb2, KeepBut.trans (KeepBut.trans (keep_alloc (KeepBut.refl _ _ _) _) hk (.inl rfl)) hk2 (.inl rfl)⟩
set_option maxHeartbeats 2000000 in
set_option maxRecDepth 100000 in
theorem table_decoder_num.bad (k g : Nat) (s0 : ByteArray) (s1 s2 s3 : Int) (x y : Int) (w0 w : World) (hI : IsS77 w0 w g s0 s1 s2 s3) (hB : Below w0.heap.size w0 w) (h : table_decoder_num.f k s0 s1 s2 s3 = some (.inr (x, y))) :
  Calls Try.prog 53 #[.agg #[.pointer (some ⟨g, 0, none⟩)]] w fun e w' => e = .panicked [{ v := wrongV x y, recovered := false }] ∧ Below w0.heap.size w0 w' ∧ KeepBut w w' g none := by
 obtain ⟨r1, r2, r3, A0, hx⟩ := table_decoder_num.bad_of h
 have A := Am A0
 clear h A0
 go_enter Try.func53, Try.ntmps53
 go_wp2_with (first | (go_at_call 63; (with_reducible refine (wire_Reader_Num.calls k g s0 s1 s2 s3 r1 r2 r3 x y w0 _ (IsS77.alloc hI _) (bl hB _) A.out).mono ?_); rintro e w1 ⟨rfl, hi, hb, hk⟩; have hc := keep_cell hk (dec_box w g) (IsS77.fresh hI _ (Nat.le_refl _))) | (go_at_call 56; (with_reducible refine (table_decoder_sound.bad g r2 r3 x y w0 _ hi hb hx).mono ?_); rintro e w2 ⟨rfl, hb2, hk2⟩))
 exact ⟨rfl, rfl, hb2, KeepBut.trans (KeepBut.trans (keep_alloc (KeepBut.refl _ _ _) _) hk (.inl rfl)) hk2 (.inl rfl)⟩

/-! ### wire_Reader_At: function 64 -/
def wire_Reader_At.f (s0_0 : ByteArray) (s0_1 : Int) (s0_2 : Int) (s0_3 : Int) : Option (Int × ByteArray × Int × Int × Int) := some (s0_1, s0_0, s0_1, s0_2, s0_3)
set_option maxHeartbeats 8000000 in
set_option maxRecDepth 100000 in
theorem wire_Reader_At.calls (g : Nat) (s0_0 : ByteArray) (s0_1 : Int) (s0_2 : Int) (s0_3 : Int) (r1 : Int) (r2 : ByteArray) (r3 : Int) (r4 : Int) (r5 : Int) (w0 w : World) (hI : IsS77 w0 w g s0_0 s0_1 s0_2 s0_3) (hB : Below w0.heap.size w0 w) (h : wire_Reader_At.f s0_0 s0_1 s0_2 s0_3 = some (r1, r2, r3, r4, r5)) :
  Calls Try.prog 64 #[.pointer (some ⟨g, 0, none⟩)] w fun e w' => e = .returned (.int .i64 r1) ∧ IsS77 w0 w' g r2 r3 r4 r5 ∧ Below w0.heap.size w0 w' ∧ KeepBut w w' g none := by
 have HI0 := Am hI
 have HK := Am (KeepBut.refl w g none)
 have HL := Am hB.size
 clear hI
 have HW0 := Am hB.size
 have HB := Am hB
 clear hB
 have H : (some (s0_1, s0_0, s0_1, s0_2, s0_3)) = some (r1, r2, r3, r4, r5) := h
 clear h
 simp only [Option.some.injEq, Prod.mk.injEq] at H
 obtain ⟨rfl, rfl, rfl, rfl, rfl⟩ := H
 obtain ⟨HGz2, hgz2⟩ := HI0.out
 have hcz2_0 := cellS77_0 HGz2
 have hcz2_1 := cellS77_1 HGz2
 have hcz2_2 := cellS77_2 HGz2
 have hcz2_3 := cellS77_3 HGz2
 have hfz2_0 := bf HGz2 0
 have hfz2_1 := bf HGz2 1
 have hfz2_2 := bf HGz2 2
 have hfz2_3 := bf HGz2 3
 clear HGz2 hgz2
 go_enter Try.func64, Try.ntmps64
 go_wp2
 go_ret
 exact ⟨y0, z4, z5, z1⟩

/-! ### table_decoder_need: function 54, by hand -/
set_option maxHeartbeats 2000000 in
set_option maxRecDepth 100000 in
theorem table_decoder_need.ok (g : Nat) (s0 : ByteArray) (s1 s2 s3 : Int) (w0 w : World) (hI : IsS77 w0 w g s0 s1 s2 s3) (hB : Below w0.heap.size w0 w) :
  Calls Try.prog 54 #[.agg #[.pointer (some ⟨g, 0, none⟩)], .bool true] w fun e w' => e = .returned (.tuple #[]) ∧ IsS77 w0 w' g s0 s1 s2 s3 ∧ Below w0.heap.size w0 w' ∧ KeepBut w w' g none := by
 go_enter Try.func54, Try.ntmps54
 go_wp2
 first | go_end0 | refine bodyPost_ret (results_none rfl _ _ _) rfl ?_
 exact ⟨rfl, IsS77.alloc hI _, bl hB _, (keep_alloc (KeepBut.refl _ _ _) _)⟩
set_option maxHeartbeats 2000000 in
set_option maxRecDepth 100000 in
theorem table_decoder_need.bad (g : Nat) (s0 : ByteArray) (s1 s2 s3 : Int) (w0 w : World) (hI : IsS77 w0 w g s0 s1 s2 s3) (hB : Below w0.heap.size w0 w) :
  Calls Try.prog 54 #[.agg #[.pointer (some ⟨g, 0, none⟩)], .bool false] w fun e w' => e = .panicked [{ v := wrongV 70 s1, recovered := false }] ∧ Below w0.heap.size w0 w' ∧ KeepBut w w' g none := by
 go_enter Try.func54, Try.ntmps54
 go_wp2_with (go_at_call 64; (with_reducible refine (wire_Reader_At.calls g s0 s1 s2 s3 s1 s0 s1 s2 s3 w0 _ (IsS77.alloc hI _) (bl hB _) rfl).mono ?_); rintro e w1 ⟨rfl, hi, hb, hk⟩)
 exact ⟨rfl, rfl, hb, KeepBut.trans (keep_alloc (KeepBut.refl _ _ _) _) hk (.inl rfl)⟩

/-! ### table_decoder_many: function 39, by hand -/
def table_decoder_many.f (k : Nat) (s0 : ByteArray) (s1 s2 s3 : Int) (a1 : Int) : Dec Int := (table_decoder_num.f k s0 s1 s2 s3).bind (Sum.elim (fun t => some (if t.1 ≤ a1 then .inl t else .inr (70, t.2.2.1))) (fun y => some (.inr y)))
theorem table_decoder_many.mono : ∀ a0 a1 a2 a3 a4 k, LeO (table_decoder_many.f k a0 a1 a2 a3 a4) (table_decoder_many.f (k + 1) a0 a1 a2 a3 a4) := fun a0 a1 a2 a3 a4 k => LeO.bind (table_decoder_num.mono a0 a1 a2 a3 k) (fun _ => LeO.refl _)
theorem table_decoder_many.ok_of {k : Nat} {s0 : ByteArray} {s1 s2 s3 a1 : Int} {r1 : Int} {r2 : ByteArray} {r3 r4 r5 : Int} (h : table_decoder_many.f k s0 s1 s2 s3 a1 = some (.inl (r1, r2, r3, r4, r5))) : table_decoder_num.f k s0 s1 s2 s3 = some (.inl (r1, r2, r3, r4, r5)) ∧ r1 ≤ a1 := by
 obtain ⟨⟨t1, t2, t3, t4, t5⟩ | ⟨y1, y2⟩, h1, h2⟩ := ob h
 ·
  by_cases c : t1 ≤ a1
  ·
   simp only [Sum.elim_inl, if_pos c, Option.some.injEq, Sum.inl.injEq, Prod.mk.injEq] at h2
   obtain ⟨rfl, rfl, rfl, rfl, rfl⟩ := h2
   exact ⟨h1, c⟩
  ·
   simp [if_neg c] at h2
 ·
  simp at h2
theorem table_decoder_many.bad_of {k : Nat} {s0 : ByteArray} {s1 s2 s3 a1 : Int} {x y : Int} (h : table_decoder_many.f k s0 s1 s2 s3 a1 = some (.inr (x, y))) : table_decoder_num.f k s0 s1 s2 s3 = some (.inr (x, y)) ∨ ∃ r1 r2 r4 r5, table_decoder_num.f k s0 s1 s2 s3 = some (.inl (r1, r2, y, r4, r5)) ∧ ¬ r1 ≤ a1 ∧ x = 70 := by
 obtain ⟨⟨t1, t2, t3, t4, t5⟩ | ⟨y1, y2⟩, h1, h2⟩ := ob h
 ·
  by_cases c : t1 ≤ a1
  ·
   simp [if_pos c] at h2
  ·
   simp only [Sum.elim_inl, if_neg c, Option.some.injEq, Sum.inr.injEq, Prod.mk.injEq] at h2
   obtain ⟨rfl, rfl⟩ := h2
   exact .inr ⟨_, _, _, _, h1, c, rfl⟩
 ·
  simp only [Sum.elim_inr, Option.some.injEq, Sum.inr.injEq, Prod.mk.injEq] at h2
  obtain ⟨rfl, rfl⟩ := h2
  exact .inl h1
set_option maxHeartbeats 2000000 in
set_option maxRecDepth 100000 in
theorem table_decoder_many.ok (k g : Nat) (s0 : ByteArray) (s1 s2 s3 a1 : Int) (r1 : Int) (r2 : ByteArray) (r3 r4 r5 : Int) (w0 w : World) (hI : IsS77 w0 w g s0 s1 s2 s3) (hB : Below w0.heap.size w0 w) (h : table_decoder_many.f k s0 s1 s2 s3 a1 = some (.inl (r1, r2, r3, r4, r5))) :
  Calls Try.prog 39 #[.agg #[.pointer (some ⟨g, 0, none⟩)], .int .i64 a1] w fun e w' => e = .returned (.int .i64 r1) ∧ IsS77 w0 w' g r2 r3 r4 r5 ∧ Below w0.heap.size w0 w' ∧ KeepBut w w' g none := by
 obtain ⟨A0, c⟩ := table_decoder_many.ok_of h
 have A := Am A0
 have c0 : decide (r1 ≤ a1) = true := decide_eq_true c
 clear h A0 c
 go_enter Try.func39, Try.ntmps39
 go_wp2_with (first | (go_at_call 53; (with_reducible refine (table_decoder_num.ok k g s0 s1 s2 s3 r1 r2 r3 r4 r5 w0 _ (IsS77.alloc hI _) (bl hB _) A.out).mono ?_); rintro e w1 ⟨rfl, hi, hb, hk⟩; have hc := keep_cell hk (dec_box w g) (IsS77.fresh hI _ (Nat.le_refl _))) | (go_at_call 54; (try rw [c0]); (with_reducible refine (table_decoder_need.ok g r2 r3 r4 r5 w0 _ hi hb).mono ?_); rintro e w2 ⟨rfl, hi2, hb2, hk2⟩))
 go_ret
 exact ⟨rfl, hi2, hb2, KeepBut.trans (KeepBut.trans (keep_alloc (KeepBut.refl _ _ _) _) hk (.inl rfl)) hk2 (.inl rfl)⟩
set_option maxHeartbeats 2000000 in
set_option maxRecDepth 100000 in
theorem table_decoder_many.bad (k g : Nat) (s0 : ByteArray) (s1 s2 s3 a1 : Int) (x y : Int) (w0 w : World) (hI : IsS77 w0 w g s0 s1 s2 s3) (hB : Below w0.heap.size w0 w) (h : table_decoder_many.f k s0 s1 s2 s3 a1 = some (.inr (x, y))) :
  Calls Try.prog 39 #[.agg #[.pointer (some ⟨g, 0, none⟩)], .int .i64 a1] w fun e w' => e = .panicked [{ v := wrongV x y, recovered := false }] ∧ Below w0.heap.size w0 w' ∧ KeepBut w w' g none := by
 rcases table_decoder_many.bad_of h with A0 | ⟨r1, r2, r4, r5, A0, c, rfl⟩
 ·
  have A := Am A0
  clear h A0
  go_enter Try.func39, Try.ntmps39
  go_wp2_with (first | (go_at_call 53; (with_reducible refine (table_decoder_num.bad k g s0 s1 s2 s3 x y w0 _ (IsS77.alloc hI _) (bl hB _) A.out).mono ?_); rintro e w1 ⟨rfl, hb, hk⟩))
  exact ⟨rfl, rfl, hb, KeepBut.trans (keep_alloc (KeepBut.refl _ _ _) _) hk (.inl rfl)⟩
 ·
  have A := Am A0
  have c0 : decide (r1 ≤ a1) = false := decide_eq_false c
  clear h A0 c
  go_enter Try.func39, Try.ntmps39
  go_wp2_with (first | (go_at_call 53; (with_reducible refine (table_decoder_num.ok k g s0 s1 s2 s3 r1 r2 y r4 r5 w0 _ (IsS77.alloc hI _) (bl hB _) A.out).mono ?_); rintro e w1 ⟨rfl, hi, hb, hk⟩; have hc := keep_cell hk (dec_box w g) (IsS77.fresh hI _ (Nat.le_refl _))) | (go_at_call 54; (try rw [c0]); (with_reducible refine (table_decoder_need.bad g r2 y r4 r5 w0 _ hi hb).mono ?_); rintro e w2 ⟨rfl, hb2, hk2⟩))
  exact ⟨rfl, rfl, hb2, KeepBut.trans (KeepBut.trans (keep_alloc (KeepBut.refl _ _ _) _) hk (.inl rfl)) hk2 (.inl rfl)⟩

/-! ### table_decoder_id: function 40, by hand -/
def table_decoder_id.T2 : Bool × List (List Nat × List Nat) := (true, [([], []), ([], []), ([1], [1]), ([2], [2]), ([3], [3]), ([3], [3]), ([5, 3], [3, 5]), ([4, 6, 3], [3, 4, 6]), ([3, 7], [3, 7]), ([8, 3], [8]), ([9], [9]), ([9], [9]), ([11, 9], [9, 11]), ([10, 12, 9], [9, 10, 12]), ([13, 9], [9, 13]), ([14, 9], [9, 14]), ([9, 15], [9, 15]), ([0, 16, 9], [0, 16])])
def table_decoder_id.B2 : List Nat := [0, 0, 2, 6, 14, 14, 46, 126, 254, 510, 1022, 1022, 3070, 8190, 16382, 32766, 65534, 131071]
theorem table_decoder_id.tab2 : rtab .any (opsOf Try.f40 2) = table_decoder_id.T2 := by kernel_rfl
theorem table_decoder_id.bits2 : waitsOk table_decoder_id.T2.2 table_decoder_id.B2 = true := by kernel_rfl
def table_decoder_id.f (k : Nat) (s0 : ByteArray) (s1 s2 s3 : Int) (xs : List Bool) : Dec Int := (table_decoder_num.f k s0 s1 s2 s3).bind (Sum.elim (fun t => if xs.length ≤ 10000 then some (if 1 ≤ t.1 then (if t.1 ≤ xs.length then (if rdOf false xs (t.1 - 1) = true then .inr (70, t.2.2.1) else .inl (t.1 - 1, t.2)) else .inr (70, t.2.2.1)) else .inr (70, t.2.2.1)) else none) (fun y => some (.inr y)))
theorem table_decoder_id.mono : ∀ a0 a1 a2 a3 a4 k, LeO (table_decoder_id.f k a0 a1 a2 a3 a4) (table_decoder_id.f (k + 1) a0 a1 a2 a3 a4) := fun a0 a1 a2 a3 a4 k => LeO.bind (table_decoder_num.mono a0 a1 a2 a3 k) (fun _ => LeO.refl _)
theorem table_decoder_id.ok_of {k : Nat} {s0 : ByteArray} {s1 s2 s3 : Int} {xs : List Bool} {r1 : Int} {r2 : ByteArray} {r3 r4 r5 : Int} (h : table_decoder_id.f k s0 s1 s2 s3 xs = some (.inl (r1, r2, r3, r4, r5))) : ∃ n, table_decoder_num.f k s0 s1 s2 s3 = some (.inl (n, r2, r3, r4, r5)) ∧ xs.length ≤ 10000 ∧ 1 ≤ n ∧ n ≤ xs.length ∧ rdOf false xs r1 = false ∧ r1 = n - 1 := by
 obtain ⟨⟨t1, t2, t3, t4, t5⟩ | ⟨y1, y2⟩, h1, h2⟩ := ob h
 ·
  simp only [Sum.elim_inl] at h2
  by_cases c0 : xs.length ≤ 10000
  ·
   rw [if_pos c0] at h2
   by_cases c1 : 1 ≤ t1
   ·
    by_cases c2 : t1 ≤ xs.length
    ·
     by_cases c3 : rdOf false xs (t1 - 1) = true
     ·
      simp [if_pos c1, if_pos c2, if_pos c3] at h2
     ·
      rw [if_pos c1, if_pos c2, if_neg c3] at h2
      simp only [Option.some.injEq, Sum.inl.injEq, Prod.mk.injEq] at h2
      obtain ⟨rfl, rfl, rfl, rfl, rfl⟩ := h2
      exact ⟨_, h1, c0, c1, c2, by simpa using c3, rfl⟩
    ·
     simp [if_pos c1, if_neg c2] at h2
   ·
    simp [if_neg c1] at h2
  ·
   simp [if_neg c0] at h2
 ·
  simp at h2
theorem table_decoder_id.bad_of {k : Nat} {s0 : ByteArray} {s1 s2 s3 : Int} {xs : List Bool} {x y : Int} (h : table_decoder_id.f k s0 s1 s2 s3 xs = some (.inr (x, y))) : table_decoder_num.f k s0 s1 s2 s3 = some (.inr (x, y)) ∨ ∃ r1 r2 r4 r5, table_decoder_num.f k s0 s1 s2 s3 = some (.inl (r1, r2, y, r4, r5)) ∧ xs.length ≤ 10000 ∧ (¬ 1 ≤ r1 ∨ (1 ≤ r1 ∧ ¬ r1 ≤ xs.length) ∨ (1 ≤ r1 ∧ r1 ≤ xs.length ∧ rdOf false xs (r1 - 1) = true)) ∧ x = 70 := by
 obtain ⟨⟨t1, t2, t3, t4, t5⟩ | ⟨y1, y2⟩, h1, h2⟩ := ob h
 ·
  simp only [Sum.elim_inl] at h2
  by_cases c0 : xs.length ≤ 10000
  ·
   rw [if_pos c0] at h2
   by_cases c1 : 1 ≤ t1
   ·
    by_cases c2 : t1 ≤ xs.length
    ·
     by_cases c3 : rdOf false xs (t1 - 1) = true
     ·
      rw [if_pos c1, if_pos c2, if_pos c3] at h2
      simp only [Option.some.injEq, Sum.inr.injEq, Prod.mk.injEq] at h2
      obtain ⟨rfl, rfl⟩ := h2
      exact .inr ⟨_, _, _, _, h1, c0, .inr (.inr ⟨c1, c2, c3⟩), rfl⟩
     ·
      simp [if_pos c1, if_pos c2, if_neg c3] at h2
    ·
     rw [if_pos c1, if_neg c2] at h2
     simp only [Option.some.injEq, Sum.inr.injEq, Prod.mk.injEq] at h2
     obtain ⟨rfl, rfl⟩ := h2
     exact .inr ⟨_, _, _, _, h1, c0, .inr (.inl ⟨c1, c2⟩), rfl⟩
   ·
    rw [if_neg c1] at h2
    simp only [Option.some.injEq, Sum.inr.injEq, Prod.mk.injEq] at h2
    obtain ⟨rfl, rfl⟩ := h2
    exact .inr ⟨_, _, _, _, h1, c0, .inl c1, rfl⟩
  ·
   simp [if_neg c0] at h2
 ·
  simp only [Sum.elim_inr, Option.some.injEq, Sum.inr.injEq, Prod.mk.injEq] at h2
  obtain ⟨rfl, rfl⟩ := h2
  exact .inl h1
theorem KeepBut.widen {w w1 : World} {g : Nat} (h : KeepBut w w1 g none) (row : Option Nat) : KeepBut w w1 g row := ⟨h.1, fun i hi hg _ => h.2 i hi hg (by simp)⟩
/-- The reader, the row of marks, and what lay, at a world of the walk. -/
def IdAt (w0 w w' : World) (g : Nat) (s0 : ByteArray) (s1 s2 s3 : Int) (base : Nat) (ok : Nat → Prop) (v : Value) (xs : List Bool) : Prop := IsS77 w0 w' g s0 s1 s2 s3 ∧ Below w0.heap.size w0 w' ∧ KeepBut w w' g none ∧ Kd.R Kd.bool 4 w' base ok v xs
theorem IdAt.drew {w0 w w' : World} {g : Nat} {s0 : ByteArray} {s1 s2 s3 : Int} {base : Nat} {ok : Nat → Prop} {v : Value} {xs : List Bool} (h : IdAt w0 w w' g s0 s1 s2 s3 base ok v xs) : IdAt w0 w w'.drew g s0 s1 s2 s3 base ok v xs := ⟨IsS77.drew h.1, b1 h.2.1, keep_drew h.2.2.1, Kd.R_drew h.2.2.2⟩
theorem IdAt.call {w0 w w' w1 : World} {g : Nat} {s0 t0 : ByteArray} {s1 s2 s3 t1 t2 t3 : Int} {base : Nat} {ok : Nat → Prop} {v : Value} {xs : List Bool} (h : IdAt w0 w w' g s0 s1 s2 s3 base ok v xs) (hi : IsS77 w0 w1 g t0 t1 t2 t3) (hb : Below w0.heap.size w0 w1) (hk : KeepBut w' w1 g none) : IdAt w0 w w1 g t0 t1 t2 t3 base ok v xs :=
 ⟨hi, hb, h.2.2.1.trans hk (.inl rfl), Kd.R_mono (Kd.R_keep (IsS77.apart h.1 h.2.2.2 (by decide)) hk (fun _ h => h.2)) (fun _ h => h.1)⟩
theorem IdAt.start {w0 w : World} {g : Nat} {s0 : ByteArray} {s1 s2 s3 : Int} {base : Nat} {ok : Nat → Prop} {v : Value} {xs : List Bool} (hI : IsS77 w0 w g s0 s1 s2 s3) (hB : Below w0.heap.size w0 w) (hR : Kd.R Kd.bool 4 w base ok v xs) (o : Obj) : IdAt w0 w (w.alloc o) g s0 s1 s2 s3 base ok v xs := ⟨IsS77.alloc hI _, bl hB _, (keep_alloc (KeepBut.refl _ _ _) _), Kd.R_alloc hR _⟩
set_option maxHeartbeats 2000000 in
set_option maxRecDepth 100000 in
theorem table_decoder_id.ok (k g : Nat) (s0 : ByteArray) (s1 s2 s3 : Int) (xs : List Bool) (base : Nat) (ok : Nat → Prop) (v : Value) (r1 : Int) (r2 : ByteArray) (r3 r4 r5 : Int) (w0 w : World) (hI : IsS77 w0 w g s0 s1 s2 s3) (hB : Below w0.heap.size w0 w) (hbase : w0.heap.size ≤ base) (hR : Kd.R Kd.bool 4 w base ok v xs) (h : table_decoder_id.f k s0 s1 s2 s3 xs = some (.inl (r1, r2, r3, r4, r5))) :
  Calls Try.prog 40 #[.agg #[.pointer (some ⟨g, 0, none⟩)], v] w fun e w' => e = .returned (.int .i64 r1) ∧ IsS77 w0 w' g r2 r3 r4 r5 ∧ Below w0.heap.size w0 w' ∧ KeepBut w w' g v.ownBlock ∧ Kd.R Kd.bool 4 w' base ok v (xs.set r1.toNat true) := by
 obtain ⟨n, A0, hl, hn1, hn2, hx, hr⟩ := table_decoder_id.ok_of h
 have A := Am A0
 clear h A0
 have hj0 : 0 ≤ r1 := by omega
 have hj1 : r1 < (xs.length : Int) := by omega
 have hw1 : wrap64 (n - 1) = r1 := by rw [hr]; unfold wrap64; omega
 have hw2 : IntKind.i64.wrap (n - 1) = r1 := (i64_w _).trans hw1
 clear hr
 obtain ⟨gb, cap, rfl, hgb, hgl, _, _⟩ := Kd.R_form hR (by omega)
 have HGB := Am (Nat.le_trans hbase hgb)
 have HS := IdAt.start hI hB hR (.cells #[.pointer (some ⟨g, 0, none⟩)] 50)
 have HF := Am (IsS77.fresh hI w.heap.size (Nat.le_refl _))
 have HS1 := Am HS.1
 have HS2 := Am HS.2.1
 replace HS := Am HS
 clear hI hB hR hgb hgl hbase
 have c0 : decide (1 ≤ n) = true := decide_eq_true hn1
 have c1 : decide (n ≤ (xs.length : Int)) = true := decide_eq_true hn2
 have p1 := eq_true hj0
 have q1 := eq_true hj1
 go_enter Try.func40, Try.ntmps40
 go_wp2_with (go_at_call 53; (with_reducible refine (table_decoder_num.ok k g s0 s1 s2 s3 n r2 r3 r4 r5 w0 _ HS1.out HS2.out A.out).mono ?_); rintro e w1 ⟨rfl, hi, hb, hk⟩; have hc := keep_cell hk (dec_box w g) HF.out; have HT := Am (HS.out.call hi hb hk); clear hi hb hk)
 have hx0 := (Kd.R_celln false HT.out.2.2.2 r1 hj0 hj1).1
 rw [hx] at hx0
 have HT1 := Am HT.out.drew.1
 have HT2 := Am HT.out.drew.2.1
 refine start_ (n := 18) (S := fun w' => w'.cell? ⟨w.heap.size, 0, none⟩ = some (.pointer (some ⟨g, 0, none⟩)) ∧ w'.cell? ⟨gb, r1.toNat, none⟩ = some (.bool false) ∧ IdAt w0 w w' g r2 r3 r4 r5 base ok (.slice (some ⟨gb, 0, none⟩) xs.length cap) xs) (ds := []) q3_0 (by kernel_rfl) rfl rfl ⟨hc, hx0, HT.out.drew⟩ (fun hHeld => ?_)
 refine with_tabW table_decoder_id.tab2 table_decoder_id.bits2 (fun HT_ HW_ => ?_)
 refine Own.pr_ 1 (some 9) q3_1 HT_ (h := ?_)
 refine Own.pr_ 2 (some 10) q3_2 HT_ (h := ?_)
 refine Own.pr_ 3 (some 11) q3_3 HT_ (h := ?_)
 refine Own.pr_ 4 (some 12) q3_4 HT_ (h := ?_)
 refine Own.pr_ 5 (some 13) q3_5 HT_ (h := ?_)
 refine Own.pr_ 6 (some 14) q3_6 HT_ (h := ?_)
 refine Own.pr_ 7 (some 15) q3_7 HT_ (h := ?_)
 refine Own.pr_ 8 (some 16) q3_8 HT_ (h := ?_)
 refine Own.pr_ 9 (some 17) q3_9 HT_ (h := ?_)
 refine Own.pr_ 10 (some 18) q3_10 HT_ (h := ?_)
 refine Own.pr_ 11 (some 19) q3_11 HT_ (h := ?_)
 refine Own.pr_ 12 (some 20) q3_12 HT_ (h := ?_)
 refine Own.pr_ 13 (some 21) q3_13 HT_ (h := ?_)
 refine Own.tk_ 0 (some 8) q3_14 HT_ HW_ hHeld (hy := by rintro w' ⟨s0, s1, s2⟩; go_simp; with_reducible rfl) (h := ?_)
 refine Own.tk_ 14 (some 22) q3_15 HT_ HW_ hHeld (hy := by rintro w' ⟨s0, s1, s2⟩; go_simp; with_reducible rfl) (h := ?_)
 refine Own.pr_ 15 (some 23) q3_16 HT_ (h := ?_)
 refine Own.pr_ 16 (some 24) q3_17 HT_ (h := ?_)
 refine one_ (i := 17) (N := some 25) q3_18 rfl rfl (one_of HT_.out (by kernel_rfl)) (by decide) (fun K hK => ?_)
 refine goes_ Try.func54 (by kernel_rfl) rfl #[.agg #[.pointer (some ⟨g, 0, none⟩)], .bool true] (by rfl) rfl rfl (by (try simp only [List.map_toArray, List.map_cons, List.map_nil]); first | done | rfl | (simp only [List.length_drop, List.length_take]; rfl)) ?_
 with_reducible refine (table_decoder_need.ok g r2 r3 r4 r5 w0 _ HT1.out HT2.out).mono ?_
 rintro e w2 ⟨rfl, hi2, hb2, hk2⟩
 refine ⟨_, rfl, ?_⟩
 refine hK.out _ _ ⟨keep_cell hk2 hc HF.out, (Kd.R_celln false (HT.out.drew.call hi2 hb2 hk2).2.2.2 r1 hj0 hj1).1.trans (by rw [hx]), HT.out.drew.call hi2 hb2 hk2⟩ (fun hHeld => ?_)
 clear hK K
 refine norm_ (a' := ?_) ?_ ?_
 rotate_left
 ·
  show Act.put _ (some 25) _ = _
  simp only [Act.put, sI, sZ, sS, i64_w, i32_w]
  rfl
 refine done_ (done_of HT_.out (by kernel_rfl)) ?_
 have HU := Am hHeld.2.2
 clear hHeld hi2 hb2 hk2 HT HT_ HW_ HT1 HT2 hx0
 obtain ⟨hx3, hf3⟩ := Kd.R_celln false HU.out.2.2.2 r1 hj0 hj1
 go_wp2
 go_ret
 obtain ⟨hi, hb, hk, hr⟩ := HU.out
 obtain ⟨hr1, hg1⟩ := Kd.R_putg hr r1 true
 refine ⟨rfl, IsS77.grown hi hg1 ?_, bs hb HGB.out, KeepBut.trans (KeepBut.widen hk _) (KeepBut.of_grown hg1 g) (.inl rfl), hr1⟩
 exact fun e => Kd.R_ne hr hi.1 (by decide) e
set_option maxHeartbeats 2000000 in
set_option maxRecDepth 100000 in
theorem table_decoder_id.bad (k g : Nat) (s0 : ByteArray) (s1 s2 s3 : Int) (xs : List Bool) (base : Nat) (ok : Nat → Prop) (v : Value) (x y : Int) (w0 w : World) (hI : IsS77 w0 w g s0 s1 s2 s3) (hB : Below w0.heap.size w0 w) (hR : Kd.R Kd.bool 4 w base ok v xs) (h : table_decoder_id.f k s0 s1 s2 s3 xs = some (.inr (x, y))) :
  Calls Try.prog 40 #[.agg #[.pointer (some ⟨g, 0, none⟩)], v] w fun e w' => e = .panicked [{ v := wrongV x y, recovered := false }] ∧ Below w0.heap.size w0 w' ∧ KeepBut w w' g none := by
 have HF := Am (IsS77.fresh hI w.heap.size (Nat.le_refl _))
 rcases table_decoder_id.bad_of h with A0 | ⟨n, r2, r4, r5, A0, hl, hn, rfl⟩
 ·
  have A := Am A0
  clear h A0
  go_enter Try.func40, Try.ntmps40
  go_wp2_with (first | (go_at_call 53; (with_reducible refine (table_decoder_num.bad k g s0 s1 s2 s3 x y w0 _ (IsS77.alloc hI _) (bl hB _) A.out).mono ?_); rintro e w1 ⟨rfl, hb, hk⟩))
  exact ⟨rfl, rfl, hb, KeepBut.trans (keep_alloc (KeepBut.refl _ _ _) _) hk (.inl rfl)⟩
 ·
  have A := Am A0
  clear h A0
  have HS := IdAt.start hI hB hR (.cells #[.pointer (some ⟨g, 0, none⟩)] 50)
  have HS1 := Am HS.1
  have HS2 := Am HS.2.1
  replace HS := Am HS
  obtain ⟨A0, cap, rfl⟩ := Kd.R_slice hR
  clear hI hB hR
  rcases hn with hn1 | ⟨hn1, hn2⟩ | ⟨hn1, hn2, hx⟩
  ·
   have c0 : decide (1 ≤ n) = false := decide_eq_false hn1
   clear hn1
   go_enter Try.func40, Try.ntmps40
   go_wp2_with (go_at_call 53; (with_reducible refine (table_decoder_num.ok k g s0 s1 s2 s3 n r2 y r4 r5 w0 _ HS1.out HS2.out A.out).mono ?_); rintro e w1 ⟨rfl, hi, hb, hk⟩; have hc := keep_cell hk (dec_box w g) HF.out; have HT := Am (HS.out.call hi hb hk); clear hi hb hk)
   have HT1 := Am HT.out.drew.1
   have HT2 := Am HT.out.drew.2.1
   have HT3 := Am HT.out.drew.2.2.1
   refine start_ (n := 18) (S := fun w' => w'.cell? ⟨w.heap.size, 0, none⟩ = some (.pointer (some ⟨g, 0, none⟩))) (ds := []) q3_0 (by kernel_rfl) rfl rfl (hc) (fun hHeld => ?_)
   refine with_tabW table_decoder_id.tab2 table_decoder_id.bits2 (fun HT_ HW_ => ?_)
   refine Own.pr_ 1 (some 9) q3_1 HT_ (h := ?_)
   refine Own.pr_ 2 (some 10) q3_2 HT_ (h := ?_)
   refine Own.pr_ 3 (some 11) q3_3 HT_ (h := ?_)
   refine Own.skips_ HT_.out [4, 5, 6, 7] [some 12, some 13, some 14, some 15] 11 15 _ q3_7 _ ?_ _ rfl (by kernel_rfl) (fun _ _ _ _ h => h) (by kernel_rfl) ?_ ?_
   rotate_left
   ·
    simp only [Own.putU, Act.put, sI, sZ, sS]
    rfl
   refine Own.pr_ 8 (some 16) q3_8 HT_ (h := ?_)
   refine Own.pr_ 9 (some 17) q3_9 HT_ (h := ?_)
   refine Own.skips_ HT_.out [10, 11, 12, 13, 14, 15] [some 18, some 19, some 20, some 21, some 22, some 23] 3 9 _ q3_19 _ ?_ _ rfl (by kernel_rfl) (fun _ _ _ _ h => h) (by kernel_rfl) ?_ ?_
   rotate_left
   ·
    simp only [Own.putU, Act.put, sI, sZ, sS]
    rfl
   refine Own.pr_ 16 (some 24) q3_20 HT_ (h := ?_)
   refine take_ (i := 0) (N := some 8) (v := ?_) (a' := ?_) q3_17 rfl rfl (take_ofW HT_.out HW_.out (by kernel_rfl)) (fun _ _ _ h => h) (Or.inl ⟨by rfl, ?_⟩) hHeld ?_ ?_
   rotate_left
   ·
    intro w' s0
    go_simp
    with_reducible rfl
   rotate_left
   ·
    simp only [Act.put, sI, sZ, sS, i64_w, i32_w]
    rfl
   refine one_ (i := 17) (N := some 25) q3_18 rfl rfl (one_of HT_.out (by kernel_rfl)) (by decide) (fun K hK => ?_)
   refine Own.goesP_ Try.func54 (by kernel_rfl) rfl #[.agg #[.pointer (some ⟨g, 0, none⟩)], .bool false] (by rfl) rfl (by (try simp only [List.map_toArray, List.map_cons, List.map_nil]); first | done | rfl | (simp only [List.length_drop, List.length_take]; rfl)) ?_
   with_reducible refine (table_decoder_need.bad g r2 y r4 r5 w0 _ HT1.out HT2.out).mono ?_
   rintro e w2 ⟨rfl, hb2, hk2⟩
   refine ⟨_, rfl, ?_⟩
   exact ⟨rfl, rfl, hb2, KeepBut.trans HT3.out hk2 (.inl rfl)⟩
  ·
   have c0 : decide (1 ≤ n) = true := decide_eq_true hn1
   have c1 : decide (n ≤ (xs.length : Int)) = false := decide_eq_false hn2
   clear hn1 hn2
   go_enter Try.func40, Try.ntmps40
   go_wp2_with (go_at_call 53; (with_reducible refine (table_decoder_num.ok k g s0 s1 s2 s3 n r2 y r4 r5 w0 _ HS1.out HS2.out A.out).mono ?_); rintro e w1 ⟨rfl, hi, hb, hk⟩; have hc := keep_cell hk (dec_box w g) HF.out; have HT := Am (HS.out.call hi hb hk); clear hi hb hk)
   have HT1 := Am HT.out.drew.1
   have HT2 := Am HT.out.drew.2.1
   have HT3 := Am HT.out.drew.2.2.1
   refine start_ (n := 18) (S := fun w' => w'.cell? ⟨w.heap.size, 0, none⟩ = some (.pointer (some ⟨g, 0, none⟩))) (ds := []) q3_0 (by kernel_rfl) rfl rfl (hc) (fun hHeld => ?_)
   refine with_tabW table_decoder_id.tab2 table_decoder_id.bits2 (fun HT_ HW_ => ?_)
   refine Own.pr_ 1 (some 9) q3_1 HT_ (h := ?_)
   refine Own.pr_ 2 (some 10) q3_2 HT_ (h := ?_)
   refine Own.pr_ 3 (some 11) q3_3 HT_ (h := ?_)
   refine Own.pr_ 4 (some 12) q3_4 HT_ (h := ?_)
   refine Own.pr_ 5 (some 13) q3_5 HT_ (h := ?_)
   refine Own.pr_ 6 (some 14) q3_6 HT_ (h := ?_)
   refine Own.pr_ 7 (some 15) q3_7 HT_ (h := ?_)
   refine Own.pr_ 8 (some 16) q3_8 HT_ (h := ?_)
   refine Own.pr_ 9 (some 17) q3_9 HT_ (h := ?_)
   refine Own.skips_ HT_.out [10, 11, 12, 13, 14, 15] [some 18, some 19, some 20, some 21, some 22, some 23] 3 9 _ q3_19 _ ?_ _ rfl (by kernel_rfl) (fun _ _ _ _ h => h) (by kernel_rfl) ?_ ?_
   rotate_left
   ·
    simp only [Own.putU, Act.put, sI, sZ, sS]
    rfl
   refine Own.pr_ 16 (some 24) q3_20 HT_ (h := ?_)
   refine take_ (i := 0) (N := some 8) (v := ?_) (a' := ?_) q3_17 rfl rfl (take_ofW HT_.out HW_.out (by kernel_rfl)) (fun _ _ _ h => h) (Or.inl ⟨by rfl, ?_⟩) hHeld ?_ ?_
   rotate_left
   ·
    intro w' s0
    go_simp
    with_reducible rfl
   rotate_left
   ·
    simp only [Act.put, sI, sZ, sS, i64_w, i32_w]
    rfl
   refine one_ (i := 17) (N := some 25) q3_18 rfl rfl (one_of HT_.out (by kernel_rfl)) (by decide) (fun K hK => ?_)
   refine Own.goesP_ Try.func54 (by kernel_rfl) rfl #[.agg #[.pointer (some ⟨g, 0, none⟩)], .bool false] (by rfl) rfl (by (try simp only [List.map_toArray, List.map_cons, List.map_nil]); first | done | rfl | (simp only [List.length_drop, List.length_take]; rfl)) ?_
   with_reducible refine (table_decoder_need.bad g r2 y r4 r5 w0 _ HT1.out HT2.out).mono ?_
   rintro e w2 ⟨rfl, hb2, hk2⟩
   refine ⟨_, rfl, ?_⟩
   exact ⟨rfl, rfl, hb2, KeepBut.trans HT3.out hk2 (.inl rfl)⟩
  ·
   have c0 : decide (1 ≤ n) = true := decide_eq_true hn1
   have c1 : decide (n ≤ (xs.length : Int)) = true := decide_eq_true hn2
   obtain ⟨j, hj⟩ : ∃ j, j = n - 1 := ⟨_, rfl⟩
   have hw1 : wrap64 (n - 1) = j := by rw [hj]; unfold wrap64; omega
   have hw2 : IntKind.i64.wrap (n - 1) = j := (i64_w _).trans hw1
   rw [← hj] at hx
   have p1 : 0 ≤ j := by omega
   have q1 : j < (xs.length : Int) := by omega
   have HP := Am p1
   have HQ := Am q1
   clear hj hn1 hn2
   go_enter Try.func40, Try.ntmps40
   go_wp2_with (go_at_call 53; (with_reducible refine (table_decoder_num.ok k g s0 s1 s2 s3 n r2 y r4 r5 w0 _ HS1.out HS2.out A.out).mono ?_); rintro e w1 ⟨rfl, hi, hb, hk⟩; have hc := keep_cell hk (dec_box w g) HF.out; have HT := Am (HS.out.call hi hb hk); clear hi hb hk)
   have HT1 := Am HT.out.drew.1
   have HT2 := Am HT.out.drew.2.1
   have HT3 := Am HT.out.drew.2.2.1
   obtain ⟨ad, ea, hx0⟩ := Kd.at_bool (Kd.R_reads' HT.out.2.2.2).2.2 j HP.out HQ.out
   cases ea
   rw [hx] at hx0
   replace p1 := eq_true p1
   replace q1 := eq_true q1
   refine start_ (n := 18) (S := fun w' => w'.cell? ⟨w.heap.size, 0, none⟩ = some (.pointer (some ⟨g, 0, none⟩)) ∧ w'.cell? (ad.add j.toNat) = some (.bool true)) (ds := []) q3_0 (by kernel_rfl) rfl rfl ⟨hc, hx0⟩ (fun hHeld => ?_)
   refine with_tabW table_decoder_id.tab2 table_decoder_id.bits2 (fun HT_ HW_ => ?_)
   refine Own.pr_ 1 (some 9) q3_1 HT_ (h := ?_)
   refine Own.pr_ 2 (some 10) q3_2 HT_ (h := ?_)
   refine Own.pr_ 3 (some 11) q3_3 HT_ (h := ?_)
   refine Own.pr_ 4 (some 12) q3_4 HT_ (h := ?_)
   refine Own.pr_ 5 (some 13) q3_5 HT_ (h := ?_)
   refine Own.pr_ 6 (some 14) q3_6 HT_ (h := ?_)
   refine Own.pr_ 7 (some 15) q3_7 HT_ (h := ?_)
   refine Own.pr_ 8 (some 16) q3_8 HT_ (h := ?_)
   refine Own.pr_ 9 (some 17) q3_9 HT_ (h := ?_)
   refine Own.pr_ 10 (some 18) q3_10 HT_ (h := ?_)
   refine Own.pr_ 11 (some 19) q3_11 HT_ (h := ?_)
   refine Own.pr_ 12 (some 20) q3_12 HT_ (h := ?_)
   refine Own.pr_ 13 (some 21) q3_13 HT_ (h := ?_)
   refine Own.tk_ 0 (some 8) q3_14 HT_ HW_ hHeld (hy := by rintro w' ⟨s0, s1⟩; go_simp; with_reducible rfl) (h := ?_)
   refine Own.tk_ 14 (some 22) q3_15 HT_ HW_ hHeld (hy := by rintro w' ⟨s0, s1⟩; go_simp; with_reducible rfl) (h := ?_)
   refine Own.pr_ 15 (some 23) q3_16 HT_ (h := ?_)
   refine Own.pr_ 16 (some 24) q3_17 HT_ (h := ?_)
   refine one_ (i := 17) (N := some 25) q3_18 rfl rfl (one_of HT_.out (by kernel_rfl)) (by decide) (fun K hK => ?_)
   refine Own.goesP_ Try.func54 (by kernel_rfl) rfl #[.agg #[.pointer (some ⟨g, 0, none⟩)], .bool false] (by rfl) rfl (by (try simp only [List.map_toArray, List.map_cons, List.map_nil]); first | done | rfl | (simp only [List.length_drop, List.length_take]; rfl)) ?_
   with_reducible refine (table_decoder_need.bad g r2 y r4 r5 w0 _ HT1.out HT2.out).mono ?_
   rintro e w2 ⟨rfl, hb2, hk2⟩
   refine ⟨_, rfl, ?_⟩
   exact ⟨rfl, rfl, hb2, KeepBut.trans HT3.out hk2 (.inl rfl)⟩

end Go.Proofs.Ytlmmlmmbnfcogaa.Q
