-- printed by a program of this session (NOTES: hprint); not the kit's print
-- minified3
-- minified2
-- minified
-- halved
import Derived.Test.YtfcombimnmkoeaaOg
import Derived.Test.YtfcombimnmkoeaaAl
import Derived.Test.YtfcombimnmkoeaaQx0
import Derived.Test.YtfcombimnmkoeaaQx2
namespace Go.Proofs.Ytfcombimnmkoeaa.Q
open Go.RowKit Go.Proofs.YtfcombimnmkoeaaW.PrintWords Go.Proofs.YtfcombimnmkoeaaW.PrintLast Go.Proofs.YtfcombimnmkoeaaW.PrintMore
attribute [local go_sem] max2_int min2_int max_two min_two max_three min_three max_four min_four   -- for this text's walks alone
set_option linter.unusedVariables false
set_option linter.unusedSimpArgs false

def q3_0 : Array Bool := let o := true; let z := false; #[z,z,z,z,z,z,z,z]
def q3_1 : Array Bool := let o := true; let z := false; #[z,o,z,z,z,z,z,z]
def q3_2 : Array Bool := let o := true; let z := false; #[z,o,o,z,z,z,z,z]
def q3_3 : Array Bool := let o := true; let z := false; #[o,o,o,z,z,z,z,z]
def q3_4 : Array Bool := let o := true; let z := false; #[o,o,o,o,z,z,z,z]
def q3_5 : Array Bool := let o := true; let z := false; #[o,o,o,o,o,z,z,z]
def q3_6 : Array Bool := let o := true; let z := false; #[o,o,o,o,o,o,z,z]
def q3_7 : Array Bool := let o := true; let z := false; #[o,o,o,o,o,o,o,z]
def q3_8 : Array Bool := let o := true; let z := false; #[o,o,o,o,o,o,o,o]
/-! ### wire_Reader_Text: function 26 -/
def wire_Reader_Text.f (k : Nat) (s0_0 : ByteArray) (s0_1 : Int) (s0_2 : Int) (s0_3 : Int) : Option (ByteArray × ByteArray × Int × Int × Int) := (wire_Reader_ok.f s0_0 s0_1 s0_2 s0_3).bind fun bt141 => (if bt141.1 = true then ((wire_Reader_Num.f k bt141.2.1 bt141.2.2.1 bt141.2.2.2.1 bt141.2.2.2.2).bind fun bt146 => ((wire_Reader_ok.f bt146.2.1 bt146.2.2.1 bt146.2.2.2.1 bt146.2.2.2.2).bind fun bt151 => (if bt151.1 = true then ((wire_Reader_take.f bt151.2.1 bt151.2.2.1 bt151.2.2.2.1 bt151.2.2.2.2 bt146.1 bt141.2.2.1).bind fun bt156 => (some (bt156.1, bt156.2.1, bt156.2.2.1, bt156.2.2.2.1, bt156.2.2.2.2))) else (some ((⟨#[]⟩ : ByteArray), bt151.2.1, bt151.2.2.1, bt151.2.2.2.1, bt151.2.2.2.2))))) else (some ((⟨#[]⟩ : ByteArray), bt141.2.1, bt141.2.2.1, bt141.2.2.2.1, bt141.2.2.2.2)))
theorem wire_Reader_Text.mono : ∀ a0 a1 a2 a3 k, LeO (wire_Reader_Text.f k a0 a1 a2 a3) (wire_Reader_Text.f (k + 1) a0 a1 a2 a3) := by
 intro a0 a1 a2 a3 k
 unfold wire_Reader_Text.f
 repeat' first
   | (with_reducible exact wire_Reader_Num.mono _ _ _ _ _)
   | (with_reducible exact LeO.refl _)
   | (with_reducible exact LeO.none _)
   | (with_reducible refine LeO.ite ?_ ?_)
   | (with_reducible refine LeO.bind ?_ (fun _ => ?_))
   | exact LeO.none _
   | refine LeO.ite ?_ ?_
   | refine LeO.bind ?_ (fun _ => ?_)
set_option maxHeartbeats 8000000 in
set_option maxRecDepth 100000 in
theorem wire_Reader_Text.calls (k : Nat) (g : Nat) (s0_0 : ByteArray) (s0_1 : Int) (s0_2 : Int) (s0_3 : Int) (r1 : ByteArray) (r2 : ByteArray) (r3 : Int) (r4 : Int) (r5 : Int) (w0 w : World) (hI : IsS67 w0 w g s0_0 s0_1 s0_2 s0_3) (hB : Below w0.heap.size w0 w) (h : wire_Reader_Text.f k s0_0 s0_1 s0_2 s0_3 = some (r1, r2, r3, r4, r5)) :
  Calls Try.prog 26 #[.pointer (some ⟨g, 0, none⟩)] w fun e w' => e = .returned (.string r1) ∧ IsS67 w0 w' g r2 r3 r4 r5 ∧ Below w0.heap.size w0 w' ∧ KeepBut w w' g none := by
 have HI0 := Am hI
 have HK := Am (KeepBut.refl w g none)
 have HL := Am hB.size
 clear hI
 have HW0 := Am hB.size
 have HB := Am hB
 clear hB
 have H : ((wire_Reader_ok.f s0_0 s0_1 s0_2 s0_3).bind fun bt141 => (if bt141.1 = true then ((wire_Reader_Num.f k bt141.2.1 bt141.2.2.1 bt141.2.2.2.1 bt141.2.2.2.2).bind fun bt146 => ((wire_Reader_ok.f bt146.2.1 bt146.2.2.1 bt146.2.2.2.1 bt146.2.2.2.2).bind fun bt151 => (if bt151.1 = true then ((wire_Reader_take.f bt151.2.1 bt151.2.2.1 bt151.2.2.2.1 bt151.2.2.2.2 bt146.1 bt141.2.2.1).bind fun bt156 => (some (bt156.1, bt156.2.1, bt156.2.2.1, bt156.2.2.2.1, bt156.2.2.2.2))) else (some ((⟨#[]⟩ : ByteArray), bt151.2.1, bt151.2.2.1, bt151.2.2.2.1, bt151.2.2.2.2))))) else (some ((⟨#[]⟩ : ByteArray), bt141.2.1, bt141.2.2.1, bt141.2.2.2.1, bt141.2.2.2.2)))) = some (r1, r2, r3, r4, r5) := h
 clear h
 replace H := ob H
 obtain ⟨⟨t141, t142, t143, t144, t145⟩, A20, H⟩ := H
 (try dsimp only at H)
 have A2 := Am A20
 clear A20
 by_cases c3 : t141 = true
 ·
  subst c3
  rw [if_pos rfl] at H
  replace H := ob H
  obtain ⟨⟨t146, t147, t148, t149, t150⟩, A40, H⟩ := H
  (try dsimp only at H)
  have A4 := Am A40
  clear A40
  replace H := ob H
  obtain ⟨⟨t151, t152, t153, t154, t155⟩, A50, H⟩ := H
  (try dsimp only at H)
  have A5 := Am A50
  clear A50
  by_cases c6 : t151 = true
  ·
   subst c6
   rw [if_pos rfl] at H
   replace H := ob H
   obtain ⟨⟨t156, t157, t158, t159, t160⟩, A70, H⟩ := H
   (try dsimp only at H)
   have A7 := Am A70
   clear A70
   simp only [Option.some.injEq, Prod.mk.injEq] at H
   obtain ⟨rfl, rfl, rfl, rfl, rfl⟩ := H
   go_enter Try.func26, Try.ntmps26
   go_wp2_with (first | ((with_reducible refine gate_callee (f := 44) rfl ?_); refine Own.gL_ (some 6) Try.func44 (#[.pointer (some ⟨g, 0, none⟩)]) (h := ?_); (with_reducible refine (wire_Reader_ok.calls g s0_0 s0_1 s0_2 s0_3 true t142 t143 t144 t145 w0 _ ?side1 ?side2 A2.out).mono ?_); (case side1 => repeat (first | (with_reducible first | exact HI0.out | apply IsS67.alloc | apply IsS67.drewN | apply IsS67.drew | apply IsS67.set_0 | apply IsS67.set_1 | apply IsS67.set_2 | apply IsS67.set_3) | exact HI0.out)); (case side2 => repeat (first | (with_reducible first | exact HB.out | apply bl | apply pN | apply b1 | refine bs ?_ (IsS67.ge HI0.out)) | exact HB.out | exact HBo.out)); rintro e w8 ⟨rfl, hi, hb, hk⟩; refine ⟨_, rfl, ?_⟩; replace HK := Am (KeepBut.trans (by repeat (first | (with_reducible first | exact HK.out | apply KeepBut.set_ | apply keep_drewN | apply keep_drew | apply keep_alloc) | exact HK.out)) hk (.inl rfl)); replace HB := Am (hb); replace HI0 := Am (hi); (try clear hb); (try clear hb2); (try clear hk); (try clear hi); obtain ⟨HGz9, hgz9⟩ := HI0.out; have hcz9_0 := cellS67_0 HGz9; have hcz9_1 := cellS67_1 HGz9; have hcz9_2 := cellS67_2 HGz9; have hcz9_3 := cellS67_3 HGz9; have hfz9_0 := bf HGz9 0; have hfz9_1 := bf HGz9 1; have hfz9_2 := bf HGz9 2; have hfz9_3 := bf HGz9 3; clear HGz9 hgz9) | ((with_reducible refine gate_callee (f := 25) rfl ?_); refine Own.gL_ (some 13) Try.func25 (#[.pointer (some ⟨g, 0, none⟩)]) (h := ?_); (with_reducible refine (wire_Reader_Num.calls k g t142 t143 t144 t145 t146 t147 t148 t149 t150 w0 _ ?side1 ?side2 A4.out).mono ?_); (case side1 => repeat (first | (with_reducible first | exact HI0.out | apply IsS67.alloc | apply IsS67.drewN | apply IsS67.drew | apply IsS67.set_0 | apply IsS67.set_1 | apply IsS67.set_2 | apply IsS67.set_3) | exact HI0.out)); (case side2 => repeat (first | (with_reducible first | exact HB.out | apply bl | apply pN | apply b1 | refine bs ?_ (IsS67.ge HI0.out)) | exact HB.out | exact HBo.out)); rintro e w10 ⟨rfl, hi, hb, hk⟩; refine ⟨_, rfl, ?_⟩; replace HK := Am (KeepBut.trans (by repeat (first | (with_reducible first | exact HK.out | apply KeepBut.set_ | apply keep_drewN | apply keep_drew | apply keep_alloc) | exact HK.out)) hk (.inl rfl)); replace HB := Am (hb); replace HI0 := Am (hi); (try clear hb); (try clear hb2); (try clear hk); (try clear hi)) | ((with_reducible refine gate_callee (f := 44) rfl ?_); refine Own.gL_ (some 15) Try.func44 (#[.pointer (some ⟨g, 0, none⟩)]) (h := ?_); (with_reducible refine (wire_Reader_ok.calls g t147 t148 t149 t150 true t152 t153 t154 t155 w0 _ ?side1 ?side2 A5.out).mono ?_); (case side1 => repeat (first | (with_reducible first | exact HI0.out | apply IsS67.alloc | apply IsS67.drewN | apply IsS67.drew | apply IsS67.set_0 | apply IsS67.set_1 | apply IsS67.set_2 | apply IsS67.set_3) | exact HI0.out)); (case side2 => repeat (first | (with_reducible first | exact HB.out | apply bl | apply pN | apply b1 | refine bs ?_ (IsS67.ge HI0.out)) | exact HB.out | exact HBo.out)); rintro e w11 ⟨rfl, hi, hb, hk⟩; refine ⟨_, rfl, ?_⟩; replace HK := Am (KeepBut.trans (by repeat (first | (with_reducible first | exact HK.out | apply KeepBut.set_ | apply keep_drewN | apply keep_drew | apply keep_alloc) | exact HK.out)) hk (.inl rfl)); replace HB := Am (hb); replace HI0 := Am (hi); (try clear hb); (try clear hb2); (try clear hk); (try clear hi)) | ((with_reducible refine gate_callee (f := 47) rfl ?_); refine Own.gL_ (some 20) Try.func47 (#[.pointer (some ⟨g, 0, none⟩), .int .i64 t146, .int .i64 t143]) (h := ?_); (with_reducible refine (wire_Reader_take.calls g t152 t153 t154 t155 t146 t143 t156 t157 t158 t159 t160 w0 _ ?side1 ?side2 A7.out).mono ?_); (case side1 => repeat (first | (with_reducible first | exact HI0.out | apply IsS67.alloc | apply IsS67.drewN | apply IsS67.drew | apply IsS67.set_0 | apply IsS67.set_1 | apply IsS67.set_2 | apply IsS67.set_3) | exact HI0.out)); (case side2 => repeat (first | (with_reducible first | exact HB.out | apply bl | apply pN | apply b1 | refine bs ?_ (IsS67.ge HI0.out)) | exact HB.out | exact HBo.out)); rintro e w12 ⟨rfl, hi, hb, hk⟩; refine ⟨_, rfl, ?_⟩; replace HK := Am (KeepBut.trans (by repeat (first | (with_reducible first | exact HK.out | apply KeepBut.set_ | apply keep_drewN | apply keep_drew | apply keep_alloc) | exact HK.out)) hk (.inl rfl)); replace HB := Am (hb); replace HI0 := Am (hi); (try clear hb); (try clear hb2); (try clear hk); (try clear hi)))
   go_ret
   exact ⟨by first | rfl | (simp <;> rfl) | (simp [*] <;> rfl) | (simp [Aid.ne_nil, Aid.eq_nil]; done), by repeat (first | (with_reducible first | exact HI0.out | apply IsS67.alloc | apply IsS67.drewN | apply IsS67.drew | apply IsS67.set_0 | apply IsS67.set_1 | apply IsS67.set_2 | apply IsS67.set_3) | exact HI0.out), by repeat (first | (with_reducible first | exact HB.out | apply bl | apply pN | apply b1 | refine bs ?_ (IsS67.ge HI0.out)) | exact HB.out | exact HBo.out), by repeat (first | (with_reducible first | exact HK.out | apply KeepBut.set_ | apply keep_drewN | apply keep_drew | apply keep_alloc) | exact HK.out)⟩
  ·
   replace c6 := Bool.eq_false_iff.mpr c6
   subst c6
   rw [if_neg (show ¬ (false = true) by decide)] at H
   simp only [Option.some.injEq, Prod.mk.injEq] at H
   obtain ⟨rfl, rfl, rfl, rfl, rfl⟩ := H
   go_enter Try.func26, Try.ntmps26
   go_wp2_with (first | ((with_reducible refine gate_callee (f := 44) rfl ?_); refine Own.gL_ (some 6) Try.func44 (#[.pointer (some ⟨g, 0, none⟩)]) (h := ?_); (with_reducible refine (wire_Reader_ok.calls g s0_0 s0_1 s0_2 s0_3 true t142 t143 t144 t145 w0 _ ?side1 ?side2 A2.out).mono ?_); (case side1 => repeat (first | (with_reducible first | exact HI0.out | apply IsS67.alloc | apply IsS67.drewN | apply IsS67.drew | apply IsS67.set_0 | apply IsS67.set_1 | apply IsS67.set_2 | apply IsS67.set_3) | exact HI0.out)); (case side2 => repeat (first | (with_reducible first | exact HB.out | apply bl | apply pN | apply b1 | refine bs ?_ (IsS67.ge HI0.out)) | exact HB.out | exact HBo.out)); rintro e w13 ⟨rfl, hi, hb, hk⟩; refine ⟨_, rfl, ?_⟩; replace HK := Am (KeepBut.trans (by repeat (first | (with_reducible first | exact HK.out | apply KeepBut.set_ | apply keep_drewN | apply keep_drew | apply keep_alloc) | exact HK.out)) hk (.inl rfl)); replace HB := Am (hb); replace HI0 := Am (hi); (try clear hb); (try clear hb2); (try clear hk); (try clear hi); obtain ⟨HGz14, hgz14⟩ := HI0.out; have hcz14_0 := cellS67_0 HGz14; have hcz14_1 := cellS67_1 HGz14; have hcz14_2 := cellS67_2 HGz14; have hcz14_3 := cellS67_3 HGz14; have hfz14_0 := bf HGz14 0; have hfz14_1 := bf HGz14 1; have hfz14_2 := bf HGz14 2; have hfz14_3 := bf HGz14 3; clear HGz14 hgz14) | ((with_reducible refine gate_callee (f := 25) rfl ?_); refine Own.gL_ (some 13) Try.func25 (#[.pointer (some ⟨g, 0, none⟩)]) (h := ?_); (with_reducible refine (wire_Reader_Num.calls k g t142 t143 t144 t145 t146 t147 t148 t149 t150 w0 _ ?side1 ?side2 A4.out).mono ?_); (case side1 => repeat (first | (with_reducible first | exact HI0.out | apply IsS67.alloc | apply IsS67.drewN | apply IsS67.drew | apply IsS67.set_0 | apply IsS67.set_1 | apply IsS67.set_2 | apply IsS67.set_3) | exact HI0.out)); (case side2 => repeat (first | (with_reducible first | exact HB.out | apply bl | apply pN | apply b1 | refine bs ?_ (IsS67.ge HI0.out)) | exact HB.out | exact HBo.out)); rintro e w15 ⟨rfl, hi, hb, hk⟩; refine ⟨_, rfl, ?_⟩; replace HK := Am (KeepBut.trans (by repeat (first | (with_reducible first | exact HK.out | apply KeepBut.set_ | apply keep_drewN | apply keep_drew | apply keep_alloc) | exact HK.out)) hk (.inl rfl)); replace HB := Am (hb); replace HI0 := Am (hi); (try clear hb); (try clear hb2); (try clear hk); (try clear hi)) | ((with_reducible refine gate_callee (f := 44) rfl ?_); refine Own.gL_ (some 15) Try.func44 (#[.pointer (some ⟨g, 0, none⟩)]) (h := ?_); (with_reducible refine (wire_Reader_ok.calls g t147 t148 t149 t150 false t152 t153 t154 t155 w0 _ ?side1 ?side2 A5.out).mono ?_); (case side1 => repeat (first | (with_reducible first | exact HI0.out | apply IsS67.alloc | apply IsS67.drewN | apply IsS67.drew | apply IsS67.set_0 | apply IsS67.set_1 | apply IsS67.set_2 | apply IsS67.set_3) | exact HI0.out)); (case side2 => repeat (first | (with_reducible first | exact HB.out | apply bl | apply pN | apply b1 | refine bs ?_ (IsS67.ge HI0.out)) | exact HB.out | exact HBo.out)); rintro e w16 ⟨rfl, hi, hb, hk⟩; refine ⟨_, rfl, ?_⟩; replace HK := Am (KeepBut.trans (by repeat (first | (with_reducible first | exact HK.out | apply KeepBut.set_ | apply keep_drewN | apply keep_drew | apply keep_alloc) | exact HK.out)) hk (.inl rfl)); replace HB := Am (hb); replace HI0 := Am (hi); (try clear hb); (try clear hb2); (try clear hk); (try clear hi)))
   go_ret
   exact ⟨by first | rfl | (simp <;> rfl) | (simp [*] <;> rfl) | (simp [Aid.ne_nil, Aid.eq_nil]; done), by repeat (first | (with_reducible first | exact HI0.out | apply IsS67.alloc | apply IsS67.drewN | apply IsS67.drew | apply IsS67.set_0 | apply IsS67.set_1 | apply IsS67.set_2 | apply IsS67.set_3) | exact HI0.out), by repeat (first | (with_reducible first | exact HB.out | apply bl | apply pN | apply b1 | refine bs ?_ (IsS67.ge HI0.out)) | exact HB.out | exact HBo.out), by repeat (first | (with_reducible first | exact HK.out | apply KeepBut.set_ | apply keep_drewN | apply keep_drew | apply keep_alloc) | exact HK.out)⟩
 ·
  replace c3 := Bool.eq_false_iff.mpr c3
  subst c3
  rw [if_neg (show ¬ (false = true) by decide)] at H
  simp only [Option.some.injEq, Prod.mk.injEq] at H
  obtain ⟨rfl, rfl, rfl, rfl, rfl⟩ := H
  go_enter Try.func26, Try.ntmps26
  go_wp2_with (first | ((with_reducible refine gate_callee (f := 44) rfl ?_); refine Own.gL_ (some 6) Try.func44 (#[.pointer (some ⟨g, 0, none⟩)]) (h := ?_); (with_reducible refine (wire_Reader_ok.calls g s0_0 s0_1 s0_2 s0_3 false t142 t143 t144 t145 w0 _ ?side1 ?side2 A2.out).mono ?_); (case side1 => repeat (first | (with_reducible first | exact HI0.out | apply IsS67.alloc | apply IsS67.drewN | apply IsS67.drew | apply IsS67.set_0 | apply IsS67.set_1 | apply IsS67.set_2 | apply IsS67.set_3) | exact HI0.out)); (case side2 => repeat (first | (with_reducible first | exact HB.out | apply bl | apply pN | apply b1 | refine bs ?_ (IsS67.ge HI0.out)) | exact HB.out | exact HBo.out)); rintro e w17 ⟨rfl, hi, hb, hk⟩; refine ⟨_, rfl, ?_⟩; replace HK := Am (KeepBut.trans (by repeat (first | (with_reducible first | exact HK.out | apply KeepBut.set_ | apply keep_drewN | apply keep_drew | apply keep_alloc) | exact HK.out)) hk (.inl rfl)); replace HB := Am (hb); replace HI0 := Am (hi); (try clear hb); (try clear hb2); (try clear hk); (try clear hi)))
  go_ret
  exact ⟨by first | rfl | (simp <;> rfl) | (simp [*] <;> rfl) | (simp [Aid.ne_nil, Aid.eq_nil]; done), by repeat (first | (with_reducible first | exact HI0.out | apply IsS67.alloc | apply IsS67.drewN | apply IsS67.drew | apply IsS67.set_0 | apply IsS67.set_1 | apply IsS67.set_2 | apply IsS67.set_3) | exact HI0.out), by repeat (first | (with_reducible first | exact HB.out | apply bl | apply pN | apply b1 | refine bs ?_ (IsS67.ge HI0.out)) | exact HB.out | exact HBo.out), by repeat (first | (with_reducible first | exact HK.out | apply KeepBut.set_ | apply keep_drewN | apply keep_drew | apply keep_alloc) | exact HK.out)⟩

/-! ### wire_Reader_At: function 27 -/
def wire_Reader_At.f (s0_0 : ByteArray) (s0_1 : Int) (s0_2 : Int) (s0_3 : Int) : Option (Int × ByteArray × Int × Int × Int) := some (s0_1, s0_0, s0_1, s0_2, s0_3)
set_option maxHeartbeats 8000000 in
set_option maxRecDepth 100000 in
theorem wire_Reader_At.calls (g : Nat) (s0_0 : ByteArray) (s0_1 : Int) (s0_2 : Int) (s0_3 : Int) (r1 : Int) (r2 : ByteArray) (r3 : Int) (r4 : Int) (r5 : Int) (w0 w : World) (hI : IsS67 w0 w g s0_0 s0_1 s0_2 s0_3) (hB : Below w0.heap.size w0 w) (h : wire_Reader_At.f s0_0 s0_1 s0_2 s0_3 = some (r1, r2, r3, r4, r5)) :
  Calls Try.prog 27 #[.pointer (some ⟨g, 0, none⟩)] w fun e w' => e = .returned (.int .i64 r1) ∧ IsS67 w0 w' g r2 r3 r4 r5 ∧ Below w0.heap.size w0 w' ∧ KeepBut w w' g none := by
 have HI0 := Am hI
 have HK := Am (KeepBut.refl w g none)
 have HL := Am hB.size
 clear hI
 have HW0 := Am hB.size
 have HB := Am hB
 clear hB
 have H : (some (s0_1, s0_0, s0_1, s0_2, s0_3)) = some (r1, r2, r3, r4, r5) := h
 clear h
 simp only [Option.some.injEq, Prod.mk.injEq] at H
 obtain ⟨rfl, rfl, rfl, rfl, rfl⟩ := H
 obtain ⟨HGz2, hgz2⟩ := HI0.out
 have hcz2_0 := cellS67_0 HGz2
 have hcz2_1 := cellS67_1 HGz2
 have hcz2_2 := cellS67_2 HGz2
 have hcz2_3 := cellS67_3 HGz2
 have hfz2_0 := bf HGz2 0
 have hfz2_1 := bf HGz2 1
 have hfz2_2 := bf HGz2 2
 have hfz2_3 := bf HGz2 3
 clear HGz2 hgz2
 go_enter Try.func27, Try.ntmps27
 go_wp2
 go_ret
 exact ⟨by first | rfl | (simp <;> rfl) | (simp [*] <;> rfl) | (simp [Aid.ne_nil, Aid.eq_nil]; done), by repeat (first | (with_reducible first | exact HI0.out | apply IsS67.alloc | apply IsS67.drewN | apply IsS67.drew | apply IsS67.set_0 | apply IsS67.set_1 | apply IsS67.set_2 | apply IsS67.set_3) | exact HI0.out), by repeat (first | (with_reducible first | exact HB.out | apply bl | apply pN | apply b1 | refine bs ?_ (IsS67.ge HI0.out)) | exact HB.out | exact HBo.out), by repeat (first | (with_reducible first | exact HK.out | apply KeepBut.set_ | apply keep_drewN | apply keep_drew | apply keep_alloc) | exact HK.out)⟩

/-! ### batch_Decode: function 9 -/
mutual
def batch_Decode.j0 : Nat → ByteArray → Int → Bool → Option (Int × Int × Int × ByteArray × Int × Int)
 | 0, _, _, _ => none
 | k + 1, x0, x1, x21 => if x21 = true then (some (0, 0, 0, (⟨#[]⟩ : ByteArray), 0, 1)) else (if 0 ≤ x1 then (if x1 ≤ (x0.size : Int) then ((wire_New.f (x0.extract (x1 : Int).toNat x0.size)).bind fun bt162 => ((wire_Reader_Byte.f bt162.1 bt162.2.1 bt162.2.2.1 bt162.2.2.2).bind fun bt167 => ((wire_Reader_Err.f bt167.2.1 bt167.2.2.1 bt167.2.2.2.1 bt167.2.2.2.2).bind fun bt172 => (if bt172.1 = 0 then (batch_Decode.j1 k x1 (bt167.1 != 66) bt172.2.2.1 bt172.2.2.2.1 bt172.2.2.2.2.1 bt172.2.2.2.2.2) else (batch_Decode.j1 k x1 false bt172.2.2.1 bt172.2.2.2.1 bt172.2.2.2.2.1 bt172.2.2.2.2.2))))) else (none)) else (none))
def batch_Decode.j1 : Nat → Int → Bool → ByteArray → Int → Int → Int → Option (Int × Int × Int × ByteArray × Int × Int)
 | 0, _, _, _, _, _, _ => none
 | k + 1, x1, x39, x167000, x167001, x167002, x167003 => if x39 = true then (some (0, 0, 0, (⟨#[]⟩ : ByteArray), 0, 50)) else ((wire_Reader_Num.f k x167000 x167001 x167002 x167003).bind fun bt178 => ((wire_Reader_Num.f k bt178.2.1 bt178.2.2.1 bt178.2.2.2.1 bt178.2.2.2.2).bind fun bt183 => ((wire_Reader_Num.f k bt183.2.1 bt183.2.2.1 bt183.2.2.2.1 bt183.2.2.2.2).bind fun bt188 => ((wire_Reader_Text.f k bt188.2.1 bt188.2.2.1 bt188.2.2.2.1 bt188.2.2.2.2).bind fun bt193 => ((wire_Reader_Err.f bt193.2.1 bt193.2.2.1 bt193.2.2.2.1 bt193.2.2.2.2).bind fun bt199 => (if bt199.1 = 0 then ((batch_May.f bt178.1 bt183.1 bt188.1 bt193.1).bind fun t205 => (batch_Decode.j2 k x1 bt199.1 (!t205) bt199.2.2.1 bt199.2.2.2.1 bt199.2.2.2.2.1 bt199.2.2.2.2.2 bt178.1 bt183.1 bt188.1 bt193.1)) else (batch_Decode.j2 k x1 bt199.1 false bt199.2.2.1 bt199.2.2.2.1 bt199.2.2.2.2.1 bt199.2.2.2.2.2 bt178.1 bt183.1 bt188.1 bt193.1)))))))
def batch_Decode.j2 : Nat → Int → Int → Bool → ByteArray → Int → Int → Int → Int → Int → Int → ByteArray → Option (Int × Int × Int × ByteArray × Int × Int)
 | 0, _, _, _, _, _, _, _, _, _, _, _ => none
 | k + 1, x1, x12, x61, x167000, x167001, x167002, x167003, x199000, x199001, x199002, x199003 => if x61 = true then (some (0, 0, 0, (⟨#[]⟩ : ByteArray), 0, 50)) else (if x12 = 0 then ((wire_Reader_At.f x167000 x167001 x167002 x167003).bind fun bt206 => (some (x199000, x199001, x199002, x199003, wrap64 (x1 + bt206.1), 0))) else (some (0, 0, 0, (⟨#[]⟩ : ByteArray), 0, x12)))
end
def batch_Decode.f (k : Nat) (a0 : ByteArray) (a1 : Int) : Option (Int × Int × Int × ByteArray × Int × Int) := if a1 < 0 then (batch_Decode.j0 k a0 a1 true) else (batch_Decode.j0 k a0 a1 (decide (a1 > (a0.size : Int))))
theorem batch_Decode.mono_l : ∀ k, (∀ y0 y1 y2, LeO (batch_Decode.j0 k y0 y1 y2) (batch_Decode.j0 (k + 1) y0 y1 y2)) ∧ (∀ y0 y1 y2 y3 y4 y5, LeO (batch_Decode.j1 k y0 y1 y2 y3 y4 y5) (batch_Decode.j1 (k + 1) y0 y1 y2 y3 y4 y5)) ∧ (∀ y0 y1 y2 y3 y4 y5 y6 y7 y8 y9 y10, LeO (batch_Decode.j2 k y0 y1 y2 y3 y4 y5 y6 y7 y8 y9 y10) (batch_Decode.j2 (k + 1) y0 y1 y2 y3 y4 y5 y6 y7 y8 y9 y10))
 | 0 => ⟨fun _ _ _ r h => by simp [batch_Decode.j0] at h, fun _ _ _ _ _ _ r h => by simp [batch_Decode.j1] at h, fun _ _ _ _ _ _ _ _ _ _ _ r h => by simp [batch_Decode.j2] at h⟩
 | k + 1 => by
  obtain ⟨ih0, ih1, ih2⟩ := batch_Decode.mono_l k
  refine ⟨?_, ?_, ?_⟩
  ·
   intro y0 y1 y2
   unfold batch_Decode.j0
   repeat' first
   | (with_reducible exact ih0 _ _ _)
   | (with_reducible exact ih1 _ _ _ _ _ _)
   | (with_reducible exact ih2 _ _ _ _ _ _ _ _ _ _ _)
   | (with_reducible exact wire_Reader_Num.mono _ _ _ _ _)
   | (with_reducible exact wire_Reader_Text.mono _ _ _ _ _)
   | (with_reducible exact LeO.refl _)
   | (with_reducible exact LeO.none _)
   | (with_reducible refine LeO.ite ?_ ?_)
   | (with_reducible refine LeO.bind ?_ (fun _ => ?_))
   | exact LeO.none _
   | refine LeO.ite ?_ ?_
   | refine LeO.bind ?_ (fun _ => ?_)
  ·
   intro y0 y1 y2 y3 y4 y5
   unfold batch_Decode.j1
   repeat' first
   | (with_reducible exact ih0 _ _ _)
   | (with_reducible exact ih1 _ _ _ _ _ _)
   | (with_reducible exact ih2 _ _ _ _ _ _ _ _ _ _ _)
   | (with_reducible exact wire_Reader_Num.mono _ _ _ _ _)
   | (with_reducible exact wire_Reader_Text.mono _ _ _ _ _)
   | (with_reducible exact LeO.refl _)
   | (with_reducible exact LeO.none _)
   | (with_reducible refine LeO.ite ?_ ?_)
   | (with_reducible refine LeO.bind ?_ (fun _ => ?_))
   | exact LeO.none _
   | refine LeO.ite ?_ ?_
   | refine LeO.bind ?_ (fun _ => ?_)
  ·
   intro y0 y1 y2 y3 y4 y5 y6 y7 y8 y9 y10
   unfold batch_Decode.j2
   repeat' first
   | (with_reducible exact ih0 _ _ _)
   | (with_reducible exact ih1 _ _ _ _ _ _)
   | (with_reducible exact ih2 _ _ _ _ _ _ _ _ _ _ _)
   | (with_reducible exact wire_Reader_Num.mono _ _ _ _ _)
   | (with_reducible exact wire_Reader_Text.mono _ _ _ _ _)
   | (with_reducible exact LeO.refl _)
   | (with_reducible exact LeO.none _)
   | (with_reducible refine LeO.ite ?_ ?_)
   | (with_reducible refine LeO.bind ?_ (fun _ => ?_))
   | exact LeO.none _
   | refine LeO.ite ?_ ?_
   | refine LeO.bind ?_ (fun _ => ?_)
theorem batch_Decode.mono : ∀ a0 a1 k, LeO (batch_Decode.f k a0 a1) (batch_Decode.f (k + 1) a0 a1) := by
 intro a0 a1 k
 obtain ⟨ih0, ih1, ih2⟩ := batch_Decode.mono_l k
 unfold batch_Decode.f
 repeat' first
   | (with_reducible exact ih0 _ _ _)
   | (with_reducible exact ih1 _ _ _ _ _ _)
   | (with_reducible exact ih2 _ _ _ _ _ _ _ _ _ _ _)
   | (with_reducible exact wire_Reader_Num.mono _ _ _ _ _)
   | (with_reducible exact wire_Reader_Text.mono _ _ _ _ _)
   | (with_reducible exact LeO.refl _)
   | (with_reducible exact LeO.none _)
   | (with_reducible refine LeO.ite ?_ ?_)
   | (with_reducible refine LeO.bind ?_ (fun _ => ?_))
   | exact LeO.none _
   | refine LeO.ite ?_ ?_
   | refine LeO.bind ?_ (fun _ => ?_)
def batch_Decode.T14 : Bool × List (List Nat × List Nat) := (true, [([], []), ([], []), ([], []), ([2], [2]), ([1, 3], [1, 3]), ([0, 3, 0], [0]), ([4, 5, 0, 1, 2, 3, 4, 5], [4]), ([6, 0, 1, 2, 3, 4, 5, 6], [])])
def batch_Decode.B14 : List Nat := [0, 0, 0, 4, 14, 13, 63, 127]
theorem batch_Decode.tab14 : rtab .any (opsOf Try.f9 14) = batch_Decode.T14 := by kernel_rfl
theorem batch_Decode.bits14 : waitsOk batch_Decode.T14.2 batch_Decode.B14 = true := by kernel_rfl
set_option maxHeartbeats 8000000 in
set_option maxRecDepth 100000 in
theorem batch_Decode.calls (k : Nat) (a0 : ByteArray) (a1 : Int) (r1 : Int) (r2 : Int) (r3 : Int) (r4 : ByteArray) (r5 : Int) (r6 : Int) (w : World) (h : batch_Decode.f k a0 a1 = some (r1, r2, r3, r4, r5, r6)) :
  Calls Try.prog 9 #[.string a0, .int .i64 a1] w fun e w' => e = .returned (.tuple #[.agg #[.int .i64 r1, .int .i64 r2, .int .i64 r3, .string r4], .int .i64 r5, .int .i64 r6]) ∧ Below w.heap.size w w' := by
 have hu23 := Try.underlying23
 have HB := Am (Below.refl w.heap.size w)
 have H : (if a1 < 0 then (batch_Decode.j0 k a0 a1 true) else (batch_Decode.j0 k a0 a1 (decide (a1 > (a0.size : Int))))) = some (r1, r2, r3, r4, r5, r6) := h
 clear h
 have HC3 := Am H
 clear H
 go_enter Try.func9, Try.ntmps9
 go_upto_region 1 with (first | ((with_reducible refine gate_dst (N := 4) rfl ?_); (try (refine gate_guard (by rfl) ?_; dsimp only)); refine box_event ?hg (N := 4) ?hd (cs := #[.int .i64 0, .int .i64 0, .int .i64 0, .string (⟨#[]⟩ : ByteArray)]) (t := 23) ?hr ?_; (case hd => rfl); (case hg => rfl); (case hr => first | (go_simp; done) | (go_simp; rfl)); intro gb161 hg w4 hbox hb; have BK161 := Am (hbox); have GW161 := Am ((by rw [hg]; exact (below_size (by repeat (first | (with_reducible first | exact HB.out | apply bl | apply pN | apply b1) | exact HB.out | exact HBo.out))) : w.heap.size ≤ gb161)); have GE161 := GW161; replace HB := Am (below_step (by repeat (first | (with_reducible first | exact HB.out | apply bl | apply pN | apply b1) | exact HB.out | exact HBo.out)) hb); clear hb hbox hg))
 (try simp only [Act.put, sI, sZ, sS])
 go_cut [21] (fun v21 wc => ∃ (kq : Nat) (x21_2 : Bool), v21 = .bool x21_2 ∧ Aside0 (batch_Decode.j0 kq a0 a1 x21_2 = some (r1, r2, r3, r4, r5, r6)) ∧ Aside0 (kq ≤ k) ∧ Aside0 (wc.heap[gb161]? = some (.cells #[.int .i64 0, .int .i64 0, .int .i64 0, .string (⟨#[]⟩ : ByteArray)] 23 (0, 0))) ∧ Aside0 (Below w.heap.size w wc))
 case first =>
  have H := HC3.out
  clear HC3
  by_cases c5 : a1 < 0
  ·
   rw [if_pos c5] at H
   have c5b0 : decide (a1 < 0) = true := decide_eq_true c5
   clear c5
   (first | rw [c5b0] | (simp only [i64_w, i32_w]; rw [c5b0]) | skip)
   have H' := Am H
   clear H
   go_wp2
   go_meet
   case rel => exact ⟨_, (true), (by first | rfl | (simp; done) | (simp [*]; done)), H', ⟨by first | omega | exact Nat.le_refl _⟩, ⟨by (with_reducible repeat (first|apply bn|apply bd|apply ba)); exact BK161.out⟩, ⟨by repeat (first | (with_reducible first | exact HB.out | apply bl | apply pN | apply b1 | refine bs ?_ GE161.out) | exact HB.out | exact HBo.out)⟩⟩
  ·
   rw [if_neg c5] at H
   have c5b0 : decide (a1 < 0) = false := decide_eq_false c5
   clear c5
   (first | rw [c5b0] | (simp only [i64_w, i32_w]; rw [c5b0]) | skip)
   have H' := Am H
   clear H
   go_wp2
   go_meet
   case rel => exact ⟨_, (decide (a1 > (a0.size : Int))), (by first | rfl | (simp; done) | (simp [*]; done)), H', ⟨by first | omega | exact Nat.le_refl _⟩, ⟨by (with_reducible repeat (first|apply bn|apply bd|apply ba)); exact BK161.out⟩, ⟨by repeat (first | (with_reducible first | exact HB.out | apply bl | apply pN | apply b1 | refine bs ?_ GE161.out) | exact HB.out | exact HBo.out)⟩⟩
 case rest =>
  clear HC3
  try clear p2
  try clear c5
  try clear c5b0
  obtain ⟨kq, x21_2, rfl, HA, HJ2, BK161, HB⟩ := hcut
  cases kq with
  | zero => exact absurd HA.out (by simp [batch_Decode.j0])
  | succ kj2 =>
   have H := HA.out
   clear HA
   simp only [batch_Decode.j0] at H
   by_cases c6 : x21_2 = true
   ·
    subst c6
    rw [if_pos rfl] at H
    simp only [Option.some.injEq, Prod.mk.injEq] at H
    obtain ⟨rfl, rfl, rfl, rfl, rfl, rfl⟩ := H
    have hcz7_0 := Own.bc2 BK161.out 0
    have hcz7_1 := Own.bc2 BK161.out 1
    have hcz7_2 := Own.bc2 BK161.out 2
    have hcz7_3 := Own.bc2 BK161.out 3
    have hfz7_0 := bf BK161.out 0
    have hfz7_1 := bf BK161.out 1
    have hfz7_2 := bf BK161.out 2
    have hfz7_3 := bf BK161.out 3
    go_wp2
    refine bodyPost_ret (results_ctt rfl _ _ gb161 23 #[.int .i64 0, .int .i64 0, .int .i64 0, .string (⟨#[]⟩ : ByteArray)] (0, 0) _ rfl (by (with_reducible repeat (first|apply bn|apply bd|apply ba)); refine blk_put (cs := #[.int .i64 0, .int .i64 0, .int .i64 0, .string (⟨#[]⟩ : ByteArray)]) ?_ 3 _ rfl; (with_reducible repeat (first|apply bn|apply bd|apply ba)); refine blk_put (cs := #[.int .i64 0, .int .i64 0, .int .i64 0, .string (⟨#[]⟩ : ByteArray)]) ?_ 2 _ rfl; (with_reducible repeat (first|apply bn|apply bd|apply ba)); refine blk_put (cs := #[.int .i64 0, .int .i64 0, .int .i64 0, .string (⟨#[]⟩ : ByteArray)]) ?_ 1 _ rfl; (with_reducible repeat (first|apply bn|apply bd|apply ba)); refine blk_put (cs := #[.int .i64 0, .int .i64 0, .int .i64 0, .string (⟨#[]⟩ : ByteArray)]) ?_ 0 _ rfl; (with_reducible repeat (first|apply bn|apply bd|apply ba)); exact BK161.out) Try.underlying23 rfl (by kernel_rfl)) rfl ?_
    exact ⟨by first | rfl | (simp <;> rfl) | (simp [*] <;> rfl) | (simp [Aid.ne_nil, Aid.eq_nil]; done), by repeat (first | (with_reducible first | exact HB.out | apply bl | apply pN | apply b1 | refine bs ?_ GE161.out) | exact HB.out | exact HBo.out)⟩
   ·
    replace c6 := Bool.eq_false_iff.mpr c6
    subst c6
    rw [if_neg (show ¬ (false = true) by decide)] at H
    by_cases c8 : 0 ≤ a1
    ·
     rw [if_pos c8] at H
     have c8b0 := eq_true c8
     have c8b1 : decide (0 ≤ a1) = true := decide_eq_true c8
     clear c8
     by_cases c9 : a1 ≤ (a0.size : Int)
     ·
      rw [if_pos c9] at H
      have c9b0 := eq_true c9
      have c9b1 : decide (a1 ≤ (a0.size : Int)) = true := decide_eq_true c9
      clear c9
      replace H := ob H
      obtain ⟨⟨t162, t163, t164, t165⟩, A100, H⟩ := H
      (try dsimp only at H)
      have A10 := Am A100
      clear A100
      replace H := ob H
      obtain ⟨⟨t167, t168, t169, t170, t171⟩, A110, H⟩ := H
      (try dsimp only at H)
      have A11 := Am A110
      clear A110
      replace H := ob H
      obtain ⟨⟨t172, t173, t174, t175, t176, t177⟩, A120, H⟩ := H
      (try dsimp only at H)
      have A12 := Am A120
      clear A120
      have HC13 := Am H
      clear H
      go_upto_region 6 with (first | ((with_reducible refine gate_callee (f := 22) rfl ?_); refine Own.gL_ (some 26) Try.func22 (#[.string (a0.extract (a1 : Int).toNat a0.size)]) (h := ?_); (with_reducible refine (wire_New.calls (a0.extract (a1 : Int).toNat a0.size) t162 t163 t164 t165 w _ ?side1 A10.out).mono ?_); (case side1 => repeat (first | (with_reducible first | exact HB.out | apply bl | apply pN | apply b1 | refine bs ?_ GE161.out) | exact HB.out | exact HBo.out)); rintro e w14 ⟨g166, rfl, hi, hb, hb2⟩; refine ⟨_, rfl, ?_⟩; have HI166 := Am (hi); have NB166_161 := Am (IsS67.ne_blk hi (blk_below (g := gb161) (o := .cells #[.int .i64 0, .int .i64 0, .int .i64 0, .string (⟨#[]⟩ : ByteArray)] 23 (0, 0)) (by (with_reducible repeat (first|apply bn|apply bd|apply ba)); exact BK161.out) hb2) (by decide)); have NB161_166 := Am (Ne.symm (IsS67.ne_blk hi (blk_below (g := gb161) (o := .cells #[.int .i64 0, .int .i64 0, .int .i64 0, .string (⟨#[]⟩ : ByteArray)] 23 (0, 0)) (by (with_reducible repeat (first|apply bn|apply bd|apply ba)); exact BK161.out) hb2) (by decide))); replace BK161 := Am (blk_below (g := gb161) (o := .cells #[.int .i64 0, .int .i64 0, .int .i64 0, .string (⟨#[]⟩ : ByteArray)] 23 (0, 0)) (by (with_reducible repeat (first|apply bn|apply bd|apply ba)); exact BK161.out) hb2); replace HB := Am (hb); (try clear hb); (try clear hb2); (try clear hk); (try clear hi)) | ((with_reducible refine gate_callee (f := 23) rfl ?_); refine Own.gL_ (some 28) Try.func23 (#[.pointer (some ⟨g166, 0, none⟩)]) (h := ?_); (with_reducible refine (wire_Reader_Byte.calls g166 t162 t163 t164 t165 t167 t168 t169 t170 t171 w _ ?side1 ?side2 A11.out).mono ?_); (case side1 => repeat (first | (with_reducible first | exact HI166.out | apply IsS67.alloc | apply IsS67.drewN | apply IsS67.drew | apply IsS67.set_0 | apply IsS67.set_1 | apply IsS67.set_2 | apply IsS67.set_3 | refine IsS67.far ?_ NB166_161.out _) | exact HI166.out)); (case side2 => repeat (first | (with_reducible first | exact HB.out | apply bl | apply pN | apply b1 | refine bs ?_ (IsS67.ge HI166.out) | refine bs ?_ GE161.out) | exact HB.out | exact HBo.out)); rintro e w15 ⟨rfl, hi, hb, hk⟩; refine ⟨_, rfl, ?_⟩; replace BK161 := Am (KeepBut.blk hk (g' := gb161) (o := .cells #[.int .i64 0, .int .i64 0, .int .i64 0, .string (⟨#[]⟩ : ByteArray)] 23 (0, 0)) (by (with_reducible repeat (first|apply bn|apply bd|apply ba)); exact BK161.out) NB161_166.out (by simp)); replace HB := Am (hb); replace HI166 := Am (hi); (try clear hb); (try clear hb2); (try clear hk); (try clear hi)) | ((with_reducible refine gate_callee (f := 24) rfl ?_); refine Own.gL_ (some 31) Try.func24 (#[.pointer (some ⟨g166, 0, none⟩)]) (h := ?_); (with_reducible refine (wire_Reader_Err.calls g166 t168 t169 t170 t171 t172 t173 t174 t175 t176 t177 w _ ?side1 ?side2 A12.out).mono ?_); (case side1 => repeat (first | (with_reducible first | exact HI166.out | apply IsS67.alloc | apply IsS67.drewN | apply IsS67.drew | apply IsS67.set_0 | apply IsS67.set_1 | apply IsS67.set_2 | apply IsS67.set_3 | refine IsS67.far ?_ NB166_161.out _) | exact HI166.out)); (case side2 => repeat (first | (with_reducible first | exact HB.out | apply bl | apply pN | apply b1 | refine bs ?_ (IsS67.ge HI166.out) | refine bs ?_ GE161.out) | exact HB.out | exact HBo.out)); rintro e w16 ⟨rfl, hi, hb, hk⟩; refine ⟨_, rfl, ?_⟩; replace BK161 := Am (KeepBut.blk hk (g' := gb161) (o := .cells #[.int .i64 0, .int .i64 0, .int .i64 0, .string (⟨#[]⟩ : ByteArray)] 23 (0, 0)) (by (with_reducible repeat (first|apply bn|apply bd|apply ba)); exact BK161.out) NB161_166.out (by simp)); replace HB := Am (hb); replace HI166 := Am (hi); (try clear hb); (try clear hb2); (try clear hk); (try clear hi)))
      (try simp only [Act.put, sI, sZ, sS])
      go_cut [39] (fun v39 wc => ∃ (kq : Nat) (x39_12 : Bool), v39 = .bool x39_12 ∧ Aside0 (batch_Decode.j1 kq a1 x39_12 t174 t175 t176 t177 = some (r1, r2, r3, r4, r5, r6)) ∧ Aside0 (kq ≤ kj2) ∧ Aside0 (wc.heap[gb161]? = some (.cells #[.int .i64 0, .int .i64 0, .int .i64 0, .string (⟨#[]⟩ : ByteArray)] 23 (0, 0))) ∧ Aside0 (IsS67 w wc g166 t174 t175 t176 t177) ∧ Aside0 (Below w.heap.size w wc))
      case first =>
       have H := HC13.out
       clear HC13
       by_cases c17 : t172 = 0
       ·
        rw [if_pos c17] at H
        have c17b0 : (t172 == 0) = true := beq_iff_eq.mpr c17
        have c17b1 : (t172 != 0) = false := bne_eq_false_iff_eq.mpr c17
        clear c17
        (first | rw [c17b0] | (simp only [i64_w, i32_w]; rw [c17b0]) | skip)
        have H' := Am H
        clear H
        go_wp2
        go_meet
        case rel => exact ⟨_, ((t167 != 66)), (by first | rfl | (simp; done) | (simp [*]; done)), H', ⟨by have := HJ2.out; first | omega | exact Nat.le_refl _⟩, ⟨by (with_reducible repeat (first|apply bn|apply bd|apply ba)); exact BK161.out⟩, ⟨by repeat (first | (with_reducible first | exact HI166.out | apply IsS67.alloc | apply IsS67.drewN | apply IsS67.drew | apply IsS67.set_0 | apply IsS67.set_1 | apply IsS67.set_2 | apply IsS67.set_3 | refine IsS67.far ?_ NB166_161.out _) | exact HI166.out)⟩, ⟨by repeat (first | (with_reducible first | exact HB.out | apply bl | apply pN | apply b1 | refine bs ?_ (IsS67.ge HI166.out) | refine bs ?_ GE161.out) | exact HB.out | exact HBo.out)⟩⟩
       ·
        rw [if_neg c17] at H
        have c17b0 : (t172 == 0) = false := beq_eq_false_iff_ne.mpr c17
        have c17b1 : (t172 != 0) = true := bne_iff_ne.mpr c17
        (first | rw [c17b0] | (simp only [i64_w, i32_w]; rw [c17b0]) | skip)
        have H' := Am H
        clear H
        go_wp2
        go_meet
        case rel => exact ⟨_, (false), (by first | rfl | (simp; done) | (simp [*]; done)), H', ⟨by have := HJ2.out; first | omega | exact Nat.le_refl _⟩, ⟨by (with_reducible repeat (first|apply bn|apply bd|apply ba)); exact BK161.out⟩, ⟨by repeat (first | (with_reducible first | exact HI166.out | apply IsS67.alloc | apply IsS67.drewN | apply IsS67.drew | apply IsS67.set_0 | apply IsS67.set_1 | apply IsS67.set_2 | apply IsS67.set_3 | refine IsS67.far ?_ NB166_161.out _) | exact HI166.out)⟩, ⟨by repeat (first | (with_reducible first | exact HB.out | apply bl | apply pN | apply b1 | refine bs ?_ (IsS67.ge HI166.out) | refine bs ?_ GE161.out) | exact HB.out | exact HBo.out)⟩⟩
      case rest =>
       clear HC13
       try clear c1
       try clear c2
       try clear p2
       try clear c5
       try clear c5b0
       try clear c6
       try clear c8
       try clear c8b0
       try clear c8b1
       try clear c9
       try clear c9b0
       try clear c9b1
       try clear c17
       try clear c17b0
       try clear c17b1
       try clear hcz7_0
       try clear hcz7_1
       try clear hcz7_2
       try clear hcz7_3
       try clear hfz7_0
       try clear hfz7_1
       try clear hfz7_2
       try clear hfz7_3
       try clear p2
       obtain ⟨kq, x39_12, rfl, HA, HJ12, BK161, HI166, HB⟩ := hcut
       cases kq with
       | zero => exact absurd HA.out (by simp [batch_Decode.j1])
       | succ kj12 =>
        have H := HA.out
        clear HA
        simp only [batch_Decode.j1] at H
        by_cases c18 : x39_12 = true
        ·
         subst c18
         rw [if_pos rfl] at H
         simp only [Option.some.injEq, Prod.mk.injEq] at H
         obtain ⟨rfl, rfl, rfl, rfl, rfl, rfl⟩ := H
         have hnb19 := NB161_166.out
         have hnc19 := NB166_161.out
         have hcz20_0 := Own.bc2 BK161.out 0
         have hcz20_1 := Own.bc2 BK161.out 1
         have hcz20_2 := Own.bc2 BK161.out 2
         have hcz20_3 := Own.bc2 BK161.out 3
         have hfz20_0 := bf BK161.out 0
         have hfz20_1 := bf BK161.out 1
         have hfz20_2 := bf BK161.out 2
         have hfz20_3 := bf BK161.out 3
         go_wp2
         refine bodyPost_ret (results_ctt rfl _ _ gb161 23 #[.int .i64 0, .int .i64 0, .int .i64 0, .string (⟨#[]⟩ : ByteArray)] (0, 0) _ rfl (by (with_reducible repeat (first|apply bn|apply bd|apply ba)); refine blk_put (cs := #[.int .i64 0, .int .i64 0, .int .i64 0, .string (⟨#[]⟩ : ByteArray)]) ?_ 3 _ rfl; (with_reducible repeat (first|apply bn|apply bd|apply ba)); refine blk_put (cs := #[.int .i64 0, .int .i64 0, .int .i64 0, .string (⟨#[]⟩ : ByteArray)]) ?_ 2 _ rfl; (with_reducible repeat (first|apply bn|apply bd|apply ba)); refine blk_put (cs := #[.int .i64 0, .int .i64 0, .int .i64 0, .string (⟨#[]⟩ : ByteArray)]) ?_ 1 _ rfl; (with_reducible repeat (first|apply bn|apply bd|apply ba)); refine blk_put (cs := #[.int .i64 0, .int .i64 0, .int .i64 0, .string (⟨#[]⟩ : ByteArray)]) ?_ 0 _ rfl; (with_reducible repeat (first|apply bn|apply bd|apply ba)); exact BK161.out) Try.underlying23 rfl (by kernel_rfl)) rfl ?_
         exact ⟨by first | rfl | (simp <;> rfl) | (simp [*] <;> rfl) | (simp [Aid.ne_nil, Aid.eq_nil]; done), by repeat (first | (with_reducible first | exact HB.out | apply bl | apply pN | apply b1 | refine bs ?_ (IsS67.ge HI166.out) | refine bs ?_ GE161.out) | exact HB.out | exact HBo.out)⟩
        ·
         replace c18 := Bool.eq_false_iff.mpr c18
         subst c18
         rw [if_neg (show ¬ (false = true) by decide)] at H
         replace H := ob H
         obtain ⟨⟨t178, t179, t180, t181, t182⟩, A210, H⟩ := H
         (try dsimp only at H)
         have A21 := Am A210
         clear A210
         replace H := ob H
         obtain ⟨⟨t183, t184, t185, t186, t187⟩, A220, H⟩ := H
         (try dsimp only at H)
         have A22 := Am A220
         clear A220
         replace H := ob H
         obtain ⟨⟨t188, t189, t190, t191, t192⟩, A230, H⟩ := H
         (try dsimp only at H)
         have A23 := Am A230
         clear A230
         replace H := ob H
         obtain ⟨⟨t193, t194, t195, t196, t197⟩, A240, H⟩ := H
         (try dsimp only at H)
         have A24 := Am A240
         clear A240
         replace H := ob H
         obtain ⟨⟨t199, t200, t201, t202, t203, t204⟩, A250, H⟩ := H
         (try dsimp only at H)
         have A25 := Am A250
         clear A250
         have HC26 := Am H
         clear H
         go_upto_region 10 with (first | ((with_reducible refine gate_callee (f := 25) rfl ?_); refine Own.gL_ (some 42) Try.func25 (#[.pointer (some ⟨g166, 0, none⟩)]) (h := ?_); (with_reducible refine (wire_Reader_Num.calls kj12 g166 t174 t175 t176 t177 t178 t179 t180 t181 t182 w _ ?side1 ?side2 A21.out).mono ?_); (case side1 => repeat (first | (with_reducible first | exact HI166.out | apply IsS67.alloc | apply IsS67.drewN | apply IsS67.drew | apply IsS67.set_0 | apply IsS67.set_1 | apply IsS67.set_2 | apply IsS67.set_3 | refine IsS67.far ?_ NB166_161.out _) | exact HI166.out)); (case side2 => repeat (first | (with_reducible first | exact HB.out | apply bl | apply pN | apply b1 | refine bs ?_ (IsS67.ge HI166.out) | refine bs ?_ GE161.out) | exact HB.out | exact HBo.out)); rintro e w27 ⟨rfl, hi, hb, hk⟩; refine ⟨_, rfl, ?_⟩; replace BK161 := Am (KeepBut.blk hk (g' := gb161) (o := .cells #[.int .i64 0, .int .i64 0, .int .i64 0, .string (⟨#[]⟩ : ByteArray)] 23 (0, 0)) (by (with_reducible repeat (first|apply bn|apply bd|apply ba)); exact BK161.out) NB161_166.out (by simp)); replace HB := Am (hb); replace HI166 := Am (hi); (try clear hb); (try clear hb2); (try clear hk); (try clear hi)) | ((with_reducible refine gate_callee (f := 25) rfl ?_); refine Own.gL_ (some 44) Try.func25 (#[.pointer (some ⟨g166, 0, none⟩)]) (h := ?_); (with_reducible refine (wire_Reader_Num.calls kj12 g166 t179 t180 t181 t182 t183 t184 t185 t186 t187 w _ ?side1 ?side2 A22.out).mono ?_); (case side1 => repeat (first | (with_reducible first | exact HI166.out | apply IsS67.alloc | apply IsS67.drewN | apply IsS67.drew | apply IsS67.set_0 | apply IsS67.set_1 | apply IsS67.set_2 | apply IsS67.set_3 | refine IsS67.far ?_ NB166_161.out _) | exact HI166.out)); (case side2 => repeat (first | (with_reducible first | exact HB.out | apply bl | apply pN | apply b1 | refine bs ?_ (IsS67.ge HI166.out) | refine bs ?_ GE161.out) | exact HB.out | exact HBo.out)); rintro e w28 ⟨rfl, hi, hb, hk⟩; refine ⟨_, rfl, ?_⟩; replace BK161 := Am (KeepBut.blk hk (g' := gb161) (o := .cells #[.int .i64 0, .int .i64 0, .int .i64 0, .string (⟨#[]⟩ : ByteArray)] 23 (0, 0)) (by (with_reducible repeat (first|apply bn|apply bd|apply ba)); exact BK161.out) NB161_166.out (by simp)); replace HB := Am (hb); replace HI166 := Am (hi); (try clear hb); (try clear hb2); (try clear hk); (try clear hi)) | ((with_reducible refine gate_callee (f := 25) rfl ?_); refine Own.gL_ (some 46) Try.func25 (#[.pointer (some ⟨g166, 0, none⟩)]) (h := ?_); (with_reducible refine (wire_Reader_Num.calls kj12 g166 t184 t185 t186 t187 t188 t189 t190 t191 t192 w _ ?side1 ?side2 A23.out).mono ?_); (case side1 => repeat (first | (with_reducible first | exact HI166.out | apply IsS67.alloc | apply IsS67.drewN | apply IsS67.drew | apply IsS67.set_0 | apply IsS67.set_1 | apply IsS67.set_2 | apply IsS67.set_3 | refine IsS67.far ?_ NB166_161.out _) | exact HI166.out)); (case side2 => repeat (first | (with_reducible first | exact HB.out | apply bl | apply pN | apply b1 | refine bs ?_ (IsS67.ge HI166.out) | refine bs ?_ GE161.out) | exact HB.out | exact HBo.out)); rintro e w29 ⟨rfl, hi, hb, hk⟩; refine ⟨_, rfl, ?_⟩; replace BK161 := Am (KeepBut.blk hk (g' := gb161) (o := .cells #[.int .i64 0, .int .i64 0, .int .i64 0, .string (⟨#[]⟩ : ByteArray)] 23 (0, 0)) (by (with_reducible repeat (first|apply bn|apply bd|apply ba)); exact BK161.out) NB161_166.out (by simp)); replace HB := Am (hb); replace HI166 := Am (hi); (try clear hb); (try clear hb2); (try clear hk); (try clear hi)) | ((with_reducible refine gate_callee (f := 26) rfl ?_); refine Own.gL_ (some 48) Try.func26 (#[.pointer (some ⟨g166, 0, none⟩)]) (h := ?_); (with_reducible refine (wire_Reader_Text.calls kj12 g166 t189 t190 t191 t192 t193 t194 t195 t196 t197 w _ ?side1 ?side2 A24.out).mono ?_); (case side1 => repeat (first | (with_reducible first | exact HI166.out | apply IsS67.alloc | apply IsS67.drewN | apply IsS67.drew | apply IsS67.set_0 | apply IsS67.set_1 | apply IsS67.set_2 | apply IsS67.set_3 | refine IsS67.far ?_ NB166_161.out _) | exact HI166.out)); (case side2 => repeat (first | (with_reducible first | exact HB.out | apply bl | apply pN | apply b1 | refine bs ?_ (IsS67.ge HI166.out) | refine bs ?_ GE161.out) | exact HB.out | exact HBo.out)); rintro e w30 ⟨rfl, hi, hb, hk⟩; refine ⟨_, rfl, ?_⟩; replace BK161 := Am (KeepBut.blk hk (g' := gb161) (o := .cells #[.int .i64 0, .int .i64 0, .int .i64 0, .string (⟨#[]⟩ : ByteArray)] 23 (0, 0)) (by (with_reducible repeat (first|apply bn|apply bd|apply ba)); exact BK161.out) NB161_166.out (by simp)); replace HB := Am (hb); replace HI166 := Am (hi); (try clear hb); (try clear hb2); (try clear hk); (try clear hi)) | ((with_reducible refine gate_dst (N := 11) rfl ?_); (try (refine gate_guard (by rfl) ?_; dsimp only)); refine box_event ?hg (N := 11) ?hd (cs := #[.int .i64 0, .int .i64 0, .int .i64 0, .string (⟨#[]⟩ : ByteArray)]) (t := 23) ?hr ?_; (case hd => rfl); (case hg => rfl); (case hr => first | (go_simp; done) | (go_simp; rfl)); intro gb198 hg w31 hbox hb; have n0_ := Am (blk_below (g := gb161) (o := .cells #[.int .i64 0, .int .i64 0, .int .i64 0, .string (⟨#[]⟩ : ByteArray)] 23 (0, 0)) (by (with_reducible repeat (first|apply bn|apply bd|apply ba)); exact BK161.out) hb); have n1_ := Am (IsS67.below (by repeat (first | (with_reducible first | exact HI166.out | apply IsS67.alloc | apply IsS67.drewN | apply IsS67.drew | apply IsS67.set_0 | apply IsS67.set_1 | apply IsS67.set_2 | apply IsS67.set_3 | refine IsS67.far ?_ NB166_161.out _) | exact HI166.out)) hb); have n2_ := Am (below_step (by repeat (first | (with_reducible first | exact HB.out | apply bl | apply pN | apply b1 | refine bs ?_ (IsS67.ge HI166.out) | refine bs ?_ GE161.out) | exact HB.out | exact HBo.out)) hb); have n3_ := Am (hbox); have n4_ := Am ((by rw [hg]; exact (below_size (by repeat (first | (with_reducible first | exact HB.out | apply bl | apply pN | apply b1 | refine bs ?_ (IsS67.ge HI166.out) | refine bs ?_ GE161.out) | exact HB.out | exact HBo.out))) : w.heap.size ≤ gb198)); have n5_ := Am ((by rw [hg]; exact (below_size (by repeat (first | (with_reducible first | exact HB.out | apply bl | apply pN | apply b1 | refine bs ?_ (IsS67.ge HI166.out) | refine bs ?_ GE161.out) | exact HB.out | exact HBo.out))) : w.heap.size ≤ gb198)); have n6_ := Am ((by rw [hg]; exact Nat.ne_of_lt (blk_lt (g := gb161) (o := .cells #[.int .i64 0, .int .i64 0, .int .i64 0, .string (⟨#[]⟩ : ByteArray)] 23 (0, 0)) (by (with_reducible repeat (first|apply bn|apply bd|apply ba)); exact BK161.out)) : gb161 ≠ gb198)); have n7_ := Am ((by rw [hg]; exact Nat.ne_of_gt (blk_lt (g := gb161) (o := .cells #[.int .i64 0, .int .i64 0, .int .i64 0, .string (⟨#[]⟩ : ByteArray)] 23 (0, 0)) (by (with_reducible repeat (first|apply bn|apply bd|apply ba)); exact BK161.out)) : gb198 ≠ gb161)); have n8_ := Am ((by rw [hg]; exact Nat.ne_of_lt (IsS67.lt (show IsS67 w _ g166 t194 t195 t196 t197 from by repeat (first | (with_reducible first | exact HI166.out | apply IsS67.alloc | apply IsS67.drewN | apply IsS67.drew | apply IsS67.set_0 | apply IsS67.set_1 | apply IsS67.set_2 | apply IsS67.set_3 | refine IsS67.far ?_ NB166_161.out _) | exact HI166.out))) : g166 ≠ gb198)); have n9_ := Am ((by rw [hg]; exact Nat.ne_of_gt (IsS67.lt (show IsS67 w _ g166 t194 t195 t196 t197 from by repeat (first | (with_reducible first | exact HI166.out | apply IsS67.alloc | apply IsS67.drewN | apply IsS67.drew | apply IsS67.set_0 | apply IsS67.set_1 | apply IsS67.set_2 | apply IsS67.set_3 | refine IsS67.far ?_ NB166_161.out _) | exact HI166.out))) : gb198 ≠ g166)); clear BK161; clear HI166; clear HB; have BK161 := n0_; have HI166 := n1_; have HB := n2_; have BK198 := n3_; have GW198 := n4_; have GE198 := n5_; have NB161_198 := n6_; have NB198_161 := n7_; have NB166_198 := n8_; have NB198_166 := n9_; clear n0_ n1_ n2_ n3_ n4_ n5_ n6_ n7_ n8_ n9_; clear hb hbox hg; have hnb32 := NB198_161.out; have hnc32 := NB161_198.out; have hnb33 := NB198_166.out; have hnc33 := NB166_198.out; have hcz34_0 := Own.bc2 BK198.out 0; have hcz34_1 := Own.bc2 BK198.out 1; have hcz34_2 := Own.bc2 BK198.out 2; have hcz34_3 := Own.bc2 BK198.out 3; have hfz34_0 := bf BK198.out 0; have hfz34_1 := bf BK198.out 1; have hfz34_2 := bf BK198.out 2; have hfz34_3 := bf BK198.out 3) | ((with_reducible refine gate_callee (f := 24) rfl ?_); refine Own.gL_ (some 52) Try.func24 (#[.pointer (some ⟨g166, 0, none⟩)]) (h := ?_); (with_reducible refine (wire_Reader_Err.calls g166 t194 t195 t196 t197 t199 t200 t201 t202 t203 t204 w _ ?side1 ?side2 A25.out).mono ?_); (case side1 => repeat (first | (with_reducible first | exact HI166.out | apply IsS67.alloc | apply IsS67.drewN | apply IsS67.drew | apply IsS67.set_0 | apply IsS67.set_1 | apply IsS67.set_2 | apply IsS67.set_3 | refine IsS67.far ?_ NB166_161.out _ | refine IsS67.far ?_ NB166_198.out _) | exact HI166.out)); (case side2 => repeat (first | (with_reducible first | exact HB.out | apply bl | apply pN | apply b1 | refine bs ?_ (IsS67.ge HI166.out) | refine bs ?_ GE161.out | refine bs ?_ GE198.out) | exact HB.out | exact HBo.out)); rintro e w35 ⟨rfl, hi, hb, hk⟩; refine ⟨_, rfl, ?_⟩; replace BK161 := Am (KeepBut.blk hk (g' := gb161) (o := .cells #[.int .i64 0, .int .i64 0, .int .i64 0, .string (⟨#[]⟩ : ByteArray)] 23 (0, 0)) (by (with_reducible repeat (first|apply bn|apply bd|apply ba)); refine blk_far ?_ NB161_198.out _; (with_reducible repeat (first|apply bn|apply bd|apply ba)); refine blk_far ?_ NB161_198.out _; (with_reducible repeat (first|apply bn|apply bd|apply ba)); refine blk_far ?_ NB161_198.out _; (with_reducible repeat (first|apply bn|apply bd|apply ba)); refine blk_far ?_ NB161_198.out _; (with_reducible repeat (first|apply bn|apply bd|apply ba)); exact BK161.out) NB161_166.out (by simp)); replace BK198 := Am (KeepBut.blk hk (g' := gb198) (o := .cells #[.int .i64 t178, .int .i64 t183, .int .i64 t188, .string t193] 23 (0, 0)) (by (with_reducible repeat (first|apply bn|apply bd|apply ba)); refine blk_put (cs := #[.int .i64 t178, .int .i64 t183, .int .i64 t188, .string (⟨#[]⟩ : ByteArray)]) ?_ 3 _ rfl; (with_reducible repeat (first|apply bn|apply bd|apply ba)); refine blk_put (cs := #[.int .i64 t178, .int .i64 t183, .int .i64 0, .string (⟨#[]⟩ : ByteArray)]) ?_ 2 _ rfl; (with_reducible repeat (first|apply bn|apply bd|apply ba)); refine blk_put (cs := #[.int .i64 t178, .int .i64 0, .int .i64 0, .string (⟨#[]⟩ : ByteArray)]) ?_ 1 _ rfl; (with_reducible repeat (first|apply bn|apply bd|apply ba)); refine blk_put (cs := #[.int .i64 0, .int .i64 0, .int .i64 0, .string (⟨#[]⟩ : ByteArray)]) ?_ 0 _ rfl; (with_reducible repeat (first|apply bn|apply bd|apply ba)); exact BK198.out) NB198_166.out (by simp)); replace HB := Am (hb); replace HI166 := Am (hi); (try clear hb); (try clear hb2); (try clear hk); (try clear hi)))
         (try simp only [Act.put, sI, sZ, sS])
         go_cut [61] (fun v61 wc => ∃ (kq : Nat) (x61_25 : Bool), v61 = .bool x61_25 ∧ Aside0 (batch_Decode.j2 kq a1 t199 x61_25 t201 t202 t203 t204 t178 t183 t188 t193 = some (r1, r2, r3, r4, r5, r6)) ∧ Aside0 (kq ≤ kj12) ∧ Aside0 (wc.heap[gb161]? = some (.cells #[.int .i64 0, .int .i64 0, .int .i64 0, .string (⟨#[]⟩ : ByteArray)] 23 (0, 0))) ∧ Aside0 (wc.heap[gb198]? = some (.cells #[.int .i64 t178, .int .i64 t183, .int .i64 t188, .string t193] 23 (0, 0))) ∧ Aside0 (IsS67 w wc g166 t201 t202 t203 t204) ∧ Aside0 (Below w.heap.size w wc))
         case first =>
          have H := HC26.out
          clear HC26
          by_cases c36 : t199 = 0
          ·
           rw [if_pos c36] at H
           have c36b0 : (t199 == 0) = true := beq_iff_eq.mpr c36
           have c36b1 : (t199 != 0) = false := bne_eq_false_iff_eq.mpr c36
           clear c36
           (first | rw [c36b0] | (simp only [i64_w, i32_w]; rw [c36b0]) | skip)
           replace H := ob H
           obtain ⟨t205, A370, H⟩ := H
           (try dsimp only at H)
           have A37 := Am A370
           clear A370
           have H' := Am H
           clear H
           have hnb38 := NB198_161.out
           have hnc38 := NB161_198.out
           have hnb39 := NB198_166.out
           have hnc39 := NB166_198.out
           have hcz40_0 := Own.bc2 BK198.out 0
           have hcz40_1 := Own.bc2 BK198.out 1
           have hcz40_2 := Own.bc2 BK198.out 2
           have hcz40_3 := Own.bc2 BK198.out 3
           have hfz40_0 := bf BK198.out 0
           have hfz40_1 := bf BK198.out 1
           have hfz40_2 := bf BK198.out 2
           have hfz40_3 := bf BK198.out 3
           go_wp2_with (first | (go_at_call 13; (with_reducible refine (batch_May.calls t178 t183 t188 t193 t205 _ A37.out).mono ?_); rintro e w41 ⟨rfl, hb⟩; have n0_ := Am (blk_below (g := gb161) (o := .cells #[.int .i64 0, .int .i64 0, .int .i64 0, .string (⟨#[]⟩ : ByteArray)] 23 (0, 0)) (by (with_reducible repeat (first|apply bn|apply bd|apply ba)); exact BK161.out) hb); have n1_ := Am (IsS67.below (by repeat (first | (with_reducible first | exact HI166.out | apply IsS67.alloc | apply IsS67.drewN | apply IsS67.drew | apply IsS67.set_0 | apply IsS67.set_1 | apply IsS67.set_2 | apply IsS67.set_3 | refine IsS67.far ?_ NB166_161.out _ | refine IsS67.far ?_ NB166_198.out _) | exact HI166.out)) hb); have n2_ := Am (blk_below (g := gb198) (o := .cells #[.int .i64 t178, .int .i64 t183, .int .i64 t188, .string t193] 23 (0, 0)) (by (with_reducible repeat (first|apply bn|apply bd|apply ba)); exact BK198.out) hb); have n3_ := Am (below_step (by repeat (first | (with_reducible first | exact HB.out | apply bl | apply pN | apply b1 | refine bs ?_ (IsS67.ge HI166.out) | refine bs ?_ GE161.out | refine bs ?_ GE198.out) | exact HB.out | exact HBo.out)) hb); clear BK161; clear HI166; clear BK198; clear HB; have BK161 := n0_; have HI166 := n1_; have BK198 := n2_; have HB := n3_; clear n0_ n1_ n2_ n3_; clear hb))
           go_meet
           case rel => exact ⟨_, (!t205), (by first | rfl | (simp; done) | (simp [*]; done)), H', ⟨by have := HJ2.out; have := HJ12.out; first | omega | exact Nat.le_refl _⟩, ⟨by (with_reducible repeat (first|apply bn|apply bd|apply ba)); exact BK161.out⟩, ⟨by (with_reducible repeat (first|apply bn|apply bd|apply ba)); exact BK198.out⟩, ⟨by repeat (first | (with_reducible first | exact HI166.out | apply IsS67.alloc | apply IsS67.drewN | apply IsS67.drew | apply IsS67.set_0 | apply IsS67.set_1 | apply IsS67.set_2 | apply IsS67.set_3 | refine IsS67.far ?_ NB166_161.out _ | refine IsS67.far ?_ NB166_198.out _) | exact HI166.out)⟩, ⟨by repeat (first | (with_reducible first | exact HB.out | apply bl | apply pN | apply b1 | refine bs ?_ (IsS67.ge HI166.out) | refine bs ?_ GE161.out | refine bs ?_ GE198.out) | exact HB.out | exact HBo.out)⟩⟩
          ·
           rw [if_neg c36] at H
           have c36b0 : (t199 == 0) = false := beq_eq_false_iff_ne.mpr c36
           have c36b1 : (t199 != 0) = true := bne_iff_ne.mpr c36
           (first | rw [c36b0] | (simp only [i64_w, i32_w]; rw [c36b0]) | skip)
           have H' := Am H
           clear H
           go_wp2
           go_meet
           case rel => exact ⟨_, (false), (by first | rfl | (simp; done) | (simp [*]; done)), H', ⟨by have := HJ2.out; have := HJ12.out; first | omega | exact Nat.le_refl _⟩, ⟨by (with_reducible repeat (first|apply bn|apply bd|apply ba)); exact BK161.out⟩, ⟨by (with_reducible repeat (first|apply bn|apply bd|apply ba)); exact BK198.out⟩, ⟨by repeat (first | (with_reducible first | exact HI166.out | apply IsS67.alloc | apply IsS67.drewN | apply IsS67.drew | apply IsS67.set_0 | apply IsS67.set_1 | apply IsS67.set_2 | apply IsS67.set_3 | refine IsS67.far ?_ NB166_161.out _ | refine IsS67.far ?_ NB166_198.out _) | exact HI166.out)⟩, ⟨by repeat (first | (with_reducible first | exact HB.out | apply bl | apply pN | apply b1 | refine bs ?_ (IsS67.ge HI166.out) | refine bs ?_ GE161.out | refine bs ?_ GE198.out) | exact HB.out | exact HBo.out)⟩⟩
         case rest =>
          clear HC26
          try clear c1
          try clear c2
          try clear p2
          try clear c3
          try clear c5
          try clear c5b0
          try clear c6
          try clear c8
          try clear c8b0
          try clear c8b1
          try clear c9
          try clear c9b0
          try clear c9b1
          try clear c17
          try clear c17b0
          try clear c17b1
          try clear c18
          try clear c19
          try clear c22
          try clear c23
          try clear c24
          try clear c25
          try clear c26
          try clear c32
          try clear c33
          try clear c36
          try clear c36b0
          try clear c36b1
          try clear c38
          try clear c39
          try clear hcz20_0
          try clear hcz20_1
          try clear hcz20_2
          try clear hcz20_3
          try clear hcz34_0
          try clear hcz34_1
          try clear hcz34_2
          try clear hcz34_3
          try clear hcz40_0
          try clear hcz40_1
          try clear hcz40_2
          try clear hcz40_3
          try clear hcz7_0
          try clear hcz7_1
          try clear hcz7_2
          try clear hcz7_3
          try clear hfz20_0
          try clear hfz20_1
          try clear hfz20_2
          try clear hfz20_3
          try clear hfz34_0
          try clear hfz34_1
          try clear hfz34_2
          try clear hfz34_3
          try clear hfz40_0
          try clear hfz40_1
          try clear hfz40_2
          try clear hfz40_3
          try clear hfz7_0
          try clear hfz7_1
          try clear hfz7_2
          try clear hfz7_3
          try clear p2
          obtain ⟨kq, x61_25, rfl, HA, HJ25, BK161, BK198, HI166, HB⟩ := hcut
          cases kq with
          | zero => exact absurd HA.out (by simp [batch_Decode.j2])
          | succ kj25 =>
           have H := HA.out
           clear HA
           simp only [batch_Decode.j2] at H
           by_cases c42 : x61_25 = true
           ·
            subst c42
            rw [if_pos rfl] at H
            simp only [Option.some.injEq, Prod.mk.injEq] at H
            obtain ⟨rfl, rfl, rfl, rfl, rfl, rfl⟩ := H
            have hnb43 := NB161_198.out
            have hnc43 := NB198_161.out
            have hnb44 := NB161_166.out
            have hnc44 := NB166_161.out
            have hcz45_0 := Own.bc2 BK161.out 0
            have hcz45_1 := Own.bc2 BK161.out 1
            have hcz45_2 := Own.bc2 BK161.out 2
            have hcz45_3 := Own.bc2 BK161.out 3
            have hfz45_0 := bf BK161.out 0
            have hfz45_1 := bf BK161.out 1
            have hfz45_2 := bf BK161.out 2
            have hfz45_3 := bf BK161.out 3
            go_wp2
            refine bodyPost_ret (results_ctt rfl _ _ gb161 23 #[.int .i64 0, .int .i64 0, .int .i64 0, .string (⟨#[]⟩ : ByteArray)] (0, 0) _ rfl (by (with_reducible repeat (first|apply bn|apply bd|apply ba)); refine blk_put (cs := #[.int .i64 0, .int .i64 0, .int .i64 0, .string (⟨#[]⟩ : ByteArray)]) ?_ 3 _ rfl; (with_reducible repeat (first|apply bn|apply bd|apply ba)); refine blk_put (cs := #[.int .i64 0, .int .i64 0, .int .i64 0, .string (⟨#[]⟩ : ByteArray)]) ?_ 2 _ rfl; (with_reducible repeat (first|apply bn|apply bd|apply ba)); refine blk_put (cs := #[.int .i64 0, .int .i64 0, .int .i64 0, .string (⟨#[]⟩ : ByteArray)]) ?_ 1 _ rfl; (with_reducible repeat (first|apply bn|apply bd|apply ba)); refine blk_put (cs := #[.int .i64 0, .int .i64 0, .int .i64 0, .string (⟨#[]⟩ : ByteArray)]) ?_ 0 _ rfl; (with_reducible repeat (first|apply bn|apply bd|apply ba)); exact BK161.out) Try.underlying23 rfl (by kernel_rfl)) rfl ?_
            exact ⟨by first | rfl | (simp <;> rfl) | (simp [*] <;> rfl) | (simp [Aid.ne_nil, Aid.eq_nil]; done), by repeat (first | (with_reducible first | exact HB.out | apply bl | apply pN | apply b1 | refine bs ?_ (IsS67.ge HI166.out) | refine bs ?_ GE161.out | refine bs ?_ GE198.out) | exact HB.out | exact HBo.out)⟩
           ·
            replace c42 := Bool.eq_false_iff.mpr c42
            subst c42
            rw [if_neg (show ¬ (false = true) by decide)] at H
            by_cases c46 : t199 = 0
            ·
             rw [if_pos c46] at H
             have c46b0 : (t199 == 0) = true := beq_iff_eq.mpr c46
             have c46b1 : (t199 != 0) = false := bne_eq_false_iff_eq.mpr c46
             clear c46
             replace H := ob H
             obtain ⟨⟨t206, t207, t208, t209, t210⟩, A470, H⟩ := H
             (try dsimp only at H)
             have A47 := Am A470
             clear A470
             simp only [Option.some.injEq, Prod.mk.injEq] at H
             obtain ⟨rfl, rfl, rfl, rfl, rfl, rfl⟩ := H
             try go_wp2
             replace BK161 := Am (bd BK161.out)
             replace BK198 := Am (bd BK198.out)
             replace HI166 := Am (IsS67.drew HI166.out)
             replace HB := Am (b1 HB.out)
             refine start_ (n := 8) (S := fun w' => w'.cell? ⟨gb198, 0, none⟩ = some (.int .i64 t178) ∧ w'.cell? ⟨gb198, 1, none⟩ = some (.int .i64 t183) ∧ w'.cell? ⟨gb198, 2, none⟩ = some (.int .i64 t188) ∧ w'.cell? ⟨gb198, 3, none⟩ = some (.string t193)) (ds := []) q3_0 (by kernel_rfl) rfl rfl ⟨(bc BK198.out 0).trans rfl, (bc BK198.out 1).trans rfl, (bc BK198.out 2).trans rfl, (bc BK198.out 3).trans rfl⟩ (fun hHeld => ?_); refine with_tabW batch_Decode.tab14 batch_Decode.bits14 (fun HT_ HW_ => ?_)
             generalize wc.drew = w48 at BK161 BK198 HI166 HB hHeld ⊢
             refine Own.pr_ 1 (some 67) q3_1 HT_ (h := ?_)
             refine Own.pr_ 2 (some 68) q3_2 HT_ (h := ?_)
             refine Own.tk_ 0 (some 66) q3_3 HT_ HW_ hHeld (hy := by rintro w' ⟨s0, s1, s2, s3⟩; go_simp; with_reducible rfl) (h := ?_)
             refine one_ (i := 3) (N := some 69) q3_4 rfl rfl (one_of HT_.out (by kernel_rfl)) (by decide) (fun K hK => ?_)
             refine goes_ Try.func27 (by kernel_rfl) rfl #[.pointer (some ⟨g166, 0, none⟩)] (by rfl) rfl rfl (by (try simp only [List.map_toArray, List.map_cons, List.map_nil]); first | done | rfl | (simp only [List.length_drop, List.length_take]; rfl)) ?_
             with_reducible refine (wire_Reader_At.calls g166 t201 t202 t203 t204 t206 t207 t208 t209 t210 w _ ?side1 ?side2 A47.out).mono ?_
             (case side1 => repeat (first | (with_reducible first | exact HI166.out | apply IsS67.alloc | apply IsS67.drewN | apply IsS67.drew | apply IsS67.set_0 | apply IsS67.set_1 | apply IsS67.set_2 | apply IsS67.set_3 | refine IsS67.far ?_ NB166_161.out _ | refine IsS67.far ?_ NB166_198.out _) | exact HI166.out))
             (case side2 => repeat (first | (with_reducible first | exact HB.out | apply bl | apply pN | apply b1 | refine bs ?_ (IsS67.ge HI166.out) | refine bs ?_ GE161.out | refine bs ?_ GE198.out) | exact HB.out | exact HBo.out))
             rintro e w49 ⟨rfl, hi, hb, hk⟩
             refine ⟨_, rfl, ?_⟩
             replace BK161 := Am (KeepBut.blk hk (g' := gb161) (o := .cells #[.int .i64 0, .int .i64 0, .int .i64 0, .string (⟨#[]⟩ : ByteArray)] 23 (0, 0)) (by (with_reducible repeat (first|apply bn|apply bd|apply ba)); exact BK161.out) NB161_166.out (by simp))
             replace BK198 := Am (KeepBut.blk hk (g' := gb198) (o := .cells #[.int .i64 t178, .int .i64 t183, .int .i64 t188, .string t193] 23 (0, 0)) (by (with_reducible repeat (first|apply bn|apply bd|apply ba)); exact BK198.out) NB198_166.out (by simp))
             replace HB := Am (hb)
             replace HI166 := Am (hi)
             (try clear hb)
             (try clear hb2)
             (try clear hk)
             (try clear hi)
             refine hK.out _ _ ⟨(bc BK198.out 0).trans rfl, (bc BK198.out 1).trans rfl, (bc BK198.out 2).trans rfl, (bc BK198.out 3).trans rfl⟩ (fun hHeld => ?_)
             clear hK K
             refine norm_ (a' := ?_) ?_ ?_
             rotate_left
             ·
              show Act.put _ (some 69) _ = _
              simp only [Act.put, sI, sZ, sS, i64_w, i32_w]
              rfl
             refine Own.pr_ 4 (some 70) q3_5 HT_ (h := ?_)
             refine one_ (i := 5) (N := none) q3_6 rfl rfl (one_of HT_.out (by kernel_rfl)) (by decide) (fun K hK => ?_)
             have hs50 : w49.cell? ⟨gb161, 0, none⟩ = some (.int .i64 0) := (bc BK161.out 0).trans rfl
             have hfs50 := bf BK161.out 0
             have hns50_1 := NB198_161.out
             have hms50_1 := NB161_198.out
             have hs51 : w49.cell? ⟨gb161, 1, none⟩ = some (.int .i64 0) := (bc BK161.out 1).trans rfl
             have hfs51 := bf BK161.out 1
             have hns51_1 := NB198_161.out
             have hms51_1 := NB161_198.out
             have hs52 : w49.cell? ⟨gb161, 2, none⟩ = some (.int .i64 0) := (bc BK161.out 2).trans rfl
             have hfs52 := bf BK161.out 2
             have hns52_1 := NB198_161.out
             have hms52_1 := NB161_198.out
             have hs53 : w49.cell? ⟨gb161, 3, none⟩ = some (.string (⟨#[]⟩ : ByteArray)) := (bc BK161.out 3).trans rfl
             have hfs53 := bf BK161.out 3
             have hns53_1 := NB198_161.out
             have hms53_1 := NB161_198.out
             refine skip_ (w1 := ?_) (by rfl) rfl ?_ ?_
             rotate_left
             ·
              go_simp
              rfl
             refine hK.out _ _ ⟨((cell_far (p := ⟨gb161, _, none⟩) NB198_161.out _).trans (((cell_far (p := ⟨gb161, _, none⟩) NB198_161.out _).trans (((cell_far (p := ⟨gb161, _, none⟩) NB198_161.out _).trans (((cell_far (p := ⟨gb161, _, none⟩) NB198_161.out _).trans (hHeld.1)))))))), ((cell_far (p := ⟨gb161, _, none⟩) NB198_161.out _).trans (((cell_far (p := ⟨gb161, _, none⟩) NB198_161.out _).trans (((cell_far (p := ⟨gb161, _, none⟩) NB198_161.out _).trans (((cell_far (p := ⟨gb161, _, none⟩) NB198_161.out _).trans (hHeld.2.1)))))))), ((cell_far (p := ⟨gb161, _, none⟩) NB198_161.out _).trans (((cell_far (p := ⟨gb161, _, none⟩) NB198_161.out _).trans (((cell_far (p := ⟨gb161, _, none⟩) NB198_161.out _).trans (((cell_far (p := ⟨gb161, _, none⟩) NB198_161.out _).trans (hHeld.2.2.1)))))))), ((cell_far (p := ⟨gb161, _, none⟩) NB198_161.out _).trans (((cell_far (p := ⟨gb161, _, none⟩) NB198_161.out _).trans (((cell_far (p := ⟨gb161, _, none⟩) NB198_161.out _).trans (((cell_far (p := ⟨gb161, _, none⟩) NB198_161.out _).trans (hHeld.2.2.2))))))))⟩ (fun hHeld => ?_)
             clear hK K
             refine Own.pr_ 6 (some 5) q3_7 HT_ (h := ?_)
             refine Own.pr_ 7 (some 6) q3_8 HT_ (h := ?_)
             refine done_ (done_of HT_.out (by kernel_rfl)) ?_
             try go_wp2
             refine bodyPost_ret (results_ctt rfl _ _ gb161 23 #[.int .i64 t178, .int .i64 t183, .int .i64 t188, .string t193] (0, 0) _ rfl (by (with_reducible repeat (first|apply bn|apply bd|apply ba)); refine blk_put (cs := #[.int .i64 t178, .int .i64 t183, .int .i64 t188, .string (⟨#[]⟩ : ByteArray)]) ?_ 3 _ rfl; (with_reducible repeat (first|apply bn|apply bd|apply ba)); refine blk_put (cs := #[.int .i64 t178, .int .i64 t183, .int .i64 0, .string (⟨#[]⟩ : ByteArray)]) ?_ 2 _ rfl; (with_reducible repeat (first|apply bn|apply bd|apply ba)); refine blk_put (cs := #[.int .i64 t178, .int .i64 0, .int .i64 0, .string (⟨#[]⟩ : ByteArray)]) ?_ 1 _ rfl; (with_reducible repeat (first|apply bn|apply bd|apply ba)); refine blk_put (cs := #[.int .i64 0, .int .i64 0, .int .i64 0, .string (⟨#[]⟩ : ByteArray)]) ?_ 0 _ rfl; (with_reducible repeat (first|apply bn|apply bd|apply ba)); exact BK161.out) Try.underlying23 rfl (by kernel_rfl)) rfl ?_
             exact ⟨by first | rfl | (simp <;> rfl) | (simp [*] <;> rfl) | (simp [Aid.ne_nil, Aid.eq_nil]; done), by repeat (first | (with_reducible first | exact HB.out | apply bl | apply pN | apply b1 | refine bs ?_ (IsS67.ge HI166.out) | refine bs ?_ GE161.out | refine bs ?_ GE198.out) | exact HB.out | exact HBo.out)⟩
            ·
             rw [if_neg c46] at H
             have c46b0 : (t199 == 0) = false := beq_eq_false_iff_ne.mpr c46
             have c46b1 : (t199 != 0) = true := bne_iff_ne.mpr c46
             simp only [Option.some.injEq, Prod.mk.injEq] at H
             obtain ⟨rfl, rfl, rfl, rfl, rfl, rfl⟩ := H
             have hnb54 := NB161_198.out
             have hnc54 := NB198_161.out
             have hnb55 := NB161_166.out
             have hnc55 := NB166_161.out
             have hcz56_0 := Own.bc2 BK161.out 0
             have hcz56_1 := Own.bc2 BK161.out 1
             have hcz56_2 := Own.bc2 BK161.out 2
             have hcz56_3 := Own.bc2 BK161.out 3
             have hfz56_0 := bf BK161.out 0
             have hfz56_1 := bf BK161.out 1
             have hfz56_2 := bf BK161.out 2
             have hfz56_3 := bf BK161.out 3
             go_wp2
             refine bodyPost_ret (results_ctt rfl _ _ gb161 23 #[.int .i64 0, .int .i64 0, .int .i64 0, .string (⟨#[]⟩ : ByteArray)] (0, 0) _ rfl (by (with_reducible repeat (first|apply bn|apply bd|apply ba)); refine blk_put (cs := #[.int .i64 0, .int .i64 0, .int .i64 0, .string (⟨#[]⟩ : ByteArray)]) ?_ 3 _ rfl; (with_reducible repeat (first|apply bn|apply bd|apply ba)); refine blk_put (cs := #[.int .i64 0, .int .i64 0, .int .i64 0, .string (⟨#[]⟩ : ByteArray)]) ?_ 2 _ rfl; (with_reducible repeat (first|apply bn|apply bd|apply ba)); refine blk_put (cs := #[.int .i64 0, .int .i64 0, .int .i64 0, .string (⟨#[]⟩ : ByteArray)]) ?_ 1 _ rfl; (with_reducible repeat (first|apply bn|apply bd|apply ba)); refine blk_put (cs := #[.int .i64 0, .int .i64 0, .int .i64 0, .string (⟨#[]⟩ : ByteArray)]) ?_ 0 _ rfl; (with_reducible repeat (first|apply bn|apply bd|apply ba)); exact BK161.out) Try.underlying23 rfl (by kernel_rfl)) rfl ?_
             exact ⟨by first | rfl | (simp <;> rfl) | (simp [*] <;> rfl) | (simp [Aid.ne_nil, Aid.eq_nil]; done), by repeat (first | (with_reducible first | exact HB.out | apply bl | apply pN | apply b1 | refine bs ?_ (IsS67.ge HI166.out) | refine bs ?_ GE161.out | refine bs ?_ GE198.out) | exact HB.out | exact HBo.out)⟩
     ·
      rw [if_neg c9] at H
      exact absurd H (by simp)
    ·
     rw [if_neg c8] at H
     exact absurd H (by simp)

/-! ### kind_Known: function 56, by hand -/
def kind_Known.f (a0 : Int) : Option (Bool) := if (Lit.int .i64 a0).wf = true then some (Kind.knownB a0) else none
theorem kind_Known.calls (a0 : Int) (r : Bool) (w : World) (h : kind_Known.f a0 = some r) :
  Calls Try.prog 56 #[.int .i64 a0] w fun e w' => e = .returned (.bool r) ∧ Below w.heap.size w w' := by
 unfold kind_Known.f at h
 split at h
 ·
  rename_i hw
  obtain rfl := Option.some.inj h
  exact Kind.known_calls a0 w hw
 ·
  cases h

/-! ### kind_Exp: function 57 -/
def kind_Exp.f (a0 : Int) : Option (Bool) := if a0 ≥ 128 then (some (decide (a0 < 256))) else (some false)
set_option maxHeartbeats 8000000 in
set_option maxRecDepth 100000 in
theorem kind_Exp.calls (a0 : Int) (r : Bool) (w : World) (h : kind_Exp.f a0 = some r) :
  Calls Try.prog 57 #[.int .i64 a0] w fun e w' => e = .returned (.bool r) ∧ Drawn0 w w' := by
 have H : (if a0 ≥ 128 then (some (decide (a0 < 256))) else (some false)) = some r := h
 clear h
 by_cases c2 : a0 ≥ 128
 ·
  rw [if_pos c2] at H
  have c2b0 : decide (128 ≤ a0) = true := decide_eq_true c2
  clear c2
  obtain rfl := Option.some.inj H
  go_enter Try.func57, Try.ntmps57
  go_wp2
  go_ret
  exact ⟨by first | rfl | (simp; done) | (simp [*]; done), by repeat (first | exact Drawn0.refl _ | apply Drawn0.step)⟩
 ·
  rw [if_neg c2] at H
  have c2b0 : decide (128 ≤ a0) = false := decide_eq_false c2
  clear c2
  obtain rfl := Option.some.inj H
  go_enter Try.func57, Try.ntmps57
  go_wp2
  go_ret
  exact ⟨by first | rfl | (simp; done) | (simp [*]; done), by repeat (first | exact Drawn0.refl _ | apply Drawn0.step)⟩

/-! ### kind_Args: function 58, by hand -/
def kind_Args.f (a0 : Int) : Option (List Int) := if (Lit.int .i64 a0).wf = true then some (Kind.argsL a0) else none
theorem kind_Args.calls (a0 : Int) (r : List Int) (w : World) (h : kind_Args.f a0 = some r) :
  Calls Try.prog 58 #[.int .i64 a0] w fun e w' => ∃ v0_ : Value, e = .returned (v0_) ∧ Kd.R (Kd.int .i64) 3 w' w.heap.size (fun _ => True) v0_ r ∧ Below w.heap.size w w' := by
 unfold kind_Args.f at h
 split at h
 ·
  rename_i hw
  obtain rfl := Option.some.inj h
  exact Kind.args_calls a0 w hw
 ·
  cases h

end Go.Proofs.Ytfcombimnmkoeaa.Q
