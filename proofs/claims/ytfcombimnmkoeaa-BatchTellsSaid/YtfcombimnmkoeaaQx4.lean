-- printed by a program of this session (NOTES: hprint); not the kit's print
-- minified3
-- minified2
-- minified
-- halved
import Derived.Test.YtfcombimnmkoeaaOg
import Derived.Test.YtfcombimnmkoeaaAl
import Derived.Test.YtfcombimnmkoeaaQx0
import Derived.Test.YtfcombimnmkoeaaQx2
import Derived.Test.YtfcombimnmkoeaaQx3
namespace Go.Proofs.Ytfcombimnmkoeaa.Q
open Go.RowKit Go.Proofs.YtfcombimnmkoeaaW.PrintWords Go.Proofs.YtfcombimnmkoeaaW.PrintLast Go.Proofs.YtfcombimnmkoeaaW.PrintMore
attribute [local go_sem] max2_int min2_int max_two min_two max_three min_three max_four min_four   -- for this text's walks alone
set_option linter.unusedVariables false
set_option linter.unusedSimpArgs false

def q4_0 : Array Bool := let o := true; let z := false; #[z,z,z,z,z,z,z,z]
def q4_1 : Array Bool := let o := true; let z := false; #[o,z,z,z,z,z,z,z]
def q4_2 : Array Bool := let o := true; let z := false; #[o,z,o,z,z,z,z,z]
def q4_3 : Array Bool := let o := true; let z := false; #[o,o,o,z,z,z,z,z]
def q4_4 : Array Bool := let o := true; let z := false; #[o,o,o,o,z,z,z,z]
def q4_5 : Array Bool := let o := true; let z := false; #[o,o,o,o,o,z,z,z]
def q4_6 : Array Bool := let o := true; let z := false; #[o,o,o,o,o,o,z,z]
def q4_7 : Array Bool := let o := true; let z := false; #[o,o,o,o,o,o,o,z]
def q4_8 : Array Bool := let o := true; let z := false; #[o,o,o,o,o,o,o,o]
/-! ### event_read: function 51 -/
mutual
def event_read.j0 : Nat → Bool → ByteArray → Int → Int → Int → Int → Int → ByteArray → Option (Int × Int × List Int × ByteArray × Bool × ByteArray × Int × Int × Int)
 | 0, _, _, _, _, _, _, _, _ => none
 | k + 1, x28, x1000, x1001, x1002, x1003, x218000, x218001, x218003 => if x28 = true then (some (x218000, x218001, ([] : List Int), x218003, false, x1000, x1001, x1002, x1003)) else ((wire_Reader_Num.f k x1000 x1001 x1002 x1003).bind fun bt226 => ((kind_Exp.f x218000).bind fun t231 => (if t231 = true then ((wire_Reader_Text.f k bt226.2.1 bt226.2.2.1 bt226.2.2.2.1 bt226.2.2.2.2).bind fun bt232 => (some (x218000, bt226.1, ([] : List Int), bt232.1, true, bt232.2.1, bt232.2.2.1, bt232.2.2.2.1, bt232.2.2.2.2))) else ((kind_Args.f x218000).bind fun t237 => (event_read.l0 k (t237.length : Int) 0 bt226.2.1 bt226.2.2.1 bt226.2.2.2.1 bt226.2.2.2.2 x218000 bt226.1 ([] : List Int) x218003)))))
def event_read.l0 : Nat → Int → Int → ByteArray → Int → Int → Int → Int → Int → List Int → ByteArray → Option (Int × Int × List Int × ByteArray × Bool × ByteArray × Int × Int × Int)
 | 0, _, _, _, _, _, _, _, _, _, _ => none
 | k + 1, x43, x44, x1000, x1001, x1002, x1003, x218000, x218001, x218002, x218003 => if x44 < x43 then ((wire_Reader_Num.f k x1000 x1001 x1002 x1003).bind fun bt240 => (if x218002.length < 17592186044416 then (event_read.l0 k x43 (wrap64 (x44 + 1)) bt240.2.1 bt240.2.2.1 bt240.2.2.2.1 bt240.2.2.2.2 x218000 x218001 (x218002 ++ [bt240.1]) x218003) else (none))) else (some (x218000, x218001, x218002, x218003, true, x1000, x1001, x1002, x1003))
end
def event_read.f (k : Nat) (s0_0 : ByteArray) (s0_1 : Int) (s0_2 : Int) (s0_3 : Int) : Option (Int × Int × List Int × ByteArray × Bool × ByteArray × Int × Int × Int) := (wire_Reader_Byte.f s0_0 s0_1 s0_2 s0_3).bind fun bt212 => ((wire_Reader_Err.f bt212.2.1 bt212.2.2.1 bt212.2.2.2.1 bt212.2.2.2.2).bind fun bt218 => (if bt218.1 = 0 then ((kind_Known.f bt212.1).bind fun t224 => (if t224 = true then (event_read.j0 k false bt218.2.2.1 bt218.2.2.2.1 bt218.2.2.2.2.1 bt218.2.2.2.2.2 bt212.1 0 (⟨#[]⟩ : ByteArray)) else ((kind_Exp.f bt212.1).bind fun t225 => (event_read.j0 k (!t225) bt218.2.2.1 bt218.2.2.2.1 bt218.2.2.2.2.1 bt218.2.2.2.2.2 bt212.1 0 (⟨#[]⟩ : ByteArray))))) else (event_read.j0 k false bt218.2.2.1 bt218.2.2.2.1 bt218.2.2.2.2.1 bt218.2.2.2.2.2 bt212.1 0 (⟨#[]⟩ : ByteArray))))
theorem event_read.mono_l : ∀ k, (∀ y0 y1 y2 y3 y4 y5 y6 y7, LeO (event_read.j0 k y0 y1 y2 y3 y4 y5 y6 y7) (event_read.j0 (k + 1) y0 y1 y2 y3 y4 y5 y6 y7)) ∧ (∀ y0 y1 y2 y3 y4 y5 y6 y7 y8 y9, LeO (event_read.l0 k y0 y1 y2 y3 y4 y5 y6 y7 y8 y9) (event_read.l0 (k + 1) y0 y1 y2 y3 y4 y5 y6 y7 y8 y9))
 | 0 => ⟨fun _ _ _ _ _ _ _ _ r h => by simp [event_read.j0] at h, fun _ _ _ _ _ _ _ _ _ _ r h => by simp [event_read.l0] at h⟩
 | k + 1 => by
  obtain ⟨ih0, ih1⟩ := event_read.mono_l k
  refine ⟨?_, ?_⟩
  ·
   intro y0 y1 y2 y3 y4 y5 y6 y7
   unfold event_read.j0
   repeat' first
   | (with_reducible exact ih0 _ _ _ _ _ _ _ _)
   | (with_reducible exact ih1 _ _ _ _ _ _ _ _ _ _)
   | (with_reducible exact wire_Reader_Num.mono _ _ _ _ _)
   | (with_reducible exact wire_Reader_Text.mono _ _ _ _ _)
   | (with_reducible exact LeO.refl _)
   | (with_reducible exact LeO.none _)
   | (with_reducible refine LeO.ite ?_ ?_)
   | (with_reducible refine LeO.bind ?_ (fun _ => ?_))
   | exact LeO.none _
   | refine LeO.ite ?_ ?_
   | refine LeO.bind ?_ (fun _ => ?_)
  ·
   intro y0 y1 y2 y3 y4 y5 y6 y7 y8 y9
   unfold event_read.l0
   repeat' first
   | (with_reducible exact ih0 _ _ _ _ _ _ _ _)
   | (with_reducible exact ih1 _ _ _ _ _ _ _ _ _ _)
   | (with_reducible exact wire_Reader_Num.mono _ _ _ _ _)
   | (with_reducible exact wire_Reader_Text.mono _ _ _ _ _)
   | (with_reducible exact LeO.refl _)
   | (with_reducible exact LeO.none _)
   | (with_reducible refine LeO.ite ?_ ?_)
   | (with_reducible refine LeO.bind ?_ (fun _ => ?_))
   | exact LeO.none _
   | refine LeO.ite ?_ ?_
   | refine LeO.bind ?_ (fun _ => ?_)
theorem event_read.mono : ∀ a0 a1 a2 a3 k, LeO (event_read.f k a0 a1 a2 a3) (event_read.f (k + 1) a0 a1 a2 a3) := by
 intro a0 a1 a2 a3 k
 obtain ⟨ih0, ih1⟩ := event_read.mono_l k
 unfold event_read.f
 repeat' first
   | (with_reducible exact ih0 _ _ _ _ _ _ _ _)
   | (with_reducible exact ih1 _ _ _ _ _ _ _ _ _ _)
   | (with_reducible exact wire_Reader_Num.mono _ _ _ _ _)
   | (with_reducible exact wire_Reader_Text.mono _ _ _ _ _)
   | (with_reducible exact LeO.refl _)
   | (with_reducible exact LeO.none _)
   | (with_reducible refine LeO.ite ?_ ?_)
   | (with_reducible refine LeO.bind ?_ (fun _ => ?_))
   | exact LeO.none _
   | refine LeO.ite ?_ ?_
   | refine LeO.bind ?_ (fun _ => ?_)
def event_read.T11 : Bool × List (List Nat × List Nat) := (true, [([], []), ([0], [0]), ([], []), ([2], [2]), ([3], [3]), ([1, 4, 3], [1, 4]), ([0, 1, 2, 3, 4, 5], []), ([6, 5, 5, 0, 1, 2, 3, 4, 5], [5, 6])])
def event_read.B11 : List Nat := [0, 1, 0, 4, 12, 31, 63, 127]
theorem event_read.tab11 : rtab .any (opsOf Try.f51 11) = event_read.T11 := by kernel_rfl
theorem event_read.bits11 : waitsOk event_read.T11.2 event_read.B11 = true := by kernel_rfl
set_option maxHeartbeats 8000000 in
set_option maxRecDepth 100000 in
theorem event_read.calls (k : Nat) (g : Nat) (s0_0 : ByteArray) (s0_1 : Int) (s0_2 : Int) (s0_3 : Int) (r1 : Int) (r2 : Int) (r3 : List Int) (r4 : ByteArray) (r5 : Bool) (r6 : ByteArray) (r7 : Int) (r8 : Int) (r9 : Int) (w0 w : World) (hI : IsS67 w0 w g s0_0 s0_1 s0_2 s0_3) (hB : Below w0.heap.size w0 w) (h : event_read.f k s0_0 s0_1 s0_2 s0_3 = some (r1, r2, r3, r4, r5, r6, r7, r8, r9)) :
  Calls Try.prog 51 #[.pointer (some ⟨g, 0, none⟩)] w fun e w' => ∃ v2_ : Value, e = .returned (.tuple #[.agg #[.int .i64 r1, .int .i64 r2, v2_, .string r4], .bool r5]) ∧ Kd.R (Kd.int .i64) 3 w' w.heap.size (fun _ => True) v2_ r3 ∧ IsS67 w0 w' g r6 r7 r8 r9 ∧ Below w0.heap.size w0 w' ∧ KeepBut w w' g none := by
 have hu41 := Try.underlying41
 have HI0 := Am hI
 have HK := Am (KeepBut.refl w g none)
 have HL := Am hB.size
 clear hI
 have HW0 := Am hB.size
 have HB := Am hB
 clear hB
 have H : ((wire_Reader_Byte.f s0_0 s0_1 s0_2 s0_3).bind fun bt212 => ((wire_Reader_Err.f bt212.2.1 bt212.2.2.1 bt212.2.2.2.1 bt212.2.2.2.2).bind fun bt218 => (if bt218.1 = 0 then ((kind_Known.f bt212.1).bind fun t224 => (if t224 = true then (event_read.j0 k false bt218.2.2.1 bt218.2.2.2.1 bt218.2.2.2.2.1 bt218.2.2.2.2.2 bt212.1 0 (⟨#[]⟩ : ByteArray)) else ((kind_Exp.f bt212.1).bind fun t225 => (event_read.j0 k (!t225) bt218.2.2.1 bt218.2.2.2.1 bt218.2.2.2.2.1 bt218.2.2.2.2.2 bt212.1 0 (⟨#[]⟩ : ByteArray))))) else (event_read.j0 k false bt218.2.2.1 bt218.2.2.2.1 bt218.2.2.2.2.1 bt218.2.2.2.2.2 bt212.1 0 (⟨#[]⟩ : ByteArray))))) = some (r1, r2, r3, r4, r5, r6, r7, r8, r9) := h
 clear h
 replace H := ob H
 obtain ⟨⟨t212, t213, t214, t215, t216⟩, A20, H⟩ := H
 (try dsimp only at H)
 have A2 := Am A20
 clear A20
 replace H := ob H
 obtain ⟨⟨t218, t219, t220, t221, t222, t223⟩, A30, H⟩ := H
 (try dsimp only at H)
 have A3 := Am A30
 clear A30
 have HC4 := Am H
 clear H
 go_enter Try.func51, Try.ntmps51
 go_upto_region 3 with (first | ((with_reducible refine gate_dst (N := 2) rfl ?_); refine box_event ?hg (N := 2) ?hd (cs := #[.int .i64 0, .int .i64 0, .slice none 0 0, .string (⟨#[]⟩ : ByteArray)]) (t := 41) ?hr ?_; (case hd => rfl); (case hg => rfl); (case hr => first | (go_simp; done) | (go_simp; rfl)); intro gb211 hg w5 hbox hb; have n0_ := Am (IsS67.below (by repeat (first | (with_reducible first | exact HI0.out | apply IsS67.alloc | apply IsS67.drewN | apply IsS67.drew | apply IsS67.set_0 | apply IsS67.set_1 | apply IsS67.set_2 | apply IsS67.set_3) | exact HI0.out)) hb); have n1_ := Am (KeepBut.trans (by repeat (first | (with_reducible first | exact HK.out | apply KeepBut.set_ | apply keep_drewN | apply keep_drew | apply keep_alloc) | exact HK.out)) (KeepBut.of_below hb g none) (.inl rfl)); have n2_ := Am (below_step (by repeat (first | (with_reducible first | exact HB.out | apply bl | apply pN | apply b1 | refine bs ?_ (IsS67.ge HI0.out)) | exact HB.out | exact HBo.out)) hb); have n3_ := Am (hbox); have n4_ := Am ((by rw [hg]; exact (keep_size (w := w) (g := g) (row := none) (by repeat (first | (with_reducible first | exact HK.out | apply KeepBut.set_ | apply keep_drewN | apply keep_drew | apply keep_alloc) | exact HK.out))) : w.heap.size ≤ gb211)); have n5_ := Am ((Nat.le_trans HW0.out (by rw [hg]; exact (keep_size (w := w) (g := g) (row := none) (by repeat (first | (with_reducible first | exact HK.out | apply KeepBut.set_ | apply keep_drewN | apply keep_drew | apply keep_alloc) | exact HK.out))) : w.heap.size ≤ gb211) : w0.heap.size ≤ gb211)); have n6_ := Am ((by rw [hg]; exact Nat.ne_of_lt (IsS67.lt (show IsS67 w0 _ g s0_0 s0_1 s0_2 s0_3 from by repeat (first | (with_reducible first | exact HI0.out | apply IsS67.alloc | apply IsS67.drewN | apply IsS67.drew | apply IsS67.set_0 | apply IsS67.set_1 | apply IsS67.set_2 | apply IsS67.set_3) | exact HI0.out))) : g ≠ gb211)); have n7_ := Am ((by rw [hg]; exact Nat.ne_of_gt (IsS67.lt (show IsS67 w0 _ g s0_0 s0_1 s0_2 s0_3 from by repeat (first | (with_reducible first | exact HI0.out | apply IsS67.alloc | apply IsS67.drewN | apply IsS67.drew | apply IsS67.set_0 | apply IsS67.set_1 | apply IsS67.set_2 | apply IsS67.set_3) | exact HI0.out))) : gb211 ≠ g)); clear HI0; clear HK; clear HB; have HI0 := n0_; have HK := n1_; have HB := n2_; have BK211 := n3_; have GW211 := n4_; have GE211 := n5_; have NB0_211 := n6_; have NB211_0 := n7_; clear n0_ n1_ n2_ n3_ n4_ n5_ n6_ n7_; clear hb hbox hg) | ((with_reducible refine gate_callee (f := 23) rfl ?_); refine Own.gL_ (some 8) Try.func23 (#[.pointer (some ⟨g, 0, none⟩)]) (h := ?_); (with_reducible refine (wire_Reader_Byte.calls g s0_0 s0_1 s0_2 s0_3 t212 t213 t214 t215 t216 w0 _ ?side1 ?side2 A2.out).mono ?_); (case side1 => repeat (first | (with_reducible first | exact HI0.out | apply IsS67.alloc | apply IsS67.drewN | apply IsS67.drew | apply IsS67.set_0 | apply IsS67.set_1 | apply IsS67.set_2 | apply IsS67.set_3 | refine IsS67.far ?_ NB0_211.out _) | exact HI0.out)); (case side2 => repeat (first | (with_reducible first | exact HB.out | apply bl | apply pN | apply b1 | refine bs ?_ (IsS67.ge HI0.out) | refine bs ?_ GE211.out) | exact HB.out | exact HBo.out)); rintro e w6 ⟨rfl, hi, hb, hk⟩; refine ⟨_, rfl, ?_⟩; replace BK211 := Am (KeepBut.blk hk (g' := gb211) (o := .cells #[.int .i64 0, .int .i64 0, .slice none 0 0, .string (⟨#[]⟩ : ByteArray)] 41 (0, 0)) (by (with_reducible repeat (first|apply bn|apply bd|apply ba)); exact BK211.out) NB211_0.out (by simp)); replace HK := Am (KeepBut.trans (by repeat (first | (with_reducible first | exact HK.out | apply KeepBut.set_ | apply keep_drewN | apply keep_drew | apply keep_alloc | refine keep_far ?_ GW211.out _) | exact HK.out)) hk (.inl rfl)); replace HB := Am (hb); replace HI0 := Am (hi); (try clear hb); (try clear hb2); (try clear hk); (try clear hi)) | ((with_reducible refine gate_dst (N := 4) rfl ?_); refine box_event ?hg (N := 4) ?hd (cs := #[.int .i64 0, .int .i64 0, .slice none 0 0, .string (⟨#[]⟩ : ByteArray)]) (t := 41) ?hr ?_; (case hd => rfl); (case hg => rfl); (case hr => first | (go_simp; done) | (go_simp; rfl)); intro gb217 hg w7 hbox hb; have n0_ := Am (IsS67.below (by repeat (first | (with_reducible first | exact HI0.out | apply IsS67.alloc | apply IsS67.drewN | apply IsS67.drew | apply IsS67.set_0 | apply IsS67.set_1 | apply IsS67.set_2 | apply IsS67.set_3 | refine IsS67.far ?_ NB0_211.out _) | exact HI0.out)) hb); have n1_ := Am (blk_below (g := gb211) (o := .cells #[.int .i64 0, .int .i64 0, .slice none 0 0, .string (⟨#[]⟩ : ByteArray)] 41 (0, 0)) (by (with_reducible repeat (first|apply bn|apply bd|apply ba)); exact BK211.out) hb); have n2_ := Am (KeepBut.trans (by repeat (first | (with_reducible first | exact HK.out | apply KeepBut.set_ | apply keep_drewN | apply keep_drew | apply keep_alloc | refine keep_far ?_ GW211.out _) | exact HK.out)) (KeepBut.of_below hb g none) (.inl rfl)); have n3_ := Am (below_step (by repeat (first | (with_reducible first | exact HB.out | apply bl | apply pN | apply b1 | refine bs ?_ (IsS67.ge HI0.out) | refine bs ?_ GE211.out) | exact HB.out | exact HBo.out)) hb); have n4_ := Am (hbox); have n5_ := Am ((by rw [hg]; exact (keep_size (w := w) (g := g) (row := none) (by repeat (first | (with_reducible first | exact HK.out | apply KeepBut.set_ | apply keep_drewN | apply keep_drew | apply keep_alloc | refine keep_far ?_ GW211.out _) | exact HK.out))) : w.heap.size ≤ gb217)); have n6_ := Am ((Nat.le_trans HW0.out (by rw [hg]; exact (keep_size (w := w) (g := g) (row := none) (by repeat (first | (with_reducible first | exact HK.out | apply KeepBut.set_ | apply keep_drewN | apply keep_drew | apply keep_alloc | refine keep_far ?_ GW211.out _) | exact HK.out))) : w.heap.size ≤ gb217) : w0.heap.size ≤ gb217)); have n7_ := Am ((by rw [hg]; exact Nat.ne_of_lt (blk_lt (g := gb211) (o := .cells #[.int .i64 0, .int .i64 0, .slice none 0 0, .string (⟨#[]⟩ : ByteArray)] 41 (0, 0)) (by (with_reducible repeat (first|apply bn|apply bd|apply ba)); exact BK211.out)) : gb211 ≠ gb217)); have n8_ := Am ((by rw [hg]; exact Nat.ne_of_gt (blk_lt (g := gb211) (o := .cells #[.int .i64 0, .int .i64 0, .slice none 0 0, .string (⟨#[]⟩ : ByteArray)] 41 (0, 0)) (by (with_reducible repeat (first|apply bn|apply bd|apply ba)); exact BK211.out)) : gb217 ≠ gb211)); have n9_ := Am ((by rw [hg]; exact Nat.ne_of_lt (IsS67.lt (show IsS67 w0 _ g t213 t214 t215 t216 from by repeat (first | (with_reducible first | exact HI0.out | apply IsS67.alloc | apply IsS67.drewN | apply IsS67.drew | apply IsS67.set_0 | apply IsS67.set_1 | apply IsS67.set_2 | apply IsS67.set_3 | refine IsS67.far ?_ NB0_211.out _) | exact HI0.out))) : g ≠ gb217)); have n10_ := Am ((by rw [hg]; exact Nat.ne_of_gt (IsS67.lt (show IsS67 w0 _ g t213 t214 t215 t216 from by repeat (first | (with_reducible first | exact HI0.out | apply IsS67.alloc | apply IsS67.drewN | apply IsS67.drew | apply IsS67.set_0 | apply IsS67.set_1 | apply IsS67.set_2 | apply IsS67.set_3 | refine IsS67.far ?_ NB0_211.out _) | exact HI0.out))) : gb217 ≠ g)); clear HI0; clear BK211; clear HK; clear HB; have HI0 := n0_; have BK211 := n1_; have HK := n2_; have HB := n3_; have BK217 := n4_; have GW217 := n5_; have GE217 := n6_; have NB211_217 := n7_; have NB217_211 := n8_; have NB0_217 := n9_; have NB217_0 := n10_; clear n0_ n1_ n2_ n3_ n4_ n5_ n6_ n7_ n8_ n9_ n10_; clear hb hbox hg; have hnb8 := NB217_211.out; have hnc8 := NB211_217.out; have hnb9 := NB217_0.out; have hnc9 := NB0_217.out; have hcz10_0 := Own.bc2 BK217.out 0; have hcz10_1 := Own.bc2 BK217.out 1; have hcz10_2 := Own.bc2 BK217.out 2; have hcz10_3 := Own.bc2 BK217.out 3; have hfz10_0 := bf BK217.out 0; have hfz10_1 := bf BK217.out 1; have hfz10_2 := bf BK217.out 2; have hfz10_3 := bf BK217.out 3) | ((with_reducible refine gate_callee (f := 24) rfl ?_); refine Own.gL_ (some 12) Try.func24 (#[.pointer (some ⟨g, 0, none⟩)]) (h := ?_); (with_reducible refine (wire_Reader_Err.calls g t213 t214 t215 t216 t218 t219 t220 t221 t222 t223 w0 _ ?side1 ?side2 A3.out).mono ?_); (case side1 => repeat (first | (with_reducible first | exact HI0.out | apply IsS67.alloc | apply IsS67.drewN | apply IsS67.drew | apply IsS67.set_0 | apply IsS67.set_1 | apply IsS67.set_2 | apply IsS67.set_3 | refine IsS67.far ?_ NB0_211.out _ | refine IsS67.far ?_ NB0_217.out _) | exact HI0.out)); (case side2 => repeat (first | (with_reducible first | exact HB.out | apply bl | apply pN | apply b1 | refine bs ?_ (IsS67.ge HI0.out) | refine bs ?_ GE211.out | refine bs ?_ GE217.out) | exact HB.out | exact HBo.out)); rintro e w11 ⟨rfl, hi, hb, hk⟩; refine ⟨_, rfl, ?_⟩; replace BK211 := Am (KeepBut.blk hk (g' := gb211) (o := .cells #[.int .i64 0, .int .i64 0, .slice none 0 0, .string (⟨#[]⟩ : ByteArray)] 41 (0, 0)) (by (with_reducible repeat (first|apply bn|apply bd|apply ba)); refine blk_far ?_ NB211_217.out _; (with_reducible repeat (first|apply bn|apply bd|apply ba)); refine blk_far ?_ NB211_217.out _; (with_reducible repeat (first|apply bn|apply bd|apply ba)); refine blk_far ?_ NB211_217.out _; (with_reducible repeat (first|apply bn|apply bd|apply ba)); refine blk_far ?_ NB211_217.out _; (with_reducible repeat (first|apply bn|apply bd|apply ba)); exact BK211.out) NB211_0.out (by simp)); replace BK217 := Am (KeepBut.blk hk (g' := gb217) (o := .cells #[.int .i64 t212, .int .i64 0, .slice none 0 0, .string (⟨#[]⟩ : ByteArray)] 41 (0, 0)) (by (with_reducible repeat (first|apply bn|apply bd|apply ba)); refine blk_put (cs := #[.int .i64 t212, .int .i64 0, .slice none 0 0, .string (⟨#[]⟩ : ByteArray)]) ?_ 3 _ rfl; (with_reducible repeat (first|apply bn|apply bd|apply ba)); refine blk_put (cs := #[.int .i64 t212, .int .i64 0, .slice none 0 0, .string (⟨#[]⟩ : ByteArray)]) ?_ 2 _ rfl; (with_reducible repeat (first|apply bn|apply bd|apply ba)); refine blk_put (cs := #[.int .i64 t212, .int .i64 0, .slice none 0 0, .string (⟨#[]⟩ : ByteArray)]) ?_ 1 _ rfl; (with_reducible repeat (first|apply bn|apply bd|apply ba)); refine blk_put (cs := #[.int .i64 0, .int .i64 0, .slice none 0 0, .string (⟨#[]⟩ : ByteArray)]) ?_ 0 _ rfl; (with_reducible repeat (first|apply bn|apply bd|apply ba)); exact BK217.out) NB217_0.out (by simp)); replace HK := Am (KeepBut.trans (by repeat (first | (with_reducible first | exact HK.out | apply KeepBut.set_ | apply keep_drewN | apply keep_drew | apply keep_alloc | refine keep_far ?_ GW211.out _ | refine keep_far ?_ GW217.out _) | exact HK.out)) hk (.inl rfl)); replace HB := Am (hb); replace HI0 := Am (hi); (try clear hb); (try clear hb2); (try clear hk); (try clear hi)))
 (try simp only [Act.put, sI, sZ, sS])
 go_cut [28] (fun v28 wc => ∃ (kq : Nat) (x28_3 : Bool), v28 = .bool x28_3 ∧ Aside0 (event_read.j0 kq x28_3 t220 t221 t222 t223 t212 0 (⟨#[]⟩ : ByteArray) = some (r1, r2, r3, r4, r5, r6, r7, r8, r9)) ∧ Aside0 (kq ≤ k) ∧ Aside0 (wc.heap[gb211]? = some (.cells #[.int .i64 0, .int .i64 0, (.slice none 0 0), .string (⟨#[]⟩ : ByteArray)] 41 (0, 0))) ∧ Aside0 (wc.heap[gb217]? = some (.cells #[.int .i64 t212, .int .i64 0, (.slice none 0 0), .string (⟨#[]⟩ : ByteArray)] 41 (0, 0))) ∧ Aside0 (IsS67 w0 wc g t220 t221 t222 t223) ∧ Aside0 (KeepBut w wc g none) ∧ Aside0 (Below w0.heap.size w0 wc))
 case first =>
  have H := HC4.out
  clear HC4
  by_cases c12 : t218 = 0
  ·
   rw [if_pos c12] at H
   have c12b0 : (t218 == 0) = true := beq_iff_eq.mpr c12
   have c12b1 : (t218 != 0) = false := bne_eq_false_iff_eq.mpr c12
   clear c12
   (first | rw [c12b0] | (simp only [i64_w, i32_w]; rw [c12b0]) | skip)
   replace H := ob H
   obtain ⟨t224, A130, H⟩ := H
   (try dsimp only at H)
   have A13 := Am A130
   clear A130
   by_cases c14 : t224 = true
   ·
    subst c14
    rw [if_pos rfl] at H
    have H' := Am H
    clear H
    have hnb15 := NB217_211.out
    have hnc15 := NB211_217.out
    have hnb16 := NB217_0.out
    have hnc16 := NB0_217.out
    have hcz17_0 := Own.bc2 BK217.out 0
    have hcz17_1 := Own.bc2 BK217.out 1
    have hcz17_2 := Own.bc2 BK217.out 2
    have hcz17_3 := Own.bc2 BK217.out 3
    have hfz17_0 := bf BK217.out 0
    have hfz17_1 := bf BK217.out 1
    have hfz17_2 := bf BK217.out 2
    have hfz17_3 := bf BK217.out 3
    go_wp2_with (first | (go_at_call 56; (with_reducible refine (kind_Known.calls t212 true _ A13.out).mono ?_); rintro e w18 ⟨rfl, hb⟩; have n0_ := Am (IsS67.below (by repeat (first | (with_reducible first | exact HI0.out | apply IsS67.alloc | apply IsS67.drewN | apply IsS67.drew | apply IsS67.set_0 | apply IsS67.set_1 | apply IsS67.set_2 | apply IsS67.set_3 | refine IsS67.far ?_ NB0_211.out _ | refine IsS67.far ?_ NB0_217.out _) | exact HI0.out)) hb); have n1_ := Am (blk_below (g := gb211) (o := .cells #[.int .i64 0, .int .i64 0, .slice none 0 0, .string (⟨#[]⟩ : ByteArray)] 41 (0, 0)) (by (with_reducible repeat (first|apply bn|apply bd|apply ba)); exact BK211.out) hb); have n2_ := Am (blk_below (g := gb217) (o := .cells #[.int .i64 t212, .int .i64 0, .slice none 0 0, .string (⟨#[]⟩ : ByteArray)] 41 (0, 0)) (by (with_reducible repeat (first|apply bn|apply bd|apply ba)); exact BK217.out) hb); have n3_ := Am (KeepBut.trans (by repeat (first | (with_reducible first | exact HK.out | apply KeepBut.set_ | apply keep_drewN | apply keep_drew | apply keep_alloc | refine keep_far ?_ GW211.out _ | refine keep_far ?_ GW217.out _) | exact HK.out)) (KeepBut.of_below hb g none) (.inl rfl)); have n4_ := Am (below_step (by repeat (first | (with_reducible first | exact HB.out | apply bl | apply pN | apply b1 | refine bs ?_ (IsS67.ge HI0.out) | refine bs ?_ GE211.out | refine bs ?_ GE217.out) | exact HB.out | exact HBo.out)) hb); clear HI0; clear BK211; clear BK217; clear HK; clear HB; have HI0 := n0_; have BK211 := n1_; have BK217 := n2_; have HK := n3_; have HB := n4_; clear n0_ n1_ n2_ n3_ n4_; clear hb))
    go_meet
    case rel => exact ⟨_, (false), (by first | rfl | (simp; done) | (simp [*]; done)), H', ⟨by first | omega | exact Nat.le_refl _⟩, ⟨by (with_reducible repeat (first|apply bn|apply bd|apply ba)); exact BK211.out⟩, ⟨by (with_reducible repeat (first|apply bn|apply bd|apply ba)); exact BK217.out⟩, ⟨by repeat (first | (with_reducible first | exact HI0.out | apply IsS67.alloc | apply IsS67.drewN | apply IsS67.drew | apply IsS67.set_0 | apply IsS67.set_1 | apply IsS67.set_2 | apply IsS67.set_3 | refine IsS67.far ?_ NB0_211.out _ | refine IsS67.far ?_ NB0_217.out _) | exact HI0.out)⟩, ⟨by repeat (first | (with_reducible first | exact HK.out | apply KeepBut.set_ | apply keep_drewN | apply keep_drew | apply keep_alloc | refine keep_far ?_ GW211.out _ | refine keep_far ?_ GW217.out _) | exact HK.out)⟩, ⟨by repeat (first | (with_reducible first | exact HB.out | apply bl | apply pN | apply b1 | refine bs ?_ (IsS67.ge HI0.out) | refine bs ?_ GE211.out | refine bs ?_ GE217.out) | exact HB.out | exact HBo.out)⟩⟩
   ·
    replace c14 := Bool.eq_false_iff.mpr c14
    subst c14
    rw [if_neg (show ¬ (false = true) by decide)] at H
    replace H := ob H
    obtain ⟨t225, A190, H⟩ := H
    (try dsimp only at H)
    have A19 := Am A190
    clear A190
    have H' := Am H
    clear H
    have hnb20 := NB217_211.out
    have hnc20 := NB211_217.out
    have hnb21 := NB217_0.out
    have hnc21 := NB0_217.out
    have hcz22_0 := Own.bc2 BK217.out 0
    have hcz22_1 := Own.bc2 BK217.out 1
    have hcz22_2 := Own.bc2 BK217.out 2
    have hcz22_3 := Own.bc2 BK217.out 3
    have hfz22_0 := bf BK217.out 0
    have hfz22_1 := bf BK217.out 1
    have hfz22_2 := bf BK217.out 2
    have hfz22_3 := bf BK217.out 3
    go_wp2_with (first | (go_at_call 56; (with_reducible refine (kind_Known.calls t212 false _ A13.out).mono ?_); rintro e w23 ⟨rfl, hb⟩; have n0_ := Am (IsS67.below (by repeat (first | (with_reducible first | exact HI0.out | apply IsS67.alloc | apply IsS67.drewN | apply IsS67.drew | apply IsS67.set_0 | apply IsS67.set_1 | apply IsS67.set_2 | apply IsS67.set_3 | refine IsS67.far ?_ NB0_211.out _ | refine IsS67.far ?_ NB0_217.out _) | exact HI0.out)) hb); have n1_ := Am (blk_below (g := gb211) (o := .cells #[.int .i64 0, .int .i64 0, .slice none 0 0, .string (⟨#[]⟩ : ByteArray)] 41 (0, 0)) (by (with_reducible repeat (first|apply bn|apply bd|apply ba)); exact BK211.out) hb); have n2_ := Am (blk_below (g := gb217) (o := .cells #[.int .i64 t212, .int .i64 0, .slice none 0 0, .string (⟨#[]⟩ : ByteArray)] 41 (0, 0)) (by (with_reducible repeat (first|apply bn|apply bd|apply ba)); exact BK217.out) hb); have n3_ := Am (KeepBut.trans (by repeat (first | (with_reducible first | exact HK.out | apply KeepBut.set_ | apply keep_drewN | apply keep_drew | apply keep_alloc | refine keep_far ?_ GW211.out _ | refine keep_far ?_ GW217.out _) | exact HK.out)) (KeepBut.of_below hb g none) (.inl rfl)); have n4_ := Am (below_step (by repeat (first | (with_reducible first | exact HB.out | apply bl | apply pN | apply b1 | refine bs ?_ (IsS67.ge HI0.out) | refine bs ?_ GE211.out | refine bs ?_ GE217.out) | exact HB.out | exact HBo.out)) hb); clear HI0; clear BK211; clear BK217; clear HK; clear HB; have HI0 := n0_; have BK211 := n1_; have BK217 := n2_; have HK := n3_; have HB := n4_; clear n0_ n1_ n2_ n3_ n4_; clear hb; have hcz24_0 := Own.bc2 BK217.out 0; have hcz24_1 := Own.bc2 BK217.out 1; have hcz24_2 := Own.bc2 BK217.out 2; have hcz24_3 := Own.bc2 BK217.out 3; have hfz24_0 := bf BK217.out 0; have hfz24_1 := bf BK217.out 1; have hfz24_2 := bf BK217.out 2; have hfz24_3 := bf BK217.out 3) | (go_at_call 57; (with_reducible refine (kind_Exp.calls t212 t225 _ A19.out).mono ?_); rintro e w' ⟨rfl, ⟨nd, rfl⟩⟩))
    go_meet
    case rel => exact ⟨_, (!t225), (by first | rfl | (simp; done) | (simp [*]; done)), H', ⟨by first | omega | exact Nat.le_refl _⟩, ⟨by (with_reducible repeat (first|apply bn|apply bd|apply ba)); exact BK211.out⟩, ⟨by (with_reducible repeat (first|apply bn|apply bd|apply ba)); exact BK217.out⟩, ⟨by repeat (first | (with_reducible first | exact HI0.out | apply IsS67.alloc | apply IsS67.drewN | apply IsS67.drew | apply IsS67.set_0 | apply IsS67.set_1 | apply IsS67.set_2 | apply IsS67.set_3 | refine IsS67.far ?_ NB0_211.out _ | refine IsS67.far ?_ NB0_217.out _) | exact HI0.out)⟩, ⟨by repeat (first | (with_reducible first | exact HK.out | apply KeepBut.set_ | apply keep_drewN | apply keep_drew | apply keep_alloc | refine keep_far ?_ GW211.out _ | refine keep_far ?_ GW217.out _) | exact HK.out)⟩, ⟨by repeat (first | (with_reducible first | exact HB.out | apply bl | apply pN | apply b1 | refine bs ?_ (IsS67.ge HI0.out) | refine bs ?_ GE211.out | refine bs ?_ GE217.out) | exact HB.out | exact HBo.out)⟩⟩
  ·
   rw [if_neg c12] at H
   have c12b0 : (t218 == 0) = false := beq_eq_false_iff_ne.mpr c12
   have c12b1 : (t218 != 0) = true := bne_iff_ne.mpr c12
   (first | rw [c12b0] | (simp only [i64_w, i32_w]; rw [c12b0]) | skip)
   have H' := Am H
   clear H
   go_wp2
   go_meet
   case rel => exact ⟨_, (false), (by first | rfl | (simp; done) | (simp [*]; done)), H', ⟨by first | omega | exact Nat.le_refl _⟩, ⟨by (with_reducible repeat (first|apply bn|apply bd|apply ba)); exact BK211.out⟩, ⟨by (with_reducible repeat (first|apply bn|apply bd|apply ba)); exact BK217.out⟩, ⟨by repeat (first | (with_reducible first | exact HI0.out | apply IsS67.alloc | apply IsS67.drewN | apply IsS67.drew | apply IsS67.set_0 | apply IsS67.set_1 | apply IsS67.set_2 | apply IsS67.set_3 | refine IsS67.far ?_ NB0_211.out _ | refine IsS67.far ?_ NB0_217.out _) | exact HI0.out)⟩, ⟨by repeat (first | (with_reducible first | exact HK.out | apply KeepBut.set_ | apply keep_drewN | apply keep_drew | apply keep_alloc | refine keep_far ?_ GW211.out _ | refine keep_far ?_ GW217.out _) | exact HK.out)⟩, ⟨by repeat (first | (with_reducible first | exact HB.out | apply bl | apply pN | apply b1 | refine bs ?_ (IsS67.ge HI0.out) | refine bs ?_ GE211.out | refine bs ?_ GE217.out) | exact HB.out | exact HBo.out)⟩⟩
 case rest =>
  clear HC4
  try clear c1
  try clear c2
  try clear p2
  try clear c5
  try clear c8
  try clear c9
  try clear c12
  try clear c12b0
  try clear c12b1
  try clear c14
  try clear c15
  try clear c16
  try clear c20
  try clear c21
  try clear c23
  try clear c24
  try clear hcz10_0
  try clear hcz10_1
  try clear hcz10_2
  try clear hcz10_3
  try clear hcz17_0
  try clear hcz17_1
  try clear hcz17_2
  try clear hcz17_3
  try clear hcz22_0
  try clear hcz22_1
  try clear hcz22_2
  try clear hcz22_3
  try clear hcz24_0
  try clear hcz24_1
  try clear hcz24_2
  try clear hcz24_3
  try clear hfz10_0
  try clear hfz10_1
  try clear hfz10_2
  try clear hfz10_3
  try clear hfz17_0
  try clear hfz17_1
  try clear hfz17_2
  try clear hfz17_3
  try clear hfz22_0
  try clear hfz22_1
  try clear hfz22_2
  try clear hfz22_3
  try clear hfz24_0
  try clear hfz24_1
  try clear hfz24_2
  try clear hfz24_3
  obtain ⟨kq, x28_3, rfl, HA, HJ3, BK211, BK217, HI0, HK, HB⟩ := hcut
  cases kq with
  | zero => exact absurd HA.out (by simp [event_read.j0])
  | succ kj3 =>
   have H := HA.out
   clear HA
   simp only [event_read.j0] at H
   by_cases c25 : x28_3 = true
   ·
    subst c25
    rw [if_pos rfl] at H
    simp only [Option.some.injEq, Prod.mk.injEq] at H
    obtain ⟨rfl, rfl, rfl, rfl, rfl, rfl, rfl, rfl, rfl⟩ := H
    have hnb26 := NB217_211.out
    have hnc26 := NB211_217.out
    have hnb27 := NB217_0.out
    have hnc27 := NB0_217.out
    have hcz28_0 := Own.bc2 BK217.out 0
    have hcz28_1 := Own.bc2 BK217.out 1
    have hcz28_2 := Own.bc2 BK217.out 2
    have hcz28_3 := Own.bc2 BK217.out 3
    have hfz28_0 := bf BK217.out 0
    have hfz28_1 := bf BK217.out 1
    have hfz28_2 := bf BK217.out 2
    have hfz28_3 := bf BK217.out 3
    have hnb29 := NB211_0.out
    have hnc29 := NB0_211.out
    have hcz30_0 := Own.bc2 BK211.out 0
    have hcz30_1 := Own.bc2 BK211.out 1
    have hcz30_2 := Own.bc2 BK211.out 2
    have hcz30_3 := Own.bc2 BK211.out 3
    have hfz30_0 := bf BK211.out 0
    have hfz30_1 := bf BK211.out 1
    have hfz30_2 := bf BK211.out 2
    have hfz30_3 := bf BK211.out 3
    go_wp2
    refine bodyPost_ret (results_ct rfl _ _ gb211 41 #[.int .i64 t212, .int .i64 0, .slice none 0 0, .string (⟨#[]⟩ : ByteArray)] (0, 0) _ rfl (by (with_reducible repeat (first|apply bn|apply bd|apply ba)); refine blk_put (cs := #[.int .i64 t212, .int .i64 0, .slice none 0 0, .string (⟨#[]⟩ : ByteArray)]) ?_ 3 _ rfl; (with_reducible repeat (first|apply bn|apply bd|apply ba)); refine blk_put (cs := #[.int .i64 t212, .int .i64 0, .slice none 0 0, .string (⟨#[]⟩ : ByteArray)]) ?_ 2 _ rfl; (with_reducible repeat (first|apply bn|apply bd|apply ba)); refine blk_put (cs := #[.int .i64 t212, .int .i64 0, .slice none 0 0, .string (⟨#[]⟩ : ByteArray)]) ?_ 1 _ rfl; (with_reducible repeat (first|apply bn|apply bd|apply ba)); refine blk_put (cs := #[.int .i64 0, .int .i64 0, .slice none 0 0, .string (⟨#[]⟩ : ByteArray)]) ?_ 0 _ rfl; (with_reducible repeat (first|apply bn|apply bd|apply ba)); exact BK211.out) Try.underlying41 rfl (by kernel_rfl)) rfl ?_
    exact ⟨_, by first | rfl | (simp <;> rfl) | (simp [*] <;> rfl) | (simp [Aid.ne_nil, Aid.eq_nil]; done), by first | exact Kd.R_nil _ _ _ _ _ | exact Kd.N_nil _ _ _ _ _ | exact Kd.V_nil _ _ _ _ _ | exact Kd.Q_nil _ _ _ _ _ | exact Kd.S_nil _ _ _ _ _, by repeat (first | (with_reducible first | exact HI0.out | apply IsS67.alloc | apply IsS67.drewN | apply IsS67.drew | apply IsS67.set_0 | apply IsS67.set_1 | apply IsS67.set_2 | apply IsS67.set_3 | refine IsS67.far ?_ NB0_211.out _ | refine IsS67.far ?_ NB0_217.out _) | exact HI0.out), by repeat (first | (with_reducible first | exact HB.out | apply bl | apply pN | apply b1 | refine bs ?_ (IsS67.ge HI0.out) | refine bs ?_ GE211.out | refine bs ?_ GE217.out) | exact HB.out | exact HBo.out), by repeat (first | (with_reducible first | exact HK.out | apply KeepBut.set_ | apply keep_drewN | apply keep_drew | apply keep_alloc | refine keep_far ?_ GW211.out _ | refine keep_far ?_ GW217.out _) | exact HK.out)⟩
   ·
    replace c25 := Bool.eq_false_iff.mpr c25
    subst c25
    rw [if_neg (show ¬ (false = true) by decide)] at H
    replace H := ob H
    obtain ⟨⟨t226, t227, t228, t229, t230⟩, A310, H⟩ := H
    (try dsimp only at H)
    have A31 := Am A310
    clear A310
    replace H := ob H
    obtain ⟨t231, A320, H⟩ := H
    (try dsimp only at H)
    have A32 := Am A320
    clear A320
    by_cases c33 : t231 = true
    ·
     subst c33
     rw [if_pos rfl] at H
     replace H := ob H
     obtain ⟨⟨t232, t233, t234, t235, t236⟩, A340, H⟩ := H
     (try dsimp only at H)
     have A34 := Am A340
     clear A340
     simp only [Option.some.injEq, Prod.mk.injEq] at H
     obtain ⟨rfl, rfl, rfl, rfl, rfl, rfl, rfl, rfl, rfl⟩ := H
     go_wp2_with (first | ((with_reducible refine gate_callee (f := 25) rfl ?_); refine Own.gL_ (some 31) Try.func25 (#[.pointer (some ⟨g, 0, none⟩)]) (h := ?_); (with_reducible refine (wire_Reader_Num.calls kj3 g t220 t221 t222 t223 t226 t227 t228 t229 t230 w0 _ ?side1 ?side2 A31.out).mono ?_); (case side1 => repeat (first | (with_reducible first | exact HI0.out | apply IsS67.alloc | apply IsS67.drewN | apply IsS67.drew | apply IsS67.set_0 | apply IsS67.set_1 | apply IsS67.set_2 | apply IsS67.set_3 | refine IsS67.far ?_ NB0_211.out _ | refine IsS67.far ?_ NB0_217.out _) | exact HI0.out)); (case side2 => repeat (first | (with_reducible first | exact HB.out | apply bl | apply pN | apply b1 | refine bs ?_ (IsS67.ge HI0.out) | refine bs ?_ GE211.out | refine bs ?_ GE217.out) | exact HB.out | exact HBo.out)); rintro e w35 ⟨rfl, hi, hb, hk⟩; refine ⟨_, rfl, ?_⟩; replace BK211 := Am (KeepBut.blk hk (g' := gb211) (o := .cells #[.int .i64 0, .int .i64 0, .slice none 0 0, .string (⟨#[]⟩ : ByteArray)] 41 (0, 0)) (by (with_reducible repeat (first|apply bn|apply bd|apply ba)); exact BK211.out) NB211_0.out (by simp)); replace BK217 := Am (KeepBut.blk hk (g' := gb217) (o := .cells #[.int .i64 t212, .int .i64 0, .slice none 0 0, .string (⟨#[]⟩ : ByteArray)] 41 (0, 0)) (by (with_reducible repeat (first|apply bn|apply bd|apply ba)); exact BK217.out) NB217_0.out (by simp)); replace HK := Am (KeepBut.trans (by repeat (first | (with_reducible first | exact HK.out | apply KeepBut.set_ | apply keep_drewN | apply keep_drew | apply keep_alloc | refine keep_far ?_ GW211.out _ | refine keep_far ?_ GW217.out _) | exact HK.out)) hk (.inl rfl)); replace HB := Am (hb); replace HI0 := Am (hi); (try clear hb); (try clear hb2); (try clear hk); (try clear hi); have hnb36 := NB217_211.out; have hnc36 := NB211_217.out; have hnb37 := NB217_0.out; have hnc37 := NB0_217.out; have hcz38_0 := Own.bc2 BK217.out 0; have hcz38_1 := Own.bc2 BK217.out 1; have hcz38_2 := Own.bc2 BK217.out 2; have hcz38_3 := Own.bc2 BK217.out 3; have hfz38_0 := bf BK217.out 0; have hfz38_1 := bf BK217.out 1; have hfz38_2 := bf BK217.out 2; have hfz38_3 := bf BK217.out 3) | ((with_reducible refine gate_callee (f := 57) rfl ?_); refine Own.gL_ (some 35) Try.func57 (#[.int .i64 t212]) (h := ?_); (with_reducible refine (kind_Exp.calls t212 true _ A32.out).mono ?_); rintro e w' ⟨rfl, ⟨nd, rfl⟩⟩; refine ⟨_, rfl, ?_⟩) | ((with_reducible refine gate_callee (f := 26) rfl ?_); refine Own.gL_ (some 37) Try.func26 (#[.pointer (some ⟨g, 0, none⟩)]) (h := ?_); (with_reducible refine (wire_Reader_Text.calls kj3 g t227 t228 t229 t230 t232 t233 t234 t235 t236 w0 _ ?side1 ?side2 A34.out).mono ?_); (case side1 => repeat (first | (with_reducible first | exact HI0.out | apply IsS67.alloc | apply IsS67.drewN | apply IsS67.drew | apply IsS67.set_0 | apply IsS67.set_1 | apply IsS67.set_2 | apply IsS67.set_3 | refine IsS67.far ?_ NB0_211.out _ | refine IsS67.far ?_ NB0_217.out _) | exact HI0.out)); (case side2 => repeat (first | (with_reducible first | exact HB.out | apply bl | apply pN | apply b1 | refine bs ?_ (IsS67.ge HI0.out) | refine bs ?_ GE211.out | refine bs ?_ GE217.out) | exact HB.out | exact HBo.out)); rintro e w39 ⟨rfl, hi, hb, hk⟩; refine ⟨_, rfl, ?_⟩; replace BK211 := Am (KeepBut.blk hk (g' := gb211) (o := .cells #[.int .i64 0, .int .i64 0, .slice none 0 0, .string (⟨#[]⟩ : ByteArray)] 41 (0, 0)) (by (with_reducible repeat (first|apply bn|apply bd|apply ba)); refine blk_far ?_ NB211_217.out _; (with_reducible repeat (first|apply bn|apply bd|apply ba)); exact BK211.out) NB211_0.out (by simp)); replace BK217 := Am (KeepBut.blk hk (g' := gb217) (o := .cells #[.int .i64 t212, .int .i64 t226, .slice none 0 0, .string (⟨#[]⟩ : ByteArray)] 41 (0, 0)) (by (with_reducible repeat (first|apply bn|apply bd|apply ba)); refine blk_put (cs := #[.int .i64 t212, .int .i64 0, .slice none 0 0, .string (⟨#[]⟩ : ByteArray)]) ?_ 1 _ rfl; (with_reducible repeat (first|apply bn|apply bd|apply ba)); exact BK217.out) NB217_0.out (by simp)); replace HK := Am (KeepBut.trans (by repeat (first | (with_reducible first | exact HK.out | apply KeepBut.set_ | apply keep_drewN | apply keep_drew | apply keep_alloc | refine keep_far ?_ GW211.out _ | refine keep_far ?_ GW217.out _) | exact HK.out)) hk (.inl rfl)); replace HB := Am (hb); replace HI0 := Am (hi); (try clear hb); (try clear hb2); (try clear hk); (try clear hi); have hcz40_0 := Own.bc2 BK217.out 0; have hcz40_1 := Own.bc2 BK217.out 1; have hcz40_2 := Own.bc2 BK217.out 2; have hcz40_3 := Own.bc2 BK217.out 3; have hfz40_0 := bf BK217.out 0; have hfz40_1 := bf BK217.out 1; have hfz40_2 := bf BK217.out 2; have hfz40_3 := bf BK217.out 3; have hnb41 := NB211_0.out; have hnc41 := NB0_211.out; have hcz42_0 := Own.bc2 BK211.out 0; have hcz42_1 := Own.bc2 BK211.out 1; have hcz42_2 := Own.bc2 BK211.out 2; have hcz42_3 := Own.bc2 BK211.out 3; have hfz42_0 := bf BK211.out 0; have hfz42_1 := bf BK211.out 1; have hfz42_2 := bf BK211.out 2; have hfz42_3 := bf BK211.out 3))
     refine bodyPost_ret (results_ct rfl _ _ gb211 41 #[.int .i64 t212, .int .i64 t226, .slice none 0 0, .string t232] (0, 0) _ rfl (by (with_reducible repeat (first|apply bn|apply bd|apply ba)); refine blk_put (cs := #[.int .i64 t212, .int .i64 t226, .slice none 0 0, .string (⟨#[]⟩ : ByteArray)]) ?_ 3 _ rfl; (with_reducible repeat (first|apply bn|apply bd|apply ba)); refine blk_put (cs := #[.int .i64 t212, .int .i64 t226, .slice none 0 0, .string (⟨#[]⟩ : ByteArray)]) ?_ 2 _ rfl; (with_reducible repeat (first|apply bn|apply bd|apply ba)); refine blk_put (cs := #[.int .i64 t212, .int .i64 0, .slice none 0 0, .string (⟨#[]⟩ : ByteArray)]) ?_ 1 _ rfl; (with_reducible repeat (first|apply bn|apply bd|apply ba)); refine blk_put (cs := #[.int .i64 0, .int .i64 0, .slice none 0 0, .string (⟨#[]⟩ : ByteArray)]) ?_ 0 _ rfl; (with_reducible repeat (first|apply bn|apply bd|apply ba)); refine blk_far ?_ NB211_217.out _; (with_reducible repeat (first|apply bn|apply bd|apply ba)); exact BK211.out) Try.underlying41 rfl (by kernel_rfl)) rfl ?_
     exact ⟨_, by first | rfl | (simp <;> rfl) | (simp [*] <;> rfl) | (simp [Aid.ne_nil, Aid.eq_nil]; done), by first | exact Kd.R_nil _ _ _ _ _ | exact Kd.N_nil _ _ _ _ _ | exact Kd.V_nil _ _ _ _ _ | exact Kd.Q_nil _ _ _ _ _ | exact Kd.S_nil _ _ _ _ _, by repeat (first | (with_reducible first | exact HI0.out | apply IsS67.alloc | apply IsS67.drewN | apply IsS67.drew | apply IsS67.set_0 | apply IsS67.set_1 | apply IsS67.set_2 | apply IsS67.set_3 | refine IsS67.far ?_ NB0_211.out _ | refine IsS67.far ?_ NB0_217.out _) | exact HI0.out), by repeat (first | (with_reducible first | exact HB.out | apply bl | apply pN | apply b1 | refine bs ?_ (IsS67.ge HI0.out) | refine bs ?_ GE211.out | refine bs ?_ GE217.out) | exact HB.out | exact HBo.out), by repeat (first | (with_reducible first | exact HK.out | apply KeepBut.set_ | apply keep_drewN | apply keep_drew | apply keep_alloc | refine keep_far ?_ GW211.out _ | refine keep_far ?_ GW217.out _) | exact HK.out)⟩
    ·
     replace c33 := Bool.eq_false_iff.mpr c33
     subst c33
     rw [if_neg (show ¬ (false = true) by decide)] at H
     replace H := ob H
     obtain ⟨t237, A430, H⟩ := H
     (try dsimp only at H)
     have A43 := Am A430
     clear A430
     have H' := Am H
     clear H
     go_wp2_with (first | ((with_reducible refine gate_callee (f := 25) rfl ?_); refine Own.gL_ (some 31) Try.func25 (#[.pointer (some ⟨g, 0, none⟩)]) (h := ?_); (with_reducible refine (wire_Reader_Num.calls kj3 g t220 t221 t222 t223 t226 t227 t228 t229 t230 w0 _ ?side1 ?side2 A31.out).mono ?_); (case side1 => repeat (first | (with_reducible first | exact HI0.out | apply IsS67.alloc | apply IsS67.drewN | apply IsS67.drew | apply IsS67.set_0 | apply IsS67.set_1 | apply IsS67.set_2 | apply IsS67.set_3 | refine IsS67.far ?_ NB0_211.out _ | refine IsS67.far ?_ NB0_217.out _) | exact HI0.out)); (case side2 => repeat (first | (with_reducible first | exact HB.out | apply bl | apply pN | apply b1 | refine bs ?_ (IsS67.ge HI0.out) | refine bs ?_ GE211.out | refine bs ?_ GE217.out) | exact HB.out | exact HBo.out)); rintro e w44 ⟨rfl, hi, hb, hk⟩; refine ⟨_, rfl, ?_⟩; replace BK211 := Am (KeepBut.blk hk (g' := gb211) (o := .cells #[.int .i64 0, .int .i64 0, .slice none 0 0, .string (⟨#[]⟩ : ByteArray)] 41 (0, 0)) (by (with_reducible repeat (first|apply bn|apply bd|apply ba)); exact BK211.out) NB211_0.out (by simp)); replace BK217 := Am (KeepBut.blk hk (g' := gb217) (o := .cells #[.int .i64 t212, .int .i64 0, .slice none 0 0, .string (⟨#[]⟩ : ByteArray)] 41 (0, 0)) (by (with_reducible repeat (first|apply bn|apply bd|apply ba)); exact BK217.out) NB217_0.out (by simp)); replace HK := Am (KeepBut.trans (by repeat (first | (with_reducible first | exact HK.out | apply KeepBut.set_ | apply keep_drewN | apply keep_drew | apply keep_alloc | refine keep_far ?_ GW211.out _ | refine keep_far ?_ GW217.out _) | exact HK.out)) hk (.inl rfl)); replace HB := Am (hb); replace HI0 := Am (hi); (try clear hb); (try clear hb2); (try clear hk); (try clear hi); have hnb45 := NB217_211.out; have hnc45 := NB211_217.out; have hnb46 := NB217_0.out; have hnc46 := NB0_217.out; have hcz47_0 := Own.bc2 BK217.out 0; have hcz47_1 := Own.bc2 BK217.out 1; have hcz47_2 := Own.bc2 BK217.out 2; have hcz47_3 := Own.bc2 BK217.out 3; have hfz47_0 := bf BK217.out 0; have hfz47_1 := bf BK217.out 1; have hfz47_2 := bf BK217.out 2; have hfz47_3 := bf BK217.out 3) | ((with_reducible refine gate_callee (f := 57) rfl ?_); refine Own.gL_ (some 35) Try.func57 (#[.int .i64 t212]) (h := ?_); (with_reducible refine (kind_Exp.calls t212 false _ A32.out).mono ?_); rintro e w' ⟨rfl, ⟨nd, rfl⟩⟩; refine ⟨_, rfl, ?_⟩) | ((with_reducible refine gate_callee (f := 58) rfl ?_); refine Own.gL_ (some 42) Try.func58 (#[.int .i64 t212]) (h := ?_); (with_reducible refine (kind_Args.calls t212 t237 _ A43.out).mono ?_); rintro e w48 ⟨v238, rfl, ho0, hb⟩; refine ⟨_, rfl, ?_⟩; have n0_ := Am (Kd.R_lower ho0 (keep_size (w := w) (g := g) (row := none) (by repeat (first | (with_reducible first | exact HK.out | apply KeepBut.set_ | apply keep_drewN | apply keep_drew | apply keep_alloc | refine keep_far ?_ GW211.out _ | refine keep_far ?_ GW217.out _) | exact HK.out)))); have n1_ := Am (blk_below (g := gb211) (o := .cells #[.int .i64 0, .int .i64 0, .slice none 0 0, .string (⟨#[]⟩ : ByteArray)] 41 (0, 0)) (by (with_reducible repeat (first|apply bn|apply bd|apply ba)); refine blk_far ?_ NB211_217.out _; (with_reducible repeat (first|apply bn|apply bd|apply ba)); exact BK211.out) hb); have n2_ := Am (blk_below (g := gb217) (o := .cells #[.int .i64 t212, .int .i64 t226, .slice none 0 0, .string (⟨#[]⟩ : ByteArray)] 41 (0, 0)) (by (with_reducible repeat (first|apply bn|apply bd|apply ba)); refine blk_put (cs := #[.int .i64 t212, .int .i64 0, .slice none 0 0, .string (⟨#[]⟩ : ByteArray)]) ?_ 1 _ rfl; (with_reducible repeat (first|apply bn|apply bd|apply ba)); exact BK217.out) hb); have n3_ := Am (IsS67.below (show IsS67 w0 _ g t227 t228 t229 t230 from by repeat (first | (with_reducible first | exact HI0.out | apply IsS67.alloc | apply IsS67.drewN | apply IsS67.drew | apply IsS67.set_0 | apply IsS67.set_1 | apply IsS67.set_2 | apply IsS67.set_3 | refine IsS67.far ?_ NB0_211.out _ | refine IsS67.far ?_ NB0_217.out _) | exact HI0.out)) hb); have n4_ := Am (KeepBut.trans (by repeat (first | (with_reducible first | exact HK.out | apply KeepBut.set_ | apply keep_drewN | apply keep_drew | apply keep_alloc | refine keep_far ?_ GW211.out _ | refine keep_far ?_ GW217.out _) | exact HK.out)) (KeepBut.of_below hb g none) (.inl rfl)); have n5_ := Am (below_step (by repeat (first | (with_reducible first | exact HB.out | apply bl | apply pN | apply b1 | refine bs ?_ (IsS67.ge HI0.out) | refine bs ?_ GE211.out | refine bs ?_ GE217.out) | exact HB.out | exact HBo.out)) hb); clear BK211; clear BK217; clear HI0; clear HK; clear HB; have HO239 := n0_; have BK211 := n1_; have BK217 := n2_; have HI0 := n3_; have HK := n4_; have HB := n5_; clear n0_ n1_ n2_ n3_ n4_ n5_; (try clear hb); (try clear hb2); (try clear hk); (try clear hi); (try clear ho0); obtain ⟨Ao49, co49, eo49⟩ := Kd.R_slice HO239.out; subst eo49))
     go_loopg [44] kj3 (fun kq v44 w' => ∃ (x44_2 : Int) (x1000_2 : ByteArray) (x1001_2 : Int) (x1002_2 : Int) (x1003_2 : Int) (x218002_2 : List Int) (u218002 : Value), v44 = .int .i64 x44_2 ∧ Aside0 (event_read.l0 kq (t237.length : Int) x44_2 x1000_2 x1001_2 x1002_2 x1003_2 t212 t226 x218002_2 (⟨#[]⟩ : ByteArray) = some (r1, r2, r3, r4, r5, r6, r7, r8, r9)) ∧ Aside0 (kq ≤ kj3) ∧ Aside0 (Kd.R (Kd.int .i64) 3 w' w.heap.size (fun _ => True) u218002 x218002_2) ∧ Aside0 (w'.heap[gb211]? = some (.cells #[.int .i64 0, .int .i64 0, (.slice none 0 0), .string (⟨#[]⟩ : ByteArray)] 41 (0, 0))) ∧ Aside0 (w'.heap[gb217]? = some (.cells #[.int .i64 t212, .int .i64 t226, u218002, .string (⟨#[]⟩ : ByteArray)] 41 (0, 0))) ∧ Aside0 (IsS67 w0 w' g x1000_2 x1001_2 x1002_2 x1003_2) ∧ Aside0 (KeepBut w w' g none) ∧ Aside0 (Below w0.heap.size w0 w'))
     case atStart => exact ⟨(0), (t227), (t228), (t229), (t230), (([] : List Int)), (.slice none 0 0), (by first | rfl | (simp; done) | (simp [*]; done)), H', ⟨Nat.le_refl _⟩, ⟨by first | exact Kd.R_nil _ _ _ _ _ | exact Kd.N_nil _ _ _ _ _ | exact Kd.V_nil _ _ _ _ _ | exact Kd.Q_nil _ _ _ _ _ | exact Kd.S_nil _ _ _ _ _⟩, ⟨by (with_reducible repeat (first|apply bn|apply bd|apply ba)); exact BK211.out⟩, ⟨by (with_reducible repeat (first|apply bn|apply bd|apply ba)); exact BK217.out⟩, ⟨by repeat (first | (with_reducible first | exact HI0.out | apply IsS67.alloc | apply IsS67.drewN | apply IsS67.drew | apply IsS67.set_0 | apply IsS67.set_1 | apply IsS67.set_2 | apply IsS67.set_3 | refine IsS67.far ?_ NB0_211.out _ | refine IsS67.far ?_ NB0_217.out _) | exact HI0.out)⟩, ⟨by repeat (first | (with_reducible first | exact HK.out | apply KeepBut.set_ | apply keep_drewN | apply keep_drew | apply keep_alloc | refine keep_far ?_ GW211.out _ | refine keep_far ?_ GW217.out _) | exact HK.out)⟩, ⟨by repeat (first | (with_reducible first | exact HB.out | apply bl | apply pN | apply b1 | refine bs ?_ (IsS67.ge HI0.out) | refine bs ?_ GE211.out | refine bs ?_ GE217.out) | exact HB.out | exact HBo.out)⟩⟩
     case round =>
      clear H'
      try clear c1
      try clear c2
      try clear p2
      try clear c3
      try clear c4
      try clear c5
      try clear c8
      try clear c9
      try clear c12
      try clear c12b0
      try clear c12b1
      try clear c14
      try clear c15
      try clear c16
      try clear c20
      try clear c21
      try clear c23
      try clear c24
      try clear c25
      try clear c26
      try clear c27
      try clear c29
      try clear c33
      try clear c36
      try clear c37
      try clear c41
      try clear c45
      try clear c46
      try clear hcz10_0
      try clear hcz10_1
      try clear hcz10_2
      try clear hcz10_3
      try clear hcz17_0
      try clear hcz17_1
      try clear hcz17_2
      try clear hcz17_3
      try clear hcz22_0
      try clear hcz22_1
      try clear hcz22_2
      try clear hcz22_3
      try clear hcz24_0
      try clear hcz24_1
      try clear hcz24_2
      try clear hcz24_3
      try clear hcz28_0
      try clear hcz28_1
      try clear hcz28_2
      try clear hcz28_3
      try clear hcz30_0
      try clear hcz30_1
      try clear hcz30_2
      try clear hcz30_3
      try clear hcz38_0
      try clear hcz38_1
      try clear hcz38_2
      try clear hcz38_3
      try clear hcz40_0
      try clear hcz40_1
      try clear hcz40_2
      try clear hcz40_3
      try clear hcz42_0
      try clear hcz42_1
      try clear hcz42_2
      try clear hcz42_3
      try clear hcz47_0
      try clear hcz47_1
      try clear hcz47_2
      try clear hcz47_3
      try clear hfz10_0
      try clear hfz10_1
      try clear hfz10_2
      try clear hfz10_3
      try clear hfz17_0
      try clear hfz17_1
      try clear hfz17_2
      try clear hfz17_3
      try clear hfz22_0
      try clear hfz22_1
      try clear hfz22_2
      try clear hfz22_3
      try clear hfz24_0
      try clear hfz24_1
      try clear hfz24_2
      try clear hfz24_3
      try clear hfz28_0
      try clear hfz28_1
      try clear hfz28_2
      try clear hfz28_3
      try clear hfz30_0
      try clear hfz30_1
      try clear hfz30_2
      try clear hfz30_3
      try clear hfz38_0
      try clear hfz38_1
      try clear hfz38_2
      try clear hfz38_3
      try clear hfz40_0
      try clear hfz40_1
      try clear hfz40_2
      try clear hfz40_3
      try clear hfz42_0
      try clear hfz42_1
      try clear hfz42_2
      try clear hfz42_3
      try clear hfz47_0
      try clear hfz47_1
      try clear hfz47_2
      try clear hfz47_3
      try clear p2
      obtain ⟨x44_2, x1000_2, x1001_2, x1002_2, x1003_2, x218002_2, u218002, rfl, HA, HK2, HO_218002, BK211, BK217, HI0, HK, HB⟩ := hrel
      cases gk with
      | zero => exact absurd HA.out (by simp [event_read.l0])
      | succ k2 =>
       have H := HA.out
       clear HA
       simp only [event_read.l0] at H
       by_cases c50 : x44_2 < (t237.length : Int)
       ·
        rw [if_pos c50] at H
        have c50b0 : decide (x44_2 < (t237.length : Int)) = true := decide_eq_true c50
        clear c50
        replace H := ob H
        obtain ⟨⟨t240, t241, t242, t243, t244⟩, A510, H⟩ := H
        (try dsimp only at H)
        have A51 := Am A510
        clear A510
        by_cases c52 : x218002_2.length < 17592186044416
        ·
         rw [if_pos c52] at H
         have LMc52 := Am c52
         clear c52
         obtain ⟨y245, hy245⟩ : ∃ y_ : List Int, y_ = (x218002_2 ++ [t240]) := ⟨_, rfl⟩
         replace H : (event_read.l0 k2 (t237.length : Int) (wrap64 (x44_2 + 1)) t241 t242 t243 t244 t212 t226 y245 (⟨#[]⟩ : ByteArray)) = some (r1, r2, r3, r4, r5, r6, r7, r8, r9) := by first | (rw [hy245]; with_reducible exact H) | (have H2_ := (Option.bind_some _ _).symm.trans H; rw [hy245]; with_reducible exact H2_) | (have H2_ := (Option.bind_some _ _).symm.trans H; with_reducible exact H2_) | with_reducible exact H | (rw [hy245]; exact H) | exact H
         have Ny245 := Am hy245
         clear hy245
         have H' := Am H
         clear H
         try go_wp2
         replace HO_218002 := Am (Kd.R_drew HO_218002.out)
         replace BK211 := Am (bd BK211.out)
         replace BK217 := Am (bd BK217.out)
         replace HI0 := Am (IsS67.drew HI0.out)
         replace HK := Am (keep_drew HK.out)
         replace HB := Am (b1 HB.out)
         refine start_ (n := 8) (S := fun w' => w'.cell? ⟨gb217, 0, none⟩ = some (.int .i64 t212) ∧ w'.cell? ⟨gb217, 1, none⟩ = some (.int .i64 t226) ∧ w'.cell? ⟨gb217, 2, none⟩ = some (u218002) ∧ w'.cell? ⟨gb217, 3, none⟩ = some (.string (⟨#[]⟩ : ByteArray))) (ds := [7]) q4_0 (by kernel_rfl) rfl rfl ⟨(bc BK217.out 0).trans rfl, (bc BK217.out 1).trans rfl, (bc BK217.out 2).trans rfl, (bc BK217.out 3).trans rfl⟩ (fun hHeld => ?_); refine with_tabW event_read.tab11 event_read.bits11 (fun HT_ HW_ => ?_)
         generalize wr.drew = w53 at HO_218002 BK211 BK217 HI0 HK HB hHeld ⊢
         refine Own.pr_ 0 (some 46) q4_1 HT_ (h := ?_)
         refine Own.pr_ 2 (some 48) q4_2 HT_ (h := ?_)
         refine Own.tk_ 1 (some 47) q4_3 HT_ HW_ hHeld (hy := by rintro w' ⟨s0, s1, s2, s3⟩; go_simp; with_reducible rfl) (h := ?_)
         refine one_ (i := 3) (N := some 49) q4_4 rfl rfl (one_of HT_.out (by kernel_rfl)) (by decide) (fun K hK => ?_)
         refine goes_ Try.func25 (by kernel_rfl) rfl #[.pointer (some ⟨g, 0, none⟩)] (by rfl) rfl rfl (by (try simp only [List.map_toArray, List.map_cons, List.map_nil]); first | done | rfl | (simp only [List.length_drop, List.length_take]; rfl)) ?_
         with_reducible refine (wire_Reader_Num.calls k2 g x1000_2 x1001_2 x1002_2 x1003_2 t240 t241 t242 t243 t244 w0 _ ?side1 ?side2 A51.out).mono ?_
         (case side1 => repeat (first | (with_reducible first | exact HI0.out | apply IsS67.alloc | apply IsS67.drewN | apply IsS67.drew | apply IsS67.set_0 | apply IsS67.set_1 | apply IsS67.set_2 | apply IsS67.set_3 | refine IsS67.far ?_ NB0_211.out _ | refine IsS67.far ?_ NB0_217.out _) | exact HI0.out))
         (case side2 => repeat (first | (with_reducible first | exact HB.out | apply bl | apply pN | apply b1 | refine bs ?_ (IsS67.ge HI0.out) | refine bs ?_ GE211.out | refine bs ?_ GE217.out) | exact HB.out | exact HBo.out))
         rintro e w54 ⟨rfl, hi, hb, hk⟩
         refine ⟨_, rfl, ?_⟩
         replace HO_218002 := Am (Kd.R_mono (Kd.R_keep (IsS67.apart (show IsS67 w0 _ g x1000_2 x1001_2 x1002_2 x1003_2 from by repeat (first | (with_reducible first | exact HI0.out | apply IsS67.alloc | apply IsS67.drewN | apply IsS67.drew | apply IsS67.set_0 | apply IsS67.set_1 | apply IsS67.set_2 | apply IsS67.set_3 | refine IsS67.far ?_ NB0_211.out _ | refine IsS67.far ?_ NB0_217.out _) | exact HI0.out)) (by (with_reducible repeat (first | apply Kd.R_alloc | apply Kd.R_drewN | apply Kd.R_drew)); exact HO_218002.out) (by decide)) hk (fun _ h => h.2)) (fun _ h => h.1))
         replace BK211 := Am (KeepBut.blk hk (g' := gb211) (o := .cells #[.int .i64 0, .int .i64 0, .slice none 0 0, .string (⟨#[]⟩ : ByteArray)] 41 (0, 0)) (by (with_reducible repeat (first|apply bn|apply bd|apply ba)); exact BK211.out) NB211_0.out (by simp))
         replace BK217 := Am (KeepBut.blk hk (g' := gb217) (o := .cells #[.int .i64 t212, .int .i64 t226, u218002, .string (⟨#[]⟩ : ByteArray)] 41 (0, 0)) (by (with_reducible repeat (first|apply bn|apply bd|apply ba)); exact BK217.out) NB217_0.out (by simp))
         replace HK := Am (KeepBut.trans (by repeat (first | (with_reducible first | exact HK.out | apply KeepBut.set_ | apply keep_drewN | apply keep_drew | apply keep_alloc | refine keep_far ?_ GW211.out _ | refine keep_far ?_ GW217.out _) | exact HK.out)) hk (.inl rfl))
         replace HB := Am (hb)
         replace HI0 := Am (hi)
         (try clear hb)
         (try clear hb2)
         (try clear hk)
         (try clear hi)
         refine hK.out _ _ ⟨(bc BK217.out 0).trans rfl, (bc BK217.out 1).trans rfl, (bc BK217.out 2).trans rfl, (bc BK217.out 3).trans rfl⟩ (fun hHeld => ?_)
         clear hK K
         refine norm_ (a' := ?_) ?_ ?_
         rotate_left
         ·
          show Act.put _ (some 49) _ = _
          simp only [Act.put, sI, sZ, sS, i64_w, i32_w]
          rfl
         refine one_ (i := 4) (N := some 50) q4_5 rfl rfl (one_of HT_.out (by kernel_rfl)) (by decide) (fun K hK => ?_)
         refine value_ (w1 := ?_) (v := ?_) (by rfl) rfl ?_ ?_
         rotate_left 2
         ·
          go_simp
          constructor
          ·
           rfl
          ·
           rfl
         refine hK.out _ _ ⟨(bc (ba BK217.out _) 0).trans rfl, (bc (ba BK217.out _) 1).trans rfl, (bc (ba BK217.out _) 2).trans rfl, (bc (ba BK217.out _) 3).trans rfl⟩ (fun hHeld => ?_)
         clear hK K
         refine norm_ (a' := ?_) ?_ ?_
         rotate_left
         ·
          show Act.put _ (some 50) _ = _
          simp only [Act.put, sI, sZ, sS, i64_w, i32_w]
          rfl
         refine one_ (i := 5) (N := some 51) q4_6 rfl rfl (one_of HT_.out (by kernel_rfl)) (by decide) (fun K hK => ?_)
         refine Kd.R_append_step (Kd.int .i64) w.heap.size (by rfl) (.tmp 47) (.tmp 50) 29 3 (.int .i64 0) 8 rfl Try.underlying29 info3 rfl (by decide) (by omega) u218002 x218002_2 t240 [.int .i64 t240] (fun _ => True) (fun _ => False) rfl rfl ?aP (fun _ hk => hk.elim) ?aF ?aO (Below.refl _ _) ?aS ?aL ?_
         (case aP => exact rfl)
         (case aF => exact (fun _ _ => trivial))
         (case aO => exact (by (with_reducible repeat (first | apply Kd.R_alloc | apply Kd.R_drewN | apply Kd.R_drew)); exact HO_218002.out))
         (case aS => exact (keep_size (w := w) (g := g) (row := none) (by repeat (first | (with_reducible first | exact HK.out | apply KeepBut.set_ | apply keep_drewN | apply keep_drew | apply keep_alloc | refine keep_far ?_ GW211.out _ | refine keep_far ?_ GW217.out _) | exact HK.out))))
         (case aL => have := LMc52.out; omega)
         intro v246 w55 ho hb hg hat
         rw [← Ny245.out] at ho
         have n0_ := Am (blk_grown (g := gb211) (o := .cells #[.int .i64 0, .int .i64 0, .slice none 0 0, .string (⟨#[]⟩ : ByteArray)] 41 (0, 0)) (by (with_reducible repeat (first|apply bn|apply bd|apply ba)); exact BK211.out) hg (Kd.R_ne HO_218002.out BK211.out (by decide)))
         have n1_ := Am (blk_grown (g := gb217) (o := .cells #[.int .i64 t212, .int .i64 t226, u218002, .string (⟨#[]⟩ : ByteArray)] 41 (0, 0)) (by (with_reducible repeat (first|apply bn|apply bd|apply ba)); exact BK217.out) hg (Kd.R_ne HO_218002.out BK217.out (by decide)))
         have n2_ := Am (IsS67.grown (show IsS67 w0 _ g t241 t242 t243 t244 from by repeat (first | (with_reducible first | exact HI0.out | apply IsS67.alloc | apply IsS67.drewN | apply IsS67.drew | apply IsS67.set_0 | apply IsS67.set_1 | apply IsS67.set_2 | apply IsS67.set_3 | refine IsS67.far ?_ NB0_211.out _ | refine IsS67.far ?_ NB0_217.out _) | exact HI0.out)) hg (IsS67.own_ne HI0.out HO_218002.out (by decide)))
         have n3_ := Am (below_weaken (by repeat (first | (with_reducible first | exact HB.out | apply bl | apply pN | apply b1 | refine bs ?_ (IsS67.ge HI0.out) | refine bs ?_ GE211.out | refine bs ?_ GE217.out) | exact HB.out | exact HBo.out)) HL.out hb)
         have n4_ := Am (KeepBut.trans (by repeat (first | (with_reducible first | exact HK.out | apply KeepBut.set_ | apply keep_drewN | apply keep_drew | apply keep_alloc | refine keep_far ?_ GW211.out _ | refine keep_far ?_ GW217.out _) | exact HK.out)) (KeepBut.of_grown hg g) (Kd.R_base2 HO_218002.out))
         have n5_ := Am (ho)
         clear BK211
         clear BK217
         clear HI0
         clear HB
         clear HK
         clear HO_218002
         have BK211 := n0_
         have BK217 := n1_
         have HI0 := n2_
         have HB := n3_
         have HK := n4_
         have HO247 := n5_
         clear n0_ n1_ n2_ n3_ n4_ n5_
         clear ho hb hg hat
         obtain ⟨Ao56, co56, eo56⟩ := Kd.R_slice HO247.out
         (first | subst eo56 | (injection eo56 with f1_ f2_ f3_; have f4_ := f1_.symm; have f5_ := f3_.symm; clear f1_ f2_ f3_; subst f4_; subst f5_))
         refine hK.out _ _ ⟨(bc BK217.out 0).trans rfl, (bc BK217.out 1).trans rfl, (bc BK217.out 2).trans rfl, (bc BK217.out 3).trans rfl⟩ (fun hHeld => ?_)
         clear hK K
         refine norm_ (a' := ?_) ?_ ?_
         rotate_left
         ·
          show Act.put _ (some 51) _ = _
          simp only [Act.put, sI, sZ, sS, i64_w, i32_w]
          rfl
         refine Own.pr_ 6 (some 52) q4_7 HT_ (h := ?_)
         refine last_ (i := 7) (N := none) q4_8 rfl rfl (one_of HT_.out (by kernel_rfl)) (by decide) (fun K hK => ?_)
         have hs57 : w55.cell? ⟨gb217, 2, none⟩ = some (u218002) := (bc BK217.out 2).trans rfl
         have hfs57 := bf BK217.out 2
         have hns57_0 := NB211_217.out
         have hms57_0 := NB217_211.out
         refine skip_ (w1 := ?_) (by rfl) rfl ?_ ?_
         rotate_left
         ·
          go_simp
          rfl
         refine hK.out _ _ ?_
         clear hK K
         refine done_ (done_of HT_.out (by kernel_rfl)) ?_
         try go_wp2
         go_roundg k2
         case measure => have := HJ3.out; have := HK2.out; omega
         case rel => exact ⟨(wrap64 (x44_2 + 1)), (t241), (t242), (t243), (t244), (y245), (.slice Ao56 y245.length co56), (by first | rfl | (simp; done) | (simp [*]; done)), H', ⟨by have := HJ3.out; have := HK2.out; omega⟩, ⟨by (with_reducible repeat (first | apply Kd.R_alloc | apply Kd.R_drewN | apply Kd.R_drew)); exact Kd.R_mono (Kd.R_far (p := ⟨gb217, 2, none⟩) (Kd.R_types HO247.out BK217.out (by decide)) (fun _ hk => hk.2) (.slice Ao56 y245.length co56)) (fun _ hk => trivial)⟩, ⟨by (with_reducible repeat (first|apply bn|apply bd|apply ba)); refine blk_far ?_ NB211_217.out _; (with_reducible repeat (first|apply bn|apply bd|apply ba)); exact BK211.out⟩, ⟨by (with_reducible repeat (first|apply bn|apply bd|apply ba)); refine blk_put (cs := #[.int .i64 t212, .int .i64 t226, u218002, .string (⟨#[]⟩ : ByteArray)]) ?_ 2 _ rfl; (with_reducible repeat (first|apply bn|apply bd|apply ba)); exact BK217.out⟩, ⟨by repeat (first | (with_reducible first | exact HI0.out | apply IsS67.alloc | apply IsS67.drewN | apply IsS67.drew | apply IsS67.set_0 | apply IsS67.set_1 | apply IsS67.set_2 | apply IsS67.set_3 | refine IsS67.far ?_ NB0_211.out _ | refine IsS67.far ?_ NB0_217.out _) | exact HI0.out)⟩, ⟨by repeat (first | (with_reducible first | exact HK.out | apply KeepBut.set_ | apply keep_drewN | apply keep_drew | apply keep_alloc | refine keep_far ?_ GW211.out _ | refine keep_far ?_ GW217.out _) | exact HK.out)⟩, ⟨by repeat (first | (with_reducible first | exact HB.out | apply bl | apply pN | apply b1 | refine bs ?_ (IsS67.ge HI0.out) | refine bs ?_ GE211.out | refine bs ?_ GE217.out) | exact HB.out | exact HBo.out)⟩⟩
        ·
         rw [if_neg c52] at H
         exact absurd H (by simp)
       ·
        rw [if_neg c50] at H
        have c50b0 : decide (x44_2 < (t237.length : Int)) = false := decide_eq_false c50
        clear c50
        simp only [Option.some.injEq, Prod.mk.injEq] at H
        obtain ⟨rfl, rfl, rfl, rfl, rfl, rfl, rfl, rfl, rfl⟩ := H
        have hnb58 := NB217_211.out
        have hnc58 := NB211_217.out
        have hnb59 := NB217_0.out
        have hnc59 := NB0_217.out
        have hcz60_0 := Own.bc2 BK217.out 0
        have hcz60_1 := Own.bc2 BK217.out 1
        have hcz60_2 := Own.bc2 BK217.out 2
        have hcz60_3 := Own.bc2 BK217.out 3
        have hfz60_0 := bf BK217.out 0
        have hfz60_1 := bf BK217.out 1
        have hfz60_2 := bf BK217.out 2
        have hfz60_3 := bf BK217.out 3
        have hnb61 := NB211_0.out
        have hnc61 := NB0_211.out
        have hcz62_0 := Own.bc2 BK211.out 0
        have hcz62_1 := Own.bc2 BK211.out 1
        have hcz62_2 := Own.bc2 BK211.out 2
        have hcz62_3 := Own.bc2 BK211.out 3
        have hfz62_0 := bf BK211.out 0
        have hfz62_1 := bf BK211.out 1
        have hfz62_2 := bf BK211.out 2
        have hfz62_3 := bf BK211.out 3
        obtain ⟨Ao63, co63, eo63⟩ := Kd.R_slice HO_218002.out
        subst eo63
        go_wp2
        refine bodyPost_ret (results_ct rfl _ _ gb211 41 #[.int .i64 t212, .int .i64 t226, .slice Ao63 x218002_2.length co63, .string (⟨#[]⟩ : ByteArray)] (0, 0) _ rfl (by (with_reducible repeat (first|apply bn|apply bd|apply ba)); refine blk_put (cs := #[.int .i64 t212, .int .i64 t226, .slice Ao63 x218002_2.length co63, .string (⟨#[]⟩ : ByteArray)]) ?_ 3 _ rfl; (with_reducible repeat (first|apply bn|apply bd|apply ba)); refine blk_put (cs := #[.int .i64 t212, .int .i64 t226, .slice none 0 0, .string (⟨#[]⟩ : ByteArray)]) ?_ 2 _ rfl; (with_reducible repeat (first|apply bn|apply bd|apply ba)); refine blk_put (cs := #[.int .i64 t212, .int .i64 0, .slice none 0 0, .string (⟨#[]⟩ : ByteArray)]) ?_ 1 _ rfl; (with_reducible repeat (first|apply bn|apply bd|apply ba)); refine blk_put (cs := #[.int .i64 0, .int .i64 0, .slice none 0 0, .string (⟨#[]⟩ : ByteArray)]) ?_ 0 _ rfl; (with_reducible repeat (first|apply bn|apply bd|apply ba)); exact BK211.out) Try.underlying41 rfl (by kernel_rfl)) rfl ?_
        exact ⟨_, by first | rfl | (simp <;> rfl) | (simp [*] <;> rfl) | (simp [Aid.ne_nil, Aid.eq_nil]; done), by (with_reducible repeat (first | apply Kd.R_alloc | apply Kd.R_drewN | apply Kd.R_drew)); exact Kd.R_mono (Kd.R_far (p := ⟨gb211, 3, none⟩) (Kd.R_far (p := ⟨gb211, 2, none⟩) (Kd.R_far (p := ⟨gb211, 1, none⟩) (Kd.R_far (p := ⟨gb211, 0, none⟩) (Kd.R_types HO_218002.out BK211.out (by decide)) (fun _ hk => hk.2) (.int .i64 t212)) (fun _ hk => hk.2) (.int .i64 t226)) (fun _ hk => hk.2) (.slice Ao63 x218002_2.length co63)) (fun _ hk => hk.2) (.string (⟨#[]⟩ : ByteArray))) (fun _ hk => trivial), by repeat (first | (with_reducible first | exact HI0.out | apply IsS67.alloc | apply IsS67.drewN | apply IsS67.drew | apply IsS67.set_0 | apply IsS67.set_1 | apply IsS67.set_2 | apply IsS67.set_3 | refine IsS67.far ?_ NB0_211.out _ | refine IsS67.far ?_ NB0_217.out _) | exact HI0.out), by repeat (first | (with_reducible first | exact HB.out | apply bl | apply pN | apply b1 | refine bs ?_ (IsS67.ge HI0.out) | refine bs ?_ GE211.out | refine bs ?_ GE217.out) | exact HB.out | exact HBo.out), by repeat (first | (with_reducible first | exact HK.out | apply KeepBut.set_ | apply keep_drewN | apply keep_drew | apply keep_alloc | refine keep_far ?_ GW211.out _ | refine keep_far ?_ GW217.out _) | exact HK.out)⟩

end Go.Proofs.Ytfcombimnmkoeaa.Q
