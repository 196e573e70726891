-- printed by a program of this session (NOTES: hprint); not the kit's print
-- minified
-- halved
import Derived.Test.YthechcflnkofgaaAl
import Derived.Test.YthechcflnkofgaaQx0
import Derived.Test.YthechcflnkofgaaQx1
import Derived.Test.YthechcflnkofgaaQx2
namespace Go.Proofs.Ythechcflnkofgaa.Q
open Go.RowKit Go.Proofs.YthechcflnkofgaaW.PrintWords Go.Proofs.YthechcflnkofgaaW.PrintLast Go.Proofs.YthechcflnkofgaaW.PrintMore
attribute [local go_sem] max2_int min2_int max_two min_two max_three min_three max_four min_four   -- for this text's walks alone
set_option linter.unusedVariables false
set_option linter.unusedSimpArgs false

def q3_0 : Array Bool := let o := true; let z := false; #[z,z,z,z,z,z,z,z]
def q3_1 : Array Bool := let o := true; let z := false; #[o,z,z,z,z,z,z,z]
def q3_2 : Array Bool := let o := true; let z := false; #[o,z,o,z,z,z,z,z]
def q3_3 : Array Bool := let o := true; let z := false; #[o,o,o,z,z,z,z,z]
def q3_4 : Array Bool := let o := true; let z := false; #[o,o,o,o,z,z,z,z]
def q3_5 : Array Bool := let o := true; let z := false; #[o,o,o,o,o,z,z,z]
def q3_6 : Array Bool := let o := true; let z := false; #[o,o,o,o,o,o,z,z]
def q3_7 : Array Bool := let o := true; let z := false; #[o,o,o,o,o,o,o,z]
def q3_8 : Array Bool := let o := true; let z := false; #[o,o,o,o,o,o,o,o]
/-! ### event_read: function 19 -/
mutual
def event_read.j0 : Nat → Bool → ByteArray → Int → Int → Int → Int → Int → ByteArray → Option (Int × Int × List Int × ByteArray × Bool × ByteArray × Int × Int × Int)
 | 0, _, _, _, _, _, _, _, _ => none
 | k + 1, x28, x1000, x1001, x1002, x1003, x166000, x166001, x166003 => if x28 = true then (some (x166000, x166001, ([] : List Int), x166003, false, x1000, x1001, x1002, x1003)) else ((wire_Reader_Num.f k x1000 x1001 x1002 x1003).bind fun bt174 => ((kind_Exp.f x166000).bind fun t179 => (if t179 = true then ((wire_Reader_Text.f k bt174.2.1 bt174.2.2.1 bt174.2.2.2.1 bt174.2.2.2.2).bind fun bt180 => (some (x166000, bt174.1, ([] : List Int), bt180.1, true, bt180.2.1, bt180.2.2.1, bt180.2.2.2.1, bt180.2.2.2.2))) else ((kind_Args.f x166000).bind fun t185 => (event_read.l0 k (t185.length : Int) 0 bt174.2.1 bt174.2.2.1 bt174.2.2.2.1 bt174.2.2.2.2 x166000 bt174.1 ([] : List Int) x166003)))))
def event_read.l0 : Nat → Int → Int → ByteArray → Int → Int → Int → Int → Int → List Int → ByteArray → Option (Int × Int × List Int × ByteArray × Bool × ByteArray × Int × Int × Int)
 | 0, _, _, _, _, _, _, _, _, _, _ => none
 | k + 1, x43, x44, x1000, x1001, x1002, x1003, x166000, x166001, x166002, x166003 => if x44 < x43 then ((wire_Reader_Num.f k x1000 x1001 x1002 x1003).bind fun bt188 => (if x166002.length < 17592186044416 then (event_read.l0 k x43 (wrap64 (x44 + 1)) bt188.2.1 bt188.2.2.1 bt188.2.2.2.1 bt188.2.2.2.2 x166000 x166001 (x166002 ++ [bt188.1]) x166003) else (none))) else (some (x166000, x166001, x166002, x166003, true, x1000, x1001, x1002, x1003))
end
def event_read.f (k : Nat) (s0_0 : ByteArray) (s0_1 : Int) (s0_2 : Int) (s0_3 : Int) : Option (Int × Int × List Int × ByteArray × Bool × ByteArray × Int × Int × Int) := (wire_Reader_Byte.f s0_0 s0_1 s0_2 s0_3).bind fun bt160 => ((wire_Reader_Err.f bt160.2.1 bt160.2.2.1 bt160.2.2.2.1 bt160.2.2.2.2).bind fun bt166 => (if bt166.1 = 0 then ((kind_Known.f bt160.1).bind fun t172 => (if t172 = true then (event_read.j0 k false bt166.2.2.1 bt166.2.2.2.1 bt166.2.2.2.2.1 bt166.2.2.2.2.2 bt160.1 0 (⟨#[]⟩ : ByteArray)) else ((kind_Exp.f bt160.1).bind fun t173 => (event_read.j0 k (!t173) bt166.2.2.1 bt166.2.2.2.1 bt166.2.2.2.2.1 bt166.2.2.2.2.2 bt160.1 0 (⟨#[]⟩ : ByteArray))))) else (event_read.j0 k false bt166.2.2.1 bt166.2.2.2.1 bt166.2.2.2.2.1 bt166.2.2.2.2.2 bt160.1 0 (⟨#[]⟩ : ByteArray))))
theorem event_read.mono_l : ∀ k, (∀ y0 y1 y2 y3 y4 y5 y6 y7, LeO (event_read.j0 k y0 y1 y2 y3 y4 y5 y6 y7) (event_read.j0 (k + 1) y0 y1 y2 y3 y4 y5 y6 y7)) ∧ (∀ y0 y1 y2 y3 y4 y5 y6 y7 y8 y9, LeO (event_read.l0 k y0 y1 y2 y3 y4 y5 y6 y7 y8 y9) (event_read.l0 (k + 1) y0 y1 y2 y3 y4 y5 y6 y7 y8 y9))
 | 0 => ⟨fun _ _ _ _ _ _ _ _ r h => by simp [event_read.j0] at h, fun _ _ _ _ _ _ _ _ _ _ r h => by simp [event_read.l0] at h⟩
 | k + 1 => by
  obtain ⟨ih0, ih1⟩ := event_read.mono_l k
  refine ⟨?_, ?_⟩
  ·
   intro y0 y1 y2 y3 y4 y5 y6 y7
   unfold event_read.j0
   repeat' first
   | (with_reducible exact ih0 _ _ _ _ _ _ _ _)
   | (with_reducible exact ih1 _ _ _ _ _ _ _ _ _ _)
   | (with_reducible exact wire_Reader_Num.mono _ _ _ _ _)
   | (with_reducible exact wire_Reader_Text.mono _ _ _ _ _)
   | (with_reducible exact LeO.refl _)
   | (with_reducible exact LeO.none _)
   | (with_reducible refine LeO.ite ?_ ?_)
   | (with_reducible refine LeO.bind ?_ (fun _ => ?_))
   | exact ih0 _ _ _ _ _ _ _ _
   | exact ih1 _ _ _ _ _ _ _ _ _ _
   | exact wire_Reader_Num.mono _ _ _ _ _
   | exact wire_Reader_Text.mono _ _ _ _ _
   | exact LeO.none _
   | refine LeO.ite ?_ ?_
   | refine LeO.bind ?_ (fun _ => ?_)
  ·
   intro y0 y1 y2 y3 y4 y5 y6 y7 y8 y9
   unfold event_read.l0
   repeat' first
   | (with_reducible exact ih0 _ _ _ _ _ _ _ _)
   | (with_reducible exact ih1 _ _ _ _ _ _ _ _ _ _)
   | (with_reducible exact wire_Reader_Num.mono _ _ _ _ _)
   | (with_reducible exact wire_Reader_Text.mono _ _ _ _ _)
   | (with_reducible exact LeO.refl _)
   | (with_reducible exact LeO.none _)
   | (with_reducible refine LeO.ite ?_ ?_)
   | (with_reducible refine LeO.bind ?_ (fun _ => ?_))
   | exact ih0 _ _ _ _ _ _ _ _
   | exact ih1 _ _ _ _ _ _ _ _ _ _
   | exact wire_Reader_Num.mono _ _ _ _ _
   | exact wire_Reader_Text.mono _ _ _ _ _
   | exact LeO.none _
   | refine LeO.ite ?_ ?_
   | refine LeO.bind ?_ (fun _ => ?_)
theorem event_read.mono : ∀ a0 a1 a2 a3 k, LeO (event_read.f k a0 a1 a2 a3) (event_read.f (k + 1) a0 a1 a2 a3) := by
 intro a0 a1 a2 a3 k
 obtain ⟨ih0, ih1⟩ := event_read.mono_l k
 unfold event_read.f
 repeat' first
   | (with_reducible exact ih0 _ _ _ _ _ _ _ _)
   | (with_reducible exact ih1 _ _ _ _ _ _ _ _ _ _)
   | (with_reducible exact wire_Reader_Num.mono _ _ _ _ _)
   | (with_reducible exact wire_Reader_Text.mono _ _ _ _ _)
   | (with_reducible exact LeO.refl _)
   | (with_reducible exact LeO.none _)
   | (with_reducible refine LeO.ite ?_ ?_)
   | (with_reducible refine LeO.bind ?_ (fun _ => ?_))
   | exact ih0 _ _ _ _ _ _ _ _
   | exact ih1 _ _ _ _ _ _ _ _ _ _
   | exact wire_Reader_Num.mono _ _ _ _ _
   | exact wire_Reader_Text.mono _ _ _ _ _
   | exact LeO.none _
   | refine LeO.ite ?_ ?_
   | refine LeO.bind ?_ (fun _ => ?_)
def event_read.T11 : Bool × List (List Nat × List Nat) := (true, [([], []), ([0], [0]), ([], []), ([2], [2]), ([3], [3]), ([1, 4, 3], [1, 4]), ([0, 1, 2, 3, 4, 5], []), ([6, 5, 5, 0, 1, 2, 3, 4, 5], [5, 6])])
def event_read.B11 : List Nat := [0, 1, 0, 4, 12, 31, 63, 127]
theorem event_read.tab11 : rtab .any (opsOf Try.f19 11) = event_read.T11 := by kernel_rfl
theorem event_read.bits11 : waitsOk event_read.T11.2 event_read.B11 = true := by kernel_rfl
set_option maxHeartbeats 8000000 in
set_option maxRecDepth 100000 in
theorem event_read.calls (k : Nat) (g : Nat) (s0_0 : ByteArray) (s0_1 : Int) (s0_2 : Int) (s0_3 : Int) (r1 : Int) (r2 : Int) (r3 : List Int) (r4 : ByteArray) (r5 : Bool) (r6 : ByteArray) (r7 : Int) (r8 : Int) (r9 : Int) (w0 w : World) (hI : IsS58 w0 w g s0_0 s0_1 s0_2 s0_3) (hB : Below w0.heap.size w0 w) (h : event_read.f k s0_0 s0_1 s0_2 s0_3 = some (r1, r2, r3, r4, r5, r6, r7, r8, r9)) :
  Calls Try.prog 19 #[.pointer (some ⟨g, 0, none⟩)] w fun e w' => ∃ v2_ : Value, e = .returned (.tuple #[.agg #[.int .i64 r1, .int .i64 r2, v2_, .string r4], .bool r5]) ∧ Kd.R (Kd.int .i64) 3 w' w.heap.size (fun _ => True) v2_ r3 ∧ IsS58 w0 w' g r6 r7 r8 r9 ∧ Below w0.heap.size w0 w' ∧ KeepBut w w' g none := by
 have hu24 := Try.underlying24
 have HI0 := Am hI
 have HK := Am (KeepBut.refl w g none)
 have HL := Am hB.size
 clear hI
 have HW0 := Am hB.size
 have HB := Am hB
 clear hB
 have H : ((wire_Reader_Byte.f s0_0 s0_1 s0_2 s0_3).bind fun bt160 => ((wire_Reader_Err.f bt160.2.1 bt160.2.2.1 bt160.2.2.2.1 bt160.2.2.2.2).bind fun bt166 => (if bt166.1 = 0 then ((kind_Known.f bt160.1).bind fun t172 => (if t172 = true then (event_read.j0 k false bt166.2.2.1 bt166.2.2.2.1 bt166.2.2.2.2.1 bt166.2.2.2.2.2 bt160.1 0 (⟨#[]⟩ : ByteArray)) else ((kind_Exp.f bt160.1).bind fun t173 => (event_read.j0 k (!t173) bt166.2.2.1 bt166.2.2.2.1 bt166.2.2.2.2.1 bt166.2.2.2.2.2 bt160.1 0 (⟨#[]⟩ : ByteArray))))) else (event_read.j0 k false bt166.2.2.1 bt166.2.2.2.1 bt166.2.2.2.2.1 bt166.2.2.2.2.2 bt160.1 0 (⟨#[]⟩ : ByteArray))))) = some (r1, r2, r3, r4, r5, r6, r7, r8, r9) := h
 clear h
 replace H := ob H
 obtain ⟨⟨t160, t161, t162, t163, t164⟩, A20, H⟩ := H
 replace H : ((wire_Reader_Err.f t161 t162 t163 t164).bind fun bt166 => (if bt166.1 = 0 then ((kind_Known.f t160).bind fun t172 => (if t172 = true then (event_read.j0 k false bt166.2.2.1 bt166.2.2.2.1 bt166.2.2.2.2.1 bt166.2.2.2.2.2 t160 0 (⟨#[]⟩ : ByteArray)) else ((kind_Exp.f t160).bind fun t173 => (event_read.j0 k (!t173) bt166.2.2.1 bt166.2.2.2.1 bt166.2.2.2.2.1 bt166.2.2.2.2.2 t160 0 (⟨#[]⟩ : ByteArray))))) else (event_read.j0 k false bt166.2.2.1 bt166.2.2.2.1 bt166.2.2.2.2.1 bt166.2.2.2.2.2 t160 0 (⟨#[]⟩ : ByteArray)))) = some (r1, r2, r3, r4, r5, r6, r7, r8, r9) := H
 have A2 := Am A20
 clear A20
 replace H := ob H
 obtain ⟨⟨t166, t167, t168, t169, t170, t171⟩, A30, H⟩ := H
 replace H : (if t166 = 0 then ((kind_Known.f t160).bind fun t172 => (if t172 = true then (event_read.j0 k false t168 t169 t170 t171 t160 0 (⟨#[]⟩ : ByteArray)) else ((kind_Exp.f t160).bind fun t173 => (event_read.j0 k (!t173) t168 t169 t170 t171 t160 0 (⟨#[]⟩ : ByteArray))))) else (event_read.j0 k false t168 t169 t170 t171 t160 0 (⟨#[]⟩ : ByteArray))) = some (r1, r2, r3, r4, r5, r6, r7, r8, r9) := H
 have A3 := Am A30
 clear A30
 have HC4 := Am H
 clear H
 go_enter Try.func19, Try.ntmps19
 go_upto_region 3 with (first | ((with_reducible refine gate_dst (N := 2) rfl ?_); refine box_event ?hg (N := 2) ?hd (cs := #[.int .i64 0, .int .i64 0, .slice none 0 0, .string (⟨#[]⟩ : ByteArray)]) (t := 24) ?hr ?_; (case hd => rfl); (case hg => rfl); (case hr => first | (go_simp; done) | (go_simp; rfl)); intro gb159 hg w5 hbox hb; have n0_ := Am (IsS58.below (by repeat (first | (with_reducible first | exact HI0.out | apply IsS58.alloc | apply IsS58.drewN | apply IsS58.drew | apply IsS58.set_0 | apply IsS58.set_1 | apply IsS58.set_2 | apply IsS58.set_3) | exact HI0.out)) hb); have n1_ := Am (KeepBut.trans (by repeat (first | (with_reducible first | exact HK.out | apply KeepBut.set_ | apply keep_drewN | apply keep_drew | apply keep_alloc) | exact HK.out)) (KeepBut.of_below hb g none) (.inl rfl)); have n2_ := Am (below_step (by repeat (first | (with_reducible first | exact HB.out | apply bl | apply pN | apply b1 | refine bs ?_ (IsS58.ge HI0.out)) | exact HB.out | exact HBo.out)) hb); have n3_ := Am (hbox); have n4_ := Am ((by rw [hg]; exact (keep_size (w := w) (g := g) (row := none) (by repeat (first | (with_reducible first | exact HK.out | apply KeepBut.set_ | apply keep_drewN | apply keep_drew | apply keep_alloc) | exact HK.out))) : w.heap.size ≤ gb159)); have n5_ := Am ((Nat.le_trans HW0.out (by rw [hg]; exact (keep_size (w := w) (g := g) (row := none) (by repeat (first | (with_reducible first | exact HK.out | apply KeepBut.set_ | apply keep_drewN | apply keep_drew | apply keep_alloc) | exact HK.out))) : w.heap.size ≤ gb159) : w0.heap.size ≤ gb159)); have n6_ := Am ((by rw [hg]; exact Nat.ne_of_lt (IsS58.lt (show IsS58 w0 _ g s0_0 s0_1 s0_2 s0_3 from by repeat (first | (with_reducible first | exact HI0.out | apply IsS58.alloc | apply IsS58.drewN | apply IsS58.drew | apply IsS58.set_0 | apply IsS58.set_1 | apply IsS58.set_2 | apply IsS58.set_3) | exact HI0.out))) : g ≠ gb159)); have n7_ := Am ((by rw [hg]; exact Nat.ne_of_gt (IsS58.lt (show IsS58 w0 _ g s0_0 s0_1 s0_2 s0_3 from by repeat (first | (with_reducible first | exact HI0.out | apply IsS58.alloc | apply IsS58.drewN | apply IsS58.drew | apply IsS58.set_0 | apply IsS58.set_1 | apply IsS58.set_2 | apply IsS58.set_3) | exact HI0.out))) : gb159 ≠ g)); clear HI0; clear HK; clear HB; have HI0 := n0_; have HK := n1_; have HB := n2_; have BK159 := n3_; have GW159 := n4_; have GE159 := n5_; have NB0_159 := n6_; have NB159_0 := n7_; clear n0_ n1_ n2_ n3_ n4_ n5_ n6_ n7_; clear hb hbox hg) | ((with_reducible refine gate_callee (f := 40) rfl ?_); refine goesL_ (some 8) rfl rfl Try.func40 (by kernel_rfl) rfl #[.pointer (some ⟨g, 0, none⟩)] rfl (by (try simp only [List.map_toArray, List.map_cons, List.map_nil]); first | done | rfl | (simp only [List.length_drop, List.length_take]; rfl)) ?_; (with_reducible refine (wire_Reader_Byte.calls g s0_0 s0_1 s0_2 s0_3 t160 t161 t162 t163 t164 w0 _ ?side1 ?side2 A2.out).mono ?_); (case side1 => repeat (first | (with_reducible first | exact HI0.out | apply IsS58.alloc | apply IsS58.drewN | apply IsS58.drew | apply IsS58.set_0 | apply IsS58.set_1 | apply IsS58.set_2 | apply IsS58.set_3 | refine IsS58.far ?_ NB0_159.out _) | exact HI0.out)); (case side2 => repeat (first | (with_reducible first | exact HB.out | apply bl | apply pN | apply b1 | refine bs ?_ (IsS58.ge HI0.out) | refine bs ?_ GE159.out) | exact HB.out | exact HBo.out)); rintro e w6 ⟨rfl, hi, hb, hk⟩; refine ⟨_, rfl, ?_⟩; have n0_ := Am (KeepBut.blk hk (g' := gb159) (o := .cells #[.int .i64 0, .int .i64 0, .slice none 0 0, .string (⟨#[]⟩ : ByteArray)] 24 (0, 0)) (by (with_reducible repeat (first | refine bn ?_ _ | refine bd ?_ | refine ba ?_ _)); exact BK159.out) NB159_0.out (by simp)); have n1_ := Am (KeepBut.trans (by repeat (first | (with_reducible first | exact HK.out | apply KeepBut.set_ | apply keep_drewN | apply keep_drew | apply keep_alloc | refine keep_far ?_ GW159.out _) | exact HK.out)) hk (.inl rfl)); have n2_ := Am (hb); have n3_ := Am (hi); clear BK159; clear HK; clear HB; clear HI0; have BK159 := n0_; have HK := n1_; have HB := n2_; have HI0 := n3_; clear n0_ n1_ n2_ n3_; (try clear hb); (try clear hb2); (try clear hk); (try clear hi)) | ((with_reducible refine gate_dst (N := 4) rfl ?_); refine box_event ?hg (N := 4) ?hd (cs := #[.int .i64 0, .int .i64 0, .slice none 0 0, .string (⟨#[]⟩ : ByteArray)]) (t := 24) ?hr ?_; (case hd => rfl); (case hg => rfl); (case hr => first | (go_simp; done) | (go_simp; rfl)); intro gb165 hg w7 hbox hb; have n0_ := Am (IsS58.below (by repeat (first | (with_reducible first | exact HI0.out | apply IsS58.alloc | apply IsS58.drewN | apply IsS58.drew | apply IsS58.set_0 | apply IsS58.set_1 | apply IsS58.set_2 | apply IsS58.set_3 | refine IsS58.far ?_ NB0_159.out _) | exact HI0.out)) hb); have n1_ := Am (blk_below (g := gb159) (o := .cells #[.int .i64 0, .int .i64 0, .slice none 0 0, .string (⟨#[]⟩ : ByteArray)] 24 (0, 0)) (by (with_reducible repeat (first | refine bn ?_ _ | refine bd ?_ | refine ba ?_ _)); exact BK159.out) hb); have n2_ := Am (KeepBut.trans (by repeat (first | (with_reducible first | exact HK.out | apply KeepBut.set_ | apply keep_drewN | apply keep_drew | apply keep_alloc | refine keep_far ?_ GW159.out _) | exact HK.out)) (KeepBut.of_below hb g none) (.inl rfl)); have n3_ := Am (below_step (by repeat (first | (with_reducible first | exact HB.out | apply bl | apply pN | apply b1 | refine bs ?_ (IsS58.ge HI0.out) | refine bs ?_ GE159.out) | exact HB.out | exact HBo.out)) hb); have n4_ := Am (hbox); have n5_ := Am ((by rw [hg]; exact (keep_size (w := w) (g := g) (row := none) (by repeat (first | (with_reducible first | exact HK.out | apply KeepBut.set_ | apply keep_drewN | apply keep_drew | apply keep_alloc | refine keep_far ?_ GW159.out _) | exact HK.out))) : w.heap.size ≤ gb165)); have n6_ := Am ((Nat.le_trans HW0.out (by rw [hg]; exact (keep_size (w := w) (g := g) (row := none) (by repeat (first | (with_reducible first | exact HK.out | apply KeepBut.set_ | apply keep_drewN | apply keep_drew | apply keep_alloc | refine keep_far ?_ GW159.out _) | exact HK.out))) : w.heap.size ≤ gb165) : w0.heap.size ≤ gb165)); have n7_ := Am ((by rw [hg]; exact Nat.ne_of_lt (blk_lt (g := gb159) (o := .cells #[.int .i64 0, .int .i64 0, .slice none 0 0, .string (⟨#[]⟩ : ByteArray)] 24 (0, 0)) (by (with_reducible repeat (first | refine bn ?_ _ | refine bd ?_ | refine ba ?_ _)); exact BK159.out)) : gb159 ≠ gb165)); have n8_ := Am ((by rw [hg]; exact Nat.ne_of_gt (blk_lt (g := gb159) (o := .cells #[.int .i64 0, .int .i64 0, .slice none 0 0, .string (⟨#[]⟩ : ByteArray)] 24 (0, 0)) (by (with_reducible repeat (first | refine bn ?_ _ | refine bd ?_ | refine ba ?_ _)); exact BK159.out)) : gb165 ≠ gb159)); have n9_ := Am ((by rw [hg]; exact Nat.ne_of_lt (IsS58.lt (show IsS58 w0 _ g t161 t162 t163 t164 from by repeat (first | (with_reducible first | exact HI0.out | apply IsS58.alloc | apply IsS58.drewN | apply IsS58.drew | apply IsS58.set_0 | apply IsS58.set_1 | apply IsS58.set_2 | apply IsS58.set_3 | refine IsS58.far ?_ NB0_159.out _) | exact HI0.out))) : g ≠ gb165)); have n10_ := Am ((by rw [hg]; exact Nat.ne_of_gt (IsS58.lt (show IsS58 w0 _ g t161 t162 t163 t164 from by repeat (first | (with_reducible first | exact HI0.out | apply IsS58.alloc | apply IsS58.drewN | apply IsS58.drew | apply IsS58.set_0 | apply IsS58.set_1 | apply IsS58.set_2 | apply IsS58.set_3 | refine IsS58.far ?_ NB0_159.out _) | exact HI0.out))) : gb165 ≠ g)); clear HI0; clear BK159; clear HK; clear HB; have HI0 := n0_; have BK159 := n1_; have HK := n2_; have HB := n3_; have BK165 := n4_; have GW165 := n5_; have GE165 := n6_; have NB159_165 := n7_; have NB165_159 := n8_; have NB0_165 := n9_; have NB165_0 := n10_; clear n0_ n1_ n2_ n3_ n4_ n5_ n6_ n7_ n8_ n9_ n10_; clear hb hbox hg; have hnb8 := NB165_159.out; have hnc8 := NB159_165.out; have hnb9 := NB165_0.out; have hnc9 := NB0_165.out; have hcz10_0 : w7.cell? ⟨gb165, 0, none⟩ = some (.int .i64 0) := (bc BK165.out 0).trans rfl; have hcz10_1 : w7.cell? ⟨gb165, 1, none⟩ = some (.int .i64 0) := (bc BK165.out 1).trans rfl; have hcz10_2 : w7.cell? ⟨gb165, 2, none⟩ = some (.slice none 0 0) := (bc BK165.out 2).trans rfl; have hcz10_3 : w7.cell? ⟨gb165, 3, none⟩ = some (.string (⟨#[]⟩ : ByteArray)) := (bc BK165.out 3).trans rfl; have hfz10_0 := bf BK165.out 0; have hfz10_1 := bf BK165.out 1; have hfz10_2 := bf BK165.out 2; have hfz10_3 := bf BK165.out 3) | ((with_reducible refine gate_callee (f := 20) rfl ?_); refine goesL_ (some 12) rfl rfl Try.func20 (by kernel_rfl) rfl #[.pointer (some ⟨g, 0, none⟩)] rfl (by (try simp only [List.map_toArray, List.map_cons, List.map_nil]); first | done | rfl | (simp only [List.length_drop, List.length_take]; rfl)) ?_; (with_reducible refine (wire_Reader_Err.calls g t161 t162 t163 t164 t166 t167 t168 t169 t170 t171 w0 _ ?side1 ?side2 A3.out).mono ?_); (case side1 => repeat (first | (with_reducible first | exact HI0.out | apply IsS58.alloc | apply IsS58.drewN | apply IsS58.drew | apply IsS58.set_0 | apply IsS58.set_1 | apply IsS58.set_2 | apply IsS58.set_3 | refine IsS58.far ?_ NB0_159.out _ | refine IsS58.far ?_ NB0_165.out _) | exact HI0.out)); (case side2 => repeat (first | (with_reducible first | exact HB.out | apply bl | apply pN | apply b1 | refine bs ?_ (IsS58.ge HI0.out) | refine bs ?_ GE159.out | refine bs ?_ GE165.out) | exact HB.out | exact HBo.out)); rintro e w11 ⟨rfl, hi, hb, hk⟩; refine ⟨_, rfl, ?_⟩; have n0_ := Am (KeepBut.blk hk (g' := gb159) (o := .cells #[.int .i64 0, .int .i64 0, .slice none 0 0, .string (⟨#[]⟩ : ByteArray)] 24 (0, 0)) (by (with_reducible repeat (first | refine bn ?_ _ | refine bd ?_ | refine ba ?_ _)); refine blk_far ?_ NB159_165.out _; (with_reducible repeat (first | refine bn ?_ _ | refine bd ?_ | refine ba ?_ _)); refine blk_far ?_ NB159_165.out _; (with_reducible repeat (first | refine bn ?_ _ | refine bd ?_ | refine ba ?_ _)); refine blk_far ?_ NB159_165.out _; (with_reducible repeat (first | refine bn ?_ _ | refine bd ?_ | refine ba ?_ _)); refine blk_far ?_ NB159_165.out _; (with_reducible repeat (first | refine bn ?_ _ | refine bd ?_ | refine ba ?_ _)); exact BK159.out) NB159_0.out (by simp)); have n1_ := Am (KeepBut.blk hk (g' := gb165) (o := .cells #[.int .i64 t160, .int .i64 0, .slice none 0 0, .string (⟨#[]⟩ : ByteArray)] 24 (0, 0)) (by (with_reducible repeat (first | refine bn ?_ _ | refine bd ?_ | refine ba ?_ _)); refine blk_put (cs := #[.int .i64 t160, .int .i64 0, .slice none 0 0, .string (⟨#[]⟩ : ByteArray)]) ?_ 3 _ rfl; (with_reducible repeat (first | refine bn ?_ _ | refine bd ?_ | refine ba ?_ _)); refine blk_put (cs := #[.int .i64 t160, .int .i64 0, .slice none 0 0, .string (⟨#[]⟩ : ByteArray)]) ?_ 2 _ rfl; (with_reducible repeat (first | refine bn ?_ _ | refine bd ?_ | refine ba ?_ _)); refine blk_put (cs := #[.int .i64 t160, .int .i64 0, .slice none 0 0, .string (⟨#[]⟩ : ByteArray)]) ?_ 1 _ rfl; (with_reducible repeat (first | refine bn ?_ _ | refine bd ?_ | refine ba ?_ _)); refine blk_put (cs := #[.int .i64 0, .int .i64 0, .slice none 0 0, .string (⟨#[]⟩ : ByteArray)]) ?_ 0 _ rfl; (with_reducible repeat (first | refine bn ?_ _ | refine bd ?_ | refine ba ?_ _)); exact BK165.out) NB165_0.out (by simp)); have n2_ := Am (KeepBut.trans (by repeat (first | (with_reducible first | exact HK.out | apply KeepBut.set_ | apply keep_drewN | apply keep_drew | apply keep_alloc | refine keep_far ?_ GW159.out _ | refine keep_far ?_ GW165.out _) | exact HK.out)) hk (.inl rfl)); have n3_ := Am (hb); have n4_ := Am (hi); clear BK159; clear BK165; clear HK; clear HB; clear HI0; have BK159 := n0_; have BK165 := n1_; have HK := n2_; have HB := n3_; have HI0 := n4_; clear n0_ n1_ n2_ n3_ n4_; (try clear hb); (try clear hb2); (try clear hk); (try clear hi)))
 (try simp only [Act.put, sI, sZ, sS])
 go_cut [28] (fun v28 wc => ∃ (kq : Nat) (x28_3 : Bool), v28 = .bool x28_3 ∧ Aside0 (event_read.j0 kq x28_3 t168 t169 t170 t171 t160 0 (⟨#[]⟩ : ByteArray) = some (r1, r2, r3, r4, r5, r6, r7, r8, r9)) ∧ Aside0 (kq ≤ k) ∧ Aside0 (wc.heap[gb159]? = some (.cells #[.int .i64 0, .int .i64 0, (.slice none 0 0), .string (⟨#[]⟩ : ByteArray)] 24 (0, 0))) ∧ Aside0 (wc.heap[gb165]? = some (.cells #[.int .i64 t160, .int .i64 0, (.slice none 0 0), .string (⟨#[]⟩ : ByteArray)] 24 (0, 0))) ∧ Aside0 (IsS58 w0 wc g t168 t169 t170 t171) ∧ Aside0 (KeepBut w wc g none) ∧ Aside0 (Below w0.heap.size w0 wc))
 case first =>
  have H := HC4.out
  clear HC4
  by_cases c12 : t166 = 0
  ·
   rw [if_pos c12] at H
   have c12b0 : (t166 == 0) = true := beq_iff_eq.mpr c12
   have c12b1 : (t166 != 0) = false := bne_eq_false_iff_eq.mpr c12
   clear c12
   (first | rw [c12b0] | (simp only [i64_w, i32_w]; rw [c12b0]) | skip)
   replace H := ob H
   obtain ⟨t172, A130, H⟩ := H
   replace H : (if t172 = true then (event_read.j0 k false t168 t169 t170 t171 t160 0 (⟨#[]⟩ : ByteArray)) else ((kind_Exp.f t160).bind fun t173 => (event_read.j0 k (!t173) t168 t169 t170 t171 t160 0 (⟨#[]⟩ : ByteArray)))) = some (r1, r2, r3, r4, r5, r6, r7, r8, r9) := H
   have A13 := Am A130
   clear A130
   by_cases c14 : t172 = true
   ·
    subst c14
    have H1 : (event_read.j0 k false t168 t169 t170 t171 t160 0 (⟨#[]⟩ : ByteArray)) = some (r1, r2, r3, r4, r5, r6, r7, r8, r9) := by rw [if_pos rfl] at H; exact H
    clear H
    have H := H1
    clear H1
    have H' := Am H
    clear H
    have hnb15 := NB165_159.out
    have hnc15 := NB159_165.out
    have hnb16 := NB165_0.out
    have hnc16 := NB0_165.out
    have hcz17_0 : w11.cell? ⟨gb165, 0, none⟩ = some (.int .i64 t160) := (bc BK165.out 0).trans rfl
    have hcz17_1 : w11.cell? ⟨gb165, 1, none⟩ = some (.int .i64 0) := (bc BK165.out 1).trans rfl
    have hcz17_2 : w11.cell? ⟨gb165, 2, none⟩ = some (.slice none 0 0) := (bc BK165.out 2).trans rfl
    have hcz17_3 : w11.cell? ⟨gb165, 3, none⟩ = some (.string (⟨#[]⟩ : ByteArray)) := (bc BK165.out 3).trans rfl
    have hfz17_0 := bf BK165.out 0
    have hfz17_1 := bf BK165.out 1
    have hfz17_2 := bf BK165.out 2
    have hfz17_3 := bf BK165.out 3
    go_wp2_with (first | (go_at_call 28; (with_reducible refine (kind_Known.calls t160 true _ A13.out).mono ?_); rintro e w18 ⟨rfl, hb⟩; have n0_ := Am (IsS58.below (by repeat (first | (with_reducible first | exact HI0.out | apply IsS58.alloc | apply IsS58.drewN | apply IsS58.drew | apply IsS58.set_0 | apply IsS58.set_1 | apply IsS58.set_2 | apply IsS58.set_3 | refine IsS58.far ?_ NB0_159.out _ | refine IsS58.far ?_ NB0_165.out _) | exact HI0.out)) hb); have n1_ := Am (blk_below (g := gb159) (o := .cells #[.int .i64 0, .int .i64 0, .slice none 0 0, .string (⟨#[]⟩ : ByteArray)] 24 (0, 0)) (by (with_reducible repeat (first | refine bn ?_ _ | refine bd ?_ | refine ba ?_ _)); exact BK159.out) hb); have n2_ := Am (blk_below (g := gb165) (o := .cells #[.int .i64 t160, .int .i64 0, .slice none 0 0, .string (⟨#[]⟩ : ByteArray)] 24 (0, 0)) (by (with_reducible repeat (first | refine bn ?_ _ | refine bd ?_ | refine ba ?_ _)); exact BK165.out) hb); have n3_ := Am (KeepBut.trans (by repeat (first | (with_reducible first | exact HK.out | apply KeepBut.set_ | apply keep_drewN | apply keep_drew | apply keep_alloc | refine keep_far ?_ GW159.out _ | refine keep_far ?_ GW165.out _) | exact HK.out)) (KeepBut.of_below hb g none) (.inl rfl)); have n4_ := Am (below_step (by repeat (first | (with_reducible first | exact HB.out | apply bl | apply pN | apply b1 | refine bs ?_ (IsS58.ge HI0.out) | refine bs ?_ GE159.out | refine bs ?_ GE165.out) | exact HB.out | exact HBo.out)) hb); clear HI0; clear BK159; clear BK165; clear HK; clear HB; have HI0 := n0_; have BK159 := n1_; have BK165 := n2_; have HK := n3_; have HB := n4_; clear n0_ n1_ n2_ n3_ n4_; (try clear hb); (try clear hb2); (try clear hk); (try clear hi)))
    go_meet
    case rel => exact ⟨_, (false), (by first | rfl | (simp; done) | (simp [*]; done)), H', ⟨by first | omega | exact Nat.le_refl _⟩, ⟨by (with_reducible repeat (first | refine bn ?_ _ | refine bd ?_ | refine ba ?_ _)); exact BK159.out⟩, ⟨by (with_reducible repeat (first | refine bn ?_ _ | refine bd ?_ | refine ba ?_ _)); exact BK165.out⟩, ⟨by repeat (first | (with_reducible first | exact HI0.out | apply IsS58.alloc | apply IsS58.drewN | apply IsS58.drew | apply IsS58.set_0 | apply IsS58.set_1 | apply IsS58.set_2 | apply IsS58.set_3 | refine IsS58.far ?_ NB0_159.out _ | refine IsS58.far ?_ NB0_165.out _) | exact HI0.out)⟩, ⟨by repeat (first | (with_reducible first | exact HK.out | apply KeepBut.set_ | apply keep_drewN | apply keep_drew | apply keep_alloc | refine keep_far ?_ GW159.out _ | refine keep_far ?_ GW165.out _) | exact HK.out)⟩, ⟨by repeat (first | (with_reducible first | exact HB.out | apply bl | apply pN | apply b1 | refine bs ?_ (IsS58.ge HI0.out) | refine bs ?_ GE159.out | refine bs ?_ GE165.out) | exact HB.out | exact HBo.out)⟩⟩
   ·
    replace c14 := Bool.eq_false_iff.mpr c14
    subst c14
    have H1 : ((kind_Exp.f t160).bind fun t173 => (event_read.j0 k (!t173) t168 t169 t170 t171 t160 0 (⟨#[]⟩ : ByteArray))) = some (r1, r2, r3, r4, r5, r6, r7, r8, r9) := by rw [if_neg (show ¬ (false = true) by decide)] at H; exact H
    clear H
    have H := H1
    clear H1
    replace H := ob H
    obtain ⟨t173, A190, H⟩ := H
    replace H : (event_read.j0 k (!t173) t168 t169 t170 t171 t160 0 (⟨#[]⟩ : ByteArray)) = some (r1, r2, r3, r4, r5, r6, r7, r8, r9) := H
    have A19 := Am A190
    clear A190
    have H' := Am H
    clear H
    have hnb20 := NB165_159.out
    have hnc20 := NB159_165.out
    have hnb21 := NB165_0.out
    have hnc21 := NB0_165.out
    have hcz22_0 : w11.cell? ⟨gb165, 0, none⟩ = some (.int .i64 t160) := (bc BK165.out 0).trans rfl
    have hcz22_1 : w11.cell? ⟨gb165, 1, none⟩ = some (.int .i64 0) := (bc BK165.out 1).trans rfl
    have hcz22_2 : w11.cell? ⟨gb165, 2, none⟩ = some (.slice none 0 0) := (bc BK165.out 2).trans rfl
    have hcz22_3 : w11.cell? ⟨gb165, 3, none⟩ = some (.string (⟨#[]⟩ : ByteArray)) := (bc BK165.out 3).trans rfl
    have hfz22_0 := bf BK165.out 0
    have hfz22_1 := bf BK165.out 1
    have hfz22_2 := bf BK165.out 2
    have hfz22_3 := bf BK165.out 3
    go_wp2_with (first | (go_at_call 28; (with_reducible refine (kind_Known.calls t160 false _ A13.out).mono ?_); rintro e w23 ⟨rfl, hb⟩; have n0_ := Am (IsS58.below (by repeat (first | (with_reducible first | exact HI0.out | apply IsS58.alloc | apply IsS58.drewN | apply IsS58.drew | apply IsS58.set_0 | apply IsS58.set_1 | apply IsS58.set_2 | apply IsS58.set_3 | refine IsS58.far ?_ NB0_159.out _ | refine IsS58.far ?_ NB0_165.out _) | exact HI0.out)) hb); have n1_ := Am (blk_below (g := gb159) (o := .cells #[.int .i64 0, .int .i64 0, .slice none 0 0, .string (⟨#[]⟩ : ByteArray)] 24 (0, 0)) (by (with_reducible repeat (first | refine bn ?_ _ | refine bd ?_ | refine ba ?_ _)); exact BK159.out) hb); have n2_ := Am (blk_below (g := gb165) (o := .cells #[.int .i64 t160, .int .i64 0, .slice none 0 0, .string (⟨#[]⟩ : ByteArray)] 24 (0, 0)) (by (with_reducible repeat (first | refine bn ?_ _ | refine bd ?_ | refine ba ?_ _)); exact BK165.out) hb); have n3_ := Am (KeepBut.trans (by repeat (first | (with_reducible first | exact HK.out | apply KeepBut.set_ | apply keep_drewN | apply keep_drew | apply keep_alloc | refine keep_far ?_ GW159.out _ | refine keep_far ?_ GW165.out _) | exact HK.out)) (KeepBut.of_below hb g none) (.inl rfl)); have n4_ := Am (below_step (by repeat (first | (with_reducible first | exact HB.out | apply bl | apply pN | apply b1 | refine bs ?_ (IsS58.ge HI0.out) | refine bs ?_ GE159.out | refine bs ?_ GE165.out) | exact HB.out | exact HBo.out)) hb); clear HI0; clear BK159; clear BK165; clear HK; clear HB; have HI0 := n0_; have BK159 := n1_; have BK165 := n2_; have HK := n3_; have HB := n4_; clear n0_ n1_ n2_ n3_ n4_; (try clear hb); (try clear hb2); (try clear hk); (try clear hi); have hcz24_0 : w23.cell? ⟨gb165, 0, none⟩ = some (.int .i64 t160) := (bc BK165.out 0).trans rfl; have hcz24_1 : w23.cell? ⟨gb165, 1, none⟩ = some (.int .i64 0) := (bc BK165.out 1).trans rfl; have hcz24_2 : w23.cell? ⟨gb165, 2, none⟩ = some (.slice none 0 0) := (bc BK165.out 2).trans rfl; have hcz24_3 : w23.cell? ⟨gb165, 3, none⟩ = some (.string (⟨#[]⟩ : ByteArray)) := (bc BK165.out 3).trans rfl; have hfz24_0 := bf BK165.out 0; have hfz24_1 := bf BK165.out 1; have hfz24_2 := bf BK165.out 2; have hfz24_3 := bf BK165.out 3) | (go_at_call 27; (with_reducible refine (kind_Exp.calls t160 t173 _ A19.out).mono ?_); rintro e w' ⟨rfl, ⟨nd, rfl⟩⟩))
    go_meet
    case rel => exact ⟨_, (!t173), (by first | rfl | (simp; done) | (simp [*]; done)), H', ⟨by first | omega | exact Nat.le_refl _⟩, ⟨by (with_reducible repeat (first | refine bn ?_ _ | refine bd ?_ | refine ba ?_ _)); exact BK159.out⟩, ⟨by (with_reducible repeat (first | refine bn ?_ _ | refine bd ?_ | refine ba ?_ _)); exact BK165.out⟩, ⟨by repeat (first | (with_reducible first | exact HI0.out | apply IsS58.alloc | apply IsS58.drewN | apply IsS58.drew | apply IsS58.set_0 | apply IsS58.set_1 | apply IsS58.set_2 | apply IsS58.set_3 | refine IsS58.far ?_ NB0_159.out _ | refine IsS58.far ?_ NB0_165.out _) | exact HI0.out)⟩, ⟨by repeat (first | (with_reducible first | exact HK.out | apply KeepBut.set_ | apply keep_drewN | apply keep_drew | apply keep_alloc | refine keep_far ?_ GW159.out _ | refine keep_far ?_ GW165.out _) | exact HK.out)⟩, ⟨by repeat (first | (with_reducible first | exact HB.out | apply bl | apply pN | apply b1 | refine bs ?_ (IsS58.ge HI0.out) | refine bs ?_ GE159.out | refine bs ?_ GE165.out) | exact HB.out | exact HBo.out)⟩⟩
  ·
   rw [if_neg c12] at H
   have c12b0 : (t166 == 0) = false := beq_eq_false_iff_ne.mpr c12
   have c12b1 : (t166 != 0) = true := bne_iff_ne.mpr c12
   (first | rw [c12b0] | (simp only [i64_w, i32_w]; rw [c12b0]) | skip)
   have H' := Am H
   clear H
   go_wp2
   go_meet
   case rel => exact ⟨_, (false), (by first | rfl | (simp; done) | (simp [*]; done)), H', ⟨by first | omega | exact Nat.le_refl _⟩, ⟨by (with_reducible repeat (first | refine bn ?_ _ | refine bd ?_ | refine ba ?_ _)); exact BK159.out⟩, ⟨by (with_reducible repeat (first | refine bn ?_ _ | refine bd ?_ | refine ba ?_ _)); exact BK165.out⟩, ⟨by repeat (first | (with_reducible first | exact HI0.out | apply IsS58.alloc | apply IsS58.drewN | apply IsS58.drew | apply IsS58.set_0 | apply IsS58.set_1 | apply IsS58.set_2 | apply IsS58.set_3 | refine IsS58.far ?_ NB0_159.out _ | refine IsS58.far ?_ NB0_165.out _) | exact HI0.out)⟩, ⟨by repeat (first | (with_reducible first | exact HK.out | apply KeepBut.set_ | apply keep_drewN | apply keep_drew | apply keep_alloc | refine keep_far ?_ GW159.out _ | refine keep_far ?_ GW165.out _) | exact HK.out)⟩, ⟨by repeat (first | (with_reducible first | exact HB.out | apply bl | apply pN | apply b1 | refine bs ?_ (IsS58.ge HI0.out) | refine bs ?_ GE159.out | refine bs ?_ GE165.out) | exact HB.out | exact HBo.out)⟩⟩
 case rest =>
  clear HC4
  try clear c1
  try clear c2
  try clear p2
  try clear c4
  try clear c8
  try clear c9
  try clear c12
  try clear c12b0
  try clear c12b1
  try clear c14
  try clear c15
  try clear c16
  try clear c19
  try clear c20
  try clear c21
  try clear hcz10_0
  try clear hcz10_1
  try clear hcz10_2
  try clear hcz10_3
  try clear hcz17_0
  try clear hcz17_1
  try clear hcz17_2
  try clear hcz17_3
  try clear hcz22_0
  try clear hcz22_1
  try clear hcz22_2
  try clear hcz22_3
  try clear hcz24_0
  try clear hcz24_1
  try clear hcz24_2
  try clear hcz24_3
  try clear hfz10_0
  try clear hfz10_1
  try clear hfz10_2
  try clear hfz10_3
  try clear hfz17_0
  try clear hfz17_1
  try clear hfz17_2
  try clear hfz17_3
  try clear hfz22_0
  try clear hfz22_1
  try clear hfz22_2
  try clear hfz22_3
  try clear hfz24_0
  try clear hfz24_1
  try clear hfz24_2
  try clear hfz24_3
  obtain ⟨kq, x28_3, rfl, HA, HJ3, BK159, BK165, HI0, HK, HB⟩ := hcut
  cases kq with
  | zero => exact absurd HA.out (by simp [event_read.j0])
  | succ kj3 =>
   have H := HA.out
   clear HA
   simp only [event_read.j0] at H
   by_cases c25 : x28_3 = true
   ·
    subst c25
    have H1 : (some (t160, 0, ([] : List Int), (⟨#[]⟩ : ByteArray), false, t168, t169, t170, t171)) = some (r1, r2, r3, r4, r5, r6, r7, r8, r9) := by rw [if_pos rfl] at H; exact H
    clear H
    have H := H1
    clear H1
    simp only [Option.some.injEq, Prod.mk.injEq] at H
    obtain ⟨rfl, rfl, rfl, rfl, rfl, rfl, rfl, rfl, rfl⟩ := H
    have hnb26 := NB165_159.out
    have hnc26 := NB159_165.out
    have hnb27 := NB165_0.out
    have hnc27 := NB0_165.out
    have hcz28_0 : wc.cell? ⟨gb165, 0, none⟩ = some (.int .i64 t160) := (bc BK165.out 0).trans rfl
    have hcz28_1 : wc.cell? ⟨gb165, 1, none⟩ = some (.int .i64 0) := (bc BK165.out 1).trans rfl
    have hcz28_2 : wc.cell? ⟨gb165, 2, none⟩ = some (.slice none 0 0) := (bc BK165.out 2).trans rfl
    have hcz28_3 : wc.cell? ⟨gb165, 3, none⟩ = some (.string (⟨#[]⟩ : ByteArray)) := (bc BK165.out 3).trans rfl
    have hfz28_0 := bf BK165.out 0
    have hfz28_1 := bf BK165.out 1
    have hfz28_2 := bf BK165.out 2
    have hfz28_3 := bf BK165.out 3
    have hnb29 := NB159_0.out
    have hnc29 := NB0_159.out
    have hcz30_0 : wc.cell? ⟨gb159, 0, none⟩ = some (.int .i64 0) := (bc BK159.out 0).trans rfl
    have hcz30_1 : wc.cell? ⟨gb159, 1, none⟩ = some (.int .i64 0) := (bc BK159.out 1).trans rfl
    have hcz30_2 : wc.cell? ⟨gb159, 2, none⟩ = some (.slice none 0 0) := (bc BK159.out 2).trans rfl
    have hcz30_3 : wc.cell? ⟨gb159, 3, none⟩ = some (.string (⟨#[]⟩ : ByteArray)) := (bc BK159.out 3).trans rfl
    have hfz30_0 := bf BK159.out 0
    have hfz30_1 := bf BK159.out 1
    have hfz30_2 := bf BK159.out 2
    have hfz30_3 := bf BK159.out 3
    go_wp2
    refine bodyPost_ret (results_ct rfl _ _ gb159 24 #[.int .i64 t160, .int .i64 0, .slice none 0 0, .string (⟨#[]⟩ : ByteArray)] (0, 0) _ rfl (by (with_reducible repeat (first | refine bn ?_ _ | refine bd ?_ | refine ba ?_ _)); refine blk_put (cs := #[.int .i64 t160, .int .i64 0, .slice none 0 0, .string (⟨#[]⟩ : ByteArray)]) ?_ 3 _ rfl; (with_reducible repeat (first | refine bn ?_ _ | refine bd ?_ | refine ba ?_ _)); refine blk_put (cs := #[.int .i64 t160, .int .i64 0, .slice none 0 0, .string (⟨#[]⟩ : ByteArray)]) ?_ 2 _ rfl; (with_reducible repeat (first | refine bn ?_ _ | refine bd ?_ | refine ba ?_ _)); refine blk_put (cs := #[.int .i64 t160, .int .i64 0, .slice none 0 0, .string (⟨#[]⟩ : ByteArray)]) ?_ 1 _ rfl; (with_reducible repeat (first | refine bn ?_ _ | refine bd ?_ | refine ba ?_ _)); refine blk_put (cs := #[.int .i64 0, .int .i64 0, .slice none 0 0, .string (⟨#[]⟩ : ByteArray)]) ?_ 0 _ rfl; (with_reducible repeat (first | refine bn ?_ _ | refine bd ?_ | refine ba ?_ _)); exact BK159.out) Try.underlying24 rfl (by kernel_rfl)) rfl ?_
    exact ⟨_, by first | rfl | (simp [errW_none, errW_some] <;> rfl) | (simp [*, errW_none, errW_some] <;> rfl) | (simp [Aid.ne_nil, Aid.eq_nil, errW_none, errW_some]; done), by first | exact Kd.R_nil _ _ _ _ _ | exact Kd.N_nil _ _ _ _ _ | exact Kd.V_nil _ _ _ _ _ | exact Kd.Q_nil _ _ _ _ _ | exact Kd.S_nil _ _ _ _ _, by repeat (first | (with_reducible first | exact HI0.out | apply IsS58.alloc | apply IsS58.drewN | apply IsS58.drew | apply IsS58.set_0 | apply IsS58.set_1 | apply IsS58.set_2 | apply IsS58.set_3 | refine IsS58.far ?_ NB0_159.out _ | refine IsS58.far ?_ NB0_165.out _) | exact HI0.out), by repeat (first | (with_reducible first | exact HB.out | apply bl | apply pN | apply b1 | refine bs ?_ (IsS58.ge HI0.out) | refine bs ?_ GE159.out | refine bs ?_ GE165.out) | exact HB.out | exact HBo.out), by repeat (first | (with_reducible first | exact HK.out | apply KeepBut.set_ | apply keep_drewN | apply keep_drew | apply keep_alloc | refine keep_far ?_ GW159.out _ | refine keep_far ?_ GW165.out _) | exact HK.out)⟩
   ·
    replace c25 := Bool.eq_false_iff.mpr c25
    subst c25
    have H1 : ((wire_Reader_Num.f kj3 t168 t169 t170 t171).bind fun bt174 => ((kind_Exp.f t160).bind fun t179 => (if t179 = true then ((wire_Reader_Text.f kj3 bt174.2.1 bt174.2.2.1 bt174.2.2.2.1 bt174.2.2.2.2).bind fun bt180 => (some (t160, bt174.1, ([] : List Int), bt180.1, true, bt180.2.1, bt180.2.2.1, bt180.2.2.2.1, bt180.2.2.2.2))) else ((kind_Args.f t160).bind fun t185 => (event_read.l0 kj3 (t185.length : Int) 0 bt174.2.1 bt174.2.2.1 bt174.2.2.2.1 bt174.2.2.2.2 t160 bt174.1 ([] : List Int) (⟨#[]⟩ : ByteArray)))))) = some (r1, r2, r3, r4, r5, r6, r7, r8, r9) := by rw [if_neg (show ¬ (false = true) by decide)] at H; exact H
    clear H
    have H := H1
    clear H1
    replace H := ob H
    obtain ⟨⟨t174, t175, t176, t177, t178⟩, A310, H⟩ := H
    replace H : ((kind_Exp.f t160).bind fun t179 => (if t179 = true then ((wire_Reader_Text.f kj3 t175 t176 t177 t178).bind fun bt180 => (some (t160, t174, ([] : List Int), bt180.1, true, bt180.2.1, bt180.2.2.1, bt180.2.2.2.1, bt180.2.2.2.2))) else ((kind_Args.f t160).bind fun t185 => (event_read.l0 kj3 (t185.length : Int) 0 t175 t176 t177 t178 t160 t174 ([] : List Int) (⟨#[]⟩ : ByteArray))))) = some (r1, r2, r3, r4, r5, r6, r7, r8, r9) := H
    have A31 := Am A310
    clear A310
    replace H := ob H
    obtain ⟨t179, A320, H⟩ := H
    replace H : (if t179 = true then ((wire_Reader_Text.f kj3 t175 t176 t177 t178).bind fun bt180 => (some (t160, t174, ([] : List Int), bt180.1, true, bt180.2.1, bt180.2.2.1, bt180.2.2.2.1, bt180.2.2.2.2))) else ((kind_Args.f t160).bind fun t185 => (event_read.l0 kj3 (t185.length : Int) 0 t175 t176 t177 t178 t160 t174 ([] : List Int) (⟨#[]⟩ : ByteArray)))) = some (r1, r2, r3, r4, r5, r6, r7, r8, r9) := H
    have A32 := Am A320
    clear A320
    by_cases c33 : t179 = true
    ·
     subst c33
     have H1 : ((wire_Reader_Text.f kj3 t175 t176 t177 t178).bind fun bt180 => (some (t160, t174, ([] : List Int), bt180.1, true, bt180.2.1, bt180.2.2.1, bt180.2.2.2.1, bt180.2.2.2.2))) = some (r1, r2, r3, r4, r5, r6, r7, r8, r9) := by rw [if_pos rfl] at H; exact H
     clear H
     have H := H1
     clear H1
     replace H := ob H
     obtain ⟨⟨t180, t181, t182, t183, t184⟩, A340, H⟩ := H
     replace H : (some (t160, t174, ([] : List Int), t180, true, t181, t182, t183, t184)) = some (r1, r2, r3, r4, r5, r6, r7, r8, r9) := H
     have A34 := Am A340
     clear A340
     simp only [Option.some.injEq, Prod.mk.injEq] at H
     obtain ⟨rfl, rfl, rfl, rfl, rfl, rfl, rfl, rfl, rfl⟩ := H
     go_wp2_with (first | ((with_reducible refine gate_callee (f := 41) rfl ?_); refine goesL_ (some 31) rfl rfl Try.func41 (by kernel_rfl) rfl #[.pointer (some ⟨g, 0, none⟩)] rfl (by (try simp only [List.map_toArray, List.map_cons, List.map_nil]); first | done | rfl | (simp only [List.length_drop, List.length_take]; rfl)) ?_; (with_reducible refine (wire_Reader_Num.calls kj3 g t168 t169 t170 t171 t174 t175 t176 t177 t178 w0 _ ?side1 ?side2 A31.out).mono ?_); (case side1 => repeat (first | (with_reducible first | exact HI0.out | apply IsS58.alloc | apply IsS58.drewN | apply IsS58.drew | apply IsS58.set_0 | apply IsS58.set_1 | apply IsS58.set_2 | apply IsS58.set_3 | refine IsS58.far ?_ NB0_159.out _ | refine IsS58.far ?_ NB0_165.out _) | exact HI0.out)); (case side2 => repeat (first | (with_reducible first | exact HB.out | apply bl | apply pN | apply b1 | refine bs ?_ (IsS58.ge HI0.out) | refine bs ?_ GE159.out | refine bs ?_ GE165.out) | exact HB.out | exact HBo.out)); rintro e w35 ⟨rfl, hi, hb, hk⟩; refine ⟨_, rfl, ?_⟩; have n0_ := Am (KeepBut.blk hk (g' := gb159) (o := .cells #[.int .i64 0, .int .i64 0, .slice none 0 0, .string (⟨#[]⟩ : ByteArray)] 24 (0, 0)) (by (with_reducible repeat (first | refine bn ?_ _ | refine bd ?_ | refine ba ?_ _)); exact BK159.out) NB159_0.out (by simp)); have n1_ := Am (KeepBut.blk hk (g' := gb165) (o := .cells #[.int .i64 t160, .int .i64 0, .slice none 0 0, .string (⟨#[]⟩ : ByteArray)] 24 (0, 0)) (by (with_reducible repeat (first | refine bn ?_ _ | refine bd ?_ | refine ba ?_ _)); exact BK165.out) NB165_0.out (by simp)); have n2_ := Am (KeepBut.trans (by repeat (first | (with_reducible first | exact HK.out | apply KeepBut.set_ | apply keep_drewN | apply keep_drew | apply keep_alloc | refine keep_far ?_ GW159.out _ | refine keep_far ?_ GW165.out _) | exact HK.out)) hk (.inl rfl)); have n3_ := Am (hb); have n4_ := Am (hi); clear BK159; clear BK165; clear HK; clear HB; clear HI0; have BK159 := n0_; have BK165 := n1_; have HK := n2_; have HB := n3_; have HI0 := n4_; clear n0_ n1_ n2_ n3_ n4_; (try clear hb); (try clear hb2); (try clear hk); (try clear hi); have hnb36 := NB165_159.out; have hnc36 := NB159_165.out; have hnb37 := NB165_0.out; have hnc37 := NB0_165.out; have hcz38_0 : w35.cell? ⟨gb165, 0, none⟩ = some (.int .i64 t160) := (bc BK165.out 0).trans rfl; have hcz38_1 : w35.cell? ⟨gb165, 1, none⟩ = some (.int .i64 0) := (bc BK165.out 1).trans rfl; have hcz38_2 : w35.cell? ⟨gb165, 2, none⟩ = some (.slice none 0 0) := (bc BK165.out 2).trans rfl; have hcz38_3 : w35.cell? ⟨gb165, 3, none⟩ = some (.string (⟨#[]⟩ : ByteArray)) := (bc BK165.out 3).trans rfl; have hfz38_0 := bf BK165.out 0; have hfz38_1 := bf BK165.out 1; have hfz38_2 := bf BK165.out 2; have hfz38_3 := bf BK165.out 3) | ((with_reducible refine gate_callee (f := 27) rfl ?_); refine goesL_ (some 35) rfl rfl Try.func27 (by kernel_rfl) rfl #[.int .i64 t160] rfl (by (try simp only [List.map_toArray, List.map_cons, List.map_nil]); first | done | rfl | (simp only [List.length_drop, List.length_take]; rfl)) ?_; (with_reducible refine (kind_Exp.calls t160 true _ A32.out).mono ?_); rintro e w' ⟨rfl, ⟨nd, rfl⟩⟩; refine ⟨_, rfl, ?_⟩) | ((with_reducible refine gate_callee (f := 42) rfl ?_); refine goesL_ (some 37) rfl rfl Try.func42 (by kernel_rfl) rfl #[.pointer (some ⟨g, 0, none⟩)] rfl (by (try simp only [List.map_toArray, List.map_cons, List.map_nil]); first | done | rfl | (simp only [List.length_drop, List.length_take]; rfl)) ?_; (with_reducible refine (wire_Reader_Text.calls kj3 g t175 t176 t177 t178 t180 t181 t182 t183 t184 w0 _ ?side1 ?side2 A34.out).mono ?_); (case side1 => repeat (first | (with_reducible first | exact HI0.out | apply IsS58.alloc | apply IsS58.drewN | apply IsS58.drew | apply IsS58.set_0 | apply IsS58.set_1 | apply IsS58.set_2 | apply IsS58.set_3 | refine IsS58.far ?_ NB0_159.out _ | refine IsS58.far ?_ NB0_165.out _) | exact HI0.out)); (case side2 => repeat (first | (with_reducible first | exact HB.out | apply bl | apply pN | apply b1 | refine bs ?_ (IsS58.ge HI0.out) | refine bs ?_ GE159.out | refine bs ?_ GE165.out) | exact HB.out | exact HBo.out)); rintro e w39 ⟨rfl, hi, hb, hk⟩; refine ⟨_, rfl, ?_⟩; have n0_ := Am (KeepBut.blk hk (g' := gb159) (o := .cells #[.int .i64 0, .int .i64 0, .slice none 0 0, .string (⟨#[]⟩ : ByteArray)] 24 (0, 0)) (by (with_reducible repeat (first | refine bn ?_ _ | refine bd ?_ | refine ba ?_ _)); refine blk_far ?_ NB159_165.out _; (with_reducible repeat (first | refine bn ?_ _ | refine bd ?_ | refine ba ?_ _)); exact BK159.out) NB159_0.out (by simp)); have n1_ := Am (KeepBut.blk hk (g' := gb165) (o := .cells #[.int .i64 t160, .int .i64 t174, .slice none 0 0, .string (⟨#[]⟩ : ByteArray)] 24 (0, 0)) (by (with_reducible repeat (first | refine bn ?_ _ | refine bd ?_ | refine ba ?_ _)); refine blk_put (cs := #[.int .i64 t160, .int .i64 0, .slice none 0 0, .string (⟨#[]⟩ : ByteArray)]) ?_ 1 _ rfl; (with_reducible repeat (first | refine bn ?_ _ | refine bd ?_ | refine ba ?_ _)); exact BK165.out) NB165_0.out (by simp)); have n2_ := Am (KeepBut.trans (by repeat (first | (with_reducible first | exact HK.out | apply KeepBut.set_ | apply keep_drewN | apply keep_drew | apply keep_alloc | refine keep_far ?_ GW159.out _ | refine keep_far ?_ GW165.out _) | exact HK.out)) hk (.inl rfl)); have n3_ := Am (hb); have n4_ := Am (hi); clear BK159; clear BK165; clear HK; clear HB; clear HI0; have BK159 := n0_; have BK165 := n1_; have HK := n2_; have HB := n3_; have HI0 := n4_; clear n0_ n1_ n2_ n3_ n4_; (try clear hb); (try clear hb2); (try clear hk); (try clear hi); have hcz40_0 : w39.cell? ⟨gb165, 0, none⟩ = some (.int .i64 t160) := (bc BK165.out 0).trans rfl; have hcz40_1 : w39.cell? ⟨gb165, 1, none⟩ = some (.int .i64 t174) := (bc BK165.out 1).trans rfl; have hcz40_2 : w39.cell? ⟨gb165, 2, none⟩ = some (.slice none 0 0) := (bc BK165.out 2).trans rfl; have hcz40_3 : w39.cell? ⟨gb165, 3, none⟩ = some (.string (⟨#[]⟩ : ByteArray)) := (bc BK165.out 3).trans rfl; have hfz40_0 := bf BK165.out 0; have hfz40_1 := bf BK165.out 1; have hfz40_2 := bf BK165.out 2; have hfz40_3 := bf BK165.out 3; have hnb41 := NB159_0.out; have hnc41 := NB0_159.out; have hcz42_0 : w39.cell? ⟨gb159, 0, none⟩ = some (.int .i64 0) := (bc BK159.out 0).trans rfl; have hcz42_1 : w39.cell? ⟨gb159, 1, none⟩ = some (.int .i64 0) := (bc BK159.out 1).trans rfl; have hcz42_2 : w39.cell? ⟨gb159, 2, none⟩ = some (.slice none 0 0) := (bc BK159.out 2).trans rfl; have hcz42_3 : w39.cell? ⟨gb159, 3, none⟩ = some (.string (⟨#[]⟩ : ByteArray)) := (bc BK159.out 3).trans rfl; have hfz42_0 := bf BK159.out 0; have hfz42_1 := bf BK159.out 1; have hfz42_2 := bf BK159.out 2; have hfz42_3 := bf BK159.out 3))
     refine bodyPost_ret (results_ct rfl _ _ gb159 24 #[.int .i64 t160, .int .i64 t174, .slice none 0 0, .string t180] (0, 0) _ rfl (by (with_reducible repeat (first | refine bn ?_ _ | refine bd ?_ | refine ba ?_ _)); refine blk_put (cs := #[.int .i64 t160, .int .i64 t174, .slice none 0 0, .string (⟨#[]⟩ : ByteArray)]) ?_ 3 _ rfl; (with_reducible repeat (first | refine bn ?_ _ | refine bd ?_ | refine ba ?_ _)); refine blk_put (cs := #[.int .i64 t160, .int .i64 t174, .slice none 0 0, .string (⟨#[]⟩ : ByteArray)]) ?_ 2 _ rfl; (with_reducible repeat (first | refine bn ?_ _ | refine bd ?_ | refine ba ?_ _)); refine blk_put (cs := #[.int .i64 t160, .int .i64 0, .slice none 0 0, .string (⟨#[]⟩ : ByteArray)]) ?_ 1 _ rfl; (with_reducible repeat (first | refine bn ?_ _ | refine bd ?_ | refine ba ?_ _)); refine blk_put (cs := #[.int .i64 0, .int .i64 0, .slice none 0 0, .string (⟨#[]⟩ : ByteArray)]) ?_ 0 _ rfl; (with_reducible repeat (first | refine bn ?_ _ | refine bd ?_ | refine ba ?_ _)); refine blk_far ?_ NB159_165.out _; (with_reducible repeat (first | refine bn ?_ _ | refine bd ?_ | refine ba ?_ _)); exact BK159.out) Try.underlying24 rfl (by kernel_rfl)) rfl ?_
     exact ⟨_, by first | rfl | (simp [errW_none, errW_some] <;> rfl) | (simp [*, errW_none, errW_some] <;> rfl) | (simp [Aid.ne_nil, Aid.eq_nil, errW_none, errW_some]; done), by first | exact Kd.R_nil _ _ _ _ _ | exact Kd.N_nil _ _ _ _ _ | exact Kd.V_nil _ _ _ _ _ | exact Kd.Q_nil _ _ _ _ _ | exact Kd.S_nil _ _ _ _ _, by repeat (first | (with_reducible first | exact HI0.out | apply IsS58.alloc | apply IsS58.drewN | apply IsS58.drew | apply IsS58.set_0 | apply IsS58.set_1 | apply IsS58.set_2 | apply IsS58.set_3 | refine IsS58.far ?_ NB0_159.out _ | refine IsS58.far ?_ NB0_165.out _) | exact HI0.out), by repeat (first | (with_reducible first | exact HB.out | apply bl | apply pN | apply b1 | refine bs ?_ (IsS58.ge HI0.out) | refine bs ?_ GE159.out | refine bs ?_ GE165.out) | exact HB.out | exact HBo.out), by repeat (first | (with_reducible first | exact HK.out | apply KeepBut.set_ | apply keep_drewN | apply keep_drew | apply keep_alloc | refine keep_far ?_ GW159.out _ | refine keep_far ?_ GW165.out _) | exact HK.out)⟩
    ·
     replace c33 := Bool.eq_false_iff.mpr c33
     subst c33
     have H1 : ((kind_Args.f t160).bind fun t185 => (event_read.l0 kj3 (t185.length : Int) 0 t175 t176 t177 t178 t160 t174 ([] : List Int) (⟨#[]⟩ : ByteArray))) = some (r1, r2, r3, r4, r5, r6, r7, r8, r9) := by rw [if_neg (show ¬ (false = true) by decide)] at H; exact H
     clear H
     have H := H1
     clear H1
     replace H := ob H
     obtain ⟨t185, A430, H⟩ := H
     replace H : (event_read.l0 kj3 (t185.length : Int) 0 t175 t176 t177 t178 t160 t174 ([] : List Int) (⟨#[]⟩ : ByteArray)) = some (r1, r2, r3, r4, r5, r6, r7, r8, r9) := H
     have A43 := Am A430
     clear A430
     have H' := Am H
     clear H
     go_wp2_with (first | ((with_reducible refine gate_callee (f := 41) rfl ?_); refine goesL_ (some 31) rfl rfl Try.func41 (by kernel_rfl) rfl #[.pointer (some ⟨g, 0, none⟩)] rfl (by (try simp only [List.map_toArray, List.map_cons, List.map_nil]); first | done | rfl | (simp only [List.length_drop, List.length_take]; rfl)) ?_; (with_reducible refine (wire_Reader_Num.calls kj3 g t168 t169 t170 t171 t174 t175 t176 t177 t178 w0 _ ?side1 ?side2 A31.out).mono ?_); (case side1 => repeat (first | (with_reducible first | exact HI0.out | apply IsS58.alloc | apply IsS58.drewN | apply IsS58.drew | apply IsS58.set_0 | apply IsS58.set_1 | apply IsS58.set_2 | apply IsS58.set_3 | refine IsS58.far ?_ NB0_159.out _ | refine IsS58.far ?_ NB0_165.out _) | exact HI0.out)); (case side2 => repeat (first | (with_reducible first | exact HB.out | apply bl | apply pN | apply b1 | refine bs ?_ (IsS58.ge HI0.out) | refine bs ?_ GE159.out | refine bs ?_ GE165.out) | exact HB.out | exact HBo.out)); rintro e w44 ⟨rfl, hi, hb, hk⟩; refine ⟨_, rfl, ?_⟩; have n0_ := Am (KeepBut.blk hk (g' := gb159) (o := .cells #[.int .i64 0, .int .i64 0, .slice none 0 0, .string (⟨#[]⟩ : ByteArray)] 24 (0, 0)) (by (with_reducible repeat (first | refine bn ?_ _ | refine bd ?_ | refine ba ?_ _)); exact BK159.out) NB159_0.out (by simp)); have n1_ := Am (KeepBut.blk hk (g' := gb165) (o := .cells #[.int .i64 t160, .int .i64 0, .slice none 0 0, .string (⟨#[]⟩ : ByteArray)] 24 (0, 0)) (by (with_reducible repeat (first | refine bn ?_ _ | refine bd ?_ | refine ba ?_ _)); exact BK165.out) NB165_0.out (by simp)); have n2_ := Am (KeepBut.trans (by repeat (first | (with_reducible first | exact HK.out | apply KeepBut.set_ | apply keep_drewN | apply keep_drew | apply keep_alloc | refine keep_far ?_ GW159.out _ | refine keep_far ?_ GW165.out _) | exact HK.out)) hk (.inl rfl)); have n3_ := Am (hb); have n4_ := Am (hi); clear BK159; clear BK165; clear HK; clear HB; clear HI0; have BK159 := n0_; have BK165 := n1_; have HK := n2_; have HB := n3_; have HI0 := n4_; clear n0_ n1_ n2_ n3_ n4_; (try clear hb); (try clear hb2); (try clear hk); (try clear hi); have hnb45 := NB165_159.out; have hnc45 := NB159_165.out; have hnb46 := NB165_0.out; have hnc46 := NB0_165.out; have hcz47_0 : w44.cell? ⟨gb165, 0, none⟩ = some (.int .i64 t160) := (bc BK165.out 0).trans rfl; have hcz47_1 : w44.cell? ⟨gb165, 1, none⟩ = some (.int .i64 0) := (bc BK165.out 1).trans rfl; have hcz47_2 : w44.cell? ⟨gb165, 2, none⟩ = some (.slice none 0 0) := (bc BK165.out 2).trans rfl; have hcz47_3 : w44.cell? ⟨gb165, 3, none⟩ = some (.string (⟨#[]⟩ : ByteArray)) := (bc BK165.out 3).trans rfl; have hfz47_0 := bf BK165.out 0; have hfz47_1 := bf BK165.out 1; have hfz47_2 := bf BK165.out 2; have hfz47_3 := bf BK165.out 3) | ((with_reducible refine gate_callee (f := 27) rfl ?_); refine goesL_ (some 35) rfl rfl Try.func27 (by kernel_rfl) rfl #[.int .i64 t160] rfl (by (try simp only [List.map_toArray, List.map_cons, List.map_nil]); first | done | rfl | (simp only [List.length_drop, List.length_take]; rfl)) ?_; (with_reducible refine (kind_Exp.calls t160 false _ A32.out).mono ?_); rintro e w' ⟨rfl, ⟨nd, rfl⟩⟩; refine ⟨_, rfl, ?_⟩) | ((with_reducible refine gate_callee (f := 29) rfl ?_); refine goesL_ (some 42) rfl rfl Try.func29 (by kernel_rfl) rfl #[.int .i64 t160] rfl (by (try simp only [List.map_toArray, List.map_cons, List.map_nil]); first | done | rfl | (simp only [List.length_drop, List.length_take]; rfl)) ?_; (with_reducible refine (kind_Args.calls t160 t185 _ A43.out).mono ?_); rintro e w48 ⟨v186, rfl, ho0, hb⟩; refine ⟨_, rfl, ?_⟩; have n0_ := Am (Kd.R_lower ho0 (keep_size (w := w) (g := g) (row := none) (by repeat (first | (with_reducible first | exact HK.out | apply KeepBut.set_ | apply keep_drewN | apply keep_drew | apply keep_alloc | refine keep_far ?_ GW159.out _ | refine keep_far ?_ GW165.out _) | exact HK.out)))); have n1_ := Am (blk_below (g := gb159) (o := .cells #[.int .i64 0, .int .i64 0, .slice none 0 0, .string (⟨#[]⟩ : ByteArray)] 24 (0, 0)) (by (with_reducible repeat (first | refine bn ?_ _ | refine bd ?_ | refine ba ?_ _)); refine blk_far ?_ NB159_165.out _; (with_reducible repeat (first | refine bn ?_ _ | refine bd ?_ | refine ba ?_ _)); exact BK159.out) hb); have n2_ := Am (blk_below (g := gb165) (o := .cells #[.int .i64 t160, .int .i64 t174, .slice none 0 0, .string (⟨#[]⟩ : ByteArray)] 24 (0, 0)) (by (with_reducible repeat (first | refine bn ?_ _ | refine bd ?_ | refine ba ?_ _)); refine blk_put (cs := #[.int .i64 t160, .int .i64 0, .slice none 0 0, .string (⟨#[]⟩ : ByteArray)]) ?_ 1 _ rfl; (with_reducible repeat (first | refine bn ?_ _ | refine bd ?_ | refine ba ?_ _)); exact BK165.out) hb); have n3_ := Am (IsS58.below (show IsS58 w0 _ g t175 t176 t177 t178 from by repeat (first | (with_reducible first | exact HI0.out | apply IsS58.alloc | apply IsS58.drewN | apply IsS58.drew | apply IsS58.set_0 | apply IsS58.set_1 | apply IsS58.set_2 | apply IsS58.set_3 | refine IsS58.far ?_ NB0_159.out _ | refine IsS58.far ?_ NB0_165.out _) | exact HI0.out)) hb); have n4_ := Am (KeepBut.trans (by repeat (first | (with_reducible first | exact HK.out | apply KeepBut.set_ | apply keep_drewN | apply keep_drew | apply keep_alloc | refine keep_far ?_ GW159.out _ | refine keep_far ?_ GW165.out _) | exact HK.out)) (KeepBut.of_below hb g none) (.inl rfl)); have n5_ := Am (below_step (by repeat (first | (with_reducible first | exact HB.out | apply bl | apply pN | apply b1 | refine bs ?_ (IsS58.ge HI0.out) | refine bs ?_ GE159.out | refine bs ?_ GE165.out) | exact HB.out | exact HBo.out)) hb); clear BK159; clear BK165; clear HI0; clear HK; clear HB; have HO187 := n0_; have BK159 := n1_; have BK165 := n2_; have HI0 := n3_; have HK := n4_; have HB := n5_; clear n0_ n1_ n2_ n3_ n4_ n5_; (try clear hb); (try clear hb2); (try clear hk); (try clear hi); (try clear ho0); obtain ⟨Ao49, co49, eo49⟩ := Kd.R_slice HO187.out; subst eo49))
     go_loopg [44] kj3 (fun kq v44 w' => ∃ (x44_2 : Int) (x1000_2 : ByteArray) (x1001_2 : Int) (x1002_2 : Int) (x1003_2 : Int) (x166002_2 : List Int) (u166002 : Value), v44 = .int .i64 x44_2 ∧ Aside0 (event_read.l0 kq (t185.length : Int) x44_2 x1000_2 x1001_2 x1002_2 x1003_2 t160 t174 x166002_2 (⟨#[]⟩ : ByteArray) = some (r1, r2, r3, r4, r5, r6, r7, r8, r9)) ∧ Aside0 (kq ≤ kj3) ∧ Aside0 (Kd.R (Kd.int .i64) 3 w' w.heap.size (fun _ => True) u166002 x166002_2) ∧ Aside0 (w'.heap[gb159]? = some (.cells #[.int .i64 0, .int .i64 0, (.slice none 0 0), .string (⟨#[]⟩ : ByteArray)] 24 (0, 0))) ∧ Aside0 (w'.heap[gb165]? = some (.cells #[.int .i64 t160, .int .i64 t174, u166002, .string (⟨#[]⟩ : ByteArray)] 24 (0, 0))) ∧ Aside0 (IsS58 w0 w' g x1000_2 x1001_2 x1002_2 x1003_2) ∧ Aside0 (KeepBut w w' g none) ∧ Aside0 (Below w0.heap.size w0 w'))
     case atStart => exact ⟨(0), (t175), (t176), (t177), (t178), (([] : List Int)), (.slice none 0 0), (by first | rfl | (simp; done) | (simp [*]; done)), H', ⟨Nat.le_refl _⟩, ⟨by first | exact Kd.R_nil _ _ _ _ _ | exact Kd.N_nil _ _ _ _ _ | exact Kd.V_nil _ _ _ _ _ | exact Kd.Q_nil _ _ _ _ _ | exact Kd.S_nil _ _ _ _ _⟩, ⟨by (with_reducible repeat (first | refine bn ?_ _ | refine bd ?_ | refine ba ?_ _)); exact BK159.out⟩, ⟨by (with_reducible repeat (first | refine bn ?_ _ | refine bd ?_ | refine ba ?_ _)); exact BK165.out⟩, ⟨by repeat (first | (with_reducible first | exact HI0.out | apply IsS58.alloc | apply IsS58.drewN | apply IsS58.drew | apply IsS58.set_0 | apply IsS58.set_1 | apply IsS58.set_2 | apply IsS58.set_3 | refine IsS58.far ?_ NB0_159.out _ | refine IsS58.far ?_ NB0_165.out _) | exact HI0.out)⟩, ⟨by repeat (first | (with_reducible first | exact HK.out | apply KeepBut.set_ | apply keep_drewN | apply keep_drew | apply keep_alloc | refine keep_far ?_ GW159.out _ | refine keep_far ?_ GW165.out _) | exact HK.out)⟩, ⟨by repeat (first | (with_reducible first | exact HB.out | apply bl | apply pN | apply b1 | refine bs ?_ (IsS58.ge HI0.out) | refine bs ?_ GE159.out | refine bs ?_ GE165.out) | exact HB.out | exact HBo.out)⟩⟩
     case round =>
      clear H'
      try clear c1
      try clear c2
      try clear p2
      try clear c3
      try clear c4
      try clear c8
      try clear c9
      try clear c12
      try clear c12b0
      try clear c12b1
      try clear c14
      try clear c15
      try clear c16
      try clear c19
      try clear c20
      try clear c21
      try clear c25
      try clear c26
      try clear c27
      try clear c29
      try clear c33
      try clear c36
      try clear c37
      try clear c40
      try clear c41
      try clear c42
      try clear c45
      try clear c46
      try clear hcz10_0
      try clear hcz10_1
      try clear hcz10_2
      try clear hcz10_3
      try clear hcz17_0
      try clear hcz17_1
      try clear hcz17_2
      try clear hcz17_3
      try clear hcz22_0
      try clear hcz22_1
      try clear hcz22_2
      try clear hcz22_3
      try clear hcz24_0
      try clear hcz24_1
      try clear hcz24_2
      try clear hcz24_3
      try clear hcz28_0
      try clear hcz28_1
      try clear hcz28_2
      try clear hcz28_3
      try clear hcz30_0
      try clear hcz30_1
      try clear hcz30_2
      try clear hcz30_3
      try clear hcz38_0
      try clear hcz38_1
      try clear hcz38_2
      try clear hcz38_3
      try clear hcz40_0
      try clear hcz40_1
      try clear hcz40_2
      try clear hcz40_3
      try clear hcz42_0
      try clear hcz42_1
      try clear hcz42_2
      try clear hcz42_3
      try clear hcz47_0
      try clear hcz47_1
      try clear hcz47_2
      try clear hcz47_3
      try clear hfz10_0
      try clear hfz10_1
      try clear hfz10_2
      try clear hfz10_3
      try clear hfz17_0
      try clear hfz17_1
      try clear hfz17_2
      try clear hfz17_3
      try clear hfz22_0
      try clear hfz22_1
      try clear hfz22_2
      try clear hfz22_3
      try clear hfz24_0
      try clear hfz24_1
      try clear hfz24_2
      try clear hfz24_3
      try clear hfz28_0
      try clear hfz28_1
      try clear hfz28_2
      try clear hfz28_3
      try clear hfz30_0
      try clear hfz30_1
      try clear hfz30_2
      try clear hfz30_3
      try clear hfz38_0
      try clear hfz38_1
      try clear hfz38_2
      try clear hfz38_3
      try clear hfz40_0
      try clear hfz40_1
      try clear hfz40_2
      try clear hfz40_3
      try clear hfz42_0
      try clear hfz42_1
      try clear hfz42_2
      try clear hfz42_3
      try clear hfz47_0
      try clear hfz47_1
      try clear hfz47_2
      try clear hfz47_3
      try clear p2
      obtain ⟨x44_2, x1000_2, x1001_2, x1002_2, x1003_2, x166002_2, u166002, rfl, HA, HK2, HO_166002, BK159, BK165, HI0, HK, HB⟩ := hrel
      cases gk with
      | zero => exact absurd HA.out (by simp [event_read.l0])
      | succ k2 =>
       have H := HA.out
       clear HA
       simp only [event_read.l0] at H
       by_cases c50 : x44_2 < (t185.length : Int)
       ·
        rw [if_pos c50] at H
        have c50b0 : decide (x44_2 < (t185.length : Int)) = true := decide_eq_true c50
        clear c50
        replace H := ob H
        obtain ⟨⟨t188, t189, t190, t191, t192⟩, A510, H⟩ := H
        replace H : (if x166002_2.length < 17592186044416 then (event_read.l0 k2 (t185.length : Int) (wrap64 (x44_2 + 1)) t189 t190 t191 t192 t160 t174 (x166002_2 ++ [t188]) (⟨#[]⟩ : ByteArray)) else (none)) = some (r1, r2, r3, r4, r5, r6, r7, r8, r9) := H
        have A51 := Am A510
        clear A510
        by_cases c52 : x166002_2.length < 17592186044416
        ·
         rw [if_pos c52] at H
         have LMc52 := Am c52
         clear c52
         obtain ⟨y193, hy193⟩ : ∃ y_ : List Int, y_ = (x166002_2 ++ [t188]) := ⟨_, rfl⟩
         replace H : (event_read.l0 k2 (t185.length : Int) (wrap64 (x44_2 + 1)) t189 t190 t191 t192 t160 t174 y193 (⟨#[]⟩ : ByteArray)) = some (r1, r2, r3, r4, r5, r6, r7, r8, r9) := by first | (rw [hy193]; with_reducible exact H) | (have H2_ := (Option.bind_some _ _).symm.trans H; rw [hy193]; with_reducible exact H2_) | (have H2_ := (Option.bind_some _ _).symm.trans H; with_reducible exact H2_) | with_reducible exact H | (rw [hy193]; exact H) | exact H
         have Ny193 := Am hy193
         clear hy193
         have H' := Am H
         clear H
         try go_wp2
         have n0_ := Am (Kd.R_drew HO_166002.out)
         have n1_ := Am (bd BK159.out)
         have n2_ := Am (bd BK165.out)
         have n3_ := Am (IsS58.drew HI0.out)
         have n4_ := Am (keep_drew HK.out)
         have n5_ := Am (b1 HB.out)
         clear HO_166002
         clear BK159
         clear BK165
         clear HI0
         clear HK
         clear HB
         have HO_166002 := n0_
         have BK159 := n1_
         have BK165 := n2_
         have HI0 := n3_
         have HK := n4_
         have HB := n5_
         clear n0_ n1_ n2_ n3_ n4_ n5_
         refine start_ (n := 8) (S := fun w' => w'.cell? ⟨gb165, 0, none⟩ = some (.int .i64 t160) ∧ w'.cell? ⟨gb165, 1, none⟩ = some (.int .i64 t174) ∧ w'.cell? ⟨gb165, 2, none⟩ = some (u166002) ∧ w'.cell? ⟨gb165, 3, none⟩ = some (.string (⟨#[]⟩ : ByteArray))) (ds := [7]) q3_0 (by kernel_rfl) rfl rfl ⟨(bc BK165.out 0).trans rfl, (bc BK165.out 1).trans rfl, (bc BK165.out 2).trans rfl, (bc BK165.out 3).trans rfl⟩ (fun hHeld => ?_); refine with_tabW event_read.tab11 event_read.bits11 (fun HT_ HW_ => ?_)
         generalize wr.drew = w53 at HO_166002 BK159 BK165 HI0 HK HB hHeld ⊢
         refine Own.pr_ 0 (some 46) q3_1 HT_ (h := ?_)
         refine Own.pr_ 2 (some 48) q3_2 HT_ (h := ?_)
         refine Own.tk_ 1 (some 47) q3_3 HT_ HW_ hHeld (hy := by rintro w' ⟨s0, s1, s2, s3⟩; go_simp; with_reducible rfl) (h := ?_)
         refine one_ (i := 3) (N := some 49) q3_4 rfl rfl (one_of HT_.out (by kernel_rfl)) (by decide) (fun K hK => ?_)
         refine goes_ Try.func41 (by kernel_rfl) rfl #[.pointer (some ⟨g, 0, none⟩)] (by rfl) rfl rfl (by (try simp only [List.map_toArray, List.map_cons, List.map_nil]); first | done | rfl | (simp only [List.length_drop, List.length_take]; rfl)) ?_
         with_reducible refine (wire_Reader_Num.calls k2 g x1000_2 x1001_2 x1002_2 x1003_2 t188 t189 t190 t191 t192 w0 _ ?side1 ?side2 A51.out).mono ?_
         (case side1 => repeat (first | (with_reducible first | exact HI0.out | apply IsS58.alloc | apply IsS58.drewN | apply IsS58.drew | apply IsS58.set_0 | apply IsS58.set_1 | apply IsS58.set_2 | apply IsS58.set_3 | refine IsS58.far ?_ NB0_159.out _ | refine IsS58.far ?_ NB0_165.out _) | exact HI0.out))
         (case side2 => repeat (first | (with_reducible first | exact HB.out | apply bl | apply pN | apply b1 | refine bs ?_ (IsS58.ge HI0.out) | refine bs ?_ GE159.out | refine bs ?_ GE165.out) | exact HB.out | exact HBo.out))
         rintro e w54 ⟨rfl, hi, hb, hk⟩
         refine ⟨_, rfl, ?_⟩
         have n0_ := Am (Kd.R_mono (Kd.R_keep (IsS58.apart (show IsS58 w0 _ g x1000_2 x1001_2 x1002_2 x1003_2 from by repeat (first | (with_reducible first | exact HI0.out | apply IsS58.alloc | apply IsS58.drewN | apply IsS58.drew | apply IsS58.set_0 | apply IsS58.set_1 | apply IsS58.set_2 | apply IsS58.set_3 | refine IsS58.far ?_ NB0_159.out _ | refine IsS58.far ?_ NB0_165.out _) | exact HI0.out)) (by (with_reducible repeat (first | apply Kd.R_alloc | apply Kd.R_drewN | apply Kd.R_drew)); exact HO_166002.out) (by decide)) hk (fun _ h => h.2)) (fun _ h => h.1))
         have n1_ := Am (KeepBut.blk hk (g' := gb159) (o := .cells #[.int .i64 0, .int .i64 0, .slice none 0 0, .string (⟨#[]⟩ : ByteArray)] 24 (0, 0)) (by (with_reducible repeat (first | refine bn ?_ _ | refine bd ?_ | refine ba ?_ _)); exact BK159.out) NB159_0.out (by simp))
         have n2_ := Am (KeepBut.blk hk (g' := gb165) (o := .cells #[.int .i64 t160, .int .i64 t174, u166002, .string (⟨#[]⟩ : ByteArray)] 24 (0, 0)) (by (with_reducible repeat (first | refine bn ?_ _ | refine bd ?_ | refine ba ?_ _)); exact BK165.out) NB165_0.out (by simp))
         have n3_ := Am (KeepBut.trans (by repeat (first | (with_reducible first | exact HK.out | apply KeepBut.set_ | apply keep_drewN | apply keep_drew | apply keep_alloc | refine keep_far ?_ GW159.out _ | refine keep_far ?_ GW165.out _) | exact HK.out)) hk (.inl rfl))
         have n4_ := Am (hb)
         have n5_ := Am (hi)
         clear HO_166002
         clear BK159
         clear BK165
         clear HK
         clear HB
         clear HI0
         have HO_166002 := n0_
         have BK159 := n1_
         have BK165 := n2_
         have HK := n3_
         have HB := n4_
         have HI0 := n5_
         clear n0_ n1_ n2_ n3_ n4_ n5_
         (try clear hb)
         (try clear hb2)
         (try clear hk)
         (try clear hi)
         refine hK.out _ _ ⟨(bc BK165.out 0).trans rfl, (bc BK165.out 1).trans rfl, (bc BK165.out 2).trans rfl, (bc BK165.out 3).trans rfl⟩ (fun hHeld => ?_)
         clear hK K
         refine norm_ (a' := ?_) ?_ ?_
         rotate_left
         ·
          show Act.put _ (some 49) _ = _
          simp only [Act.put, sI, sZ, sS, i64_w, i32_w]
          rfl
         refine one_ (i := 4) (N := some 50) q3_5 rfl rfl (one_of HT_.out (by kernel_rfl)) (by decide) (fun K hK => ?_)
         refine value_ (w1 := ?_) (v := ?_) (by rfl) rfl ?_ ?_
         rotate_left 2
         ·
          go_simp
          constructor
          ·
           rfl
          ·
           rfl
         refine hK.out _ _ ⟨(bc (ba BK165.out _) 0).trans rfl, (bc (ba BK165.out _) 1).trans rfl, (bc (ba BK165.out _) 2).trans rfl, (bc (ba BK165.out _) 3).trans rfl⟩ (fun hHeld => ?_)
         clear hK K
         refine norm_ (a' := ?_) ?_ ?_
         rotate_left
         ·
          show Act.put _ (some 50) _ = _
          simp only [Act.put, sI, sZ, sS, i64_w, i32_w]
          rfl
         refine one_ (i := 5) (N := some 51) q3_6 rfl rfl (one_of HT_.out (by kernel_rfl)) (by decide) (fun K hK => ?_)
         refine Kd.R_append_step (Kd.int .i64) w.heap.size (by rfl) (.tmp 47) (.tmp 50) 22 3 (.int .i64 0) 8 rfl Try.underlying22 info3 rfl (by decide) (by omega) u166002 x166002_2 t188 [.int .i64 t188] (fun _ => True) (fun _ => False) rfl rfl ?aP (fun _ hk => hk.elim) ?aF ?aO (Below.refl _ _) ?aS ?aL ?_
         (case aP => exact rfl)
         (case aF => exact (fun _ _ => trivial))
         (case aO => exact (by (with_reducible repeat (first | apply Kd.R_alloc | apply Kd.R_drewN | apply Kd.R_drew)); exact HO_166002.out))
         (case aS => exact (keep_size (w := w) (g := g) (row := none) (by repeat (first | (with_reducible first | exact HK.out | apply KeepBut.set_ | apply keep_drewN | apply keep_drew | apply keep_alloc | refine keep_far ?_ GW159.out _ | refine keep_far ?_ GW165.out _) | exact HK.out))))
         (case aL => have := LMc52.out; omega)
         intro v194 w55 ho hb hg hat
         rw [← Ny193.out] at ho
         have n0_ := Am (blk_grown (g := gb159) (o := .cells #[.int .i64 0, .int .i64 0, .slice none 0 0, .string (⟨#[]⟩ : ByteArray)] 24 (0, 0)) (by (with_reducible repeat (first | refine bn ?_ _ | refine bd ?_ | refine ba ?_ _)); exact BK159.out) hg (Kd.R_ne HO_166002.out BK159.out (by decide)))
         have n1_ := Am (blk_grown (g := gb165) (o := .cells #[.int .i64 t160, .int .i64 t174, u166002, .string (⟨#[]⟩ : ByteArray)] 24 (0, 0)) (by (with_reducible repeat (first | refine bn ?_ _ | refine bd ?_ | refine ba ?_ _)); exact BK165.out) hg (Kd.R_ne HO_166002.out BK165.out (by decide)))
         have n2_ := Am (IsS58.grown (show IsS58 w0 _ g t189 t190 t191 t192 from by repeat (first | (with_reducible first | exact HI0.out | apply IsS58.alloc | apply IsS58.drewN | apply IsS58.drew | apply IsS58.set_0 | apply IsS58.set_1 | apply IsS58.set_2 | apply IsS58.set_3 | refine IsS58.far ?_ NB0_159.out _ | refine IsS58.far ?_ NB0_165.out _) | exact HI0.out)) hg (IsS58.own_ne HI0.out HO_166002.out (by decide)))
         have n3_ := Am (below_weaken (by repeat (first | (with_reducible first | exact HB.out | apply bl | apply pN | apply b1 | refine bs ?_ (IsS58.ge HI0.out) | refine bs ?_ GE159.out | refine bs ?_ GE165.out) | exact HB.out | exact HBo.out)) HL.out hb)
         have n4_ := Am (KeepBut.trans (by repeat (first | (with_reducible first | exact HK.out | apply KeepBut.set_ | apply keep_drewN | apply keep_drew | apply keep_alloc | refine keep_far ?_ GW159.out _ | refine keep_far ?_ GW165.out _) | exact HK.out)) (KeepBut.of_grown hg g) (Kd.R_base2 HO_166002.out))
         have n5_ := Am (ho)
         clear BK159
         clear BK165
         clear HI0
         clear HB
         clear HK
         clear HO_166002
         have BK159 := n0_
         have BK165 := n1_
         have HI0 := n2_
         have HB := n3_
         have HK := n4_
         have HO195 := n5_
         clear n0_ n1_ n2_ n3_ n4_ n5_
         clear ho hb hg hat
         obtain ⟨Ao56, co56, eo56⟩ := Kd.R_slice HO195.out
         (first | subst eo56 | (injection eo56 with f1_ f2_ f3_; have f4_ := f1_.symm; have f5_ := f3_.symm; clear f1_ f2_ f3_; subst f4_; subst f5_))
         refine hK.out _ _ ⟨(bc BK165.out 0).trans rfl, (bc BK165.out 1).trans rfl, (bc BK165.out 2).trans rfl, (bc BK165.out 3).trans rfl⟩ (fun hHeld => ?_)
         clear hK K
         refine norm_ (a' := ?_) ?_ ?_
         rotate_left
         ·
          show Act.put _ (some 51) _ = _
          simp only [Act.put, sI, sZ, sS, i64_w, i32_w]
          rfl
         refine Own.pr_ 6 (some 52) q3_7 HT_ (h := ?_)
         refine last_ (i := 7) (N := none) q3_8 rfl rfl (one_of HT_.out (by kernel_rfl)) (by decide) (fun K hK => ?_)
         have hs57 : w55.cell? ⟨gb165, 2, none⟩ = some (u166002) := (bc BK165.out 2).trans rfl
         have hfs57 := bf BK165.out 2
         have hns57_0 := NB159_165.out
         have hms57_0 := NB165_159.out
         refine skip_ (w1 := ?_) (by rfl) rfl ?_ ?_
         rotate_left
         ·
          go_simp
          rfl
         refine hK.out _ _ ?_
         clear hK K
         refine done_ (done_of HT_.out (by kernel_rfl)) ?_
         try go_wp2
         go_roundg k2
         case measure => have := HJ3.out; have := HK2.out; omega
         case rel => exact ⟨(wrap64 (x44_2 + 1)), (t189), (t190), (t191), (t192), (y193), (.slice Ao56 y193.length co56), (by first | rfl | (simp; done) | (simp [*]; done)), H', ⟨by have := HJ3.out; have := HK2.out; omega⟩, ⟨by (with_reducible repeat (first | apply Kd.R_alloc | apply Kd.R_drewN | apply Kd.R_drew)); exact Kd.R_mono (Kd.R_far (p := ⟨gb165, 2, none⟩) (Kd.R_types HO195.out BK165.out (by decide)) (fun _ hk => hk.2) (.slice Ao56 y193.length co56)) (fun _ hk => trivial)⟩, ⟨by (with_reducible repeat (first | refine bn ?_ _ | refine bd ?_ | refine ba ?_ _)); refine blk_far ?_ NB159_165.out _; (with_reducible repeat (first | refine bn ?_ _ | refine bd ?_ | refine ba ?_ _)); exact BK159.out⟩, ⟨by (with_reducible repeat (first | refine bn ?_ _ | refine bd ?_ | refine ba ?_ _)); refine blk_put (cs := #[.int .i64 t160, .int .i64 t174, u166002, .string (⟨#[]⟩ : ByteArray)]) ?_ 2 _ rfl; (with_reducible repeat (first | refine bn ?_ _ | refine bd ?_ | refine ba ?_ _)); exact BK165.out⟩, ⟨by repeat (first | (with_reducible first | exact HI0.out | apply IsS58.alloc | apply IsS58.drewN | apply IsS58.drew | apply IsS58.set_0 | apply IsS58.set_1 | apply IsS58.set_2 | apply IsS58.set_3 | refine IsS58.far ?_ NB0_159.out _ | refine IsS58.far ?_ NB0_165.out _) | exact HI0.out)⟩, ⟨by repeat (first | (with_reducible first | exact HK.out | apply KeepBut.set_ | apply keep_drewN | apply keep_drew | apply keep_alloc | refine keep_far ?_ GW159.out _ | refine keep_far ?_ GW165.out _) | exact HK.out)⟩, ⟨by repeat (first | (with_reducible first | exact HB.out | apply bl | apply pN | apply b1 | refine bs ?_ (IsS58.ge HI0.out) | refine bs ?_ GE159.out | refine bs ?_ GE165.out) | exact HB.out | exact HBo.out)⟩⟩
        ·
         rw [if_neg c52] at H
         exact absurd H (by simp)
       ·
        rw [if_neg c50] at H
        have c50b0 : decide (x44_2 < (t185.length : Int)) = false := decide_eq_false c50
        clear c50
        simp only [Option.some.injEq, Prod.mk.injEq] at H
        obtain ⟨rfl, rfl, rfl, rfl, rfl, rfl, rfl, rfl, rfl⟩ := H
        have hnb58 := NB165_159.out
        have hnc58 := NB159_165.out
        have hnb59 := NB165_0.out
        have hnc59 := NB0_165.out
        have hcz60_0 : wr.cell? ⟨gb165, 0, none⟩ = some (.int .i64 t160) := (bc BK165.out 0).trans rfl
        have hcz60_1 : wr.cell? ⟨gb165, 1, none⟩ = some (.int .i64 t174) := (bc BK165.out 1).trans rfl
        have hcz60_2 : wr.cell? ⟨gb165, 2, none⟩ = some (u166002) := (bc BK165.out 2).trans rfl
        have hcz60_3 : wr.cell? ⟨gb165, 3, none⟩ = some (.string (⟨#[]⟩ : ByteArray)) := (bc BK165.out 3).trans rfl
        have hfz60_0 := bf BK165.out 0
        have hfz60_1 := bf BK165.out 1
        have hfz60_2 := bf BK165.out 2
        have hfz60_3 := bf BK165.out 3
        have hnb61 := NB159_0.out
        have hnc61 := NB0_159.out
        have hcz62_0 : wr.cell? ⟨gb159, 0, none⟩ = some (.int .i64 0) := (bc BK159.out 0).trans rfl
        have hcz62_1 : wr.cell? ⟨gb159, 1, none⟩ = some (.int .i64 0) := (bc BK159.out 1).trans rfl
        have hcz62_2 : wr.cell? ⟨gb159, 2, none⟩ = some (.slice none 0 0) := (bc BK159.out 2).trans rfl
        have hcz62_3 : wr.cell? ⟨gb159, 3, none⟩ = some (.string (⟨#[]⟩ : ByteArray)) := (bc BK159.out 3).trans rfl
        have hfz62_0 := bf BK159.out 0
        have hfz62_1 := bf BK159.out 1
        have hfz62_2 := bf BK159.out 2
        have hfz62_3 := bf BK159.out 3
        obtain ⟨Ao63, co63, eo63⟩ := Kd.R_slice HO_166002.out
        subst eo63
        go_wp2
        refine bodyPost_ret (results_ct rfl _ _ gb159 24 #[.int .i64 t160, .int .i64 t174, .slice Ao63 x166002_2.length co63, .string (⟨#[]⟩ : ByteArray)] (0, 0) _ rfl (by (with_reducible repeat (first | refine bn ?_ _ | refine bd ?_ | refine ba ?_ _)); refine blk_put (cs := #[.int .i64 t160, .int .i64 t174, .slice Ao63 x166002_2.length co63, .string (⟨#[]⟩ : ByteArray)]) ?_ 3 _ rfl; (with_reducible repeat (first | refine bn ?_ _ | refine bd ?_ | refine ba ?_ _)); refine blk_put (cs := #[.int .i64 t160, .int .i64 t174, .slice none 0 0, .string (⟨#[]⟩ : ByteArray)]) ?_ 2 _ rfl; (with_reducible repeat (first | refine bn ?_ _ | refine bd ?_ | refine ba ?_ _)); refine blk_put (cs := #[.int .i64 t160, .int .i64 0, .slice none 0 0, .string (⟨#[]⟩ : ByteArray)]) ?_ 1 _ rfl; (with_reducible repeat (first | refine bn ?_ _ | refine bd ?_ | refine ba ?_ _)); refine blk_put (cs := #[.int .i64 0, .int .i64 0, .slice none 0 0, .string (⟨#[]⟩ : ByteArray)]) ?_ 0 _ rfl; (with_reducible repeat (first | refine bn ?_ _ | refine bd ?_ | refine ba ?_ _)); exact BK159.out) Try.underlying24 rfl (by kernel_rfl)) rfl ?_
        exact ⟨_, by first | rfl | (simp [errW_none, errW_some] <;> rfl) | (simp [*, errW_none, errW_some] <;> rfl) | (simp [Aid.ne_nil, Aid.eq_nil, errW_none, errW_some]; done), by (with_reducible repeat (first | apply Kd.R_alloc | apply Kd.R_drewN | apply Kd.R_drew)); exact Kd.R_mono (Kd.R_far (p := ⟨gb159, 3, none⟩) (Kd.R_far (p := ⟨gb159, 2, none⟩) (Kd.R_far (p := ⟨gb159, 1, none⟩) (Kd.R_far (p := ⟨gb159, 0, none⟩) (Kd.R_types HO_166002.out BK159.out (by decide)) (fun _ hk => hk.2) (.int .i64 t160)) (fun _ hk => hk.2) (.int .i64 t174)) (fun _ hk => hk.2) (.slice Ao63 x166002_2.length co63)) (fun _ hk => hk.2) (.string (⟨#[]⟩ : ByteArray))) (fun _ hk => trivial), by repeat (first | (with_reducible first | exact HI0.out | apply IsS58.alloc | apply IsS58.drewN | apply IsS58.drew | apply IsS58.set_0 | apply IsS58.set_1 | apply IsS58.set_2 | apply IsS58.set_3 | refine IsS58.far ?_ NB0_159.out _ | refine IsS58.far ?_ NB0_165.out _) | exact HI0.out), by repeat (first | (with_reducible first | exact HB.out | apply bl | apply pN | apply b1 | refine bs ?_ (IsS58.ge HI0.out) | refine bs ?_ GE159.out | refine bs ?_ GE165.out) | exact HB.out | exact HBo.out), by repeat (first | (with_reducible first | exact HK.out | apply KeepBut.set_ | apply keep_drewN | apply keep_drew | apply keep_alloc | refine keep_far ?_ GW159.out _ | refine keep_far ?_ GW165.out _) | exact HK.out)⟩

/-! ### wire_Reader_At: function 21 -/
def wire_Reader_At.f (s0_0 : ByteArray) (s0_1 : Int) (s0_2 : Int) (s0_3 : Int) : Option (Int × ByteArray × Int × Int × Int) := some (s0_1, s0_0, s0_1, s0_2, s0_3)
set_option maxHeartbeats 8000000 in
set_option maxRecDepth 100000 in
theorem wire_Reader_At.calls (g : Nat) (s0_0 : ByteArray) (s0_1 : Int) (s0_2 : Int) (s0_3 : Int) (r1 : Int) (r2 : ByteArray) (r3 : Int) (r4 : Int) (r5 : Int) (w0 w : World) (hI : IsS58 w0 w g s0_0 s0_1 s0_2 s0_3) (hB : Below w0.heap.size w0 w) (h : wire_Reader_At.f s0_0 s0_1 s0_2 s0_3 = some (r1, r2, r3, r4, r5)) :
  Calls Try.prog 21 #[.pointer (some ⟨g, 0, none⟩)] w fun e w' => e = .returned (.int .i64 r1) ∧ IsS58 w0 w' g r2 r3 r4 r5 ∧ Below w0.heap.size w0 w' ∧ KeepBut w w' g none := by
 have HI0 := Am hI
 have HK := Am (KeepBut.refl w g none)
 have HL := Am hB.size
 clear hI
 have HW0 := Am hB.size
 have HB := Am hB
 clear hB
 have H : (some (s0_1, s0_0, s0_1, s0_2, s0_3)) = some (r1, r2, r3, r4, r5) := h
 clear h
 simp only [Option.some.injEq, Prod.mk.injEq] at H
 obtain ⟨rfl, rfl, rfl, rfl, rfl⟩ := H
 obtain ⟨HGz2, hgz2⟩ := HI0.out
 have hcz2_0 := cellS58_0 HGz2
 have hcz2_1 := cellS58_1 HGz2
 have hcz2_2 := cellS58_2 HGz2
 have hcz2_3 := cellS58_3 HGz2
 have hfz2_0 := bf HGz2 0
 have hfz2_1 := bf HGz2 1
 have hfz2_2 := bf HGz2 2
 have hfz2_3 := bf HGz2 3
 clear HGz2 hgz2
 go_enter Try.func21, Try.ntmps21
 go_wp2
 go_ret
 exact ⟨by first | rfl | (simp [errW_none, errW_some] <;> rfl) | (simp [*, errW_none, errW_some] <;> rfl) | (simp [Aid.ne_nil, Aid.eq_nil, errW_none, errW_some]; done), by repeat (first | (with_reducible first | exact HI0.out | apply IsS58.alloc | apply IsS58.drewN | apply IsS58.drew | apply IsS58.set_0 | apply IsS58.set_1 | apply IsS58.set_2 | apply IsS58.set_3) | exact HI0.out), by repeat (first | (with_reducible first | exact HB.out | apply bl | apply pN | apply b1 | refine bs ?_ (IsS58.ge HI0.out)) | exact HB.out | exact HBo.out), by repeat (first | (with_reducible first | exact HK.out | apply KeepBut.set_ | apply keep_drewN | apply keep_drew | apply keep_alloc) | exact HK.out)⟩

end Go.Proofs.Ythechcflnkofgaa.Q
