-- printed by a program of this session (NOTES: hprint); not the kit's print
-- minified
-- halved
import Derived.Test.YthfdhoegboeaeaaAl
import Derived.Test.YthfdhoegboeaeaaQx0
import Derived.Test.YthfdhoegboeaeaaQx3
import Derived.Test.YthfdhoegboeaeaaQx4
namespace Go.Proofs.Ythfdhoegboeaeaa.Q
open Go.RowKit Go.Proofs.YthfdhoegboeaeaaW.PrintWords Go.Proofs.YthfdhoegboeaeaaW.PrintLast Go.Proofs.YthfdhoegboeaeaaW.PrintMore
attribute [local go_sem] max2_int min2_int max_two min_two max_three min_three max_four min_four   -- for this text's walks alone
set_option linter.unusedVariables false
set_option linter.unusedSimpArgs false

def q5_0 : Array Bool := let o := true; let z := false; #[z,z,z,z,z,z,z,z,z,z,z]
def q5_1 : Array Bool := let o := true; let z := false; #[o,z,z,z,z,z,z,z,z,z,z]
def q5_2 : Array Bool := let o := true; let z := false; #[o,z,o,z,z,z,z,z,z,z,z]
def q5_3 : Array Bool := let o := true; let z := false; #[o,z,o,z,o,z,z,z,z,z,z]
def q5_4 : Array Bool := let o := true; let z := false; #[o,o,o,z,o,z,z,z,z,z,z]
def q5_5 : Array Bool := let o := true; let z := false; #[o,o,o,o,o,z,z,z,z,z,z]
def q5_6 : Array Bool := let o := true; let z := false; #[o,o,o,o,o,o,z,z,z,z,z]
def q5_7 : Array Bool := let o := true; let z := false; #[o,o,o,o,o,o,o,z,z,z,z]
def q5_8 : Array Bool := let o := true; let z := false; #[o,o,o,o,o,o,o,o,z,z,z]
def q5_9 : Array Bool := let o := true; let z := false; #[o,o,o,o,o,o,o,o,o,z,z]
def q5_10 : Array Bool := let o := true; let z := false; #[o,o,o,o,o,o,o,o,o,o,z]
def q5_11 : Array Bool := let o := true; let z := false; #[o,o,o,o,o,o,o,o,o,o,o]
def q5_12 : Array Bool := let o := true; let z := false; #[z,z,z,z,z,z,z,z,z,z,z,z,z,z,z]
def q5_13 : Array Bool := let o := true; let z := false; #[o,z,z,z,z,z,z,z,z,z,z,z,z,z,z]
def q5_14 : Array Bool := let o := true; let z := false; #[o,z,o,z,z,z,z,z,z,z,z,z,z,z,z]
def q5_15 : Array Bool := let o := true; let z := false; #[o,z,o,z,o,z,z,z,z,z,z,z,z,z,z]
def q5_16 : Array Bool := let o := true; let z := false; #[o,z,o,z,o,z,o,z,z,z,z,z,z,z,z]
def q5_17 : Array Bool := let o := true; let z := false; #[o,z,o,z,o,z,o,z,o,z,z,z,z,z,z]
def q5_18 : Array Bool := let o := true; let z := false; #[o,o,o,z,o,z,o,z,o,z,z,z,z,z,z]
def q5_19 : Array Bool := let o := true; let z := false; #[o,o,o,o,o,z,o,z,o,z,z,z,z,z,z]
def q5_20 : Array Bool := let o := true; let z := false; #[o,o,o,o,o,o,o,z,o,z,z,z,z,z,z]
def q5_21 : Array Bool := let o := true; let z := false; #[o,o,o,o,o,o,o,o,o,z,z,z,z,z,z]
def q5_22 : Array Bool := let o := true; let z := false; #[o,o,o,o,o,o,o,o,o,o,z,z,z,z,z]
def q5_23 : Array Bool := let o := true; let z := false; #[o,o,o,o,o,o,o,o,o,o,o,z,z,z,z]
def q5_24 : Array Bool := let o := true; let z := false; #[o,o,o,o,o,o,o,o,o,o,o,o,z,z,z]
def q5_25 : Array Bool := let o := true; let z := false; #[o,o,o,o,o,o,o,o,o,o,o,o,o,z,z]
def q5_26 : Array Bool := let o := true; let z := false; #[o,o,o,o,o,o,o,o,o,o,o,o,o,o,z]
def q5_27 : Array Bool := let o := true; let z := false; #[o,o,o,o,o,o,o,o,o,o,o,o,o,o,o]
/-! ### snap_Decode: function 10 -/
mutual
def snap_Decode.l0 : Nat → Int → Int → ByteArray → Int → Int → Int → Int → List (S46) → Option (Int × (List (S46)) × (List (S36)) × Int)
 | 0, _, _, _, _, _, _, _, _ => none
 | k + 1, x19, x20, x121000, x121001, x121002, x121003, x127000, x127001 => if x20 < x19 then ((wire_Reader_Num.f k x121000 x121001 x121002 x121003).bind fun bt132 => ((wire_Reader_Num.f k bt132.2.1 bt132.2.2.1 bt132.2.2.2.1 bt132.2.2.2.2).bind fun bt137 => (if x127001.length < 8796093022208 then (snap_Decode.l0 k x19 (wrap64 (x20 + 1)) bt137.2.1 bt137.2.2.1 bt137.2.2.2.1 bt137.2.2.2.2 x127000 (x127001 ++ [(⟨bt132.1, bt137.1⟩ : S46)])) else (none)))) else ((wire_Reader_Num.f k x121000 x121001 x121002 x121003).bind fun bt145 => (if bt145.1 > 1000 then (some (0, ([] : List (S46)), ([] : List (S36)), 80)) else (snap_Decode.l1 k bt145.1 0 bt145.2.1 bt145.2.2.1 bt145.2.2.2.1 bt145.2.2.2.2 x127000 x127001 ([] : List (S36)))))
def snap_Decode.l1 : Nat → Int → Int → ByteArray → Int → Int → Int → Int → List (S46) → List (S36) → Option (Int × (List (S46)) × (List (S36)) × Int)
 | 0, _, _, _, _, _, _, _, _, _ => none
 | k + 1, x38, x39, x121000, x121001, x121002, x121003, x127000, x127001, x127002 => if x39 < x38 then ((wire_Reader_Num.f k x121000 x121001 x121002 x121003).bind fun bt150 => ((wire_Reader_Num.f k bt150.2.1 bt150.2.2.1 bt150.2.2.2.1 bt150.2.2.2.2).bind fun bt155 => ((wire_Reader_Num.f k bt155.2.1 bt155.2.2.1 bt155.2.2.2.1 bt155.2.2.2.2).bind fun bt160 => ((wire_Reader_Num.f k bt160.2.1 bt160.2.2.1 bt160.2.2.2.1 bt160.2.2.2.2).bind fun bt165 => (if x127002.length < 4398046511104 then (snap_Decode.l1 k x38 (wrap64 (x39 + 1)) bt165.2.1 bt165.2.2.1 bt165.2.2.2.1 bt165.2.2.2.2 x127000 x127001 (x127002 ++ [(⟨bt150.1, bt155.1, bt160.1, bt165.1⟩ : S36)])) else (none)))))) else ((wire_Reader_Err.f x121000 x121001 x121002 x121003).bind fun bt173 => (if bt173.1 = 0 then ((wire_Reader_Done.f bt173.2.2.1 bt173.2.2.2.1 bt173.2.2.2.2.1 bt173.2.2.2.2.2).bind fun bt179 => (if bt179.1 = true then ((snap_May.f x127000 x127001 x127002).bind fun t184 => (if t184 = true then (some (x127000, x127001, x127002, 0)) else (some (0, ([] : List (S46)), ([] : List (S36)), 80)))) else (some (0, ([] : List (S46)), ([] : List (S36)), 80)))) else (some (0, ([] : List (S46)), ([] : List (S36)), bt173.1))))
end
def snap_Decode.f (k : Nat) (a0 : ByteArray) : Option (Int × (List (S46)) × (List (S36)) × Int) := (wire_New.f a0).bind fun bt116 => ((wire_Reader_Num.f k bt116.1 bt116.2.1 bt116.2.2.1 bt116.2.2.2).bind fun bt121 => ((wire_Reader_Num.f k bt121.2.1 bt121.2.2.1 bt121.2.2.2.1 bt121.2.2.2.2).bind fun bt127 => (if bt127.1 > 64 then (some (0, ([] : List (S46)), ([] : List (S36)), 80)) else (snap_Decode.l0 k bt127.1 0 bt127.2.1 bt127.2.2.1 bt127.2.2.2.1 bt127.2.2.2.2 bt121.1 ([] : List (S46))))))
theorem snap_Decode.mono_l : ∀ k, (∀ y0 y1 y2 y3 y4 y5 y6 y7, LeO (snap_Decode.l0 k y0 y1 y2 y3 y4 y5 y6 y7) (snap_Decode.l0 (k + 1) y0 y1 y2 y3 y4 y5 y6 y7)) ∧ (∀ y0 y1 y2 y3 y4 y5 y6 y7 y8, LeO (snap_Decode.l1 k y0 y1 y2 y3 y4 y5 y6 y7 y8) (snap_Decode.l1 (k + 1) y0 y1 y2 y3 y4 y5 y6 y7 y8))
 | 0 => ⟨fun _ _ _ _ _ _ _ _ r h => by simp [snap_Decode.l0] at h, fun _ _ _ _ _ _ _ _ _ r h => by simp [snap_Decode.l1] at h⟩
 | k + 1 => by
  obtain ⟨ih0, ih1⟩ := snap_Decode.mono_l k
  refine ⟨?_, ?_⟩
  ·
   intro y0 y1 y2 y3 y4 y5 y6 y7
   unfold snap_Decode.l0
   repeat' first
   | (with_reducible exact ih0 _ _ _ _ _ _ _ _)
   | (with_reducible exact ih1 _ _ _ _ _ _ _ _ _)
   | (with_reducible exact wire_Reader_Num.mono _ _ _ _ _)
   | (with_reducible exact LeO.refl _)
   | (with_reducible exact LeO.none _)
   | (with_reducible refine LeO.ite ?_ ?_)
   | (with_reducible refine LeO.bind ?_ (fun _ => ?_))
   | exact ih0 _ _ _ _ _ _ _ _
   | exact ih1 _ _ _ _ _ _ _ _ _
   | exact wire_Reader_Num.mono _ _ _ _ _
   | exact LeO.none _
   | refine LeO.ite ?_ ?_
   | refine LeO.bind ?_ (fun _ => ?_)
  ·
   intro y0 y1 y2 y3 y4 y5 y6 y7 y8
   unfold snap_Decode.l1
   repeat' first
   | (with_reducible exact ih0 _ _ _ _ _ _ _ _)
   | (with_reducible exact ih1 _ _ _ _ _ _ _ _ _)
   | (with_reducible exact wire_Reader_Num.mono _ _ _ _ _)
   | (with_reducible exact LeO.refl _)
   | (with_reducible exact LeO.none _)
   | (with_reducible refine LeO.ite ?_ ?_)
   | (with_reducible refine LeO.bind ?_ (fun _ => ?_))
   | exact ih0 _ _ _ _ _ _ _ _
   | exact ih1 _ _ _ _ _ _ _ _ _
   | exact wire_Reader_Num.mono _ _ _ _ _
   | exact LeO.none _
   | refine LeO.ite ?_ ?_
   | refine LeO.bind ?_ (fun _ => ?_)
theorem snap_Decode.mono : ∀ a0 k, LeO (snap_Decode.f k a0) (snap_Decode.f (k + 1) a0) := by
 intro a0 k
 obtain ⟨ih0, ih1⟩ := snap_Decode.mono_l k
 unfold snap_Decode.f
 repeat' first
   | (with_reducible exact ih0 _ _ _ _ _ _ _ _)
   | (with_reducible exact ih1 _ _ _ _ _ _ _ _ _)
   | (with_reducible exact wire_Reader_Num.mono _ _ _ _ _)
   | (with_reducible exact LeO.refl _)
   | (with_reducible exact LeO.none _)
   | (with_reducible refine LeO.ite ?_ ?_)
   | (with_reducible refine LeO.bind ?_ (fun _ => ?_))
   | exact ih0 _ _ _ _ _ _ _ _
   | exact ih1 _ _ _ _ _ _ _ _ _
   | exact wire_Reader_Num.mono _ _ _ _ _
   | exact LeO.none _
   | refine LeO.ite ?_ ?_
   | refine LeO.bind ?_ (fun _ => ?_)
def snap_Decode.T8 : Bool × List (List Nat × List Nat) := (true, [([], []), ([0], [0]), ([], []), ([2], [2]), ([], []), ([4, 3], [4]), ([3, 5], [3, 5]), ([6], [6]), ([1, 7, 5], [1, 7]), ([0, 1, 2, 3, 4, 5, 6, 7, 8], []), ([9, 8, 8, 0, 1, 2, 3, 4, 5, 6, 7, 8], [8, 9])])
def snap_Decode.B8 : List Nat := [0, 1, 0, 4, 0, 28, 60, 124, 255, 511, 1023]
theorem snap_Decode.tab8 : rtab .any (opsOf Try.f10 8) = snap_Decode.T8 := by kernel_rfl
theorem snap_Decode.bits8 : waitsOk snap_Decode.T8.2 snap_Decode.B8 = true := by kernel_rfl
def snap_Decode.T15 : Bool × List (List Nat × List Nat) := (true, [([], []), ([0], [0]), ([], []), ([2], [2]), ([], []), ([4, 3], [4]), ([], []), ([6, 5], [6]), ([], []), ([8, 7], [8]), ([3, 5, 7, 9], [3, 5, 7, 9]), ([10], [10]), ([1, 11, 9], [1, 11]), ([0, 1, 2, 3, 4, 5, 6, 7, 8, 9, 10, 11, 12], []), ([13, 12, 12, 0, 1, 2, 3, 4, 5, 6, 7, 8, 9, 10, 11, 12], [12, 13])])
def snap_Decode.B15 : List Nat := [0, 1, 0, 4, 0, 28, 0, 124, 0, 508, 1020, 2044, 4095, 8191, 16383]
theorem snap_Decode.tab15 : rtab .any (opsOf Try.f10 15) = snap_Decode.T15 := by kernel_rfl
theorem snap_Decode.bits15 : waitsOk snap_Decode.T15.2 snap_Decode.B15 = true := by kernel_rfl
set_option maxHeartbeats 8000000 in
set_option maxRecDepth 100000 in
theorem snap_Decode.calls (k : Nat) (a0 : ByteArray) (r1 : Int) (r2 : List (S46)) (r3 : List (S36)) (r4 : Int) (w : World) (h : snap_Decode.f k a0 = some (r1, r2, r3, r4)) :
  Calls Try.prog 10 #[.string a0] w fun e w' => ∃ v1_ v2_ : Value, e = .returned (.tuple #[.agg #[.int .i64 r1, v1_, v2_], .int .i64 r4]) ∧ Kd.R k46 46 w' w.heap.size (fun _ => True) v1_ r2 ∧ Kd.R k36 36 w' w.heap.size (fun _ => True) v2_ r3 ∧ Below w.heap.size w w' := by
 have hu25 := Try.underlying25
 have hu46 := Try.underlying46
 have hu36 := Try.underlying36
 have HB := Am (Below.refl w.heap.size w)
 have H : ((wire_New.f a0).bind fun bt116 => ((wire_Reader_Num.f k bt116.1 bt116.2.1 bt116.2.2.1 bt116.2.2.2).bind fun bt121 => ((wire_Reader_Num.f k bt121.2.1 bt121.2.2.1 bt121.2.2.2.1 bt121.2.2.2.2).bind fun bt127 => (if bt127.1 > 64 then (some (0, ([] : List (S46)), ([] : List (S36)), 80)) else (snap_Decode.l0 k bt127.1 0 bt127.2.1 bt127.2.2.1 bt127.2.2.2.1 bt127.2.2.2.2 bt121.1 ([] : List (S46))))))) = some (r1, r2, r3, r4) := h
 clear h
 replace H := ob H
 obtain ⟨⟨t116, t117, t118, t119⟩, A20, H⟩ := H
 replace H : ((wire_Reader_Num.f k t116 t117 t118 t119).bind fun bt121 => ((wire_Reader_Num.f k bt121.2.1 bt121.2.2.1 bt121.2.2.2.1 bt121.2.2.2.2).bind fun bt127 => (if bt127.1 > 64 then (some (0, ([] : List (S46)), ([] : List (S36)), 80)) else (snap_Decode.l0 k bt127.1 0 bt127.2.1 bt127.2.2.1 bt127.2.2.2.1 bt127.2.2.2.2 bt121.1 ([] : List (S46)))))) = some (r1, r2, r3, r4) := H
 have A2 := Am A20
 clear A20
 replace H := ob H
 obtain ⟨⟨t121, t122, t123, t124, t125⟩, A30, H⟩ := H
 replace H : ((wire_Reader_Num.f k t122 t123 t124 t125).bind fun bt127 => (if bt127.1 > 64 then (some (0, ([] : List (S46)), ([] : List (S36)), 80)) else (snap_Decode.l0 k bt127.1 0 bt127.2.1 bt127.2.2.1 bt127.2.2.2.1 bt127.2.2.2.2 t121 ([] : List (S46))))) = some (r1, r2, r3, r4) := H
 have A3 := Am A30
 clear A30
 replace H := ob H
 obtain ⟨⟨t127, t128, t129, t130, t131⟩, A40, H⟩ := H
 replace H : (if t127 > 64 then (some (0, ([] : List (S46)), ([] : List (S36)), 80)) else (snap_Decode.l0 k t127 0 t128 t129 t130 t131 t121 ([] : List (S46)))) = some (r1, r2, r3, r4) := H
 have A4 := Am A40
 clear A40
 by_cases c5 : t127 > 64
 ·
  rw [if_pos c5] at H
  have c5b0 : decide (64 < t127) = true := decide_eq_true c5
  clear c5
  simp only [Option.some.injEq, Prod.mk.injEq] at H
  obtain ⟨rfl, rfl, rfl, rfl⟩ := H
  go_enter Try.func10, Try.ntmps10
  go_wp2_with (first | ((with_reducible refine gate_dst (N := 2) rfl ?_); refine box_event ?hg (N := 2) ?hd (cs := #[.int .i64 0, .slice none 0 0, .slice none 0 0]) (t := 25) ?hr ?_; (case hd => rfl); (case hg => rfl); (case hr => first | (go_simp; done) | (go_simp; rfl)); intro gb115 hg w6 hbox hb; have n0_ := Am (below_step (by repeat (first | (with_reducible first | exact HB.out | apply bl | apply pN | apply b1) | exact HB.out | exact HBo.out)) hb); have n1_ := Am (hbox); have n2_ := Am ((by rw [hg]; exact (below_size (by repeat (first | (with_reducible first | exact HB.out | apply bl | apply pN | apply b1) | exact HB.out | exact HBo.out))) : w.heap.size ≤ gb115)); have n3_ := Am ((by rw [hg]; exact (below_size (by repeat (first | (with_reducible first | exact HB.out | apply bl | apply pN | apply b1) | exact HB.out | exact HBo.out))) : w.heap.size ≤ gb115)); clear HB; have HB := n0_; have BK115 := n1_; have GW115 := n2_; have GE115 := n3_; clear n0_ n1_ n2_ n3_; clear hb hbox hg) | ((with_reducible refine gate_callee (f := 19) rfl ?_); refine goesL_ (some 10) rfl rfl Try.func19 (by kernel_rfl) rfl #[.string a0] rfl (by (try simp only [List.map_toArray, List.map_cons, List.map_nil]); first | done | rfl | (simp only [List.length_drop, List.length_take]; rfl)) ?_; (with_reducible refine (wire_New.calls a0 t116 t117 t118 t119 w _ ?side1 A2.out).mono ?_); (case side1 => repeat (first | (with_reducible first | exact HB.out | apply bl | apply pN | apply b1 | refine bs ?_ GE115.out) | exact HB.out | exact HBo.out)); rintro e w7 ⟨g120, rfl, hi, hb, hb2⟩; refine ⟨_, rfl, ?_⟩; have n0_ := Am (blk_below (g := gb115) (o := .cells #[.int .i64 0, .slice none 0 0, .slice none 0 0] 25 (0, 0)) (by (with_reducible repeat (first | refine bn ?_ _ | refine bd ?_ | refine ba ?_ _)); exact BK115.out) hb2); have n1_ := Am (hb); have n2_ := Am (hi); have n3_ := Am (IsS71.ne_blk hi (blk_below (g := gb115) (o := .cells #[.int .i64 0, .slice none 0 0, .slice none 0 0] 25 (0, 0)) (by (with_reducible repeat (first | refine bn ?_ _ | refine bd ?_ | refine ba ?_ _)); exact BK115.out) hb2) (by decide)); have n4_ := Am (Ne.symm (IsS71.ne_blk hi (blk_below (g := gb115) (o := .cells #[.int .i64 0, .slice none 0 0, .slice none 0 0] 25 (0, 0)) (by (with_reducible repeat (first | refine bn ?_ _ | refine bd ?_ | refine ba ?_ _)); exact BK115.out) hb2) (by decide))); clear BK115; clear HB; have BK115 := n0_; have HB := n1_; have HI120 := n2_; have NB120_115 := n3_; have NB115_120 := n4_; clear n0_ n1_ n2_ n3_ n4_; (try clear hb); (try clear hb2); (try clear hk); (try clear hi)) | ((with_reducible refine gate_callee (f := 20) rfl ?_); refine goesL_ (some 12) rfl rfl Try.func20 (by kernel_rfl) rfl #[.pointer (some ⟨g120, 0, none⟩)] rfl (by (try simp only [List.map_toArray, List.map_cons, List.map_nil]); first | done | rfl | (simp only [List.length_drop, List.length_take]; rfl)) ?_; (with_reducible refine (wire_Reader_Num.calls k g120 t116 t117 t118 t119 t121 t122 t123 t124 t125 w _ ?side1 ?side2 A3.out).mono ?_); (case side1 => repeat (first | (with_reducible first | exact HI120.out | apply IsS71.alloc | apply IsS71.drewN | apply IsS71.drew | apply IsS71.set_0 | apply IsS71.set_1 | apply IsS71.set_2 | apply IsS71.set_3 | refine IsS71.far ?_ NB120_115.out _) | exact HI120.out)); (case side2 => repeat (first | (with_reducible first | exact HB.out | apply bl | apply pN | apply b1 | refine bs ?_ (IsS71.ge HI120.out) | refine bs ?_ GE115.out) | exact HB.out | exact HBo.out)); rintro e w8 ⟨rfl, hi, hb, hk⟩; refine ⟨_, rfl, ?_⟩; have n0_ := Am (KeepBut.blk hk (g' := gb115) (o := .cells #[.int .i64 0, .slice none 0 0, .slice none 0 0] 25 (0, 0)) (by (with_reducible repeat (first | refine bn ?_ _ | refine bd ?_ | refine ba ?_ _)); exact BK115.out) NB115_120.out (by simp)); have n1_ := Am (hb); have n2_ := Am (hi); clear BK115; clear HB; clear HI120; have BK115 := n0_; have HB := n1_; have HI120 := n2_; clear n0_ n1_ n2_; (try clear hb); (try clear hb2); (try clear hk); (try clear hi)) | ((with_reducible refine gate_dst (N := 5) rfl ?_); refine box_event ?hg (N := 5) ?hd (cs := #[.int .i64 0, .slice none 0 0, .slice none 0 0]) (t := 25) ?hr ?_; (case hd => rfl); (case hg => rfl); (case hr => first | (go_simp; done) | (go_simp; rfl)); intro gb126 hg w9 hbox hb; have n0_ := Am (blk_below (g := gb115) (o := .cells #[.int .i64 0, .slice none 0 0, .slice none 0 0] 25 (0, 0)) (by (with_reducible repeat (first | refine bn ?_ _ | refine bd ?_ | refine ba ?_ _)); exact BK115.out) hb); have n1_ := Am (IsS71.below (by repeat (first | (with_reducible first | exact HI120.out | apply IsS71.alloc | apply IsS71.drewN | apply IsS71.drew | apply IsS71.set_0 | apply IsS71.set_1 | apply IsS71.set_2 | apply IsS71.set_3 | refine IsS71.far ?_ NB120_115.out _) | exact HI120.out)) hb); have n2_ := Am (below_step (by repeat (first | (with_reducible first | exact HB.out | apply bl | apply pN | apply b1 | refine bs ?_ (IsS71.ge HI120.out) | refine bs ?_ GE115.out) | exact HB.out | exact HBo.out)) hb); have n3_ := Am (hbox); have n4_ := Am ((by rw [hg]; exact (below_size (by repeat (first | (with_reducible first | exact HB.out | apply bl | apply pN | apply b1 | refine bs ?_ (IsS71.ge HI120.out) | refine bs ?_ GE115.out) | exact HB.out | exact HBo.out))) : w.heap.size ≤ gb126)); have n5_ := Am ((by rw [hg]; exact (below_size (by repeat (first | (with_reducible first | exact HB.out | apply bl | apply pN | apply b1 | refine bs ?_ (IsS71.ge HI120.out) | refine bs ?_ GE115.out) | exact HB.out | exact HBo.out))) : w.heap.size ≤ gb126)); have n6_ := Am ((by rw [hg]; exact Nat.ne_of_lt (blk_lt (g := gb115) (o := .cells #[.int .i64 0, .slice none 0 0, .slice none 0 0] 25 (0, 0)) (by (with_reducible repeat (first | refine bn ?_ _ | refine bd ?_ | refine ba ?_ _)); exact BK115.out)) : gb115 ≠ gb126)); have n7_ := Am ((by rw [hg]; exact Nat.ne_of_gt (blk_lt (g := gb115) (o := .cells #[.int .i64 0, .slice none 0 0, .slice none 0 0] 25 (0, 0)) (by (with_reducible repeat (first | refine bn ?_ _ | refine bd ?_ | refine ba ?_ _)); exact BK115.out)) : gb126 ≠ gb115)); have n8_ := Am ((by rw [hg]; exact Nat.ne_of_lt (IsS71.lt (show IsS71 w _ g120 t122 t123 t124 t125 from by repeat (first | (with_reducible first | exact HI120.out | apply IsS71.alloc | apply IsS71.drewN | apply IsS71.drew | apply IsS71.set_0 | apply IsS71.set_1 | apply IsS71.set_2 | apply IsS71.set_3 | refine IsS71.far ?_ NB120_115.out _) | exact HI120.out))) : g120 ≠ gb126)); have n9_ := Am ((by rw [hg]; exact Nat.ne_of_gt (IsS71.lt (show IsS71 w _ g120 t122 t123 t124 t125 from by repeat (first | (with_reducible first | exact HI120.out | apply IsS71.alloc | apply IsS71.drewN | apply IsS71.drew | apply IsS71.set_0 | apply IsS71.set_1 | apply IsS71.set_2 | apply IsS71.set_3 | refine IsS71.far ?_ NB120_115.out _) | exact HI120.out))) : gb126 ≠ g120)); clear BK115; clear HI120; clear HB; have BK115 := n0_; have HI120 := n1_; have HB := n2_; have BK126 := n3_; have GW126 := n4_; have GE126 := n5_; have NB115_126 := n6_; have NB126_115 := n7_; have NB120_126 := n8_; have NB126_120 := n9_; clear n0_ n1_ n2_ n3_ n4_ n5_ n6_ n7_ n8_ n9_; clear hb hbox hg; have hnb10 := NB126_115.out; have hnc10 := NB115_126.out; have hnb11 := NB126_120.out; have hnc11 := NB120_126.out; have hcz12_0 : w9.cell? ⟨gb126, 0, none⟩ = some (.int .i64 0) := (bc BK126.out 0).trans rfl; have hcz12_1 : w9.cell? ⟨gb126, 1, none⟩ = some (.slice none 0 0) := (bc BK126.out 1).trans rfl; have hcz12_2 : w9.cell? ⟨gb126, 2, none⟩ = some (.slice none 0 0) := (bc BK126.out 2).trans rfl; have hfz12_0 := bf BK126.out 0; have hfz12_1 := bf BK126.out 1; have hfz12_2 := bf BK126.out 2) | ((with_reducible refine gate_callee (f := 20) rfl ?_); refine goesL_ (some 15) rfl rfl Try.func20 (by kernel_rfl) rfl #[.pointer (some ⟨g120, 0, none⟩)] rfl (by (try simp only [List.map_toArray, List.map_cons, List.map_nil]); first | done | rfl | (simp only [List.length_drop, List.length_take]; rfl)) ?_; (with_reducible refine (wire_Reader_Num.calls k g120 t122 t123 t124 t125 t127 t128 t129 t130 t131 w _ ?side1 ?side2 A4.out).mono ?_); (case side1 => repeat (first | (with_reducible first | exact HI120.out | apply IsS71.alloc | apply IsS71.drewN | apply IsS71.drew | apply IsS71.set_0 | apply IsS71.set_1 | apply IsS71.set_2 | apply IsS71.set_3 | refine IsS71.far ?_ NB120_115.out _ | refine IsS71.far ?_ NB120_126.out _) | exact HI120.out)); (case side2 => repeat (first | (with_reducible first | exact HB.out | apply bl | apply pN | apply b1 | refine bs ?_ (IsS71.ge HI120.out) | refine bs ?_ GE115.out | refine bs ?_ GE126.out) | exact HB.out | exact HBo.out)); rintro e w13 ⟨rfl, hi, hb, hk⟩; refine ⟨_, rfl, ?_⟩; have n0_ := Am (KeepBut.blk hk (g' := gb115) (o := .cells #[.int .i64 0, .slice none 0 0, .slice none 0 0] 25 (0, 0)) (by (with_reducible repeat (first | refine bn ?_ _ | refine bd ?_ | refine ba ?_ _)); refine blk_far ?_ NB115_126.out _; (with_reducible repeat (first | refine bn ?_ _ | refine bd ?_ | refine ba ?_ _)); refine blk_far ?_ NB115_126.out _; (with_reducible repeat (first | refine bn ?_ _ | refine bd ?_ | refine ba ?_ _)); refine blk_far ?_ NB115_126.out _; (with_reducible repeat (first | refine bn ?_ _ | refine bd ?_ | refine ba ?_ _)); exact BK115.out) NB115_120.out (by simp)); have n1_ := Am (KeepBut.blk hk (g' := gb126) (o := .cells #[.int .i64 t121, .slice none 0 0, .slice none 0 0] 25 (0, 0)) (by (with_reducible repeat (first | refine bn ?_ _ | refine bd ?_ | refine ba ?_ _)); refine blk_put (cs := #[.int .i64 t121, .slice none 0 0, .slice none 0 0]) ?_ 2 _ rfl; (with_reducible repeat (first | refine bn ?_ _ | refine bd ?_ | refine ba ?_ _)); refine blk_put (cs := #[.int .i64 t121, .slice none 0 0, .slice none 0 0]) ?_ 1 _ rfl; (with_reducible repeat (first | refine bn ?_ _ | refine bd ?_ | refine ba ?_ _)); refine blk_put (cs := #[.int .i64 0, .slice none 0 0, .slice none 0 0]) ?_ 0 _ rfl; (with_reducible repeat (first | refine bn ?_ _ | refine bd ?_ | refine ba ?_ _)); exact BK126.out) NB126_120.out (by simp)); have n2_ := Am (hb); have n3_ := Am (hi); clear BK115; clear BK126; clear HB; clear HI120; have BK115 := n0_; have BK126 := n1_; have HB := n2_; have HI120 := n3_; clear n0_ n1_ n2_ n3_; (try clear hb); (try clear hb2); (try clear hk); (try clear hi); have hnb14 := NB115_120.out; have hnc14 := NB120_115.out; have hcz15_0 : w13.cell? ⟨gb115, 0, none⟩ = some (.int .i64 0) := (bc BK115.out 0).trans rfl; have hcz15_1 : w13.cell? ⟨gb115, 1, none⟩ = some (.slice none 0 0) := (bc BK115.out 1).trans rfl; have hcz15_2 : w13.cell? ⟨gb115, 2, none⟩ = some (.slice none 0 0) := (bc BK115.out 2).trans rfl; have hfz15_0 := bf BK115.out 0; have hfz15_1 := bf BK115.out 1; have hfz15_2 := bf BK115.out 2))
  refine bodyPost_ret (results_ct rfl _ _ gb115 25 #[.int .i64 0, .slice none 0 0, .slice none 0 0] (0, 0) _ rfl (by (with_reducible repeat (first | refine bn ?_ _ | refine bd ?_ | refine ba ?_ _)); refine blk_put (cs := #[.int .i64 0, .slice none 0 0, .slice none 0 0]) ?_ 2 _ rfl; (with_reducible repeat (first | refine bn ?_ _ | refine bd ?_ | refine ba ?_ _)); refine blk_put (cs := #[.int .i64 0, .slice none 0 0, .slice none 0 0]) ?_ 1 _ rfl; (with_reducible repeat (first | refine bn ?_ _ | refine bd ?_ | refine ba ?_ _)); refine blk_put (cs := #[.int .i64 0, .slice none 0 0, .slice none 0 0]) ?_ 0 _ rfl; (with_reducible repeat (first | refine bn ?_ _ | refine bd ?_ | refine ba ?_ _)); exact BK115.out) Try.underlying25 rfl (by kernel_rfl)) rfl ?_
  exact ⟨_, _, by first | rfl | (simp [errW_none, errW_some] <;> rfl) | (simp [*, errW_none, errW_some] <;> rfl) | (simp [Aid.ne_nil, Aid.eq_nil, errW_none, errW_some]; done), by first | exact Kd.R_nil _ _ _ _ _ | exact Kd.N_nil _ _ _ _ _ | exact Kd.V_nil _ _ _ _ _ | exact Kd.Q_nil _ _ _ _ _ | exact Kd.S_nil _ _ _ _ _, by first | exact Kd.R_nil _ _ _ _ _ | exact Kd.N_nil _ _ _ _ _ | exact Kd.V_nil _ _ _ _ _ | exact Kd.Q_nil _ _ _ _ _ | exact Kd.S_nil _ _ _ _ _, by repeat (first | (with_reducible first | exact HB.out | apply bl | apply pN | apply b1 | refine bs ?_ (IsS71.ge HI120.out) | refine bs ?_ GE115.out | refine bs ?_ GE126.out) | exact HB.out | exact HBo.out)⟩
 ·
  rw [if_neg c5] at H
  have c5b0 : decide (64 < t127) = false := decide_eq_false c5
  clear c5
  have H' := Am H
  clear H
  go_enter Try.func10, Try.ntmps10
  go_wp2_with (first | ((with_reducible refine gate_dst (N := 2) rfl ?_); refine box_event ?hg (N := 2) ?hd (cs := #[.int .i64 0, .slice none 0 0, .slice none 0 0]) (t := 25) ?hr ?_; (case hd => rfl); (case hg => rfl); (case hr => first | (go_simp; done) | (go_simp; rfl)); intro gb115 hg w16 hbox hb; have n0_ := Am (below_step (by repeat (first | (with_reducible first | exact HB.out | apply bl | apply pN | apply b1) | exact HB.out | exact HBo.out)) hb); have n1_ := Am (hbox); have n2_ := Am ((by rw [hg]; exact (below_size (by repeat (first | (with_reducible first | exact HB.out | apply bl | apply pN | apply b1) | exact HB.out | exact HBo.out))) : w.heap.size ≤ gb115)); have n3_ := Am ((by rw [hg]; exact (below_size (by repeat (first | (with_reducible first | exact HB.out | apply bl | apply pN | apply b1) | exact HB.out | exact HBo.out))) : w.heap.size ≤ gb115)); clear HB; have HB := n0_; have BK115 := n1_; have GW115 := n2_; have GE115 := n3_; clear n0_ n1_ n2_ n3_; clear hb hbox hg) | ((with_reducible refine gate_callee (f := 19) rfl ?_); refine goesL_ (some 10) rfl rfl Try.func19 (by kernel_rfl) rfl #[.string a0] rfl (by (try simp only [List.map_toArray, List.map_cons, List.map_nil]); first | done | rfl | (simp only [List.length_drop, List.length_take]; rfl)) ?_; (with_reducible refine (wire_New.calls a0 t116 t117 t118 t119 w _ ?side1 A2.out).mono ?_); (case side1 => repeat (first | (with_reducible first | exact HB.out | apply bl | apply pN | apply b1 | refine bs ?_ GE115.out) | exact HB.out | exact HBo.out)); rintro e w17 ⟨g120, rfl, hi, hb, hb2⟩; refine ⟨_, rfl, ?_⟩; have n0_ := Am (blk_below (g := gb115) (o := .cells #[.int .i64 0, .slice none 0 0, .slice none 0 0] 25 (0, 0)) (by (with_reducible repeat (first | refine bn ?_ _ | refine bd ?_ | refine ba ?_ _)); exact BK115.out) hb2); have n1_ := Am (hb); have n2_ := Am (hi); have n3_ := Am (IsS71.ne_blk hi (blk_below (g := gb115) (o := .cells #[.int .i64 0, .slice none 0 0, .slice none 0 0] 25 (0, 0)) (by (with_reducible repeat (first | refine bn ?_ _ | refine bd ?_ | refine ba ?_ _)); exact BK115.out) hb2) (by decide)); have n4_ := Am (Ne.symm (IsS71.ne_blk hi (blk_below (g := gb115) (o := .cells #[.int .i64 0, .slice none 0 0, .slice none 0 0] 25 (0, 0)) (by (with_reducible repeat (first | refine bn ?_ _ | refine bd ?_ | refine ba ?_ _)); exact BK115.out) hb2) (by decide))); clear BK115; clear HB; have BK115 := n0_; have HB := n1_; have HI120 := n2_; have NB120_115 := n3_; have NB115_120 := n4_; clear n0_ n1_ n2_ n3_ n4_; (try clear hb); (try clear hb2); (try clear hk); (try clear hi)) | ((with_reducible refine gate_callee (f := 20) rfl ?_); refine goesL_ (some 12) rfl rfl Try.func20 (by kernel_rfl) rfl #[.pointer (some ⟨g120, 0, none⟩)] rfl (by (try simp only [List.map_toArray, List.map_cons, List.map_nil]); first | done | rfl | (simp only [List.length_drop, List.length_take]; rfl)) ?_; (with_reducible refine (wire_Reader_Num.calls k g120 t116 t117 t118 t119 t121 t122 t123 t124 t125 w _ ?side1 ?side2 A3.out).mono ?_); (case side1 => repeat (first | (with_reducible first | exact HI120.out | apply IsS71.alloc | apply IsS71.drewN | apply IsS71.drew | apply IsS71.set_0 | apply IsS71.set_1 | apply IsS71.set_2 | apply IsS71.set_3 | refine IsS71.far ?_ NB120_115.out _) | exact HI120.out)); (case side2 => repeat (first | (with_reducible first | exact HB.out | apply bl | apply pN | apply b1 | refine bs ?_ (IsS71.ge HI120.out) | refine bs ?_ GE115.out) | exact HB.out | exact HBo.out)); rintro e w18 ⟨rfl, hi, hb, hk⟩; refine ⟨_, rfl, ?_⟩; have n0_ := Am (KeepBut.blk hk (g' := gb115) (o := .cells #[.int .i64 0, .slice none 0 0, .slice none 0 0] 25 (0, 0)) (by (with_reducible repeat (first | refine bn ?_ _ | refine bd ?_ | refine ba ?_ _)); exact BK115.out) NB115_120.out (by simp)); have n1_ := Am (hb); have n2_ := Am (hi); clear BK115; clear HB; clear HI120; have BK115 := n0_; have HB := n1_; have HI120 := n2_; clear n0_ n1_ n2_; (try clear hb); (try clear hb2); (try clear hk); (try clear hi)) | ((with_reducible refine gate_dst (N := 5) rfl ?_); refine box_event ?hg (N := 5) ?hd (cs := #[.int .i64 0, .slice none 0 0, .slice none 0 0]) (t := 25) ?hr ?_; (case hd => rfl); (case hg => rfl); (case hr => first | (go_simp; done) | (go_simp; rfl)); intro gb126 hg w19 hbox hb; have n0_ := Am (blk_below (g := gb115) (o := .cells #[.int .i64 0, .slice none 0 0, .slice none 0 0] 25 (0, 0)) (by (with_reducible repeat (first | refine bn ?_ _ | refine bd ?_ | refine ba ?_ _)); exact BK115.out) hb); have n1_ := Am (IsS71.below (by repeat (first | (with_reducible first | exact HI120.out | apply IsS71.alloc | apply IsS71.drewN | apply IsS71.drew | apply IsS71.set_0 | apply IsS71.set_1 | apply IsS71.set_2 | apply IsS71.set_3 | refine IsS71.far ?_ NB120_115.out _) | exact HI120.out)) hb); have n2_ := Am (below_step (by repeat (first | (with_reducible first | exact HB.out | apply bl | apply pN | apply b1 | refine bs ?_ (IsS71.ge HI120.out) | refine bs ?_ GE115.out) | exact HB.out | exact HBo.out)) hb); have n3_ := Am (hbox); have n4_ := Am ((by rw [hg]; exact (below_size (by repeat (first | (with_reducible first | exact HB.out | apply bl | apply pN | apply b1 | refine bs ?_ (IsS71.ge HI120.out) | refine bs ?_ GE115.out) | exact HB.out | exact HBo.out))) : w.heap.size ≤ gb126)); have n5_ := Am ((by rw [hg]; exact (below_size (by repeat (first | (with_reducible first | exact HB.out | apply bl | apply pN | apply b1 | refine bs ?_ (IsS71.ge HI120.out) | refine bs ?_ GE115.out) | exact HB.out | exact HBo.out))) : w.heap.size ≤ gb126)); have n6_ := Am ((by rw [hg]; exact Nat.ne_of_lt (blk_lt (g := gb115) (o := .cells #[.int .i64 0, .slice none 0 0, .slice none 0 0] 25 (0, 0)) (by (with_reducible repeat (first | refine bn ?_ _ | refine bd ?_ | refine ba ?_ _)); exact BK115.out)) : gb115 ≠ gb126)); have n7_ := Am ((by rw [hg]; exact Nat.ne_of_gt (blk_lt (g := gb115) (o := .cells #[.int .i64 0, .slice none 0 0, .slice none 0 0] 25 (0, 0)) (by (with_reducible repeat (first | refine bn ?_ _ | refine bd ?_ | refine ba ?_ _)); exact BK115.out)) : gb126 ≠ gb115)); have n8_ := Am ((by rw [hg]; exact Nat.ne_of_lt (IsS71.lt (show IsS71 w _ g120 t122 t123 t124 t125 from by repeat (first | (with_reducible first | exact HI120.out | apply IsS71.alloc | apply IsS71.drewN | apply IsS71.drew | apply IsS71.set_0 | apply IsS71.set_1 | apply IsS71.set_2 | apply IsS71.set_3 | refine IsS71.far ?_ NB120_115.out _) | exact HI120.out))) : g120 ≠ gb126)); have n9_ := Am ((by rw [hg]; exact Nat.ne_of_gt (IsS71.lt (show IsS71 w _ g120 t122 t123 t124 t125 from by repeat (first | (with_reducible first | exact HI120.out | apply IsS71.alloc | apply IsS71.drewN | apply IsS71.drew | apply IsS71.set_0 | apply IsS71.set_1 | apply IsS71.set_2 | apply IsS71.set_3 | refine IsS71.far ?_ NB120_115.out _) | exact HI120.out))) : gb126 ≠ g120)); clear BK115; clear HI120; clear HB; have BK115 := n0_; have HI120 := n1_; have HB := n2_; have BK126 := n3_; have GW126 := n4_; have GE126 := n5_; have NB115_126 := n6_; have NB126_115 := n7_; have NB120_126 := n8_; have NB126_120 := n9_; clear n0_ n1_ n2_ n3_ n4_ n5_ n6_ n7_ n8_ n9_; clear hb hbox hg; have hnb20 := NB126_115.out; have hnc20 := NB115_126.out; have hnb21 := NB126_120.out; have hnc21 := NB120_126.out; have hcz22_0 : w19.cell? ⟨gb126, 0, none⟩ = some (.int .i64 0) := (bc BK126.out 0).trans rfl; have hcz22_1 : w19.cell? ⟨gb126, 1, none⟩ = some (.slice none 0 0) := (bc BK126.out 1).trans rfl; have hcz22_2 : w19.cell? ⟨gb126, 2, none⟩ = some (.slice none 0 0) := (bc BK126.out 2).trans rfl; have hfz22_0 := bf BK126.out 0; have hfz22_1 := bf BK126.out 1; have hfz22_2 := bf BK126.out 2) | ((with_reducible refine gate_callee (f := 20) rfl ?_); refine goesL_ (some 15) rfl rfl Try.func20 (by kernel_rfl) rfl #[.pointer (some ⟨g120, 0, none⟩)] rfl (by (try simp only [List.map_toArray, List.map_cons, List.map_nil]); first | done | rfl | (simp only [List.length_drop, List.length_take]; rfl)) ?_; (with_reducible refine (wire_Reader_Num.calls k g120 t122 t123 t124 t125 t127 t128 t129 t130 t131 w _ ?side1 ?side2 A4.out).mono ?_); (case side1 => repeat (first | (with_reducible first | exact HI120.out | apply IsS71.alloc | apply IsS71.drewN | apply IsS71.drew | apply IsS71.set_0 | apply IsS71.set_1 | apply IsS71.set_2 | apply IsS71.set_3 | refine IsS71.far ?_ NB120_115.out _ | refine IsS71.far ?_ NB120_126.out _) | exact HI120.out)); (case side2 => repeat (first | (with_reducible first | exact HB.out | apply bl | apply pN | apply b1 | refine bs ?_ (IsS71.ge HI120.out) | refine bs ?_ GE115.out | refine bs ?_ GE126.out) | exact HB.out | exact HBo.out)); rintro e w23 ⟨rfl, hi, hb, hk⟩; refine ⟨_, rfl, ?_⟩; have n0_ := Am (KeepBut.blk hk (g' := gb115) (o := .cells #[.int .i64 0, .slice none 0 0, .slice none 0 0] 25 (0, 0)) (by (with_reducible repeat (first | refine bn ?_ _ | refine bd ?_ | refine ba ?_ _)); refine blk_far ?_ NB115_126.out _; (with_reducible repeat (first | refine bn ?_ _ | refine bd ?_ | refine ba ?_ _)); refine blk_far ?_ NB115_126.out _; (with_reducible repeat (first | refine bn ?_ _ | refine bd ?_ | refine ba ?_ _)); refine blk_far ?_ NB115_126.out _; (with_reducible repeat (first | refine bn ?_ _ | refine bd ?_ | refine ba ?_ _)); exact BK115.out) NB115_120.out (by simp)); have n1_ := Am (KeepBut.blk hk (g' := gb126) (o := .cells #[.int .i64 t121, .slice none 0 0, .slice none 0 0] 25 (0, 0)) (by (with_reducible repeat (first | refine bn ?_ _ | refine bd ?_ | refine ba ?_ _)); refine blk_put (cs := #[.int .i64 t121, .slice none 0 0, .slice none 0 0]) ?_ 2 _ rfl; (with_reducible repeat (first | refine bn ?_ _ | refine bd ?_ | refine ba ?_ _)); refine blk_put (cs := #[.int .i64 t121, .slice none 0 0, .slice none 0 0]) ?_ 1 _ rfl; (with_reducible repeat (first | refine bn ?_ _ | refine bd ?_ | refine ba ?_ _)); refine blk_put (cs := #[.int .i64 0, .slice none 0 0, .slice none 0 0]) ?_ 0 _ rfl; (with_reducible repeat (first | refine bn ?_ _ | refine bd ?_ | refine ba ?_ _)); exact BK126.out) NB126_120.out (by simp)); have n2_ := Am (hb); have n3_ := Am (hi); clear BK115; clear BK126; clear HB; clear HI120; have BK115 := n0_; have BK126 := n1_; have HB := n2_; have HI120 := n3_; clear n0_ n1_ n2_ n3_; (try clear hb); (try clear hb2); (try clear hk); (try clear hi)))
  go_loopg [20] k (fun kq v20 w' => ∃ (x20_1 : Int) (x121000_1 : ByteArray) (x121001_1 : Int) (x121002_1 : Int) (x121003_1 : Int) (x127001_1 : List (S46)) (u127001 : Value), v20 = .int .i64 x20_1 ∧ Aside0 (snap_Decode.l0 kq t127 x20_1 x121000_1 x121001_1 x121002_1 x121003_1 t121 x127001_1 = some (r1, r2, r3, r4)) ∧ Aside0 (kq ≤ k) ∧ Aside0 (Kd.R k46 46 w' w.heap.size (fun _ => True) u127001 x127001_1) ∧ Aside0 (w'.heap[gb115]? = some (.cells #[.int .i64 0, (.slice none 0 0), (.slice none 0 0)] 25 (0, 0))) ∧ Aside0 (w'.heap[gb126]? = some (.cells #[.int .i64 t121, u127001, (.slice none 0 0)] 25 (0, 0))) ∧ Aside0 (IsS71 w w' g120 x121000_1 x121001_1 x121002_1 x121003_1) ∧ Aside0 (Below w.heap.size w w'))
  case atStart => exact ⟨(0), (t128), (t129), (t130), (t131), (([] : List (S46))), (.slice none 0 0), (by first | rfl | (simp; done) | (simp [*]; done)), H', ⟨Nat.le_refl _⟩, ⟨by first | exact Kd.R_nil _ _ _ _ _ | exact Kd.N_nil _ _ _ _ _ | exact Kd.V_nil _ _ _ _ _ | exact Kd.Q_nil _ _ _ _ _ | exact Kd.S_nil _ _ _ _ _⟩, ⟨by (with_reducible repeat (first | refine bn ?_ _ | refine bd ?_ | refine ba ?_ _)); exact BK115.out⟩, ⟨by (with_reducible repeat (first | refine bn ?_ _ | refine bd ?_ | refine ba ?_ _)); exact BK126.out⟩, ⟨by repeat (first | (with_reducible first | exact HI120.out | apply IsS71.alloc | apply IsS71.drewN | apply IsS71.drew | apply IsS71.set_0 | apply IsS71.set_1 | apply IsS71.set_2 | apply IsS71.set_3 | refine IsS71.far ?_ NB120_115.out _ | refine IsS71.far ?_ NB120_126.out _) | exact HI120.out)⟩, ⟨by repeat (first | (with_reducible first | exact HB.out | apply bl | apply pN | apply b1 | refine bs ?_ (IsS71.ge HI120.out) | refine bs ?_ GE115.out | refine bs ?_ GE126.out) | exact HB.out | exact HBo.out)⟩⟩
  case round =>
   clear H'
   try clear c1
   try clear c2
   try clear p2
   try clear c5
   try clear c5b0
   try clear c10
   try clear c11
   try clear c14
   try clear c19
   try clear c20
   try clear c21
   try clear hcz12_0
   try clear hcz12_1
   try clear hcz12_2
   try clear hcz15_0
   try clear hcz15_1
   try clear hcz15_2
   try clear hcz22_0
   try clear hcz22_1
   try clear hcz22_2
   try clear hfz12_0
   try clear hfz12_1
   try clear hfz12_2
   try clear hfz15_0
   try clear hfz15_1
   try clear hfz15_2
   try clear hfz22_0
   try clear hfz22_1
   try clear hfz22_2
   obtain ⟨x20_1, x121000_1, x121001_1, x121002_1, x121003_1, x127001_1, u127001, rfl, HA, HK1, HO_127001, BK115, BK126, HI120, HB⟩ := hrel
   cases gk with
   | zero => exact absurd HA.out (by simp [snap_Decode.l0])
   | succ k1 =>
    have H := HA.out
    clear HA
    simp only [snap_Decode.l0] at H
    by_cases c24 : x20_1 < t127
    ·
     rw [if_pos c24] at H
     have c24b0 : decide (x20_1 < t127) = true := decide_eq_true c24
     clear c24
     replace H := ob H
     obtain ⟨⟨t132, t133, t134, t135, t136⟩, A250, H⟩ := H
     replace H : ((wire_Reader_Num.f k1 t133 t134 t135 t136).bind fun bt137 => (if x127001_1.length < 8796093022208 then (snap_Decode.l0 k1 t127 (wrap64 (x20_1 + 1)) bt137.2.1 bt137.2.2.1 bt137.2.2.2.1 bt137.2.2.2.2 t121 (x127001_1 ++ [(⟨t132, bt137.1⟩ : S46)])) else (none))) = some (r1, r2, r3, r4) := H
     have A25 := Am A250
     clear A250
     replace H := ob H
     obtain ⟨⟨t137, t138, t139, t140, t141⟩, A260, H⟩ := H
     replace H : (if x127001_1.length < 8796093022208 then (snap_Decode.l0 k1 t127 (wrap64 (x20_1 + 1)) t138 t139 t140 t141 t121 (x127001_1 ++ [(⟨t132, t137⟩ : S46)])) else (none)) = some (r1, r2, r3, r4) := H
     have A26 := Am A260
     clear A260
     by_cases c27 : x127001_1.length < 8796093022208
     ·
      rw [if_pos c27] at H
      have LMc27 := Am c27
      clear c27
      obtain ⟨y142, hy142⟩ : ∃ y_ : List (S46), y_ = (x127001_1 ++ [(⟨t132, t137⟩ : S46)]) := ⟨_, rfl⟩
      replace H : (snap_Decode.l0 k1 t127 (wrap64 (x20_1 + 1)) t138 t139 t140 t141 t121 y142) = some (r1, r2, r3, r4) := by first | (rw [hy142]; with_reducible exact H) | (have H2_ := (Option.bind_some _ _).symm.trans H; rw [hy142]; with_reducible exact H2_) | (have H2_ := (Option.bind_some _ _).symm.trans H; with_reducible exact H2_) | with_reducible exact H | (rw [hy142]; exact H) | exact H
      have Ny142 := Am hy142
      clear hy142
      have H' := Am H
      clear H
      try go_wp2
      have n0_ := Am (Kd.R_drew HO_127001.out)
      have n1_ := Am (bd BK115.out)
      have n2_ := Am (bd BK126.out)
      have n3_ := Am (IsS71.drew HI120.out)
      have n4_ := Am (b1 HB.out)
      clear HO_127001
      clear BK115
      clear BK126
      clear HI120
      clear HB
      have HO_127001 := n0_
      have BK115 := n1_
      have BK126 := n2_
      have HI120 := n3_
      have HB := n4_
      clear n0_ n1_ n2_ n3_ n4_
      refine start_ (n := 11) (S := fun w' => w'.cell? ⟨gb126, 0, none⟩ = some (.int .i64 t121) ∧ w'.cell? ⟨gb126, 1, none⟩ = some (u127001) ∧ w'.cell? ⟨gb126, 2, none⟩ = some (.slice none 0 0)) (ds := [10]) q5_0 (by kernel_rfl) rfl rfl ⟨(bc BK126.out 0).trans rfl, (bc BK126.out 1).trans rfl, (bc BK126.out 2).trans rfl⟩ (fun hHeld => ?_); refine with_tabW snap_Decode.tab8 snap_Decode.bits8 (fun HT_ HW_ => ?_)
      generalize wr.drew = w28 at HO_127001 BK115 BK126 HI120 HB hHeld ⊢
      refine Own.pr_ 0 (some 22) q5_1 HT_ (h := ?_)
      refine Own.pr_ 2 (some 24) q5_2 HT_ (h := ?_)
      refine Own.pr_ 4 (some 26) q5_3 HT_ (h := ?_)
      refine Own.tk_ 1 (some 23) q5_4 HT_ HW_ hHeld (hy := by rintro w' ⟨s0, s1, s2⟩; go_simp; with_reducible rfl) (h := ?_)
      refine one_ (i := 3) (N := some 25) q5_5 rfl rfl (one_of HT_.out (by kernel_rfl)) (by decide) (fun K hK => ?_)
      refine goes_ Try.func20 (by kernel_rfl) rfl #[.pointer (some ⟨g120, 0, none⟩)] (by rfl) rfl rfl (by (try simp only [List.map_toArray, List.map_cons, List.map_nil]); first | done | rfl | (simp only [List.length_drop, List.length_take]; rfl)) ?_
      with_reducible refine (wire_Reader_Num.calls k1 g120 x121000_1 x121001_1 x121002_1 x121003_1 t132 t133 t134 t135 t136 w _ ?side1 ?side2 A25.out).mono ?_
      (case side1 => repeat (first | (with_reducible first | exact HI120.out | apply IsS71.alloc | apply IsS71.drewN | apply IsS71.drew | apply IsS71.set_0 | apply IsS71.set_1 | apply IsS71.set_2 | apply IsS71.set_3 | refine IsS71.far ?_ NB120_115.out _ | refine IsS71.far ?_ NB120_126.out _) | exact HI120.out))
      (case side2 => repeat (first | (with_reducible first | exact HB.out | apply bl | apply pN | apply b1 | refine bs ?_ (IsS71.ge HI120.out) | refine bs ?_ GE115.out | refine bs ?_ GE126.out) | exact HB.out | exact HBo.out))
      rintro e w29 ⟨rfl, hi, hb, hk⟩
      refine ⟨_, rfl, ?_⟩
      have n0_ := Am (Kd.R_mono (Kd.R_keep (IsS71.apart (show IsS71 w _ g120 x121000_1 x121001_1 x121002_1 x121003_1 from by repeat (first | (with_reducible first | exact HI120.out | apply IsS71.alloc | apply IsS71.drewN | apply IsS71.drew | apply IsS71.set_0 | apply IsS71.set_1 | apply IsS71.set_2 | apply IsS71.set_3 | refine IsS71.far ?_ NB120_115.out _ | refine IsS71.far ?_ NB120_126.out _) | exact HI120.out)) (by (with_reducible repeat (first | apply Kd.R_alloc | apply Kd.R_drewN | apply Kd.R_drew)); exact HO_127001.out) (by decide)) hk (fun _ h => h.2)) (fun _ h => h.1))
      have n1_ := Am (KeepBut.blk hk (g' := gb115) (o := .cells #[.int .i64 0, .slice none 0 0, .slice none 0 0] 25 (0, 0)) (by (with_reducible repeat (first | refine bn ?_ _ | refine bd ?_ | refine ba ?_ _)); exact BK115.out) NB115_120.out (by simp))
      have n2_ := Am (KeepBut.blk hk (g' := gb126) (o := .cells #[.int .i64 t121, u127001, .slice none 0 0] 25 (0, 0)) (by (with_reducible repeat (first | refine bn ?_ _ | refine bd ?_ | refine ba ?_ _)); exact BK126.out) NB126_120.out (by simp))
      have n3_ := Am (hb)
      have n4_ := Am (hi)
      clear HO_127001
      clear BK115
      clear BK126
      clear HB
      clear HI120
      have HO_127001 := n0_
      have BK115 := n1_
      have BK126 := n2_
      have HB := n3_
      have HI120 := n4_
      clear n0_ n1_ n2_ n3_ n4_
      (try clear hb)
      (try clear hb2)
      (try clear hk)
      (try clear hi)
      refine hK.out _ _ ⟨(bc BK126.out 0).trans rfl, (bc BK126.out 1).trans rfl, (bc BK126.out 2).trans rfl⟩ (fun hHeld => ?_)
      clear hK K
      refine norm_ (a' := ?_) ?_ ?_
      rotate_left
      ·
       show Act.put _ (some 25) _ = _
       simp only [Act.put, sI, sZ, sS, i64_w, i32_w]
       rfl
      refine one_ (i := 5) (N := some 27) q5_6 rfl rfl (one_of HT_.out (by kernel_rfl)) (by decide) (fun K hK => ?_)
      refine goes_ Try.func20 (by kernel_rfl) rfl #[.pointer (some ⟨g120, 0, none⟩)] (by rfl) rfl rfl (by (try simp only [List.map_toArray, List.map_cons, List.map_nil]); first | done | rfl | (simp only [List.length_drop, List.length_take]; rfl)) ?_
      with_reducible refine (wire_Reader_Num.calls k1 g120 t133 t134 t135 t136 t137 t138 t139 t140 t141 w _ ?side1 ?side2 A26.out).mono ?_
      (case side1 => repeat (first | (with_reducible first | exact HI120.out | apply IsS71.alloc | apply IsS71.drewN | apply IsS71.drew | apply IsS71.set_0 | apply IsS71.set_1 | apply IsS71.set_2 | apply IsS71.set_3 | refine IsS71.far ?_ NB120_115.out _ | refine IsS71.far ?_ NB120_126.out _) | exact HI120.out))
      (case side2 => repeat (first | (with_reducible first | exact HB.out | apply bl | apply pN | apply b1 | refine bs ?_ (IsS71.ge HI120.out) | refine bs ?_ GE115.out | refine bs ?_ GE126.out) | exact HB.out | exact HBo.out))
      rintro e w30 ⟨rfl, hi, hb, hk⟩
      refine ⟨_, rfl, ?_⟩
      have n0_ := Am (Kd.R_mono (Kd.R_keep (IsS71.apart (show IsS71 w _ g120 t133 t134 t135 t136 from by repeat (first | (with_reducible first | exact HI120.out | apply IsS71.alloc | apply IsS71.drewN | apply IsS71.drew | apply IsS71.set_0 | apply IsS71.set_1 | apply IsS71.set_2 | apply IsS71.set_3 | refine IsS71.far ?_ NB120_115.out _ | refine IsS71.far ?_ NB120_126.out _) | exact HI120.out)) (by (with_reducible repeat (first | apply Kd.R_alloc | apply Kd.R_drewN | apply Kd.R_drew)); exact HO_127001.out) (by decide)) hk (fun _ h => h.2)) (fun _ h => h.1))
      have n1_ := Am (KeepBut.blk hk (g' := gb115) (o := .cells #[.int .i64 0, .slice none 0 0, .slice none 0 0] 25 (0, 0)) (by (with_reducible repeat (first | refine bn ?_ _ | refine bd ?_ | refine ba ?_ _)); exact BK115.out) NB115_120.out (by simp))
      have n2_ := Am (KeepBut.blk hk (g' := gb126) (o := .cells #[.int .i64 t121, u127001, .slice none 0 0] 25 (0, 0)) (by (with_reducible repeat (first | refine bn ?_ _ | refine bd ?_ | refine ba ?_ _)); exact BK126.out) NB126_120.out (by simp))
      have n3_ := Am (hb)
      have n4_ := Am (hi)
      clear HO_127001
      clear BK115
      clear BK126
      clear HB
      clear HI120
      have HO_127001 := n0_
      have BK115 := n1_
      have BK126 := n2_
      have HB := n3_
      have HI120 := n4_
      clear n0_ n1_ n2_ n3_ n4_
      (try clear hb)
      (try clear hb2)
      (try clear hk)
      (try clear hi)
      refine hK.out _ _ ⟨(bc BK126.out 0).trans rfl, (bc BK126.out 1).trans rfl, (bc BK126.out 2).trans rfl⟩ (fun hHeld => ?_)
      clear hK K
      refine norm_ (a' := ?_) ?_ ?_
      rotate_left
      ·
       show Act.put _ (some 27) _ = _
       simp only [Act.put, sI, sZ, sS, i64_w, i32_w]
       rfl
      refine Own.pr_ 6 (some 28) q5_7 HT_ (h := ?_)
      refine one_ (i := 7) (N := some 29) q5_8 rfl rfl (one_of HT_.out (by kernel_rfl)) (by decide) (fun K hK => ?_)
      refine value_ (w1 := ?_) (v := ?_) (by rfl) rfl ?_ ?_
      rotate_left 2
      ·
       go_simp
       constructor
       ·
        rfl
       ·
        rfl
      refine hK.out _ _ ⟨(bc (ba BK126.out _) 0).trans rfl, (bc (ba BK126.out _) 1).trans rfl, (bc (ba BK126.out _) 2).trans rfl⟩ (fun hHeld => ?_)
      clear hK K
      refine norm_ (a' := ?_) ?_ ?_
      rotate_left
      ·
       show Act.put _ (some 29) _ = _
       simp only [Act.put, sI, sZ, sS, i64_w, i32_w]
       rfl
      refine one_ (i := 8) (N := some 30) q5_9 rfl rfl (one_of HT_.out (by kernel_rfl)) (by decide) (fun K hK => ?_)
      refine Kd.R_append_step k46 (w0 := w) w.heap.size (by rfl) (.tmp 23) (.tmp 29) 22 46 (.agg #[(.int .i64 0), (.int .i64 0)]) 16 rfl Try.underlying22 info46 rfl (by decide) (by omega) u127001 x127001_1 (⟨t132, t137⟩ : S46) [.int .i64 t132, .int .i64 t137] (fun _ => True) (fun _ => False) rfl rfl ?aP (fun _ hk => hk.elim) ?aF ?aO ?aB ?aS ?aL ?_
      (case aP => exact k46_mkM _ _ _ (⟨t132, t137⟩ : S46))
      (case aB => exact (by repeat (first | (with_reducible first | exact HB.out | apply bl | apply pN | apply b1 | refine bs ?_ (IsS71.ge HI120.out) | refine bs ?_ GE115.out | refine bs ?_ GE126.out) | exact HB.out | exact HBo.out)))
      (case aF => exact (fun _ _ => trivial))
      (case aO => exact (by (with_reducible repeat (first | apply Kd.R_alloc | apply Kd.R_drewN | apply Kd.R_drew)); exact HO_127001.out))
      (case aS => exact (below_size (by repeat (first | (with_reducible first | exact HB.out | apply bl | apply pN | apply b1 | refine bs ?_ (IsS71.ge HI120.out) | refine bs ?_ GE115.out | refine bs ?_ GE126.out) | exact HB.out | exact HBo.out))))
      (case aL => have := LMc27.out; omega)
      intro v143 w31 ho hb hg hat
      rw [← Ny142.out] at ho
      have n0_ := Am (blk_grown (g := gb115) (o := .cells #[.int .i64 0, .slice none 0 0, .slice none 0 0] 25 (0, 0)) (by (with_reducible repeat (first | refine bn ?_ _ | refine bd ?_ | refine ba ?_ _)); exact BK115.out) hg (Kd.R_ne HO_127001.out BK115.out (by decide)))
      have n1_ := Am (blk_grown (g := gb126) (o := .cells #[.int .i64 t121, u127001, .slice none 0 0] 25 (0, 0)) (by (with_reducible repeat (first | refine bn ?_ _ | refine bd ?_ | refine ba ?_ _)); exact BK126.out) hg (Kd.R_ne HO_127001.out BK126.out (by decide)))
      have n2_ := Am (IsS71.grown (show IsS71 w _ g120 t138 t139 t140 t141 from by repeat (first | (with_reducible first | exact HI120.out | apply IsS71.alloc | apply IsS71.drewN | apply IsS71.drew | apply IsS71.set_0 | apply IsS71.set_1 | apply IsS71.set_2 | apply IsS71.set_3 | refine IsS71.far ?_ NB120_115.out _ | refine IsS71.far ?_ NB120_126.out _) | exact HI120.out)) hg (IsS71.own_ne HI120.out HO_127001.out (by decide)))
      have n3_ := Am (hb)
      have n4_ := Am (ho)
      clear BK115
      clear BK126
      clear HI120
      clear HB
      clear HO_127001
      have BK115 := n0_
      have BK126 := n1_
      have HI120 := n2_
      have HB := n3_
      have HO144 := n4_
      clear n0_ n1_ n2_ n3_ n4_
      clear ho hb hg hat
      obtain ⟨Ao32, co32, eo32⟩ := Kd.R_slice HO144.out
      (first | subst eo32 | (injection eo32 with f1_ f2_ f3_; have f4_ := f1_.symm; have f5_ := f3_.symm; clear f1_ f2_ f3_; subst f4_; subst f5_))
      refine hK.out _ _ ⟨(bc BK126.out 0).trans rfl, (bc BK126.out 1).trans rfl, (bc BK126.out 2).trans rfl⟩ (fun hHeld => ?_)
      clear hK K
      refine norm_ (a' := ?_) ?_ ?_
      rotate_left
      ·
       show Act.put _ (some 30) _ = _
       simp only [Act.put, sI, sZ, sS, i64_w, i32_w]
       rfl
      refine Own.pr_ 9 (some 31) q5_10 HT_ (h := ?_)
      refine last_ (i := 10) (N := none) q5_11 rfl rfl (one_of HT_.out (by kernel_rfl)) (by decide) (fun K hK => ?_)
      have hs33 : w31.cell? ⟨gb126, 1, none⟩ = some (u127001) := (bc BK126.out 1).trans rfl
      have hfs33 := bf BK126.out 1
      have hns33_0 := NB115_126.out
      have hms33_0 := NB126_115.out
      refine skip_ (w1 := ?_) (by rfl) rfl ?_ ?_
      rotate_left
      ·
       go_simp
       rfl
      refine hK.out _ _ ?_
      clear hK K
      refine done_ (done_of HT_.out (by kernel_rfl)) ?_
      try go_wp2
      go_roundg k1
      case measure => have := HK1.out; omega
      case rel => exact ⟨(wrap64 (x20_1 + 1)), (t138), (t139), (t140), (t141), (y142), (.slice Ao32 y142.length co32), (by first | rfl | (simp; done) | (simp [*]; done)), H', ⟨by have := HK1.out; omega⟩, ⟨by (with_reducible repeat (first | apply Kd.R_alloc | apply Kd.R_drewN | apply Kd.R_drew)); exact Kd.R_mono (Kd.R_far (p := ⟨gb126, 1, none⟩) (Kd.R_types HO144.out BK126.out (by decide)) (fun _ hk => hk.2) (.slice Ao32 y142.length co32)) (fun _ hk => trivial)⟩, ⟨by (with_reducible repeat (first | refine bn ?_ _ | refine bd ?_ | refine ba ?_ _)); refine blk_far ?_ NB115_126.out _; (with_reducible repeat (first | refine bn ?_ _ | refine bd ?_ | refine ba ?_ _)); exact BK115.out⟩, ⟨by (with_reducible repeat (first | refine bn ?_ _ | refine bd ?_ | refine ba ?_ _)); refine blk_put (cs := #[.int .i64 t121, u127001, .slice none 0 0]) ?_ 1 _ rfl; (with_reducible repeat (first | refine bn ?_ _ | refine bd ?_ | refine ba ?_ _)); exact BK126.out⟩, ⟨by repeat (first | (with_reducible first | exact HI120.out | apply IsS71.alloc | apply IsS71.drewN | apply IsS71.drew | apply IsS71.set_0 | apply IsS71.set_1 | apply IsS71.set_2 | apply IsS71.set_3 | refine IsS71.far ?_ NB120_115.out _ | refine IsS71.far ?_ NB120_126.out _) | exact HI120.out)⟩, ⟨by repeat (first | (with_reducible first | exact HB.out | apply bl | apply pN | apply b1 | refine bs ?_ (IsS71.ge HI120.out) | refine bs ?_ GE115.out | refine bs ?_ GE126.out) | exact HB.out | exact HBo.out)⟩⟩
     ·
      rw [if_neg c27] at H
      exact absurd H (by simp)
    ·
     rw [if_neg c24] at H
     have c24b0 : decide (x20_1 < t127) = false := decide_eq_false c24
     clear c24
     replace H := ob H
     obtain ⟨⟨t145, t146, t147, t148, t149⟩, A340, H⟩ := H
     replace H : (if t145 > 1000 then (some (0, ([] : List (S46)), ([] : List (S36)), 80)) else (snap_Decode.l1 k1 t145 0 t146 t147 t148 t149 t121 x127001_1 ([] : List (S36)))) = some (r1, r2, r3, r4) := H
     have A34 := Am A340
     clear A340
     by_cases c35 : t145 > 1000
     ·
      rw [if_pos c35] at H
      have c35b0 : decide (1000 < t145) = true := decide_eq_true c35
      clear c35
      simp only [Option.some.injEq, Prod.mk.injEq] at H
      obtain ⟨rfl, rfl, rfl, rfl⟩ := H
      go_wp2_with (first | ((with_reducible refine gate_callee (f := 20) rfl ?_); refine goesL_ (some 34) rfl rfl Try.func20 (by kernel_rfl) rfl #[.pointer (some ⟨g120, 0, none⟩)] rfl (by (try simp only [List.map_toArray, List.map_cons, List.map_nil]); first | done | rfl | (simp only [List.length_drop, List.length_take]; rfl)) ?_; (with_reducible refine (wire_Reader_Num.calls k1 g120 x121000_1 x121001_1 x121002_1 x121003_1 t145 t146 t147 t148 t149 w _ ?side1 ?side2 A34.out).mono ?_); (case side1 => repeat (first | (with_reducible first | exact HI120.out | apply IsS71.alloc | apply IsS71.drewN | apply IsS71.drew | apply IsS71.set_0 | apply IsS71.set_1 | apply IsS71.set_2 | apply IsS71.set_3 | refine IsS71.far ?_ NB120_115.out _ | refine IsS71.far ?_ NB120_126.out _) | exact HI120.out)); (case side2 => repeat (first | (with_reducible first | exact HB.out | apply bl | apply pN | apply b1 | refine bs ?_ (IsS71.ge HI120.out) | refine bs ?_ GE115.out | refine bs ?_ GE126.out) | exact HB.out | exact HBo.out)); rintro e w36 ⟨rfl, hi, hb, hk⟩; refine ⟨_, rfl, ?_⟩; have n0_ := Am (Kd.R_mono (Kd.R_keep (IsS71.apart (show IsS71 w _ g120 x121000_1 x121001_1 x121002_1 x121003_1 from by repeat (first | (with_reducible first | exact HI120.out | apply IsS71.alloc | apply IsS71.drewN | apply IsS71.drew | apply IsS71.set_0 | apply IsS71.set_1 | apply IsS71.set_2 | apply IsS71.set_3 | refine IsS71.far ?_ NB120_115.out _ | refine IsS71.far ?_ NB120_126.out _) | exact HI120.out)) (by (with_reducible repeat (first | apply Kd.R_alloc | apply Kd.R_drewN | apply Kd.R_drew)); exact HO_127001.out) (by decide)) hk (fun _ h => h.2)) (fun _ h => h.1)); have n1_ := Am (KeepBut.blk hk (g' := gb115) (o := .cells #[.int .i64 0, .slice none 0 0, .slice none 0 0] 25 (0, 0)) (by (with_reducible repeat (first | refine bn ?_ _ | refine bd ?_ | refine ba ?_ _)); exact BK115.out) NB115_120.out (by simp)); have n2_ := Am (KeepBut.blk hk (g' := gb126) (o := .cells #[.int .i64 t121, u127001, .slice none 0 0] 25 (0, 0)) (by (with_reducible repeat (first | refine bn ?_ _ | refine bd ?_ | refine ba ?_ _)); exact BK126.out) NB126_120.out (by simp)); have n3_ := Am (hb); have n4_ := Am (hi); clear HO_127001; clear BK115; clear BK126; clear HB; clear HI120; have HO_127001 := n0_; have BK115 := n1_; have BK126 := n2_; have HB := n3_; have HI120 := n4_; clear n0_ n1_ n2_ n3_ n4_; (try clear hb); (try clear hb2); (try clear hk); (try clear hi); have hnb37 := NB115_126.out; have hnc37 := NB126_115.out; have hnb38 := NB115_120.out; have hnc38 := NB120_115.out; have hcz39_0 : w36.cell? ⟨gb115, 0, none⟩ = some (.int .i64 0) := (bc BK115.out 0).trans rfl; have hcz39_1 : w36.cell? ⟨gb115, 1, none⟩ = some (.slice none 0 0) := (bc BK115.out 1).trans rfl; have hcz39_2 : w36.cell? ⟨gb115, 2, none⟩ = some (.slice none 0 0) := (bc BK115.out 2).trans rfl; have hfz39_0 := bf BK115.out 0; have hfz39_1 := bf BK115.out 1; have hfz39_2 := bf BK115.out 2))
      refine bodyPost_ret (results_ct rfl _ _ gb115 25 #[.int .i64 0, .slice none 0 0, .slice none 0 0] (0, 0) _ rfl (by (with_reducible repeat (first | refine bn ?_ _ | refine bd ?_ | refine ba ?_ _)); refine blk_put (cs := #[.int .i64 0, .slice none 0 0, .slice none 0 0]) ?_ 2 _ rfl; (with_reducible repeat (first | refine bn ?_ _ | refine bd ?_ | refine ba ?_ _)); refine blk_put (cs := #[.int .i64 0, .slice none 0 0, .slice none 0 0]) ?_ 1 _ rfl; (with_reducible repeat (first | refine bn ?_ _ | refine bd ?_ | refine ba ?_ _)); refine blk_put (cs := #[.int .i64 0, .slice none 0 0, .slice none 0 0]) ?_ 0 _ rfl; (with_reducible repeat (first | refine bn ?_ _ | refine bd ?_ | refine ba ?_ _)); exact BK115.out) Try.underlying25 rfl (by kernel_rfl)) rfl ?_
      exact ⟨_, _, by first | rfl | (simp [errW_none, errW_some] <;> rfl) | (simp [*, errW_none, errW_some] <;> rfl) | (simp [Aid.ne_nil, Aid.eq_nil, errW_none, errW_some]; done), by first | exact Kd.R_nil _ _ _ _ _ | exact Kd.N_nil _ _ _ _ _ | exact Kd.V_nil _ _ _ _ _ | exact Kd.Q_nil _ _ _ _ _ | exact Kd.S_nil _ _ _ _ _, by first | exact Kd.R_nil _ _ _ _ _ | exact Kd.N_nil _ _ _ _ _ | exact Kd.V_nil _ _ _ _ _ | exact Kd.Q_nil _ _ _ _ _ | exact Kd.S_nil _ _ _ _ _, by repeat (first | (with_reducible first | exact HB.out | apply bl | apply pN | apply b1 | refine bs ?_ (IsS71.ge HI120.out) | refine bs ?_ GE115.out | refine bs ?_ GE126.out) | exact HB.out | exact HBo.out)⟩
     ·
      rw [if_neg c35] at H
      have c35b0 : decide (1000 < t145) = false := decide_eq_false c35
      clear c35
      have H' := Am H
      clear H
      go_wp2_with (first | ((with_reducible refine gate_callee (f := 20) rfl ?_); refine goesL_ (some 34) rfl rfl Try.func20 (by kernel_rfl) rfl #[.pointer (some ⟨g120, 0, none⟩)] rfl (by (try simp only [List.map_toArray, List.map_cons, List.map_nil]); first | done | rfl | (simp only [List.length_drop, List.length_take]; rfl)) ?_; (with_reducible refine (wire_Reader_Num.calls k1 g120 x121000_1 x121001_1 x121002_1 x121003_1 t145 t146 t147 t148 t149 w _ ?side1 ?side2 A34.out).mono ?_); (case side1 => repeat (first | (with_reducible first | exact HI120.out | apply IsS71.alloc | apply IsS71.drewN | apply IsS71.drew | apply IsS71.set_0 | apply IsS71.set_1 | apply IsS71.set_2 | apply IsS71.set_3 | refine IsS71.far ?_ NB120_115.out _ | refine IsS71.far ?_ NB120_126.out _) | exact HI120.out)); (case side2 => repeat (first | (with_reducible first | exact HB.out | apply bl | apply pN | apply b1 | refine bs ?_ (IsS71.ge HI120.out) | refine bs ?_ GE115.out | refine bs ?_ GE126.out) | exact HB.out | exact HBo.out)); rintro e w40 ⟨rfl, hi, hb, hk⟩; refine ⟨_, rfl, ?_⟩; have n0_ := Am (Kd.R_mono (Kd.R_keep (IsS71.apart (show IsS71 w _ g120 x121000_1 x121001_1 x121002_1 x121003_1 from by repeat (first | (with_reducible first | exact HI120.out | apply IsS71.alloc | apply IsS71.drewN | apply IsS71.drew | apply IsS71.set_0 | apply IsS71.set_1 | apply IsS71.set_2 | apply IsS71.set_3 | refine IsS71.far ?_ NB120_115.out _ | refine IsS71.far ?_ NB120_126.out _) | exact HI120.out)) (by (with_reducible repeat (first | apply Kd.R_alloc | apply Kd.R_drewN | apply Kd.R_drew)); exact HO_127001.out) (by decide)) hk (fun _ h => h.2)) (fun _ h => h.1)); have n1_ := Am (KeepBut.blk hk (g' := gb115) (o := .cells #[.int .i64 0, .slice none 0 0, .slice none 0 0] 25 (0, 0)) (by (with_reducible repeat (first | refine bn ?_ _ | refine bd ?_ | refine ba ?_ _)); exact BK115.out) NB115_120.out (by simp)); have n2_ := Am (KeepBut.blk hk (g' := gb126) (o := .cells #[.int .i64 t121, u127001, .slice none 0 0] 25 (0, 0)) (by (with_reducible repeat (first | refine bn ?_ _ | refine bd ?_ | refine ba ?_ _)); exact BK126.out) NB126_120.out (by simp)); have n3_ := Am (hb); have n4_ := Am (hi); clear HO_127001; clear BK115; clear BK126; clear HB; clear HI120; have HO_127001 := n0_; have BK115 := n1_; have BK126 := n2_; have HB := n3_; have HI120 := n4_; clear n0_ n1_ n2_ n3_ n4_; (try clear hb); (try clear hb2); (try clear hk); (try clear hi)))
      go_loopg [39] k1 (fun kq v39 w' => ∃ (x39_2 : Int) (x121000_2 : ByteArray) (x121001_2 : Int) (x121002_2 : Int) (x121003_2 : Int) (x127002_2 : List (S36)) (u127002 : Value), v39 = .int .i64 x39_2 ∧ Aside0 (snap_Decode.l1 kq t145 x39_2 x121000_2 x121001_2 x121002_2 x121003_2 t121 x127001_1 x127002_2 = some (r1, r2, r3, r4)) ∧ Aside0 (kq ≤ k1) ∧ Aside0 (Kd.R k46 46 w' w.heap.size (fun _ => True) u127001 x127001_1) ∧ Aside0 (Kd.R k36 36 w' w.heap.size (fun _ => True) u127002 x127002_2) ∧ Aside0 (w'.heap[gb115]? = some (.cells #[.int .i64 0, (.slice none 0 0), (.slice none 0 0)] 25 (0, 0))) ∧ Aside0 (w'.heap[gb126]? = some (.cells #[.int .i64 t121, u127001, u127002] 25 (0, 0))) ∧ Aside0 (IsS71 w w' g120 x121000_2 x121001_2 x121002_2 x121003_2) ∧ Aside0 (Below w.heap.size w w'))
      case atStart => exact ⟨(0), (t146), (t147), (t148), (t149), (([] : List (S36))), (.slice none 0 0), (by first | rfl | (simp; done) | (simp [*]; done)), H', ⟨Nat.le_refl _⟩, ⟨by (with_reducible repeat (first | apply Kd.R_alloc | apply Kd.R_drewN | apply Kd.R_drew)); exact HO_127001.out⟩, ⟨by first | exact Kd.R_nil _ _ _ _ _ | exact Kd.N_nil _ _ _ _ _ | exact Kd.V_nil _ _ _ _ _ | exact Kd.Q_nil _ _ _ _ _ | exact Kd.S_nil _ _ _ _ _⟩, ⟨by (with_reducible repeat (first | refine bn ?_ _ | refine bd ?_ | refine ba ?_ _)); exact BK115.out⟩, ⟨by (with_reducible repeat (first | refine bn ?_ _ | refine bd ?_ | refine ba ?_ _)); exact BK126.out⟩, ⟨by repeat (first | (with_reducible first | exact HI120.out | apply IsS71.alloc | apply IsS71.drewN | apply IsS71.drew | apply IsS71.set_0 | apply IsS71.set_1 | apply IsS71.set_2 | apply IsS71.set_3 | refine IsS71.far ?_ NB120_115.out _ | refine IsS71.far ?_ NB120_126.out _) | exact HI120.out)⟩, ⟨by repeat (first | (with_reducible first | exact HB.out | apply bl | apply pN | apply b1 | refine bs ?_ (IsS71.ge HI120.out) | refine bs ?_ GE115.out | refine bs ?_ GE126.out) | exact HB.out | exact HBo.out)⟩⟩
      case round =>
       clear H'
       try clear c1
       try clear c2
       try clear p2
       try clear c3
       try clear c5
       try clear c5b0
       try clear p6
       try clear c10
       try clear c11
       try clear c14
       try clear c19
       try clear c20
       try clear c21
       try clear c24
       try clear c24b0
       try clear c27
       try clear c35
       try clear c35b0
       try clear c37
       try clear c38
       try clear hcz12_0
       try clear hcz12_1
       try clear hcz12_2
       try clear hcz15_0
       try clear hcz15_1
       try clear hcz15_2
       try clear hcz22_0
       try clear hcz22_1
       try clear hcz22_2
       try clear hcz39_0
       try clear hcz39_1
       try clear hcz39_2
       try clear hfz12_0
       try clear hfz12_1
       try clear hfz12_2
       try clear hfz15_0
       try clear hfz15_1
       try clear hfz15_2
       try clear hfz22_0
       try clear hfz22_1
       try clear hfz22_2
       try clear hfz39_0
       try clear hfz39_1
       try clear hfz39_2
       try clear p2
       obtain ⟨x39_2, x121000_2, x121001_2, x121002_2, x121003_2, x127002_2, u127002, rfl, HA, HK2, HO_127001, HO_127002, BK115, BK126, HI120, HB⟩ := hrel
       cases gk with
       | zero => exact absurd HA.out (by simp [snap_Decode.l1])
       | succ k2 =>
        have H := HA.out
        clear HA
        simp only [snap_Decode.l1] at H
        by_cases c41 : x39_2 < t145
        ·
         rw [if_pos c41] at H
         have c41b0 : decide (x39_2 < t145) = true := decide_eq_true c41
         clear c41
         replace H := ob H
         obtain ⟨⟨t150, t151, t152, t153, t154⟩, A420, H⟩ := H
         replace H : ((wire_Reader_Num.f k2 t151 t152 t153 t154).bind fun bt155 => ((wire_Reader_Num.f k2 bt155.2.1 bt155.2.2.1 bt155.2.2.2.1 bt155.2.2.2.2).bind fun bt160 => ((wire_Reader_Num.f k2 bt160.2.1 bt160.2.2.1 bt160.2.2.2.1 bt160.2.2.2.2).bind fun bt165 => (if x127002_2.length < 4398046511104 then (snap_Decode.l1 k2 t145 (wrap64 (x39_2 + 1)) bt165.2.1 bt165.2.2.1 bt165.2.2.2.1 bt165.2.2.2.2 t121 x127001_1 (x127002_2 ++ [(⟨t150, bt155.1, bt160.1, bt165.1⟩ : S36)])) else (none))))) = some (r1, r2, r3, r4) := H
         have A42 := Am A420
         clear A420
         replace H := ob H
         obtain ⟨⟨t155, t156, t157, t158, t159⟩, A430, H⟩ := H
         replace H : ((wire_Reader_Num.f k2 t156 t157 t158 t159).bind fun bt160 => ((wire_Reader_Num.f k2 bt160.2.1 bt160.2.2.1 bt160.2.2.2.1 bt160.2.2.2.2).bind fun bt165 => (if x127002_2.length < 4398046511104 then (snap_Decode.l1 k2 t145 (wrap64 (x39_2 + 1)) bt165.2.1 bt165.2.2.1 bt165.2.2.2.1 bt165.2.2.2.2 t121 x127001_1 (x127002_2 ++ [(⟨t150, t155, bt160.1, bt165.1⟩ : S36)])) else (none)))) = some (r1, r2, r3, r4) := H
         have A43 := Am A430
         clear A430
         replace H := ob H
         obtain ⟨⟨t160, t161, t162, t163, t164⟩, A440, H⟩ := H
         replace H : ((wire_Reader_Num.f k2 t161 t162 t163 t164).bind fun bt165 => (if x127002_2.length < 4398046511104 then (snap_Decode.l1 k2 t145 (wrap64 (x39_2 + 1)) bt165.2.1 bt165.2.2.1 bt165.2.2.2.1 bt165.2.2.2.2 t121 x127001_1 (x127002_2 ++ [(⟨t150, t155, t160, bt165.1⟩ : S36)])) else (none))) = some (r1, r2, r3, r4) := H
         have A44 := Am A440
         clear A440
         replace H := ob H
         obtain ⟨⟨t165, t166, t167, t168, t169⟩, A450, H⟩ := H
         replace H : (if x127002_2.length < 4398046511104 then (snap_Decode.l1 k2 t145 (wrap64 (x39_2 + 1)) t166 t167 t168 t169 t121 x127001_1 (x127002_2 ++ [(⟨t150, t155, t160, t165⟩ : S36)])) else (none)) = some (r1, r2, r3, r4) := H
         have A45 := Am A450
         clear A450
         by_cases c46 : x127002_2.length < 4398046511104
         ·
          rw [if_pos c46] at H
          have LMc46 := Am c46
          clear c46
          obtain ⟨y170, hy170⟩ : ∃ y_ : List (S36), y_ = (x127002_2 ++ [(⟨t150, t155, t160, t165⟩ : S36)]) := ⟨_, rfl⟩
          replace H : (snap_Decode.l1 k2 t145 (wrap64 (x39_2 + 1)) t166 t167 t168 t169 t121 x127001_1 y170) = some (r1, r2, r3, r4) := by first | (rw [hy170]; with_reducible exact H) | (have H2_ := (Option.bind_some _ _).symm.trans H; rw [hy170]; with_reducible exact H2_) | (have H2_ := (Option.bind_some _ _).symm.trans H; with_reducible exact H2_) | with_reducible exact H | (rw [hy170]; exact H) | exact H
          have Ny170 := Am hy170
          clear hy170
          have H' := Am H
          clear H
          try go_wp2
          have n0_ := Am (Kd.R_drew HO_127001.out)
          have n1_ := Am (Kd.R_drew HO_127002.out)
          have n2_ := Am (bd BK115.out)
          have n3_ := Am (bd BK126.out)
          have n4_ := Am (IsS71.drew HI120.out)
          have n5_ := Am (b1 HB.out)
          clear HO_127001
          clear HO_127002
          clear BK115
          clear BK126
          clear HI120
          clear HB
          have HO_127001 := n0_
          have HO_127002 := n1_
          have BK115 := n2_
          have BK126 := n3_
          have HI120 := n4_
          have HB := n5_
          clear n0_ n1_ n2_ n3_ n4_ n5_
          refine start_ (n := 15) (S := fun w' => w'.cell? ⟨gb126, 0, none⟩ = some (.int .i64 t121) ∧ w'.cell? ⟨gb126, 1, none⟩ = some (u127001) ∧ w'.cell? ⟨gb126, 2, none⟩ = some (u127002)) (ds := [14]) q5_12 (by kernel_rfl) rfl rfl ⟨(bc BK126.out 0).trans rfl, (bc BK126.out 1).trans rfl, (bc BK126.out 2).trans rfl⟩ (fun hHeld => ?_); refine with_tabW snap_Decode.tab15 snap_Decode.bits15 (fun HT_ HW_ => ?_)
          generalize wr.drew = w47 at HO_127001 HO_127002 BK115 BK126 HI120 HB hHeld ⊢
          refine Own.pr_ 0 (some 41) q5_13 HT_ (h := ?_)
          refine Own.pr_ 2 (some 43) q5_14 HT_ (h := ?_)
          refine Own.pr_ 4 (some 45) q5_15 HT_ (h := ?_)
          refine Own.pr_ 6 (some 47) q5_16 HT_ (h := ?_)
          refine Own.pr_ 8 (some 49) q5_17 HT_ (h := ?_)
          refine Own.tk_ 1 (some 42) q5_18 HT_ HW_ hHeld (hy := by rintro w' ⟨s0, s1, s2⟩; go_simp; with_reducible rfl) (h := ?_)
          refine one_ (i := 3) (N := some 44) q5_19 rfl rfl (one_of HT_.out (by kernel_rfl)) (by decide) (fun K hK => ?_)
          refine goes_ Try.func20 (by kernel_rfl) rfl #[.pointer (some ⟨g120, 0, none⟩)] (by rfl) rfl rfl (by (try simp only [List.map_toArray, List.map_cons, List.map_nil]); first | done | rfl | (simp only [List.length_drop, List.length_take]; rfl)) ?_
          with_reducible refine (wire_Reader_Num.calls k2 g120 x121000_2 x121001_2 x121002_2 x121003_2 t150 t151 t152 t153 t154 w _ ?side1 ?side2 A42.out).mono ?_
          (case side1 => repeat (first | (with_reducible first | exact HI120.out | apply IsS71.alloc | apply IsS71.drewN | apply IsS71.drew | apply IsS71.set_0 | apply IsS71.set_1 | apply IsS71.set_2 | apply IsS71.set_3 | refine IsS71.far ?_ NB120_115.out _ | refine IsS71.far ?_ NB120_126.out _) | exact HI120.out))
          (case side2 => repeat (first | (with_reducible first | exact HB.out | apply bl | apply pN | apply b1 | refine bs ?_ (IsS71.ge HI120.out) | refine bs ?_ GE115.out | refine bs ?_ GE126.out) | exact HB.out | exact HBo.out))
          rintro e w48 ⟨rfl, hi, hb, hk⟩
          refine ⟨_, rfl, ?_⟩
          have n0_ := Am (Kd.R_mono (Kd.R_keep (IsS71.apart (show IsS71 w _ g120 x121000_2 x121001_2 x121002_2 x121003_2 from by repeat (first | (with_reducible first | exact HI120.out | apply IsS71.alloc | apply IsS71.drewN | apply IsS71.drew | apply IsS71.set_0 | apply IsS71.set_1 | apply IsS71.set_2 | apply IsS71.set_3 | refine IsS71.far ?_ NB120_115.out _ | refine IsS71.far ?_ NB120_126.out _) | exact HI120.out)) (by (with_reducible repeat (first | apply Kd.R_alloc | apply Kd.R_drewN | apply Kd.R_drew)); exact HO_127001.out) (by decide)) hk (fun _ h => h.2)) (fun _ h => h.1))
          have n1_ := Am (Kd.R_mono (Kd.R_keep (IsS71.apart (show IsS71 w _ g120 x121000_2 x121001_2 x121002_2 x121003_2 from by repeat (first | (with_reducible first | exact HI120.out | apply IsS71.alloc | apply IsS71.drewN | apply IsS71.drew | apply IsS71.set_0 | apply IsS71.set_1 | apply IsS71.set_2 | apply IsS71.set_3 | refine IsS71.far ?_ NB120_115.out _ | refine IsS71.far ?_ NB120_126.out _) | exact HI120.out)) (by (with_reducible repeat (first | apply Kd.R_alloc | apply Kd.R_drewN | apply Kd.R_drew)); exact HO_127002.out) (by decide)) hk (fun _ h => h.2)) (fun _ h => h.1))
          have n2_ := Am (KeepBut.blk hk (g' := gb115) (o := .cells #[.int .i64 0, .slice none 0 0, .slice none 0 0] 25 (0, 0)) (by (with_reducible repeat (first | refine bn ?_ _ | refine bd ?_ | refine ba ?_ _)); exact BK115.out) NB115_120.out (by simp))
          have n3_ := Am (KeepBut.blk hk (g' := gb126) (o := .cells #[.int .i64 t121, u127001, u127002] 25 (0, 0)) (by (with_reducible repeat (first | refine bn ?_ _ | refine bd ?_ | refine ba ?_ _)); exact BK126.out) NB126_120.out (by simp))
          have n4_ := Am (hb)
          have n5_ := Am (hi)
          clear HO_127001
          clear HO_127002
          clear BK115
          clear BK126
          clear HB
          clear HI120
          have HO_127001 := n0_
          have HO_127002 := n1_
          have BK115 := n2_
          have BK126 := n3_
          have HB := n4_
          have HI120 := n5_
          clear n0_ n1_ n2_ n3_ n4_ n5_
          (try clear hb)
          (try clear hb2)
          (try clear hk)
          (try clear hi)
          refine hK.out _ _ ⟨(bc BK126.out 0).trans rfl, (bc BK126.out 1).trans rfl, (bc BK126.out 2).trans rfl⟩ (fun hHeld => ?_)
          clear hK K
          refine norm_ (a' := ?_) ?_ ?_
          rotate_left
          ·
           show Act.put _ (some 44) _ = _
           simp only [Act.put, sI, sZ, sS, i64_w, i32_w]
           rfl
          refine one_ (i := 5) (N := some 46) q5_20 rfl rfl (one_of HT_.out (by kernel_rfl)) (by decide) (fun K hK => ?_)
          refine goes_ Try.func20 (by kernel_rfl) rfl #[.pointer (some ⟨g120, 0, none⟩)] (by rfl) rfl rfl (by (try simp only [List.map_toArray, List.map_cons, List.map_nil]); first | done | rfl | (simp only [List.length_drop, List.length_take]; rfl)) ?_
          with_reducible refine (wire_Reader_Num.calls k2 g120 t151 t152 t153 t154 t155 t156 t157 t158 t159 w _ ?side1 ?side2 A43.out).mono ?_
          (case side1 => repeat (first | (with_reducible first | exact HI120.out | apply IsS71.alloc | apply IsS71.drewN | apply IsS71.drew | apply IsS71.set_0 | apply IsS71.set_1 | apply IsS71.set_2 | apply IsS71.set_3 | refine IsS71.far ?_ NB120_115.out _ | refine IsS71.far ?_ NB120_126.out _) | exact HI120.out))
          (case side2 => repeat (first | (with_reducible first | exact HB.out | apply bl | apply pN | apply b1 | refine bs ?_ (IsS71.ge HI120.out) | refine bs ?_ GE115.out | refine bs ?_ GE126.out) | exact HB.out | exact HBo.out))
          rintro e w49 ⟨rfl, hi, hb, hk⟩
          refine ⟨_, rfl, ?_⟩
          have n0_ := Am (Kd.R_mono (Kd.R_keep (IsS71.apart (show IsS71 w _ g120 t151 t152 t153 t154 from by repeat (first | (with_reducible first | exact HI120.out | apply IsS71.alloc | apply IsS71.drewN | apply IsS71.drew | apply IsS71.set_0 | apply IsS71.set_1 | apply IsS71.set_2 | apply IsS71.set_3 | refine IsS71.far ?_ NB120_115.out _ | refine IsS71.far ?_ NB120_126.out _) | exact HI120.out)) (by (with_reducible repeat (first | apply Kd.R_alloc | apply Kd.R_drewN | apply Kd.R_drew)); exact HO_127001.out) (by decide)) hk (fun _ h => h.2)) (fun _ h => h.1))
          have n1_ := Am (Kd.R_mono (Kd.R_keep (IsS71.apart (show IsS71 w _ g120 t151 t152 t153 t154 from by repeat (first | (with_reducible first | exact HI120.out | apply IsS71.alloc | apply IsS71.drewN | apply IsS71.drew | apply IsS71.set_0 | apply IsS71.set_1 | apply IsS71.set_2 | apply IsS71.set_3 | refine IsS71.far ?_ NB120_115.out _ | refine IsS71.far ?_ NB120_126.out _) | exact HI120.out)) (by (with_reducible repeat (first | apply Kd.R_alloc | apply Kd.R_drewN | apply Kd.R_drew)); exact HO_127002.out) (by decide)) hk (fun _ h => h.2)) (fun _ h => h.1))
          have n2_ := Am (KeepBut.blk hk (g' := gb115) (o := .cells #[.int .i64 0, .slice none 0 0, .slice none 0 0] 25 (0, 0)) (by (with_reducible repeat (first | refine bn ?_ _ | refine bd ?_ | refine ba ?_ _)); exact BK115.out) NB115_120.out (by simp))
          have n3_ := Am (KeepBut.blk hk (g' := gb126) (o := .cells #[.int .i64 t121, u127001, u127002] 25 (0, 0)) (by (with_reducible repeat (first | refine bn ?_ _ | refine bd ?_ | refine ba ?_ _)); exact BK126.out) NB126_120.out (by simp))
          have n4_ := Am (hb)
          have n5_ := Am (hi)
          clear HO_127001
          clear HO_127002
          clear BK115
          clear BK126
          clear HB
          clear HI120
          have HO_127001 := n0_
          have HO_127002 := n1_
          have BK115 := n2_
          have BK126 := n3_
          have HB := n4_
          have HI120 := n5_
          clear n0_ n1_ n2_ n3_ n4_ n5_
          (try clear hb)
          (try clear hb2)
          (try clear hk)
          (try clear hi)
          refine hK.out _ _ ⟨(bc BK126.out 0).trans rfl, (bc BK126.out 1).trans rfl, (bc BK126.out 2).trans rfl⟩ (fun hHeld => ?_)
          clear hK K
          refine norm_ (a' := ?_) ?_ ?_
          rotate_left
          ·
           show Act.put _ (some 46) _ = _
           simp only [Act.put, sI, sZ, sS, i64_w, i32_w]
           rfl
          refine one_ (i := 7) (N := some 48) q5_21 rfl rfl (one_of HT_.out (by kernel_rfl)) (by decide) (fun K hK => ?_)
          refine goes_ Try.func20 (by kernel_rfl) rfl #[.pointer (some ⟨g120, 0, none⟩)] (by rfl) rfl rfl (by (try simp only [List.map_toArray, List.map_cons, List.map_nil]); first | done | rfl | (simp only [List.length_drop, List.length_take]; rfl)) ?_
          with_reducible refine (wire_Reader_Num.calls k2 g120 t156 t157 t158 t159 t160 t161 t162 t163 t164 w _ ?side1 ?side2 A44.out).mono ?_
          (case side1 => repeat (first | (with_reducible first | exact HI120.out | apply IsS71.alloc | apply IsS71.drewN | apply IsS71.drew | apply IsS71.set_0 | apply IsS71.set_1 | apply IsS71.set_2 | apply IsS71.set_3 | refine IsS71.far ?_ NB120_115.out _ | refine IsS71.far ?_ NB120_126.out _) | exact HI120.out))
          (case side2 => repeat (first | (with_reducible first | exact HB.out | apply bl | apply pN | apply b1 | refine bs ?_ (IsS71.ge HI120.out) | refine bs ?_ GE115.out | refine bs ?_ GE126.out) | exact HB.out | exact HBo.out))
          rintro e w50 ⟨rfl, hi, hb, hk⟩
          refine ⟨_, rfl, ?_⟩
          have n0_ := Am (Kd.R_mono (Kd.R_keep (IsS71.apart (show IsS71 w _ g120 t156 t157 t158 t159 from by repeat (first | (with_reducible first | exact HI120.out | apply IsS71.alloc | apply IsS71.drewN | apply IsS71.drew | apply IsS71.set_0 | apply IsS71.set_1 | apply IsS71.set_2 | apply IsS71.set_3 | refine IsS71.far ?_ NB120_115.out _ | refine IsS71.far ?_ NB120_126.out _) | exact HI120.out)) (by (with_reducible repeat (first | apply Kd.R_alloc | apply Kd.R_drewN | apply Kd.R_drew)); exact HO_127001.out) (by decide)) hk (fun _ h => h.2)) (fun _ h => h.1))
          have n1_ := Am (Kd.R_mono (Kd.R_keep (IsS71.apart (show IsS71 w _ g120 t156 t157 t158 t159 from by repeat (first | (with_reducible first | exact HI120.out | apply IsS71.alloc | apply IsS71.drewN | apply IsS71.drew | apply IsS71.set_0 | apply IsS71.set_1 | apply IsS71.set_2 | apply IsS71.set_3 | refine IsS71.far ?_ NB120_115.out _ | refine IsS71.far ?_ NB120_126.out _) | exact HI120.out)) (by (with_reducible repeat (first | apply Kd.R_alloc | apply Kd.R_drewN | apply Kd.R_drew)); exact HO_127002.out) (by decide)) hk (fun _ h => h.2)) (fun _ h => h.1))
          have n2_ := Am (KeepBut.blk hk (g' := gb115) (o := .cells #[.int .i64 0, .slice none 0 0, .slice none 0 0] 25 (0, 0)) (by (with_reducible repeat (first | refine bn ?_ _ | refine bd ?_ | refine ba ?_ _)); exact BK115.out) NB115_120.out (by simp))
          have n3_ := Am (KeepBut.blk hk (g' := gb126) (o := .cells #[.int .i64 t121, u127001, u127002] 25 (0, 0)) (by (with_reducible repeat (first | refine bn ?_ _ | refine bd ?_ | refine ba ?_ _)); exact BK126.out) NB126_120.out (by simp))
          have n4_ := Am (hb)
          have n5_ := Am (hi)
          clear HO_127001
          clear HO_127002
          clear BK115
          clear BK126
          clear HB
          clear HI120
          have HO_127001 := n0_
          have HO_127002 := n1_
          have BK115 := n2_
          have BK126 := n3_
          have HB := n4_
          have HI120 := n5_
          clear n0_ n1_ n2_ n3_ n4_ n5_
          (try clear hb)
          (try clear hb2)
          (try clear hk)
          (try clear hi)
          refine hK.out _ _ ⟨(bc BK126.out 0).trans rfl, (bc BK126.out 1).trans rfl, (bc BK126.out 2).trans rfl⟩ (fun hHeld => ?_)
          clear hK K
          refine norm_ (a' := ?_) ?_ ?_
          rotate_left
          ·
           show Act.put _ (some 48) _ = _
           simp only [Act.put, sI, sZ, sS, i64_w, i32_w]
           rfl
          refine one_ (i := 9) (N := some 50) q5_22 rfl rfl (one_of HT_.out (by kernel_rfl)) (by decide) (fun K hK => ?_)
          refine goes_ Try.func20 (by kernel_rfl) rfl #[.pointer (some ⟨g120, 0, none⟩)] (by rfl) rfl rfl (by (try simp only [List.map_toArray, List.map_cons, List.map_nil]); first | done | rfl | (simp only [List.length_drop, List.length_take]; rfl)) ?_
          with_reducible refine (wire_Reader_Num.calls k2 g120 t161 t162 t163 t164 t165 t166 t167 t168 t169 w _ ?side1 ?side2 A45.out).mono ?_
          (case side1 => repeat (first | (with_reducible first | exact HI120.out | apply IsS71.alloc | apply IsS71.drewN | apply IsS71.drew | apply IsS71.set_0 | apply IsS71.set_1 | apply IsS71.set_2 | apply IsS71.set_3 | refine IsS71.far ?_ NB120_115.out _ | refine IsS71.far ?_ NB120_126.out _) | exact HI120.out))
          (case side2 => repeat (first | (with_reducible first | exact HB.out | apply bl | apply pN | apply b1 | refine bs ?_ (IsS71.ge HI120.out) | refine bs ?_ GE115.out | refine bs ?_ GE126.out) | exact HB.out | exact HBo.out))
          rintro e w51 ⟨rfl, hi, hb, hk⟩
          refine ⟨_, rfl, ?_⟩
          have n0_ := Am (Kd.R_mono (Kd.R_keep (IsS71.apart (show IsS71 w _ g120 t161 t162 t163 t164 from by repeat (first | (with_reducible first | exact HI120.out | apply IsS71.alloc | apply IsS71.drewN | apply IsS71.drew | apply IsS71.set_0 | apply IsS71.set_1 | apply IsS71.set_2 | apply IsS71.set_3 | refine IsS71.far ?_ NB120_115.out _ | refine IsS71.far ?_ NB120_126.out _) | exact HI120.out)) (by (with_reducible repeat (first | apply Kd.R_alloc | apply Kd.R_drewN | apply Kd.R_drew)); exact HO_127001.out) (by decide)) hk (fun _ h => h.2)) (fun _ h => h.1))
          have n1_ := Am (Kd.R_mono (Kd.R_keep (IsS71.apart (show IsS71 w _ g120 t161 t162 t163 t164 from by repeat (first | (with_reducible first | exact HI120.out | apply IsS71.alloc | apply IsS71.drewN | apply IsS71.drew | apply IsS71.set_0 | apply IsS71.set_1 | apply IsS71.set_2 | apply IsS71.set_3 | refine IsS71.far ?_ NB120_115.out _ | refine IsS71.far ?_ NB120_126.out _) | exact HI120.out)) (by (with_reducible repeat (first | apply Kd.R_alloc | apply Kd.R_drewN | apply Kd.R_drew)); exact HO_127002.out) (by decide)) hk (fun _ h => h.2)) (fun _ h => h.1))
          have n2_ := Am (KeepBut.blk hk (g' := gb115) (o := .cells #[.int .i64 0, .slice none 0 0, .slice none 0 0] 25 (0, 0)) (by (with_reducible repeat (first | refine bn ?_ _ | refine bd ?_ | refine ba ?_ _)); exact BK115.out) NB115_120.out (by simp))
          have n3_ := Am (KeepBut.blk hk (g' := gb126) (o := .cells #[.int .i64 t121, u127001, u127002] 25 (0, 0)) (by (with_reducible repeat (first | refine bn ?_ _ | refine bd ?_ | refine ba ?_ _)); exact BK126.out) NB126_120.out (by simp))
          have n4_ := Am (hb)
          have n5_ := Am (hi)
          clear HO_127001
          clear HO_127002
          clear BK115
          clear BK126
          clear HB
          clear HI120
          have HO_127001 := n0_
          have HO_127002 := n1_
          have BK115 := n2_
          have BK126 := n3_
          have HB := n4_
          have HI120 := n5_
          clear n0_ n1_ n2_ n3_ n4_ n5_
          (try clear hb)
          (try clear hb2)
          (try clear hk)
          (try clear hi)
          refine hK.out _ _ ⟨(bc BK126.out 0).trans rfl, (bc BK126.out 1).trans rfl, (bc BK126.out 2).trans rfl⟩ (fun hHeld => ?_)
          clear hK K
          refine norm_ (a' := ?_) ?_ ?_
          rotate_left
          ·
           show Act.put _ (some 50) _ = _
           simp only [Act.put, sI, sZ, sS, i64_w, i32_w]
           rfl
          refine Own.pr_ 10 (some 51) q5_23 HT_ (h := ?_)
          refine one_ (i := 11) (N := some 52) q5_24 rfl rfl (one_of HT_.out (by kernel_rfl)) (by decide) (fun K hK => ?_)
          refine value_ (w1 := ?_) (v := ?_) (by rfl) rfl ?_ ?_
          rotate_left 2
          ·
           go_simp
           constructor
           ·
            rfl
           ·
            rfl
          refine hK.out _ _ ⟨(bc (ba BK126.out _) 0).trans rfl, (bc (ba BK126.out _) 1).trans rfl, (bc (ba BK126.out _) 2).trans rfl⟩ (fun hHeld => ?_)
          clear hK K
          refine norm_ (a' := ?_) ?_ ?_
          rotate_left
          ·
           show Act.put _ (some 52) _ = _
           simp only [Act.put, sI, sZ, sS, i64_w, i32_w]
           rfl
          refine one_ (i := 12) (N := some 53) q5_25 rfl rfl (one_of HT_.out (by kernel_rfl)) (by decide) (fun K hK => ?_)
          refine Kd.R_append_step k36 (w0 := w) w.heap.size (by rfl) (.tmp 42) (.tmp 52) 23 36 (.agg #[(.int .i64 0), (.int .i64 0), (.int .i64 0), (.int .i64 0)]) 32 rfl Try.underlying23 info36 rfl (by decide) (by omega) u127002 x127002_2 (⟨t150, t155, t160, t165⟩ : S36) [.int .i64 t150, .int .i64 t155, .int .i64 t160, .int .i64 t165] (fun _ => True) (fun _ => False) rfl rfl ?aP (fun _ hk => hk.elim) ?aF ?aO ?aB ?aS ?aL ?_
          (case aP => exact k36_mkM _ _ _ (⟨t150, t155, t160, t165⟩ : S36))
          (case aB => exact (by repeat (first | (with_reducible first | exact HB.out | apply bl | apply pN | apply b1 | refine bs ?_ (IsS71.ge HI120.out) | refine bs ?_ GE115.out | refine bs ?_ GE126.out) | exact HB.out | exact HBo.out)))
          (case aF => exact (fun _ _ => trivial))
          (case aO => exact (by (with_reducible repeat (first | apply Kd.R_alloc | apply Kd.R_drewN | apply Kd.R_drew)); exact HO_127002.out))
          (case aS => exact (below_size (by repeat (first | (with_reducible first | exact HB.out | apply bl | apply pN | apply b1 | refine bs ?_ (IsS71.ge HI120.out) | refine bs ?_ GE115.out | refine bs ?_ GE126.out) | exact HB.out | exact HBo.out))))
          (case aL => have := LMc46.out; omega)
          intro v171 w52 ho hb hg hat
          rw [← Ny170.out] at ho
          have n0_ := Am (Kd.R_over' (by (with_reducible repeat (first | apply Kd.R_alloc | apply Kd.R_drewN | apply Kd.R_drew)); exact HO_127001.out) (Kd.R_typed (by (with_reducible repeat (first | apply Kd.R_alloc | apply Kd.R_drewN | apply Kd.R_drew)); exact HO_127002.out)) (by decide) hg)
          have n1_ := Am (blk_grown (g := gb115) (o := .cells #[.int .i64 0, .slice none 0 0, .slice none 0 0] 25 (0, 0)) (by (with_reducible repeat (first | refine bn ?_ _ | refine bd ?_ | refine ba ?_ _)); exact BK115.out) hg (Kd.R_ne HO_127002.out BK115.out (by decide)))
          have n2_ := Am (blk_grown (g := gb126) (o := .cells #[.int .i64 t121, u127001, u127002] 25 (0, 0)) (by (with_reducible repeat (first | refine bn ?_ _ | refine bd ?_ | refine ba ?_ _)); exact BK126.out) hg (Kd.R_ne HO_127002.out BK126.out (by decide)))
          have n3_ := Am (IsS71.grown (show IsS71 w _ g120 t166 t167 t168 t169 from by repeat (first | (with_reducible first | exact HI120.out | apply IsS71.alloc | apply IsS71.drewN | apply IsS71.drew | apply IsS71.set_0 | apply IsS71.set_1 | apply IsS71.set_2 | apply IsS71.set_3 | refine IsS71.far ?_ NB120_115.out _ | refine IsS71.far ?_ NB120_126.out _) | exact HI120.out)) hg (IsS71.own_ne HI120.out HO_127002.out (by decide)))
          have n4_ := Am (hb)
          have n5_ := Am (ho)
          clear HO_127001
          clear BK115
          clear BK126
          clear HI120
          clear HB
          clear HO_127002
          have HO_127001 := n0_
          have BK115 := n1_
          have BK126 := n2_
          have HI120 := n3_
          have HB := n4_
          have HO172 := n5_
          clear n0_ n1_ n2_ n3_ n4_ n5_
          clear ho hb hg hat
          obtain ⟨Ao53, co53, eo53⟩ := Kd.R_slice HO172.out
          (first | subst eo53 | (injection eo53 with f1_ f2_ f3_; have f4_ := f1_.symm; have f5_ := f3_.symm; clear f1_ f2_ f3_; subst f4_; subst f5_))
          refine hK.out _ _ ⟨(bc BK126.out 0).trans rfl, (bc BK126.out 1).trans rfl, (bc BK126.out 2).trans rfl⟩ (fun hHeld => ?_)
          clear hK K
          refine norm_ (a' := ?_) ?_ ?_
          rotate_left
          ·
           show Act.put _ (some 53) _ = _
           simp only [Act.put, sI, sZ, sS, i64_w, i32_w]
           rfl
          refine Own.pr_ 13 (some 54) q5_26 HT_ (h := ?_)
          refine last_ (i := 14) (N := none) q5_27 rfl rfl (one_of HT_.out (by kernel_rfl)) (by decide) (fun K hK => ?_)
          have hs54 : w52.cell? ⟨gb126, 2, none⟩ = some (u127002) := (bc BK126.out 2).trans rfl
          have hfs54 := bf BK126.out 2
          have hns54_0 := NB115_126.out
          have hms54_0 := NB126_115.out
          refine skip_ (w1 := ?_) (by rfl) rfl ?_ ?_
          rotate_left
          ·
           go_simp
           rfl
          refine hK.out _ _ ?_
          clear hK K
          refine done_ (done_of HT_.out (by kernel_rfl)) ?_
          try go_wp2
          go_roundg k2
          case measure => have := HK1.out; have := HK2.out; omega
          case rel => exact ⟨(wrap64 (x39_2 + 1)), (t166), (t167), (t168), (t169), (y170), (.slice Ao53 y170.length co53), (by first | rfl | (simp; done) | (simp [*]; done)), H', ⟨by have := HK1.out; have := HK2.out; omega⟩, ⟨by (with_reducible repeat (first | apply Kd.R_alloc | apply Kd.R_drewN | apply Kd.R_drew)); exact Kd.R_mono (Kd.R_far (p := ⟨gb126, 2, none⟩) (Kd.R_types HO_127001.out BK126.out (by decide)) (fun _ hk => hk.2) (.slice Ao53 y170.length co53)) (fun _ hk => trivial)⟩, ⟨by (with_reducible repeat (first | apply Kd.R_alloc | apply Kd.R_drewN | apply Kd.R_drew)); exact Kd.R_mono (Kd.R_far (p := ⟨gb126, 2, none⟩) (Kd.R_types HO172.out BK126.out (by decide)) (fun _ hk => hk.2) (.slice Ao53 y170.length co53)) (fun _ hk => trivial)⟩, ⟨by (with_reducible repeat (first | refine bn ?_ _ | refine bd ?_ | refine ba ?_ _)); refine blk_far ?_ NB115_126.out _; (with_reducible repeat (first | refine bn ?_ _ | refine bd ?_ | refine ba ?_ _)); exact BK115.out⟩, ⟨by (with_reducible repeat (first | refine bn ?_ _ | refine bd ?_ | refine ba ?_ _)); refine blk_put (cs := #[.int .i64 t121, u127001, u127002]) ?_ 2 _ rfl; (with_reducible repeat (first | refine bn ?_ _ | refine bd ?_ | refine ba ?_ _)); exact BK126.out⟩, ⟨by repeat (first | (with_reducible first | exact HI120.out | apply IsS71.alloc | apply IsS71.drewN | apply IsS71.drew | apply IsS71.set_0 | apply IsS71.set_1 | apply IsS71.set_2 | apply IsS71.set_3 | refine IsS71.far ?_ NB120_115.out _ | refine IsS71.far ?_ NB120_126.out _) | exact HI120.out)⟩, ⟨by repeat (first | (with_reducible first | exact HB.out | apply bl | apply pN | apply b1 | refine bs ?_ (IsS71.ge HI120.out) | refine bs ?_ GE115.out | refine bs ?_ GE126.out) | exact HB.out | exact HBo.out)⟩⟩
         ·
          rw [if_neg c46] at H
          exact absurd H (by simp)
        ·
         rw [if_neg c41] at H
         have c41b0 : decide (x39_2 < t145) = false := decide_eq_false c41
         clear c41
         replace H := ob H
         obtain ⟨⟨t173, t174, t175, t176, t177, t178⟩, A550, H⟩ := H
         replace H : (if t173 = 0 then ((wire_Reader_Done.f t175 t176 t177 t178).bind fun bt179 => (if bt179.1 = true then ((snap_May.f t121 x127001_1 x127002_2).bind fun t184 => (if t184 = true then (some (t121, x127001_1, x127002_2, 0)) else (some (0, ([] : List (S46)), ([] : List (S36)), 80)))) else (some (0, ([] : List (S46)), ([] : List (S36)), 80)))) else (some (0, ([] : List (S46)), ([] : List (S36)), t173))) = some (r1, r2, r3, r4) := H
         have A55 := Am A550
         clear A550
         by_cases c56 : t173 = 0
         ·
          rw [if_pos c56] at H
          have c56b0 : (t173 == 0) = true := beq_iff_eq.mpr c56
          have c56b1 : (t173 != 0) = false := bne_eq_false_iff_eq.mpr c56
          clear c56
          replace H := ob H
          obtain ⟨⟨t179, t180, t181, t182, t183⟩, A570, H⟩ := H
          replace H : (if t179 = true then ((snap_May.f t121 x127001_1 x127002_2).bind fun t184 => (if t184 = true then (some (t121, x127001_1, x127002_2, 0)) else (some (0, ([] : List (S46)), ([] : List (S36)), 80)))) else (some (0, ([] : List (S46)), ([] : List (S36)), 80))) = some (r1, r2, r3, r4) := H
          have A57 := Am A570
          clear A570
          by_cases c58 : t179 = true
          ·
           subst c58
           have H1 : ((snap_May.f t121 x127001_1 x127002_2).bind fun t184 => (if t184 = true then (some (t121, x127001_1, x127002_2, 0)) else (some (0, ([] : List (S46)), ([] : List (S36)), 80)))) = some (r1, r2, r3, r4) := by rw [if_pos rfl] at H; exact H
           clear H
           have H := H1
           clear H1
           replace H := ob H
           obtain ⟨t184, A590, H⟩ := H
           replace H : (if t184 = true then (some (t121, x127001_1, x127002_2, 0)) else (some (0, ([] : List (S46)), ([] : List (S36)), 80))) = some (r1, r2, r3, r4) := H
           have A59 := Am A590
           clear A590
           by_cases c60 : t184 = true
           ·
            subst c60
            have H1 : (some (t121, x127001_1, x127002_2, 0)) = some (r1, r2, r3, r4) := by rw [if_pos rfl] at H; exact H
            clear H
            have H := H1
            clear H1
            simp only [Option.some.injEq, Prod.mk.injEq] at H
            obtain ⟨rfl, rfl, rfl, rfl⟩ := H
            go_wp2_with (first | ((with_reducible refine gate_callee (f := 21) rfl ?_); refine goesL_ (some 58) rfl rfl Try.func21 (by kernel_rfl) rfl #[.pointer (some ⟨g120, 0, none⟩)] rfl (by (try simp only [List.map_toArray, List.map_cons, List.map_nil]); first | done | rfl | (simp only [List.length_drop, List.length_take]; rfl)) ?_; (with_reducible refine (wire_Reader_Err.calls g120 x121000_2 x121001_2 x121002_2 x121003_2 t173 t174 t175 t176 t177 t178 w _ ?side1 ?side2 A55.out).mono ?_); (case side1 => repeat (first | (with_reducible first | exact HI120.out | apply IsS71.alloc | apply IsS71.drewN | apply IsS71.drew | apply IsS71.set_0 | apply IsS71.set_1 | apply IsS71.set_2 | apply IsS71.set_3 | refine IsS71.far ?_ NB120_115.out _ | refine IsS71.far ?_ NB120_126.out _) | exact HI120.out)); (case side2 => repeat (first | (with_reducible first | exact HB.out | apply bl | apply pN | apply b1 | refine bs ?_ (IsS71.ge HI120.out) | refine bs ?_ GE115.out | refine bs ?_ GE126.out) | exact HB.out | exact HBo.out)); rintro e w61 ⟨rfl, hi, hb, hk⟩; refine ⟨_, rfl, ?_⟩; have n0_ := Am (Kd.R_mono (Kd.R_keep (IsS71.apart (show IsS71 w _ g120 x121000_2 x121001_2 x121002_2 x121003_2 from by repeat (first | (with_reducible first | exact HI120.out | apply IsS71.alloc | apply IsS71.drewN | apply IsS71.drew | apply IsS71.set_0 | apply IsS71.set_1 | apply IsS71.set_2 | apply IsS71.set_3 | refine IsS71.far ?_ NB120_115.out _ | refine IsS71.far ?_ NB120_126.out _) | exact HI120.out)) (by (with_reducible repeat (first | apply Kd.R_alloc | apply Kd.R_drewN | apply Kd.R_drew)); exact HO_127001.out) (by decide)) hk (fun _ h => h.2)) (fun _ h => h.1)); have n1_ := Am (Kd.R_mono (Kd.R_keep (IsS71.apart (show IsS71 w _ g120 x121000_2 x121001_2 x121002_2 x121003_2 from by repeat (first | (with_reducible first | exact HI120.out | apply IsS71.alloc | apply IsS71.drewN | apply IsS71.drew | apply IsS71.set_0 | apply IsS71.set_1 | apply IsS71.set_2 | apply IsS71.set_3 | refine IsS71.far ?_ NB120_115.out _ | refine IsS71.far ?_ NB120_126.out _) | exact HI120.out)) (by (with_reducible repeat (first | apply Kd.R_alloc | apply Kd.R_drewN | apply Kd.R_drew)); exact HO_127002.out) (by decide)) hk (fun _ h => h.2)) (fun _ h => h.1)); have n2_ := Am (KeepBut.blk hk (g' := gb115) (o := .cells #[.int .i64 0, .slice none 0 0, .slice none 0 0] 25 (0, 0)) (by (with_reducible repeat (first | refine bn ?_ _ | refine bd ?_ | refine ba ?_ _)); exact BK115.out) NB115_120.out (by simp)); have n3_ := Am (KeepBut.blk hk (g' := gb126) (o := .cells #[.int .i64 t121, u127001, u127002] 25 (0, 0)) (by (with_reducible repeat (first | refine bn ?_ _ | refine bd ?_ | refine ba ?_ _)); exact BK126.out) NB126_120.out (by simp)); have n4_ := Am (hb); have n5_ := Am (hi); clear HO_127001; clear HO_127002; clear BK115; clear BK126; clear HB; clear HI120; have HO_127001 := n0_; have HO_127002 := n1_; have BK115 := n2_; have BK126 := n3_; have HB := n4_; have HI120 := n5_; clear n0_ n1_ n2_ n3_ n4_ n5_; (try clear hb); (try clear hb2); (try clear hk); (try clear hi)) | ((with_reducible refine gate_callee (f := 22) rfl ?_); refine goesL_ (some 66) rfl rfl Try.func22 (by kernel_rfl) rfl #[.pointer (some ⟨g120, 0, none⟩)] rfl (by (try simp only [List.map_toArray, List.map_cons, List.map_nil]); first | done | rfl | (simp only [List.length_drop, List.length_take]; rfl)) ?_; (with_reducible refine (wire_Reader_Done.calls g120 t175 t176 t177 t178 true t180 t181 t182 t183 w _ ?side1 ?side2 A57.out).mono ?_); (case side1 => repeat (first | (with_reducible first | exact HI120.out | apply IsS71.alloc | apply IsS71.drewN | apply IsS71.drew | apply IsS71.set_0 | apply IsS71.set_1 | apply IsS71.set_2 | apply IsS71.set_3 | refine IsS71.far ?_ NB120_115.out _ | refine IsS71.far ?_ NB120_126.out _) | exact HI120.out)); (case side2 => repeat (first | (with_reducible first | exact HB.out | apply bl | apply pN | apply b1 | refine bs ?_ (IsS71.ge HI120.out) | refine bs ?_ GE115.out | refine bs ?_ GE126.out) | exact HB.out | exact HBo.out)); rintro e w62 ⟨rfl, hi, hb, hk⟩; refine ⟨_, rfl, ?_⟩; have n0_ := Am (Kd.R_mono (Kd.R_keep (IsS71.apart (show IsS71 w _ g120 t175 t176 t177 t178 from by repeat (first | (with_reducible first | exact HI120.out | apply IsS71.alloc | apply IsS71.drewN | apply IsS71.drew | apply IsS71.set_0 | apply IsS71.set_1 | apply IsS71.set_2 | apply IsS71.set_3 | refine IsS71.far ?_ NB120_115.out _ | refine IsS71.far ?_ NB120_126.out _) | exact HI120.out)) (by (with_reducible repeat (first | apply Kd.R_alloc | apply Kd.R_drewN | apply Kd.R_drew)); exact HO_127001.out) (by decide)) hk (fun _ h => h.2)) (fun _ h => h.1)); have n1_ := Am (Kd.R_mono (Kd.R_keep (IsS71.apart (show IsS71 w _ g120 t175 t176 t177 t178 from by repeat (first | (with_reducible first | exact HI120.out | apply IsS71.alloc | apply IsS71.drewN | apply IsS71.drew | apply IsS71.set_0 | apply IsS71.set_1 | apply IsS71.set_2 | apply IsS71.set_3 | refine IsS71.far ?_ NB120_115.out _ | refine IsS71.far ?_ NB120_126.out _) | exact HI120.out)) (by (with_reducible repeat (first | apply Kd.R_alloc | apply Kd.R_drewN | apply Kd.R_drew)); exact HO_127002.out) (by decide)) hk (fun _ h => h.2)) (fun _ h => h.1)); have n2_ := Am (KeepBut.blk hk (g' := gb115) (o := .cells #[.int .i64 0, .slice none 0 0, .slice none 0 0] 25 (0, 0)) (by (with_reducible repeat (first | refine bn ?_ _ | refine bd ?_ | refine ba ?_ _)); exact BK115.out) NB115_120.out (by simp)); have n3_ := Am (KeepBut.blk hk (g' := gb126) (o := .cells #[.int .i64 t121, u127001, u127002] 25 (0, 0)) (by (with_reducible repeat (first | refine bn ?_ _ | refine bd ?_ | refine ba ?_ _)); exact BK126.out) NB126_120.out (by simp)); have n4_ := Am (hb); have n5_ := Am (hi); clear HO_127001; clear HO_127002; clear BK115; clear BK126; clear HB; clear HI120; have HO_127001 := n0_; have HO_127002 := n1_; have BK115 := n2_; have BK126 := n3_; have HB := n4_; have HI120 := n5_; clear n0_ n1_ n2_ n3_ n4_ n5_; (try clear hb); (try clear hb2); (try clear hk); (try clear hi); have hnb63 := NB126_115.out; have hnc63 := NB115_126.out; have hnb64 := NB126_120.out; have hnc64 := NB120_126.out; have hcz65_0 : w62.cell? ⟨gb126, 0, none⟩ = some (.int .i64 t121) := (bc BK126.out 0).trans rfl; have hcz65_1 : w62.cell? ⟨gb126, 1, none⟩ = some (u127001) := (bc BK126.out 1).trans rfl; have hcz65_2 : w62.cell? ⟨gb126, 2, none⟩ = some (u127002) := (bc BK126.out 2).trans rfl; have hfz65_0 := bf BK126.out 0; have hfz65_1 := bf BK126.out 1; have hfz65_2 := bf BK126.out 2; obtain ⟨Ao66, co66, eo66⟩ := Kd.R_slice HO_127001.out; subst eo66; obtain ⟨Ao67, co67, eo67⟩ := Kd.R_slice HO_127002.out; subst eo67) | (go_at_call 12; (with_reducible refine (snap_May.calls t121 _ _ x127001_1 _ _ x127002_2 true _ ?side1 ?side2 ?side3 ?side4 A59.out).mono ?_); (case side1 => repeat (first | exact (Kd.R_reads' HO_127001.out).2.2 | (with_reducible refine Kd.C_alloc ?_ _) | (with_reducible refine Kd.C_drewN ?_ _) | (with_reducible refine Kd.C_drew ?_))); (case side2 => exact (Kd.R_reads' HO_127001.out).2.1); (case side3 => repeat (first | exact (Kd.R_reads' HO_127002.out).2.2 | (with_reducible refine Kd.C_alloc ?_ _) | (with_reducible refine Kd.C_drewN ?_ _) | (with_reducible refine Kd.C_drew ?_))); (case side4 => exact (Kd.R_reads' HO_127002.out).2.1); rintro e w68 ⟨rfl, hb⟩; have n0_ := Am (Kd.R_below (by (with_reducible repeat (first | apply Kd.R_alloc | apply Kd.R_drewN | apply Kd.R_drew)); exact HO_127001.out) hb); have n1_ := Am (Kd.R_below (by (with_reducible repeat (first | apply Kd.R_alloc | apply Kd.R_drewN | apply Kd.R_drew)); exact HO_127002.out) hb); have n2_ := Am (blk_below (g := gb115) (o := .cells #[.int .i64 0, .slice none 0 0, .slice none 0 0] 25 (0, 0)) (by (with_reducible repeat (first | refine bn ?_ _ | refine bd ?_ | refine ba ?_ _)); exact BK115.out) hb); have n3_ := Am (blk_below (g := gb126) (o := .cells #[.int .i64 t121, .slice Ao66 x127001_1.length co66, .slice Ao67 x127002_2.length co67] 25 (0, 0)) (by (with_reducible repeat (first | refine bn ?_ _ | refine bd ?_ | refine ba ?_ _)); exact BK126.out) hb); have n4_ := Am (IsS71.below (by repeat (first | (with_reducible first | exact HI120.out | apply IsS71.alloc | apply IsS71.drewN | apply IsS71.drew | apply IsS71.set_0 | apply IsS71.set_1 | apply IsS71.set_2 | apply IsS71.set_3 | refine IsS71.far ?_ NB120_115.out _ | refine IsS71.far ?_ NB120_126.out _) | exact HI120.out)) hb); have n5_ := Am (below_step (by repeat (first | (with_reducible first | exact HB.out | apply bl | apply pN | apply b1 | refine bs ?_ (IsS71.ge HI120.out) | refine bs ?_ GE115.out | refine bs ?_ GE126.out) | exact HB.out | exact HBo.out)) hb); clear HO_127001; clear HO_127002; clear BK115; clear BK126; clear HI120; clear HB; have HO_127001 := n0_; have HO_127002 := n1_; have BK115 := n2_; have BK126 := n3_; have HI120 := n4_; have HB := n5_; clear n0_ n1_ n2_ n3_ n4_ n5_; (try clear hb); (try clear hb2); (try clear hk); (try clear hi); have hcz69_0 : w68.cell? ⟨gb126, 0, none⟩ = some (.int .i64 t121) := (bc BK126.out 0).trans rfl; have hcz69_1 : w68.cell? ⟨gb126, 1, none⟩ = some (.slice Ao66 x127001_1.length co66) := (bc BK126.out 1).trans rfl; have hcz69_2 : w68.cell? ⟨gb126, 2, none⟩ = some (.slice Ao67 x127002_2.length co67) := (bc BK126.out 2).trans rfl; have hfz69_0 := bf BK126.out 0; have hfz69_1 := bf BK126.out 1; have hfz69_2 := bf BK126.out 2; have hnb70 := NB115_120.out; have hnc70 := NB120_115.out; have hcz71_0 : w68.cell? ⟨gb115, 0, none⟩ = some (.int .i64 0) := (bc BK115.out 0).trans rfl; have hcz71_1 : w68.cell? ⟨gb115, 1, none⟩ = some (.slice none 0 0) := (bc BK115.out 1).trans rfl; have hcz71_2 : w68.cell? ⟨gb115, 2, none⟩ = some (.slice none 0 0) := (bc BK115.out 2).trans rfl; have hfz71_0 := bf BK115.out 0; have hfz71_1 := bf BK115.out 1; have hfz71_2 := bf BK115.out 2))
            refine bodyPost_ret (results_ct rfl _ _ gb115 25 #[.int .i64 t121, .slice Ao66 x127001_1.length co66, .slice Ao67 x127002_2.length co67] (0, 0) _ rfl (by (with_reducible repeat (first | refine bn ?_ _ | refine bd ?_ | refine ba ?_ _)); refine blk_put (cs := #[.int .i64 t121, .slice Ao66 x127001_1.length co66, .slice none 0 0]) ?_ 2 _ rfl; (with_reducible repeat (first | refine bn ?_ _ | refine bd ?_ | refine ba ?_ _)); refine blk_put (cs := #[.int .i64 t121, .slice none 0 0, .slice none 0 0]) ?_ 1 _ rfl; (with_reducible repeat (first | refine bn ?_ _ | refine bd ?_ | refine ba ?_ _)); refine blk_put (cs := #[.int .i64 0, .slice none 0 0, .slice none 0 0]) ?_ 0 _ rfl; (with_reducible repeat (first | refine bn ?_ _ | refine bd ?_ | refine ba ?_ _)); exact BK115.out) Try.underlying25 rfl (by kernel_rfl)) rfl ?_
            exact ⟨_, _, by first | rfl | (simp [errW_none, errW_some] <;> rfl) | (simp [*, errW_none, errW_some] <;> rfl) | (simp [Aid.ne_nil, Aid.eq_nil, errW_none, errW_some]; done), by (with_reducible repeat (first | apply Kd.R_alloc | apply Kd.R_drewN | apply Kd.R_drew)); exact Kd.R_mono (Kd.R_far (p := ⟨gb115, 2, none⟩) (Kd.R_far (p := ⟨gb115, 1, none⟩) (Kd.R_far (p := ⟨gb115, 0, none⟩) (Kd.R_types HO_127001.out BK115.out (by decide)) (fun _ hk => hk.2) (.int .i64 t121)) (fun _ hk => hk.2) (.slice Ao66 x127001_1.length co66)) (fun _ hk => hk.2) (.slice Ao67 x127002_2.length co67)) (fun _ hk => trivial), by (with_reducible repeat (first | apply Kd.R_alloc | apply Kd.R_drewN | apply Kd.R_drew)); exact Kd.R_mono (Kd.R_far (p := ⟨gb115, 2, none⟩) (Kd.R_far (p := ⟨gb115, 1, none⟩) (Kd.R_far (p := ⟨gb115, 0, none⟩) (Kd.R_types HO_127002.out BK115.out (by decide)) (fun _ hk => hk.2) (.int .i64 t121)) (fun _ hk => hk.2) (.slice Ao66 x127001_1.length co66)) (fun _ hk => hk.2) (.slice Ao67 x127002_2.length co67)) (fun _ hk => trivial), by repeat (first | (with_reducible first | exact HB.out | apply bl | apply pN | apply b1 | refine bs ?_ (IsS71.ge HI120.out) | refine bs ?_ GE115.out | refine bs ?_ GE126.out) | exact HB.out | exact HBo.out)⟩
           ·
            replace c60 := Bool.eq_false_iff.mpr c60
            subst c60
            have H1 : (some (0, ([] : List (S46)), ([] : List (S36)), 80)) = some (r1, r2, r3, r4) := by rw [if_neg (show ¬ (false = true) by decide)] at H; exact H
            clear H
            have H := H1
            clear H1
            simp only [Option.some.injEq, Prod.mk.injEq] at H
            obtain ⟨rfl, rfl, rfl, rfl⟩ := H
            go_wp2_with (first | ((with_reducible refine gate_callee (f := 21) rfl ?_); refine goesL_ (some 58) rfl rfl Try.func21 (by kernel_rfl) rfl #[.pointer (some ⟨g120, 0, none⟩)] rfl (by (try simp only [List.map_toArray, List.map_cons, List.map_nil]); first | done | rfl | (simp only [List.length_drop, List.length_take]; rfl)) ?_; (with_reducible refine (wire_Reader_Err.calls g120 x121000_2 x121001_2 x121002_2 x121003_2 t173 t174 t175 t176 t177 t178 w _ ?side1 ?side2 A55.out).mono ?_); (case side1 => repeat (first | (with_reducible first | exact HI120.out | apply IsS71.alloc | apply IsS71.drewN | apply IsS71.drew | apply IsS71.set_0 | apply IsS71.set_1 | apply IsS71.set_2 | apply IsS71.set_3 | refine IsS71.far ?_ NB120_115.out _ | refine IsS71.far ?_ NB120_126.out _) | exact HI120.out)); (case side2 => repeat (first | (with_reducible first | exact HB.out | apply bl | apply pN | apply b1 | refine bs ?_ (IsS71.ge HI120.out) | refine bs ?_ GE115.out | refine bs ?_ GE126.out) | exact HB.out | exact HBo.out)); rintro e w72 ⟨rfl, hi, hb, hk⟩; refine ⟨_, rfl, ?_⟩; have n0_ := Am (Kd.R_mono (Kd.R_keep (IsS71.apart (show IsS71 w _ g120 x121000_2 x121001_2 x121002_2 x121003_2 from by repeat (first | (with_reducible first | exact HI120.out | apply IsS71.alloc | apply IsS71.drewN | apply IsS71.drew | apply IsS71.set_0 | apply IsS71.set_1 | apply IsS71.set_2 | apply IsS71.set_3 | refine IsS71.far ?_ NB120_115.out _ | refine IsS71.far ?_ NB120_126.out _) | exact HI120.out)) (by (with_reducible repeat (first | apply Kd.R_alloc | apply Kd.R_drewN | apply Kd.R_drew)); exact HO_127001.out) (by decide)) hk (fun _ h => h.2)) (fun _ h => h.1)); have n1_ := Am (Kd.R_mono (Kd.R_keep (IsS71.apart (show IsS71 w _ g120 x121000_2 x121001_2 x121002_2 x121003_2 from by repeat (first | (with_reducible first | exact HI120.out | apply IsS71.alloc | apply IsS71.drewN | apply IsS71.drew | apply IsS71.set_0 | apply IsS71.set_1 | apply IsS71.set_2 | apply IsS71.set_3 | refine IsS71.far ?_ NB120_115.out _ | refine IsS71.far ?_ NB120_126.out _) | exact HI120.out)) (by (with_reducible repeat (first | apply Kd.R_alloc | apply Kd.R_drewN | apply Kd.R_drew)); exact HO_127002.out) (by decide)) hk (fun _ h => h.2)) (fun _ h => h.1)); have n2_ := Am (KeepBut.blk hk (g' := gb115) (o := .cells #[.int .i64 0, .slice none 0 0, .slice none 0 0] 25 (0, 0)) (by (with_reducible repeat (first | refine bn ?_ _ | refine bd ?_ | refine ba ?_ _)); exact BK115.out) NB115_120.out (by simp)); have n3_ := Am (KeepBut.blk hk (g' := gb126) (o := .cells #[.int .i64 t121, u127001, u127002] 25 (0, 0)) (by (with_reducible repeat (first | refine bn ?_ _ | refine bd ?_ | refine ba ?_ _)); exact BK126.out) NB126_120.out (by simp)); have n4_ := Am (hb); have n5_ := Am (hi); clear HO_127001; clear HO_127002; clear BK115; clear BK126; clear HB; clear HI120; have HO_127001 := n0_; have HO_127002 := n1_; have BK115 := n2_; have BK126 := n3_; have HB := n4_; have HI120 := n5_; clear n0_ n1_ n2_ n3_ n4_ n5_; (try clear hb); (try clear hb2); (try clear hk); (try clear hi)) | ((with_reducible refine gate_callee (f := 22) rfl ?_); refine goesL_ (some 66) rfl rfl Try.func22 (by kernel_rfl) rfl #[.pointer (some ⟨g120, 0, none⟩)] rfl (by (try simp only [List.map_toArray, List.map_cons, List.map_nil]); first | done | rfl | (simp only [List.length_drop, List.length_take]; rfl)) ?_; (with_reducible refine (wire_Reader_Done.calls g120 t175 t176 t177 t178 true t180 t181 t182 t183 w _ ?side1 ?side2 A57.out).mono ?_); (case side1 => repeat (first | (with_reducible first | exact HI120.out | apply IsS71.alloc | apply IsS71.drewN | apply IsS71.drew | apply IsS71.set_0 | apply IsS71.set_1 | apply IsS71.set_2 | apply IsS71.set_3 | refine IsS71.far ?_ NB120_115.out _ | refine IsS71.far ?_ NB120_126.out _) | exact HI120.out)); (case side2 => repeat (first | (with_reducible first | exact HB.out | apply bl | apply pN | apply b1 | refine bs ?_ (IsS71.ge HI120.out) | refine bs ?_ GE115.out | refine bs ?_ GE126.out) | exact HB.out | exact HBo.out)); rintro e w73 ⟨rfl, hi, hb, hk⟩; refine ⟨_, rfl, ?_⟩; have n0_ := Am (Kd.R_mono (Kd.R_keep (IsS71.apart (show IsS71 w _ g120 t175 t176 t177 t178 from by repeat (first | (with_reducible first | exact HI120.out | apply IsS71.alloc | apply IsS71.drewN | apply IsS71.drew | apply IsS71.set_0 | apply IsS71.set_1 | apply IsS71.set_2 | apply IsS71.set_3 | refine IsS71.far ?_ NB120_115.out _ | refine IsS71.far ?_ NB120_126.out _) | exact HI120.out)) (by (with_reducible repeat (first | apply Kd.R_alloc | apply Kd.R_drewN | apply Kd.R_drew)); exact HO_127001.out) (by decide)) hk (fun _ h => h.2)) (fun _ h => h.1)); have n1_ := Am (Kd.R_mono (Kd.R_keep (IsS71.apart (show IsS71 w _ g120 t175 t176 t177 t178 from by repeat (first | (with_reducible first | exact HI120.out | apply IsS71.alloc | apply IsS71.drewN | apply IsS71.drew | apply IsS71.set_0 | apply IsS71.set_1 | apply IsS71.set_2 | apply IsS71.set_3 | refine IsS71.far ?_ NB120_115.out _ | refine IsS71.far ?_ NB120_126.out _) | exact HI120.out)) (by (with_reducible repeat (first | apply Kd.R_alloc | apply Kd.R_drewN | apply Kd.R_drew)); exact HO_127002.out) (by decide)) hk (fun _ h => h.2)) (fun _ h => h.1)); have n2_ := Am (KeepBut.blk hk (g' := gb115) (o := .cells #[.int .i64 0, .slice none 0 0, .slice none 0 0] 25 (0, 0)) (by (with_reducible repeat (first | refine bn ?_ _ | refine bd ?_ | refine ba ?_ _)); exact BK115.out) NB115_120.out (by simp)); have n3_ := Am (KeepBut.blk hk (g' := gb126) (o := .cells #[.int .i64 t121, u127001, u127002] 25 (0, 0)) (by (with_reducible repeat (first | refine bn ?_ _ | refine bd ?_ | refine ba ?_ _)); exact BK126.out) NB126_120.out (by simp)); have n4_ := Am (hb); have n5_ := Am (hi); clear HO_127001; clear HO_127002; clear BK115; clear BK126; clear HB; clear HI120; have HO_127001 := n0_; have HO_127002 := n1_; have BK115 := n2_; have BK126 := n3_; have HB := n4_; have HI120 := n5_; clear n0_ n1_ n2_ n3_ n4_ n5_; (try clear hb); (try clear hb2); (try clear hk); (try clear hi); have hnb74 := NB126_115.out; have hnc74 := NB115_126.out; have hnb75 := NB126_120.out; have hnc75 := NB120_126.out; have hcz76_0 : w73.cell? ⟨gb126, 0, none⟩ = some (.int .i64 t121) := (bc BK126.out 0).trans rfl; have hcz76_1 : w73.cell? ⟨gb126, 1, none⟩ = some (u127001) := (bc BK126.out 1).trans rfl; have hcz76_2 : w73.cell? ⟨gb126, 2, none⟩ = some (u127002) := (bc BK126.out 2).trans rfl; have hfz76_0 := bf BK126.out 0; have hfz76_1 := bf BK126.out 1; have hfz76_2 := bf BK126.out 2; obtain ⟨Ao77, co77, eo77⟩ := Kd.R_slice HO_127001.out; subst eo77; obtain ⟨Ao78, co78, eo78⟩ := Kd.R_slice HO_127002.out; subst eo78) | (go_at_call 12; (with_reducible refine (snap_May.calls t121 _ _ x127001_1 _ _ x127002_2 false _ ?side1 ?side2 ?side3 ?side4 A59.out).mono ?_); (case side1 => repeat (first | exact (Kd.R_reads' HO_127001.out).2.2 | (with_reducible refine Kd.C_alloc ?_ _) | (with_reducible refine Kd.C_drewN ?_ _) | (with_reducible refine Kd.C_drew ?_))); (case side2 => exact (Kd.R_reads' HO_127001.out).2.1); (case side3 => repeat (first | exact (Kd.R_reads' HO_127002.out).2.2 | (with_reducible refine Kd.C_alloc ?_ _) | (with_reducible refine Kd.C_drewN ?_ _) | (with_reducible refine Kd.C_drew ?_))); (case side4 => exact (Kd.R_reads' HO_127002.out).2.1); rintro e w79 ⟨rfl, hb⟩; have n0_ := Am (Kd.R_below (by (with_reducible repeat (first | apply Kd.R_alloc | apply Kd.R_drewN | apply Kd.R_drew)); exact HO_127001.out) hb); have n1_ := Am (Kd.R_below (by (with_reducible repeat (first | apply Kd.R_alloc | apply Kd.R_drewN | apply Kd.R_drew)); exact HO_127002.out) hb); have n2_ := Am (blk_below (g := gb115) (o := .cells #[.int .i64 0, .slice none 0 0, .slice none 0 0] 25 (0, 0)) (by (with_reducible repeat (first | refine bn ?_ _ | refine bd ?_ | refine ba ?_ _)); exact BK115.out) hb); have n3_ := Am (blk_below (g := gb126) (o := .cells #[.int .i64 t121, .slice Ao77 x127001_1.length co77, .slice Ao78 x127002_2.length co78] 25 (0, 0)) (by (with_reducible repeat (first | refine bn ?_ _ | refine bd ?_ | refine ba ?_ _)); exact BK126.out) hb); have n4_ := Am (IsS71.below (by repeat (first | (with_reducible first | exact HI120.out | apply IsS71.alloc | apply IsS71.drewN | apply IsS71.drew | apply IsS71.set_0 | apply IsS71.set_1 | apply IsS71.set_2 | apply IsS71.set_3 | refine IsS71.far ?_ NB120_115.out _ | refine IsS71.far ?_ NB120_126.out _) | exact HI120.out)) hb); have n5_ := Am (below_step (by repeat (first | (with_reducible first | exact HB.out | apply bl | apply pN | apply b1 | refine bs ?_ (IsS71.ge HI120.out) | refine bs ?_ GE115.out | refine bs ?_ GE126.out) | exact HB.out | exact HBo.out)) hb); clear HO_127001; clear HO_127002; clear BK115; clear BK126; clear HI120; clear HB; have HO_127001 := n0_; have HO_127002 := n1_; have BK115 := n2_; have BK126 := n3_; have HI120 := n4_; have HB := n5_; clear n0_ n1_ n2_ n3_ n4_ n5_; (try clear hb); (try clear hb2); (try clear hk); (try clear hi); have hnb80 := NB115_120.out; have hnc80 := NB120_115.out; have hcz81_0 : w79.cell? ⟨gb115, 0, none⟩ = some (.int .i64 0) := (bc BK115.out 0).trans rfl; have hcz81_1 : w79.cell? ⟨gb115, 1, none⟩ = some (.slice none 0 0) := (bc BK115.out 1).trans rfl; have hcz81_2 : w79.cell? ⟨gb115, 2, none⟩ = some (.slice none 0 0) := (bc BK115.out 2).trans rfl; have hfz81_0 := bf BK115.out 0; have hfz81_1 := bf BK115.out 1; have hfz81_2 := bf BK115.out 2))
            refine bodyPost_ret (results_ct rfl _ _ gb115 25 #[.int .i64 0, .slice none 0 0, .slice none 0 0] (0, 0) _ rfl (by (with_reducible repeat (first | refine bn ?_ _ | refine bd ?_ | refine ba ?_ _)); refine blk_put (cs := #[.int .i64 0, .slice none 0 0, .slice none 0 0]) ?_ 2 _ rfl; (with_reducible repeat (first | refine bn ?_ _ | refine bd ?_ | refine ba ?_ _)); refine blk_put (cs := #[.int .i64 0, .slice none 0 0, .slice none 0 0]) ?_ 1 _ rfl; (with_reducible repeat (first | refine bn ?_ _ | refine bd ?_ | refine ba ?_ _)); refine blk_put (cs := #[.int .i64 0, .slice none 0 0, .slice none 0 0]) ?_ 0 _ rfl; (with_reducible repeat (first | refine bn ?_ _ | refine bd ?_ | refine ba ?_ _)); exact BK115.out) Try.underlying25 rfl (by kernel_rfl)) rfl ?_
            exact ⟨_, _, by first | rfl | (simp [errW_none, errW_some] <;> rfl) | (simp [*, errW_none, errW_some] <;> rfl) | (simp [Aid.ne_nil, Aid.eq_nil, errW_none, errW_some]; done), by first | exact Kd.R_nil _ _ _ _ _ | exact Kd.N_nil _ _ _ _ _ | exact Kd.V_nil _ _ _ _ _ | exact Kd.Q_nil _ _ _ _ _ | exact Kd.S_nil _ _ _ _ _, by first | exact Kd.R_nil _ _ _ _ _ | exact Kd.N_nil _ _ _ _ _ | exact Kd.V_nil _ _ _ _ _ | exact Kd.Q_nil _ _ _ _ _ | exact Kd.S_nil _ _ _ _ _, by repeat (first | (with_reducible first | exact HB.out | apply bl | apply pN | apply b1 | refine bs ?_ (IsS71.ge HI120.out) | refine bs ?_ GE115.out | refine bs ?_ GE126.out) | exact HB.out | exact HBo.out)⟩
          ·
           replace c58 := Bool.eq_false_iff.mpr c58
           subst c58
           have H1 : (some (0, ([] : List (S46)), ([] : List (S36)), 80)) = some (r1, r2, r3, r4) := by rw [if_neg (show ¬ (false = true) by decide)] at H; exact H
           clear H
           have H := H1
           clear H1
           simp only [Option.some.injEq, Prod.mk.injEq] at H
           obtain ⟨rfl, rfl, rfl, rfl⟩ := H
           go_wp2_with (first | ((with_reducible refine gate_callee (f := 21) rfl ?_); refine goesL_ (some 58) rfl rfl Try.func21 (by kernel_rfl) rfl #[.pointer (some ⟨g120, 0, none⟩)] rfl (by (try simp only [List.map_toArray, List.map_cons, List.map_nil]); first | done | rfl | (simp only [List.length_drop, List.length_take]; rfl)) ?_; (with_reducible refine (wire_Reader_Err.calls g120 x121000_2 x121001_2 x121002_2 x121003_2 t173 t174 t175 t176 t177 t178 w _ ?side1 ?side2 A55.out).mono ?_); (case side1 => repeat (first | (with_reducible first | exact HI120.out | apply IsS71.alloc | apply IsS71.drewN | apply IsS71.drew | apply IsS71.set_0 | apply IsS71.set_1 | apply IsS71.set_2 | apply IsS71.set_3 | refine IsS71.far ?_ NB120_115.out _ | refine IsS71.far ?_ NB120_126.out _) | exact HI120.out)); (case side2 => repeat (first | (with_reducible first | exact HB.out | apply bl | apply pN | apply b1 | refine bs ?_ (IsS71.ge HI120.out) | refine bs ?_ GE115.out | refine bs ?_ GE126.out) | exact HB.out | exact HBo.out)); rintro e w82 ⟨rfl, hi, hb, hk⟩; refine ⟨_, rfl, ?_⟩; have n0_ := Am (Kd.R_mono (Kd.R_keep (IsS71.apart (show IsS71 w _ g120 x121000_2 x121001_2 x121002_2 x121003_2 from by repeat (first | (with_reducible first | exact HI120.out | apply IsS71.alloc | apply IsS71.drewN | apply IsS71.drew | apply IsS71.set_0 | apply IsS71.set_1 | apply IsS71.set_2 | apply IsS71.set_3 | refine IsS71.far ?_ NB120_115.out _ | refine IsS71.far ?_ NB120_126.out _) | exact HI120.out)) (by (with_reducible repeat (first | apply Kd.R_alloc | apply Kd.R_drewN | apply Kd.R_drew)); exact HO_127001.out) (by decide)) hk (fun _ h => h.2)) (fun _ h => h.1)); have n1_ := Am (Kd.R_mono (Kd.R_keep (IsS71.apart (show IsS71 w _ g120 x121000_2 x121001_2 x121002_2 x121003_2 from by repeat (first | (with_reducible first | exact HI120.out | apply IsS71.alloc | apply IsS71.drewN | apply IsS71.drew | apply IsS71.set_0 | apply IsS71.set_1 | apply IsS71.set_2 | apply IsS71.set_3 | refine IsS71.far ?_ NB120_115.out _ | refine IsS71.far ?_ NB120_126.out _) | exact HI120.out)) (by (with_reducible repeat (first | apply Kd.R_alloc | apply Kd.R_drewN | apply Kd.R_drew)); exact HO_127002.out) (by decide)) hk (fun _ h => h.2)) (fun _ h => h.1)); have n2_ := Am (KeepBut.blk hk (g' := gb115) (o := .cells #[.int .i64 0, .slice none 0 0, .slice none 0 0] 25 (0, 0)) (by (with_reducible repeat (first | refine bn ?_ _ | refine bd ?_ | refine ba ?_ _)); exact BK115.out) NB115_120.out (by simp)); have n3_ := Am (KeepBut.blk hk (g' := gb126) (o := .cells #[.int .i64 t121, u127001, u127002] 25 (0, 0)) (by (with_reducible repeat (first | refine bn ?_ _ | refine bd ?_ | refine ba ?_ _)); exact BK126.out) NB126_120.out (by simp)); have n4_ := Am (hb); have n5_ := Am (hi); clear HO_127001; clear HO_127002; clear BK115; clear BK126; clear HB; clear HI120; have HO_127001 := n0_; have HO_127002 := n1_; have BK115 := n2_; have BK126 := n3_; have HB := n4_; have HI120 := n5_; clear n0_ n1_ n2_ n3_ n4_ n5_; (try clear hb); (try clear hb2); (try clear hk); (try clear hi)) | ((with_reducible refine gate_callee (f := 22) rfl ?_); refine goesL_ (some 66) rfl rfl Try.func22 (by kernel_rfl) rfl #[.pointer (some ⟨g120, 0, none⟩)] rfl (by (try simp only [List.map_toArray, List.map_cons, List.map_nil]); first | done | rfl | (simp only [List.length_drop, List.length_take]; rfl)) ?_; (with_reducible refine (wire_Reader_Done.calls g120 t175 t176 t177 t178 false t180 t181 t182 t183 w _ ?side1 ?side2 A57.out).mono ?_); (case side1 => repeat (first | (with_reducible first | exact HI120.out | apply IsS71.alloc | apply IsS71.drewN | apply IsS71.drew | apply IsS71.set_0 | apply IsS71.set_1 | apply IsS71.set_2 | apply IsS71.set_3 | refine IsS71.far ?_ NB120_115.out _ | refine IsS71.far ?_ NB120_126.out _) | exact HI120.out)); (case side2 => repeat (first | (with_reducible first | exact HB.out | apply bl | apply pN | apply b1 | refine bs ?_ (IsS71.ge HI120.out) | refine bs ?_ GE115.out | refine bs ?_ GE126.out) | exact HB.out | exact HBo.out)); rintro e w83 ⟨rfl, hi, hb, hk⟩; refine ⟨_, rfl, ?_⟩; have n0_ := Am (Kd.R_mono (Kd.R_keep (IsS71.apart (show IsS71 w _ g120 t175 t176 t177 t178 from by repeat (first | (with_reducible first | exact HI120.out | apply IsS71.alloc | apply IsS71.drewN | apply IsS71.drew | apply IsS71.set_0 | apply IsS71.set_1 | apply IsS71.set_2 | apply IsS71.set_3 | refine IsS71.far ?_ NB120_115.out _ | refine IsS71.far ?_ NB120_126.out _) | exact HI120.out)) (by (with_reducible repeat (first | apply Kd.R_alloc | apply Kd.R_drewN | apply Kd.R_drew)); exact HO_127001.out) (by decide)) hk (fun _ h => h.2)) (fun _ h => h.1)); have n1_ := Am (Kd.R_mono (Kd.R_keep (IsS71.apart (show IsS71 w _ g120 t175 t176 t177 t178 from by repeat (first | (with_reducible first | exact HI120.out | apply IsS71.alloc | apply IsS71.drewN | apply IsS71.drew | apply IsS71.set_0 | apply IsS71.set_1 | apply IsS71.set_2 | apply IsS71.set_3 | refine IsS71.far ?_ NB120_115.out _ | refine IsS71.far ?_ NB120_126.out _) | exact HI120.out)) (by (with_reducible repeat (first | apply Kd.R_alloc | apply Kd.R_drewN | apply Kd.R_drew)); exact HO_127002.out) (by decide)) hk (fun _ h => h.2)) (fun _ h => h.1)); have n2_ := Am (KeepBut.blk hk (g' := gb115) (o := .cells #[.int .i64 0, .slice none 0 0, .slice none 0 0] 25 (0, 0)) (by (with_reducible repeat (first | refine bn ?_ _ | refine bd ?_ | refine ba ?_ _)); exact BK115.out) NB115_120.out (by simp)); have n3_ := Am (KeepBut.blk hk (g' := gb126) (o := .cells #[.int .i64 t121, u127001, u127002] 25 (0, 0)) (by (with_reducible repeat (first | refine bn ?_ _ | refine bd ?_ | refine ba ?_ _)); exact BK126.out) NB126_120.out (by simp)); have n4_ := Am (hb); have n5_ := Am (hi); clear HO_127001; clear HO_127002; clear BK115; clear BK126; clear HB; clear HI120; have HO_127001 := n0_; have HO_127002 := n1_; have BK115 := n2_; have BK126 := n3_; have HB := n4_; have HI120 := n5_; clear n0_ n1_ n2_ n3_ n4_ n5_; (try clear hb); (try clear hb2); (try clear hk); (try clear hi); have hnb84 := NB115_126.out; have hnc84 := NB126_115.out; have hnb85 := NB115_120.out; have hnc85 := NB120_115.out; have hcz86_0 : w83.cell? ⟨gb115, 0, none⟩ = some (.int .i64 0) := (bc BK115.out 0).trans rfl; have hcz86_1 : w83.cell? ⟨gb115, 1, none⟩ = some (.slice none 0 0) := (bc BK115.out 1).trans rfl; have hcz86_2 : w83.cell? ⟨gb115, 2, none⟩ = some (.slice none 0 0) := (bc BK115.out 2).trans rfl; have hfz86_0 := bf BK115.out 0; have hfz86_1 := bf BK115.out 1; have hfz86_2 := bf BK115.out 2))
           refine bodyPost_ret (results_ct rfl _ _ gb115 25 #[.int .i64 0, .slice none 0 0, .slice none 0 0] (0, 0) _ rfl (by (with_reducible repeat (first | refine bn ?_ _ | refine bd ?_ | refine ba ?_ _)); refine blk_put (cs := #[.int .i64 0, .slice none 0 0, .slice none 0 0]) ?_ 2 _ rfl; (with_reducible repeat (first | refine bn ?_ _ | refine bd ?_ | refine ba ?_ _)); refine blk_put (cs := #[.int .i64 0, .slice none 0 0, .slice none 0 0]) ?_ 1 _ rfl; (with_reducible repeat (first | refine bn ?_ _ | refine bd ?_ | refine ba ?_ _)); refine blk_put (cs := #[.int .i64 0, .slice none 0 0, .slice none 0 0]) ?_ 0 _ rfl; (with_reducible repeat (first | refine bn ?_ _ | refine bd ?_ | refine ba ?_ _)); exact BK115.out) Try.underlying25 rfl (by kernel_rfl)) rfl ?_
           exact ⟨_, _, by first | rfl | (simp [errW_none, errW_some] <;> rfl) | (simp [*, errW_none, errW_some] <;> rfl) | (simp [Aid.ne_nil, Aid.eq_nil, errW_none, errW_some]; done), by first | exact Kd.R_nil _ _ _ _ _ | exact Kd.N_nil _ _ _ _ _ | exact Kd.V_nil _ _ _ _ _ | exact Kd.Q_nil _ _ _ _ _ | exact Kd.S_nil _ _ _ _ _, by first | exact Kd.R_nil _ _ _ _ _ | exact Kd.N_nil _ _ _ _ _ | exact Kd.V_nil _ _ _ _ _ | exact Kd.Q_nil _ _ _ _ _ | exact Kd.S_nil _ _ _ _ _, by repeat (first | (with_reducible first | exact HB.out | apply bl | apply pN | apply b1 | refine bs ?_ (IsS71.ge HI120.out) | refine bs ?_ GE115.out | refine bs ?_ GE126.out) | exact HB.out | exact HBo.out)⟩
         ·
          rw [if_neg c56] at H
          have c56b0 : (t173 == 0) = false := beq_eq_false_iff_ne.mpr c56
          have c56b1 : (t173 != 0) = true := bne_iff_ne.mpr c56
          simp only [Option.some.injEq, Prod.mk.injEq] at H
          obtain ⟨rfl, rfl, rfl, rfl⟩ := H
          go_wp2_with (first | ((with_reducible refine gate_callee (f := 21) rfl ?_); refine goesL_ (some 58) rfl rfl Try.func21 (by kernel_rfl) rfl #[.pointer (some ⟨g120, 0, none⟩)] rfl (by (try simp only [List.map_toArray, List.map_cons, List.map_nil]); first | done | rfl | (simp only [List.length_drop, List.length_take]; rfl)) ?_; (with_reducible refine (wire_Reader_Err.calls g120 x121000_2 x121001_2 x121002_2 x121003_2 t173 t174 t175 t176 t177 t178 w _ ?side1 ?side2 A55.out).mono ?_); (case side1 => repeat (first | (with_reducible first | exact HI120.out | apply IsS71.alloc | apply IsS71.drewN | apply IsS71.drew | apply IsS71.set_0 | apply IsS71.set_1 | apply IsS71.set_2 | apply IsS71.set_3 | refine IsS71.far ?_ NB120_115.out _ | refine IsS71.far ?_ NB120_126.out _) | exact HI120.out)); (case side2 => repeat (first | (with_reducible first | exact HB.out | apply bl | apply pN | apply b1 | refine bs ?_ (IsS71.ge HI120.out) | refine bs ?_ GE115.out | refine bs ?_ GE126.out) | exact HB.out | exact HBo.out)); rintro e w87 ⟨rfl, hi, hb, hk⟩; refine ⟨_, rfl, ?_⟩; have n0_ := Am (Kd.R_mono (Kd.R_keep (IsS71.apart (show IsS71 w _ g120 x121000_2 x121001_2 x121002_2 x121003_2 from by repeat (first | (with_reducible first | exact HI120.out | apply IsS71.alloc | apply IsS71.drewN | apply IsS71.drew | apply IsS71.set_0 | apply IsS71.set_1 | apply IsS71.set_2 | apply IsS71.set_3 | refine IsS71.far ?_ NB120_115.out _ | refine IsS71.far ?_ NB120_126.out _) | exact HI120.out)) (by (with_reducible repeat (first | apply Kd.R_alloc | apply Kd.R_drewN | apply Kd.R_drew)); exact HO_127001.out) (by decide)) hk (fun _ h => h.2)) (fun _ h => h.1)); have n1_ := Am (Kd.R_mono (Kd.R_keep (IsS71.apart (show IsS71 w _ g120 x121000_2 x121001_2 x121002_2 x121003_2 from by repeat (first | (with_reducible first | exact HI120.out | apply IsS71.alloc | apply IsS71.drewN | apply IsS71.drew | apply IsS71.set_0 | apply IsS71.set_1 | apply IsS71.set_2 | apply IsS71.set_3 | refine IsS71.far ?_ NB120_115.out _ | refine IsS71.far ?_ NB120_126.out _) | exact HI120.out)) (by (with_reducible repeat (first | apply Kd.R_alloc | apply Kd.R_drewN | apply Kd.R_drew)); exact HO_127002.out) (by decide)) hk (fun _ h => h.2)) (fun _ h => h.1)); have n2_ := Am (KeepBut.blk hk (g' := gb115) (o := .cells #[.int .i64 0, .slice none 0 0, .slice none 0 0] 25 (0, 0)) (by (with_reducible repeat (first | refine bn ?_ _ | refine bd ?_ | refine ba ?_ _)); exact BK115.out) NB115_120.out (by simp)); have n3_ := Am (KeepBut.blk hk (g' := gb126) (o := .cells #[.int .i64 t121, u127001, u127002] 25 (0, 0)) (by (with_reducible repeat (first | refine bn ?_ _ | refine bd ?_ | refine ba ?_ _)); exact BK126.out) NB126_120.out (by simp)); have n4_ := Am (hb); have n5_ := Am (hi); clear HO_127001; clear HO_127002; clear BK115; clear BK126; clear HB; clear HI120; have HO_127001 := n0_; have HO_127002 := n1_; have BK115 := n2_; have BK126 := n3_; have HB := n4_; have HI120 := n5_; clear n0_ n1_ n2_ n3_ n4_ n5_; (try clear hb); (try clear hb2); (try clear hk); (try clear hi); have hnb88 := NB115_126.out; have hnc88 := NB126_115.out; have hnb89 := NB115_120.out; have hnc89 := NB120_115.out; have hcz90_0 : w87.cell? ⟨gb115, 0, none⟩ = some (.int .i64 0) := (bc BK115.out 0).trans rfl; have hcz90_1 : w87.cell? ⟨gb115, 1, none⟩ = some (.slice none 0 0) := (bc BK115.out 1).trans rfl; have hcz90_2 : w87.cell? ⟨gb115, 2, none⟩ = some (.slice none 0 0) := (bc BK115.out 2).trans rfl; have hfz90_0 := bf BK115.out 0; have hfz90_1 := bf BK115.out 1; have hfz90_2 := bf BK115.out 2))
          refine bodyPost_ret (results_ct rfl _ _ gb115 25 #[.int .i64 0, .slice none 0 0, .slice none 0 0] (0, 0) _ rfl (by (with_reducible repeat (first | refine bn ?_ _ | refine bd ?_ | refine ba ?_ _)); refine blk_put (cs := #[.int .i64 0, .slice none 0 0, .slice none 0 0]) ?_ 2 _ rfl; (with_reducible repeat (first | refine bn ?_ _ | refine bd ?_ | refine ba ?_ _)); refine blk_put (cs := #[.int .i64 0, .slice none 0 0, .slice none 0 0]) ?_ 1 _ rfl; (with_reducible repeat (first | refine bn ?_ _ | refine bd ?_ | refine ba ?_ _)); refine blk_put (cs := #[.int .i64 0, .slice none 0 0, .slice none 0 0]) ?_ 0 _ rfl; (with_reducible repeat (first | refine bn ?_ _ | refine bd ?_ | refine ba ?_ _)); exact BK115.out) Try.underlying25 rfl (by kernel_rfl)) rfl ?_
          exact ⟨_, _, by first | rfl | (simp [errW_none, errW_some] <;> rfl) | (simp [*, errW_none, errW_some] <;> rfl) | (simp [Aid.ne_nil, Aid.eq_nil, errW_none, errW_some]; done), by first | exact Kd.R_nil _ _ _ _ _ | exact Kd.N_nil _ _ _ _ _ | exact Kd.V_nil _ _ _ _ _ | exact Kd.Q_nil _ _ _ _ _ | exact Kd.S_nil _ _ _ _ _, by first | exact Kd.R_nil _ _ _ _ _ | exact Kd.N_nil _ _ _ _ _ | exact Kd.V_nil _ _ _ _ _ | exact Kd.Q_nil _ _ _ _ _ | exact Kd.S_nil _ _ _ _ _, by repeat (first | (with_reducible first | exact HB.out | apply bl | apply pN | apply b1 | refine bs ?_ (IsS71.ge HI120.out) | refine bs ?_ GE115.out | refine bs ?_ GE126.out) | exact HB.out | exact HBo.out)⟩

-- NOT PRINTED: function 44 (abi_NoEscape)

-- NOT PRINTED: function 40 (strings_Builder_copyCheck)

-- NOT PRINTED: function 28 (strings_Builder_WriteString)

-- NOT PRINTED: function 30 (strings_Builder_String)

end Go.Proofs.Ythfdhoegboeaeaa.Q
