-- printed by a program of this session (NOTES: hprint); not the kit's print
-- minified
-- halved
import Derived.Test.YthechcflnkofgaaAl
import Derived.Test.YthechcflnkofgaaQx0
import Derived.Test.YthechcflnkofgaaQx1
import Derived.Test.YthechcflnkofgaaQx3
namespace Go.Proofs.Ythechcflnkofgaa.Q
open Go.RowKit Go.Proofs.YthechcflnkofgaaW.PrintWords Go.Proofs.YthechcflnkofgaaW.PrintLast Go.Proofs.YthechcflnkofgaaW.PrintMore
attribute [local go_sem] max2_int min2_int max_two min_two max_three min_three max_four min_four   -- for this text's walks alone
set_option linter.unusedVariables false
set_option linter.unusedSimpArgs false

def q4_0 : Array Bool := let o := true; let z := false; #[z,z,z,z,z,z,z,z]
def q4_1 : Array Bool := let o := true; let z := false; #[z,o,z,z,z,z,z,z]
def q4_2 : Array Bool := let o := true; let z := false; #[z,o,o,z,z,z,z,z]
def q4_3 : Array Bool := let o := true; let z := false; #[o,o,o,z,z,z,z,z]
def q4_4 : Array Bool := let o := true; let z := false; #[o,o,o,o,z,z,z,z]
def q4_5 : Array Bool := let o := true; let z := false; #[o,o,o,o,o,z,z,z]
def q4_6 : Array Bool := let o := true; let z := false; #[o,o,o,o,o,o,z,z]
def q4_7 : Array Bool := let o := true; let z := false; #[o,o,o,o,o,o,o,z]
def q4_8 : Array Bool := let o := true; let z := false; #[o,o,o,o,o,o,o,o]
/-! ### event_Decode: function 10 -/
def event_Decode.j0 : Nat → ByteArray → Int → Bool → Option (Int × Int × List Int × ByteArray × Int × Int)
 | 0, _, _, _ => none
 | k + 1, x0, x1, x19 => if x19 = true then (some (0, 0, ([] : List Int), (⟨#[]⟩ : ByteArray), 0, 1)) else (if 0 ≤ x1 then (if x1 ≤ (x0.size : Int) then ((wire_New.f (x0.extract (x1 : Int).toNat x0.size)).bind fun bt197 => ((event_read.f k bt197.1 bt197.2.1 bt197.2.2.1 bt197.2.2.2).bind fun bt202 => ((wire_Reader_Err.f bt202.2.2.2.2.2.1 bt202.2.2.2.2.2.2.1 bt202.2.2.2.2.2.2.2.1 bt202.2.2.2.2.2.2.2.2).bind fun bt214 => (if bt202.2.2.2.2.1 = true then (if bt214.1 = 0 then ((wire_Reader_At.f bt214.2.2.1 bt214.2.2.2.1 bt214.2.2.2.2.1 bt214.2.2.2.2.2).bind fun bt220 => (some (bt202.1, bt202.2.1, bt202.2.2.1, bt202.2.2.2.1, wrap64 (x1 + bt220.1), 0))) else (some (0, 0, ([] : List Int), (⟨#[]⟩ : ByteArray), 0, bt214.1))) else (some (0, 0, ([] : List Int), (⟨#[]⟩ : ByteArray), 0, 30)))))) else (none)) else (none))
def event_Decode.f (k : Nat) (a0 : ByteArray) (a1 : Int) : Option (Int × Int × List Int × ByteArray × Int × Int) := if a1 < 0 then (event_Decode.j0 k a0 a1 true) else (event_Decode.j0 k a0 a1 (decide (a1 > (a0.size : Int))))
theorem event_Decode.mono_l : ∀ k, (∀ y0 y1 y2, LeO (event_Decode.j0 k y0 y1 y2) (event_Decode.j0 (k + 1) y0 y1 y2))
 | 0 => fun _ _ _ r h => by simp [event_Decode.j0] at h
 | k + 1 => by
  have ih0 := event_Decode.mono_l k
  ·
   intro y0 y1 y2
   unfold event_Decode.j0
   repeat' first
   | (with_reducible exact ih0 _ _ _)
   | (with_reducible exact event_read.mono _ _ _ _ _)
   | (with_reducible exact LeO.refl _)
   | (with_reducible exact LeO.none _)
   | (with_reducible refine LeO.ite ?_ ?_)
   | (with_reducible refine LeO.bind ?_ (fun _ => ?_))
   | exact ih0 _ _ _
   | exact event_read.mono _ _ _ _ _
   | exact LeO.none _
   | refine LeO.ite ?_ ?_
   | refine LeO.bind ?_ (fun _ => ?_)
theorem event_Decode.mono : ∀ a0 a1 k, LeO (event_Decode.f k a0 a1) (event_Decode.f (k + 1) a0 a1) := by
 intro a0 a1 k
 have ih0 := event_Decode.mono_l k
 unfold event_Decode.f
 repeat' first
   | (with_reducible exact ih0 _ _ _)
   | (with_reducible exact event_read.mono _ _ _ _ _)
   | (with_reducible exact LeO.refl _)
   | (with_reducible exact LeO.none _)
   | (with_reducible refine LeO.ite ?_ ?_)
   | (with_reducible refine LeO.bind ?_ (fun _ => ?_))
   | exact ih0 _ _ _
   | exact event_read.mono _ _ _ _ _
   | exact LeO.none _
   | refine LeO.ite ?_ ?_
   | refine LeO.bind ?_ (fun _ => ?_)
def event_Decode.T10 : Bool × List (List Nat × List Nat) := (true, [([], []), ([], []), ([], []), ([2], [2]), ([1, 3], [1, 3]), ([0, 3, 0], [0]), ([4, 5, 0, 1, 2, 3, 4, 5], [4]), ([6, 0, 1, 2, 3, 4, 5, 6], [])])
def event_Decode.B10 : List Nat := [0, 0, 0, 4, 14, 13, 63, 127]
theorem event_Decode.tab10 : rtab .any (opsOf Try.f10 10) = event_Decode.T10 := by kernel_rfl
theorem event_Decode.bits10 : waitsOk event_Decode.T10.2 event_Decode.B10 = true := by kernel_rfl
set_option maxHeartbeats 8000000 in
set_option maxRecDepth 100000 in
theorem event_Decode.calls (k : Nat) (a0 : ByteArray) (a1 : Int) (r1 : Int) (r2 : Int) (r3 : List Int) (r4 : ByteArray) (r5 : Int) (r6 : Int) (w : World) (h : event_Decode.f k a0 a1 = some (r1, r2, r3, r4, r5, r6)) :
  Calls Try.prog 10 #[.string a0, .int .i64 a1] w fun e w' => ∃ v2_ : Value, e = .returned (.tuple #[.agg #[.int .i64 r1, .int .i64 r2, v2_, .string r4], .int .i64 r5, .int .i64 r6]) ∧ Kd.R (Kd.int .i64) 3 w' w.heap.size (fun _ => True) v2_ r3 ∧ Below w.heap.size w w' := by
 have hu24 := Try.underlying24
 have HB := Am (Below.refl w.heap.size w)
 have H : (if a1 < 0 then (event_Decode.j0 k a0 a1 true) else (event_Decode.j0 k a0 a1 (decide (a1 > (a0.size : Int))))) = some (r1, r2, r3, r4, r5, r6) := h
 clear h
 have HC3 := Am H
 clear H
 go_enter Try.func10, Try.ntmps10
 go_upto_region 1 with (first | ((with_reducible refine gate_dst (N := 4) rfl ?_); (try (refine gate_guard (by rfl) ?_; dsimp only)); refine box_event ?hg (N := 4) ?hd (cs := #[.int .i64 0, .int .i64 0, .slice none 0 0, .string (⟨#[]⟩ : ByteArray)]) (t := 24) ?hr ?_; (case hd => rfl); (case hg => rfl); (case hr => first | (go_simp; done) | (go_simp; rfl)); intro gb196 hg w4 hbox hb; have n0_ := Am (below_step (by repeat (first | (with_reducible first | exact HB.out | apply bl | apply pN | apply b1) | exact HB.out | exact HBo.out)) hb); have n1_ := Am (hbox); have n2_ := Am ((by rw [hg]; exact (below_size (by repeat (first | (with_reducible first | exact HB.out | apply bl | apply pN | apply b1) | exact HB.out | exact HBo.out))) : w.heap.size ≤ gb196)); have n3_ := Am ((by rw [hg]; exact (below_size (by repeat (first | (with_reducible first | exact HB.out | apply bl | apply pN | apply b1) | exact HB.out | exact HBo.out))) : w.heap.size ≤ gb196)); clear HB; have HB := n0_; have BK196 := n1_; have GW196 := n2_; have GE196 := n3_; clear n0_ n1_ n2_ n3_; clear hb hbox hg))
 (try simp only [Act.put, sI, sZ, sS])
 go_cut [19] (fun v19 wc => ∃ (kq : Nat) (x19_2 : Bool), v19 = .bool x19_2 ∧ Aside0 (event_Decode.j0 kq a0 a1 x19_2 = some (r1, r2, r3, r4, r5, r6)) ∧ Aside0 (kq ≤ k) ∧ Aside0 (wc.heap[gb196]? = some (.cells #[.int .i64 0, .int .i64 0, (.slice none 0 0), .string (⟨#[]⟩ : ByteArray)] 24 (0, 0))) ∧ Aside0 (Below w.heap.size w wc))
 case first =>
  have H := HC3.out
  clear HC3
  by_cases c5 : a1 < 0
  ·
   rw [if_pos c5] at H
   have c5b0 : decide (a1 < 0) = true := decide_eq_true c5
   clear c5
   (first | rw [c5b0] | (simp only [i64_w, i32_w]; rw [c5b0]) | skip)
   have H' := Am H
   clear H
   go_wp2
   go_meet
   case rel => exact ⟨_, (true), (by first | rfl | (simp; done) | (simp [*]; done)), H', ⟨by first | omega | exact Nat.le_refl _⟩, ⟨by (with_reducible repeat (first | refine bn ?_ _ | refine bd ?_ | refine ba ?_ _)); exact BK196.out⟩, ⟨by repeat (first | (with_reducible first | exact HB.out | apply bl | apply pN | apply b1 | refine bs ?_ GE196.out) | exact HB.out | exact HBo.out)⟩⟩
  ·
   rw [if_neg c5] at H
   have c5b0 : decide (a1 < 0) = false := decide_eq_false c5
   clear c5
   (first | rw [c5b0] | (simp only [i64_w, i32_w]; rw [c5b0]) | skip)
   have H' := Am H
   clear H
   go_wp2
   go_meet
   case rel => exact ⟨_, (decide (a1 > (a0.size : Int))), (by first | rfl | (simp; done) | (simp [*]; done)), H', ⟨by first | omega | exact Nat.le_refl _⟩, ⟨by (with_reducible repeat (first | refine bn ?_ _ | refine bd ?_ | refine ba ?_ _)); exact BK196.out⟩, ⟨by repeat (first | (with_reducible first | exact HB.out | apply bl | apply pN | apply b1 | refine bs ?_ GE196.out) | exact HB.out | exact HBo.out)⟩⟩
 case rest =>
  clear HC3
  try clear c1
  try clear p2
  try clear c5
  try clear c5b0
  obtain ⟨kq, x19_2, rfl, HA, HJ2, BK196, HB⟩ := hcut
  cases kq with
  | zero => exact absurd HA.out (by simp [event_Decode.j0])
  | succ kj2 =>
   have H := HA.out
   clear HA
   simp only [event_Decode.j0] at H
   by_cases c6 : x19_2 = true
   ·
    subst c6
    have H1 : (some (0, 0, ([] : List Int), (⟨#[]⟩ : ByteArray), 0, 1)) = some (r1, r2, r3, r4, r5, r6) := by rw [if_pos rfl] at H; exact H
    clear H
    have H := H1
    clear H1
    simp only [Option.some.injEq, Prod.mk.injEq] at H
    obtain ⟨rfl, rfl, rfl, rfl, rfl, rfl⟩ := H
    have hcz7_0 : wc.cell? ⟨gb196, 0, none⟩ = some (.int .i64 0) := (bc BK196.out 0).trans rfl
    have hcz7_1 : wc.cell? ⟨gb196, 1, none⟩ = some (.int .i64 0) := (bc BK196.out 1).trans rfl
    have hcz7_2 : wc.cell? ⟨gb196, 2, none⟩ = some (.slice none 0 0) := (bc BK196.out 2).trans rfl
    have hcz7_3 : wc.cell? ⟨gb196, 3, none⟩ = some (.string (⟨#[]⟩ : ByteArray)) := (bc BK196.out 3).trans rfl
    have hfz7_0 := bf BK196.out 0
    have hfz7_1 := bf BK196.out 1
    have hfz7_2 := bf BK196.out 2
    have hfz7_3 := bf BK196.out 3
    go_wp2
    refine bodyPost_ret (results_ctt rfl _ _ gb196 24 #[.int .i64 0, .int .i64 0, .slice none 0 0, .string (⟨#[]⟩ : ByteArray)] (0, 0) _ rfl (by (with_reducible repeat (first | refine bn ?_ _ | refine bd ?_ | refine ba ?_ _)); refine blk_put (cs := #[.int .i64 0, .int .i64 0, .slice none 0 0, .string (⟨#[]⟩ : ByteArray)]) ?_ 3 _ rfl; (with_reducible repeat (first | refine bn ?_ _ | refine bd ?_ | refine ba ?_ _)); refine blk_put (cs := #[.int .i64 0, .int .i64 0, .slice none 0 0, .string (⟨#[]⟩ : ByteArray)]) ?_ 2 _ rfl; (with_reducible repeat (first | refine bn ?_ _ | refine bd ?_ | refine ba ?_ _)); refine blk_put (cs := #[.int .i64 0, .int .i64 0, .slice none 0 0, .string (⟨#[]⟩ : ByteArray)]) ?_ 1 _ rfl; (with_reducible repeat (first | refine bn ?_ _ | refine bd ?_ | refine ba ?_ _)); refine blk_put (cs := #[.int .i64 0, .int .i64 0, .slice none 0 0, .string (⟨#[]⟩ : ByteArray)]) ?_ 0 _ rfl; (with_reducible repeat (first | refine bn ?_ _ | refine bd ?_ | refine ba ?_ _)); exact BK196.out) Try.underlying24 rfl (by kernel_rfl)) rfl ?_
    exact ⟨_, by first | rfl | (simp [errW_none, errW_some] <;> rfl) | (simp [*, errW_none, errW_some] <;> rfl) | (simp [Aid.ne_nil, Aid.eq_nil, errW_none, errW_some]; done), by first | exact Kd.R_nil _ _ _ _ _ | exact Kd.N_nil _ _ _ _ _ | exact Kd.V_nil _ _ _ _ _ | exact Kd.Q_nil _ _ _ _ _ | exact Kd.S_nil _ _ _ _ _, by repeat (first | (with_reducible first | exact HB.out | apply bl | apply pN | apply b1 | refine bs ?_ GE196.out) | exact HB.out | exact HBo.out)⟩
   ·
    replace c6 := Bool.eq_false_iff.mpr c6
    subst c6
    have H1 : (if 0 ≤ a1 then (if a1 ≤ (a0.size : Int) then ((wire_New.f (a0.extract (a1 : Int).toNat a0.size)).bind fun bt197 => ((event_read.f kj2 bt197.1 bt197.2.1 bt197.2.2.1 bt197.2.2.2).bind fun bt202 => ((wire_Reader_Err.f bt202.2.2.2.2.2.1 bt202.2.2.2.2.2.2.1 bt202.2.2.2.2.2.2.2.1 bt202.2.2.2.2.2.2.2.2).bind fun bt214 => (if bt202.2.2.2.2.1 = true then (if bt214.1 = 0 then ((wire_Reader_At.f bt214.2.2.1 bt214.2.2.2.1 bt214.2.2.2.2.1 bt214.2.2.2.2.2).bind fun bt220 => (some (bt202.1, bt202.2.1, bt202.2.2.1, bt202.2.2.2.1, wrap64 (a1 + bt220.1), 0))) else (some (0, 0, ([] : List Int), (⟨#[]⟩ : ByteArray), 0, bt214.1))) else (some (0, 0, ([] : List Int), (⟨#[]⟩ : ByteArray), 0, 30)))))) else (none)) else (none)) = some (r1, r2, r3, r4, r5, r6) := by rw [if_neg (show ¬ (false = true) by decide)] at H; exact H
    clear H
    have H := H1
    clear H1
    by_cases c8 : 0 ≤ a1
    ·
     rw [if_pos c8] at H
     have c8b0 := eq_true c8
     have c8b1 : decide (0 ≤ a1) = true := decide_eq_true c8
     clear c8
     by_cases c9 : a1 ≤ (a0.size : Int)
     ·
      rw [if_pos c9] at H
      have c9b0 := eq_true c9
      have c9b1 : decide (a1 ≤ (a0.size : Int)) = true := decide_eq_true c9
      clear c9
      replace H := ob H
      obtain ⟨⟨t197, t198, t199, t200⟩, A100, H⟩ := H
      replace H : ((event_read.f kj2 t197 t198 t199 t200).bind fun bt202 => ((wire_Reader_Err.f bt202.2.2.2.2.2.1 bt202.2.2.2.2.2.2.1 bt202.2.2.2.2.2.2.2.1 bt202.2.2.2.2.2.2.2.2).bind fun bt214 => (if bt202.2.2.2.2.1 = true then (if bt214.1 = 0 then ((wire_Reader_At.f bt214.2.2.1 bt214.2.2.2.1 bt214.2.2.2.2.1 bt214.2.2.2.2.2).bind fun bt220 => (some (bt202.1, bt202.2.1, bt202.2.2.1, bt202.2.2.2.1, wrap64 (a1 + bt220.1), 0))) else (some (0, 0, ([] : List Int), (⟨#[]⟩ : ByteArray), 0, bt214.1))) else (some (0, 0, ([] : List Int), (⟨#[]⟩ : ByteArray), 0, 30))))) = some (r1, r2, r3, r4, r5, r6) := H
      have A10 := Am A100
      clear A100
      replace H := ob H
      obtain ⟨⟨t202, t203, t204, t207, t208, t209, t210, t211, t212⟩, A110, H⟩ := H
      replace H : ((wire_Reader_Err.f t209 t210 t211 t212).bind fun bt214 => (if t208 = true then (if bt214.1 = 0 then ((wire_Reader_At.f bt214.2.2.1 bt214.2.2.2.1 bt214.2.2.2.2.1 bt214.2.2.2.2.2).bind fun bt220 => (some (t202, t203, t204, t207, wrap64 (a1 + bt220.1), 0))) else (some (0, 0, ([] : List Int), (⟨#[]⟩ : ByteArray), 0, bt214.1))) else (some (0, 0, ([] : List Int), (⟨#[]⟩ : ByteArray), 0, 30)))) = some (r1, r2, r3, r4, r5, r6) := H
      have A11 := Am A110
      clear A110
      replace H := ob H
      obtain ⟨⟨t214, t215, t216, t217, t218, t219⟩, A120, H⟩ := H
      replace H : (if t208 = true then (if t214 = 0 then ((wire_Reader_At.f t216 t217 t218 t219).bind fun bt220 => (some (t202, t203, t204, t207, wrap64 (a1 + bt220.1), 0))) else (some (0, 0, ([] : List Int), (⟨#[]⟩ : ByteArray), 0, t214))) else (some (0, 0, ([] : List Int), (⟨#[]⟩ : ByteArray), 0, 30))) = some (r1, r2, r3, r4, r5, r6) := H
      have A12 := Am A120
      clear A120
      by_cases c13 : t208 = true
      ·
       subst c13
       have H1 : (if t214 = 0 then ((wire_Reader_At.f t216 t217 t218 t219).bind fun bt220 => (some (t202, t203, t204, t207, wrap64 (a1 + bt220.1), 0))) else (some (0, 0, ([] : List Int), (⟨#[]⟩ : ByteArray), 0, t214))) = some (r1, r2, r3, r4, r5, r6) := by rw [if_pos rfl] at H; exact H
       clear H
       have H := H1
       clear H1
       by_cases c14 : t214 = 0
       ·
        rw [if_pos c14] at H
        have c14b0 : (t214 == 0) = true := beq_iff_eq.mpr c14
        have c14b1 : (t214 != 0) = false := bne_eq_false_iff_eq.mpr c14
        clear c14
        replace H := ob H
        obtain ⟨⟨t220, t221, t222, t223, t224⟩, A150, H⟩ := H
        replace H : (some (t202, t203, t204, t207, wrap64 (a1 + t220), 0)) = some (r1, r2, r3, r4, r5, r6) := H
        have A15 := Am A150
        clear A150
        simp only [Option.some.injEq, Prod.mk.injEq] at H
        obtain ⟨rfl, rfl, rfl, rfl, rfl, rfl⟩ := H
        try go_wp2_with (first | ((with_reducible refine gate_callee (f := 18) rfl ?_); refine goesL_ (some 24) rfl rfl Try.func18 (by kernel_rfl) rfl #[.string (a0.extract (a1 : Int).toNat a0.size)] rfl (by (try simp only [List.map_toArray, List.map_cons, List.map_nil]); first | done | rfl | (simp only [List.length_drop, List.length_take]; rfl)) ?_; (with_reducible refine (wire_New.calls (a0.extract (a1 : Int).toNat a0.size) t197 t198 t199 t200 w _ ?side1 A10.out).mono ?_); (case side1 => repeat (first | (with_reducible first | exact HB.out | apply bl | apply pN | apply b1 | refine bs ?_ GE196.out) | exact HB.out | exact HBo.out)); rintro e w16 ⟨g201, rfl, hi, hb, hb2⟩; refine ⟨_, rfl, ?_⟩; have n0_ := Am (blk_below (g := gb196) (o := .cells #[.int .i64 0, .int .i64 0, .slice none 0 0, .string (⟨#[]⟩ : ByteArray)] 24 (0, 0)) (by (with_reducible repeat (first | refine bn ?_ _ | refine bd ?_ | refine ba ?_ _)); exact BK196.out) hb2); have n1_ := Am (hb); have n2_ := Am (hi); have n3_ := Am (IsS58.ne_blk hi (blk_below (g := gb196) (o := .cells #[.int .i64 0, .int .i64 0, .slice none 0 0, .string (⟨#[]⟩ : ByteArray)] 24 (0, 0)) (by (with_reducible repeat (first | refine bn ?_ _ | refine bd ?_ | refine ba ?_ _)); exact BK196.out) hb2) (by decide)); have n4_ := Am (Ne.symm (IsS58.ne_blk hi (blk_below (g := gb196) (o := .cells #[.int .i64 0, .int .i64 0, .slice none 0 0, .string (⟨#[]⟩ : ByteArray)] 24 (0, 0)) (by (with_reducible repeat (first | refine bn ?_ _ | refine bd ?_ | refine ba ?_ _)); exact BK196.out) hb2) (by decide))); clear BK196; clear HB; have BK196 := n0_; have HB := n1_; have HI201 := n2_; have NB201_196 := n3_; have NB196_201 := n4_; clear n0_ n1_ n2_ n3_ n4_; (try clear hb); (try clear hb2); (try clear hk); (try clear hi)) | ((with_reducible refine gate_callee (f := 19) rfl ?_); refine goesL_ (some 27) rfl rfl Try.func19 (by kernel_rfl) rfl #[.pointer (some ⟨g201, 0, none⟩)] rfl (by (try simp only [List.map_toArray, List.map_cons, List.map_nil]); first | done | rfl | (simp only [List.length_drop, List.length_take]; rfl)) ?_; (with_reducible refine (event_read.calls kj2 g201 t197 t198 t199 t200 t202 t203 t204 t207 true t209 t210 t211 t212 w _ ?side1 ?side2 A11.out).mono ?_); (case side1 => repeat (first | (with_reducible first | exact HI201.out | apply IsS58.alloc | apply IsS58.drewN | apply IsS58.drew | apply IsS58.set_0 | apply IsS58.set_1 | apply IsS58.set_2 | apply IsS58.set_3 | refine IsS58.far ?_ NB201_196.out _) | exact HI201.out)); (case side2 => repeat (first | (with_reducible first | exact HB.out | apply bl | apply pN | apply b1 | refine bs ?_ (IsS58.ge HI201.out) | refine bs ?_ GE196.out) | exact HB.out | exact HBo.out)); rintro e w17 ⟨v205, rfl, ho0, hi, hb, hk⟩; refine ⟨_, rfl, ?_⟩; have n0_ := Am (KeepBut.blk hk (g' := gb196) (o := .cells #[.int .i64 0, .int .i64 0, .slice none 0 0, .string (⟨#[]⟩ : ByteArray)] 24 (0, 0)) (by (with_reducible repeat (first | refine bn ?_ _ | refine bd ?_ | refine ba ?_ _)); exact BK196.out) NB196_201.out (by simp)); have n1_ := Am (Kd.R_lower ho0 (below_size (by repeat (first | (with_reducible first | exact HB.out | apply bl | apply pN | apply b1 | refine bs ?_ (IsS58.ge HI201.out) | refine bs ?_ GE196.out) | exact HB.out | exact HBo.out)))); have n2_ := Am (hb); have n3_ := Am (hi); clear BK196; clear HB; clear HI201; have BK196 := n0_; have HO206 := n1_; have HB := n2_; have HI201 := n3_; clear n0_ n1_ n2_ n3_; (try clear hb); (try clear hb2); (try clear hk); (try clear hi); (try clear ho0)) | ((with_reducible refine gate_dst (N := 8) rfl ?_); (try (refine gate_guard (by rfl) ?_; dsimp only)); refine box_event ?hg (N := 8) ?hd (cs := #[.int .i64 0, .int .i64 0, .slice none 0 0, .string (⟨#[]⟩ : ByteArray)]) (t := 24) ?hr ?_; (case hd => rfl); (case hg => rfl); (case hr => first | (go_simp; done) | (go_simp; rfl)); intro gb213 hg w18 hbox hb; have n0_ := Am (Kd.R_below (by (with_reducible repeat (first | apply Kd.R_alloc | apply Kd.R_drewN | apply Kd.R_drew)); exact HO206.out) hb); have n1_ := Am (blk_below (g := gb196) (o := .cells #[.int .i64 0, .int .i64 0, .slice none 0 0, .string (⟨#[]⟩ : ByteArray)] 24 (0, 0)) (by (with_reducible repeat (first | refine bn ?_ _ | refine bd ?_ | refine ba ?_ _)); exact BK196.out) hb); have n2_ := Am (IsS58.below (by repeat (first | (with_reducible first | exact HI201.out | apply IsS58.alloc | apply IsS58.drewN | apply IsS58.drew | apply IsS58.set_0 | apply IsS58.set_1 | apply IsS58.set_2 | apply IsS58.set_3 | refine IsS58.far ?_ NB201_196.out _) | exact HI201.out)) hb); have n3_ := Am (below_step (by repeat (first | (with_reducible first | exact HB.out | apply bl | apply pN | apply b1 | refine bs ?_ (IsS58.ge HI201.out) | refine bs ?_ GE196.out) | exact HB.out | exact HBo.out)) hb); have n4_ := Am (hbox); have n5_ := Am ((by rw [hg]; exact (below_size (by repeat (first | (with_reducible first | exact HB.out | apply bl | apply pN | apply b1 | refine bs ?_ (IsS58.ge HI201.out) | refine bs ?_ GE196.out) | exact HB.out | exact HBo.out))) : w.heap.size ≤ gb213)); have n6_ := Am ((by rw [hg]; exact (below_size (by repeat (first | (with_reducible first | exact HB.out | apply bl | apply pN | apply b1 | refine bs ?_ (IsS58.ge HI201.out) | refine bs ?_ GE196.out) | exact HB.out | exact HBo.out))) : w.heap.size ≤ gb213)); have n7_ := Am ((by rw [hg]; exact Nat.ne_of_lt (blk_lt (g := gb196) (o := .cells #[.int .i64 0, .int .i64 0, .slice none 0 0, .string (⟨#[]⟩ : ByteArray)] 24 (0, 0)) (by (with_reducible repeat (first | refine bn ?_ _ | refine bd ?_ | refine ba ?_ _)); exact BK196.out)) : gb196 ≠ gb213)); have n8_ := Am ((by rw [hg]; exact Nat.ne_of_gt (blk_lt (g := gb196) (o := .cells #[.int .i64 0, .int .i64 0, .slice none 0 0, .string (⟨#[]⟩ : ByteArray)] 24 (0, 0)) (by (with_reducible repeat (first | refine bn ?_ _ | refine bd ?_ | refine ba ?_ _)); exact BK196.out)) : gb213 ≠ gb196)); have n9_ := Am ((by rw [hg]; exact Nat.ne_of_lt (IsS58.lt (show IsS58 w _ g201 t209 t210 t211 t212 from by repeat (first | (with_reducible first | exact HI201.out | apply IsS58.alloc | apply IsS58.drewN | apply IsS58.drew | apply IsS58.set_0 | apply IsS58.set_1 | apply IsS58.set_2 | apply IsS58.set_3 | refine IsS58.far ?_ NB201_196.out _) | exact HI201.out))) : g201 ≠ gb213)); have n10_ := Am ((by rw [hg]; exact Nat.ne_of_gt (IsS58.lt (show IsS58 w _ g201 t209 t210 t211 t212 from by repeat (first | (with_reducible first | exact HI201.out | apply IsS58.alloc | apply IsS58.drewN | apply IsS58.drew | apply IsS58.set_0 | apply IsS58.set_1 | apply IsS58.set_2 | apply IsS58.set_3 | refine IsS58.far ?_ NB201_196.out _) | exact HI201.out))) : gb213 ≠ g201)); clear HO206; clear BK196; clear HI201; clear HB; have HO206 := n0_; have BK196 := n1_; have HI201 := n2_; have HB := n3_; have BK213 := n4_; have GW213 := n5_; have GE213 := n6_; have NB196_213 := n7_; have NB213_196 := n8_; have NB201_213 := n9_; have NB213_201 := n10_; clear n0_ n1_ n2_ n3_ n4_ n5_ n6_ n7_ n8_ n9_ n10_; clear hb hbox hg; have hnb19 := NB213_196.out; have hnc19 := NB196_213.out; have hnb20 := NB213_201.out; have hnc20 := NB201_213.out; have hcz21_0 : w18.cell? ⟨gb213, 0, none⟩ = some (.int .i64 0) := (bc BK213.out 0).trans rfl; have hcz21_1 : w18.cell? ⟨gb213, 1, none⟩ = some (.int .i64 0) := (bc BK213.out 1).trans rfl; have hcz21_2 : w18.cell? ⟨gb213, 2, none⟩ = some (.slice none 0 0) := (bc BK213.out 2).trans rfl; have hcz21_3 : w18.cell? ⟨gb213, 3, none⟩ = some (.string (⟨#[]⟩ : ByteArray)) := (bc BK213.out 3).trans rfl; have hfz21_0 := bf BK213.out 0; have hfz21_1 := bf BK213.out 1; have hfz21_2 := bf BK213.out 2; have hfz21_3 := bf BK213.out 3; obtain ⟨Ao22, co22, eo22⟩ := Kd.R_slice HO206.out; subst eo22) | ((with_reducible refine gate_callee (f := 20) rfl ?_); refine goesL_ (some 32) rfl rfl Try.func20 (by kernel_rfl) rfl #[.pointer (some ⟨g201, 0, none⟩)] rfl (by (try simp only [List.map_toArray, List.map_cons, List.map_nil]); first | done | rfl | (simp only [List.length_drop, List.length_take]; rfl)) ?_; (with_reducible refine (wire_Reader_Err.calls g201 t209 t210 t211 t212 t214 t215 t216 t217 t218 t219 w _ ?side1 ?side2 A12.out).mono ?_); (case side1 => repeat (first | (with_reducible first | exact HI201.out | apply IsS58.alloc | apply IsS58.drewN | apply IsS58.drew | apply IsS58.set_0 | apply IsS58.set_1 | apply IsS58.set_2 | apply IsS58.set_3 | refine IsS58.far ?_ NB201_196.out _ | refine IsS58.far ?_ NB201_213.out _) | exact HI201.out)); (case side2 => repeat (first | (with_reducible first | exact HB.out | apply bl | apply pN | apply b1 | refine bs ?_ (IsS58.ge HI201.out) | refine bs ?_ GE196.out | refine bs ?_ GE213.out) | exact HB.out | exact HBo.out)); rintro e w23 ⟨rfl, hi, hb, hk⟩; refine ⟨_, rfl, ?_⟩; have n0_ := Am (KeepBut.blk hk (g' := gb196) (o := .cells #[.int .i64 0, .int .i64 0, .slice none 0 0, .string (⟨#[]⟩ : ByteArray)] 24 (0, 0)) (by (with_reducible repeat (first | refine bn ?_ _ | refine bd ?_ | refine ba ?_ _)); refine blk_far ?_ NB196_213.out _; (with_reducible repeat (first | refine bn ?_ _ | refine bd ?_ | refine ba ?_ _)); refine blk_far ?_ NB196_213.out _; (with_reducible repeat (first | refine bn ?_ _ | refine bd ?_ | refine ba ?_ _)); refine blk_far ?_ NB196_213.out _; (with_reducible repeat (first | refine bn ?_ _ | refine bd ?_ | refine ba ?_ _)); refine blk_far ?_ NB196_213.out _; (with_reducible repeat (first | refine bn ?_ _ | refine bd ?_ | refine ba ?_ _)); exact BK196.out) NB196_201.out (by simp)); have n1_ := Am (Kd.R_mono (Kd.R_keep (IsS58.apart (show IsS58 w _ g201 t209 t210 t211 t212 from by repeat (first | (with_reducible first | exact HI201.out | apply IsS58.alloc | apply IsS58.drewN | apply IsS58.drew | apply IsS58.set_0 | apply IsS58.set_1 | apply IsS58.set_2 | apply IsS58.set_3 | refine IsS58.far ?_ NB201_196.out _ | refine IsS58.far ?_ NB201_213.out _) | exact HI201.out)) (by (with_reducible repeat (first | apply Kd.R_alloc | apply Kd.R_drewN | apply Kd.R_drew)); exact (Kd.R_mono (Kd.R_far (p := ⟨gb213, 3, none⟩) (Kd.R_far (p := ⟨gb213, 2, none⟩) (Kd.R_far (p := ⟨gb213, 1, none⟩) (Kd.R_far (p := ⟨gb213, 0, none⟩) (Kd.R_types HO206.out BK213.out (by decide)) (fun _ hk => hk.2) (.int .i64 t202)) (fun _ hk => hk.2) (.int .i64 t203)) (fun _ hk => hk.2) (.slice Ao22 t204.length co22)) (fun _ hk => hk.2) (.string t207)) (fun _ h_ => h_.1))) (by decide)) hk (fun _ h => h.2)) (fun _ h => h.1)); have n2_ := Am (KeepBut.blk hk (g' := gb213) (o := .cells #[.int .i64 t202, .int .i64 t203, .slice Ao22 t204.length co22, .string t207] 24 (0, 0)) (by (with_reducible repeat (first | refine bn ?_ _ | refine bd ?_ | refine ba ?_ _)); refine blk_put (cs := #[.int .i64 t202, .int .i64 t203, .slice Ao22 t204.length co22, .string (⟨#[]⟩ : ByteArray)]) ?_ 3 _ rfl; (with_reducible repeat (first | refine bn ?_ _ | refine bd ?_ | refine ba ?_ _)); refine blk_put (cs := #[.int .i64 t202, .int .i64 t203, .slice none 0 0, .string (⟨#[]⟩ : ByteArray)]) ?_ 2 _ rfl; (with_reducible repeat (first | refine bn ?_ _ | refine bd ?_ | refine ba ?_ _)); refine blk_put (cs := #[.int .i64 t202, .int .i64 0, .slice none 0 0, .string (⟨#[]⟩ : ByteArray)]) ?_ 1 _ rfl; (with_reducible repeat (first | refine bn ?_ _ | refine bd ?_ | refine ba ?_ _)); refine blk_put (cs := #[.int .i64 0, .int .i64 0, .slice none 0 0, .string (⟨#[]⟩ : ByteArray)]) ?_ 0 _ rfl; (with_reducible repeat (first | refine bn ?_ _ | refine bd ?_ | refine ba ?_ _)); exact BK213.out) NB213_201.out (by simp)); have n3_ := Am (hb); have n4_ := Am (hi); clear BK196; clear HO206; clear BK213; clear HB; clear HI201; have BK196 := n0_; have HO206 := n1_; have BK213 := n2_; have HB := n3_; have HI201 := n4_; clear n0_ n1_ n2_ n3_ n4_; (try clear hb); (try clear hb2); (try clear hk); (try clear hi)))
        have n0_ := Am (Kd.R_drew HO206.out)
        have n1_ := Am (bd BK196.out)
        have n2_ := Am (bd BK213.out)
        have n3_ := Am (IsS58.drew HI201.out)
        have n4_ := Am (b1 HB.out)
        clear HO206
        clear BK196
        clear BK213
        clear HI201
        clear HB
        have HO206 := n0_
        have BK196 := n1_
        have BK213 := n2_
        have HI201 := n3_
        have HB := n4_
        clear n0_ n1_ n2_ n3_ n4_
        refine start_ (n := 8) (S := fun w' => w'.cell? ⟨gb213, 0, none⟩ = some (.int .i64 t202) ∧ w'.cell? ⟨gb213, 1, none⟩ = some (.int .i64 t203) ∧ w'.cell? ⟨gb213, 2, none⟩ = some (.slice Ao22 t204.length co22) ∧ w'.cell? ⟨gb213, 3, none⟩ = some (.string t207)) (ds := []) q4_0 (by kernel_rfl) rfl rfl ⟨(bc BK213.out 0).trans rfl, (bc BK213.out 1).trans rfl, (bc BK213.out 2).trans rfl, (bc BK213.out 3).trans rfl⟩ (fun hHeld => ?_); refine with_tabW event_Decode.tab10 event_Decode.bits10 (fun HT_ HW_ => ?_)
        generalize w23.drew = w24 at HO206 BK196 BK213 HI201 HB hHeld ⊢
        refine Own.pr_ 1 (some 45) q4_1 HT_ (h := ?_)
        refine Own.pr_ 2 (some 46) q4_2 HT_ (h := ?_)
        refine Own.tk_ 0 (some 44) q4_3 HT_ HW_ hHeld (hy := by rintro w' ⟨s0, s1, s2, s3⟩; go_simp; with_reducible rfl) (h := ?_)
        refine one_ (i := 3) (N := some 47) q4_4 rfl rfl (one_of HT_.out (by kernel_rfl)) (by decide) (fun K hK => ?_)
        refine goes_ Try.func21 (by kernel_rfl) rfl #[.pointer (some ⟨g201, 0, none⟩)] (by rfl) rfl rfl (by (try simp only [List.map_toArray, List.map_cons, List.map_nil]); first | done | rfl | (simp only [List.length_drop, List.length_take]; rfl)) ?_
        with_reducible refine (wire_Reader_At.calls g201 t216 t217 t218 t219 t220 t221 t222 t223 t224 w _ ?side1 ?side2 A15.out).mono ?_
        (case side1 => repeat (first | (with_reducible first | exact HI201.out | apply IsS58.alloc | apply IsS58.drewN | apply IsS58.drew | apply IsS58.set_0 | apply IsS58.set_1 | apply IsS58.set_2 | apply IsS58.set_3 | refine IsS58.far ?_ NB201_196.out _ | refine IsS58.far ?_ NB201_213.out _) | exact HI201.out))
        (case side2 => repeat (first | (with_reducible first | exact HB.out | apply bl | apply pN | apply b1 | refine bs ?_ (IsS58.ge HI201.out) | refine bs ?_ GE196.out | refine bs ?_ GE213.out) | exact HB.out | exact HBo.out))
        rintro e w25 ⟨rfl, hi, hb, hk⟩
        refine ⟨_, rfl, ?_⟩
        have n0_ := Am (KeepBut.blk hk (g' := gb196) (o := .cells #[.int .i64 0, .int .i64 0, .slice none 0 0, .string (⟨#[]⟩ : ByteArray)] 24 (0, 0)) (by (with_reducible repeat (first | refine bn ?_ _ | refine bd ?_ | refine ba ?_ _)); exact BK196.out) NB196_201.out (by simp))
        have n1_ := Am (Kd.R_mono (Kd.R_keep (IsS58.apart (show IsS58 w _ g201 t216 t217 t218 t219 from by repeat (first | (with_reducible first | exact HI201.out | apply IsS58.alloc | apply IsS58.drewN | apply IsS58.drew | apply IsS58.set_0 | apply IsS58.set_1 | apply IsS58.set_2 | apply IsS58.set_3 | refine IsS58.far ?_ NB201_196.out _ | refine IsS58.far ?_ NB201_213.out _) | exact HI201.out)) (by (with_reducible repeat (first | apply Kd.R_alloc | apply Kd.R_drewN | apply Kd.R_drew)); exact HO206.out) (by decide)) hk (fun _ h => h.2)) (fun _ h => h.1))
        have n2_ := Am (KeepBut.blk hk (g' := gb213) (o := .cells #[.int .i64 t202, .int .i64 t203, .slice Ao22 t204.length co22, .string t207] 24 (0, 0)) (by (with_reducible repeat (first | refine bn ?_ _ | refine bd ?_ | refine ba ?_ _)); exact BK213.out) NB213_201.out (by simp))
        have n3_ := Am (hb)
        have n4_ := Am (hi)
        clear BK196
        clear HO206
        clear BK213
        clear HB
        clear HI201
        have BK196 := n0_
        have HO206 := n1_
        have BK213 := n2_
        have HB := n3_
        have HI201 := n4_
        clear n0_ n1_ n2_ n3_ n4_
        (try clear hb)
        (try clear hb2)
        (try clear hk)
        (try clear hi)
        refine hK.out _ _ ⟨(bc BK213.out 0).trans rfl, (bc BK213.out 1).trans rfl, (bc BK213.out 2).trans rfl, (bc BK213.out 3).trans rfl⟩ (fun hHeld => ?_)
        clear hK K
        refine norm_ (a' := ?_) ?_ ?_
        rotate_left
        ·
         show Act.put _ (some 47) _ = _
         simp only [Act.put, sI, sZ, sS, i64_w, i32_w]
         rfl
        refine Own.pr_ 4 (some 48) q4_5 HT_ (h := ?_)
        refine one_ (i := 5) (N := none) q4_6 rfl rfl (one_of HT_.out (by kernel_rfl)) (by decide) (fun K hK => ?_)
        have hs26 : w25.cell? ⟨gb196, 0, none⟩ = some (.int .i64 0) := (bc BK196.out 0).trans rfl
        have hfs26 := bf BK196.out 0
        have hns26_1 := NB213_196.out
        have hms26_1 := NB196_213.out
        have hs27 : w25.cell? ⟨gb196, 1, none⟩ = some (.int .i64 0) := (bc BK196.out 1).trans rfl
        have hfs27 := bf BK196.out 1
        have hns27_1 := NB213_196.out
        have hms27_1 := NB196_213.out
        have hs28 : w25.cell? ⟨gb196, 2, none⟩ = some (.slice none 0 0) := (bc BK196.out 2).trans rfl
        have hfs28 := bf BK196.out 2
        have hns28_1 := NB213_196.out
        have hms28_1 := NB196_213.out
        have hs29 : w25.cell? ⟨gb196, 3, none⟩ = some (.string (⟨#[]⟩ : ByteArray)) := (bc BK196.out 3).trans rfl
        have hfs29 := bf BK196.out 3
        have hns29_1 := NB213_196.out
        have hms29_1 := NB196_213.out
        refine skip_ (w1 := ?_) (by rfl) rfl ?_ ?_
        rotate_left
        ·
         go_simp
         rfl
        refine hK.out _ _ ⟨((cell_far (p := ⟨gb196, _, none⟩) NB213_196.out _).trans (((cell_far (p := ⟨gb196, _, none⟩) NB213_196.out _).trans (((cell_far (p := ⟨gb196, _, none⟩) NB213_196.out _).trans (((cell_far (p := ⟨gb196, _, none⟩) NB213_196.out _).trans (hHeld.1)))))))), ((cell_far (p := ⟨gb196, _, none⟩) NB213_196.out _).trans (((cell_far (p := ⟨gb196, _, none⟩) NB213_196.out _).trans (((cell_far (p := ⟨gb196, _, none⟩) NB213_196.out _).trans (((cell_far (p := ⟨gb196, _, none⟩) NB213_196.out _).trans (hHeld.2.1)))))))), ((cell_far (p := ⟨gb196, _, none⟩) NB213_196.out _).trans (((cell_far (p := ⟨gb196, _, none⟩) NB213_196.out _).trans (((cell_far (p := ⟨gb196, _, none⟩) NB213_196.out _).trans (((cell_far (p := ⟨gb196, _, none⟩) NB213_196.out _).trans (hHeld.2.2.1)))))))), ((cell_far (p := ⟨gb196, _, none⟩) NB213_196.out _).trans (((cell_far (p := ⟨gb196, _, none⟩) NB213_196.out _).trans (((cell_far (p := ⟨gb196, _, none⟩) NB213_196.out _).trans (((cell_far (p := ⟨gb196, _, none⟩) NB213_196.out _).trans (hHeld.2.2.2))))))))⟩ (fun hHeld => ?_)
        clear hK K
        refine Own.pr_ 6 (some 5) q4_7 HT_ (h := ?_)
        refine Own.pr_ 7 (some 6) q4_8 HT_ (h := ?_)
        refine done_ (done_of HT_.out (by kernel_rfl)) ?_
        try go_wp2
        refine bodyPost_ret (results_ctt rfl _ _ gb196 24 #[.int .i64 t202, .int .i64 t203, .slice Ao22 t204.length co22, .string t207] (0, 0) _ rfl (by (with_reducible repeat (first | refine bn ?_ _ | refine bd ?_ | refine ba ?_ _)); refine blk_put (cs := #[.int .i64 t202, .int .i64 t203, .slice Ao22 t204.length co22, .string (⟨#[]⟩ : ByteArray)]) ?_ 3 _ rfl; (with_reducible repeat (first | refine bn ?_ _ | refine bd ?_ | refine ba ?_ _)); refine blk_put (cs := #[.int .i64 t202, .int .i64 t203, .slice none 0 0, .string (⟨#[]⟩ : ByteArray)]) ?_ 2 _ rfl; (with_reducible repeat (first | refine bn ?_ _ | refine bd ?_ | refine ba ?_ _)); refine blk_put (cs := #[.int .i64 t202, .int .i64 0, .slice none 0 0, .string (⟨#[]⟩ : ByteArray)]) ?_ 1 _ rfl; (with_reducible repeat (first | refine bn ?_ _ | refine bd ?_ | refine ba ?_ _)); refine blk_put (cs := #[.int .i64 0, .int .i64 0, .slice none 0 0, .string (⟨#[]⟩ : ByteArray)]) ?_ 0 _ rfl; (with_reducible repeat (first | refine bn ?_ _ | refine bd ?_ | refine ba ?_ _)); exact BK196.out) Try.underlying24 rfl (by kernel_rfl)) rfl ?_
        exact ⟨_, by first | rfl | (simp [errW_none, errW_some] <;> rfl) | (simp [*, errW_none, errW_some] <;> rfl) | (simp [Aid.ne_nil, Aid.eq_nil, errW_none, errW_some]; done), by (with_reducible repeat (first | apply Kd.R_alloc | apply Kd.R_drewN | apply Kd.R_drew)); exact Kd.R_mono (Kd.R_far (p := ⟨gb196, 3, none⟩) (Kd.R_far (p := ⟨gb196, 2, none⟩) (Kd.R_far (p := ⟨gb196, 1, none⟩) (Kd.R_far (p := ⟨gb196, 0, none⟩) (Kd.R_types HO206.out BK196.out (by decide)) (fun _ hk => hk.2) (.int .i64 t202)) (fun _ hk => hk.2) (.int .i64 t203)) (fun _ hk => hk.2) (.slice Ao22 t204.length co22)) (fun _ hk => hk.2) (.string t207)) (fun _ hk => trivial), by repeat (first | (with_reducible first | exact HB.out | apply bl | apply pN | apply b1 | refine bs ?_ (IsS58.ge HI201.out) | refine bs ?_ GE196.out | refine bs ?_ GE213.out) | exact HB.out | exact HBo.out)⟩
       ·
        rw [if_neg c14] at H
        have c14b0 : (t214 == 0) = false := beq_eq_false_iff_ne.mpr c14
        have c14b1 : (t214 != 0) = true := bne_iff_ne.mpr c14
        simp only [Option.some.injEq, Prod.mk.injEq] at H
        obtain ⟨rfl, rfl, rfl, rfl, rfl, rfl⟩ := H
        go_wp2_with (first | ((with_reducible refine gate_callee (f := 18) rfl ?_); refine goesL_ (some 24) rfl rfl Try.func18 (by kernel_rfl) rfl #[.string (a0.extract (a1 : Int).toNat a0.size)] rfl (by (try simp only [List.map_toArray, List.map_cons, List.map_nil]); first | done | rfl | (simp only [List.length_drop, List.length_take]; rfl)) ?_; (with_reducible refine (wire_New.calls (a0.extract (a1 : Int).toNat a0.size) t197 t198 t199 t200 w _ ?side1 A10.out).mono ?_); (case side1 => repeat (first | (with_reducible first | exact HB.out | apply bl | apply pN | apply b1 | refine bs ?_ GE196.out) | exact HB.out | exact HBo.out)); rintro e w30 ⟨g201, rfl, hi, hb, hb2⟩; refine ⟨_, rfl, ?_⟩; have n0_ := Am (blk_below (g := gb196) (o := .cells #[.int .i64 0, .int .i64 0, .slice none 0 0, .string (⟨#[]⟩ : ByteArray)] 24 (0, 0)) (by (with_reducible repeat (first | refine bn ?_ _ | refine bd ?_ | refine ba ?_ _)); exact BK196.out) hb2); have n1_ := Am (hb); have n2_ := Am (hi); have n3_ := Am (IsS58.ne_blk hi (blk_below (g := gb196) (o := .cells #[.int .i64 0, .int .i64 0, .slice none 0 0, .string (⟨#[]⟩ : ByteArray)] 24 (0, 0)) (by (with_reducible repeat (first | refine bn ?_ _ | refine bd ?_ | refine ba ?_ _)); exact BK196.out) hb2) (by decide)); have n4_ := Am (Ne.symm (IsS58.ne_blk hi (blk_below (g := gb196) (o := .cells #[.int .i64 0, .int .i64 0, .slice none 0 0, .string (⟨#[]⟩ : ByteArray)] 24 (0, 0)) (by (with_reducible repeat (first | refine bn ?_ _ | refine bd ?_ | refine ba ?_ _)); exact BK196.out) hb2) (by decide))); clear BK196; clear HB; have BK196 := n0_; have HB := n1_; have HI201 := n2_; have NB201_196 := n3_; have NB196_201 := n4_; clear n0_ n1_ n2_ n3_ n4_; (try clear hb); (try clear hb2); (try clear hk); (try clear hi)) | ((with_reducible refine gate_callee (f := 19) rfl ?_); refine goesL_ (some 27) rfl rfl Try.func19 (by kernel_rfl) rfl #[.pointer (some ⟨g201, 0, none⟩)] rfl (by (try simp only [List.map_toArray, List.map_cons, List.map_nil]); first | done | rfl | (simp only [List.length_drop, List.length_take]; rfl)) ?_; (with_reducible refine (event_read.calls kj2 g201 t197 t198 t199 t200 t202 t203 t204 t207 true t209 t210 t211 t212 w _ ?side1 ?side2 A11.out).mono ?_); (case side1 => repeat (first | (with_reducible first | exact HI201.out | apply IsS58.alloc | apply IsS58.drewN | apply IsS58.drew | apply IsS58.set_0 | apply IsS58.set_1 | apply IsS58.set_2 | apply IsS58.set_3 | refine IsS58.far ?_ NB201_196.out _) | exact HI201.out)); (case side2 => repeat (first | (with_reducible first | exact HB.out | apply bl | apply pN | apply b1 | refine bs ?_ (IsS58.ge HI201.out) | refine bs ?_ GE196.out) | exact HB.out | exact HBo.out)); rintro e w31 ⟨v205, rfl, ho0, hi, hb, hk⟩; refine ⟨_, rfl, ?_⟩; have n0_ := Am (KeepBut.blk hk (g' := gb196) (o := .cells #[.int .i64 0, .int .i64 0, .slice none 0 0, .string (⟨#[]⟩ : ByteArray)] 24 (0, 0)) (by (with_reducible repeat (first | refine bn ?_ _ | refine bd ?_ | refine ba ?_ _)); exact BK196.out) NB196_201.out (by simp)); have n1_ := Am (Kd.R_lower ho0 (below_size (by repeat (first | (with_reducible first | exact HB.out | apply bl | apply pN | apply b1 | refine bs ?_ (IsS58.ge HI201.out) | refine bs ?_ GE196.out) | exact HB.out | exact HBo.out)))); have n2_ := Am (hb); have n3_ := Am (hi); clear BK196; clear HB; clear HI201; have BK196 := n0_; have HO206 := n1_; have HB := n2_; have HI201 := n3_; clear n0_ n1_ n2_ n3_; (try clear hb); (try clear hb2); (try clear hk); (try clear hi); (try clear ho0)) | ((with_reducible refine gate_dst (N := 8) rfl ?_); (try (refine gate_guard (by rfl) ?_; dsimp only)); refine box_event ?hg (N := 8) ?hd (cs := #[.int .i64 0, .int .i64 0, .slice none 0 0, .string (⟨#[]⟩ : ByteArray)]) (t := 24) ?hr ?_; (case hd => rfl); (case hg => rfl); (case hr => first | (go_simp; done) | (go_simp; rfl)); intro gb213 hg w32 hbox hb; have n0_ := Am (Kd.R_below (by (with_reducible repeat (first | apply Kd.R_alloc | apply Kd.R_drewN | apply Kd.R_drew)); exact HO206.out) hb); have n1_ := Am (blk_below (g := gb196) (o := .cells #[.int .i64 0, .int .i64 0, .slice none 0 0, .string (⟨#[]⟩ : ByteArray)] 24 (0, 0)) (by (with_reducible repeat (first | refine bn ?_ _ | refine bd ?_ | refine ba ?_ _)); exact BK196.out) hb); have n2_ := Am (IsS58.below (by repeat (first | (with_reducible first | exact HI201.out | apply IsS58.alloc | apply IsS58.drewN | apply IsS58.drew | apply IsS58.set_0 | apply IsS58.set_1 | apply IsS58.set_2 | apply IsS58.set_3 | refine IsS58.far ?_ NB201_196.out _) | exact HI201.out)) hb); have n3_ := Am (below_step (by repeat (first | (with_reducible first | exact HB.out | apply bl | apply pN | apply b1 | refine bs ?_ (IsS58.ge HI201.out) | refine bs ?_ GE196.out) | exact HB.out | exact HBo.out)) hb); have n4_ := Am (hbox); have n5_ := Am ((by rw [hg]; exact (below_size (by repeat (first | (with_reducible first | exact HB.out | apply bl | apply pN | apply b1 | refine bs ?_ (IsS58.ge HI201.out) | refine bs ?_ GE196.out) | exact HB.out | exact HBo.out))) : w.heap.size ≤ gb213)); have n6_ := Am ((by rw [hg]; exact (below_size (by repeat (first | (with_reducible first | exact HB.out | apply bl | apply pN | apply b1 | refine bs ?_ (IsS58.ge HI201.out) | refine bs ?_ GE196.out) | exact HB.out | exact HBo.out))) : w.heap.size ≤ gb213)); have n7_ := Am ((by rw [hg]; exact Nat.ne_of_lt (blk_lt (g := gb196) (o := .cells #[.int .i64 0, .int .i64 0, .slice none 0 0, .string (⟨#[]⟩ : ByteArray)] 24 (0, 0)) (by (with_reducible repeat (first | refine bn ?_ _ | refine bd ?_ | refine ba ?_ _)); exact BK196.out)) : gb196 ≠ gb213)); have n8_ := Am ((by rw [hg]; exact Nat.ne_of_gt (blk_lt (g := gb196) (o := .cells #[.int .i64 0, .int .i64 0, .slice none 0 0, .string (⟨#[]⟩ : ByteArray)] 24 (0, 0)) (by (with_reducible repeat (first | refine bn ?_ _ | refine bd ?_ | refine ba ?_ _)); exact BK196.out)) : gb213 ≠ gb196)); have n9_ := Am ((by rw [hg]; exact Nat.ne_of_lt (IsS58.lt (show IsS58 w _ g201 t209 t210 t211 t212 from by repeat (first | (with_reducible first | exact HI201.out | apply IsS58.alloc | apply IsS58.drewN | apply IsS58.drew | apply IsS58.set_0 | apply IsS58.set_1 | apply IsS58.set_2 | apply IsS58.set_3 | refine IsS58.far ?_ NB201_196.out _) | exact HI201.out))) : g201 ≠ gb213)); have n10_ := Am ((by rw [hg]; exact Nat.ne_of_gt (IsS58.lt (show IsS58 w _ g201 t209 t210 t211 t212 from by repeat (first | (with_reducible first | exact HI201.out | apply IsS58.alloc | apply IsS58.drewN | apply IsS58.drew | apply IsS58.set_0 | apply IsS58.set_1 | apply IsS58.set_2 | apply IsS58.set_3 | refine IsS58.far ?_ NB201_196.out _) | exact HI201.out))) : gb213 ≠ g201)); clear HO206; clear BK196; clear HI201; clear HB; have HO206 := n0_; have BK196 := n1_; have HI201 := n2_; have HB := n3_; have BK213 := n4_; have GW213 := n5_; have GE213 := n6_; have NB196_213 := n7_; have NB213_196 := n8_; have NB201_213 := n9_; have NB213_201 := n10_; clear n0_ n1_ n2_ n3_ n4_ n5_ n6_ n7_ n8_ n9_ n10_; clear hb hbox hg; have hnb33 := NB213_196.out; have hnc33 := NB196_213.out; have hnb34 := NB213_201.out; have hnc34 := NB201_213.out; have hcz35_0 : w32.cell? ⟨gb213, 0, none⟩ = some (.int .i64 0) := (bc BK213.out 0).trans rfl; have hcz35_1 : w32.cell? ⟨gb213, 1, none⟩ = some (.int .i64 0) := (bc BK213.out 1).trans rfl; have hcz35_2 : w32.cell? ⟨gb213, 2, none⟩ = some (.slice none 0 0) := (bc BK213.out 2).trans rfl; have hcz35_3 : w32.cell? ⟨gb213, 3, none⟩ = some (.string (⟨#[]⟩ : ByteArray)) := (bc BK213.out 3).trans rfl; have hfz35_0 := bf BK213.out 0; have hfz35_1 := bf BK213.out 1; have hfz35_2 := bf BK213.out 2; have hfz35_3 := bf BK213.out 3; obtain ⟨Ao36, co36, eo36⟩ := Kd.R_slice HO206.out; subst eo36) | ((with_reducible refine gate_callee (f := 20) rfl ?_); refine goesL_ (some 32) rfl rfl Try.func20 (by kernel_rfl) rfl #[.pointer (some ⟨g201, 0, none⟩)] rfl (by (try simp only [List.map_toArray, List.map_cons, List.map_nil]); first | done | rfl | (simp only [List.length_drop, List.length_take]; rfl)) ?_; (with_reducible refine (wire_Reader_Err.calls g201 t209 t210 t211 t212 t214 t215 t216 t217 t218 t219 w _ ?side1 ?side2 A12.out).mono ?_); (case side1 => repeat (first | (with_reducible first | exact HI201.out | apply IsS58.alloc | apply IsS58.drewN | apply IsS58.drew | apply IsS58.set_0 | apply IsS58.set_1 | apply IsS58.set_2 | apply IsS58.set_3 | refine IsS58.far ?_ NB201_196.out _ | refine IsS58.far ?_ NB201_213.out _) | exact HI201.out)); (case side2 => repeat (first | (with_reducible first | exact HB.out | apply bl | apply pN | apply b1 | refine bs ?_ (IsS58.ge HI201.out) | refine bs ?_ GE196.out | refine bs ?_ GE213.out) | exact HB.out | exact HBo.out)); rintro e w37 ⟨rfl, hi, hb, hk⟩; refine ⟨_, rfl, ?_⟩; have n0_ := Am (KeepBut.blk hk (g' := gb196) (o := .cells #[.int .i64 0, .int .i64 0, .slice none 0 0, .string (⟨#[]⟩ : ByteArray)] 24 (0, 0)) (by (with_reducible repeat (first | refine bn ?_ _ | refine bd ?_ | refine ba ?_ _)); refine blk_far ?_ NB196_213.out _; (with_reducible repeat (first | refine bn ?_ _ | refine bd ?_ | refine ba ?_ _)); refine blk_far ?_ NB196_213.out _; (with_reducible repeat (first | refine bn ?_ _ | refine bd ?_ | refine ba ?_ _)); refine blk_far ?_ NB196_213.out _; (with_reducible repeat (first | refine bn ?_ _ | refine bd ?_ | refine ba ?_ _)); refine blk_far ?_ NB196_213.out _; (with_reducible repeat (first | refine bn ?_ _ | refine bd ?_ | refine ba ?_ _)); exact BK196.out) NB196_201.out (by simp)); have n1_ := Am (Kd.R_mono (Kd.R_keep (IsS58.apart (show IsS58 w _ g201 t209 t210 t211 t212 from by repeat (first | (with_reducible first | exact HI201.out | apply IsS58.alloc | apply IsS58.drewN | apply IsS58.drew | apply IsS58.set_0 | apply IsS58.set_1 | apply IsS58.set_2 | apply IsS58.set_3 | refine IsS58.far ?_ NB201_196.out _ | refine IsS58.far ?_ NB201_213.out _) | exact HI201.out)) (by (with_reducible repeat (first | apply Kd.R_alloc | apply Kd.R_drewN | apply Kd.R_drew)); exact (Kd.R_mono (Kd.R_far (p := ⟨gb213, 3, none⟩) (Kd.R_far (p := ⟨gb213, 2, none⟩) (Kd.R_far (p := ⟨gb213, 1, none⟩) (Kd.R_far (p := ⟨gb213, 0, none⟩) (Kd.R_types HO206.out BK213.out (by decide)) (fun _ hk => hk.2) (.int .i64 t202)) (fun _ hk => hk.2) (.int .i64 t203)) (fun _ hk => hk.2) (.slice Ao36 t204.length co36)) (fun _ hk => hk.2) (.string t207)) (fun _ h_ => h_.1))) (by decide)) hk (fun _ h => h.2)) (fun _ h => h.1)); have n2_ := Am (KeepBut.blk hk (g' := gb213) (o := .cells #[.int .i64 t202, .int .i64 t203, .slice Ao36 t204.length co36, .string t207] 24 (0, 0)) (by (with_reducible repeat (first | refine bn ?_ _ | refine bd ?_ | refine ba ?_ _)); refine blk_put (cs := #[.int .i64 t202, .int .i64 t203, .slice Ao36 t204.length co36, .string (⟨#[]⟩ : ByteArray)]) ?_ 3 _ rfl; (with_reducible repeat (first | refine bn ?_ _ | refine bd ?_ | refine ba ?_ _)); refine blk_put (cs := #[.int .i64 t202, .int .i64 t203, .slice none 0 0, .string (⟨#[]⟩ : ByteArray)]) ?_ 2 _ rfl; (with_reducible repeat (first | refine bn ?_ _ | refine bd ?_ | refine ba ?_ _)); refine blk_put (cs := #[.int .i64 t202, .int .i64 0, .slice none 0 0, .string (⟨#[]⟩ : ByteArray)]) ?_ 1 _ rfl; (with_reducible repeat (first | refine bn ?_ _ | refine bd ?_ | refine ba ?_ _)); refine blk_put (cs := #[.int .i64 0, .int .i64 0, .slice none 0 0, .string (⟨#[]⟩ : ByteArray)]) ?_ 0 _ rfl; (with_reducible repeat (first | refine bn ?_ _ | refine bd ?_ | refine ba ?_ _)); exact BK213.out) NB213_201.out (by simp)); have n3_ := Am (hb); have n4_ := Am (hi); clear BK196; clear HO206; clear BK213; clear HB; clear HI201; have BK196 := n0_; have HO206 := n1_; have BK213 := n2_; have HB := n3_; have HI201 := n4_; clear n0_ n1_ n2_ n3_ n4_; (try clear hb); (try clear hb2); (try clear hk); (try clear hi); have hnb38 := NB196_201.out; have hnc38 := NB201_196.out; have hcz39_0 : w37.cell? ⟨gb196, 0, none⟩ = some (.int .i64 0) := (bc BK196.out 0).trans rfl; have hcz39_1 : w37.cell? ⟨gb196, 1, none⟩ = some (.int .i64 0) := (bc BK196.out 1).trans rfl; have hcz39_2 : w37.cell? ⟨gb196, 2, none⟩ = some (.slice none 0 0) := (bc BK196.out 2).trans rfl; have hcz39_3 : w37.cell? ⟨gb196, 3, none⟩ = some (.string (⟨#[]⟩ : ByteArray)) := (bc BK196.out 3).trans rfl; have hfz39_0 := bf BK196.out 0; have hfz39_1 := bf BK196.out 1; have hfz39_2 := bf BK196.out 2; have hfz39_3 := bf BK196.out 3))
        refine bodyPost_ret (results_ctt rfl _ _ gb196 24 #[.int .i64 0, .int .i64 0, .slice none 0 0, .string (⟨#[]⟩ : ByteArray)] (0, 0) _ rfl (by (with_reducible repeat (first | refine bn ?_ _ | refine bd ?_ | refine ba ?_ _)); refine blk_put (cs := #[.int .i64 0, .int .i64 0, .slice none 0 0, .string (⟨#[]⟩ : ByteArray)]) ?_ 3 _ rfl; (with_reducible repeat (first | refine bn ?_ _ | refine bd ?_ | refine ba ?_ _)); refine blk_put (cs := #[.int .i64 0, .int .i64 0, .slice none 0 0, .string (⟨#[]⟩ : ByteArray)]) ?_ 2 _ rfl; (with_reducible repeat (first | refine bn ?_ _ | refine bd ?_ | refine ba ?_ _)); refine blk_put (cs := #[.int .i64 0, .int .i64 0, .slice none 0 0, .string (⟨#[]⟩ : ByteArray)]) ?_ 1 _ rfl; (with_reducible repeat (first | refine bn ?_ _ | refine bd ?_ | refine ba ?_ _)); refine blk_put (cs := #[.int .i64 0, .int .i64 0, .slice none 0 0, .string (⟨#[]⟩ : ByteArray)]) ?_ 0 _ rfl; (with_reducible repeat (first | refine bn ?_ _ | refine bd ?_ | refine ba ?_ _)); exact BK196.out) Try.underlying24 rfl (by kernel_rfl)) rfl ?_
        exact ⟨_, by first | rfl | (simp [errW_none, errW_some] <;> rfl) | (simp [*, errW_none, errW_some] <;> rfl) | (simp [Aid.ne_nil, Aid.eq_nil, errW_none, errW_some]; done), by first | exact Kd.R_nil _ _ _ _ _ | exact Kd.N_nil _ _ _ _ _ | exact Kd.V_nil _ _ _ _ _ | exact Kd.Q_nil _ _ _ _ _ | exact Kd.S_nil _ _ _ _ _, by repeat (first | (with_reducible first | exact HB.out | apply bl | apply pN | apply b1 | refine bs ?_ (IsS58.ge HI201.out) | refine bs ?_ GE196.out | refine bs ?_ GE213.out) | exact HB.out | exact HBo.out)⟩
      ·
       replace c13 := Bool.eq_false_iff.mpr c13
       subst c13
       have H1 : (some (0, 0, ([] : List Int), (⟨#[]⟩ : ByteArray), 0, 30)) = some (r1, r2, r3, r4, r5, r6) := by rw [if_neg (show ¬ (false = true) by decide)] at H; exact H
       clear H
       have H := H1
       clear H1
       simp only [Option.some.injEq, Prod.mk.injEq] at H
       obtain ⟨rfl, rfl, rfl, rfl, rfl, rfl⟩ := H
       go_wp2_with (first | ((with_reducible refine gate_callee (f := 18) rfl ?_); refine goesL_ (some 24) rfl rfl Try.func18 (by kernel_rfl) rfl #[.string (a0.extract (a1 : Int).toNat a0.size)] rfl (by (try simp only [List.map_toArray, List.map_cons, List.map_nil]); first | done | rfl | (simp only [List.length_drop, List.length_take]; rfl)) ?_; (with_reducible refine (wire_New.calls (a0.extract (a1 : Int).toNat a0.size) t197 t198 t199 t200 w _ ?side1 A10.out).mono ?_); (case side1 => repeat (first | (with_reducible first | exact HB.out | apply bl | apply pN | apply b1 | refine bs ?_ GE196.out) | exact HB.out | exact HBo.out)); rintro e w40 ⟨g201, rfl, hi, hb, hb2⟩; refine ⟨_, rfl, ?_⟩; have n0_ := Am (blk_below (g := gb196) (o := .cells #[.int .i64 0, .int .i64 0, .slice none 0 0, .string (⟨#[]⟩ : ByteArray)] 24 (0, 0)) (by (with_reducible repeat (first | refine bn ?_ _ | refine bd ?_ | refine ba ?_ _)); exact BK196.out) hb2); have n1_ := Am (hb); have n2_ := Am (hi); have n3_ := Am (IsS58.ne_blk hi (blk_below (g := gb196) (o := .cells #[.int .i64 0, .int .i64 0, .slice none 0 0, .string (⟨#[]⟩ : ByteArray)] 24 (0, 0)) (by (with_reducible repeat (first | refine bn ?_ _ | refine bd ?_ | refine ba ?_ _)); exact BK196.out) hb2) (by decide)); have n4_ := Am (Ne.symm (IsS58.ne_blk hi (blk_below (g := gb196) (o := .cells #[.int .i64 0, .int .i64 0, .slice none 0 0, .string (⟨#[]⟩ : ByteArray)] 24 (0, 0)) (by (with_reducible repeat (first | refine bn ?_ _ | refine bd ?_ | refine ba ?_ _)); exact BK196.out) hb2) (by decide))); clear BK196; clear HB; have BK196 := n0_; have HB := n1_; have HI201 := n2_; have NB201_196 := n3_; have NB196_201 := n4_; clear n0_ n1_ n2_ n3_ n4_; (try clear hb); (try clear hb2); (try clear hk); (try clear hi)) | ((with_reducible refine gate_callee (f := 19) rfl ?_); refine goesL_ (some 27) rfl rfl Try.func19 (by kernel_rfl) rfl #[.pointer (some ⟨g201, 0, none⟩)] rfl (by (try simp only [List.map_toArray, List.map_cons, List.map_nil]); first | done | rfl | (simp only [List.length_drop, List.length_take]; rfl)) ?_; (with_reducible refine (event_read.calls kj2 g201 t197 t198 t199 t200 t202 t203 t204 t207 false t209 t210 t211 t212 w _ ?side1 ?side2 A11.out).mono ?_); (case side1 => repeat (first | (with_reducible first | exact HI201.out | apply IsS58.alloc | apply IsS58.drewN | apply IsS58.drew | apply IsS58.set_0 | apply IsS58.set_1 | apply IsS58.set_2 | apply IsS58.set_3 | refine IsS58.far ?_ NB201_196.out _) | exact HI201.out)); (case side2 => repeat (first | (with_reducible first | exact HB.out | apply bl | apply pN | apply b1 | refine bs ?_ (IsS58.ge HI201.out) | refine bs ?_ GE196.out) | exact HB.out | exact HBo.out)); rintro e w41 ⟨v205, rfl, ho0, hi, hb, hk⟩; refine ⟨_, rfl, ?_⟩; have n0_ := Am (KeepBut.blk hk (g' := gb196) (o := .cells #[.int .i64 0, .int .i64 0, .slice none 0 0, .string (⟨#[]⟩ : ByteArray)] 24 (0, 0)) (by (with_reducible repeat (first | refine bn ?_ _ | refine bd ?_ | refine ba ?_ _)); exact BK196.out) NB196_201.out (by simp)); have n1_ := Am (Kd.R_lower ho0 (below_size (by repeat (first | (with_reducible first | exact HB.out | apply bl | apply pN | apply b1 | refine bs ?_ (IsS58.ge HI201.out) | refine bs ?_ GE196.out) | exact HB.out | exact HBo.out)))); have n2_ := Am (hb); have n3_ := Am (hi); clear BK196; clear HB; clear HI201; have BK196 := n0_; have HO206 := n1_; have HB := n2_; have HI201 := n3_; clear n0_ n1_ n2_ n3_; (try clear hb); (try clear hb2); (try clear hk); (try clear hi); (try clear ho0)) | ((with_reducible refine gate_dst (N := 8) rfl ?_); (try (refine gate_guard (by rfl) ?_; dsimp only)); refine box_event ?hg (N := 8) ?hd (cs := #[.int .i64 0, .int .i64 0, .slice none 0 0, .string (⟨#[]⟩ : ByteArray)]) (t := 24) ?hr ?_; (case hd => rfl); (case hg => rfl); (case hr => first | (go_simp; done) | (go_simp; rfl)); intro gb213 hg w42 hbox hb; have n0_ := Am (Kd.R_below (by (with_reducible repeat (first | apply Kd.R_alloc | apply Kd.R_drewN | apply Kd.R_drew)); exact HO206.out) hb); have n1_ := Am (blk_below (g := gb196) (o := .cells #[.int .i64 0, .int .i64 0, .slice none 0 0, .string (⟨#[]⟩ : ByteArray)] 24 (0, 0)) (by (with_reducible repeat (first | refine bn ?_ _ | refine bd ?_ | refine ba ?_ _)); exact BK196.out) hb); have n2_ := Am (IsS58.below (by repeat (first | (with_reducible first | exact HI201.out | apply IsS58.alloc | apply IsS58.drewN | apply IsS58.drew | apply IsS58.set_0 | apply IsS58.set_1 | apply IsS58.set_2 | apply IsS58.set_3 | refine IsS58.far ?_ NB201_196.out _) | exact HI201.out)) hb); have n3_ := Am (below_step (by repeat (first | (with_reducible first | exact HB.out | apply bl | apply pN | apply b1 | refine bs ?_ (IsS58.ge HI201.out) | refine bs ?_ GE196.out) | exact HB.out | exact HBo.out)) hb); have n4_ := Am (hbox); have n5_ := Am ((by rw [hg]; exact (below_size (by repeat (first | (with_reducible first | exact HB.out | apply bl | apply pN | apply b1 | refine bs ?_ (IsS58.ge HI201.out) | refine bs ?_ GE196.out) | exact HB.out | exact HBo.out))) : w.heap.size ≤ gb213)); have n6_ := Am ((by rw [hg]; exact (below_size (by repeat (first | (with_reducible first | exact HB.out | apply bl | apply pN | apply b1 | refine bs ?_ (IsS58.ge HI201.out) | refine bs ?_ GE196.out) | exact HB.out | exact HBo.out))) : w.heap.size ≤ gb213)); have n7_ := Am ((by rw [hg]; exact Nat.ne_of_lt (blk_lt (g := gb196) (o := .cells #[.int .i64 0, .int .i64 0, .slice none 0 0, .string (⟨#[]⟩ : ByteArray)] 24 (0, 0)) (by (with_reducible repeat (first | refine bn ?_ _ | refine bd ?_ | refine ba ?_ _)); exact BK196.out)) : gb196 ≠ gb213)); have n8_ := Am ((by rw [hg]; exact Nat.ne_of_gt (blk_lt (g := gb196) (o := .cells #[.int .i64 0, .int .i64 0, .slice none 0 0, .string (⟨#[]⟩ : ByteArray)] 24 (0, 0)) (by (with_reducible repeat (first | refine bn ?_ _ | refine bd ?_ | refine ba ?_ _)); exact BK196.out)) : gb213 ≠ gb196)); have n9_ := Am ((by rw [hg]; exact Nat.ne_of_lt (IsS58.lt (show IsS58 w _ g201 t209 t210 t211 t212 from by repeat (first | (with_reducible first | exact HI201.out | apply IsS58.alloc | apply IsS58.drewN | apply IsS58.drew | apply IsS58.set_0 | apply IsS58.set_1 | apply IsS58.set_2 | apply IsS58.set_3 | refine IsS58.far ?_ NB201_196.out _) | exact HI201.out))) : g201 ≠ gb213)); have n10_ := Am ((by rw [hg]; exact Nat.ne_of_gt (IsS58.lt (show IsS58 w _ g201 t209 t210 t211 t212 from by repeat (first | (with_reducible first | exact HI201.out | apply IsS58.alloc | apply IsS58.drewN | apply IsS58.drew | apply IsS58.set_0 | apply IsS58.set_1 | apply IsS58.set_2 | apply IsS58.set_3 | refine IsS58.far ?_ NB201_196.out _) | exact HI201.out))) : gb213 ≠ g201)); clear HO206; clear BK196; clear HI201; clear HB; have HO206 := n0_; have BK196 := n1_; have HI201 := n2_; have HB := n3_; have BK213 := n4_; have GW213 := n5_; have GE213 := n6_; have NB196_213 := n7_; have NB213_196 := n8_; have NB201_213 := n9_; have NB213_201 := n10_; clear n0_ n1_ n2_ n3_ n4_ n5_ n6_ n7_ n8_ n9_ n10_; clear hb hbox hg; have hnb43 := NB213_196.out; have hnc43 := NB196_213.out; have hnb44 := NB213_201.out; have hnc44 := NB201_213.out; have hcz45_0 : w42.cell? ⟨gb213, 0, none⟩ = some (.int .i64 0) := (bc BK213.out 0).trans rfl; have hcz45_1 : w42.cell? ⟨gb213, 1, none⟩ = some (.int .i64 0) := (bc BK213.out 1).trans rfl; have hcz45_2 : w42.cell? ⟨gb213, 2, none⟩ = some (.slice none 0 0) := (bc BK213.out 2).trans rfl; have hcz45_3 : w42.cell? ⟨gb213, 3, none⟩ = some (.string (⟨#[]⟩ : ByteArray)) := (bc BK213.out 3).trans rfl; have hfz45_0 := bf BK213.out 0; have hfz45_1 := bf BK213.out 1; have hfz45_2 := bf BK213.out 2; have hfz45_3 := bf BK213.out 3; obtain ⟨Ao46, co46, eo46⟩ := Kd.R_slice HO206.out; subst eo46) | ((with_reducible refine gate_callee (f := 20) rfl ?_); refine goesL_ (some 32) rfl rfl Try.func20 (by kernel_rfl) rfl #[.pointer (some ⟨g201, 0, none⟩)] rfl (by (try simp only [List.map_toArray, List.map_cons, List.map_nil]); first | done | rfl | (simp only [List.length_drop, List.length_take]; rfl)) ?_; (with_reducible refine (wire_Reader_Err.calls g201 t209 t210 t211 t212 t214 t215 t216 t217 t218 t219 w _ ?side1 ?side2 A12.out).mono ?_); (case side1 => repeat (first | (with_reducible first | exact HI201.out | apply IsS58.alloc | apply IsS58.drewN | apply IsS58.drew | apply IsS58.set_0 | apply IsS58.set_1 | apply IsS58.set_2 | apply IsS58.set_3 | refine IsS58.far ?_ NB201_196.out _ | refine IsS58.far ?_ NB201_213.out _) | exact HI201.out)); (case side2 => repeat (first | (with_reducible first | exact HB.out | apply bl | apply pN | apply b1 | refine bs ?_ (IsS58.ge HI201.out) | refine bs ?_ GE196.out | refine bs ?_ GE213.out) | exact HB.out | exact HBo.out)); rintro e w47 ⟨rfl, hi, hb, hk⟩; refine ⟨_, rfl, ?_⟩; have n0_ := Am (KeepBut.blk hk (g' := gb196) (o := .cells #[.int .i64 0, .int .i64 0, .slice none 0 0, .string (⟨#[]⟩ : ByteArray)] 24 (0, 0)) (by (with_reducible repeat (first | refine bn ?_ _ | refine bd ?_ | refine ba ?_ _)); refine blk_far ?_ NB196_213.out _; (with_reducible repeat (first | refine bn ?_ _ | refine bd ?_ | refine ba ?_ _)); refine blk_far ?_ NB196_213.out _; (with_reducible repeat (first | refine bn ?_ _ | refine bd ?_ | refine ba ?_ _)); refine blk_far ?_ NB196_213.out _; (with_reducible repeat (first | refine bn ?_ _ | refine bd ?_ | refine ba ?_ _)); refine blk_far ?_ NB196_213.out _; (with_reducible repeat (first | refine bn ?_ _ | refine bd ?_ | refine ba ?_ _)); exact BK196.out) NB196_201.out (by simp)); have n1_ := Am (Kd.R_mono (Kd.R_keep (IsS58.apart (show IsS58 w _ g201 t209 t210 t211 t212 from by repeat (first | (with_reducible first | exact HI201.out | apply IsS58.alloc | apply IsS58.drewN | apply IsS58.drew | apply IsS58.set_0 | apply IsS58.set_1 | apply IsS58.set_2 | apply IsS58.set_3 | refine IsS58.far ?_ NB201_196.out _ | refine IsS58.far ?_ NB201_213.out _) | exact HI201.out)) (by (with_reducible repeat (first | apply Kd.R_alloc | apply Kd.R_drewN | apply Kd.R_drew)); exact (Kd.R_mono (Kd.R_far (p := ⟨gb213, 3, none⟩) (Kd.R_far (p := ⟨gb213, 2, none⟩) (Kd.R_far (p := ⟨gb213, 1, none⟩) (Kd.R_far (p := ⟨gb213, 0, none⟩) (Kd.R_types HO206.out BK213.out (by decide)) (fun _ hk => hk.2) (.int .i64 t202)) (fun _ hk => hk.2) (.int .i64 t203)) (fun _ hk => hk.2) (.slice Ao46 t204.length co46)) (fun _ hk => hk.2) (.string t207)) (fun _ h_ => h_.1))) (by decide)) hk (fun _ h => h.2)) (fun _ h => h.1)); have n2_ := Am (KeepBut.blk hk (g' := gb213) (o := .cells #[.int .i64 t202, .int .i64 t203, .slice Ao46 t204.length co46, .string t207] 24 (0, 0)) (by (with_reducible repeat (first | refine bn ?_ _ | refine bd ?_ | refine ba ?_ _)); refine blk_put (cs := #[.int .i64 t202, .int .i64 t203, .slice Ao46 t204.length co46, .string (⟨#[]⟩ : ByteArray)]) ?_ 3 _ rfl; (with_reducible repeat (first | refine bn ?_ _ | refine bd ?_ | refine ba ?_ _)); refine blk_put (cs := #[.int .i64 t202, .int .i64 t203, .slice none 0 0, .string (⟨#[]⟩ : ByteArray)]) ?_ 2 _ rfl; (with_reducible repeat (first | refine bn ?_ _ | refine bd ?_ | refine ba ?_ _)); refine blk_put (cs := #[.int .i64 t202, .int .i64 0, .slice none 0 0, .string (⟨#[]⟩ : ByteArray)]) ?_ 1 _ rfl; (with_reducible repeat (first | refine bn ?_ _ | refine bd ?_ | refine ba ?_ _)); refine blk_put (cs := #[.int .i64 0, .int .i64 0, .slice none 0 0, .string (⟨#[]⟩ : ByteArray)]) ?_ 0 _ rfl; (with_reducible repeat (first | refine bn ?_ _ | refine bd ?_ | refine ba ?_ _)); exact BK213.out) NB213_201.out (by simp)); have n3_ := Am (hb); have n4_ := Am (hi); clear BK196; clear HO206; clear BK213; clear HB; clear HI201; have BK196 := n0_; have HO206 := n1_; have BK213 := n2_; have HB := n3_; have HI201 := n4_; clear n0_ n1_ n2_ n3_ n4_; (try clear hb); (try clear hb2); (try clear hk); (try clear hi); have hnb48 := NB196_201.out; have hnc48 := NB201_196.out; have hcz49_0 : w47.cell? ⟨gb196, 0, none⟩ = some (.int .i64 0) := (bc BK196.out 0).trans rfl; have hcz49_1 : w47.cell? ⟨gb196, 1, none⟩ = some (.int .i64 0) := (bc BK196.out 1).trans rfl; have hcz49_2 : w47.cell? ⟨gb196, 2, none⟩ = some (.slice none 0 0) := (bc BK196.out 2).trans rfl; have hcz49_3 : w47.cell? ⟨gb196, 3, none⟩ = some (.string (⟨#[]⟩ : ByteArray)) := (bc BK196.out 3).trans rfl; have hfz49_0 := bf BK196.out 0; have hfz49_1 := bf BK196.out 1; have hfz49_2 := bf BK196.out 2; have hfz49_3 := bf BK196.out 3))
       refine bodyPost_ret (results_ctt rfl _ _ gb196 24 #[.int .i64 0, .int .i64 0, .slice none 0 0, .string (⟨#[]⟩ : ByteArray)] (0, 0) _ rfl (by (with_reducible repeat (first | refine bn ?_ _ | refine bd ?_ | refine ba ?_ _)); refine blk_put (cs := #[.int .i64 0, .int .i64 0, .slice none 0 0, .string (⟨#[]⟩ : ByteArray)]) ?_ 3 _ rfl; (with_reducible repeat (first | refine bn ?_ _ | refine bd ?_ | refine ba ?_ _)); refine blk_put (cs := #[.int .i64 0, .int .i64 0, .slice none 0 0, .string (⟨#[]⟩ : ByteArray)]) ?_ 2 _ rfl; (with_reducible repeat (first | refine bn ?_ _ | refine bd ?_ | refine ba ?_ _)); refine blk_put (cs := #[.int .i64 0, .int .i64 0, .slice none 0 0, .string (⟨#[]⟩ : ByteArray)]) ?_ 1 _ rfl; (with_reducible repeat (first | refine bn ?_ _ | refine bd ?_ | refine ba ?_ _)); refine blk_put (cs := #[.int .i64 0, .int .i64 0, .slice none 0 0, .string (⟨#[]⟩ : ByteArray)]) ?_ 0 _ rfl; (with_reducible repeat (first | refine bn ?_ _ | refine bd ?_ | refine ba ?_ _)); exact BK196.out) Try.underlying24 rfl (by kernel_rfl)) rfl ?_
       exact ⟨_, by first | rfl | (simp [errW_none, errW_some] <;> rfl) | (simp [*, errW_none, errW_some] <;> rfl) | (simp [Aid.ne_nil, Aid.eq_nil, errW_none, errW_some]; done), by first | exact Kd.R_nil _ _ _ _ _ | exact Kd.N_nil _ _ _ _ _ | exact Kd.V_nil _ _ _ _ _ | exact Kd.Q_nil _ _ _ _ _ | exact Kd.S_nil _ _ _ _ _, by repeat (first | (with_reducible first | exact HB.out | apply bl | apply pN | apply b1 | refine bs ?_ (IsS58.ge HI201.out) | refine bs ?_ GE196.out | refine bs ?_ GE213.out) | exact HB.out | exact HBo.out)⟩
     ·
      rw [if_neg c9] at H
      exact absurd H (by simp)
    ·
     rw [if_neg c8] at H
     exact absurd H (by simp)

/-! ### event_fits: function 26 -/
def event_fits.f (a0 : Int) : Option (Bool) := if a0 ≥ 0 then (some (decide (a0 < 4611686018427387904))) else (some false)
set_option maxHeartbeats 8000000 in
set_option maxRecDepth 100000 in
theorem event_fits.calls (a0 : Int) (r : Bool) (w : World) (h : event_fits.f a0 = some r) :
  Calls Try.prog 26 #[.int .i64 a0] w fun e w' => e = .returned (.bool r) ∧ Drawn0 w w' := by
 have H : (if a0 ≥ 0 then (some (decide (a0 < 4611686018427387904))) else (some false)) = some r := h
 clear h
 by_cases c2 : a0 ≥ 0
 ·
  rw [if_pos c2] at H
  have c2b0 : decide (0 ≤ a0) = true := decide_eq_true c2
  clear c2
  obtain rfl := Option.some.inj H
  go_enter Try.func26, Try.ntmps26
  go_wp2
  go_ret
  exact ⟨by first | rfl | (simp; done) | (simp [*]; done), by repeat (first | exact Drawn0.refl _ | apply Drawn0.step)⟩
 ·
  rw [if_neg c2] at H
  have c2b0 : decide (0 ≤ a0) = false := decide_eq_false c2
  clear c2
  obtain rfl := Option.some.inj H
  go_enter Try.func26, Try.ntmps26
  go_wp2
  go_ret
  exact ⟨by first | rfl | (simp; done) | (simp [*]; done), by repeat (first | exact Drawn0.refl _ | apply Drawn0.step)⟩

end Go.Proofs.Ythechcflnkofgaa.Q
