-- printed by a program of this session (NOTES: hprint); not the kit's print
-- minified3
-- minified2
-- minified
-- halved
import Derived.Test.YtfcombimnmkoeaaOg
import Derived.Test.YtfcombimnmkoeaaAl
import Derived.Test.YtfcombimnmkoeaaQx0
import Derived.Test.YtfcombimnmkoeaaQx2
import Derived.Test.YtfcombimnmkoeaaQx3
import Derived.Test.YtfcombimnmkoeaaQx4
namespace Go.Proofs.Ytfcombimnmkoeaa.Q
open Go.RowKit Go.Proofs.YtfcombimnmkoeaaW.PrintWords Go.Proofs.YtfcombimnmkoeaaW.PrintLast Go.Proofs.YtfcombimnmkoeaaW.PrintMore
attribute [local go_sem] max2_int min2_int max_two min_two max_three min_three max_four min_four   -- for this text's walks alone
set_option linter.unusedVariables false
set_option linter.unusedSimpArgs false

def q5_0 : Array Bool := let o := true; let z := false; #[z,z,z,z,z,z,z,z]
def q5_1 : Array Bool := let o := true; let z := false; #[z,o,z,z,z,z,z,z]
def q5_2 : Array Bool := let o := true; let z := false; #[z,o,o,z,z,z,z,z]
def q5_3 : Array Bool := let o := true; let z := false; #[o,o,o,z,z,z,z,z]
def q5_4 : Array Bool := let o := true; let z := false; #[o,o,o,o,z,z,z,z]
def q5_5 : Array Bool := let o := true; let z := false; #[o,o,o,o,o,z,z,z]
def q5_6 : Array Bool := let o := true; let z := false; #[o,o,o,o,o,o,z,z]
def q5_7 : Array Bool := let o := true; let z := false; #[o,o,o,o,o,o,o,z]
def q5_8 : Array Bool := let o := true; let z := false; #[o,o,o,o,o,o,o,o]
/-! ### event_Decode: function 30 -/
def event_Decode.j0 : Nat → ByteArray → Int → Bool → Option (Int × Int × List Int × ByteArray × Int × Int)
 | 0, _, _, _ => none
 | k + 1, x0, x1, x19 => if x19 = true then (some (0, 0, ([] : List Int), (⟨#[]⟩ : ByteArray), 0, 1)) else (if 0 ≤ x1 then (if x1 ≤ (x0.size : Int) then ((wire_New.f (x0.extract (x1 : Int).toNat x0.size)).bind fun bt249 => ((event_read.f k bt249.1 bt249.2.1 bt249.2.2.1 bt249.2.2.2).bind fun bt254 => ((wire_Reader_Err.f bt254.2.2.2.2.2.1 bt254.2.2.2.2.2.2.1 bt254.2.2.2.2.2.2.2.1 bt254.2.2.2.2.2.2.2.2).bind fun bt266 => (if bt254.2.2.2.2.1 = true then (if bt266.1 = 0 then ((wire_Reader_At.f bt266.2.2.1 bt266.2.2.2.1 bt266.2.2.2.2.1 bt266.2.2.2.2.2).bind fun bt272 => (some (bt254.1, bt254.2.1, bt254.2.2.1, bt254.2.2.2.1, wrap64 (x1 + bt272.1), 0))) else (some (0, 0, ([] : List Int), (⟨#[]⟩ : ByteArray), 0, bt266.1))) else (some (0, 0, ([] : List Int), (⟨#[]⟩ : ByteArray), 0, 30)))))) else (none)) else (none))
def event_Decode.f (k : Nat) (a0 : ByteArray) (a1 : Int) : Option (Int × Int × List Int × ByteArray × Int × Int) := if a1 < 0 then (event_Decode.j0 k a0 a1 true) else (event_Decode.j0 k a0 a1 (decide (a1 > (a0.size : Int))))
theorem event_Decode.mono_l : ∀ k, (∀ y0 y1 y2, LeO (event_Decode.j0 k y0 y1 y2) (event_Decode.j0 (k + 1) y0 y1 y2))
 | 0 => fun _ _ _ r h => by simp [event_Decode.j0] at h
 | k + 1 => by
  have ih0 := event_Decode.mono_l k
  ·
   intro y0 y1 y2
   unfold event_Decode.j0
   repeat' first
   | (with_reducible exact ih0 _ _ _)
   | (with_reducible exact event_read.mono _ _ _ _ _)
   | (with_reducible exact LeO.refl _)
   | (with_reducible exact LeO.none _)
   | (with_reducible refine LeO.ite ?_ ?_)
   | (with_reducible refine LeO.bind ?_ (fun _ => ?_))
   | exact LeO.none _
   | refine LeO.ite ?_ ?_
   | refine LeO.bind ?_ (fun _ => ?_)
theorem event_Decode.mono : ∀ a0 a1 k, LeO (event_Decode.f k a0 a1) (event_Decode.f (k + 1) a0 a1) := by
 intro a0 a1 k
 have ih0 := event_Decode.mono_l k
 unfold event_Decode.f
 repeat' first
   | (with_reducible exact ih0 _ _ _)
   | (with_reducible exact event_read.mono _ _ _ _ _)
   | (with_reducible exact LeO.refl _)
   | (with_reducible exact LeO.none _)
   | (with_reducible refine LeO.ite ?_ ?_)
   | (with_reducible refine LeO.bind ?_ (fun _ => ?_))
   | exact LeO.none _
   | refine LeO.ite ?_ ?_
   | refine LeO.bind ?_ (fun _ => ?_)
def event_Decode.T10 : Bool × List (List Nat × List Nat) := (true, [([], []), ([], []), ([], []), ([2], [2]), ([1, 3], [1, 3]), ([0, 3, 0], [0]), ([4, 5, 0, 1, 2, 3, 4, 5], [4]), ([6, 0, 1, 2, 3, 4, 5, 6], [])])
def event_Decode.B10 : List Nat := [0, 0, 0, 4, 14, 13, 63, 127]
theorem event_Decode.tab10 : rtab .any (opsOf Try.f30 10) = event_Decode.T10 := by kernel_rfl
theorem event_Decode.bits10 : waitsOk event_Decode.T10.2 event_Decode.B10 = true := by kernel_rfl
set_option maxHeartbeats 8000000 in
set_option maxRecDepth 100000 in
theorem event_Decode.calls (k : Nat) (a0 : ByteArray) (a1 : Int) (r1 : Int) (r2 : Int) (r3 : List Int) (r4 : ByteArray) (r5 : Int) (r6 : Int) (w : World) (h : event_Decode.f k a0 a1 = some (r1, r2, r3, r4, r5, r6)) :
  Calls Try.prog 30 #[.string a0, .int .i64 a1] w fun e w' => ∃ v2_ : Value, e = .returned (.tuple #[.agg #[.int .i64 r1, .int .i64 r2, v2_, .string r4], .int .i64 r5, .int .i64 r6]) ∧ Kd.R (Kd.int .i64) 3 w' w.heap.size (fun _ => True) v2_ r3 ∧ Below w.heap.size w w' := by
 have hu41 := Try.underlying41
 have HB := Am (Below.refl w.heap.size w)
 have H : (if a1 < 0 then (event_Decode.j0 k a0 a1 true) else (event_Decode.j0 k a0 a1 (decide (a1 > (a0.size : Int))))) = some (r1, r2, r3, r4, r5, r6) := h
 clear h
 have HC3 := Am H
 clear H
 go_enter Try.func30, Try.ntmps30
 go_upto_region 1 with (first | ((with_reducible refine gate_dst (N := 4) rfl ?_); (try (refine gate_guard (by rfl) ?_; dsimp only)); refine box_event ?hg (N := 4) ?hd (cs := #[.int .i64 0, .int .i64 0, .slice none 0 0, .string (⟨#[]⟩ : ByteArray)]) (t := 41) ?hr ?_; (case hd => rfl); (case hg => rfl); (case hr => first | (go_simp; done) | (go_simp; rfl)); intro gb248 hg w4 hbox hb; have BK248 := Am (hbox); have GW248 := Am ((by rw [hg]; exact (below_size (by repeat (first | (with_reducible first | exact HB.out | apply bl | apply pN | apply b1) | exact HB.out | exact HBo.out))) : w.heap.size ≤ gb248)); have GE248 := GW248; replace HB := Am (below_step (by repeat (first | (with_reducible first | exact HB.out | apply bl | apply pN | apply b1) | exact HB.out | exact HBo.out)) hb); clear hb hbox hg))
 (try simp only [Act.put, sI, sZ, sS])
 go_cut [19] (fun v19 wc => ∃ (kq : Nat) (x19_2 : Bool), v19 = .bool x19_2 ∧ Aside0 (event_Decode.j0 kq a0 a1 x19_2 = some (r1, r2, r3, r4, r5, r6)) ∧ Aside0 (kq ≤ k) ∧ Aside0 (wc.heap[gb248]? = some (.cells #[.int .i64 0, .int .i64 0, (.slice none 0 0), .string (⟨#[]⟩ : ByteArray)] 41 (0, 0))) ∧ Aside0 (Below w.heap.size w wc))
 case first =>
  have H := HC3.out
  clear HC3
  by_cases c5 : a1 < 0
  ·
   rw [if_pos c5] at H
   have c5b0 : decide (a1 < 0) = true := decide_eq_true c5
   clear c5
   (first | rw [c5b0] | (simp only [i64_w, i32_w]; rw [c5b0]) | skip)
   have H' := Am H
   clear H
   go_wp2
   go_meet
   case rel => exact ⟨_, (true), (by first | rfl | (simp; done) | (simp [*]; done)), H', ⟨by first | omega | exact Nat.le_refl _⟩, ⟨by (with_reducible repeat (first|apply bn|apply bd|apply ba)); exact BK248.out⟩, ⟨by repeat (first | (with_reducible first | exact HB.out | apply bl | apply pN | apply b1 | refine bs ?_ GE248.out) | exact HB.out | exact HBo.out)⟩⟩
  ·
   rw [if_neg c5] at H
   have c5b0 : decide (a1 < 0) = false := decide_eq_false c5
   clear c5
   (first | rw [c5b0] | (simp only [i64_w, i32_w]; rw [c5b0]) | skip)
   have H' := Am H
   clear H
   go_wp2
   go_meet
   case rel => exact ⟨_, (decide (a1 > (a0.size : Int))), (by first | rfl | (simp; done) | (simp [*]; done)), H', ⟨by first | omega | exact Nat.le_refl _⟩, ⟨by (with_reducible repeat (first|apply bn|apply bd|apply ba)); exact BK248.out⟩, ⟨by repeat (first | (with_reducible first | exact HB.out | apply bl | apply pN | apply b1 | refine bs ?_ GE248.out) | exact HB.out | exact HBo.out)⟩⟩
 case rest =>
  clear HC3
  try clear p2
  try clear c3
  try clear c5
  try clear c5b0
  obtain ⟨kq, x19_2, rfl, HA, HJ2, BK248, HB⟩ := hcut
  cases kq with
  | zero => exact absurd HA.out (by simp [event_Decode.j0])
  | succ kj2 =>
   have H := HA.out
   clear HA
   simp only [event_Decode.j0] at H
   by_cases c6 : x19_2 = true
   ·
    subst c6
    rw [if_pos rfl] at H
    simp only [Option.some.injEq, Prod.mk.injEq] at H
    obtain ⟨rfl, rfl, rfl, rfl, rfl, rfl⟩ := H
    have hcz7_0 := Own.bc2 BK248.out 0
    have hcz7_1 := Own.bc2 BK248.out 1
    have hcz7_2 := Own.bc2 BK248.out 2
    have hcz7_3 := Own.bc2 BK248.out 3
    have hfz7_0 := bf BK248.out 0
    have hfz7_1 := bf BK248.out 1
    have hfz7_2 := bf BK248.out 2
    have hfz7_3 := bf BK248.out 3
    go_wp2
    refine bodyPost_ret (results_ctt rfl _ _ gb248 41 #[.int .i64 0, .int .i64 0, .slice none 0 0, .string (⟨#[]⟩ : ByteArray)] (0, 0) _ rfl (by (with_reducible repeat (first|apply bn|apply bd|apply ba)); refine blk_put (cs := #[.int .i64 0, .int .i64 0, .slice none 0 0, .string (⟨#[]⟩ : ByteArray)]) ?_ 3 _ rfl; (with_reducible repeat (first|apply bn|apply bd|apply ba)); refine blk_put (cs := #[.int .i64 0, .int .i64 0, .slice none 0 0, .string (⟨#[]⟩ : ByteArray)]) ?_ 2 _ rfl; (with_reducible repeat (first|apply bn|apply bd|apply ba)); refine blk_put (cs := #[.int .i64 0, .int .i64 0, .slice none 0 0, .string (⟨#[]⟩ : ByteArray)]) ?_ 1 _ rfl; (with_reducible repeat (first|apply bn|apply bd|apply ba)); refine blk_put (cs := #[.int .i64 0, .int .i64 0, .slice none 0 0, .string (⟨#[]⟩ : ByteArray)]) ?_ 0 _ rfl; (with_reducible repeat (first|apply bn|apply bd|apply ba)); exact BK248.out) Try.underlying41 rfl (by kernel_rfl)) rfl ?_
    exact ⟨_, by first | rfl | (simp <;> rfl) | (simp [*] <;> rfl) | (simp [Aid.ne_nil, Aid.eq_nil]; done), by first | exact Kd.R_nil _ _ _ _ _ | exact Kd.N_nil _ _ _ _ _ | exact Kd.V_nil _ _ _ _ _ | exact Kd.Q_nil _ _ _ _ _ | exact Kd.S_nil _ _ _ _ _, by repeat (first | (with_reducible first | exact HB.out | apply bl | apply pN | apply b1 | refine bs ?_ GE248.out) | exact HB.out | exact HBo.out)⟩
   ·
    replace c6 := Bool.eq_false_iff.mpr c6
    subst c6
    rw [if_neg (show ¬ (false = true) by decide)] at H
    by_cases c8 : 0 ≤ a1
    ·
     rw [if_pos c8] at H
     have c8b0 := eq_true c8
     have c8b1 : decide (0 ≤ a1) = true := decide_eq_true c8
     clear c8
     by_cases c9 : a1 ≤ (a0.size : Int)
     ·
      rw [if_pos c9] at H
      have c9b0 := eq_true c9
      have c9b1 : decide (a1 ≤ (a0.size : Int)) = true := decide_eq_true c9
      clear c9
      replace H := ob H
      obtain ⟨⟨t249, t250, t251, t252⟩, A100, H⟩ := H
      (try dsimp only at H)
      have A10 := Am A100
      clear A100
      replace H := ob H
      obtain ⟨⟨t254, t255, t256, t259, t260, t261, t262, t263, t264⟩, A110, H⟩ := H
      (try dsimp only at H)
      have A11 := Am A110
      clear A110
      replace H := ob H
      obtain ⟨⟨t266, t267, t268, t269, t270, t271⟩, A120, H⟩ := H
      (try dsimp only at H)
      have A12 := Am A120
      clear A120
      by_cases c13 : t260 = true
      ·
       subst c13
       rw [if_pos rfl] at H
       by_cases c14 : t266 = 0
       ·
        rw [if_pos c14] at H
        have c14b0 : (t266 == 0) = true := beq_iff_eq.mpr c14
        have c14b1 : (t266 != 0) = false := bne_eq_false_iff_eq.mpr c14
        clear c14
        replace H := ob H
        obtain ⟨⟨t272, t273, t274, t275, t276⟩, A150, H⟩ := H
        (try dsimp only at H)
        have A15 := Am A150
        clear A150
        simp only [Option.some.injEq, Prod.mk.injEq] at H
        obtain ⟨rfl, rfl, rfl, rfl, rfl, rfl⟩ := H
        try go_wp2_with (first | ((with_reducible refine gate_callee (f := 22) rfl ?_); refine Own.gL_ (some 24) Try.func22 (#[.string (a0.extract (a1 : Int).toNat a0.size)]) (h := ?_); (with_reducible refine (wire_New.calls (a0.extract (a1 : Int).toNat a0.size) t249 t250 t251 t252 w _ ?side1 A10.out).mono ?_); (case side1 => repeat (first | (with_reducible first | exact HB.out | apply bl | apply pN | apply b1 | refine bs ?_ GE248.out) | exact HB.out | exact HBo.out)); rintro e w16 ⟨g253, rfl, hi, hb, hb2⟩; refine ⟨_, rfl, ?_⟩; have HI253 := Am (hi); have NB253_248 := Am (IsS67.ne_blk hi (blk_below (g := gb248) (o := .cells #[.int .i64 0, .int .i64 0, .slice none 0 0, .string (⟨#[]⟩ : ByteArray)] 41 (0, 0)) (by (with_reducible repeat (first|apply bn|apply bd|apply ba)); exact BK248.out) hb2) (by decide)); have NB248_253 := Am (Ne.symm (IsS67.ne_blk hi (blk_below (g := gb248) (o := .cells #[.int .i64 0, .int .i64 0, .slice none 0 0, .string (⟨#[]⟩ : ByteArray)] 41 (0, 0)) (by (with_reducible repeat (first|apply bn|apply bd|apply ba)); exact BK248.out) hb2) (by decide))); replace BK248 := Am (blk_below (g := gb248) (o := .cells #[.int .i64 0, .int .i64 0, .slice none 0 0, .string (⟨#[]⟩ : ByteArray)] 41 (0, 0)) (by (with_reducible repeat (first|apply bn|apply bd|apply ba)); exact BK248.out) hb2); replace HB := Am (hb); (try clear hb); (try clear hb2); (try clear hk); (try clear hi)) | ((with_reducible refine gate_callee (f := 51) rfl ?_); refine Own.gL_ (some 27) Try.func51 (#[.pointer (some ⟨g253, 0, none⟩)]) (h := ?_); (with_reducible refine (event_read.calls kj2 g253 t249 t250 t251 t252 t254 t255 t256 t259 true t261 t262 t263 t264 w _ ?side1 ?side2 A11.out).mono ?_); (case side1 => repeat (first | (with_reducible first | exact HI253.out | apply IsS67.alloc | apply IsS67.drewN | apply IsS67.drew | apply IsS67.set_0 | apply IsS67.set_1 | apply IsS67.set_2 | apply IsS67.set_3 | refine IsS67.far ?_ NB253_248.out _) | exact HI253.out)); (case side2 => repeat (first | (with_reducible first | exact HB.out | apply bl | apply pN | apply b1 | refine bs ?_ (IsS67.ge HI253.out) | refine bs ?_ GE248.out) | exact HB.out | exact HBo.out)); rintro e w17 ⟨v257, rfl, ho0, hi, hb, hk⟩; refine ⟨_, rfl, ?_⟩; have HO258 := Am (Kd.R_lower ho0 (below_size (by repeat (first | (with_reducible first | exact HB.out | apply bl | apply pN | apply b1 | refine bs ?_ (IsS67.ge HI253.out) | refine bs ?_ GE248.out) | exact HB.out | exact HBo.out)))); replace BK248 := Am (KeepBut.blk hk (g' := gb248) (o := .cells #[.int .i64 0, .int .i64 0, .slice none 0 0, .string (⟨#[]⟩ : ByteArray)] 41 (0, 0)) (by (with_reducible repeat (first|apply bn|apply bd|apply ba)); exact BK248.out) NB248_253.out (by simp)); replace HB := Am (hb); replace HI253 := Am (hi); (try clear hb); (try clear hb2); (try clear hk); (try clear hi); (try clear ho0)) | ((with_reducible refine gate_dst (N := 8) rfl ?_); (try (refine gate_guard (by rfl) ?_; dsimp only)); refine box_event ?hg (N := 8) ?hd (cs := #[.int .i64 0, .int .i64 0, .slice none 0 0, .string (⟨#[]⟩ : ByteArray)]) (t := 41) ?hr ?_; (case hd => rfl); (case hg => rfl); (case hr => first | (go_simp; done) | (go_simp; rfl)); intro gb265 hg w18 hbox hb; have n0_ := Am (Kd.R_below (by (with_reducible repeat (first | apply Kd.R_alloc | apply Kd.R_drewN | apply Kd.R_drew)); exact HO258.out) hb); have n1_ := Am (blk_below (g := gb248) (o := .cells #[.int .i64 0, .int .i64 0, .slice none 0 0, .string (⟨#[]⟩ : ByteArray)] 41 (0, 0)) (by (with_reducible repeat (first|apply bn|apply bd|apply ba)); exact BK248.out) hb); have n2_ := Am (IsS67.below (by repeat (first | (with_reducible first | exact HI253.out | apply IsS67.alloc | apply IsS67.drewN | apply IsS67.drew | apply IsS67.set_0 | apply IsS67.set_1 | apply IsS67.set_2 | apply IsS67.set_3 | refine IsS67.far ?_ NB253_248.out _) | exact HI253.out)) hb); have n3_ := Am (below_step (by repeat (first | (with_reducible first | exact HB.out | apply bl | apply pN | apply b1 | refine bs ?_ (IsS67.ge HI253.out) | refine bs ?_ GE248.out) | exact HB.out | exact HBo.out)) hb); have n4_ := Am (hbox); have n5_ := Am ((by rw [hg]; exact (below_size (by repeat (first | (with_reducible first | exact HB.out | apply bl | apply pN | apply b1 | refine bs ?_ (IsS67.ge HI253.out) | refine bs ?_ GE248.out) | exact HB.out | exact HBo.out))) : w.heap.size ≤ gb265)); have n6_ := Am ((by rw [hg]; exact (below_size (by repeat (first | (with_reducible first | exact HB.out | apply bl | apply pN | apply b1 | refine bs ?_ (IsS67.ge HI253.out) | refine bs ?_ GE248.out) | exact HB.out | exact HBo.out))) : w.heap.size ≤ gb265)); have n7_ := Am ((by rw [hg]; exact Nat.ne_of_lt (blk_lt (g := gb248) (o := .cells #[.int .i64 0, .int .i64 0, .slice none 0 0, .string (⟨#[]⟩ : ByteArray)] 41 (0, 0)) (by (with_reducible repeat (first|apply bn|apply bd|apply ba)); exact BK248.out)) : gb248 ≠ gb265)); have n8_ := Am ((by rw [hg]; exact Nat.ne_of_gt (blk_lt (g := gb248) (o := .cells #[.int .i64 0, .int .i64 0, .slice none 0 0, .string (⟨#[]⟩ : ByteArray)] 41 (0, 0)) (by (with_reducible repeat (first|apply bn|apply bd|apply ba)); exact BK248.out)) : gb265 ≠ gb248)); have n9_ := Am ((by rw [hg]; exact Nat.ne_of_lt (IsS67.lt (show IsS67 w _ g253 t261 t262 t263 t264 from by repeat (first | (with_reducible first | exact HI253.out | apply IsS67.alloc | apply IsS67.drewN | apply IsS67.drew | apply IsS67.set_0 | apply IsS67.set_1 | apply IsS67.set_2 | apply IsS67.set_3 | refine IsS67.far ?_ NB253_248.out _) | exact HI253.out))) : g253 ≠ gb265)); have n10_ := Am ((by rw [hg]; exact Nat.ne_of_gt (IsS67.lt (show IsS67 w _ g253 t261 t262 t263 t264 from by repeat (first | (with_reducible first | exact HI253.out | apply IsS67.alloc | apply IsS67.drewN | apply IsS67.drew | apply IsS67.set_0 | apply IsS67.set_1 | apply IsS67.set_2 | apply IsS67.set_3 | refine IsS67.far ?_ NB253_248.out _) | exact HI253.out))) : gb265 ≠ g253)); clear HO258; clear BK248; clear HI253; clear HB; have HO258 := n0_; have BK248 := n1_; have HI253 := n2_; have HB := n3_; have BK265 := n4_; have GW265 := n5_; have GE265 := n6_; have NB248_265 := n7_; have NB265_248 := n8_; have NB253_265 := n9_; have NB265_253 := n10_; clear n0_ n1_ n2_ n3_ n4_ n5_ n6_ n7_ n8_ n9_ n10_; clear hb hbox hg; have hnb19 := NB265_248.out; have hnc19 := NB248_265.out; have hnb20 := NB265_253.out; have hnc20 := NB253_265.out; have hcz21_0 := Own.bc2 BK265.out 0; have hcz21_1 := Own.bc2 BK265.out 1; have hcz21_2 := Own.bc2 BK265.out 2; have hcz21_3 := Own.bc2 BK265.out 3; have hfz21_0 := bf BK265.out 0; have hfz21_1 := bf BK265.out 1; have hfz21_2 := bf BK265.out 2; have hfz21_3 := bf BK265.out 3; obtain ⟨Ao22, co22, eo22⟩ := Kd.R_slice HO258.out; subst eo22) | ((with_reducible refine gate_callee (f := 24) rfl ?_); refine Own.gL_ (some 32) Try.func24 (#[.pointer (some ⟨g253, 0, none⟩)]) (h := ?_); (with_reducible refine (wire_Reader_Err.calls g253 t261 t262 t263 t264 t266 t267 t268 t269 t270 t271 w _ ?side1 ?side2 A12.out).mono ?_); (case side1 => repeat (first | (with_reducible first | exact HI253.out | apply IsS67.alloc | apply IsS67.drewN | apply IsS67.drew | apply IsS67.set_0 | apply IsS67.set_1 | apply IsS67.set_2 | apply IsS67.set_3 | refine IsS67.far ?_ NB253_248.out _ | refine IsS67.far ?_ NB253_265.out _) | exact HI253.out)); (case side2 => repeat (first | (with_reducible first | exact HB.out | apply bl | apply pN | apply b1 | refine bs ?_ (IsS67.ge HI253.out) | refine bs ?_ GE248.out | refine bs ?_ GE265.out) | exact HB.out | exact HBo.out)); rintro e w23 ⟨rfl, hi, hb, hk⟩; refine ⟨_, rfl, ?_⟩; replace BK248 := Am (KeepBut.blk hk (g' := gb248) (o := .cells #[.int .i64 0, .int .i64 0, .slice none 0 0, .string (⟨#[]⟩ : ByteArray)] 41 (0, 0)) (by (with_reducible repeat (first|apply bn|apply bd|apply ba)); refine blk_far ?_ NB248_265.out _; (with_reducible repeat (first|apply bn|apply bd|apply ba)); refine blk_far ?_ NB248_265.out _; (with_reducible repeat (first|apply bn|apply bd|apply ba)); refine blk_far ?_ NB248_265.out _; (with_reducible repeat (first|apply bn|apply bd|apply ba)); refine blk_far ?_ NB248_265.out _; (with_reducible repeat (first|apply bn|apply bd|apply ba)); exact BK248.out) NB248_253.out (by simp)); replace HO258 := Am (Kd.R_mono (Kd.R_keep (IsS67.apart (show IsS67 w _ g253 t261 t262 t263 t264 from by repeat (first | (with_reducible first | exact HI253.out | apply IsS67.alloc | apply IsS67.drewN | apply IsS67.drew | apply IsS67.set_0 | apply IsS67.set_1 | apply IsS67.set_2 | apply IsS67.set_3 | refine IsS67.far ?_ NB253_248.out _ | refine IsS67.far ?_ NB253_265.out _) | exact HI253.out)) (by (with_reducible repeat (first | apply Kd.R_alloc | apply Kd.R_drewN | apply Kd.R_drew)); exact (Kd.R_mono (Kd.R_far (p := ⟨gb265, 3, none⟩) (Kd.R_far (p := ⟨gb265, 2, none⟩) (Kd.R_far (p := ⟨gb265, 1, none⟩) (Kd.R_far (p := ⟨gb265, 0, none⟩) (Kd.R_types HO258.out BK265.out (by decide)) (fun _ hk => hk.2) (.int .i64 t254)) (fun _ hk => hk.2) (.int .i64 t255)) (fun _ hk => hk.2) (.slice Ao22 t256.length co22)) (fun _ hk => hk.2) (.string t259)) (fun _ h_ => h_.1))) (by decide)) hk (fun _ h => h.2)) (fun _ h => h.1)); replace BK265 := Am (KeepBut.blk hk (g' := gb265) (o := .cells #[.int .i64 t254, .int .i64 t255, .slice Ao22 t256.length co22, .string t259] 41 (0, 0)) (by (with_reducible repeat (first|apply bn|apply bd|apply ba)); refine blk_put (cs := #[.int .i64 t254, .int .i64 t255, .slice Ao22 t256.length co22, .string (⟨#[]⟩ : ByteArray)]) ?_ 3 _ rfl; (with_reducible repeat (first|apply bn|apply bd|apply ba)); refine blk_put (cs := #[.int .i64 t254, .int .i64 t255, .slice none 0 0, .string (⟨#[]⟩ : ByteArray)]) ?_ 2 _ rfl; (with_reducible repeat (first|apply bn|apply bd|apply ba)); refine blk_put (cs := #[.int .i64 t254, .int .i64 0, .slice none 0 0, .string (⟨#[]⟩ : ByteArray)]) ?_ 1 _ rfl; (with_reducible repeat (first|apply bn|apply bd|apply ba)); refine blk_put (cs := #[.int .i64 0, .int .i64 0, .slice none 0 0, .string (⟨#[]⟩ : ByteArray)]) ?_ 0 _ rfl; (with_reducible repeat (first|apply bn|apply bd|apply ba)); exact BK265.out) NB265_253.out (by simp)); replace HB := Am (hb); replace HI253 := Am (hi); (try clear hb); (try clear hb2); (try clear hk); (try clear hi)))
        replace HO258 := Am (Kd.R_drew HO258.out)
        replace BK248 := Am (bd BK248.out)
        replace BK265 := Am (bd BK265.out)
        replace HI253 := Am (IsS67.drew HI253.out)
        replace HB := Am (b1 HB.out)
        refine start_ (n := 8) (S := fun w' => w'.cell? ⟨gb265, 0, none⟩ = some (.int .i64 t254) ∧ w'.cell? ⟨gb265, 1, none⟩ = some (.int .i64 t255) ∧ w'.cell? ⟨gb265, 2, none⟩ = some (.slice Ao22 t256.length co22) ∧ w'.cell? ⟨gb265, 3, none⟩ = some (.string t259)) (ds := []) q5_0 (by kernel_rfl) rfl rfl ⟨(bc BK265.out 0).trans rfl, (bc BK265.out 1).trans rfl, (bc BK265.out 2).trans rfl, (bc BK265.out 3).trans rfl⟩ (fun hHeld => ?_); refine with_tabW event_Decode.tab10 event_Decode.bits10 (fun HT_ HW_ => ?_)
        generalize w23.drew = w24 at HO258 BK248 BK265 HI253 HB hHeld ⊢
        refine Own.pr_ 1 (some 45) q5_1 HT_ (h := ?_)
        refine Own.pr_ 2 (some 46) q5_2 HT_ (h := ?_)
        refine Own.tk_ 0 (some 44) q5_3 HT_ HW_ hHeld (hy := by rintro w' ⟨s0, s1, s2, s3⟩; go_simp; with_reducible rfl) (h := ?_)
        refine one_ (i := 3) (N := some 47) q5_4 rfl rfl (one_of HT_.out (by kernel_rfl)) (by decide) (fun K hK => ?_)
        refine goes_ Try.func27 (by kernel_rfl) rfl #[.pointer (some ⟨g253, 0, none⟩)] (by rfl) rfl rfl (by (try simp only [List.map_toArray, List.map_cons, List.map_nil]); first | done | rfl | (simp only [List.length_drop, List.length_take]; rfl)) ?_
        with_reducible refine (wire_Reader_At.calls g253 t268 t269 t270 t271 t272 t273 t274 t275 t276 w _ ?side1 ?side2 A15.out).mono ?_
        (case side1 => repeat (first | (with_reducible first | exact HI253.out | apply IsS67.alloc | apply IsS67.drewN | apply IsS67.drew | apply IsS67.set_0 | apply IsS67.set_1 | apply IsS67.set_2 | apply IsS67.set_3 | refine IsS67.far ?_ NB253_248.out _ | refine IsS67.far ?_ NB253_265.out _) | exact HI253.out))
        (case side2 => repeat (first | (with_reducible first | exact HB.out | apply bl | apply pN | apply b1 | refine bs ?_ (IsS67.ge HI253.out) | refine bs ?_ GE248.out | refine bs ?_ GE265.out) | exact HB.out | exact HBo.out))
        rintro e w25 ⟨rfl, hi, hb, hk⟩
        refine ⟨_, rfl, ?_⟩
        replace BK248 := Am (KeepBut.blk hk (g' := gb248) (o := .cells #[.int .i64 0, .int .i64 0, .slice none 0 0, .string (⟨#[]⟩ : ByteArray)] 41 (0, 0)) (by (with_reducible repeat (first|apply bn|apply bd|apply ba)); exact BK248.out) NB248_253.out (by simp))
        replace HO258 := Am (Kd.R_mono (Kd.R_keep (IsS67.apart (show IsS67 w _ g253 t268 t269 t270 t271 from by repeat (first | (with_reducible first | exact HI253.out | apply IsS67.alloc | apply IsS67.drewN | apply IsS67.drew | apply IsS67.set_0 | apply IsS67.set_1 | apply IsS67.set_2 | apply IsS67.set_3 | refine IsS67.far ?_ NB253_248.out _ | refine IsS67.far ?_ NB253_265.out _) | exact HI253.out)) (by (with_reducible repeat (first | apply Kd.R_alloc | apply Kd.R_drewN | apply Kd.R_drew)); exact HO258.out) (by decide)) hk (fun _ h => h.2)) (fun _ h => h.1))
        replace BK265 := Am (KeepBut.blk hk (g' := gb265) (o := .cells #[.int .i64 t254, .int .i64 t255, .slice Ao22 t256.length co22, .string t259] 41 (0, 0)) (by (with_reducible repeat (first|apply bn|apply bd|apply ba)); exact BK265.out) NB265_253.out (by simp))
        replace HB := Am (hb)
        replace HI253 := Am (hi)
        (try clear hb)
        (try clear hb2)
        (try clear hk)
        (try clear hi)
        refine hK.out _ _ ⟨(bc BK265.out 0).trans rfl, (bc BK265.out 1).trans rfl, (bc BK265.out 2).trans rfl, (bc BK265.out 3).trans rfl⟩ (fun hHeld => ?_)
        clear hK K
        refine norm_ (a' := ?_) ?_ ?_
        rotate_left
        ·
         show Act.put _ (some 47) _ = _
         simp only [Act.put, sI, sZ, sS, i64_w, i32_w]
         rfl
        refine Own.pr_ 4 (some 48) q5_5 HT_ (h := ?_)
        refine one_ (i := 5) (N := none) q5_6 rfl rfl (one_of HT_.out (by kernel_rfl)) (by decide) (fun K hK => ?_)
        have hs26 : w25.cell? ⟨gb248, 0, none⟩ = some (.int .i64 0) := (bc BK248.out 0).trans rfl
        have hfs26 := bf BK248.out 0
        have hns26_1 := NB265_248.out
        have hms26_1 := NB248_265.out
        have hs27 : w25.cell? ⟨gb248, 1, none⟩ = some (.int .i64 0) := (bc BK248.out 1).trans rfl
        have hfs27 := bf BK248.out 1
        have hns27_1 := NB265_248.out
        have hms27_1 := NB248_265.out
        have hs28 : w25.cell? ⟨gb248, 2, none⟩ = some (.slice none 0 0) := (bc BK248.out 2).trans rfl
        have hfs28 := bf BK248.out 2
        have hns28_1 := NB265_248.out
        have hms28_1 := NB248_265.out
        have hs29 : w25.cell? ⟨gb248, 3, none⟩ = some (.string (⟨#[]⟩ : ByteArray)) := (bc BK248.out 3).trans rfl
        have hfs29 := bf BK248.out 3
        have hns29_1 := NB265_248.out
        have hms29_1 := NB248_265.out
        refine skip_ (w1 := ?_) (by rfl) rfl ?_ ?_
        rotate_left
        ·
         go_simp
         rfl
        refine hK.out _ _ ⟨((cell_far (p := ⟨gb248, _, none⟩) NB265_248.out _).trans (((cell_far (p := ⟨gb248, _, none⟩) NB265_248.out _).trans (((cell_far (p := ⟨gb248, _, none⟩) NB265_248.out _).trans (((cell_far (p := ⟨gb248, _, none⟩) NB265_248.out _).trans (hHeld.1)))))))), ((cell_far (p := ⟨gb248, _, none⟩) NB265_248.out _).trans (((cell_far (p := ⟨gb248, _, none⟩) NB265_248.out _).trans (((cell_far (p := ⟨gb248, _, none⟩) NB265_248.out _).trans (((cell_far (p := ⟨gb248, _, none⟩) NB265_248.out _).trans (hHeld.2.1)))))))), ((cell_far (p := ⟨gb248, _, none⟩) NB265_248.out _).trans (((cell_far (p := ⟨gb248, _, none⟩) NB265_248.out _).trans (((cell_far (p := ⟨gb248, _, none⟩) NB265_248.out _).trans (((cell_far (p := ⟨gb248, _, none⟩) NB265_248.out _).trans (hHeld.2.2.1)))))))), ((cell_far (p := ⟨gb248, _, none⟩) NB265_248.out _).trans (((cell_far (p := ⟨gb248, _, none⟩) NB265_248.out _).trans (((cell_far (p := ⟨gb248, _, none⟩) NB265_248.out _).trans (((cell_far (p := ⟨gb248, _, none⟩) NB265_248.out _).trans (hHeld.2.2.2))))))))⟩ (fun hHeld => ?_)
        clear hK K
        refine Own.pr_ 6 (some 5) q5_7 HT_ (h := ?_)
        refine Own.pr_ 7 (some 6) q5_8 HT_ (h := ?_)
        refine done_ (done_of HT_.out (by kernel_rfl)) ?_
        try go_wp2
        refine bodyPost_ret (results_ctt rfl _ _ gb248 41 #[.int .i64 t254, .int .i64 t255, .slice Ao22 t256.length co22, .string t259] (0, 0) _ rfl (by (with_reducible repeat (first|apply bn|apply bd|apply ba)); refine blk_put (cs := #[.int .i64 t254, .int .i64 t255, .slice Ao22 t256.length co22, .string (⟨#[]⟩ : ByteArray)]) ?_ 3 _ rfl; (with_reducible repeat (first|apply bn|apply bd|apply ba)); refine blk_put (cs := #[.int .i64 t254, .int .i64 t255, .slice none 0 0, .string (⟨#[]⟩ : ByteArray)]) ?_ 2 _ rfl; (with_reducible repeat (first|apply bn|apply bd|apply ba)); refine blk_put (cs := #[.int .i64 t254, .int .i64 0, .slice none 0 0, .string (⟨#[]⟩ : ByteArray)]) ?_ 1 _ rfl; (with_reducible repeat (first|apply bn|apply bd|apply ba)); refine blk_put (cs := #[.int .i64 0, .int .i64 0, .slice none 0 0, .string (⟨#[]⟩ : ByteArray)]) ?_ 0 _ rfl; (with_reducible repeat (first|apply bn|apply bd|apply ba)); exact BK248.out) Try.underlying41 rfl (by kernel_rfl)) rfl ?_
        exact ⟨_, by first | rfl | (simp <;> rfl) | (simp [*] <;> rfl) | (simp [Aid.ne_nil, Aid.eq_nil]; done), by (with_reducible repeat (first | apply Kd.R_alloc | apply Kd.R_drewN | apply Kd.R_drew)); exact Kd.R_mono (Kd.R_far (p := ⟨gb248, 3, none⟩) (Kd.R_far (p := ⟨gb248, 2, none⟩) (Kd.R_far (p := ⟨gb248, 1, none⟩) (Kd.R_far (p := ⟨gb248, 0, none⟩) (Kd.R_types HO258.out BK248.out (by decide)) (fun _ hk => hk.2) (.int .i64 t254)) (fun _ hk => hk.2) (.int .i64 t255)) (fun _ hk => hk.2) (.slice Ao22 t256.length co22)) (fun _ hk => hk.2) (.string t259)) (fun _ hk => trivial), by repeat (first | (with_reducible first | exact HB.out | apply bl | apply pN | apply b1 | refine bs ?_ (IsS67.ge HI253.out) | refine bs ?_ GE248.out | refine bs ?_ GE265.out) | exact HB.out | exact HBo.out)⟩
       ·
        rw [if_neg c14] at H
        have c14b0 : (t266 == 0) = false := beq_eq_false_iff_ne.mpr c14
        have c14b1 : (t266 != 0) = true := bne_iff_ne.mpr c14
        simp only [Option.some.injEq, Prod.mk.injEq] at H
        obtain ⟨rfl, rfl, rfl, rfl, rfl, rfl⟩ := H
        go_wp2_with (first | ((with_reducible refine gate_callee (f := 22) rfl ?_); refine Own.gL_ (some 24) Try.func22 (#[.string (a0.extract (a1 : Int).toNat a0.size)]) (h := ?_); (with_reducible refine (wire_New.calls (a0.extract (a1 : Int).toNat a0.size) t249 t250 t251 t252 w _ ?side1 A10.out).mono ?_); (case side1 => repeat (first | (with_reducible first | exact HB.out | apply bl | apply pN | apply b1 | refine bs ?_ GE248.out) | exact HB.out | exact HBo.out)); rintro e w30 ⟨g253, rfl, hi, hb, hb2⟩; refine ⟨_, rfl, ?_⟩; have HI253 := Am (hi); have NB253_248 := Am (IsS67.ne_blk hi (blk_below (g := gb248) (o := .cells #[.int .i64 0, .int .i64 0, .slice none 0 0, .string (⟨#[]⟩ : ByteArray)] 41 (0, 0)) (by (with_reducible repeat (first|apply bn|apply bd|apply ba)); exact BK248.out) hb2) (by decide)); have NB248_253 := Am (Ne.symm (IsS67.ne_blk hi (blk_below (g := gb248) (o := .cells #[.int .i64 0, .int .i64 0, .slice none 0 0, .string (⟨#[]⟩ : ByteArray)] 41 (0, 0)) (by (with_reducible repeat (first|apply bn|apply bd|apply ba)); exact BK248.out) hb2) (by decide))); replace BK248 := Am (blk_below (g := gb248) (o := .cells #[.int .i64 0, .int .i64 0, .slice none 0 0, .string (⟨#[]⟩ : ByteArray)] 41 (0, 0)) (by (with_reducible repeat (first|apply bn|apply bd|apply ba)); exact BK248.out) hb2); replace HB := Am (hb); (try clear hb); (try clear hb2); (try clear hk); (try clear hi)) | ((with_reducible refine gate_callee (f := 51) rfl ?_); refine Own.gL_ (some 27) Try.func51 (#[.pointer (some ⟨g253, 0, none⟩)]) (h := ?_); (with_reducible refine (event_read.calls kj2 g253 t249 t250 t251 t252 t254 t255 t256 t259 true t261 t262 t263 t264 w _ ?side1 ?side2 A11.out).mono ?_); (case side1 => repeat (first | (with_reducible first | exact HI253.out | apply IsS67.alloc | apply IsS67.drewN | apply IsS67.drew | apply IsS67.set_0 | apply IsS67.set_1 | apply IsS67.set_2 | apply IsS67.set_3 | refine IsS67.far ?_ NB253_248.out _) | exact HI253.out)); (case side2 => repeat (first | (with_reducible first | exact HB.out | apply bl | apply pN | apply b1 | refine bs ?_ (IsS67.ge HI253.out) | refine bs ?_ GE248.out) | exact HB.out | exact HBo.out)); rintro e w31 ⟨v257, rfl, ho0, hi, hb, hk⟩; refine ⟨_, rfl, ?_⟩; have HO258 := Am (Kd.R_lower ho0 (below_size (by repeat (first | (with_reducible first | exact HB.out | apply bl | apply pN | apply b1 | refine bs ?_ (IsS67.ge HI253.out) | refine bs ?_ GE248.out) | exact HB.out | exact HBo.out)))); replace BK248 := Am (KeepBut.blk hk (g' := gb248) (o := .cells #[.int .i64 0, .int .i64 0, .slice none 0 0, .string (⟨#[]⟩ : ByteArray)] 41 (0, 0)) (by (with_reducible repeat (first|apply bn|apply bd|apply ba)); exact BK248.out) NB248_253.out (by simp)); replace HB := Am (hb); replace HI253 := Am (hi); (try clear hb); (try clear hb2); (try clear hk); (try clear hi); (try clear ho0)) | ((with_reducible refine gate_dst (N := 8) rfl ?_); (try (refine gate_guard (by rfl) ?_; dsimp only)); refine box_event ?hg (N := 8) ?hd (cs := #[.int .i64 0, .int .i64 0, .slice none 0 0, .string (⟨#[]⟩ : ByteArray)]) (t := 41) ?hr ?_; (case hd => rfl); (case hg => rfl); (case hr => first | (go_simp; done) | (go_simp; rfl)); intro gb265 hg w32 hbox hb; have n0_ := Am (Kd.R_below (by (with_reducible repeat (first | apply Kd.R_alloc | apply Kd.R_drewN | apply Kd.R_drew)); exact HO258.out) hb); have n1_ := Am (blk_below (g := gb248) (o := .cells #[.int .i64 0, .int .i64 0, .slice none 0 0, .string (⟨#[]⟩ : ByteArray)] 41 (0, 0)) (by (with_reducible repeat (first|apply bn|apply bd|apply ba)); exact BK248.out) hb); have n2_ := Am (IsS67.below (by repeat (first | (with_reducible first | exact HI253.out | apply IsS67.alloc | apply IsS67.drewN | apply IsS67.drew | apply IsS67.set_0 | apply IsS67.set_1 | apply IsS67.set_2 | apply IsS67.set_3 | refine IsS67.far ?_ NB253_248.out _) | exact HI253.out)) hb); have n3_ := Am (below_step (by repeat (first | (with_reducible first | exact HB.out | apply bl | apply pN | apply b1 | refine bs ?_ (IsS67.ge HI253.out) | refine bs ?_ GE248.out) | exact HB.out | exact HBo.out)) hb); have n4_ := Am (hbox); have n5_ := Am ((by rw [hg]; exact (below_size (by repeat (first | (with_reducible first | exact HB.out | apply bl | apply pN | apply b1 | refine bs ?_ (IsS67.ge HI253.out) | refine bs ?_ GE248.out) | exact HB.out | exact HBo.out))) : w.heap.size ≤ gb265)); have n6_ := Am ((by rw [hg]; exact (below_size (by repeat (first | (with_reducible first | exact HB.out | apply bl | apply pN | apply b1 | refine bs ?_ (IsS67.ge HI253.out) | refine bs ?_ GE248.out) | exact HB.out | exact HBo.out))) : w.heap.size ≤ gb265)); have n7_ := Am ((by rw [hg]; exact Nat.ne_of_lt (blk_lt (g := gb248) (o := .cells #[.int .i64 0, .int .i64 0, .slice none 0 0, .string (⟨#[]⟩ : ByteArray)] 41 (0, 0)) (by (with_reducible repeat (first|apply bn|apply bd|apply ba)); exact BK248.out)) : gb248 ≠ gb265)); have n8_ := Am ((by rw [hg]; exact Nat.ne_of_gt (blk_lt (g := gb248) (o := .cells #[.int .i64 0, .int .i64 0, .slice none 0 0, .string (⟨#[]⟩ : ByteArray)] 41 (0, 0)) (by (with_reducible repeat (first|apply bn|apply bd|apply ba)); exact BK248.out)) : gb265 ≠ gb248)); have n9_ := Am ((by rw [hg]; exact Nat.ne_of_lt (IsS67.lt (show IsS67 w _ g253 t261 t262 t263 t264 from by repeat (first | (with_reducible first | exact HI253.out | apply IsS67.alloc | apply IsS67.drewN | apply IsS67.drew | apply IsS67.set_0 | apply IsS67.set_1 | apply IsS67.set_2 | apply IsS67.set_3 | refine IsS67.far ?_ NB253_248.out _) | exact HI253.out))) : g253 ≠ gb265)); have n10_ := Am ((by rw [hg]; exact Nat.ne_of_gt (IsS67.lt (show IsS67 w _ g253 t261 t262 t263 t264 from by repeat (first | (with_reducible first | exact HI253.out | apply IsS67.alloc | apply IsS67.drewN | apply IsS67.drew | apply IsS67.set_0 | apply IsS67.set_1 | apply IsS67.set_2 | apply IsS67.set_3 | refine IsS67.far ?_ NB253_248.out _) | exact HI253.out))) : gb265 ≠ g253)); clear HO258; clear BK248; clear HI253; clear HB; have HO258 := n0_; have BK248 := n1_; have HI253 := n2_; have HB := n3_; have BK265 := n4_; have GW265 := n5_; have GE265 := n6_; have NB248_265 := n7_; have NB265_248 := n8_; have NB253_265 := n9_; have NB265_253 := n10_; clear n0_ n1_ n2_ n3_ n4_ n5_ n6_ n7_ n8_ n9_ n10_; clear hb hbox hg; have hnb33 := NB265_248.out; have hnc33 := NB248_265.out; have hnb34 := NB265_253.out; have hnc34 := NB253_265.out; have hcz35_0 := Own.bc2 BK265.out 0; have hcz35_1 := Own.bc2 BK265.out 1; have hcz35_2 := Own.bc2 BK265.out 2; have hcz35_3 := Own.bc2 BK265.out 3; have hfz35_0 := bf BK265.out 0; have hfz35_1 := bf BK265.out 1; have hfz35_2 := bf BK265.out 2; have hfz35_3 := bf BK265.out 3; obtain ⟨Ao36, co36, eo36⟩ := Kd.R_slice HO258.out; subst eo36) | ((with_reducible refine gate_callee (f := 24) rfl ?_); refine Own.gL_ (some 32) Try.func24 (#[.pointer (some ⟨g253, 0, none⟩)]) (h := ?_); (with_reducible refine (wire_Reader_Err.calls g253 t261 t262 t263 t264 t266 t267 t268 t269 t270 t271 w _ ?side1 ?side2 A12.out).mono ?_); (case side1 => repeat (first | (with_reducible first | exact HI253.out | apply IsS67.alloc | apply IsS67.drewN | apply IsS67.drew | apply IsS67.set_0 | apply IsS67.set_1 | apply IsS67.set_2 | apply IsS67.set_3 | refine IsS67.far ?_ NB253_248.out _ | refine IsS67.far ?_ NB253_265.out _) | exact HI253.out)); (case side2 => repeat (first | (with_reducible first | exact HB.out | apply bl | apply pN | apply b1 | refine bs ?_ (IsS67.ge HI253.out) | refine bs ?_ GE248.out | refine bs ?_ GE265.out) | exact HB.out | exact HBo.out)); rintro e w37 ⟨rfl, hi, hb, hk⟩; refine ⟨_, rfl, ?_⟩; replace BK248 := Am (KeepBut.blk hk (g' := gb248) (o := .cells #[.int .i64 0, .int .i64 0, .slice none 0 0, .string (⟨#[]⟩ : ByteArray)] 41 (0, 0)) (by (with_reducible repeat (first|apply bn|apply bd|apply ba)); refine blk_far ?_ NB248_265.out _; (with_reducible repeat (first|apply bn|apply bd|apply ba)); refine blk_far ?_ NB248_265.out _; (with_reducible repeat (first|apply bn|apply bd|apply ba)); refine blk_far ?_ NB248_265.out _; (with_reducible repeat (first|apply bn|apply bd|apply ba)); refine blk_far ?_ NB248_265.out _; (with_reducible repeat (first|apply bn|apply bd|apply ba)); exact BK248.out) NB248_253.out (by simp)); replace HO258 := Am (Kd.R_mono (Kd.R_keep (IsS67.apart (show IsS67 w _ g253 t261 t262 t263 t264 from by repeat (first | (with_reducible first | exact HI253.out | apply IsS67.alloc | apply IsS67.drewN | apply IsS67.drew | apply IsS67.set_0 | apply IsS67.set_1 | apply IsS67.set_2 | apply IsS67.set_3 | refine IsS67.far ?_ NB253_248.out _ | refine IsS67.far ?_ NB253_265.out _) | exact HI253.out)) (by (with_reducible repeat (first | apply Kd.R_alloc | apply Kd.R_drewN | apply Kd.R_drew)); exact (Kd.R_mono (Kd.R_far (p := ⟨gb265, 3, none⟩) (Kd.R_far (p := ⟨gb265, 2, none⟩) (Kd.R_far (p := ⟨gb265, 1, none⟩) (Kd.R_far (p := ⟨gb265, 0, none⟩) (Kd.R_types HO258.out BK265.out (by decide)) (fun _ hk => hk.2) (.int .i64 t254)) (fun _ hk => hk.2) (.int .i64 t255)) (fun _ hk => hk.2) (.slice Ao36 t256.length co36)) (fun _ hk => hk.2) (.string t259)) (fun _ h_ => h_.1))) (by decide)) hk (fun _ h => h.2)) (fun _ h => h.1)); replace BK265 := Am (KeepBut.blk hk (g' := gb265) (o := .cells #[.int .i64 t254, .int .i64 t255, .slice Ao36 t256.length co36, .string t259] 41 (0, 0)) (by (with_reducible repeat (first|apply bn|apply bd|apply ba)); refine blk_put (cs := #[.int .i64 t254, .int .i64 t255, .slice Ao36 t256.length co36, .string (⟨#[]⟩ : ByteArray)]) ?_ 3 _ rfl; (with_reducible repeat (first|apply bn|apply bd|apply ba)); refine blk_put (cs := #[.int .i64 t254, .int .i64 t255, .slice none 0 0, .string (⟨#[]⟩ : ByteArray)]) ?_ 2 _ rfl; (with_reducible repeat (first|apply bn|apply bd|apply ba)); refine blk_put (cs := #[.int .i64 t254, .int .i64 0, .slice none 0 0, .string (⟨#[]⟩ : ByteArray)]) ?_ 1 _ rfl; (with_reducible repeat (first|apply bn|apply bd|apply ba)); refine blk_put (cs := #[.int .i64 0, .int .i64 0, .slice none 0 0, .string (⟨#[]⟩ : ByteArray)]) ?_ 0 _ rfl; (with_reducible repeat (first|apply bn|apply bd|apply ba)); exact BK265.out) NB265_253.out (by simp)); replace HB := Am (hb); replace HI253 := Am (hi); (try clear hb); (try clear hb2); (try clear hk); (try clear hi); have hnb38 := NB248_253.out; have hnc38 := NB253_248.out; have hcz39_0 := Own.bc2 BK248.out 0; have hcz39_1 := Own.bc2 BK248.out 1; have hcz39_2 := Own.bc2 BK248.out 2; have hcz39_3 := Own.bc2 BK248.out 3; have hfz39_0 := bf BK248.out 0; have hfz39_1 := bf BK248.out 1; have hfz39_2 := bf BK248.out 2; have hfz39_3 := bf BK248.out 3))
        refine bodyPost_ret (results_ctt rfl _ _ gb248 41 #[.int .i64 0, .int .i64 0, .slice none 0 0, .string (⟨#[]⟩ : ByteArray)] (0, 0) _ rfl (by (with_reducible repeat (first|apply bn|apply bd|apply ba)); refine blk_put (cs := #[.int .i64 0, .int .i64 0, .slice none 0 0, .string (⟨#[]⟩ : ByteArray)]) ?_ 3 _ rfl; (with_reducible repeat (first|apply bn|apply bd|apply ba)); refine blk_put (cs := #[.int .i64 0, .int .i64 0, .slice none 0 0, .string (⟨#[]⟩ : ByteArray)]) ?_ 2 _ rfl; (with_reducible repeat (first|apply bn|apply bd|apply ba)); refine blk_put (cs := #[.int .i64 0, .int .i64 0, .slice none 0 0, .string (⟨#[]⟩ : ByteArray)]) ?_ 1 _ rfl; (with_reducible repeat (first|apply bn|apply bd|apply ba)); refine blk_put (cs := #[.int .i64 0, .int .i64 0, .slice none 0 0, .string (⟨#[]⟩ : ByteArray)]) ?_ 0 _ rfl; (with_reducible repeat (first|apply bn|apply bd|apply ba)); exact BK248.out) Try.underlying41 rfl (by kernel_rfl)) rfl ?_
        exact ⟨_, by first | rfl | (simp <;> rfl) | (simp [*] <;> rfl) | (simp [Aid.ne_nil, Aid.eq_nil]; done), by first | exact Kd.R_nil _ _ _ _ _ | exact Kd.N_nil _ _ _ _ _ | exact Kd.V_nil _ _ _ _ _ | exact Kd.Q_nil _ _ _ _ _ | exact Kd.S_nil _ _ _ _ _, by repeat (first | (with_reducible first | exact HB.out | apply bl | apply pN | apply b1 | refine bs ?_ (IsS67.ge HI253.out) | refine bs ?_ GE248.out | refine bs ?_ GE265.out) | exact HB.out | exact HBo.out)⟩
      ·
       replace c13 := Bool.eq_false_iff.mpr c13
       subst c13
       rw [if_neg (show ¬ (false = true) by decide)] at H
       simp only [Option.some.injEq, Prod.mk.injEq] at H
       obtain ⟨rfl, rfl, rfl, rfl, rfl, rfl⟩ := H
       go_wp2_with (first | ((with_reducible refine gate_callee (f := 22) rfl ?_); refine Own.gL_ (some 24) Try.func22 (#[.string (a0.extract (a1 : Int).toNat a0.size)]) (h := ?_); (with_reducible refine (wire_New.calls (a0.extract (a1 : Int).toNat a0.size) t249 t250 t251 t252 w _ ?side1 A10.out).mono ?_); (case side1 => repeat (first | (with_reducible first | exact HB.out | apply bl | apply pN | apply b1 | refine bs ?_ GE248.out) | exact HB.out | exact HBo.out)); rintro e w40 ⟨g253, rfl, hi, hb, hb2⟩; refine ⟨_, rfl, ?_⟩; have HI253 := Am (hi); have NB253_248 := Am (IsS67.ne_blk hi (blk_below (g := gb248) (o := .cells #[.int .i64 0, .int .i64 0, .slice none 0 0, .string (⟨#[]⟩ : ByteArray)] 41 (0, 0)) (by (with_reducible repeat (first|apply bn|apply bd|apply ba)); exact BK248.out) hb2) (by decide)); have NB248_253 := Am (Ne.symm (IsS67.ne_blk hi (blk_below (g := gb248) (o := .cells #[.int .i64 0, .int .i64 0, .slice none 0 0, .string (⟨#[]⟩ : ByteArray)] 41 (0, 0)) (by (with_reducible repeat (first|apply bn|apply bd|apply ba)); exact BK248.out) hb2) (by decide))); replace BK248 := Am (blk_below (g := gb248) (o := .cells #[.int .i64 0, .int .i64 0, .slice none 0 0, .string (⟨#[]⟩ : ByteArray)] 41 (0, 0)) (by (with_reducible repeat (first|apply bn|apply bd|apply ba)); exact BK248.out) hb2); replace HB := Am (hb); (try clear hb); (try clear hb2); (try clear hk); (try clear hi)) | ((with_reducible refine gate_callee (f := 51) rfl ?_); refine Own.gL_ (some 27) Try.func51 (#[.pointer (some ⟨g253, 0, none⟩)]) (h := ?_); (with_reducible refine (event_read.calls kj2 g253 t249 t250 t251 t252 t254 t255 t256 t259 false t261 t262 t263 t264 w _ ?side1 ?side2 A11.out).mono ?_); (case side1 => repeat (first | (with_reducible first | exact HI253.out | apply IsS67.alloc | apply IsS67.drewN | apply IsS67.drew | apply IsS67.set_0 | apply IsS67.set_1 | apply IsS67.set_2 | apply IsS67.set_3 | refine IsS67.far ?_ NB253_248.out _) | exact HI253.out)); (case side2 => repeat (first | (with_reducible first | exact HB.out | apply bl | apply pN | apply b1 | refine bs ?_ (IsS67.ge HI253.out) | refine bs ?_ GE248.out) | exact HB.out | exact HBo.out)); rintro e w41 ⟨v257, rfl, ho0, hi, hb, hk⟩; refine ⟨_, rfl, ?_⟩; have HO258 := Am (Kd.R_lower ho0 (below_size (by repeat (first | (with_reducible first | exact HB.out | apply bl | apply pN | apply b1 | refine bs ?_ (IsS67.ge HI253.out) | refine bs ?_ GE248.out) | exact HB.out | exact HBo.out)))); replace BK248 := Am (KeepBut.blk hk (g' := gb248) (o := .cells #[.int .i64 0, .int .i64 0, .slice none 0 0, .string (⟨#[]⟩ : ByteArray)] 41 (0, 0)) (by (with_reducible repeat (first|apply bn|apply bd|apply ba)); exact BK248.out) NB248_253.out (by simp)); replace HB := Am (hb); replace HI253 := Am (hi); (try clear hb); (try clear hb2); (try clear hk); (try clear hi); (try clear ho0)) | ((with_reducible refine gate_dst (N := 8) rfl ?_); (try (refine gate_guard (by rfl) ?_; dsimp only)); refine box_event ?hg (N := 8) ?hd (cs := #[.int .i64 0, .int .i64 0, .slice none 0 0, .string (⟨#[]⟩ : ByteArray)]) (t := 41) ?hr ?_; (case hd => rfl); (case hg => rfl); (case hr => first | (go_simp; done) | (go_simp; rfl)); intro gb265 hg w42 hbox hb; have n0_ := Am (Kd.R_below (by (with_reducible repeat (first | apply Kd.R_alloc | apply Kd.R_drewN | apply Kd.R_drew)); exact HO258.out) hb); have n1_ := Am (blk_below (g := gb248) (o := .cells #[.int .i64 0, .int .i64 0, .slice none 0 0, .string (⟨#[]⟩ : ByteArray)] 41 (0, 0)) (by (with_reducible repeat (first|apply bn|apply bd|apply ba)); exact BK248.out) hb); have n2_ := Am (IsS67.below (by repeat (first | (with_reducible first | exact HI253.out | apply IsS67.alloc | apply IsS67.drewN | apply IsS67.drew | apply IsS67.set_0 | apply IsS67.set_1 | apply IsS67.set_2 | apply IsS67.set_3 | refine IsS67.far ?_ NB253_248.out _) | exact HI253.out)) hb); have n3_ := Am (below_step (by repeat (first | (with_reducible first | exact HB.out | apply bl | apply pN | apply b1 | refine bs ?_ (IsS67.ge HI253.out) | refine bs ?_ GE248.out) | exact HB.out | exact HBo.out)) hb); have n4_ := Am (hbox); have n5_ := Am ((by rw [hg]; exact (below_size (by repeat (first | (with_reducible first | exact HB.out | apply bl | apply pN | apply b1 | refine bs ?_ (IsS67.ge HI253.out) | refine bs ?_ GE248.out) | exact HB.out | exact HBo.out))) : w.heap.size ≤ gb265)); have n6_ := Am ((by rw [hg]; exact (below_size (by repeat (first | (with_reducible first | exact HB.out | apply bl | apply pN | apply b1 | refine bs ?_ (IsS67.ge HI253.out) | refine bs ?_ GE248.out) | exact HB.out | exact HBo.out))) : w.heap.size ≤ gb265)); have n7_ := Am ((by rw [hg]; exact Nat.ne_of_lt (blk_lt (g := gb248) (o := .cells #[.int .i64 0, .int .i64 0, .slice none 0 0, .string (⟨#[]⟩ : ByteArray)] 41 (0, 0)) (by (with_reducible repeat (first|apply bn|apply bd|apply ba)); exact BK248.out)) : gb248 ≠ gb265)); have n8_ := Am ((by rw [hg]; exact Nat.ne_of_gt (blk_lt (g := gb248) (o := .cells #[.int .i64 0, .int .i64 0, .slice none 0 0, .string (⟨#[]⟩ : ByteArray)] 41 (0, 0)) (by (with_reducible repeat (first|apply bn|apply bd|apply ba)); exact BK248.out)) : gb265 ≠ gb248)); have n9_ := Am ((by rw [hg]; exact Nat.ne_of_lt (IsS67.lt (show IsS67 w _ g253 t261 t262 t263 t264 from by repeat (first | (with_reducible first | exact HI253.out | apply IsS67.alloc | apply IsS67.drewN | apply IsS67.drew | apply IsS67.set_0 | apply IsS67.set_1 | apply IsS67.set_2 | apply IsS67.set_3 | refine IsS67.far ?_ NB253_248.out _) | exact HI253.out))) : g253 ≠ gb265)); have n10_ := Am ((by rw [hg]; exact Nat.ne_of_gt (IsS67.lt (show IsS67 w _ g253 t261 t262 t263 t264 from by repeat (first | (with_reducible first | exact HI253.out | apply IsS67.alloc | apply IsS67.drewN | apply IsS67.drew | apply IsS67.set_0 | apply IsS67.set_1 | apply IsS67.set_2 | apply IsS67.set_3 | refine IsS67.far ?_ NB253_248.out _) | exact HI253.out))) : gb265 ≠ g253)); clear HO258; clear BK248; clear HI253; clear HB; have HO258 := n0_; have BK248 := n1_; have HI253 := n2_; have HB := n3_; have BK265 := n4_; have GW265 := n5_; have GE265 := n6_; have NB248_265 := n7_; have NB265_248 := n8_; have NB253_265 := n9_; have NB265_253 := n10_; clear n0_ n1_ n2_ n3_ n4_ n5_ n6_ n7_ n8_ n9_ n10_; clear hb hbox hg; have hnb43 := NB265_248.out; have hnc43 := NB248_265.out; have hnb44 := NB265_253.out; have hnc44 := NB253_265.out; have hcz45_0 := Own.bc2 BK265.out 0; have hcz45_1 := Own.bc2 BK265.out 1; have hcz45_2 := Own.bc2 BK265.out 2; have hcz45_3 := Own.bc2 BK265.out 3; have hfz45_0 := bf BK265.out 0; have hfz45_1 := bf BK265.out 1; have hfz45_2 := bf BK265.out 2; have hfz45_3 := bf BK265.out 3; obtain ⟨Ao46, co46, eo46⟩ := Kd.R_slice HO258.out; subst eo46) | ((with_reducible refine gate_callee (f := 24) rfl ?_); refine Own.gL_ (some 32) Try.func24 (#[.pointer (some ⟨g253, 0, none⟩)]) (h := ?_); (with_reducible refine (wire_Reader_Err.calls g253 t261 t262 t263 t264 t266 t267 t268 t269 t270 t271 w _ ?side1 ?side2 A12.out).mono ?_); (case side1 => repeat (first | (with_reducible first | exact HI253.out | apply IsS67.alloc | apply IsS67.drewN | apply IsS67.drew | apply IsS67.set_0 | apply IsS67.set_1 | apply IsS67.set_2 | apply IsS67.set_3 | refine IsS67.far ?_ NB253_248.out _ | refine IsS67.far ?_ NB253_265.out _) | exact HI253.out)); (case side2 => repeat (first | (with_reducible first | exact HB.out | apply bl | apply pN | apply b1 | refine bs ?_ (IsS67.ge HI253.out) | refine bs ?_ GE248.out | refine bs ?_ GE265.out) | exact HB.out | exact HBo.out)); rintro e w47 ⟨rfl, hi, hb, hk⟩; refine ⟨_, rfl, ?_⟩; replace BK248 := Am (KeepBut.blk hk (g' := gb248) (o := .cells #[.int .i64 0, .int .i64 0, .slice none 0 0, .string (⟨#[]⟩ : ByteArray)] 41 (0, 0)) (by (with_reducible repeat (first|apply bn|apply bd|apply ba)); refine blk_far ?_ NB248_265.out _; (with_reducible repeat (first|apply bn|apply bd|apply ba)); refine blk_far ?_ NB248_265.out _; (with_reducible repeat (first|apply bn|apply bd|apply ba)); refine blk_far ?_ NB248_265.out _; (with_reducible repeat (first|apply bn|apply bd|apply ba)); refine blk_far ?_ NB248_265.out _; (with_reducible repeat (first|apply bn|apply bd|apply ba)); exact BK248.out) NB248_253.out (by simp)); replace HO258 := Am (Kd.R_mono (Kd.R_keep (IsS67.apart (show IsS67 w _ g253 t261 t262 t263 t264 from by repeat (first | (with_reducible first | exact HI253.out | apply IsS67.alloc | apply IsS67.drewN | apply IsS67.drew | apply IsS67.set_0 | apply IsS67.set_1 | apply IsS67.set_2 | apply IsS67.set_3 | refine IsS67.far ?_ NB253_248.out _ | refine IsS67.far ?_ NB253_265.out _) | exact HI253.out)) (by (with_reducible repeat (first | apply Kd.R_alloc | apply Kd.R_drewN | apply Kd.R_drew)); exact (Kd.R_mono (Kd.R_far (p := ⟨gb265, 3, none⟩) (Kd.R_far (p := ⟨gb265, 2, none⟩) (Kd.R_far (p := ⟨gb265, 1, none⟩) (Kd.R_far (p := ⟨gb265, 0, none⟩) (Kd.R_types HO258.out BK265.out (by decide)) (fun _ hk => hk.2) (.int .i64 t254)) (fun _ hk => hk.2) (.int .i64 t255)) (fun _ hk => hk.2) (.slice Ao46 t256.length co46)) (fun _ hk => hk.2) (.string t259)) (fun _ h_ => h_.1))) (by decide)) hk (fun _ h => h.2)) (fun _ h => h.1)); replace BK265 := Am (KeepBut.blk hk (g' := gb265) (o := .cells #[.int .i64 t254, .int .i64 t255, .slice Ao46 t256.length co46, .string t259] 41 (0, 0)) (by (with_reducible repeat (first|apply bn|apply bd|apply ba)); refine blk_put (cs := #[.int .i64 t254, .int .i64 t255, .slice Ao46 t256.length co46, .string (⟨#[]⟩ : ByteArray)]) ?_ 3 _ rfl; (with_reducible repeat (first|apply bn|apply bd|apply ba)); refine blk_put (cs := #[.int .i64 t254, .int .i64 t255, .slice none 0 0, .string (⟨#[]⟩ : ByteArray)]) ?_ 2 _ rfl; (with_reducible repeat (first|apply bn|apply bd|apply ba)); refine blk_put (cs := #[.int .i64 t254, .int .i64 0, .slice none 0 0, .string (⟨#[]⟩ : ByteArray)]) ?_ 1 _ rfl; (with_reducible repeat (first|apply bn|apply bd|apply ba)); refine blk_put (cs := #[.int .i64 0, .int .i64 0, .slice none 0 0, .string (⟨#[]⟩ : ByteArray)]) ?_ 0 _ rfl; (with_reducible repeat (first|apply bn|apply bd|apply ba)); exact BK265.out) NB265_253.out (by simp)); replace HB := Am (hb); replace HI253 := Am (hi); (try clear hb); (try clear hb2); (try clear hk); (try clear hi); have hnb48 := NB248_253.out; have hnc48 := NB253_248.out; have hcz49_0 := Own.bc2 BK248.out 0; have hcz49_1 := Own.bc2 BK248.out 1; have hcz49_2 := Own.bc2 BK248.out 2; have hcz49_3 := Own.bc2 BK248.out 3; have hfz49_0 := bf BK248.out 0; have hfz49_1 := bf BK248.out 1; have hfz49_2 := bf BK248.out 2; have hfz49_3 := bf BK248.out 3))
       refine bodyPost_ret (results_ctt rfl _ _ gb248 41 #[.int .i64 0, .int .i64 0, .slice none 0 0, .string (⟨#[]⟩ : ByteArray)] (0, 0) _ rfl (by (with_reducible repeat (first|apply bn|apply bd|apply ba)); refine blk_put (cs := #[.int .i64 0, .int .i64 0, .slice none 0 0, .string (⟨#[]⟩ : ByteArray)]) ?_ 3 _ rfl; (with_reducible repeat (first|apply bn|apply bd|apply ba)); refine blk_put (cs := #[.int .i64 0, .int .i64 0, .slice none 0 0, .string (⟨#[]⟩ : ByteArray)]) ?_ 2 _ rfl; (with_reducible repeat (first|apply bn|apply bd|apply ba)); refine blk_put (cs := #[.int .i64 0, .int .i64 0, .slice none 0 0, .string (⟨#[]⟩ : ByteArray)]) ?_ 1 _ rfl; (with_reducible repeat (first|apply bn|apply bd|apply ba)); refine blk_put (cs := #[.int .i64 0, .int .i64 0, .slice none 0 0, .string (⟨#[]⟩ : ByteArray)]) ?_ 0 _ rfl; (with_reducible repeat (first|apply bn|apply bd|apply ba)); exact BK248.out) Try.underlying41 rfl (by kernel_rfl)) rfl ?_
       exact ⟨_, by first | rfl | (simp <;> rfl) | (simp [*] <;> rfl) | (simp [Aid.ne_nil, Aid.eq_nil]; done), by first | exact Kd.R_nil _ _ _ _ _ | exact Kd.N_nil _ _ _ _ _ | exact Kd.V_nil _ _ _ _ _ | exact Kd.Q_nil _ _ _ _ _ | exact Kd.S_nil _ _ _ _ _, by repeat (first | (with_reducible first | exact HB.out | apply bl | apply pN | apply b1 | refine bs ?_ (IsS67.ge HI253.out) | refine bs ?_ GE248.out | refine bs ?_ GE265.out) | exact HB.out | exact HBo.out)⟩
     ·
      rw [if_neg c9] at H
      exact absurd H (by simp)
    ·
     rw [if_neg c8] at H
     exact absurd H (by simp)

/-! ### batch_Events: function 11 -/
mutual
def batch_Events.l0 : Nat → List (S41) → List Int → Int → Int → Int → Int → Int → ByteArray → Option ((List (S41)) × List Int × Int × Int)
 | 0, _, _, _, _, _, _, _, _ => none
 | k + 1, x6, x7, x8, x9, x278000, x278001, x278002, x278003 => if x9 < (x278003.size : Int) then ((event_Decode.f k x278003 x9).bind fun bt279 => (if bt279.2.2.2.2.2 = 0 then (batch_Events.j1 k x6 x7 x8 x9 bt279.2.2.2.2.1 bt279.2.2.2.2.2 (decide (bt279.2.1 ≥ (wrap64 (4611686018427387904 - x8)))) x278000 x278001 x278002 x278003 bt279.1 bt279.2.1 bt279.2.2.1 bt279.2.2.2.1) else (batch_Events.j1 k x6 x7 x8 x9 bt279.2.2.2.2.1 bt279.2.2.2.2.2 false x278000 x278001 x278002 x278003 bt279.1 bt279.2.1 bt279.2.2.1 bt279.2.2.2.1))) else (some (x6, x7, 0, 0))
def batch_Events.j1 : Nat → List (S41) → List Int → Int → Int → Int → Int → Bool → Int → Int → Int → ByteArray → Int → Int → List Int → ByteArray → Option ((List (S41)) × List Int × Int × Int)
 | 0, _, _, _, _, _, _, _, _, _, _, _, _, _, _, _ => none
 | k + 1, x6, x7, x8, x9, x11, x12, x39, x278000, x278001, x278002, x278003, x288000, x288001, x288002, x288003 => if x39 = true then (some (([] : List (S41)), ([] : List Int), x9, 11)) else (if x12 = 0 then (if x6.length < 2513169434916 then (if x7.length < 17592186044416 then (batch_Events.l0 k (x6 ++ [(⟨x288000, x288001, x288002, x288003⟩ : S41)]) (x7 ++ [wrap64 (x8 + x288001)]) (wrap64 (x8 + x288001)) x11 x278000 x278001 x278002 x278003) else (none)) else (none)) else (some (([] : List (S41)), ([] : List Int), x9, x12)))
end
def batch_Events.f (k : Nat) (a0_0 : Int) (a0_1 : Int) (a0_2 : Int) (a0_3 : ByteArray) : Option ((List (S41)) × List Int × Int × Int) := (batch_May.f a0_0 a0_1 a0_2 a0_3).bind fun t278 => (if t278 = true then (batch_Events.l0 k ([] : List (S41)) ([] : List Int) a0_2 0 a0_0 a0_1 a0_2 a0_3) else (some (([] : List (S41)), ([] : List Int), 0, 50)))
theorem batch_Events.mono_l : ∀ k, (∀ y0 y1 y2 y3 y4 y5 y6 y7, LeO (batch_Events.l0 k y0 y1 y2 y3 y4 y5 y6 y7) (batch_Events.l0 (k + 1) y0 y1 y2 y3 y4 y5 y6 y7)) ∧ (∀ y0 y1 y2 y3 y4 y5 y6 y7 y8 y9 y10 y11 y12 y13 y14, LeO (batch_Events.j1 k y0 y1 y2 y3 y4 y5 y6 y7 y8 y9 y10 y11 y12 y13 y14) (batch_Events.j1 (k + 1) y0 y1 y2 y3 y4 y5 y6 y7 y8 y9 y10 y11 y12 y13 y14))
 | 0 => ⟨fun _ _ _ _ _ _ _ _ r h => by simp [batch_Events.l0] at h, fun _ _ _ _ _ _ _ _ _ _ _ _ _ _ _ r h => by simp [batch_Events.j1] at h⟩
 | k + 1 => by
  obtain ⟨ih0, ih1⟩ := batch_Events.mono_l k
  refine ⟨?_, ?_⟩
  ·
   intro y0 y1 y2 y3 y4 y5 y6 y7
   unfold batch_Events.l0
   repeat' first
   | (with_reducible exact ih0 _ _ _ _ _ _ _ _)
   | (with_reducible exact ih1 _ _ _ _ _ _ _ _ _ _ _ _ _ _ _)
   | (with_reducible exact event_Decode.mono _ _ _)
   | (with_reducible exact LeO.refl _)
   | (with_reducible exact LeO.none _)
   | (with_reducible refine LeO.ite ?_ ?_)
   | (with_reducible refine LeO.bind ?_ (fun _ => ?_))
   | exact LeO.none _
   | refine LeO.ite ?_ ?_
   | refine LeO.bind ?_ (fun _ => ?_)
  ·
   intro y0 y1 y2 y3 y4 y5 y6 y7 y8 y9 y10 y11 y12 y13 y14
   unfold batch_Events.j1
   repeat' first
   | (with_reducible exact ih0 _ _ _ _ _ _ _ _)
   | (with_reducible exact ih1 _ _ _ _ _ _ _ _ _ _ _ _ _ _ _)
   | (with_reducible exact event_Decode.mono _ _ _)
   | (with_reducible exact LeO.refl _)
   | (with_reducible exact LeO.none _)
   | (with_reducible refine LeO.ite ?_ ?_)
   | (with_reducible refine LeO.bind ?_ (fun _ => ?_))
   | exact LeO.none _
   | refine LeO.ite ?_ ?_
   | refine LeO.bind ?_ (fun _ => ?_)
theorem batch_Events.mono : ∀ a0 a1 a2 a3 k, LeO (batch_Events.f k a0 a1 a2 a3) (batch_Events.f (k + 1) a0 a1 a2 a3) := by
 intro a0 a1 a2 a3 k
 obtain ⟨ih0, ih1⟩ := batch_Events.mono_l k
 unfold batch_Events.f
 repeat' first
   | (with_reducible exact ih0 _ _ _ _ _ _ _ _)
   | (with_reducible exact ih1 _ _ _ _ _ _ _ _ _ _ _ _ _ _ _)
   | (with_reducible exact event_Decode.mono _ _ _)
   | (with_reducible exact LeO.refl _)
   | (with_reducible exact LeO.none _)
   | (with_reducible refine LeO.ite ?_ ?_)
   | (with_reducible refine LeO.bind ?_ (fun _ => ?_))
   | exact LeO.none _
   | refine LeO.ite ?_ ?_
   | refine LeO.bind ?_ (fun _ => ?_)
set_option maxHeartbeats 8000000 in
set_option maxRecDepth 100000 in
theorem batch_Events.calls (k : Nat) (a0_0 : Int) (a0_1 : Int) (a0_2 : Int) (a0_3 : ByteArray) (r1 : List (S41)) (r2 : List Int) (r3 : Int) (r4 : Int) (w : World) (h : batch_Events.f k a0_0 a0_1 a0_2 a0_3 = some (r1, r2, r3, r4)) :
  Calls Try.prog 11 #[.agg #[.int .i64 a0_0, .int .i64 a0_1, .int .i64 a0_2, .string a0_3]] w fun e w' => ∃ v0_ v1_ : Value, e = .returned (.tuple #[v0_, v1_, .int .i64 r3, .int .i64 r4]) ∧ Kd.S k41 41 w' w.heap.size (fun k_ => some k_ ≠ (v1_ : Value).ownBlock) v0_ r1 ∧ Kd.R (Kd.int .i64) 3 w' w.heap.size (fun _ => True) v1_ r2 ∧ Below w.heap.size w w' := by
 have hu23 := Try.underlying23
 have hu41 := Try.underlying41
 have HB := Am (Below.refl w.heap.size w)
 have H : ((batch_May.f a0_0 a0_1 a0_2 a0_3).bind fun t278 => (if t278 = true then (batch_Events.l0 k ([] : List (S41)) ([] : List Int) a0_2 0 a0_0 a0_1 a0_2 a0_3) else (some (([] : List (S41)), ([] : List Int), 0, 50)))) = some (r1, r2, r3, r4) := h
 clear h
 replace H := ob H
 obtain ⟨t278, A20, H⟩ := H
 (try dsimp only at H)
 have A2 := Am A20
 clear A20
 by_cases c3 : t278 = true
 ·
  subst c3
  rw [if_pos rfl] at H
  have H' := Am H
  clear H
  go_enter Try.func11, Try.ntmps11
  go_wp2_with (first | ((with_reducible refine gate_dst (N := 1) rfl ?_); refine box_event ?hg (N := 1) ?hd (cs := #[.int .i64 a0_0, .int .i64 a0_1, .int .i64 a0_2, .string a0_3]) (t := 23) ?hr ?_; (case hd => rfl); (case hg => rfl); (case hr => first | (go_simp; done) | (go_simp; rfl)); intro gb277 hg w4 hbox hb; have BK277 := Am (hbox); have GW277 := Am ((by rw [hg]; exact (below_size (by repeat (first | (with_reducible first | exact HB.out | apply bl | apply pN | apply b1) | exact HB.out | exact HBo.out))) : w.heap.size ≤ gb277)); have GE277 := GW277; replace HB := Am (below_step (by repeat (first | (with_reducible first | exact HB.out | apply bl | apply pN | apply b1) | exact HB.out | exact HBo.out)) hb); clear hb hbox hg; have hcz5_0 := Own.bc2 BK277.out 0; have hcz5_1 := Own.bc2 BK277.out 1; have hcz5_2 := Own.bc2 BK277.out 2; have hcz5_3 := Own.bc2 BK277.out 3; have hfz5_0 := bf BK277.out 0; have hfz5_1 := bf BK277.out 1; have hfz5_2 := bf BK277.out 2; have hfz5_3 := bf BK277.out 3) | ((with_reducible refine gate_callee (f := 13) rfl ?_); refine Own.gL_ (some 14) Try.func13 (#[.agg #[.int .i64 a0_0, .int .i64 a0_1, .int .i64 a0_2, .string a0_3]]) (h := ?_); (with_reducible refine (batch_May.calls a0_0 a0_1 a0_2 a0_3 true _ A2.out).mono ?_); rintro e w6 ⟨rfl, hb⟩; refine ⟨_, rfl, ?_⟩; replace BK277 := Am (blk_below (g := gb277) (o := .cells #[.int .i64 a0_0, .int .i64 a0_1, .int .i64 a0_2, .string a0_3] 23 (0, 0)) (by (with_reducible repeat (first|apply bn|apply bd|apply ba)); exact BK277.out) hb); replace HB := Am (below_step (by repeat (first | (with_reducible first | exact HB.out | apply bl | apply pN | apply b1 | refine bs ?_ GE277.out) | exact HB.out | exact HBo.out)) hb); clear hb; have hcz7_0 := Own.bc2 BK277.out 0; have hcz7_1 := Own.bc2 BK277.out 1; have hcz7_2 := Own.bc2 BK277.out 2; have hcz7_3 := Own.bc2 BK277.out 3; have hfz7_0 := bf BK277.out 0; have hfz7_1 := bf BK277.out 1; have hfz7_2 := bf BK277.out 2; have hfz7_3 := bf BK277.out 3))
  go_loopg [6, 7, 8, 9] k (fun kq v6 v7 v8 v9 w' => ∃ (x6_1 : List (S41)) (x7_1 : List Int) (x8_1 : Int) (x9_1 : Int), v8 = .int .i64 x8_1 ∧ v9 = .int .i64 x9_1 ∧ Aside0 (batch_Events.l0 kq x6_1 x7_1 x8_1 x9_1 a0_0 a0_1 a0_2 a0_3 = some (r1, r2, r3, r4)) ∧ Aside0 (kq ≤ k) ∧ Aside0 (Kd.S k41 41 w' w.heap.size (fun k_ => some k_ ≠ (v7 : Value).ownBlock) v6 x6_1) ∧ Aside0 (Kd.R (Kd.int .i64) 3 w' w.heap.size (fun _ => True) v7 x7_1) ∧ Aside0 (w'.heap[gb277]? = some (.cells #[.int .i64 a0_0, .int .i64 a0_1, .int .i64 a0_2, .string a0_3] 23 (0, 0))) ∧ Aside0 (Below w.heap.size w w'))
  case atStart => exact ⟨(([] : List (S41))), (([] : List Int)), (a0_2), (0), (by first | rfl | (simp; done) | (simp [*]; done)), (by first | rfl | (simp; done) | (simp [*]; done)), H', ⟨Nat.le_refl _⟩, ⟨by first | exact Kd.S_nil _ _ _ _ _ | exact Kd.N_nil _ _ _ _ _ | exact Kd.V_nil _ _ _ _ _ | exact Kd.Q_nil _ _ _ _ _ | exact Kd.R_nil _ _ _ _ _⟩, ⟨by first | exact Kd.R_nil _ _ _ _ _ | exact Kd.N_nil _ _ _ _ _ | exact Kd.V_nil _ _ _ _ _ | exact Kd.Q_nil _ _ _ _ _ | exact Kd.S_nil _ _ _ _ _⟩, ⟨by (with_reducible repeat (first|apply bn|apply bd|apply ba)); exact BK277.out⟩, ⟨by repeat (first | (with_reducible first | exact HB.out | apply bl | apply pN | apply b1 | refine bs ?_ GE277.out) | exact HB.out | exact HBo.out)⟩⟩
  case round =>
   clear H'
   try clear c1
   try clear p2
   try clear c3
   try clear hcz5_0
   try clear hcz5_1
   try clear hcz5_2
   try clear hcz5_3
   try clear hcz7_0
   try clear hcz7_1
   try clear hcz7_2
   try clear hcz7_3
   try clear hfz5_0
   try clear hfz5_1
   try clear hfz5_2
   try clear hfz5_3
   try clear hfz7_0
   try clear hfz7_1
   try clear hfz7_2
   try clear hfz7_3
   obtain ⟨x6_1, x7_1, x8_1, x9_1, rfl, rfl, HA, HK1, HO_6, HO_7, BK277, HB⟩ := hrel
   cases gk with
   | zero => exact absurd HA.out (by simp [batch_Events.l0])
   | succ k1 =>
    have H := HA.out
    clear HA
    simp only [batch_Events.l0] at H
    by_cases c8 : x9_1 < (a0_3.size : Int)
    ·
     rw [if_pos c8] at H
     have c8b0 : decide (x9_1 < (a0_3.size : Int)) = true := decide_eq_true c8
     clear c8
     replace H := ob H
     obtain ⟨⟨t279, t280, t281, t284, t285, t286⟩, A90, H⟩ := H
     (try dsimp only at H)
     have A9 := Am A90
     clear A90
     have HC10 := Am H
     clear H
     have hcz11_0 := Own.bc2 BK277.out 0
     have hcz11_1 := Own.bc2 BK277.out 1
     have hcz11_2 := Own.bc2 BK277.out 2
     have hcz11_3 := Own.bc2 BK277.out 3
     have hfz11_0 := bf BK277.out 0
     have hfz11_1 := bf BK277.out 1
     have hfz11_2 := bf BK277.out 2
     have hfz11_3 := bf BK277.out 3
     go_upto_region 9 with (first | ((with_reducible refine gate_callee (f := 30) rfl ?_); refine Own.gL_ (some 27) Try.func30 (#[.string a0_3, .int .i64 x9_1]) (h := ?_); (with_reducible refine (event_Decode.calls k1 a0_3 x9_1 t279 t280 t281 t284 t285 t286 _ A9.out).mono ?_); rintro e w12 ⟨v282, rfl, ho0, hb⟩; refine ⟨_, rfl, ?_⟩; have HO283 := Am (Kd.R_lower (Kd.R_new' ho0 (Kd.R_lt (by (with_reducible repeat (first | apply Kd.R_alloc | apply Kd.R_drewN | apply Kd.R_drew)); exact HO_7.out))) (below_size (by repeat (first | (with_reducible first | exact HB.out | apply bl | apply pN | apply b1 | refine bs ?_ GE277.out) | exact HB.out | exact HBo.out)))); replace HO_6 := Am (Kd.S_elder' (by (with_reducible repeat (first | apply Kd.S_alloc | apply Kd.S_drewN | apply Kd.S_drew)); exact HO_6.out) (Kd.R_base ho0) hb); replace HO_7 := Am (Kd.R_elder' (by (with_reducible repeat (first | apply Kd.R_alloc | apply Kd.R_drewN | apply Kd.R_drew)); exact HO_7.out) (Kd.R_base ho0) hb); replace BK277 := Am (blk_below (g := gb277) (o := .cells #[.int .i64 a0_0, .int .i64 a0_1, .int .i64 a0_2, .string a0_3] 23 (0, 0)) (by (with_reducible repeat (first|apply bn|apply bd|apply ba)); exact BK277.out) hb); replace HB := Am (below_step (by repeat (first | (with_reducible first | exact HB.out | apply bl | apply pN | apply b1 | refine bs ?_ GE277.out) | exact HB.out | exact HBo.out)) hb); (try clear hb); (try clear hb2); (try clear hk); (try clear hi); (try clear ho0)) | ((with_reducible refine gate_dst (N := 10) rfl ?_); refine box_event ?hg (N := 10) ?hd (cs := #[.int .i64 0, .int .i64 0, .slice none 0 0, .string (⟨#[]⟩ : ByteArray)]) (t := 41) ?hr ?_; (case hd => rfl); (case hg => rfl); (case hr => first | (go_simp; done) | (go_simp; rfl)); intro gb287 hg w13 hbox hb; have BK287 := Am (hbox); have GW287 := Am ((by rw [hg]; exact (below_size (by repeat (first | (with_reducible first | exact HB.out | apply bl | apply pN | apply b1 | refine bs ?_ GE277.out) | exact HB.out | exact HBo.out))) : w.heap.size ≤ gb287)); have GE287 := GW287; have NB277_287 := Am ((by rw [hg]; exact Nat.ne_of_lt (blk_lt (g := gb277) (o := .cells #[.int .i64 a0_0, .int .i64 a0_1, .int .i64 a0_2, .string a0_3] 23 (0, 0)) (by (with_reducible repeat (first|apply bn|apply bd|apply ba)); exact BK277.out)) : gb277 ≠ gb287)); have NB287_277 := Am NB277_287.out.symm; replace HO_6 := Am (Kd.S_below (Kd.S_elderB (by (with_reducible repeat (first | apply Kd.S_alloc | apply Kd.S_drewN | apply Kd.S_drew)); exact HO_6.out) gb287 (Nat.le_of_eq hg.symm)) hb); replace HO_7 := Am (Kd.R_below (by (with_reducible repeat (first | apply Kd.R_alloc | apply Kd.R_drewN | apply Kd.R_drew)); exact HO_7.out) hb); replace HO283 := Am (Kd.R_below (by (with_reducible repeat (first | apply Kd.R_alloc | apply Kd.R_drewN | apply Kd.R_drew)); exact HO283.out) hb); replace BK277 := Am (blk_below (g := gb277) (o := .cells #[.int .i64 a0_0, .int .i64 a0_1, .int .i64 a0_2, .string a0_3] 23 (0, 0)) (by (with_reducible repeat (first|apply bn|apply bd|apply ba)); exact BK277.out) hb); replace HB := Am (below_step (by repeat (first | (with_reducible first | exact HB.out | apply bl | apply pN | apply b1 | refine bs ?_ GE277.out) | exact HB.out | exact HBo.out)) hb); clear hb hbox hg; have hnb14 := NB287_277.out; have hnc14 := NB277_287.out; have hcz15_0 := Own.bc2 BK287.out 0; have hcz15_1 := Own.bc2 BK287.out 1; have hcz15_2 := Own.bc2 BK287.out 2; have hcz15_3 := Own.bc2 BK287.out 3; have hfz15_0 := bf BK287.out 0; have hfz15_1 := bf BK287.out 1; have hfz15_2 := bf BK287.out 2; have hfz15_3 := bf BK287.out 3; obtain ⟨Ao16, co16, eo16⟩ := Kd.R_slice HO283.out; subst eo16))
     (try simp only [Act.put, sI, sZ, sS])
     go_cut [39] (fun v39 wc => ∃ (kq : Nat) (x39_9 : Bool), v39 = .bool x39_9 ∧ Aside0 (batch_Events.j1 kq x6_1 x7_1 x8_1 x9_1 t285 t286 x39_9 a0_0 a0_1 a0_2 a0_3 t279 t280 t281 t284 = some (r1, r2, r3, r4)) ∧ Aside0 (kq ≤ k1) ∧ Aside0 (Kd.S k41 41 wc w.heap.size (fun k_ => some k_ ≠ (u7 : Value).ownBlock ∧ some k_ ≠ ((.slice Ao16 t281.length co16) : Value).ownBlock ∧ k_ ≠ gb287) u6 x6_1) ∧ Aside0 (Kd.R (Kd.int .i64) 3 wc w.heap.size (fun k_ => some k_ ≠ ((.slice Ao16 t281.length co16) : Value).ownBlock) u7 x7_1) ∧ Aside0 (Kd.R (Kd.int .i64) 3 wc w.heap.size (fun k_ => some k_ ≠ (u7 : Value).ownBlock) (.slice Ao16 t281.length co16) t281) ∧ Aside0 (wc.heap[gb277]? = some (.cells #[.int .i64 a0_0, .int .i64 a0_1, .int .i64 a0_2, .string a0_3] 23 (0, 0))) ∧ Aside0 (wc.heap[gb287]? = some (.cells #[.int .i64 t279, .int .i64 t280, (.slice Ao16 t281.length co16), .string t284] 41 (0, 0))) ∧ Aside0 (Below w.heap.size w wc))
     case first =>
      have H := HC10.out
      clear HC10
      by_cases c17 : t286 = 0
      ·
       rw [if_pos c17] at H
       have c17b0 : (t286 == 0) = true := beq_iff_eq.mpr c17
       have c17b1 : (t286 != 0) = false := bne_eq_false_iff_eq.mpr c17
       clear c17
       (first | rw [c17b0] | (simp only [i64_w, i32_w]; rw [c17b0]) | skip)
       have H' := Am H
       clear H
       have hnb18 := NB287_277.out
       have hnc18 := NB277_287.out
       have hcz19_0 := Own.bc2 BK287.out 0
       have hcz19_1 := Own.bc2 BK287.out 1
       have hcz19_2 := Own.bc2 BK287.out 2
       have hcz19_3 := Own.bc2 BK287.out 3
       have hfz19_0 := bf BK287.out 0
       have hfz19_1 := bf BK287.out 1
       have hfz19_2 := bf BK287.out 2
       have hfz19_3 := bf BK287.out 3
       go_wp2
       go_meet
       case rel => exact ⟨_, (decide (t280 ≥ (wrap64 (4611686018427387904 - x8_1)))), (by first | rfl | (simp; done) | (simp [*]; done)), H', ⟨by have := HK1.out; first | omega | exact Nat.le_refl _⟩, ⟨by (with_reducible repeat (first | apply Kd.S_alloc | apply Kd.S_drewN | apply Kd.S_drew)); exact Kd.S_mono (Kd.S_far (p := ⟨gb287, 3, none⟩) (Kd.S_far (p := ⟨gb287, 2, none⟩) (Kd.S_far (p := ⟨gb287, 1, none⟩) (Kd.S_far (p := ⟨gb287, 0, none⟩) (Kd.S_mono HO_6.out (fun k_ hk => (⟨hk, hk.2⟩ : _ ∧ k_ ≠ gb287))) (fun _ hk => hk.2) (.int .i64 t279)) (fun _ hk => hk.2) (.int .i64 t280)) (fun _ hk => hk.2) (.slice Ao16 t281.length co16)) (fun _ hk => hk.2) (.string t284)) (fun _ hk => ⟨hk.1.1.1, ⟨hk.1.1.2, hk.1.2⟩⟩)⟩, ⟨by (with_reducible repeat (first | apply Kd.R_alloc | apply Kd.R_drewN | apply Kd.R_drew)); exact Kd.R_mono (Kd.R_far (p := ⟨gb287, 3, none⟩) (Kd.R_far (p := ⟨gb287, 2, none⟩) (Kd.R_far (p := ⟨gb287, 1, none⟩) (Kd.R_far (p := ⟨gb287, 0, none⟩) (Kd.R_types HO_7.out BK287.out (by decide)) (fun _ hk => hk.2) (.int .i64 t279)) (fun _ hk => hk.2) (.int .i64 t280)) (fun _ hk => hk.2) (.slice Ao16 t281.length co16)) (fun _ hk => hk.2) (.string t284)) (fun _ hk => hk.1.2)⟩, ⟨by (with_reducible repeat (first | apply Kd.R_alloc | apply Kd.R_drewN | apply Kd.R_drew)); exact Kd.R_mono (Kd.R_far (p := ⟨gb287, 3, none⟩) (Kd.R_far (p := ⟨gb287, 2, none⟩) (Kd.R_far (p := ⟨gb287, 1, none⟩) (Kd.R_far (p := ⟨gb287, 0, none⟩) (Kd.R_types HO283.out BK287.out (by decide)) (fun _ hk => hk.2) (.int .i64 t279)) (fun _ hk => hk.2) (.int .i64 t280)) (fun _ hk => hk.2) (.slice Ao16 t281.length co16)) (fun _ hk => hk.2) (.string t284)) (fun _ hk => hk.1.2)⟩, ⟨by (with_reducible repeat (first|apply bn|apply bd|apply ba)); refine blk_far ?_ NB277_287.out _; (with_reducible repeat (first|apply bn|apply bd|apply ba)); refine blk_far ?_ NB277_287.out _; (with_reducible repeat (first|apply bn|apply bd|apply ba)); refine blk_far ?_ NB277_287.out _; (with_reducible repeat (first|apply bn|apply bd|apply ba)); refine blk_far ?_ NB277_287.out _; (with_reducible repeat (first|apply bn|apply bd|apply ba)); exact BK277.out⟩, ⟨by (with_reducible repeat (first|apply bn|apply bd|apply ba)); refine blk_put (cs := #[.int .i64 t279, .int .i64 t280, .slice Ao16 t281.length co16, .string (⟨#[]⟩ : ByteArray)]) ?_ 3 _ rfl; (with_reducible repeat (first|apply bn|apply bd|apply ba)); refine blk_put (cs := #[.int .i64 t279, .int .i64 t280, .slice none 0 0, .string (⟨#[]⟩ : ByteArray)]) ?_ 2 _ rfl; (with_reducible repeat (first|apply bn|apply bd|apply ba)); refine blk_put (cs := #[.int .i64 t279, .int .i64 0, .slice none 0 0, .string (⟨#[]⟩ : ByteArray)]) ?_ 1 _ rfl; (with_reducible repeat (first|apply bn|apply bd|apply ba)); refine blk_put (cs := #[.int .i64 0, .int .i64 0, .slice none 0 0, .string (⟨#[]⟩ : ByteArray)]) ?_ 0 _ rfl; (with_reducible repeat (first|apply bn|apply bd|apply ba)); exact BK287.out⟩, ⟨by repeat (first | (with_reducible first | exact HB.out | apply bl | apply pN | apply b1 | refine bs ?_ GE277.out | refine bs ?_ GE287.out) | exact HB.out | exact HBo.out)⟩⟩
      ·
       rw [if_neg c17] at H
       have c17b0 : (t286 == 0) = false := beq_eq_false_iff_ne.mpr c17
       have c17b1 : (t286 != 0) = true := bne_iff_ne.mpr c17
       (first | rw [c17b0] | (simp only [i64_w, i32_w]; rw [c17b0]) | skip)
       have H' := Am H
       clear H
       go_wp2
       go_meet
       case rel => exact ⟨_, (false), (by first | rfl | (simp; done) | (simp [*]; done)), H', ⟨by have := HK1.out; first | omega | exact Nat.le_refl _⟩, ⟨by (with_reducible repeat (first | apply Kd.S_alloc | apply Kd.S_drewN | apply Kd.S_drew)); exact Kd.S_mono (Kd.S_far (p := ⟨gb287, 3, none⟩) (Kd.S_far (p := ⟨gb287, 2, none⟩) (Kd.S_far (p := ⟨gb287, 1, none⟩) (Kd.S_far (p := ⟨gb287, 0, none⟩) (Kd.S_mono HO_6.out (fun k_ hk => (⟨hk, hk.2⟩ : _ ∧ k_ ≠ gb287))) (fun _ hk => hk.2) (.int .i64 t279)) (fun _ hk => hk.2) (.int .i64 t280)) (fun _ hk => hk.2) (.slice Ao16 t281.length co16)) (fun _ hk => hk.2) (.string t284)) (fun _ hk => ⟨hk.1.1.1, ⟨hk.1.1.2, hk.1.2⟩⟩)⟩, ⟨by (with_reducible repeat (first | apply Kd.R_alloc | apply Kd.R_drewN | apply Kd.R_drew)); exact Kd.R_mono (Kd.R_far (p := ⟨gb287, 3, none⟩) (Kd.R_far (p := ⟨gb287, 2, none⟩) (Kd.R_far (p := ⟨gb287, 1, none⟩) (Kd.R_far (p := ⟨gb287, 0, none⟩) (Kd.R_types HO_7.out BK287.out (by decide)) (fun _ hk => hk.2) (.int .i64 t279)) (fun _ hk => hk.2) (.int .i64 t280)) (fun _ hk => hk.2) (.slice Ao16 t281.length co16)) (fun _ hk => hk.2) (.string t284)) (fun _ hk => hk.1.2)⟩, ⟨by (with_reducible repeat (first | apply Kd.R_alloc | apply Kd.R_drewN | apply Kd.R_drew)); exact Kd.R_mono (Kd.R_far (p := ⟨gb287, 3, none⟩) (Kd.R_far (p := ⟨gb287, 2, none⟩) (Kd.R_far (p := ⟨gb287, 1, none⟩) (Kd.R_far (p := ⟨gb287, 0, none⟩) (Kd.R_types HO283.out BK287.out (by decide)) (fun _ hk => hk.2) (.int .i64 t279)) (fun _ hk => hk.2) (.int .i64 t280)) (fun _ hk => hk.2) (.slice Ao16 t281.length co16)) (fun _ hk => hk.2) (.string t284)) (fun _ hk => hk.1.2)⟩, ⟨by (with_reducible repeat (first|apply bn|apply bd|apply ba)); refine blk_far ?_ NB277_287.out _; (with_reducible repeat (first|apply bn|apply bd|apply ba)); refine blk_far ?_ NB277_287.out _; (with_reducible repeat (first|apply bn|apply bd|apply ba)); refine blk_far ?_ NB277_287.out _; (with_reducible repeat (first|apply bn|apply bd|apply ba)); refine blk_far ?_ NB277_287.out _; (with_reducible repeat (first|apply bn|apply bd|apply ba)); exact BK277.out⟩, ⟨by (with_reducible repeat (first|apply bn|apply bd|apply ba)); refine blk_put (cs := #[.int .i64 t279, .int .i64 t280, .slice Ao16 t281.length co16, .string (⟨#[]⟩ : ByteArray)]) ?_ 3 _ rfl; (with_reducible repeat (first|apply bn|apply bd|apply ba)); refine blk_put (cs := #[.int .i64 t279, .int .i64 t280, .slice none 0 0, .string (⟨#[]⟩ : ByteArray)]) ?_ 2 _ rfl; (with_reducible repeat (first|apply bn|apply bd|apply ba)); refine blk_put (cs := #[.int .i64 t279, .int .i64 0, .slice none 0 0, .string (⟨#[]⟩ : ByteArray)]) ?_ 1 _ rfl; (with_reducible repeat (first|apply bn|apply bd|apply ba)); refine blk_put (cs := #[.int .i64 0, .int .i64 0, .slice none 0 0, .string (⟨#[]⟩ : ByteArray)]) ?_ 0 _ rfl; (with_reducible repeat (first|apply bn|apply bd|apply ba)); exact BK287.out⟩, ⟨by repeat (first | (with_reducible first | exact HB.out | apply bl | apply pN | apply b1 | refine bs ?_ GE277.out | refine bs ?_ GE287.out) | exact HB.out | exact HBo.out)⟩⟩
     case rest =>
      clear HC10
      try clear c1
      try clear p2
      try clear c3
      try clear p6
      try clear c8
      try clear c8b0
      try clear c11
      try clear c13
      try clear c14
      try clear c17
      try clear c17b0
      try clear c17b1
      try clear c18
      try clear hcz11_0
      try clear hcz11_1
      try clear hcz11_2
      try clear hcz11_3
      try clear hcz15_0
      try clear hcz15_1
      try clear hcz15_2
      try clear hcz15_3
      try clear hcz19_0
      try clear hcz19_1
      try clear hcz19_2
      try clear hcz19_3
      try clear hcz5_0
      try clear hcz5_1
      try clear hcz5_2
      try clear hcz5_3
      try clear hcz7_0
      try clear hcz7_1
      try clear hcz7_2
      try clear hcz7_3
      try clear hfz11_0
      try clear hfz11_1
      try clear hfz11_2
      try clear hfz11_3
      try clear hfz15_0
      try clear hfz15_1
      try clear hfz15_2
      try clear hfz15_3
      try clear hfz19_0
      try clear hfz19_1
      try clear hfz19_2
      try clear hfz19_3
      try clear hfz5_0
      try clear hfz5_1
      try clear hfz5_2
      try clear hfz5_3
      try clear hfz7_0
      try clear hfz7_1
      try clear hfz7_2
      try clear hfz7_3
      try clear p2
      obtain ⟨kq, x39_9, rfl, HA, HJ9, HO_6, HO_7, HO_288002, BK277, BK287, HB⟩ := hcut
      cases kq with
      | zero => exact absurd HA.out (by simp [batch_Events.j1])
      | succ kj9 =>
       have H := HA.out
       clear HA
       simp only [batch_Events.j1] at H
       by_cases c20 : x39_9 = true
       ·
        subst c20
        rw [if_pos rfl] at H
        simp only [Option.some.injEq, Prod.mk.injEq] at H
        obtain ⟨rfl, rfl, rfl, rfl⟩ := H
        go_wp2
        refine bodyPost_ret (results_list (rs := [.tmp 2, .tmp 3, .tmp 4, .tmp 5]) rfl (by simp) (.tmp (.tmp (.tmp (.tmp .nil))))) rfl ?_
        exact ⟨_, _, by first | rfl | (simp <;> rfl) | (simp [*] <;> rfl) | (simp [Aid.ne_nil, Aid.eq_nil]; done), by first | exact Kd.S_nil _ _ _ _ _ | exact Kd.N_nil _ _ _ _ _ | exact Kd.V_nil _ _ _ _ _ | exact Kd.Q_nil _ _ _ _ _ | exact Kd.R_nil _ _ _ _ _, by first | exact Kd.R_nil _ _ _ _ _ | exact Kd.N_nil _ _ _ _ _ | exact Kd.V_nil _ _ _ _ _ | exact Kd.Q_nil _ _ _ _ _ | exact Kd.S_nil _ _ _ _ _, by repeat (first | (with_reducible first | exact HB.out | apply bl | apply pN | apply b1 | refine bs ?_ GE277.out | refine bs ?_ GE287.out) | exact HB.out | exact HBo.out)⟩
       ·
        replace c20 := Bool.eq_false_iff.mpr c20
        subst c20
        rw [if_neg (show ¬ (false = true) by decide)] at H
        by_cases c21 : t286 = 0
        ·
         rw [if_pos c21] at H
         have c21b0 : (t286 == 0) = true := beq_iff_eq.mpr c21
         have c21b1 : (t286 != 0) = false := bne_eq_false_iff_eq.mpr c21
         clear c21
         by_cases c22 : x6_1.length < 2513169434916
         ·
          rw [if_pos c22] at H
          have LMc22 := Am c22
          clear c22
          obtain ⟨y288, hy288⟩ : ∃ y_ : List (S41), y_ = (x6_1 ++ [(⟨t279, t280, t281, t284⟩ : S41)]) := ⟨_, rfl⟩
          replace H : (if x7_1.length < 17592186044416 then (batch_Events.l0 kj9 y288 (x7_1 ++ [wrap64 (x8_1 + t280)]) (wrap64 (x8_1 + t280)) t285 a0_0 a0_1 a0_2 a0_3) else (none)) = some (r1, r2, r3, r4) := by first | (rw [hy288]; with_reducible exact H) | (have H2_ := (Option.bind_some _ _).symm.trans H; rw [hy288]; with_reducible exact H2_) | (have H2_ := (Option.bind_some _ _).symm.trans H; with_reducible exact H2_) | with_reducible exact H | (rw [hy288]; exact H) | exact H
          have Ny288 := Am hy288
          clear hy288
          by_cases c23 : x7_1.length < 17592186044416
          ·
           rw [if_pos c23] at H
           have LMc23 := Am c23
           clear c23
           obtain ⟨y291, hy291⟩ : ∃ y_ : List Int, y_ = (x7_1 ++ [wrap64 (x8_1 + t280)]) := ⟨_, rfl⟩
           replace H : (batch_Events.l0 kj9 y288 y291 (wrap64 (x8_1 + t280)) t285 a0_0 a0_1 a0_2 a0_3) = some (r1, r2, r3, r4) := by first | (rw [hy291]; with_reducible exact H) | (have H2_ := (Option.bind_some _ _).symm.trans H; rw [hy291]; with_reducible exact H2_) | (have H2_ := (Option.bind_some _ _).symm.trans H; with_reducible exact H2_) | with_reducible exact H | (rw [hy291]; exact H) | exact H
           have Ny291 := Am hy291
           clear hy291
           have H' := Am H
           clear H
           have hnb24 := NB287_277.out
           have hnc24 := NB277_287.out
           have hcz25_0 := Own.bc2 BK287.out 0
           have hcz25_1 := Own.bc2 BK287.out 1
           have hcz25_2 := Own.bc2 BK287.out 2
           have hcz25_3 := Own.bc2 BK287.out 3
           have hfz25_0 := bf BK287.out 0
           have hfz25_1 := bf BK287.out 1
           have hfz25_2 := bf BK287.out 2
           have hfz25_3 := bf BK287.out 3
           go_wp2_with (first | ((with_reducible refine gate_builtin (b := .append) (xs := #[.tmp 48, .tmp 50]) rfl ?_); at_builtin; refine Kd.S_append k41 (w0 := w) w.heap.size rfl (.tmp 48) (.tmp 50) 28 41 (.agg #[(.int .i64 0), (.int .i64 0), (.slice none 0 0), (.string ⟨#[]⟩)]) 56 rfl Try.underlying28 info41 rfl (by decide) (by omega) u6 x6_1 (⟨t279, t280, t281, t284⟩ : S41) [.int .i64 t279, .int .i64 t280, .slice Ao16 t281.length co16, .string t284] (fun k_ => some k_ ≠ (u7 : Value).ownBlock ∧ k_ ≠ gb287) (fun k_ => some k_ = (.slice Ao16 t281.length co16 : Value).ownBlock) rfl rfl ?aP (fun k_ hk_ => ((Kd.R_mono (ok' := fun k_ => ((fun k_ => some k_ ≠ (u7 : Value).ownBlock ∧ k_ ≠ gb287)) k_ ∧ some k_ ≠ (u6 : Value).ownBlock) (Kd.R_types (Kd.R_apart' (HO_288002.out) (Kd.S_typed HO_6.out) (by decide)) BK287.out (by decide)) (fun k_ hk => ⟨⟨hk.1.1, hk.2⟩, hk.1.2⟩))).1 k_ hk_.symm) ?aF ?aO ?aB ?aS ?aL ?_; (case aP => exact k41_mkM _ _ _ (⟨t279, t280, t281, t284⟩ : S41) (Kd.R_mono (Kd.R_tight rfl (Kd.R_mono (ok' := fun k_ => ((fun k_ => some k_ ≠ (u7 : Value).ownBlock ∧ k_ ≠ gb287)) k_ ∧ some k_ ≠ (u6 : Value).ownBlock) (Kd.R_types (Kd.R_apart' (HO_288002.out) (Kd.S_typed HO_6.out) (by decide)) BK287.out (by decide)) (fun k_ hk => ⟨⟨hk.1.1, hk.2⟩, hk.1.2⟩))) (fun _ h_ => h_))); (case aB => exact (by repeat (first | (with_reducible first | exact HB.out | apply bl | apply pN | apply b1 | refine bs ?_ GE277.out | refine bs ?_ GE287.out) | exact HB.out | exact HBo.out))); (case aF => exact (fun k_ hk => ⟨Kd.fresh' (Kd.R_lt (by (with_reducible repeat (first | apply Kd.R_alloc | apply Kd.R_drewN | apply Kd.R_drew)); exact HO_7.out)) k_ hk, Kd.freshB (g := gb287) (o := .cells #[.int .i64 t279, .int .i64 t280, .slice Ao16 t281.length co16, .string t284] 41 (0, 0)) (by (with_reducible repeat (first|apply bn|apply bd|apply ba)); exact BK287.out) k_ hk⟩)); (case aO => exact (by (with_reducible repeat (first | apply Kd.S_alloc | apply Kd.S_drewN | apply Kd.S_drew)); exact Kd.S_mono HO_6.out (fun k_ hk => ⟨⟨hk.1, hk.2.2⟩, fun e_ => hk.2.1 e_⟩))); (case aS => exact (below_size (by repeat (first | (with_reducible first | exact HB.out | apply bl | apply pN | apply b1 | refine bs ?_ GE277.out | refine bs ?_ GE287.out) | exact HB.out | exact HBo.out)))); (case aL => have := LMc22.out; omega); intro v289 w26 ho hb hg hat; rw [← Ny288.out] at ho; have n0_ := Am (Kd.R_over' (by (with_reducible repeat (first | apply Kd.R_alloc | apply Kd.R_drewN | apply Kd.R_drew)); exact HO_7.out) (Kd.S_typed (by (with_reducible repeat (first | apply Kd.S_alloc | apply Kd.S_drewN | apply Kd.S_drew)); exact HO_6.out)) (by decide) hg); have n1_ := Am (blk_grown (g := gb277) (o := .cells #[.int .i64 a0_0, .int .i64 a0_1, .int .i64 a0_2, .string a0_3] 23 (0, 0)) (by (with_reducible repeat (first|apply bn|apply bd|apply ba)); exact BK277.out) hg (Kd.S_ne HO_6.out BK277.out (by decide))); have n2_ := Am (blk_grown (g := gb287) (o := .cells #[.int .i64 t279, .int .i64 t280, .slice Ao16 t281.length co16, .string t284] 41 (0, 0)) (by (with_reducible repeat (first|apply bn|apply bd|apply ba)); exact BK287.out) hg (Kd.S_away HO_6.out (fun _ hk => hk.2.2))); have n3_ := Am (hb); have n4_ := Am (ho); clear HO_7; clear BK277; clear BK287; clear HB; clear HO_6; clear HO_288002; have HO_7 := n0_; have BK277 := n1_; have BK287 := n2_; have HB := n3_; have HO290 := n4_; clear n0_ n1_ n2_ n3_ n4_; clear ho hb hg hat) | ((with_reducible refine gate_builtin (b := .append) (xs := #[.tmp 52, .tmp 54]) rfl ?_); at_builtin; refine Kd.R_append (Kd.int .i64) (w0 := w) w.heap.size rfl (.tmp 52) (.tmp 54) 29 3 (.int .i64 0) 8 rfl Try.underlying29 info3 rfl (by decide) (by omega) u7 x7_1 (wrap64 (x8_1 + t280)) [.int .i64 (wrap64 (x8_1 + t280))] (fun _ => True) (fun _ => False) rfl rfl ?aP (fun _ hk => hk.elim) ?aF ?aO ?aB ?aS ?aL ?_; (case aP => exact rfl); (case aB => exact (by repeat (first | (with_reducible first | exact HB.out | apply bl | apply pN | apply b1 | refine bs ?_ GE277.out | refine bs ?_ GE287.out) | exact HB.out | exact HBo.out))); (case aF => exact (fun _ _ => trivial)); (case aO => exact (by (with_reducible repeat (first | apply Kd.R_alloc | apply Kd.R_drewN | apply Kd.R_drew)); exact Kd.R_mono HO_7.out (fun _ hk => trivial))); (case aS => exact (below_size (by repeat (first | (with_reducible first | exact HB.out | apply bl | apply pN | apply b1 | refine bs ?_ GE277.out | refine bs ?_ GE287.out) | exact HB.out | exact HBo.out)))); (case aL => have := LMc23.out; omega); intro v292 w27 ho hb hg hat; rw [← Ny291.out] at ho; have n0_ := Am (blk_grown (g := gb277) (o := .cells #[.int .i64 a0_0, .int .i64 a0_1, .int .i64 a0_2, .string a0_3] 23 (0, 0)) (by (with_reducible repeat (first|apply bn|apply bd|apply ba)); exact BK277.out) hg (Kd.R_ne HO_7.out BK277.out (by decide))); have n1_ := Am (blk_grown (g := gb287) (o := .cells #[.int .i64 t279, .int .i64 t280, .slice Ao16 t281.length co16, .string t284] 41 (0, 0)) (by (with_reducible repeat (first|apply bn|apply bd|apply ba)); exact BK287.out) hg (Kd.R_ne HO_7.out BK287.out (by decide))); have n2_ := Am (Kd.S_after (ok := (fun k_ => k_ ≠ gb287)) (by (with_reducible repeat (first | apply Kd.S_alloc | apply Kd.S_drewN | apply Kd.S_drew)); exact Kd.S_mono HO290.out (fun _ hk => ⟨hk.2, hk.1⟩)) hg hat); have n3_ := Am (hb); have n4_ := Am (ho); clear BK277; clear BK287; clear HO290; clear HB; clear HO_7; have BK277 := n0_; have BK287 := n1_; have HO290 := n2_; have HB := n3_; have HO293 := n4_; clear n0_ n1_ n2_ n3_ n4_; clear ho hb hg hat))
           go_roundg kj9
           case measure => have := HK1.out; have := HJ9.out; omega
           case rel => exact ⟨(y288), (y291), (wrap64 (x8_1 + t280)), (t285), (by first | rfl | (simp; done) | (simp [*]; done)), (by first | rfl | (simp; done) | (simp [*]; done)), H', ⟨by have := HK1.out; have := HJ9.out; omega⟩, ⟨by (with_reducible repeat (first | apply Kd.S_alloc | apply Kd.S_drewN | apply Kd.S_drew)); exact Kd.S_mono HO290.out (fun _ hk => hk.2)⟩, ⟨by (with_reducible repeat (first | apply Kd.R_alloc | apply Kd.R_drewN | apply Kd.R_drew)); exact HO293.out⟩, ⟨by (with_reducible repeat (first|apply bn|apply bd|apply ba)); exact BK277.out⟩, ⟨by repeat (first | (with_reducible first | exact HB.out | apply bl | apply pN | apply b1 | refine bs ?_ GE277.out | refine bs ?_ GE287.out) | exact HB.out | exact HBo.out)⟩⟩
          ·
           rw [if_neg c23] at H
           exact absurd H (by simp)
         ·
          rw [if_neg c22] at H
          exact absurd H (by simp)
        ·
         rw [if_neg c21] at H
         have c21b0 : (t286 == 0) = false := beq_eq_false_iff_ne.mpr c21
         have c21b1 : (t286 != 0) = true := bne_iff_ne.mpr c21
         simp only [Option.some.injEq, Prod.mk.injEq] at H
         obtain ⟨rfl, rfl, rfl, rfl⟩ := H
         go_wp2
         refine bodyPost_ret (results_list (rs := [.tmp 2, .tmp 3, .tmp 4, .tmp 5]) rfl (by simp) (.tmp (.tmp (.tmp (.tmp .nil))))) rfl ?_
         exact ⟨_, _, by first | rfl | (simp <;> rfl) | (simp [*] <;> rfl) | (simp [Aid.ne_nil, Aid.eq_nil]; done), by first | exact Kd.S_nil _ _ _ _ _ | exact Kd.N_nil _ _ _ _ _ | exact Kd.V_nil _ _ _ _ _ | exact Kd.Q_nil _ _ _ _ _ | exact Kd.R_nil _ _ _ _ _, by first | exact Kd.R_nil _ _ _ _ _ | exact Kd.N_nil _ _ _ _ _ | exact Kd.V_nil _ _ _ _ _ | exact Kd.Q_nil _ _ _ _ _ | exact Kd.S_nil _ _ _ _ _, by repeat (first | (with_reducible first | exact HB.out | apply bl | apply pN | apply b1 | refine bs ?_ GE277.out | refine bs ?_ GE287.out) | exact HB.out | exact HBo.out)⟩
    ·
     rw [if_neg c8] at H
     have c8b0 : decide (x9_1 < (a0_3.size : Int)) = false := decide_eq_false c8
     clear c8
     simp only [Option.some.injEq, Prod.mk.injEq] at H
     obtain ⟨rfl, rfl, rfl, rfl⟩ := H
     have hcz28_0 := Own.bc2 BK277.out 0
     have hcz28_1 := Own.bc2 BK277.out 1
     have hcz28_2 := Own.bc2 BK277.out 2
     have hcz28_3 := Own.bc2 BK277.out 3
     have hfz28_0 := bf BK277.out 0
     have hfz28_1 := bf BK277.out 1
     have hfz28_2 := bf BK277.out 2
     have hfz28_3 := bf BK277.out 3
     go_wp2
     refine bodyPost_ret (results_list (rs := [.tmp 2, .tmp 3, .tmp 4, .tmp 5]) rfl (by simp) (.tmp (.tmp (.tmp (.tmp .nil))))) rfl ?_
     exact ⟨_, _, by first | rfl | (simp <;> rfl) | (simp [*] <;> rfl) | (simp [Aid.ne_nil, Aid.eq_nil]; done), by (with_reducible repeat (first | apply Kd.S_alloc | apply Kd.S_drewN | apply Kd.S_drew)); exact HO_6.out, by (with_reducible repeat (first | apply Kd.R_alloc | apply Kd.R_drewN | apply Kd.R_drew)); exact HO_7.out, by repeat (first | (with_reducible first | exact HB.out | apply bl | apply pN | apply b1 | refine bs ?_ GE277.out) | exact HB.out | exact HBo.out)⟩
 ·
  replace c3 := Bool.eq_false_iff.mpr c3
  subst c3
  rw [if_neg (show ¬ (false = true) by decide)] at H
  simp only [Option.some.injEq, Prod.mk.injEq] at H
  obtain ⟨rfl, rfl, rfl, rfl⟩ := H
  go_enter Try.func11, Try.ntmps11
  go_wp2_with (first | ((with_reducible refine gate_dst (N := 1) rfl ?_); refine box_event ?hg (N := 1) ?hd (cs := #[.int .i64 a0_0, .int .i64 a0_1, .int .i64 a0_2, .string a0_3]) (t := 23) ?hr ?_; (case hd => rfl); (case hg => rfl); (case hr => first | (go_simp; done) | (go_simp; rfl)); intro gb277 hg w29 hbox hb; have BK277 := Am (hbox); have GW277 := Am ((by rw [hg]; exact (below_size (by repeat (first | (with_reducible first | exact HB.out | apply bl | apply pN | apply b1) | exact HB.out | exact HBo.out))) : w.heap.size ≤ gb277)); have GE277 := GW277; replace HB := Am (below_step (by repeat (first | (with_reducible first | exact HB.out | apply bl | apply pN | apply b1) | exact HB.out | exact HBo.out)) hb); clear hb hbox hg; have hcz30_0 := Own.bc2 BK277.out 0; have hcz30_1 := Own.bc2 BK277.out 1; have hcz30_2 := Own.bc2 BK277.out 2; have hcz30_3 := Own.bc2 BK277.out 3; have hfz30_0 := bf BK277.out 0; have hfz30_1 := bf BK277.out 1; have hfz30_2 := bf BK277.out 2; have hfz30_3 := bf BK277.out 3) | ((with_reducible refine gate_callee (f := 13) rfl ?_); refine Own.gL_ (some 14) Try.func13 (#[.agg #[.int .i64 a0_0, .int .i64 a0_1, .int .i64 a0_2, .string a0_3]]) (h := ?_); (with_reducible refine (batch_May.calls a0_0 a0_1 a0_2 a0_3 false _ A2.out).mono ?_); rintro e w31 ⟨rfl, hb⟩; refine ⟨_, rfl, ?_⟩; replace BK277 := Am (blk_below (g := gb277) (o := .cells #[.int .i64 a0_0, .int .i64 a0_1, .int .i64 a0_2, .string a0_3] 23 (0, 0)) (by (with_reducible repeat (first|apply bn|apply bd|apply ba)); exact BK277.out) hb); replace HB := Am (below_step (by repeat (first | (with_reducible first | exact HB.out | apply bl | apply pN | apply b1 | refine bs ?_ GE277.out) | exact HB.out | exact HBo.out)) hb); clear hb))
  refine bodyPost_ret (results_list (rs := [.tmp 2, .tmp 3, .tmp 4, .tmp 5]) rfl (by simp) (.tmp (.tmp (.tmp (.tmp .nil))))) rfl ?_
  exact ⟨_, _, by first | rfl | (simp <;> rfl) | (simp [*] <;> rfl) | (simp [Aid.ne_nil, Aid.eq_nil]; done), by first | exact Kd.S_nil _ _ _ _ _ | exact Kd.N_nil _ _ _ _ _ | exact Kd.V_nil _ _ _ _ _ | exact Kd.Q_nil _ _ _ _ _ | exact Kd.R_nil _ _ _ _ _, by first | exact Kd.R_nil _ _ _ _ _ | exact Kd.N_nil _ _ _ _ _ | exact Kd.V_nil _ _ _ _ _ | exact Kd.Q_nil _ _ _ _ _ | exact Kd.S_nil _ _ _ _ _, by repeat (first | (with_reducible first | exact HB.out | apply bl | apply pN | apply b1 | refine bs ?_ GE277.out) | exact HB.out | exact HBo.out)⟩

/-! ### varint_Put: function 52 -/
mutual
def varint_Put.j0 : Nat → Int → Bool → Option (ByteArray)
 | 0, _, _ => none
 | k + 1, x0, x9 => if x9 = true then (some (⟨#[]⟩ : ByteArray)) else (varint_Put.l0 k x0 ([] : List Int))
def varint_Put.l0 : Nat → Int → List Int → Option (ByteArray)
 | 0, _, _ => none
 | k + 1, x0, x3 => if x0 ≥ 128 then (if x3.length < 140737488355328 then (varint_Put.l0 k (x0 / 128) (x3 ++ [(Go.bits .or .i64 (Go.bits .and .i64 x0 127) 128) % 256])) else (none)) else (if x3.length < 140737488355328 then (some (strOfNums (x3 ++ [(x0) % 256]))) else (none))
end
def varint_Put.f (k : Nat) (a0 : Int) : Option (ByteArray) := if a0 < 0 then (varint_Put.j0 k a0 true) else (varint_Put.j0 k a0 (decide (a0 ≥ 4611686018427387904)))
theorem varint_Put.mono_l : ∀ k, (∀ y0 y1, LeO (varint_Put.j0 k y0 y1) (varint_Put.j0 (k + 1) y0 y1)) ∧ (∀ y0 y1, LeO (varint_Put.l0 k y0 y1) (varint_Put.l0 (k + 1) y0 y1))
 | 0 => ⟨fun _ _ r h => by simp [varint_Put.j0] at h, fun _ _ r h => by simp [varint_Put.l0] at h⟩
 | k + 1 => by
  obtain ⟨ih0, ih1⟩ := varint_Put.mono_l k
  refine ⟨?_, ?_⟩
  ·
   intro y0 y1
   unfold varint_Put.j0
   repeat' first
   | (with_reducible exact ih0 _ _)
   | (with_reducible exact ih1 _ _)
   | (with_reducible exact LeO.refl _)
   | (with_reducible exact LeO.none _)
   | (with_reducible refine LeO.ite ?_ ?_)
   | (with_reducible refine LeO.bind ?_ (fun _ => ?_))
   | exact LeO.none _
   | refine LeO.ite ?_ ?_
   | refine LeO.bind ?_ (fun _ => ?_)
  ·
   intro y0 y1
   unfold varint_Put.l0
   repeat' first
   | (with_reducible exact ih0 _ _)
   | (with_reducible exact ih1 _ _)
   | (with_reducible exact LeO.refl _)
   | (with_reducible exact LeO.none _)
   | (with_reducible refine LeO.ite ?_ ?_)
   | (with_reducible refine LeO.bind ?_ (fun _ => ?_))
   | exact LeO.none _
   | refine LeO.ite ?_ ?_
   | refine LeO.bind ?_ (fun _ => ?_)
theorem varint_Put.mono : ∀ a0 k, LeO (varint_Put.f k a0) (varint_Put.f (k + 1) a0) := by
 intro a0 k
 obtain ⟨ih0, ih1⟩ := varint_Put.mono_l k
 unfold varint_Put.f
 repeat' first
   | (with_reducible exact ih0 _ _)
   | (with_reducible exact ih1 _ _)
   | (with_reducible exact LeO.refl _)
   | (with_reducible exact LeO.none _)
   | (with_reducible refine LeO.ite ?_ ?_)
   | (with_reducible refine LeO.bind ?_ (fun _ => ?_))
   | exact LeO.none _
   | refine LeO.ite ?_ ?_
   | refine LeO.bind ?_ (fun _ => ?_)
set_option maxHeartbeats 8000000 in
set_option maxRecDepth 100000 in
theorem varint_Put.calls (k : Nat) (a0 : Int) (r : ByteArray) (w : World) (h : varint_Put.f k a0 = some r) :
  Calls Try.prog 52 #[.int .i64 a0] w fun e w' => e = .returned (.string r) ∧ Below w.heap.size w w' := by
 have HB := Am (Below.refl w.heap.size w)
 have H : (if a0 < 0 then (varint_Put.j0 k a0 true) else (varint_Put.j0 k a0 (decide (a0 ≥ 4611686018427387904)))) = some r := h
 clear h
 have HC2 := Am H
 clear H
 go_enter Try.func52, Try.ntmps52
 go_upto_region 1 with (fail)
 go_cut [9] (fun v9 wc => ∃ (kq : Nat) (x9_1 : Bool), v9 = .bool x9_1 ∧ Aside0 (varint_Put.j0 kq a0 x9_1 = some r) ∧ Aside0 (kq ≤ k) ∧ Aside0 (Below w.heap.size w wc))
 case first =>
  have H := HC2.out
  clear HC2
  by_cases c3 : a0 < 0
  ·
   rw [if_pos c3] at H
   have c3b0 : decide (a0 < 0) = true := decide_eq_true c3
   clear c3
   (first | rw [c3b0] | (simp only [i64_w, i32_w]; rw [c3b0]) | skip)
   have H' := Am H
   clear H
   go_wp2
   go_meet
   case rel => exact ⟨_, (true), (by first | rfl | (simp; done) | (simp [*]; done)), H', ⟨by first | omega | exact Nat.le_refl _⟩, ⟨by repeat (first | (with_reducible first | exact HB.out | apply bl | apply pN | apply b1) | exact HB.out | exact HBo.out)⟩⟩
  ·
   rw [if_neg c3] at H
   have c3b0 : decide (a0 < 0) = false := decide_eq_false c3
   clear c3
   (first | rw [c3b0] | (simp only [i64_w, i32_w]; rw [c3b0]) | skip)
   have H' := Am H
   clear H
   go_wp2
   go_meet
   case rel => exact ⟨_, (decide (a0 ≥ 4611686018427387904)), (by first | rfl | (simp; done) | (simp [*]; done)), H', ⟨by first | omega | exact Nat.le_refl _⟩, ⟨by repeat (first | (with_reducible first | exact HB.out | apply bl | apply pN | apply b1) | exact HB.out | exact HBo.out)⟩⟩
 case rest =>
  clear HC2
  try clear p2
  try clear c3
  try clear c3b0
  obtain ⟨kq, x9_1, rfl, HA, HJ1, HB⟩ := hcut
  cases kq with
  | zero => exact absurd HA.out (by simp [varint_Put.j0])
  | succ kj1 =>
   have H := HA.out
   clear HA
   simp only [varint_Put.j0] at H
   by_cases c4 : x9_1 = true
   ·
    subst c4
    rw [if_pos rfl] at H
    obtain rfl := Option.some.inj H
    go_wp2
    go_ret
    exact ⟨by first | rfl | (simp <;> rfl) | (simp [*] <;> rfl) | (simp [Aid.ne_nil, Aid.eq_nil]; done), by repeat (first | (with_reducible first | exact HB.out | apply bl | apply pN | apply b1) | exact HB.out | exact HBo.out)⟩
   ·
    replace c4 := Bool.eq_false_iff.mpr c4
    subst c4
    rw [if_neg (show ¬ (false = true) by decide)] at H
    have H' := Am H
    clear H
    go_wp2
    go_loopg [0, 3] kj1 (fun kq v0 v3 w' => ∃ (x0_2 : Int) (x3_2 : List Int), v0 = .int .i64 x0_2 ∧ Aside0 (varint_Put.l0 kq x0_2 x3_2 = some r) ∧ Aside0 (kq ≤ kj1) ∧ Aside0 (Kd.R (Kd.int .u8) 5 w' w.heap.size (fun _ => True) v3 x3_2) ∧ Aside0 (Below w.heap.size w w'))
    case atStart => exact ⟨(a0), (([] : List Int)), (by first | rfl | (simp; done) | (simp [*]; done)), H', ⟨Nat.le_refl _⟩, ⟨by first | exact Kd.R_nil _ _ _ _ _ | exact Kd.N_nil _ _ _ _ _ | exact Kd.V_nil _ _ _ _ _ | exact Kd.Q_nil _ _ _ _ _ | exact Kd.S_nil _ _ _ _ _⟩, ⟨by repeat (first | (with_reducible first | exact HB.out | apply bl | apply pN | apply b1) | exact HB.out | exact HBo.out)⟩⟩
    case round =>
     clear H'
     try clear p2
     try clear c3
     try clear c3b0
     try clear c4
     try clear p2
     obtain ⟨x0_2, x3_2, rfl, HA, HK2, HO_3, HB⟩ := hrel
     cases gk with
     | zero => exact absurd HA.out (by simp [varint_Put.l0])
     | succ k2 =>
      have H := HA.out
      clear HA
      simp only [varint_Put.l0] at H
      by_cases c5 : x0_2 ≥ 128
      ·
       rw [if_pos c5] at H
       have c5b0 : decide (128 ≤ x0_2) = true := decide_eq_true c5
       clear c5
       by_cases c6 : x3_2.length < 140737488355328
       ·
        rw [if_pos c6] at H
        have LMc6 := Am c6
        clear c6
        obtain ⟨y294, hy294⟩ : ∃ y_ : List Int, y_ = (x3_2 ++ [(Go.bits .or .i64 (Go.bits .and .i64 x0_2 127) 128) % 256]) := ⟨_, rfl⟩
        replace H : (varint_Put.l0 k2 (x0_2 / 128) y294) = some r := by first | (rw [hy294]; with_reducible exact H) | (have H2_ := (Option.bind_some _ _).symm.trans H; rw [hy294]; with_reducible exact H2_) | (have H2_ := (Option.bind_some _ _).symm.trans H; with_reducible exact H2_) | with_reducible exact H | (rw [hy294]; exact H) | exact H
        have Ny294 := Am hy294
        clear hy294
        have H' := Am H
        clear H
        go_wp2_with (first | ((with_reducible refine gate_builtin (b := .append) (xs := #[.tmp 14, .tmp 19]) rfl ?_); at_builtin; refine Kd.R_append (Kd.int .u8) (w0 := w) w.heap.size rfl (.tmp 14) (.tmp 19) 76 5 (.int .u8 0) 1 rfl Try.underlying76 info5 rfl (by decide) (by omega) u3 x3_2 ((Go.bits .or .i64 (Go.bits .and .i64 x0_2 127) 128) % 256) [.int .u8 ((Go.bits .or .i64 (Go.bits .and .i64 x0_2 127) 128) % 256)] (fun _ => True) (fun _ => False) rfl rfl ?aP (fun _ hk => hk.elim) ?aF ?aO ?aB ?aS ?aL ?_; (case aP => exact rfl); (case aB => exact (by repeat (first | (with_reducible first | exact HB.out | apply bl | apply pN | apply b1) | exact HB.out | exact HBo.out))); (case aF => exact (fun _ _ => trivial)); (case aO => exact (by (with_reducible repeat (first | apply Kd.R_alloc | apply Kd.R_drewN | apply Kd.R_drew)); exact HO_3.out)); (case aS => exact (below_size (by repeat (first | (with_reducible first | exact HB.out | apply bl | apply pN | apply b1) | exact HB.out | exact HBo.out)))); (case aL => have := LMc6.out; omega); intro v295 w7 ho hb hg hat; rw [← Ny294.out] at ho; have n0_ := Am (hb); have n1_ := Am (ho); clear HB; clear HO_3; have HB := n0_; have HO296 := n1_; clear n0_ n1_; clear ho hb hg hat))
        go_roundg k2
        case measure => have := HJ1.out; have := HK2.out; omega
        case rel => exact ⟨(x0_2 / 128), (y294), (by first | rfl | (simp; done) | (simp [*]; done)), H', ⟨by have := HJ1.out; have := HK2.out; omega⟩, ⟨by (with_reducible repeat (first | apply Kd.R_alloc | apply Kd.R_drewN | apply Kd.R_drew)); exact HO296.out⟩, ⟨by repeat (first | (with_reducible first | exact HB.out | apply bl | apply pN | apply b1) | exact HB.out | exact HBo.out)⟩⟩
       ·
        rw [if_neg c6] at H
        exact absurd H (by simp)
      ·
       rw [if_neg c5] at H
       have c5b0 : decide (128 ≤ x0_2) = false := decide_eq_false c5
       clear c5
       by_cases c8 : x3_2.length < 140737488355328
       ·
        rw [if_pos c8] at H
        have LMc8 := Am c8
        clear c8
        obtain ⟨y297, hy297⟩ : ∃ y_ : List Int, y_ = (x3_2 ++ [(x0_2) % 256]) := ⟨_, rfl⟩
        replace H : (some (strOfNums y297)) = some r := by first | (rw [hy297]; with_reducible exact H) | (have H2_ := (Option.bind_some _ _).symm.trans H; rw [hy297]; with_reducible exact H2_) | (have H2_ := (Option.bind_some _ _).symm.trans H; with_reducible exact H2_) | with_reducible exact H | (rw [hy297]; exact H) | exact H
        have Ny297 := Am hy297
        clear hy297
        obtain rfl := Option.some.inj H
        go_wp2_with (first | ((with_reducible refine gate_builtin (b := .append) (xs := #[.tmp 21, .tmp 24]) rfl ?_); at_builtin; refine Kd.R_append (Kd.int .u8) (w0 := w) w.heap.size rfl (.tmp 21) (.tmp 24) 76 5 (.int .u8 0) 1 rfl Try.underlying76 info5 rfl (by decide) (by omega) u3 x3_2 ((x0_2) % 256) [.int .u8 ((x0_2) % 256)] (fun _ => True) (fun _ => False) rfl rfl ?aP (fun _ hk => hk.elim) ?aF ?aO ?aB ?aS ?aL ?_; (case aP => exact rfl); (case aB => exact (by repeat (first | (with_reducible first | exact HB.out | apply bl | apply pN | apply b1) | exact HB.out | exact HBo.out))); (case aF => exact (fun _ _ => trivial)); (case aO => exact (by (with_reducible repeat (first | apply Kd.R_alloc | apply Kd.R_drewN | apply Kd.R_drew)); exact HO_3.out)); (case aS => exact (below_size (by repeat (first | (with_reducible first | exact HB.out | apply bl | apply pN | apply b1) | exact HB.out | exact HBo.out)))); (case aL => have := LMc8.out; omega); intro v298 w9 ho hb hg hat; rw [← Ny297.out] at ho; have n0_ := Am (hb); have n1_ := Am (ho); clear HB; clear HO_3; have HB := n0_; have HO299 := n1_; clear n0_ n1_; clear ho hb hg hat; have hcv10 := own_string (P := Try.prog) Try.underlying76 Try.underlying5 Try.underlying9 (Kd.own_of_R HO299.out)))
        go_ret
        exact ⟨by first | rfl | (simp <;> rfl) | (simp [*] <;> rfl) | (simp [Aid.ne_nil, Aid.eq_nil]; done), by repeat (first | (with_reducible first | exact HB.out | apply bl | apply pN | apply b1) | exact HB.out | exact HBo.out)⟩
       ·
        rw [if_neg c8] at H
        exact absurd H (by simp)

-- NOT PRINTED: function 64 (abi_NoEscape)

-- NOT PRINTED: function 59 (strings_Builder_copyCheck)

-- NOT PRINTED: function 53 (strings_Builder_WriteString)

-- NOT PRINTED: function 54 (strings_Builder_String)

end Go.Proofs.Ytfcombimnmkoeaa.Q
