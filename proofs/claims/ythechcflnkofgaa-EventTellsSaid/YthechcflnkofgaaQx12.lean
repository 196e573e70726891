-- printed by a program of this session (NOTES: hprint); not the kit's print
-- minified
-- halved
import Derived.Test.YthechcflnkofgaaAl
import Derived.Test.YthechcflnkofgaaQx0
import Derived.Test.YthechcflnkofgaaQx8
import Derived.Test.YthechcflnkofgaaQx10
import Derived.Test.YthechcflnkofgaaQx11
namespace Go.Proofs.Ythechcflnkofgaa.Q
open Go.RowKit Go.Proofs.YthechcflnkofgaaW.PrintWords Go.Proofs.YthechcflnkofgaaW.PrintLast Go.Proofs.YthechcflnkofgaaW.PrintMore
attribute [local go_sem] max2_int min2_int max_two min_two max_three min_three max_four min_four   -- for this text's walks alone
set_option linter.unusedVariables false
set_option linter.unusedSimpArgs false

def q12_0 : Array Bool := let o := true; let z := false; #[z,z,z,z,z,z,z,z,z,z,z,z,z,z,z,z,z,z,z]
def q12_1 : Array Bool := let o := true; let z := false; #[o,z,z,z,z,z,z,z,z,z,z,z,z,z,z,z,z,z,z]
def q12_2 : Array Bool := let o := true; let z := false; #[o,o,z,z,z,z,z,z,z,z,z,z,z,z,z,z,z,z,z]
def q12_3 : Array Bool := let o := true; let z := false; #[o,o,o,z,z,z,z,z,z,z,z,z,z,z,z,z,z,z,z]
def q12_4 : Array Bool := let o := true; let z := false; #[o,o,o,o,z,z,z,z,z,z,z,z,z,z,z,z,z,z,z]
def q12_5 : Array Bool := let o := true; let z := false; #[o,o,o,o,o,z,z,z,z,z,z,z,z,z,z,z,z,z,z]
def q12_6 : Array Bool := let o := true; let z := false; #[o,o,o,o,o,z,z,o,z,z,z,z,z,z,z,z,z,z,z]
def q12_7 : Array Bool := let o := true; let z := false; #[o,o,o,o,o,o,z,o,z,z,z,z,z,z,z,z,z,z,z]
def q12_8 : Array Bool := let o := true; let z := false; #[o,o,o,o,o,o,o,o,z,z,z,z,z,z,z,z,z,z,z]
def q12_9 : Array Bool := let o := true; let z := false; #[o,o,o,o,o,o,o,o,o,z,z,z,z,z,z,z,z,z,z]
def q12_10 : Array Bool := let o := true; let z := false; #[o,o,o,o,o,o,o,o,o,o,z,z,z,z,z,z,z,z,z]
def q12_11 : Array Bool := let o := true; let z := false; #[o,o,o,o,o,o,o,o,o,o,o,z,z,z,z,z,z,z,z]
def q12_12 : Array Bool := let o := true; let z := false; #[o,o,o,o,o,o,o,o,o,o,o,o,z,z,z,z,z,z,z]
def q12_13 : Array Bool := let o := true; let z := false; #[o,o,o,o,o,o,o,o,o,o,o,o,o,z,z,z,z,z,z]
def q12_14 : Array Bool := let o := true; let z := false; #[o,o,o,o,o,o,o,o,o,o,o,o,o,o,z,z,z,z,z]
def q12_15 : Array Bool := let o := true; let z := false; #[o,o,o,o,o,o,o,o,o,o,o,o,o,o,o,z,z,z,z]
def q12_16 : Array Bool := let o := true; let z := false; #[o,o,o,o,o,o,o,o,o,o,o,o,o,o,o,o,z,z,z]
def q12_17 : Array Bool := let o := true; let z := false; #[o,o,o,o,o,o,o,o,o,o,o,o,o,o,o,o,o,z,z]
def q12_18 : Array Bool := let o := true; let z := false; #[o,o,o,o,o,o,o,o,o,o,o,o,o,o,o,o,o,o,z]
def q12_19 : Array Bool := let o := true; let z := false; #[o,o,o,o,o,o,o,o,o,o,o,o,o,o,o,o,o,o,o]
/-! ### shuttlecockref04_May: function 13 -/
def shuttlecockref04_May.l0 : Nat → Int → Int → Int → List Int → ByteArray → Option (Bool)
 | 0, _, _, _, _, _ => none
 | k + 1, x3, x335000, x335001, x335002, x335003 => if x3 < (x335002.length : Int) then (if 0 ≤ x3 then ((shuttlecockref04_Fits.f (rd x335002 x3)).bind fun t338 => (if t338 = true then (shuttlecockref04_May.l0 k (wrap64 (x3 + 1)) x335000 x335001 x335002 x335003) else (some false))) else (none)) else ((shuttlecockref03_Known.f x335000).bind fun t339 => (if t339 = true then ((shuttlecockref03_Args.f k x335000).bind fun t340 => (if (x335002.length : Int) = (t340.length : Int) then (some (x335003.toList == ([] : List UInt8))) else (some false))) else (some false)))
def shuttlecockref04_May.f (k : Nat) (a0_0 : Int) (a0_1 : Int) (l0_2 : List Int) (a0_3 : ByteArray) : Option (Bool) := (shuttlecockref04_Fits.f a0_1).bind fun t335 => (if t335 = true then ((shuttlecockref03_Exp.f a0_0).bind fun t336 => (if t336 = true then (some ((l0_2.length : Int) == 0)) else (shuttlecockref04_May.l0 k 0 a0_0 a0_1 l0_2 a0_3))) else (some false))
theorem shuttlecockref04_May.mono_l : ∀ k, (∀ y0 y1 y2 y3 y4, LeO (shuttlecockref04_May.l0 k y0 y1 y2 y3 y4) (shuttlecockref04_May.l0 (k + 1) y0 y1 y2 y3 y4))
 | 0 => fun _ _ _ _ _ r h => by simp [shuttlecockref04_May.l0] at h
 | k + 1 => by
  have ih0 := shuttlecockref04_May.mono_l k
  ·
   intro y0 y1 y2 y3 y4
   unfold shuttlecockref04_May.l0
   repeat' first
   | (with_reducible exact ih0 _ _ _ _ _)
   | (with_reducible exact shuttlecockref03_Args.mono _ _)
   | (with_reducible exact LeO.refl _)
   | (with_reducible exact LeO.none _)
   | (with_reducible refine LeO.ite ?_ ?_)
   | (with_reducible refine LeO.bind ?_ (fun _ => ?_))
   | exact ih0 _ _ _ _ _
   | exact shuttlecockref03_Args.mono _ _
   | exact LeO.none _
   | refine LeO.ite ?_ ?_
   | refine LeO.bind ?_ (fun _ => ?_)
theorem shuttlecockref04_May.mono : ∀ a0 a1 a2 a3 k, LeO (shuttlecockref04_May.f k a0 a1 a2 a3) (shuttlecockref04_May.f (k + 1) a0 a1 a2 a3) := by
 intro a0 a1 a2 a3 k
 have ih0 := shuttlecockref04_May.mono_l k
 unfold shuttlecockref04_May.f
 repeat' first
   | (with_reducible exact ih0 _ _ _ _ _)
   | (with_reducible exact shuttlecockref03_Args.mono _ _)
   | (with_reducible exact LeO.refl _)
   | (with_reducible exact LeO.none _)
   | (with_reducible refine LeO.ite ?_ ?_)
   | (with_reducible refine LeO.bind ?_ (fun _ => ?_))
   | exact ih0 _ _ _ _ _
   | exact shuttlecockref03_Args.mono _ _
   | exact LeO.none _
   | refine LeO.ite ?_ ?_
   | refine LeO.bind ?_ (fun _ => ?_)
def shuttlecockref04_May.T10 : Bool × List (List Nat × List Nat) := (true, [([], []), ([0], [0]), ([1], [1]), ([2, 2], [2]), ([3], [3]), ([4, 3], [3, 4]), ([5, 3], [3, 5]), ([3], [3]), ([7, 3], [3, 7]), ([8, 3, 3], [3, 8]), ([9, 3], [3, 9]), ([6, 10, 3], [3, 6, 10]), ([3, 11], [3, 11]), ([12, 9], [12]), ([13], [13]), ([14, 13], [13, 14]), ([15, 13], [13, 15]), ([13, 16], [13, 16]), ([17, 13, 0, 1, 2, 3, 4, 5, 6, 7, 8, 9, 10, 11, 12, 13, 14, 15, 16, 17], [17])])
def shuttlecockref04_May.B10 : List Nat := [0, 1, 3, 7, 15, 31, 63, 15, 143, 399, 911, 2047, 4095, 8191, 16383, 32767, 65535, 131071, 262143]
theorem shuttlecockref04_May.tab10 : rtab .any (opsOf Try.f13 10) = shuttlecockref04_May.T10 := by kernel_rfl
theorem shuttlecockref04_May.bits10 : waitsOk shuttlecockref04_May.T10.2 shuttlecockref04_May.B10 = true := by kernel_rfl
set_option maxHeartbeats 8000000 in
set_option maxRecDepth 100000 in
theorem shuttlecockref04_May.calls (k : Nat) (a0_0 : Int) (a0_1 : Int) (A0_2 : Option Addr) (c0_2 : Nat) (l0_2 : List Int) (a0_3 : ByteArray) (r : Bool) (w : World) (hr0_2 : Kd.C (Kd.int .i64) w A0_2 l0_2.length l0_2) (hc0_2 : l0_2.length ≤ c0_2) (h : shuttlecockref04_May.f k a0_0 a0_1 l0_2 a0_3 = some r) :
  Calls Try.prog 13 #[.agg #[.int .i64 a0_0, .int .i64 a0_1, .slice A0_2 l0_2.length c0_2, .string a0_3]] w fun e w' => e = .returned (.bool r) ∧ Below w.heap.size w w' := by
 have hu24 := Try.underlying24
 have HR0_2 := Am hr0_2
 have HC0_2 := Am hc0_2
 clear hr0_2 hc0_2
 have HB := Am (Below.refl w.heap.size w)
 have H : ((shuttlecockref04_Fits.f a0_1).bind fun t335 => (if t335 = true then ((shuttlecockref03_Exp.f a0_0).bind fun t336 => (if t336 = true then (some ((l0_2.length : Int) == 0)) else (shuttlecockref04_May.l0 k 0 a0_0 a0_1 l0_2 a0_3))) else (some false))) = some r := h
 clear h
 replace H := ob H
 obtain ⟨t335, A20, H⟩ := H
 replace H : (if t335 = true then ((shuttlecockref03_Exp.f a0_0).bind fun t336 => (if t336 = true then (some ((l0_2.length : Int) == 0)) else (shuttlecockref04_May.l0 k 0 a0_0 a0_1 l0_2 a0_3))) else (some false)) = some r := H
 have A2 := Am A20
 clear A20
 by_cases c3 : t335 = true
 ·
  subst c3
  have H1 : ((shuttlecockref03_Exp.f a0_0).bind fun t336 => (if t336 = true then (some ((l0_2.length : Int) == 0)) else (shuttlecockref04_May.l0 k 0 a0_0 a0_1 l0_2 a0_3))) = some r := by rw [if_pos rfl] at H; exact H
  clear H
  have H := H1
  clear H1
  replace H := ob H
  obtain ⟨t336, A40, H⟩ := H
  replace H : (if t336 = true then (some ((l0_2.length : Int) == 0)) else (shuttlecockref04_May.l0 k 0 a0_0 a0_1 l0_2 a0_3)) = some r := H
  have A4 := Am A40
  clear A40
  by_cases c5 : t336 = true
  ·
   subst c5
   have H1 : (some ((l0_2.length : Int) == 0)) = some r := by rw [if_pos rfl] at H; exact H
   clear H
   have H := H1
   clear H1
   obtain rfl := Option.some.inj H
   go_enter Try.func13, Try.ntmps13
   go_wp2_with (first | ((with_reducible refine gate_dst (N := 1) rfl ?_); (try (refine gate_guard (by rfl) ?_; dsimp only)); refine box_event ?hg (N := 1) ?hd (cs := #[.int .i64 a0_0, .int .i64 a0_1, .slice A0_2 l0_2.length c0_2, .string a0_3]) (t := 24) ?hr ?_; (case hd => rfl); (case hg => rfl); (case hr => first | (go_simp; done) | (go_simp; rfl)); intro gb334 hg w6 hbox hb; have n0_ := Am (below_step (by repeat (first | (with_reducible first | exact HB.out | apply bl | apply pN | apply b1) | exact HB.out | exact HBo.out)) hb); have n1_ := Am (hbox); have n2_ := Am ((by rw [hg]; exact (below_size (by repeat (first | (with_reducible first | exact HB.out | apply bl | apply pN | apply b1) | exact HB.out | exact HBo.out))) : w.heap.size ≤ gb334)); have n3_ := Am ((by rw [hg]; exact (below_size (by repeat (first | (with_reducible first | exact HB.out | apply bl | apply pN | apply b1) | exact HB.out | exact HBo.out))) : w.heap.size ≤ gb334)); clear HB; have HB := n0_; have BK334 := n1_; have GW334 := n2_; have GE334 := n3_; clear n0_ n1_ n2_ n3_; clear hb hbox hg; have hcz7_0 : w6.cell? ⟨gb334, 0, none⟩ = some (.int .i64 a0_0) := (bc BK334.out 0).trans rfl; have hcz7_1 : w6.cell? ⟨gb334, 1, none⟩ = some (.int .i64 a0_1) := (bc BK334.out 1).trans rfl; have hcz7_2 : w6.cell? ⟨gb334, 2, none⟩ = some (.slice A0_2 l0_2.length c0_2) := (bc BK334.out 2).trans rfl; have hcz7_3 : w6.cell? ⟨gb334, 3, none⟩ = some (.string a0_3) := (bc BK334.out 3).trans rfl; have hfz7_0 := bf BK334.out 0; have hfz7_1 := bf BK334.out 1; have hfz7_2 := bf BK334.out 2; have hfz7_3 := bf BK334.out 3) | ((with_reducible refine gate_callee (f := 32) rfl ?_); refine goesL_ (some 6) rfl rfl Try.func32 (by kernel_rfl) rfl #[.int .i64 a0_1] rfl (by (try simp only [List.map_toArray, List.map_cons, List.map_nil]); first | done | rfl | (simp only [List.length_drop, List.length_take]; rfl)) ?_; (with_reducible refine (shuttlecockref04_Fits.calls a0_1 true _ A2.out).mono ?_); rintro e w' ⟨rfl, ⟨nd, rfl⟩⟩; refine ⟨_, rfl, ?_⟩) | ((with_reducible refine gate_callee (f := 23) rfl ?_); refine goesL_ (some 10) rfl rfl Try.func23 (by kernel_rfl) rfl #[.int .i64 a0_0] rfl (by (try simp only [List.map_toArray, List.map_cons, List.map_nil]); first | done | rfl | (simp only [List.length_drop, List.length_take]; rfl)) ?_; (with_reducible refine (shuttlecockref03_Exp.calls a0_0 true _ A4.out).mono ?_); rintro e w' ⟨rfl, ⟨nd, rfl⟩⟩; refine ⟨_, rfl, ?_⟩))
   go_ret
   exact ⟨by first | rfl | (simp [errW_none, errW_some] <;> rfl) | (simp [*, errW_none, errW_some] <;> rfl) | (simp [Aid.ne_nil, Aid.eq_nil, errW_none, errW_some]; done), by repeat (first | (with_reducible first | exact HB.out | apply bl | apply pN | apply b1 | refine bs ?_ GE334.out) | exact HB.out | exact HBo.out)⟩
  ·
   replace c5 := Bool.eq_false_iff.mpr c5
   subst c5
   have H1 : (shuttlecockref04_May.l0 k 0 a0_0 a0_1 l0_2 a0_3) = some r := by rw [if_neg (show ¬ (false = true) by decide)] at H; exact H
   clear H
   have H := H1
   clear H1
   have H' := Am H
   clear H
   go_enter Try.func13, Try.ntmps13
   go_wp2_with (first | ((with_reducible refine gate_dst (N := 1) rfl ?_); (try (refine gate_guard (by rfl) ?_; dsimp only)); refine box_event ?hg (N := 1) ?hd (cs := #[.int .i64 a0_0, .int .i64 a0_1, .slice A0_2 l0_2.length c0_2, .string a0_3]) (t := 24) ?hr ?_; (case hd => rfl); (case hg => rfl); (case hr => first | (go_simp; done) | (go_simp; rfl)); intro gb334 hg w8 hbox hb; have n0_ := Am (below_step (by repeat (first | (with_reducible first | exact HB.out | apply bl | apply pN | apply b1) | exact HB.out | exact HBo.out)) hb); have n1_ := Am (hbox); have n2_ := Am ((by rw [hg]; exact (below_size (by repeat (first | (with_reducible first | exact HB.out | apply bl | apply pN | apply b1) | exact HB.out | exact HBo.out))) : w.heap.size ≤ gb334)); have n3_ := Am ((by rw [hg]; exact (below_size (by repeat (first | (with_reducible first | exact HB.out | apply bl | apply pN | apply b1) | exact HB.out | exact HBo.out))) : w.heap.size ≤ gb334)); clear HB; have HB := n0_; have BK334 := n1_; have GW334 := n2_; have GE334 := n3_; clear n0_ n1_ n2_ n3_; clear hb hbox hg; have hcz9_0 : w8.cell? ⟨gb334, 0, none⟩ = some (.int .i64 a0_0) := (bc BK334.out 0).trans rfl; have hcz9_1 : w8.cell? ⟨gb334, 1, none⟩ = some (.int .i64 a0_1) := (bc BK334.out 1).trans rfl; have hcz9_2 : w8.cell? ⟨gb334, 2, none⟩ = some (.slice A0_2 l0_2.length c0_2) := (bc BK334.out 2).trans rfl; have hcz9_3 : w8.cell? ⟨gb334, 3, none⟩ = some (.string a0_3) := (bc BK334.out 3).trans rfl; have hfz9_0 := bf BK334.out 0; have hfz9_1 := bf BK334.out 1; have hfz9_2 := bf BK334.out 2; have hfz9_3 := bf BK334.out 3) | ((with_reducible refine gate_callee (f := 32) rfl ?_); refine goesL_ (some 6) rfl rfl Try.func32 (by kernel_rfl) rfl #[.int .i64 a0_1] rfl (by (try simp only [List.map_toArray, List.map_cons, List.map_nil]); first | done | rfl | (simp only [List.length_drop, List.length_take]; rfl)) ?_; (with_reducible refine (shuttlecockref04_Fits.calls a0_1 true _ A2.out).mono ?_); rintro e w' ⟨rfl, ⟨nd, rfl⟩⟩; refine ⟨_, rfl, ?_⟩) | ((with_reducible refine gate_callee (f := 23) rfl ?_); refine goesL_ (some 10) rfl rfl Try.func23 (by kernel_rfl) rfl #[.int .i64 a0_0] rfl (by (try simp only [List.map_toArray, List.map_cons, List.map_nil]); first | done | rfl | (simp only [List.length_drop, List.length_take]; rfl)) ?_; (with_reducible refine (shuttlecockref03_Exp.calls a0_0 false _ A4.out).mono ?_); rintro e w' ⟨rfl, ⟨nd, rfl⟩⟩; refine ⟨_, rfl, ?_⟩))
   go_loopg [3] k (fun kq v3 w' => ∃ (x3_1 : Int), v3 = .int .i64 x3_1 ∧ Aside0 (shuttlecockref04_May.l0 kq x3_1 a0_0 a0_1 l0_2 a0_3 = some r) ∧ Aside0 (kq ≤ k) ∧ Aside0 (w'.heap[gb334]? = some (.cells #[.int .i64 a0_0, .int .i64 a0_1, (.slice A0_2 l0_2.length c0_2), .string a0_3] 24 (0, 0))) ∧ Aside0 (Below w.heap.size w w'))
   case atStart => exact ⟨(0), (by first | rfl | (simp; done) | (simp [*]; done)), H', ⟨Nat.le_refl _⟩, ⟨by (with_reducible repeat (first | refine bn ?_ _ | refine bd ?_ | refine ba ?_ _)); exact BK334.out⟩, ⟨by repeat (first | (with_reducible first | exact HB.out | apply bl | apply pN | apply b1 | refine bs ?_ GE334.out) | exact HB.out | exact HBo.out)⟩⟩
   case round =>
    clear H'
    try clear c1
    try clear c2
    try clear p2
    try clear c3
    try clear c5
    try clear hcz7_0
    try clear hcz7_1
    try clear hcz7_2
    try clear hcz7_3
    try clear hcz9_0
    try clear hcz9_1
    try clear hcz9_2
    try clear hcz9_3
    try clear hfz7_0
    try clear hfz7_1
    try clear hfz7_2
    try clear hfz7_3
    try clear hfz9_0
    try clear hfz9_1
    try clear hfz9_2
    try clear hfz9_3
    obtain ⟨x3_1, rfl, HA, HK1, BK334, HB⟩ := hrel
    cases gk with
    | zero => exact absurd HA.out (by simp [shuttlecockref04_May.l0])
    | succ k1 =>
     have H := HA.out
     clear HA
     simp only [shuttlecockref04_May.l0] at H
     by_cases c10 : x3_1 < (l0_2.length : Int)
     ·
      rw [if_pos c10] at H
      have c10b0 : decide (x3_1 < (l0_2.length : Int)) = true := decide_eq_true c10
      clear c10
      by_cases c11 : 0 ≤ x3_1
      ·
       rw [if_pos c11] at H
       have c11b0 : decide (0 ≤ x3_1) = true := decide_eq_true c11
       clear c11
       replace H := ob H
       obtain ⟨t338, A120, H⟩ := H
       replace H : (if t338 = true then (shuttlecockref04_May.l0 k1 (wrap64 (x3_1 + 1)) a0_0 a0_1 l0_2 a0_3) else (some false)) = some r := H
       have A12 := Am A120
       clear A120
       by_cases c13 : t338 = true
       ·
        subst c13
        have H1 : (shuttlecockref04_May.l0 k1 (wrap64 (x3_1 + 1)) a0_0 a0_1 l0_2 a0_3) = some r := by rw [if_pos rfl] at H; exact H
        clear H
        have H := H1
        clear H1
        have H' := Am H
        clear H
        have hcz14_0 : wr.cell? ⟨gb334, 0, none⟩ = some (.int .i64 a0_0) := (bc BK334.out 0).trans rfl
        have hcz14_1 : wr.cell? ⟨gb334, 1, none⟩ = some (.int .i64 a0_1) := (bc BK334.out 1).trans rfl
        have hcz14_2 : wr.cell? ⟨gb334, 2, none⟩ = some (.slice A0_2 l0_2.length c0_2) := (bc BK334.out 2).trans rfl
        have hcz14_3 : wr.cell? ⟨gb334, 3, none⟩ = some (.string a0_3) := (bc BK334.out 3).trans rfl
        have hfz14_0 := bf BK334.out 0
        have hfz14_1 := bf BK334.out 1
        have hfz14_2 := bf BK334.out 2
        have hfz14_3 := bf BK334.out 3
        have p337 : 0 ≤ (x3_1 : Int) := of_decide_eq_true (by first | (with_reducible assumption) | assumption)
        have q337 : x3_1 < (l0_2.length : Int) := of_decide_eq_true (by first | (with_reducible assumption) | assumption)
        obtain ⟨ad337, e337, hx337_0⟩ := Kd.at_int HR0_2.out x3_1 p337 q337
        cases e337
        replace hx337_0 := (HB.out.cell (World.block_lt_of_cell? w _ hx337_0)).trans hx337_0
        replace p337 := eq_true p337
        replace q337 := eq_true q337
        go_wp2_with (first | ((with_reducible refine gate_callee (f := 32) rfl ?_); refine goesL_ (some 27) rfl rfl Try.func32 (by kernel_rfl) rfl #[.int .i64 (rd l0_2 x3_1)] rfl (by (try simp only [List.map_toArray, List.map_cons, List.map_nil]); first | done | rfl | (simp only [List.length_drop, List.length_take]; rfl)) ?_; (with_reducible refine (shuttlecockref04_Fits.calls (rd l0_2 x3_1) true _ A12.out).mono ?_); rintro e w' ⟨rfl, ⟨nd, rfl⟩⟩; refine ⟨_, rfl, ?_⟩))
        go_roundg k1
        case measure => have := HK1.out; omega
        case rel => exact ⟨(wrap64 (x3_1 + 1)), (by first | rfl | (simp; done) | (simp [*]; done)), H', ⟨by have := HK1.out; omega⟩, ⟨by (with_reducible repeat (first | refine bn ?_ _ | refine bd ?_ | refine ba ?_ _)); exact BK334.out⟩, ⟨by repeat (first | (with_reducible first | exact HB.out | apply bl | apply pN | apply b1 | refine bs ?_ GE334.out) | exact HB.out | exact HBo.out)⟩⟩
       ·
        replace c13 := Bool.eq_false_iff.mpr c13
        subst c13
        have H1 : (some false) = some r := by rw [if_neg (show ¬ (false = true) by decide)] at H; exact H
        clear H
        have H := H1
        clear H1
        obtain rfl := Option.some.inj H
        have hcz15_0 : wr.cell? ⟨gb334, 0, none⟩ = some (.int .i64 a0_0) := (bc BK334.out 0).trans rfl
        have hcz15_1 : wr.cell? ⟨gb334, 1, none⟩ = some (.int .i64 a0_1) := (bc BK334.out 1).trans rfl
        have hcz15_2 : wr.cell? ⟨gb334, 2, none⟩ = some (.slice A0_2 l0_2.length c0_2) := (bc BK334.out 2).trans rfl
        have hcz15_3 : wr.cell? ⟨gb334, 3, none⟩ = some (.string a0_3) := (bc BK334.out 3).trans rfl
        have hfz15_0 := bf BK334.out 0
        have hfz15_1 := bf BK334.out 1
        have hfz15_2 := bf BK334.out 2
        have hfz15_3 := bf BK334.out 3
        have p337 : 0 ≤ (x3_1 : Int) := of_decide_eq_true (by first | (with_reducible assumption) | assumption)
        have q337 : x3_1 < (l0_2.length : Int) := of_decide_eq_true (by first | (with_reducible assumption) | assumption)
        obtain ⟨ad337, e337, hx337_0⟩ := Kd.at_int HR0_2.out x3_1 p337 q337
        cases e337
        replace hx337_0 := (HB.out.cell (World.block_lt_of_cell? w _ hx337_0)).trans hx337_0
        replace p337 := eq_true p337
        replace q337 := eq_true q337
        go_wp2_with (first | ((with_reducible refine gate_callee (f := 32) rfl ?_); refine goesL_ (some 27) rfl rfl Try.func32 (by kernel_rfl) rfl #[.int .i64 (rd l0_2 x3_1)] rfl (by (try simp only [List.map_toArray, List.map_cons, List.map_nil]); first | done | rfl | (simp only [List.length_drop, List.length_take]; rfl)) ?_; (with_reducible refine (shuttlecockref04_Fits.calls (rd l0_2 x3_1) false _ A12.out).mono ?_); rintro e w' ⟨rfl, ⟨nd, rfl⟩⟩; refine ⟨_, rfl, ?_⟩))
        go_ret
        exact ⟨by first | rfl | (simp [errW_none, errW_some] <;> rfl) | (simp [*, errW_none, errW_some] <;> rfl) | (simp [Aid.ne_nil, Aid.eq_nil, errW_none, errW_some]; done), by repeat (first | (with_reducible first | exact HB.out | apply bl | apply pN | apply b1 | refine bs ?_ GE334.out) | exact HB.out | exact HBo.out)⟩
      ·
       rw [if_neg c11] at H
       exact absurd H (by simp)
     ·
      rw [if_neg c10] at H
      have c10b0 : decide (x3_1 < (l0_2.length : Int)) = false := decide_eq_false c10
      clear c10
      replace H := ob H
      obtain ⟨t339, A160, H⟩ := H
      replace H : (if t339 = true then ((shuttlecockref03_Args.f k1 a0_0).bind fun t340 => (if (l0_2.length : Int) = (t340.length : Int) then (some (a0_3.toList == ([] : List UInt8))) else (some false))) else (some false)) = some r := H
      have A16 := Am A160
      clear A160
      by_cases c17 : t339 = true
      ·
       subst c17
       have H1 : ((shuttlecockref03_Args.f k1 a0_0).bind fun t340 => (if (l0_2.length : Int) = (t340.length : Int) then (some (a0_3.toList == ([] : List UInt8))) else (some false))) = some r := by rw [if_pos rfl] at H; exact H
       clear H
       have H := H1
       clear H1
       replace H := ob H
       obtain ⟨t340, A180, H⟩ := H
       replace H : (if (l0_2.length : Int) = (t340.length : Int) then (some (a0_3.toList == ([] : List UInt8))) else (some false)) = some r := H
       have A18 := Am A180
       clear A180
       by_cases c19 : (l0_2.length : Int) = (t340.length : Int)
       ·
        rw [if_pos c19] at H
        have c19b0 : ((l0_2.length : Int) == (t340.length : Int)) = true := beq_iff_eq.mpr c19
        have c19b1 : ((l0_2.length : Int) != (t340.length : Int)) = false := bne_eq_false_iff_eq.mpr c19
        have c19b2 : (l0_2.length == t340.length) = true := by first | simpa using c19 | (simp at c19 ⊢; omega)
        clear c19
        obtain rfl := Option.some.inj H
        have hcz20_0 : wr.cell? ⟨gb334, 0, none⟩ = some (.int .i64 a0_0) := (bc BK334.out 0).trans rfl
        have hcz20_1 : wr.cell? ⟨gb334, 1, none⟩ = some (.int .i64 a0_1) := (bc BK334.out 1).trans rfl
        have hcz20_2 : wr.cell? ⟨gb334, 2, none⟩ = some (.slice A0_2 l0_2.length c0_2) := (bc BK334.out 2).trans rfl
        have hcz20_3 : wr.cell? ⟨gb334, 3, none⟩ = some (.string a0_3) := (bc BK334.out 3).trans rfl
        have hfz20_0 := bf BK334.out 0
        have hfz20_1 := bf BK334.out 1
        have hfz20_2 := bf BK334.out 2
        have hfz20_3 := bf BK334.out 3
        try go_wp2
        have n0_ := Am (bd BK334.out)
        have n1_ := Am (b1 HB.out)
        clear BK334
        clear HB
        have BK334 := n0_
        have HB := n1_
        clear n0_ n1_
        refine start_ (n := 19) (S := fun w' => w'.cell? ⟨gb334, 0, none⟩ = some (.int .i64 a0_0) ∧ w'.cell? ⟨gb334, 1, none⟩ = some (.int .i64 a0_1) ∧ w'.cell? ⟨gb334, 2, none⟩ = some (.slice A0_2 l0_2.length c0_2) ∧ w'.cell? ⟨gb334, 3, none⟩ = some (.string a0_3)) (ds := []) q12_0 (by kernel_rfl) rfl rfl ⟨(bc BK334.out 0).trans rfl, (bc BK334.out 1).trans rfl, (bc BK334.out 2).trans rfl, (bc BK334.out 3).trans rfl⟩ (fun hHeld => ?_); refine with_tabW shuttlecockref04_May.tab10 shuttlecockref04_May.bits10 (fun HT_ HW_ => ?_)
        generalize wr.drew = w21 at BK334 HB hHeld ⊢
        refine Own.pr_ 0 (some 29) q12_1 HT_ (h := ?_)
        refine Own.tk_ 1 (some 30) q12_2 HT_ HW_ hHeld (hy := by rintro w' ⟨s0, s1, s2, s3⟩; go_simp; with_reducible rfl) (h := ?_)
        refine one_ (i := 2) (N := some 31) q12_3 rfl rfl (one_of HT_.out (by kernel_rfl)) (by decide) (fun K hK => ?_)
        refine goes_ Try.func22 (by kernel_rfl) rfl #[.int .i64 a0_0] (by rfl) rfl rfl (by (try simp only [List.map_toArray, List.map_cons, List.map_nil]); first | done | rfl | (simp only [List.length_drop, List.length_take]; rfl)) ?_
        with_reducible refine (shuttlecockref03_Known.calls a0_0 true _ A16.out).mono ?_
        rintro e w' ⟨rfl, ⟨nd, rfl⟩⟩
        refine ⟨_, rfl, ?_⟩
        refine hK.out _ _ ⟨(bc BK334.out 0).trans rfl, (bc BK334.out 1).trans rfl, (bc BK334.out 2).trans rfl, (bc BK334.out 3).trans rfl⟩ (fun hHeld => ?_)
        clear hK K
        refine norm_ (a' := ?_) ?_ ?_
        rotate_left
        ·
         show Act.put _ (some 31) _ = _
         simp only [Act.put, sI, sZ, sS, i64_w, i32_w]
         rfl
        refine Own.pr_ 3 (some 32) q12_4 HT_ (h := ?_)
        refine Own.pr_ 4 (some 33) q12_5 HT_ (h := ?_)
        refine Own.pr_ 7 (some 36) q12_6 HT_ (h := ?_)
        refine Own.tk_ 5 (some 34) q12_7 HT_ HW_ hHeld (hy := by rintro w' ⟨s0, s1, s2, s3⟩; go_simp; with_reducible rfl) (h := ?_)
        refine Own.pr_ 6 (some 35) q12_8 HT_ (h := ?_)
        refine Own.tk_ 8 (some 37) q12_9 HT_ HW_ hHeld (hy := by rintro w' ⟨s0, s1, s2, s3⟩; go_simp; with_reducible rfl) (h := ?_)
        refine one_ (i := 9) (N := some 38) q12_10 rfl rfl (one_of HT_.out (by kernel_rfl)) (by decide) (fun K hK => ?_)
        refine goes_ Try.func25 (by kernel_rfl) rfl #[.int .i64 a0_0] (by rfl) rfl rfl (by (try simp only [List.map_toArray, List.map_cons, List.map_nil]); first | done | rfl | (simp only [List.length_drop, List.length_take]; rfl)) ?_
        with_reducible refine (shuttlecockref03_Args.calls k1 a0_0 t340 _ A18.out).mono ?_
        rintro e w22 ⟨v341, rfl, ho0, hb⟩
        refine ⟨_, rfl, ?_⟩
        have n0_ := Am (Kd.R_lower ho0 (below_size (by repeat (first | (with_reducible first | exact HB.out | apply bl | apply pN | apply b1 | refine bs ?_ GE334.out) | exact HB.out | exact HBo.out))))
        have n1_ := Am (blk_below (g := gb334) (o := .cells #[.int .i64 a0_0, .int .i64 a0_1, .slice A0_2 l0_2.length c0_2, .string a0_3] 24 (0, 0)) (by (with_reducible repeat (first | refine bn ?_ _ | refine bd ?_ | refine ba ?_ _)); exact BK334.out) hb)
        have n2_ := Am (below_step (by repeat (first | (with_reducible first | exact HB.out | apply bl | apply pN | apply b1 | refine bs ?_ GE334.out) | exact HB.out | exact HBo.out)) hb)
        clear BK334
        clear HB
        have HO342 := n0_
        have BK334 := n1_
        have HB := n2_
        clear n0_ n1_ n2_
        (try clear hb)
        (try clear hb2)
        (try clear hk)
        (try clear hi)
        (try clear ho0)
        obtain ⟨Ao23, co23, eo23⟩ := Kd.R_slice HO342.out
        (first | subst eo23 | (injection eo23 with f1_ f2_ f3_; have f4_ := f1_.symm; have f5_ := f3_.symm; clear f1_ f2_ f3_; subst f4_; subst f5_))
        refine hK.out _ _ ⟨(bc BK334.out 0).trans rfl, (bc BK334.out 1).trans rfl, (bc BK334.out 2).trans rfl, (bc BK334.out 3).trans rfl⟩ (fun hHeld => ?_)
        clear hK K
        refine norm_ (a' := ?_) ?_ ?_
        rotate_left
        ·
         show Act.put _ (some 38) _ = _
         simp only [Act.put, sI, sZ, sS, i64_w, i32_w]
         rfl
        refine Own.pr_ 10 (some 39) q12_11 HT_ (h := ?_)
        refine Own.pr_ 11 (some 40) q12_12 HT_ (h := ?_)
        refine Own.pr_ 12 (some 41) q12_13 HT_ (h := ?_)
        refine Own.pr_ 13 (some 42) q12_14 HT_ (h := ?_)
        refine Own.pr_ 14 (some 43) q12_15 HT_ (h := ?_)
        refine Own.tk_ 15 (some 44) q12_16 HT_ HW_ hHeld (hy := by rintro w' ⟨s0, s1, s2, s3⟩; go_simp; with_reducible rfl) (h := ?_)
        refine Own.pr_ 16 (some 45) q12_17 HT_ (h := ?_)
        refine Own.pr_ 17 (some 46) q12_18 HT_ (h := ?_)
        refine Own.pr_ 18 (some 2) q12_19 HT_ (h := ?_)
        refine done_ (done_of HT_.out (by kernel_rfl)) ?_
        try go_wp2
        go_ret
        exact ⟨by first | rfl | (simp [errW_none, errW_some] <;> rfl) | (simp [*, errW_none, errW_some] <;> rfl) | (simp [Aid.ne_nil, Aid.eq_nil, errW_none, errW_some]; done), by repeat (first | (with_reducible first | exact HB.out | apply bl | apply pN | apply b1 | refine bs ?_ GE334.out) | exact HB.out | exact HBo.out)⟩
       ·
        rw [if_neg c19] at H
        have c19b0 : ((l0_2.length : Int) == (t340.length : Int)) = false := beq_eq_false_iff_ne.mpr c19
        have c19b1 : ((l0_2.length : Int) != (t340.length : Int)) = true := bne_iff_ne.mpr c19
        have c19b2 : (l0_2.length == t340.length) = false := by first | simpa using c19 | (simp at c19 ⊢; omega)
        obtain rfl := Option.some.inj H
        have hcz24_0 : wr.cell? ⟨gb334, 0, none⟩ = some (.int .i64 a0_0) := (bc BK334.out 0).trans rfl
        have hcz24_1 : wr.cell? ⟨gb334, 1, none⟩ = some (.int .i64 a0_1) := (bc BK334.out 1).trans rfl
        have hcz24_2 : wr.cell? ⟨gb334, 2, none⟩ = some (.slice A0_2 l0_2.length c0_2) := (bc BK334.out 2).trans rfl
        have hcz24_3 : wr.cell? ⟨gb334, 3, none⟩ = some (.string a0_3) := (bc BK334.out 3).trans rfl
        have hfz24_0 := bf BK334.out 0
        have hfz24_1 := bf BK334.out 1
        have hfz24_2 := bf BK334.out 2
        have hfz24_3 := bf BK334.out 3
        try go_wp2
        have n0_ := Am (bd BK334.out)
        have n1_ := Am (b1 HB.out)
        clear BK334
        clear HB
        have BK334 := n0_
        have HB := n1_
        clear n0_ n1_
        refine start_ (n := 19) (S := fun w' => w'.cell? ⟨gb334, 0, none⟩ = some (.int .i64 a0_0) ∧ w'.cell? ⟨gb334, 1, none⟩ = some (.int .i64 a0_1) ∧ w'.cell? ⟨gb334, 2, none⟩ = some (.slice A0_2 l0_2.length c0_2) ∧ w'.cell? ⟨gb334, 3, none⟩ = some (.string a0_3)) (ds := []) q12_0 (by kernel_rfl) rfl rfl ⟨(bc BK334.out 0).trans rfl, (bc BK334.out 1).trans rfl, (bc BK334.out 2).trans rfl, (bc BK334.out 3).trans rfl⟩ (fun hHeld => ?_); refine with_tabW shuttlecockref04_May.tab10 shuttlecockref04_May.bits10 (fun HT_ HW_ => ?_)
        generalize wr.drew = w25 at BK334 HB hHeld ⊢
        refine Own.pr_ 0 (some 29) q12_1 HT_ (h := ?_)
        refine Own.tk_ 1 (some 30) q12_2 HT_ HW_ hHeld (hy := by rintro w' ⟨s0, s1, s2, s3⟩; go_simp; with_reducible rfl) (h := ?_)
        refine one_ (i := 2) (N := some 31) q12_3 rfl rfl (one_of HT_.out (by kernel_rfl)) (by decide) (fun K hK => ?_)
        refine goes_ Try.func22 (by kernel_rfl) rfl #[.int .i64 a0_0] (by rfl) rfl rfl (by (try simp only [List.map_toArray, List.map_cons, List.map_nil]); first | done | rfl | (simp only [List.length_drop, List.length_take]; rfl)) ?_
        with_reducible refine (shuttlecockref03_Known.calls a0_0 true _ A16.out).mono ?_
        rintro e w' ⟨rfl, ⟨nd, rfl⟩⟩
        refine ⟨_, rfl, ?_⟩
        refine hK.out _ _ ⟨(bc BK334.out 0).trans rfl, (bc BK334.out 1).trans rfl, (bc BK334.out 2).trans rfl, (bc BK334.out 3).trans rfl⟩ (fun hHeld => ?_)
        clear hK K
        refine norm_ (a' := ?_) ?_ ?_
        rotate_left
        ·
         show Act.put _ (some 31) _ = _
         simp only [Act.put, sI, sZ, sS, i64_w, i32_w]
         rfl
        refine Own.pr_ 3 (some 32) q12_4 HT_ (h := ?_)
        refine Own.pr_ 4 (some 33) q12_5 HT_ (h := ?_)
        refine Own.pr_ 7 (some 36) q12_6 HT_ (h := ?_)
        refine Own.tk_ 5 (some 34) q12_7 HT_ HW_ hHeld (hy := by rintro w' ⟨s0, s1, s2, s3⟩; go_simp; with_reducible rfl) (h := ?_)
        refine Own.pr_ 6 (some 35) q12_8 HT_ (h := ?_)
        refine Own.tk_ 8 (some 37) q12_9 HT_ HW_ hHeld (hy := by rintro w' ⟨s0, s1, s2, s3⟩; go_simp; with_reducible rfl) (h := ?_)
        refine one_ (i := 9) (N := some 38) q12_10 rfl rfl (one_of HT_.out (by kernel_rfl)) (by decide) (fun K hK => ?_)
        refine goes_ Try.func25 (by kernel_rfl) rfl #[.int .i64 a0_0] (by rfl) rfl rfl (by (try simp only [List.map_toArray, List.map_cons, List.map_nil]); first | done | rfl | (simp only [List.length_drop, List.length_take]; rfl)) ?_
        with_reducible refine (shuttlecockref03_Args.calls k1 a0_0 t340 _ A18.out).mono ?_
        rintro e w26 ⟨v341, rfl, ho0, hb⟩
        refine ⟨_, rfl, ?_⟩
        have n0_ := Am (Kd.R_lower ho0 (below_size (by repeat (first | (with_reducible first | exact HB.out | apply bl | apply pN | apply b1 | refine bs ?_ GE334.out) | exact HB.out | exact HBo.out))))
        have n1_ := Am (blk_below (g := gb334) (o := .cells #[.int .i64 a0_0, .int .i64 a0_1, .slice A0_2 l0_2.length c0_2, .string a0_3] 24 (0, 0)) (by (with_reducible repeat (first | refine bn ?_ _ | refine bd ?_ | refine ba ?_ _)); exact BK334.out) hb)
        have n2_ := Am (below_step (by repeat (first | (with_reducible first | exact HB.out | apply bl | apply pN | apply b1 | refine bs ?_ GE334.out) | exact HB.out | exact HBo.out)) hb)
        clear BK334
        clear HB
        have HO342 := n0_
        have BK334 := n1_
        have HB := n2_
        clear n0_ n1_ n2_
        (try clear hb)
        (try clear hb2)
        (try clear hk)
        (try clear hi)
        (try clear ho0)
        obtain ⟨Ao27, co27, eo27⟩ := Kd.R_slice HO342.out
        (first | subst eo27 | (injection eo27 with f1_ f2_ f3_; have f4_ := f1_.symm; have f5_ := f3_.symm; clear f1_ f2_ f3_; subst f4_; subst f5_))
        refine hK.out _ _ ⟨(bc BK334.out 0).trans rfl, (bc BK334.out 1).trans rfl, (bc BK334.out 2).trans rfl, (bc BK334.out 3).trans rfl⟩ (fun hHeld => ?_)
        clear hK K
        refine norm_ (a' := ?_) ?_ ?_
        rotate_left
        ·
         show Act.put _ (some 38) _ = _
         simp only [Act.put, sI, sZ, sS, i64_w, i32_w]
         rfl
        refine Own.pr_ 10 (some 39) q12_11 HT_ (h := ?_)
        refine Own.pr_ 11 (some 40) q12_12 HT_ (h := ?_)
        refine Own.pr_ 12 (some 41) q12_13 HT_ (h := ?_)
        refine Own.pr_ 13 (some 42) q12_14 HT_ (h := ?_)
        refine Own.skips_ HT_.out [14, 15, 16] [some 43, some 44, some 45] 2 5 _ q12_17 _ ?_ _ rfl (by kernel_rfl) (fun _ _ _ _ h => h) (by kernel_rfl) ?_ ?_
        rotate_left
        ·
         simp only [Own.putU, Act.put, sI, sZ, sS]
         rfl
        refine Own.pr_ 17 (some 46) q12_18 HT_ (h := ?_)
        refine Own.pr_ 18 (some 2) q12_19 HT_ (h := ?_)
        refine done_ (done_of HT_.out (by kernel_rfl)) ?_
        try go_wp2
        go_ret
        exact ⟨by first | rfl | (simp [errW_none, errW_some] <;> rfl) | (simp [*, errW_none, errW_some] <;> rfl) | (simp [Aid.ne_nil, Aid.eq_nil, errW_none, errW_some]; done), by repeat (first | (with_reducible first | exact HB.out | apply bl | apply pN | apply b1 | refine bs ?_ GE334.out) | exact HB.out | exact HBo.out)⟩
      ·
       replace c17 := Bool.eq_false_iff.mpr c17
       subst c17
       have H1 : (some false) = some r := by rw [if_neg (show ¬ (false = true) by decide)] at H; exact H
       clear H
       have H := H1
       clear H1
       obtain rfl := Option.some.inj H
       have hcz28_0 : wr.cell? ⟨gb334, 0, none⟩ = some (.int .i64 a0_0) := (bc BK334.out 0).trans rfl
       have hcz28_1 : wr.cell? ⟨gb334, 1, none⟩ = some (.int .i64 a0_1) := (bc BK334.out 1).trans rfl
       have hcz28_2 : wr.cell? ⟨gb334, 2, none⟩ = some (.slice A0_2 l0_2.length c0_2) := (bc BK334.out 2).trans rfl
       have hcz28_3 : wr.cell? ⟨gb334, 3, none⟩ = some (.string a0_3) := (bc BK334.out 3).trans rfl
       have hfz28_0 := bf BK334.out 0
       have hfz28_1 := bf BK334.out 1
       have hfz28_2 := bf BK334.out 2
       have hfz28_3 := bf BK334.out 3
       try go_wp2
       have n0_ := Am (bd BK334.out)
       have n1_ := Am (b1 HB.out)
       clear BK334
       clear HB
       have BK334 := n0_
       have HB := n1_
       clear n0_ n1_
       refine start_ (n := 19) (S := fun w' => w'.cell? ⟨gb334, 0, none⟩ = some (.int .i64 a0_0) ∧ w'.cell? ⟨gb334, 1, none⟩ = some (.int .i64 a0_1) ∧ w'.cell? ⟨gb334, 2, none⟩ = some (.slice A0_2 l0_2.length c0_2) ∧ w'.cell? ⟨gb334, 3, none⟩ = some (.string a0_3)) (ds := []) q12_0 (by kernel_rfl) rfl rfl ⟨(bc BK334.out 0).trans rfl, (bc BK334.out 1).trans rfl, (bc BK334.out 2).trans rfl, (bc BK334.out 3).trans rfl⟩ (fun hHeld => ?_); refine with_tabW shuttlecockref04_May.tab10 shuttlecockref04_May.bits10 (fun HT_ HW_ => ?_)
       generalize wr.drew = w29 at BK334 HB hHeld ⊢
       refine Own.pr_ 0 (some 29) q12_1 HT_ (h := ?_)
       refine Own.tk_ 1 (some 30) q12_2 HT_ HW_ hHeld (hy := by rintro w' ⟨s0, s1, s2, s3⟩; go_simp; with_reducible rfl) (h := ?_)
       refine one_ (i := 2) (N := some 31) q12_3 rfl rfl (one_of HT_.out (by kernel_rfl)) (by decide) (fun K hK => ?_)
       refine goes_ Try.func22 (by kernel_rfl) rfl #[.int .i64 a0_0] (by rfl) rfl rfl (by (try simp only [List.map_toArray, List.map_cons, List.map_nil]); first | done | rfl | (simp only [List.length_drop, List.length_take]; rfl)) ?_
       with_reducible refine (shuttlecockref03_Known.calls a0_0 false _ A16.out).mono ?_
       rintro e w' ⟨rfl, ⟨nd, rfl⟩⟩
       refine ⟨_, rfl, ?_⟩
       refine hK.out _ _ ⟨(bc BK334.out 0).trans rfl, (bc BK334.out 1).trans rfl, (bc BK334.out 2).trans rfl, (bc BK334.out 3).trans rfl⟩ (fun hHeld => ?_)
       clear hK K
       refine norm_ (a' := ?_) ?_ ?_
       rotate_left
       ·
        show Act.put _ (some 31) _ = _
        simp only [Act.put, sI, sZ, sS, i64_w, i32_w]
        rfl
       refine Own.pr_ 3 (some 32) q12_4 HT_ (h := ?_)
       refine Own.skips_ HT_.out [4, 5, 6, 7, 8, 9, 10, 11] [some 33, some 34, some 35, some 36, some 37, some 38, some 39, some 40] 7 15 _ q12_12 _ ?_ _ rfl (by kernel_rfl) (fun _ _ _ _ h => h) (by kernel_rfl) ?_ ?_
       rotate_left
       ·
        simp only [Own.putU, Act.put, sI, sZ, sS]
        rfl
       refine Own.pr_ 12 (some 41) q12_13 HT_ (h := ?_)
       refine Own.pr_ 13 (some 42) q12_14 HT_ (h := ?_)
       refine Own.skips_ HT_.out [14, 15, 16] [some 43, some 44, some 45] 2 5 _ q12_17 _ ?_ _ rfl (by kernel_rfl) (fun _ _ _ _ h => h) (by kernel_rfl) ?_ ?_
       rotate_left
       ·
        simp only [Own.putU, Act.put, sI, sZ, sS]
        rfl
       refine Own.pr_ 17 (some 46) q12_18 HT_ (h := ?_)
       refine Own.pr_ 18 (some 2) q12_19 HT_ (h := ?_)
       refine done_ (done_of HT_.out (by kernel_rfl)) ?_
       try go_wp2
       go_ret
       exact ⟨by first | rfl | (simp [errW_none, errW_some] <;> rfl) | (simp [*, errW_none, errW_some] <;> rfl) | (simp [Aid.ne_nil, Aid.eq_nil, errW_none, errW_some]; done), by repeat (first | (with_reducible first | exact HB.out | apply bl | apply pN | apply b1 | refine bs ?_ GE334.out) | exact HB.out | exact HBo.out)⟩
 ·
  replace c3 := Bool.eq_false_iff.mpr c3
  subst c3
  have H1 : (some false) = some r := by rw [if_neg (show ¬ (false = true) by decide)] at H; exact H
  clear H
  have H := H1
  clear H1
  obtain rfl := Option.some.inj H
  go_enter Try.func13, Try.ntmps13
  go_wp2_with (first | ((with_reducible refine gate_dst (N := 1) rfl ?_); (try (refine gate_guard (by rfl) ?_; dsimp only)); refine box_event ?hg (N := 1) ?hd (cs := #[.int .i64 a0_0, .int .i64 a0_1, .slice A0_2 l0_2.length c0_2, .string a0_3]) (t := 24) ?hr ?_; (case hd => rfl); (case hg => rfl); (case hr => first | (go_simp; done) | (go_simp; rfl)); intro gb334 hg w30 hbox hb; have n0_ := Am (below_step (by repeat (first | (with_reducible first | exact HB.out | apply bl | apply pN | apply b1) | exact HB.out | exact HBo.out)) hb); have n1_ := Am (hbox); have n2_ := Am ((by rw [hg]; exact (below_size (by repeat (first | (with_reducible first | exact HB.out | apply bl | apply pN | apply b1) | exact HB.out | exact HBo.out))) : w.heap.size ≤ gb334)); have n3_ := Am ((by rw [hg]; exact (below_size (by repeat (first | (with_reducible first | exact HB.out | apply bl | apply pN | apply b1) | exact HB.out | exact HBo.out))) : w.heap.size ≤ gb334)); clear HB; have HB := n0_; have BK334 := n1_; have GW334 := n2_; have GE334 := n3_; clear n0_ n1_ n2_ n3_; clear hb hbox hg; have hcz31_0 : w30.cell? ⟨gb334, 0, none⟩ = some (.int .i64 a0_0) := (bc BK334.out 0).trans rfl; have hcz31_1 : w30.cell? ⟨gb334, 1, none⟩ = some (.int .i64 a0_1) := (bc BK334.out 1).trans rfl; have hcz31_2 : w30.cell? ⟨gb334, 2, none⟩ = some (.slice A0_2 l0_2.length c0_2) := (bc BK334.out 2).trans rfl; have hcz31_3 : w30.cell? ⟨gb334, 3, none⟩ = some (.string a0_3) := (bc BK334.out 3).trans rfl; have hfz31_0 := bf BK334.out 0; have hfz31_1 := bf BK334.out 1; have hfz31_2 := bf BK334.out 2; have hfz31_3 := bf BK334.out 3) | ((with_reducible refine gate_callee (f := 32) rfl ?_); refine goesL_ (some 6) rfl rfl Try.func32 (by kernel_rfl) rfl #[.int .i64 a0_1] rfl (by (try simp only [List.map_toArray, List.map_cons, List.map_nil]); first | done | rfl | (simp only [List.length_drop, List.length_take]; rfl)) ?_; (with_reducible refine (shuttlecockref04_Fits.calls a0_1 false _ A2.out).mono ?_); rintro e w' ⟨rfl, ⟨nd, rfl⟩⟩; refine ⟨_, rfl, ?_⟩))
  go_ret
  exact ⟨by first | rfl | (simp [errW_none, errW_some] <;> rfl) | (simp [*, errW_none, errW_some] <;> rfl) | (simp [Aid.ne_nil, Aid.eq_nil, errW_none, errW_some]; done), by repeat (first | (with_reducible first | exact HB.out | apply bl | apply pN | apply b1 | refine bs ?_ GE334.out) | exact HB.out | exact HBo.out)⟩

/-! ### shuttlecockref02_Text: function 37 -/
def shuttlecockref02_Text.f (k : Nat) (a0 : ByteArray) : Option (ByteArray) := (shuttlecockref01_Put.f k (a0.size : Int)).bind fun t343 => (if t343.size + a0.size ≤ 9223372036854775807 then (some (t343 ++ a0)) else (none))
theorem shuttlecockref02_Text.mono : ∀ a0 k, LeO (shuttlecockref02_Text.f k a0) (shuttlecockref02_Text.f (k + 1) a0) := by
 intro a0 k
 unfold shuttlecockref02_Text.f
 repeat' first
   | (with_reducible exact shuttlecockref01_Put.mono _ _)
   | (with_reducible exact LeO.refl _)
   | (with_reducible exact LeO.none _)
   | (with_reducible refine LeO.ite ?_ ?_)
   | (with_reducible refine LeO.bind ?_ (fun _ => ?_))
   | exact shuttlecockref01_Put.mono _ _
   | exact LeO.none _
   | refine LeO.ite ?_ ?_
   | refine LeO.bind ?_ (fun _ => ?_)
set_option maxHeartbeats 8000000 in
set_option maxRecDepth 100000 in
theorem shuttlecockref02_Text.calls (k : Nat) (a0 : ByteArray) (r : ByteArray) (w : World) (h : shuttlecockref02_Text.f k a0 = some r) :
  Calls Try.prog 37 #[.string a0] w fun e w' => e = .returned (.string r) ∧ Below w.heap.size w w' := by
 have HB := Am (Below.refl w.heap.size w)
 have H : ((shuttlecockref01_Put.f k (a0.size : Int)).bind fun t343 => (if t343.size + a0.size ≤ 9223372036854775807 then (some (t343 ++ a0)) else (none))) = some r := h
 clear h
 replace H := ob H
 obtain ⟨t343, A20, H⟩ := H
 replace H : (if t343.size + a0.size ≤ 9223372036854775807 then (some (t343 ++ a0)) else (none)) = some r := H
 have A2 := Am A20
 clear A20
 by_cases c3 : t343.size + a0.size ≤ 9223372036854775807
 ·
  rw [if_pos c3] at H
  have c3b0 := eq_true c3
  have c3b1 : decide (t343.size + a0.size ≤ 9223372036854775807) = true := decide_eq_true c3
  try have c3b2 : (9223372036854775807 < t343.size + a0.size) = False := eq_false (Nat.not_lt.2 c3)
  obtain rfl := Option.some.inj H
  go_enter Try.func37, Try.ntmps37
  go_wp2_with (first | ((with_reducible refine gate_callee (f := 36) rfl ?_); refine goesL_ (some 5) rfl rfl Try.func36 (by kernel_rfl) rfl #[.int .i64 (a0.size : Int)] rfl (by (try simp only [List.map_toArray, List.map_cons, List.map_nil]); first | done | rfl | (simp only [List.length_drop, List.length_take]; rfl)) ?_; (with_reducible refine (shuttlecockref01_Put.calls k (a0.size : Int) t343 _ A2.out).mono ?_); rintro e w4 ⟨rfl, hb⟩; refine ⟨_, rfl, ?_⟩; have n0_ := Am (below_step (by repeat (first | (with_reducible first | exact HB.out | apply bl | apply pN | apply b1) | exact HB.out | exact HBo.out)) hb); clear HB; have HB := n0_; clear n0_; (try clear hb); (try clear hb2); (try clear hk); (try clear hi)))
  go_ret
  exact ⟨by first | rfl | (simp [errW_none, errW_some] <;> rfl) | (simp [*, errW_none, errW_some] <;> rfl) | (simp [Aid.ne_nil, Aid.eq_nil, errW_none, errW_some]; done), by repeat (first | (with_reducible first | exact HB.out | apply bl | apply pN | apply b1) | exact HB.out | exact HBo.out)⟩
 ·
  rw [if_neg c3] at H
  exact absurd H (by simp)

/-! ### shuttlecockref02_Nums: function 38 -/
def shuttlecockref02_Nums.l0 : Nat → List Int → ByteArray → Int → Option (ByteArray)
 | 0, _, _, _ => none
 | k + 1, x0, x3, x4 => if x4 < (x0.length : Int) then (if 0 ≤ x4 then ((shuttlecockref01_Put.f k (rd x0 x4)).bind fun t345 => (if t345.toList = ([] : List UInt8) then (some (⟨#[]⟩ : ByteArray)) else ((shuttlecockref01_Put.f k (rd x0 x4)).bind fun t347 => (if x3.size + t347.size ≤ 9223372036854775807 then (shuttlecockref02_Nums.l0 k x0 (x3 ++ t347) (wrap64 (x4 + 1))) else (none))))) else (none)) else (some x3)
def shuttlecockref02_Nums.f (k : Nat) (l0 : List Int) : Option (ByteArray) := shuttlecockref02_Nums.l0 k l0 (⟨#[]⟩ : ByteArray) 0
theorem shuttlecockref02_Nums.mono_l : ∀ k, (∀ y0 y1 y2, LeO (shuttlecockref02_Nums.l0 k y0 y1 y2) (shuttlecockref02_Nums.l0 (k + 1) y0 y1 y2))
 | 0 => fun _ _ _ r h => by simp [shuttlecockref02_Nums.l0] at h
 | k + 1 => by
  have ih0 := shuttlecockref02_Nums.mono_l k
  ·
   intro y0 y1 y2
   unfold shuttlecockref02_Nums.l0
   repeat' first
   | (with_reducible exact ih0 _ _ _)
   | (with_reducible exact shuttlecockref01_Put.mono _ _)
   | (with_reducible exact LeO.refl _)
   | (with_reducible exact LeO.none _)
   | (with_reducible refine LeO.ite ?_ ?_)
   | (with_reducible refine LeO.bind ?_ (fun _ => ?_))
   | exact ih0 _ _ _
   | exact shuttlecockref01_Put.mono _ _
   | exact LeO.none _
   | refine LeO.ite ?_ ?_
   | refine LeO.bind ?_ (fun _ => ?_)
theorem shuttlecockref02_Nums.mono : ∀ a0 k, LeO (shuttlecockref02_Nums.f k a0) (shuttlecockref02_Nums.f (k + 1) a0) := by
 intro a0 k
 have ih0 := shuttlecockref02_Nums.mono_l k
 unfold shuttlecockref02_Nums.f
 repeat' first
   | (with_reducible exact ih0 _ _ _)
   | (with_reducible exact shuttlecockref01_Put.mono _ _)
   | (with_reducible exact LeO.refl _)
   | (with_reducible exact LeO.none _)
   | (with_reducible refine LeO.ite ?_ ?_)
   | (with_reducible refine LeO.bind ?_ (fun _ => ?_))
   | exact ih0 _ _ _
   | exact shuttlecockref01_Put.mono _ _
   | exact LeO.none _
   | refine LeO.ite ?_ ?_
   | refine LeO.bind ?_ (fun _ => ?_)
set_option maxHeartbeats 8000000 in
set_option maxRecDepth 100000 in
theorem shuttlecockref02_Nums.calls (k : Nat) (A0 : Option Addr) (c0 : Nat) (l0 : List Int) (r : ByteArray) (w : World) (hr0 : Kd.C (Kd.int .i64) w A0 l0.length l0) (hc0 : l0.length ≤ c0) (h : shuttlecockref02_Nums.f k l0 = some r) :
  Calls Try.prog 38 #[.slice A0 l0.length c0] w fun e w' => e = .returned (.string r) ∧ Below w.heap.size w w' := by
 have HR0 := Am hr0
 have HC0 := Am hc0
 clear hr0 hc0
 have HB := Am (Below.refl w.heap.size w)
 have H : (shuttlecockref02_Nums.l0 k l0 (⟨#[]⟩ : ByteArray) 0) = some r := h
 clear h
 have H' := Am H
 clear H
 go_enter Try.func38, Try.ntmps38
 go_wp2
 go_loopg [3, 4] k (fun kq v3 v4 w' => ∃ (x3_1 : ByteArray) (x4_1 : Int), v3 = .string x3_1 ∧ v4 = .int .i64 x4_1 ∧ Aside0 (shuttlecockref02_Nums.l0 kq l0 x3_1 x4_1 = some r) ∧ Aside0 (kq ≤ k) ∧ Aside0 (Below w.heap.size w w'))
 case atStart => exact ⟨((⟨#[]⟩ : ByteArray)), (0), (by first | rfl | (simp; done) | (simp [*]; done)), (by first | rfl | (simp; done) | (simp [*]; done)), H', ⟨Nat.le_refl _⟩, ⟨by repeat (first | (with_reducible first | exact HB.out | apply bl | apply pN | apply b1) | exact HB.out | exact HBo.out)⟩⟩
 case round =>
  clear H'
  obtain ⟨x3_1, x4_1, rfl, rfl, HA, HK1, HB⟩ := hrel
  cases gk with
  | zero => exact absurd HA.out (by simp [shuttlecockref02_Nums.l0])
  | succ k1 =>
   have H := HA.out
   clear HA
   simp only [shuttlecockref02_Nums.l0] at H
   by_cases c2 : x4_1 < (l0.length : Int)
   ·
    rw [if_pos c2] at H
    have c2b0 : decide (x4_1 < (l0.length : Int)) = true := decide_eq_true c2
    clear c2
    by_cases c3 : 0 ≤ x4_1
    ·
     rw [if_pos c3] at H
     have c3b0 : decide (0 ≤ x4_1) = true := decide_eq_true c3
     clear c3
     replace H := ob H
     obtain ⟨t345, A40, H⟩ := H
     replace H : (if t345.toList = ([] : List UInt8) then (some (⟨#[]⟩ : ByteArray)) else ((shuttlecockref01_Put.f k1 (rd l0 x4_1)).bind fun t347 => (if x3_1.size + t347.size ≤ 9223372036854775807 then (shuttlecockref02_Nums.l0 k1 l0 (x3_1 ++ t347) (wrap64 (x4_1 + 1))) else (none)))) = some r := H
     have A4 := Am A40
     clear A40
     by_cases c5 : t345.toList = ([] : List UInt8)
     ·
      rw [if_pos c5] at H
      have c5b0 : (t345.toList == ([] : List UInt8)) = true := beq_iff_eq.mpr c5
      have c5b1 : (t345.toList != ([] : List UInt8)) = false := bne_eq_false_iff_eq.mpr c5
      clear c5
      obtain rfl := Option.some.inj H
      have p344 : 0 ≤ (x4_1 : Int) := of_decide_eq_true (by first | (with_reducible assumption) | assumption)
      have q344 : x4_1 < (l0.length : Int) := of_decide_eq_true (by first | (with_reducible assumption) | assumption)
      obtain ⟨ad344, e344, hx344_0⟩ := Kd.at_int HR0.out x4_1 p344 q344
      cases e344
      replace hx344_0 := (HB.out.cell (World.block_lt_of_cell? w _ hx344_0)).trans hx344_0
      replace p344 := eq_true p344
      replace q344 := eq_true q344
      go_wp2_with (first | ((with_reducible refine gate_callee (f := 36) rfl ?_); refine goesL_ (some 15) rfl rfl Try.func36 (by kernel_rfl) rfl #[.int .i64 (rd l0 x4_1)] rfl (by (try simp only [List.map_toArray, List.map_cons, List.map_nil]); first | done | rfl | (simp only [List.length_drop, List.length_take]; rfl)) ?_; (with_reducible refine (shuttlecockref01_Put.calls k1 (rd l0 x4_1) t345 _ A4.out).mono ?_); rintro e w6 ⟨rfl, hb⟩; refine ⟨_, rfl, ?_⟩; have n0_ := Am (below_step (by repeat (first | (with_reducible first | exact HB.out | apply bl | apply pN | apply b1) | exact HB.out | exact HBo.out)) hb); clear HB; have HB := n0_; clear n0_; (try clear hb); (try clear hb2); (try clear hk); (try clear hi)))
      go_ret
      exact ⟨by first | rfl | (simp [errW_none, errW_some] <;> rfl) | (simp [*, errW_none, errW_some] <;> rfl) | (simp [Aid.ne_nil, Aid.eq_nil, errW_none, errW_some]; done), by repeat (first | (with_reducible first | exact HB.out | apply bl | apply pN | apply b1) | exact HB.out | exact HBo.out)⟩
     ·
      rw [if_neg c5] at H
      have c5b0 : (t345.toList == ([] : List UInt8)) = false := beq_eq_false_iff_ne.mpr c5
      have c5b1 : (t345.toList != ([] : List UInt8)) = true := bne_iff_ne.mpr c5
      replace H := ob H
      obtain ⟨t347, A70, H⟩ := H
      replace H : (if x3_1.size + t347.size ≤ 9223372036854775807 then (shuttlecockref02_Nums.l0 k1 l0 (x3_1 ++ t347) (wrap64 (x4_1 + 1))) else (none)) = some r := H
      have A7 := Am A70
      clear A70
      by_cases c8 : x3_1.size + t347.size ≤ 9223372036854775807
      ·
       rw [if_pos c8] at H
       have c8b0 := eq_true c8
       have c8b1 : decide (x3_1.size + t347.size ≤ 9223372036854775807) = true := decide_eq_true c8
       try have c8b2 : (9223372036854775807 < x3_1.size + t347.size) = False := eq_false (Nat.not_lt.2 c8)
       have H' := Am H
       clear H
       have p344 : 0 ≤ (x4_1 : Int) := of_decide_eq_true (by first | (with_reducible assumption) | assumption)
       have q344 : x4_1 < (l0.length : Int) := of_decide_eq_true (by first | (with_reducible assumption) | assumption)
       obtain ⟨ad344, e344, hx344_0⟩ := Kd.at_int HR0.out x4_1 p344 q344
       cases e344
       replace hx344_0 := (HB.out.cell (World.block_lt_of_cell? w _ hx344_0)).trans hx344_0
       replace p344 := eq_true p344
       replace q344 := eq_true q344
       go_wp2_with (first | ((with_reducible refine gate_callee (f := 36) rfl ?_); refine goesL_ (some 15) rfl rfl Try.func36 (by kernel_rfl) rfl #[.int .i64 (rd l0 x4_1)] rfl (by (try simp only [List.map_toArray, List.map_cons, List.map_nil]); first | done | rfl | (simp only [List.length_drop, List.length_take]; rfl)) ?_; (with_reducible refine (shuttlecockref01_Put.calls k1 (rd l0 x4_1) t345 _ A4.out).mono ?_); rintro e w9 ⟨rfl, hb⟩; refine ⟨_, rfl, ?_⟩; have n0_ := Am (below_step (by repeat (first | (with_reducible first | exact HB.out | apply bl | apply pN | apply b1) | exact HB.out | exact HBo.out)) hb); clear HB; have HB := n0_; clear n0_; (try clear hb); (try clear hb2); (try clear hk); (try clear hi); have p346 : 0 ≤ (x4_1 : Int) := of_decide_eq_true (by first | (with_reducible assumption) | assumption); have q346 : x4_1 < (l0.length : Int) := of_decide_eq_true (by first | (with_reducible assumption) | assumption); obtain ⟨ad346, e346, hx346_0⟩ := Kd.at_int HR0.out x4_1 p346 q346; obtain rfl : ad344 = ad346 := (by injection e346); replace hx346_0 := (HB.out.cell (World.block_lt_of_cell? w _ hx346_0)).trans hx346_0; replace p346 := eq_true p346; replace q346 := eq_true q346) | ((with_reducible refine gate_callee (f := 36) rfl ?_); refine goesL_ (some 22) rfl rfl Try.func36 (by kernel_rfl) rfl #[.int .i64 (rd l0 x4_1)] rfl (by (try simp only [List.map_toArray, List.map_cons, List.map_nil]); first | done | rfl | (simp only [List.length_drop, List.length_take]; rfl)) ?_; (with_reducible refine (shuttlecockref01_Put.calls k1 (rd l0 x4_1) t347 _ A7.out).mono ?_); rintro e w10 ⟨rfl, hb⟩; refine ⟨_, rfl, ?_⟩; have n0_ := Am (below_step (by repeat (first | (with_reducible first | exact HB.out | apply bl | apply pN | apply b1) | exact HB.out | exact HBo.out)) hb); clear HB; have HB := n0_; clear n0_; (try clear hb); (try clear hb2); (try clear hk); (try clear hi)))
       go_roundg k1
       case measure => have := HK1.out; omega
       case rel => exact ⟨(x3_1 ++ t347), (wrap64 (x4_1 + 1)), (by first | rfl | (simp; done) | (simp [*]; done)), (by first | rfl | (simp; done) | (simp [*]; done)), H', ⟨by have := HK1.out; omega⟩, ⟨by repeat (first | (with_reducible first | exact HB.out | apply bl | apply pN | apply b1) | exact HB.out | exact HBo.out)⟩⟩
      ·
       rw [if_neg c8] at H
       exact absurd H (by simp)
    ·
     rw [if_neg c3] at H
     exact absurd H (by simp)
   ·
    rw [if_neg c2] at H
    have c2b0 : decide (x4_1 < (l0.length : Int)) = false := decide_eq_false c2
    clear c2
    obtain rfl := Option.some.inj H
    go_wp2
    go_ret
    exact ⟨by first | rfl | (simp [errW_none, errW_some] <;> rfl) | (simp [*, errW_none, errW_some] <;> rfl) | (simp [Aid.ne_nil, Aid.eq_nil, errW_none, errW_some]; done), by repeat (first | (with_reducible first | exact HB.out | apply bl | apply pN | apply b1) | exact HB.out | exact HBo.out)⟩

end Go.Proofs.Ythechcflnkofgaa.Q
