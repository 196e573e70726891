-- printed by a program of this session (NOTES: hprint); not the kit's print
-- minified3
-- minified2
-- minified
-- halved
import Derived.Test.YtfcombimnmkoeaaOg
import Derived.Test.YtfcombimnmkoeaaAl
import Derived.Test.YtfcombimnmkoeaaQx0
import Derived.Test.YtfcombimnmkoeaaQx2
import Derived.Test.YtfcombimnmkoeaaQx5
namespace Go.Proofs.Ytfcombimnmkoeaa.Q
open Go.RowKit Go.Proofs.YtfcombimnmkoeaaW.PrintWords Go.Proofs.YtfcombimnmkoeaaW.PrintLast Go.Proofs.YtfcombimnmkoeaaW.PrintMore
attribute [local go_sem] max2_int min2_int max_two min_two max_three min_three max_four min_four   -- for this text's walks alone
set_option linter.unusedVariables false
set_option linter.unusedSimpArgs false

def q6_0 : Array Bool := let o := true; let z := false; #[z,z,z,z,z,z,z,z,z,z,z,z,z,z]
def q6_1 : Array Bool := let o := true; let z := false; #[o,z,z,z,z,z,z,z,z,z,z,z,z,z]
def q6_2 : Array Bool := let o := true; let z := false; #[o,z,o,z,z,z,z,z,z,z,z,z,z,z]
def q6_3 : Array Bool := let o := true; let z := false; #[o,z,o,z,o,z,z,z,z,z,z,z,z,z]
def q6_4 : Array Bool := let o := true; let z := false; #[o,z,o,z,o,z,z,z,z,o,z,z,z,z]
def q6_5 : Array Bool := let o := true; let z := false; #[o,o,o,z,o,z,z,z,z,o,z,z,z,z]
def q6_6 : Array Bool := let o := true; let z := false; #[o,o,o,o,o,z,z,z,z,o,z,z,z,z]
def q6_7 : Array Bool := let o := true; let z := false; #[o,o,o,o,o,o,z,z,z,o,z,z,z,z]
def q6_8 : Array Bool := let o := true; let z := false; #[o,o,o,o,o,o,z,z,z,o,o,z,z,z]
def q6_9 : Array Bool := let o := true; let z := false; #[o,o,o,o,o,o,o,z,z,o,o,z,z,z]
def q6_10 : Array Bool := let o := true; let z := false; #[o,o,o,o,o,o,o,o,z,o,o,z,z,z]
def q6_11 : Array Bool := let o := true; let z := false; #[o,o,o,o,o,o,o,o,o,o,o,z,z,z]
def q6_12 : Array Bool := let o := true; let z := false; #[o,o,o,o,o,o,o,o,o,o,o,o,z,z]
def q6_13 : Array Bool := let o := true; let z := false; #[o,o,o,o,o,o,o,o,o,o,o,o,o,z]
def q6_14 : Array Bool := let o := true; let z := false; #[o,o,o,o,o,o,o,o,o,o,o,o,o,o]
/-! ### wire_Nums: function 34, by hand -/
def wire_Nums.l0 : Nat → List Int → ByteArray → Int → Option (ByteArray)
 | 0, _, _, _ => none
 | k + 1, x0, x3, x9 => if x9 < (x0.length : Int) then (if 0 ≤ x9 then ((varint_Put.f k (rd x0 x9)).bind fun t => (if t.toList = ([] : List UInt8) then (some (⟨#[]⟩ : ByteArray)) else (if x3.size + t.size ≤ 140737488355328 then (wire_Nums.l0 k x0 (x3 ++ t) (wrap64 (x9 + 1))) else (none)))) else (none)) else (some x3)
def wire_Nums.f (k : Nat) (l0 : List Int) : Option (ByteArray) := wire_Nums.l0 k l0 (⟨#[]⟩ : ByteArray) 0
theorem wire_Nums.mono_l : ∀ k, ∀ y0 y1 y2, LeO (wire_Nums.l0 k y0 y1 y2) (wire_Nums.l0 (k + 1) y0 y1 y2)
 | 0 => fun _ _ _ r h => by simp [wire_Nums.l0] at h
 | k + 1 => fun y0 y1 y2 => by
  have ih := wire_Nums.mono_l k
  unfold wire_Nums.l0
  exact LeO.ite (LeO.ite (LeO.bind (varint_Put.mono _ _) (fun _ => LeO.ite (LeO.refl _) (LeO.ite (ih _ _ _) (LeO.refl _)))) (LeO.refl _)) (LeO.refl _)
theorem wire_Nums.mono : ∀ a0 k, LeO (wire_Nums.f k a0) (wire_Nums.f (k + 1) a0) := fun a0 k => wire_Nums.mono_l k a0 _ 0
/-- The builder holds these bytes; below lies what lay. -/
def NumsAt (w : World) (acc : ByteArray) (w' : World) : Prop := Lib.IsBuilder 78 5 w.heap.size w.heap.size (Lib.strCells acc) w' ∧ Below w.heap.size w w'
theorem NumsAt.start (w : World) : NumsAt w (⟨#[]⟩ : ByteArray) (w.alloc (.cells #[.pointer none, .slice none 0 0] 78)) := ⟨Lib.fresh_isBuilder _ _ w, bl (Below.refl _ _) _⟩
theorem IsBuilder_below {B b : Nat} {bs : List Value} {w w1 : World} (h : Lib.IsBuilder 78 5 B b bs w) (hb : Below w.heap.size w w1) : Lib.IsBuilder 78 5 B b bs w1 := by
 have go : ∀ p, Lib.BuilderAt 78 5 B b p bs w → Lib.BuilderAt 78 5 B b p bs w1 := by
  rintro p ⟨hB, v, hbk, hown, hne⟩
  exact ⟨hB, v, blk_grown hbk (grown_of_below hb none) (by simp), pw_own_below hown hb, hne⟩
 rcases h with h | h
 ·
  exact .inl (go _ h)
 ·
  exact .inr (go _ h)
theorem NumsAt.below {w : World} {acc : ByteArray} {w' w1 : World} (h : NumsAt w acc w') (hb : Below w'.heap.size w' w1) : NumsAt w acc w1 := ⟨IsBuilder_below h.1 hb, below_step h.2 hb⟩
theorem NumsAt.put {w : World} {acc t : ByteArray} {w' w1 : World} (h : NumsAt w acc w') (k : Lib.BuilderAt 78 5 w.heap.size w.heap.size (.pointer (some ⟨w.heap.size, 0, none⟩)) (Lib.strCells acc ++ Lib.strCells t) w1) (hb : Below w.heap.size w' w1) : NumsAt w (acc ++ t) w1 := by
 refine ⟨.inr ?_, h.2.trans hb⟩
 have e : Lib.strCells (acc ++ t) = Lib.strCells acc ++ Lib.strCells t := by simp [Lib.strCells]
 rw [e]
 exact k
set_option maxHeartbeats 2000000 in
set_option maxRecDepth 100000 in
theorem wire_Nums.calls (k : Nat) (A0 : Option Addr) (c0 : Nat) (l0 : List Int) (r : ByteArray) (w : World) (hr0 : Kd.C (Kd.int .i64) w A0 l0.length l0) (hc0 : l0.length ≤ c0) (h : wire_Nums.f k l0 = some r) :
  Calls Try.prog 34 #[.slice A0 l0.length c0] w fun e w' => e = .returned (.string r) ∧ Below w.heap.size w w' := by
 have HR0 := Am hr0
 clear hr0 hc0
 have H' : Aside0 (wire_Nums.l0 k l0 (⟨#[]⟩ : ByteArray) 0 = some r) := Am h
 clear h
 go_enter Try.func34, Try.ntmps34
 go_wp2
 go_loopg [9] k (fun kq v9 w' => ∃ (x3 : ByteArray) (x9 : Int), v9 = .int .i64 x9 ∧ Aside0 (wire_Nums.l0 kq l0 x3 x9 = some r) ∧ NumsAt w x3 w')
 case atStart => exact ⟨_, 0, rfl, H', NumsAt.start w⟩
 case round =>
  clear H'
  obtain ⟨x3, x9, rfl, HA, HN⟩ := hrel
  cases gk with
  | zero => exact absurd HA.out (by simp [wire_Nums.l0])
  | succ k1 =>
   have H := HA.out
   clear HA
   simp only [wire_Nums.l0] at H
   by_cases c2 : x9 < (l0.length : Int)
   ·
    rw [if_pos c2] at H
    have c2b0 : decide (x9 < (l0.length : Int)) = true := decide_eq_true c2
    by_cases c3 : 0 ≤ x9
    ·
     rw [if_pos c3] at H
     have c3b0 : decide (0 ≤ x9) = true := decide_eq_true c3
     obtain ⟨ad, ea, hx⟩ := Kd.at_int HR0.out x9 c3 c2
     cases ea
     replace hx := (HN.2.cell (World.block_lt_of_cell? w _ hx)).trans hx
     have p1 := eq_true c3
     have q1 := eq_true c2
     clear c2 c3
     replace H := ob H
     obtain ⟨t, A40, H⟩ := H
     have A4 := Am A40
     clear A40
     by_cases c5 : t.toList = ([] : List UInt8)
     ·
      rw [if_pos c5] at H
      have c5b0 : (t.toList == ([] : List UInt8)) = true := beq_iff_eq.mpr c5
      try have c5b9 : (t.toList).isEmpty = true := List.isEmpty_iff.2 c5
      clear c5
      obtain rfl := Option.some.inj H
      clear H
      go_wp2_with (go_at_call 52; (with_reducible refine (varint_Put.calls k1 _ t _ A4.out).mono ?_); rintro e w1 ⟨rfl, hb⟩; have HN1 := NumsAt.below HN hb; clear hb)
      go_ret
      exact ⟨rfl, HN1.2⟩
     ·
      rw [if_neg c5] at H
      have c5b0 : (t.toList == ([] : List UInt8)) = false := beq_eq_false_iff_ne.mpr c5
      try have c5b9 : (t.toList).isEmpty = false := (by rw [List.isEmpty_eq_false_iff]; exact c5)
      clear c5
      by_cases c8 : x3.size + t.size ≤ 140737488355328
      ·
       rw [if_pos c8] at H
       have H' := Am H
       clear H
       have hlen : (Lib.strCells x3).length + t.size ≤ 140737488355328 := by rw [Lib.strCells_length]; exact c8
       have HL := Am hlen
       clear hlen c8
       go_wp2_with (first | (go_at_call 52; (with_reducible refine (varint_Put.calls k1 _ t _ A4.out).mono ?_); rintro e w1 ⟨rfl, hb⟩; have HN1 := NumsAt.below HN hb; clear hb) | (go_at_call 53; (refine (Go.Proofs.Ytfcombimnmkoeaa.Bld.writeString w.heap.size w.heap.size _ t _ HN1.1 HL.out (below_size HN1.2)).mono ?_); rintro e w2 ⟨rfl, hk, hb⟩; have HN2 := NumsAt.put HN1 hk hb; clear hk hb))
       go_roundg k1
       case rel => exact ⟨_, _, rfl, H', HN2⟩
       case measure => exact Nat.lt_succ_self _
      ·
       rw [if_neg c8] at H
       cases H
    ·
     rw [if_neg c3] at H
     cases H
   ·
    rw [if_neg c2] at H
    have c2b0 : decide (x9 < (l0.length : Int)) = false := decide_eq_false c2
    clear c2
    obtain rfl := Option.some.inj H
    clear H
    have HN' : Lib.IsBuilder 78 5 w.heap.size w.heap.size (Lib.byteCells x3.data.toList) _ := HN.1
    go_wp2_with (go_at_call 54; (refine (Go.Proofs.Ytfcombimnmkoeaa.Bld.string_any w.heap.size w.heap.size x3.data.toList _ HN' (below_size HN.2)).mono ?_); rintro e w2 ⟨rfl, hb⟩; have HB2 := HN.2.trans hb; clear hb)
    go_ret
    exact ⟨rfl, HB2⟩

/-! ### wire_Text: function 35 -/
def wire_Text.f (k : Nat) (a0 : ByteArray) : Option (ByteArray) := (varint_Put.f k (a0.size : Int)).bind fun t300 => (if t300.size + a0.size ≤ 9223372036854775807 then (some (t300 ++ a0)) else (none))
theorem wire_Text.mono : ∀ a0 k, LeO (wire_Text.f k a0) (wire_Text.f (k + 1) a0) := by
 intro a0 k
 unfold wire_Text.f
 repeat' first
   | (with_reducible exact varint_Put.mono _ _)
   | (with_reducible exact LeO.refl _)
   | (with_reducible exact LeO.none _)
   | (with_reducible refine LeO.ite ?_ ?_)
   | (with_reducible refine LeO.bind ?_ (fun _ => ?_))
   | exact LeO.none _
   | refine LeO.ite ?_ ?_
   | refine LeO.bind ?_ (fun _ => ?_)
set_option maxHeartbeats 8000000 in
set_option maxRecDepth 100000 in
theorem wire_Text.calls (k : Nat) (a0 : ByteArray) (r : ByteArray) (w : World) (h : wire_Text.f k a0 = some r) :
  Calls Try.prog 35 #[.string a0] w fun e w' => e = .returned (.string r) ∧ Below w.heap.size w w' := by
 have HB := Am (Below.refl w.heap.size w)
 have H : ((varint_Put.f k (a0.size : Int)).bind fun t300 => (if t300.size + a0.size ≤ 9223372036854775807 then (some (t300 ++ a0)) else (none))) = some r := h
 clear h
 replace H := ob H
 obtain ⟨t300, A20, H⟩ := H
 (try dsimp only at H)
 have A2 := Am A20
 clear A20
 by_cases c3 : t300.size + a0.size ≤ 9223372036854775807
 ·
  rw [if_pos c3] at H
  have c3b0 := eq_true c3
  have c3b1 : decide (t300.size + a0.size ≤ 9223372036854775807) = true := decide_eq_true c3
  try have c3b2 : (9223372036854775807 < t300.size + a0.size) = False := eq_false (Nat.not_lt.2 c3)
  obtain rfl := Option.some.inj H
  go_enter Try.func35, Try.ntmps35
  go_wp2_with (first | ((with_reducible refine gate_callee (f := 52) rfl ?_); refine Own.gL_ (some 5) Try.func52 (#[.int .i64 (a0.size : Int)]) (h := ?_); (with_reducible refine (varint_Put.calls k (a0.size : Int) t300 _ A2.out).mono ?_); rintro e w4 ⟨rfl, hb⟩; refine ⟨_, rfl, ?_⟩; replace HB := Am (below_step (by repeat (first | (with_reducible first | exact HB.out | apply bl | apply pN | apply b1) | exact HB.out | exact HBo.out)) hb); clear hb))
  go_ret
  exact ⟨by first | rfl | (simp <;> rfl) | (simp [*] <;> rfl) | (simp [Aid.ne_nil, Aid.eq_nil]; done), by repeat (first | (with_reducible first | exact HB.out | apply bl | apply pN | apply b1) | exact HB.out | exact HBo.out)⟩
 ·
  rw [if_neg c3] at H
  exact absurd H (by simp)

/-! ### batch_Encode: function 15 -/
def batch_Encode.f (k : Nat) (a0_0 : Int) (a0_1 : Int) (a0_2 : Int) (a0_3 : ByteArray) : Option (ByteArray) := (batch_May.f a0_0 a0_1 a0_2 a0_3).bind fun t302 => (if t302 = true then ((wire_Nums.f k (([a0_0, a0_1, a0_2] : List Int))).bind fun t306 => (if 1 + t306.size ≤ 9223372036854775807 then ((wire_Text.f k a0_3).bind fun t307 => (if ((⟨#[66]⟩ : ByteArray) ++ t306).size + t307.size ≤ 9223372036854775807 then (some (((⟨#[66]⟩ : ByteArray) ++ t306) ++ t307)) else (none))) else (none))) else (some (⟨#[]⟩ : ByteArray)))
theorem batch_Encode.mono : ∀ a0 a1 a2 a3 k, LeO (batch_Encode.f k a0 a1 a2 a3) (batch_Encode.f (k + 1) a0 a1 a2 a3) := by
 intro a0 a1 a2 a3 k
 unfold batch_Encode.f
 repeat' first
   | (with_reducible exact wire_Nums.mono _ _)
   | (with_reducible exact wire_Text.mono _ _)
   | (with_reducible exact LeO.refl _)
   | (with_reducible exact LeO.none _)
   | (with_reducible refine LeO.ite ?_ ?_)
   | (with_reducible refine LeO.bind ?_ (fun _ => ?_))
   | exact LeO.none _
   | refine LeO.ite ?_ ?_
   | refine LeO.bind ?_ (fun _ => ?_)
def batch_Encode.T3 : Bool × List (List Nat × List Nat) := (true, [([], []), ([0], [0]), ([], []), ([2], [2]), ([], []), ([4], [4]), ([1, 3, 5], [1, 3, 5]), ([6], [6]), ([7], [7]), ([], []), ([9], [9]), ([10, 7], [10]), ([8, 11], [8, 11]), ([12, 11, 0, 1, 2, 3, 4, 5, 6, 7, 8, 9, 10, 11, 12], [12])])
def batch_Encode.B3 : List Nat := [0, 1, 0, 4, 0, 16, 63, 127, 255, 0, 512, 1791, 4095, 8191]
theorem batch_Encode.tab3 : rtab .any (opsOf Try.f15 3) = batch_Encode.T3 := by kernel_rfl
theorem batch_Encode.bits3 : waitsOk batch_Encode.T3.2 batch_Encode.B3 = true := by kernel_rfl
set_option maxHeartbeats 8000000 in
set_option maxRecDepth 100000 in
theorem batch_Encode.calls (k : Nat) (a0_0 : Int) (a0_1 : Int) (a0_2 : Int) (a0_3 : ByteArray) (r : ByteArray) (w : World) (h : batch_Encode.f k a0_0 a0_1 a0_2 a0_3 = some r) :
  Calls Try.prog 15 #[.agg #[.int .i64 a0_0, .int .i64 a0_1, .int .i64 a0_2, .string a0_3]] w fun e w' => e = .returned (.string r) ∧ Below w.heap.size w w' := by
 have hu23 := Try.underlying23
 have HB := Am (Below.refl w.heap.size w)
 have H : ((batch_May.f a0_0 a0_1 a0_2 a0_3).bind fun t302 => (if t302 = true then ((wire_Nums.f k (([a0_0, a0_1, a0_2] : List Int))).bind fun t306 => (if 1 + t306.size ≤ 9223372036854775807 then ((wire_Text.f k a0_3).bind fun t307 => (if ((⟨#[66]⟩ : ByteArray) ++ t306).size + t307.size ≤ 9223372036854775807 then (some (((⟨#[66]⟩ : ByteArray) ++ t306) ++ t307)) else (none))) else (none))) else (some (⟨#[]⟩ : ByteArray)))) = some r := h
 clear h
 replace H := ob H
 obtain ⟨t302, A20, H⟩ := H
 (try dsimp only at H)
 have A2 := Am A20
 clear A20
 by_cases c3 : t302 = true
 ·
  subst c3
  rw [if_pos rfl] at H
  obtain ⟨y303, hy303⟩ : ∃ y_ : List Int, y_ = (([a0_0, a0_1, a0_2] : List Int)) := ⟨_, rfl⟩
  replace H : ((wire_Nums.f k y303).bind fun t306 => (if 1 + t306.size ≤ 9223372036854775807 then ((wire_Text.f k a0_3).bind fun t307 => (if ((⟨#[66]⟩ : ByteArray) ++ t306).size + t307.size ≤ 9223372036854775807 then (some (((⟨#[66]⟩ : ByteArray) ++ t306) ++ t307)) else (none))) else (none))) = some r := by first | (rw [hy303]; with_reducible exact H) | (have H2_ := (Option.bind_some _ _).symm.trans H; rw [hy303]; with_reducible exact H2_) | (have H2_ := (Option.bind_some _ _).symm.trans H; with_reducible exact H2_) | with_reducible exact H | (rw [hy303]; exact H) | exact H
  have Ny303 := Am hy303
  clear hy303
  replace H := ob H
  obtain ⟨t306, A40, H⟩ := H
  (try dsimp only at H)
  have A4 := Am A40
  clear A40
  by_cases c5 : 1 + t306.size ≤ 9223372036854775807
  ·
   rw [if_pos c5] at H
   have c5b0 := eq_true c5
   have c5b1 : decide (1 + t306.size ≤ 9223372036854775807) = true := decide_eq_true c5
   try have c5b2 : (9223372036854775807 < 1 + t306.size) = False := eq_false (Nat.not_lt.2 c5)
   replace H := ob H
   obtain ⟨t307, A60, H⟩ := H
   (try dsimp only at H)
   have A6 := Am A60
   clear A60
   by_cases c7 : ((⟨#[66]⟩ : ByteArray) ++ t306).size + t307.size ≤ 9223372036854775807
   ·
    rw [if_pos c7] at H
    have c7b0 := eq_true c7
    have c7b1 : decide (((⟨#[66]⟩ : ByteArray) ++ t306).size + t307.size ≤ 9223372036854775807) = true := decide_eq_true c7
    try have c7b2 : (9223372036854775807 < ((⟨#[66]⟩ : ByteArray) ++ t306).size + t307.size) = False := eq_false (Nat.not_lt.2 c7)
    try (have c7b3 := c7b2; simp only [ByteArray.size_append] at c7b3)
    try (have c7b4 := c7b1; simp only [ByteArray.size_append] at c7b4)
    try (have c7b5 := c7b2; simp only [ByteArray.size_append, show (⟨#[66]⟩ : ByteArray).size = 1 from rfl] at c7b5)
    obtain rfl := Option.some.inj H
    go_enter Try.func15, Try.ntmps15
    try go_wp2_with (first | ((with_reducible refine gate_dst (N := 1) rfl ?_); refine box_event ?hg (N := 1) ?hd (cs := #[.int .i64 a0_0, .int .i64 a0_1, .int .i64 a0_2, .string a0_3]) (t := 23) ?hr ?_; (case hd => rfl); (case hg => rfl); (case hr => first | (go_simp; done) | (go_simp; rfl)); intro gb301 hg w8 hbox hb; have BK301 := Am (hbox); have GW301 := Am ((by rw [hg]; exact (below_size (by repeat (first | (with_reducible first | exact HB.out | apply bl | apply pN | apply b1) | exact HB.out | exact HBo.out))) : w.heap.size ≤ gb301)); have GE301 := GW301; replace HB := Am (below_step (by repeat (first | (with_reducible first | exact HB.out | apply bl | apply pN | apply b1) | exact HB.out | exact HBo.out)) hb); clear hb hbox hg; have hcz9_0 := Own.bc2 BK301.out 0; have hcz9_1 := Own.bc2 BK301.out 1; have hcz9_2 := Own.bc2 BK301.out 2; have hcz9_3 := Own.bc2 BK301.out 3; have hfz9_0 := bf BK301.out 0; have hfz9_1 := bf BK301.out 1; have hfz9_2 := bf BK301.out 2; have hfz9_3 := bf BK301.out 3) | ((with_reducible refine gate_callee (f := 13) rfl ?_); refine Own.gL_ (some 4) Try.func13 (#[.agg #[.int .i64 a0_0, .int .i64 a0_1, .int .i64 a0_2, .string a0_3]]) (h := ?_); (with_reducible refine (batch_May.calls a0_0 a0_1 a0_2 a0_3 true _ A2.out).mono ?_); rintro e w10 ⟨rfl, hb⟩; refine ⟨_, rfl, ?_⟩; replace BK301 := Am (blk_below (g := gb301) (o := .cells #[.int .i64 a0_0, .int .i64 a0_1, .int .i64 a0_2, .string a0_3] 23 (0, 0)) (by (with_reducible repeat (first|apply bn|apply bd|apply ba)); exact BK301.out) hb); replace HB := Am (below_step (by repeat (first | (with_reducible first | exact HB.out | apply bl | apply pN | apply b1 | refine bs ?_ GE301.out) | exact HB.out | exact HBo.out)) hb); clear hb))
    replace BK301 := Am (bd BK301.out)
    replace HB := Am (b1 HB.out)
    refine start_ (n := 14) (S := fun w' => w'.cell? ⟨gb301, 0, none⟩ = some (.int .i64 a0_0) ∧ w'.cell? ⟨gb301, 1, none⟩ = some (.int .i64 a0_1) ∧ w'.cell? ⟨gb301, 2, none⟩ = some (.int .i64 a0_2) ∧ w'.cell? ⟨gb301, 3, none⟩ = some (.string a0_3)) (ds := []) q6_0 (by kernel_rfl) rfl rfl ⟨(bc BK301.out 0).trans rfl, (bc BK301.out 1).trans rfl, (bc BK301.out 2).trans rfl, (bc BK301.out 3).trans rfl⟩ (fun hHeld => ?_); refine with_tabW batch_Encode.tab3 batch_Encode.bits3 (fun HT_ HW_ => ?_)
    generalize w10.drew = w11 at BK301 HB hHeld ⊢
    refine Own.pr_ 0 (some 6) q6_1 HT_ (h := ?_)
    refine Own.pr_ 2 (some 8) q6_2 HT_ (h := ?_)
    refine Own.pr_ 4 (some 10) q6_3 HT_ (h := ?_)
    refine Own.pr_ 9 (some 15) q6_4 HT_ (h := ?_)
    refine Own.tk_ 1 (some 7) q6_5 HT_ HW_ hHeld (hy := by rintro w' ⟨s0, s1, s2, s3⟩; go_simp; with_reducible rfl) (h := ?_)
    refine Own.tk_ 3 (some 9) q6_6 HT_ HW_ hHeld (hy := by rintro w' ⟨s0, s1, s2, s3⟩; go_simp; with_reducible rfl) (h := ?_)
    refine Own.tk_ 5 (some 11) q6_7 HT_ HW_ hHeld (hy := by rintro w' ⟨s0, s1, s2, s3⟩; go_simp; with_reducible rfl) (h := ?_)
    refine Own.tk_ 10 (some 16) q6_8 HT_ HW_ hHeld (hy := by rintro w' ⟨s0, s1, s2, s3⟩; go_simp; with_reducible rfl) (h := ?_)
    refine one_ (i := 6) (N := some 12) q6_9 rfl rfl (one_of HT_.out (by kernel_rfl)) (by decide) (fun K hK => ?_)
    refine Kd.R_lit_step (Kd.int .i64) _ 3 ?hg (N := 12) ?hd (xs := ([a0_0, a0_1, a0_2] : List Int)) (inner := [.int .i64 a0_0, .int .i64 a0_1, .int .i64 a0_2]) (ok := fun _ => True) (okp := fun _ => True) ?hr ?hp (fun _ hk => hk) trivial (Below.refl _ _) (Nat.le_refl _) (by simp) ?_; (case hd => rfl); (case hg => rfl); (case hr => first | (go_simp; done) | (go_simp; rfl)); (case hp => exact (Reps.one (show Kd.M (Kd.int .i64) _ _ _ a0_0 [.int .i64 a0_0] from rfl) (Reps.one (show Kd.M (Kd.int .i64) _ _ _ a0_1 [.int .i64 a0_1] from rfl) (Reps.one (show Kd.M (Kd.int .i64) _ _ _ a0_2 [.int .i64 a0_2] from rfl) (Reps.none _ _)))))
    intro v304 w12 ho13 hb hg_ hnew_
    clear hg_ hnew_
    (first | rw [← Ny303.out] at ho13 | (simp only [Int.reduceToNat] at ho13; rw [← Ny303.out] at ho13))
    have HO305 := Am (Kd.R_lower ho13 (below_size (by repeat (first | (with_reducible first | exact HB.out | apply bl | apply pN | apply b1 | refine bs ?_ GE301.out) | exact HB.out | exact HBo.out))))
    replace BK301 := Am (blk_below (g := gb301) (o := .cells #[.int .i64 a0_0, .int .i64 a0_1, .int .i64 a0_2, .string a0_3] 23 (0, 0)) (by (with_reducible repeat (first|apply bn|apply bd|apply ba)); exact BK301.out) hb)
    replace HB := Am (below_step (by repeat (first | (with_reducible first | exact HB.out | apply bl | apply pN | apply b1 | refine bs ?_ GE301.out) | exact HB.out | exact HBo.out)) hb)
    clear hb ho13
    obtain ⟨Ao14, co14, eo14⟩ := Kd.R_slice HO305.out
    (first | subst eo14 | (injection eo14 with f1_ f2_ f3_; have f4_ := f1_.symm; have f5_ := f3_.symm; clear f1_ f2_ f3_; subst f4_; subst f5_))
    refine hK.out _ _ ⟨(bc BK301.out 0).trans rfl, (bc BK301.out 1).trans rfl, (bc BK301.out 2).trans rfl, (bc BK301.out 3).trans rfl⟩ (fun hHeld => ?_)
    clear hK K
    refine norm_ (a' := ?_) ?_ ?_
    rotate_left
    ·
     show Act.put _ (some 12) _ = _
     simp only [Act.put, sI, sZ, sS, i64_w, i32_w]
     rfl
    refine one_ (i := 7) (N := some 13) q6_10 rfl rfl (one_of HT_.out (by kernel_rfl)) (by decide) (fun K hK => ?_)
    refine goes_ Try.func34 (by kernel_rfl) rfl #[.slice Ao14 y303.length co14] (by rfl) rfl rfl (by (try simp only [List.map_toArray, List.map_cons, List.map_nil]); first | done | rfl | (simp only [List.length_drop, List.length_take]; rfl)) ?_
    with_reducible refine (wire_Nums.calls k _ _ y303 t306 _ ?side1 ?side2 A4.out).mono ?_
    (case side1 => repeat (first | exact (Kd.R_reads' HO305.out).2.2 | (with_reducible refine Kd.C_alloc ?_ _) | (with_reducible refine Kd.C_drewN ?_ _) | (with_reducible refine Kd.C_drew ?_)))
    (case side2 => exact (Kd.R_reads' HO305.out).2.1)
    rintro e w15 ⟨rfl, hb⟩
    refine ⟨_, rfl, ?_⟩
    replace HO305 := Am (Kd.R_below (by (with_reducible repeat (first | apply Kd.R_alloc | apply Kd.R_drewN | apply Kd.R_drew)); exact HO305.out) hb)
    replace BK301 := Am (blk_below (g := gb301) (o := .cells #[.int .i64 a0_0, .int .i64 a0_1, .int .i64 a0_2, .string a0_3] 23 (0, 0)) (by (with_reducible repeat (first|apply bn|apply bd|apply ba)); exact BK301.out) hb)
    replace HB := Am (below_step (by repeat (first | (with_reducible first | exact HB.out | apply bl | apply pN | apply b1 | refine bs ?_ GE301.out) | exact HB.out | exact HBo.out)) hb)
    (try clear hb)
    (try clear hb2)
    (try clear hk)
    (try clear hi)
    refine hK.out _ _ ⟨(bc BK301.out 0).trans rfl, (bc BK301.out 1).trans rfl, (bc BK301.out 2).trans rfl, (bc BK301.out 3).trans rfl⟩ (fun hHeld => ?_)
    clear hK K
    refine norm_ (a' := ?_) ?_ ?_
    rotate_left
    ·
     show Act.put _ (some 13) _ = _
     simp only [Act.put, sI, sZ, sS, i64_w, i32_w]
     rfl
    refine Own.pr_ 8 (some 14) q6_11 HT_ (h := ?_)
    refine one_ (i := 11) (N := some 17) q6_12 rfl rfl (one_of HT_.out (by kernel_rfl)) (by decide) (fun K hK => ?_)
    refine goes_ Try.func35 (by kernel_rfl) rfl #[.string a0_3] (by rfl) rfl rfl (by (try simp only [List.map_toArray, List.map_cons, List.map_nil]); first | done | rfl | (simp only [List.length_drop, List.length_take]; rfl)) ?_
    with_reducible refine (wire_Text.calls k a0_3 t307 _ A6.out).mono ?_
    rintro e w16 ⟨rfl, hb⟩
    refine ⟨_, rfl, ?_⟩
    replace HO305 := Am (Kd.R_below (by (with_reducible repeat (first | apply Kd.R_alloc | apply Kd.R_drewN | apply Kd.R_drew)); exact HO305.out) hb)
    replace BK301 := Am (blk_below (g := gb301) (o := .cells #[.int .i64 a0_0, .int .i64 a0_1, .int .i64 a0_2, .string a0_3] 23 (0, 0)) (by (with_reducible repeat (first|apply bn|apply bd|apply ba)); exact BK301.out) hb)
    replace HB := Am (below_step (by repeat (first | (with_reducible first | exact HB.out | apply bl | apply pN | apply b1 | refine bs ?_ GE301.out) | exact HB.out | exact HBo.out)) hb)
    (try clear hb)
    (try clear hb2)
    (try clear hk)
    (try clear hi)
    refine hK.out _ _ ⟨(bc BK301.out 0).trans rfl, (bc BK301.out 1).trans rfl, (bc BK301.out 2).trans rfl, (bc BK301.out 3).trans rfl⟩ (fun hHeld => ?_)
    clear hK K
    refine norm_ (a' := ?_) ?_ ?_
    rotate_left
    ·
     show Act.put _ (some 17) _ = _
     simp only [Act.put, sI, sZ, sS, i64_w, i32_w]
     rfl
    refine Own.pr_ 12 (some 18) q6_13 HT_ (h := ?_)
    refine Own.pr_ 13 (some 2) q6_14 HT_ (h := ?_)
    refine done_ (done_of HT_.out (by kernel_rfl)) ?_
    try go_wp2
    go_ret
    exact ⟨by first | rfl | (simp <;> rfl) | (simp [*] <;> rfl) | (simp [Aid.ne_nil, Aid.eq_nil]; done), by repeat (first | (with_reducible first | exact HB.out | apply bl | apply pN | apply b1 | refine bs ?_ GE301.out) | exact HB.out | exact HBo.out)⟩
   ·
    rw [if_neg c7] at H
    exact absurd H (by simp)
  ·
   rw [if_neg c5] at H
   exact absurd H (by simp)
 ·
  replace c3 := Bool.eq_false_iff.mpr c3
  subst c3
  rw [if_neg (show ¬ (false = true) by decide)] at H
  obtain rfl := Option.some.inj H
  go_enter Try.func15, Try.ntmps15
  go_wp2_with (first | ((with_reducible refine gate_dst (N := 1) rfl ?_); refine box_event ?hg (N := 1) ?hd (cs := #[.int .i64 a0_0, .int .i64 a0_1, .int .i64 a0_2, .string a0_3]) (t := 23) ?hr ?_; (case hd => rfl); (case hg => rfl); (case hr => first | (go_simp; done) | (go_simp; rfl)); intro gb301 hg w17 hbox hb; have BK301 := Am (hbox); have GW301 := Am ((by rw [hg]; exact (below_size (by repeat (first | (with_reducible first | exact HB.out | apply bl | apply pN | apply b1) | exact HB.out | exact HBo.out))) : w.heap.size ≤ gb301)); have GE301 := GW301; replace HB := Am (below_step (by repeat (first | (with_reducible first | exact HB.out | apply bl | apply pN | apply b1) | exact HB.out | exact HBo.out)) hb); clear hb hbox hg; have hcz18_0 := Own.bc2 BK301.out 0; have hcz18_1 := Own.bc2 BK301.out 1; have hcz18_2 := Own.bc2 BK301.out 2; have hcz18_3 := Own.bc2 BK301.out 3; have hfz18_0 := bf BK301.out 0; have hfz18_1 := bf BK301.out 1; have hfz18_2 := bf BK301.out 2; have hfz18_3 := bf BK301.out 3) | ((with_reducible refine gate_callee (f := 13) rfl ?_); refine Own.gL_ (some 4) Try.func13 (#[.agg #[.int .i64 a0_0, .int .i64 a0_1, .int .i64 a0_2, .string a0_3]]) (h := ?_); (with_reducible refine (batch_May.calls a0_0 a0_1 a0_2 a0_3 false _ A2.out).mono ?_); rintro e w19 ⟨rfl, hb⟩; refine ⟨_, rfl, ?_⟩; replace BK301 := Am (blk_below (g := gb301) (o := .cells #[.int .i64 a0_0, .int .i64 a0_1, .int .i64 a0_2, .string a0_3] 23 (0, 0)) (by (with_reducible repeat (first|apply bn|apply bd|apply ba)); exact BK301.out) hb); replace HB := Am (below_step (by repeat (first | (with_reducible first | exact HB.out | apply bl | apply pN | apply b1 | refine bs ?_ GE301.out) | exact HB.out | exact HBo.out)) hb); clear hb))
  go_ret
  exact ⟨by first | rfl | (simp <;> rfl) | (simp [*] <;> rfl) | (simp [Aid.ne_nil, Aid.eq_nil]; done), by repeat (first | (with_reducible first | exact HB.out | apply bl | apply pN | apply b1 | refine bs ?_ GE301.out) | exact HB.out | exact HBo.out)⟩

/-! ### shuttlecockref01_Ints: function 18 -/
def shuttlecockref01_Ints.l0 : Nat → List Int → List Int → Int → Option (Bool)
 | 0, _, _, _ => none
 | k + 1, x0, x1, x5 => if x5 < (x0.length : Int) then (if 0 ≤ x5 then (if x5 < (x1.length : Int) then (if (rd x0 x5) = (rd x1 x5) then (shuttlecockref01_Ints.l0 k x0 x1 (wrap64 (x5 + 1))) else (some false)) else (none)) else (none)) else (some true)
def shuttlecockref01_Ints.f (k : Nat) (l0 : List Int) (l1 : List Int) : Option (Bool) := if (l0.length : Int) = (l1.length : Int) then (shuttlecockref01_Ints.l0 k l0 l1 0) else (some false)
theorem shuttlecockref01_Ints.mono_l : ∀ k, (∀ y0 y1 y2, LeO (shuttlecockref01_Ints.l0 k y0 y1 y2) (shuttlecockref01_Ints.l0 (k + 1) y0 y1 y2))
 | 0 => fun _ _ _ r h => by simp [shuttlecockref01_Ints.l0] at h
 | k + 1 => by
  have ih0 := shuttlecockref01_Ints.mono_l k
  ·
   intro y0 y1 y2
   unfold shuttlecockref01_Ints.l0
   repeat' first
   | (with_reducible exact ih0 _ _ _)
   | (with_reducible exact LeO.refl _)
   | (with_reducible exact LeO.none _)
   | (with_reducible refine LeO.ite ?_ ?_)
   | (with_reducible refine LeO.bind ?_ (fun _ => ?_))
   | exact LeO.none _
   | refine LeO.ite ?_ ?_
   | refine LeO.bind ?_ (fun _ => ?_)
theorem shuttlecockref01_Ints.mono : ∀ a0 a1 k, LeO (shuttlecockref01_Ints.f k a0 a1) (shuttlecockref01_Ints.f (k + 1) a0 a1) := by
 intro a0 a1 k
 have ih0 := shuttlecockref01_Ints.mono_l k
 unfold shuttlecockref01_Ints.f
 repeat' first
   | (with_reducible exact ih0 _ _ _)
   | (with_reducible exact LeO.refl _)
   | (with_reducible exact LeO.none _)
   | (with_reducible refine LeO.ite ?_ ?_)
   | (with_reducible refine LeO.bind ?_ (fun _ => ?_))
   | exact LeO.none _
   | refine LeO.ite ?_ ?_
   | refine LeO.bind ?_ (fun _ => ?_)
set_option maxHeartbeats 8000000 in
set_option maxRecDepth 100000 in
theorem shuttlecockref01_Ints.calls (k : Nat) (A0 : Option Addr) (c0 : Nat) (l0 : List Int) (A1 : Option Addr) (c1 : Nat) (l1 : List Int) (r : Bool) (w : World) (hr0 : Kd.C (Kd.int .i64) w A0 l0.length l0) (hc0 : l0.length ≤ c0) (hr1 : Kd.C (Kd.int .i64) w A1 l1.length l1) (hc1 : l1.length ≤ c1) (h : shuttlecockref01_Ints.f k l0 l1 = some r) :
  Calls Try.prog 18 #[.slice A0 l0.length c0, .slice A1 l1.length c1] w fun e w' => e = .returned (.bool r) ∧ Drawn0 w w' := by
 have HR0 := Am hr0
 have HC0 := Am hc0
 clear hr0 hc0
 have HR1 := Am hr1
 have HC1 := Am hc1
 clear hr1 hc1
 have H : (if (l0.length : Int) = (l1.length : Int) then (shuttlecockref01_Ints.l0 k l0 l1 0) else (some false)) = some r := h
 clear h
 by_cases c3 : (l0.length : Int) = (l1.length : Int)
 ·
  rw [if_pos c3] at H
  have c3b0 : ((l0.length : Int) == (l1.length : Int)) = true := beq_iff_eq.mpr c3
  have c3b1 : ((l0.length : Int) != (l1.length : Int)) = false := bne_eq_false_iff_eq.mpr c3
  have c3b2 : (l0.length == l1.length) = true := by first | simpa using c3 | (simp at c3 ⊢; omega)
  clear c3
  have H' := Am H
  clear H
  go_enter Try.func18, Try.ntmps18
  go_wp2
  repeat (go_quiet (fail); try go_wp2)
  go_loopg [5] k (fun kq v5 w' => ∃ (x5_1 : Int), v5 = .int .i64 x5_1 ∧ Aside0 (shuttlecockref01_Ints.l0 kq l0 l1 x5_1 = some r) ∧ Aside0 (kq ≤ k) ∧ Drawn0 w w')
  case atStart => exact ⟨(0), (by first | rfl | (simp; done) | (simp [*]; done)), H', ⟨Nat.le_refl _⟩, by repeat (first | exact Drawn0.refl _ | apply Drawn0.step)⟩
  case round =>
   clear H'
   try clear c1
   try clear p2
   try clear c3
   try clear c3b0
   try clear c3b1
   try clear c3b2
   obtain ⟨x5_1, rfl, HA, HK1, ⟨m1, rfl⟩⟩ := hrel
   cases gk with
   | zero => exact absurd HA.out (by simp [shuttlecockref01_Ints.l0])
   | succ k1 =>
    have H := HA.out
    clear HA
    simp only [shuttlecockref01_Ints.l0] at H
    by_cases c4 : x5_1 < (l0.length : Int)
    ·
     rw [if_pos c4] at H
     have c4b0 : decide (x5_1 < (l0.length : Int)) = true := decide_eq_true c4
     clear c4
     by_cases c5 : 0 ≤ x5_1
     ·
      rw [if_pos c5] at H
      have c5b0 : decide (0 ≤ x5_1) = true := decide_eq_true c5
      clear c5
      by_cases c6 : x5_1 < (l1.length : Int)
      ·
       rw [if_pos c6] at H
       have c6b0 : decide (x5_1 < (l1.length : Int)) = true := decide_eq_true c6
       clear c6
       by_cases c7 : (rd l0 x5_1) = (rd l1 x5_1)
       ·
        rw [if_pos c7] at H
        have c7b0 : ((rd l0 x5_1) == (rd l1 x5_1)) = true := beq_iff_eq.mpr c7
        have c7b1 : ((rd l0 x5_1) != (rd l1 x5_1)) = false := bne_eq_false_iff_eq.mpr c7
        clear c7
        have H' := Am H
        clear H
        have p308 : 0 ≤ (x5_1 : Int) := of_decide_eq_true (by first | (with_reducible assumption) | assumption)
        have q308 : x5_1 < (l0.length : Int) := of_decide_eq_true (by first | (with_reducible assumption) | assumption)
        obtain ⟨ad308, e308, hx308_0⟩ := Kd.at_int HR0.out x5_1 p308 q308
        cases e308
        replace p308 := eq_true p308
        replace q308 := eq_true q308
        have p309 : 0 ≤ (x5_1 : Int) := of_decide_eq_true (by first | (with_reducible assumption) | assumption)
        have q309 : x5_1 < (l1.length : Int) := of_decide_eq_true (by first | (with_reducible assumption) | assumption)
        obtain ⟨ad309, e309, hx309_0⟩ := Kd.at_int HR1.out x5_1 p309 q309
        cases e309
        replace p309 := eq_true p309
        replace q309 := eq_true q309
        go_wp2
        repeat (go_quiet (fail); try go_wp2)
        go_roundg k1
        case measure => have := HK1.out; omega
        case rel => exact ⟨(wrap64 (x5_1 + 1)), (by first | rfl | (simp; done) | (simp [*]; done)), H', ⟨by have := HK1.out; omega⟩, by repeat (first | exact Drawn0.refl _ | apply Drawn0.step)⟩
       ·
        rw [if_neg c7] at H
        have c7b0 : ((rd l0 x5_1) == (rd l1 x5_1)) = false := beq_eq_false_iff_ne.mpr c7
        have c7b1 : ((rd l0 x5_1) != (rd l1 x5_1)) = true := bne_iff_ne.mpr c7
        obtain rfl := Option.some.inj H
        have p308 : 0 ≤ (x5_1 : Int) := of_decide_eq_true (by first | (with_reducible assumption) | assumption)
        have q308 : x5_1 < (l0.length : Int) := of_decide_eq_true (by first | (with_reducible assumption) | assumption)
        obtain ⟨ad308, e308, hx308_0⟩ := Kd.at_int HR0.out x5_1 p308 q308
        cases e308
        replace p308 := eq_true p308
        replace q308 := eq_true q308
        have p309 : 0 ≤ (x5_1 : Int) := of_decide_eq_true (by first | (with_reducible assumption) | assumption)
        have q309 : x5_1 < (l1.length : Int) := of_decide_eq_true (by first | (with_reducible assumption) | assumption)
        obtain ⟨ad309, e309, hx309_0⟩ := Kd.at_int HR1.out x5_1 p309 q309
        cases e309
        replace p309 := eq_true p309
        replace q309 := eq_true q309
        go_wp2
        repeat (go_quiet (fail); try go_wp2)
        go_ret
        exact ⟨by first | rfl | (simp; done) | (simp [*]; done), by repeat (first | exact Drawn0.refl _ | apply Drawn0.step)⟩
      ·
       rw [if_neg c6] at H
       exact absurd H (by simp)
     ·
      rw [if_neg c5] at H
      exact absurd H (by simp)
    ·
     rw [if_neg c4] at H
     have c4b0 : decide (x5_1 < (l0.length : Int)) = false := decide_eq_false c4
     clear c4
     obtain rfl := Option.some.inj H
     go_wp2
     repeat (go_quiet (fail); try go_wp2)
     go_ret
     exact ⟨by first | rfl | (simp; done) | (simp [*]; done), by repeat (first | exact Drawn0.refl _ | apply Drawn0.step)⟩
 ·
  rw [if_neg c3] at H
  have c3b0 : ((l0.length : Int) == (l1.length : Int)) = false := beq_eq_false_iff_ne.mpr c3
  have c3b1 : ((l0.length : Int) != (l1.length : Int)) = true := bne_iff_ne.mpr c3
  have c3b2 : (l0.length == l1.length) = false := by first | simpa using c3 | (simp at c3 ⊢; omega)
  obtain rfl := Option.some.inj H
  go_enter Try.func18, Try.ntmps18
  go_wp2
  repeat (go_quiet (fail); try go_wp2)
  go_ret
  exact ⟨by first | rfl | (simp; done) | (simp [*]; done), by repeat (first | exact Drawn0.refl _ | apply Drawn0.step)⟩

/-! ### shuttlecockref04_Fits: function 32 -/
def shuttlecockref04_Fits.f (a0 : Int) : Option (Bool) := if a0 ≥ 0 then (some (decide (a0 < 4611686018427387904))) else (some false)
set_option maxHeartbeats 8000000 in
set_option maxRecDepth 100000 in
theorem shuttlecockref04_Fits.calls (a0 : Int) (r : Bool) (w : World) (h : shuttlecockref04_Fits.f a0 = some r) :
  Calls Try.prog 32 #[.int .i64 a0] w fun e w' => e = .returned (.bool r) ∧ Drawn0 w w' := by
 have H : (if a0 ≥ 0 then (some (decide (a0 < 4611686018427387904))) else (some false)) = some r := h
 clear h
 by_cases c2 : a0 ≥ 0
 ·
  rw [if_pos c2] at H
  have c2b0 : decide (0 ≤ a0) = true := decide_eq_true c2
  clear c2
  obtain rfl := Option.some.inj H
  go_enter Try.func32, Try.ntmps32
  go_wp2
  go_ret
  exact ⟨by first | rfl | (simp; done) | (simp [*]; done), by repeat (first | exact Drawn0.refl _ | apply Drawn0.step)⟩
 ·
  rw [if_neg c2] at H
  have c2b0 : decide (0 ≤ a0) = false := decide_eq_false c2
  clear c2
  obtain rfl := Option.some.inj H
  go_enter Try.func32, Try.ntmps32
  go_wp2
  go_ret
  exact ⟨by first | rfl | (simp; done) | (simp [*]; done), by repeat (first | exact Drawn0.refl _ | apply Drawn0.step)⟩

/-! ### shuttlecockref03_Exp: function 40 -/
def shuttlecockref03_Exp.f (a0 : Int) : Option (Bool) := if a0 ≥ 128 then (some (decide (a0 ≤ 255))) else (some false)
set_option maxHeartbeats 8000000 in
set_option maxRecDepth 100000 in
theorem shuttlecockref03_Exp.calls (a0 : Int) (r : Bool) (w : World) (h : shuttlecockref03_Exp.f a0 = some r) :
  Calls Try.prog 40 #[.int .i64 a0] w fun e w' => e = .returned (.bool r) ∧ Drawn0 w w' := by
 have H : (if a0 ≥ 128 then (some (decide (a0 ≤ 255))) else (some false)) = some r := h
 clear h
 by_cases c2 : a0 ≥ 128
 ·
  rw [if_pos c2] at H
  have c2b0 : decide (128 ≤ a0) = true := decide_eq_true c2
  clear c2
  obtain rfl := Option.some.inj H
  go_enter Try.func40, Try.ntmps40
  go_wp2
  go_ret
  exact ⟨by first | rfl | (simp; done) | (simp [*]; done), by repeat (first | exact Drawn0.refl _ | apply Drawn0.step)⟩
 ·
  rw [if_neg c2] at H
  have c2b0 : decide (128 ≤ a0) = false := decide_eq_false c2
  clear c2
  obtain rfl := Option.some.inj H
  go_enter Try.func40, Try.ntmps40
  go_wp2
  go_ret
  exact ⟨by first | rfl | (simp; done) | (simp [*]; done), by repeat (first | exact Drawn0.refl _ | apply Drawn0.step)⟩

/-! ### shuttlecockref03_Known: function 41 -/
def shuttlecockref03_Known.f (a0 : Int) : Option (Bool) := if a0 ≥ 1 then (some (decide (a0 < 11))) else (some false)
set_option maxHeartbeats 8000000 in
set_option maxRecDepth 100000 in
theorem shuttlecockref03_Known.calls (a0 : Int) (r : Bool) (w : World) (h : shuttlecockref03_Known.f a0 = some r) :
  Calls Try.prog 41 #[.int .i64 a0] w fun e w' => e = .returned (.bool r) ∧ Drawn0 w w' := by
 have H : (if a0 ≥ 1 then (some (decide (a0 < 11))) else (some false)) = some r := h
 clear h
 by_cases c2 : a0 ≥ 1
 ·
  rw [if_pos c2] at H
  have c2b0 : decide (1 ≤ a0) = true := decide_eq_true c2
  clear c2
  obtain rfl := Option.some.inj H
  go_enter Try.func41, Try.ntmps41
  go_wp2
  go_ret
  exact ⟨by first | rfl | (simp; done) | (simp [*]; done), by repeat (first | exact Drawn0.refl _ | apply Drawn0.step)⟩
 ·
  rw [if_neg c2] at H
  have c2b0 : decide (1 ≤ a0) = false := decide_eq_false c2
  clear c2
  obtain rfl := Option.some.inj H
  go_enter Try.func41, Try.ntmps41
  go_wp2
  go_ret
  exact ⟨by first | rfl | (simp; done) | (simp [*]; done), by repeat (first | exact Drawn0.refl _ | apply Drawn0.step)⟩

/-! ### shuttlecockref03_Args: function 42 -/
def shuttlecockref03_Args.j0 : Nat → Int → Bool → Option (List Int)
 | 0, _, _ => none
 | k + 1, x3, x13 => if x13 = true then (some (([3, 4] : List Int))) else (if x3 = 7 then (some (([1, 2, 4] : List Int))) else (if x3 = 9 then (some (([4] : List Int))) else (if x3 = 10 then (some (([5, 2] : List Int))) else (some ([] : List Int)))))
def shuttlecockref03_Args.f (k : Nat) (a0 : Int) : Option (List Int) := if a0 = 1 then (some (([0, 2] : List Int))) else (if a0 = 3 then (some (([1, 4] : List Int))) else (if a0 = 4 then (some (([1, 2] : List Int))) else (if a0 = 5 then (shuttlecockref03_Args.j0 k a0 (a0 == 5)) else (shuttlecockref03_Args.j0 k a0 (a0 == 6)))))
theorem shuttlecockref03_Args.mono_l : ∀ k, (∀ y0 y1, LeO (shuttlecockref03_Args.j0 k y0 y1) (shuttlecockref03_Args.j0 (k + 1) y0 y1))
 | 0 => fun _ _ r h => by simp [shuttlecockref03_Args.j0] at h
 | k + 1 => by
  have ih0 := shuttlecockref03_Args.mono_l k
  ·
   intro y0 y1
   unfold shuttlecockref03_Args.j0
   repeat' first
   | (with_reducible exact ih0 _ _)
   | (with_reducible exact LeO.refl _)
   | (with_reducible exact LeO.none _)
   | (with_reducible refine LeO.ite ?_ ?_)
   | (with_reducible refine LeO.bind ?_ (fun _ => ?_))
   | exact LeO.none _
   | refine LeO.ite ?_ ?_
   | refine LeO.bind ?_ (fun _ => ?_)
theorem shuttlecockref03_Args.mono : ∀ a0 k, LeO (shuttlecockref03_Args.f k a0) (shuttlecockref03_Args.f (k + 1) a0) := by
 intro a0 k
 have ih0 := shuttlecockref03_Args.mono_l k
 unfold shuttlecockref03_Args.f
 repeat' first
   | (with_reducible exact ih0 _ _)
   | (with_reducible exact LeO.refl _)
   | (with_reducible exact LeO.none _)
   | (with_reducible refine LeO.ite ?_ ?_)
   | (with_reducible refine LeO.bind ?_ (fun _ => ?_))
   | exact LeO.none _
   | refine LeO.ite ?_ ?_
   | refine LeO.bind ?_ (fun _ => ?_)
set_option maxHeartbeats 8000000 in
set_option maxRecDepth 100000 in
theorem shuttlecockref03_Args.calls (k : Nat) (a0 : Int) (r : List Int) (w : World) (h : shuttlecockref03_Args.f k a0 = some r) :
  Calls Try.prog 42 #[.int .i64 a0] w fun e w' => ∃ v0_ : Value, e = .returned (v0_) ∧ Kd.R (Kd.int .i64) 3 w' w.heap.size (fun _ => True) v0_ r ∧ Below w.heap.size w w' := by
 have HB := Am (Below.refl w.heap.size w)
 have H : (if a0 = 1 then (some (([0, 2] : List Int))) else (if a0 = 3 then (some (([1, 4] : List Int))) else (if a0 = 4 then (some (([1, 2] : List Int))) else (if a0 = 5 then (shuttlecockref03_Args.j0 k a0 (a0 == 5)) else (shuttlecockref03_Args.j0 k a0 (a0 == 6)))))) = some r := h
 clear h
 by_cases c2 : a0 = 1
 ·
  rw [if_pos c2] at H
  have c2b0 : (a0 == 1) = true := beq_iff_eq.mpr c2
  have c2b1 : (a0 != 1) = false := bne_eq_false_iff_eq.mpr c2
  clear c2
  obtain ⟨y310, hy310⟩ : ∃ y_ : List Int, y_ = (([0, 2] : List Int)) := ⟨_, rfl⟩
  replace H : (some y310) = some r := by first | (rw [hy310]; with_reducible exact H) | (have H2_ := (Option.bind_some _ _).symm.trans H; rw [hy310]; with_reducible exact H2_) | (have H2_ := (Option.bind_some _ _).symm.trans H; with_reducible exact H2_) | with_reducible exact H | (rw [hy310]; exact H) | exact H
  have Ny310 := Am hy310
  clear hy310
  obtain rfl := Option.some.inj H
  go_enter Try.func42, Try.ntmps42
  go_wp2_with (first | ((with_reducible refine gate_dst (N := 6) rfl ?_); refine Kd.R_lit (Kd.int .i64) _ 3 ?hg (N := 6) ?hd (xs := ([0, 2] : List Int)) (inner := [.int .i64 0, .int .i64 2]) (ok := fun _ => True) (okp := fun _ => True) ?hr ?hp (fun _ hk => hk) trivial (Below.refl _ _) (Nat.le_refl _) (by simp) ?_; (case hd => rfl); (case hg => rfl); (case hr => first | (go_simp; done) | (go_simp; rfl)); (case hp => exact (Reps.one (show Kd.M (Kd.int .i64) _ _ _ 0 [.int .i64 0] from rfl) (Reps.one (show Kd.M (Kd.int .i64) _ _ _ 2 [.int .i64 2] from rfl) (Reps.none _ _)))); intro v311 w3 ho4 hb hg_ hnew_; clear hg_ hnew_; (first | rw [← Ny310.out] at ho4 | (simp only [Int.reduceToNat] at ho4; rw [← Ny310.out] at ho4)); have HO312 := Am (Kd.R_lower ho4 (below_size (by repeat (first | (with_reducible first | exact HB.out | apply bl | apply pN | apply b1) | exact HB.out | exact HBo.out)))); replace HB := Am (below_step (by repeat (first | (with_reducible first | exact HB.out | apply bl | apply pN | apply b1) | exact HB.out | exact HBo.out)) hb); clear hb ho4))
  go_ret
  exact ⟨_, by first | rfl | (simp <;> rfl) | (simp [*] <;> rfl) | (simp [Aid.ne_nil, Aid.eq_nil]; done), by (with_reducible repeat (first | apply Kd.R_alloc | apply Kd.R_drewN | apply Kd.R_drew)); exact HO312.out, by repeat (first | (with_reducible first | exact HB.out | apply bl | apply pN | apply b1) | exact HB.out | exact HBo.out)⟩
 ·
  rw [if_neg c2] at H
  have c2b0 : (a0 == 1) = false := beq_eq_false_iff_ne.mpr c2
  have c2b1 : (a0 != 1) = true := bne_iff_ne.mpr c2
  by_cases c5 : a0 = 3
  ·
   rw [if_pos c5] at H
   have c5b0 : (a0 == 3) = true := beq_iff_eq.mpr c5
   have c5b1 : (a0 != 3) = false := bne_eq_false_iff_eq.mpr c5
   clear c5
   obtain ⟨y313, hy313⟩ : ∃ y_ : List Int, y_ = (([1, 4] : List Int)) := ⟨_, rfl⟩
   replace H : (some y313) = some r := by first | (rw [hy313]; with_reducible exact H) | (have H2_ := (Option.bind_some _ _).symm.trans H; rw [hy313]; with_reducible exact H2_) | (have H2_ := (Option.bind_some _ _).symm.trans H; with_reducible exact H2_) | with_reducible exact H | (rw [hy313]; exact H) | exact H
   have Ny313 := Am hy313
   clear hy313
   obtain rfl := Option.some.inj H
   go_enter Try.func42, Try.ntmps42
   go_wp2_with (first | ((with_reducible refine gate_dst (N := 9) rfl ?_); refine Kd.R_lit (Kd.int .i64) _ 3 ?hg (N := 9) ?hd (xs := ([1, 4] : List Int)) (inner := [.int .i64 1, .int .i64 4]) (ok := fun _ => True) (okp := fun _ => True) ?hr ?hp (fun _ hk => hk) trivial (Below.refl _ _) (Nat.le_refl _) (by simp) ?_; (case hd => rfl); (case hg => rfl); (case hr => first | (go_simp; done) | (go_simp; rfl)); (case hp => exact (Reps.one (show Kd.M (Kd.int .i64) _ _ _ 1 [.int .i64 1] from rfl) (Reps.one (show Kd.M (Kd.int .i64) _ _ _ 4 [.int .i64 4] from rfl) (Reps.none _ _)))); intro v314 w6 ho7 hb hg_ hnew_; clear hg_ hnew_; (first | rw [← Ny313.out] at ho7 | (simp only [Int.reduceToNat] at ho7; rw [← Ny313.out] at ho7)); have HO315 := Am (Kd.R_lower ho7 (below_size (by repeat (first | (with_reducible first | exact HB.out | apply bl | apply pN | apply b1) | exact HB.out | exact HBo.out)))); replace HB := Am (below_step (by repeat (first | (with_reducible first | exact HB.out | apply bl | apply pN | apply b1) | exact HB.out | exact HBo.out)) hb); clear hb ho7))
   go_ret
   exact ⟨_, by first | rfl | (simp <;> rfl) | (simp [*] <;> rfl) | (simp [Aid.ne_nil, Aid.eq_nil]; done), by (with_reducible repeat (first | apply Kd.R_alloc | apply Kd.R_drewN | apply Kd.R_drew)); exact HO315.out, by repeat (first | (with_reducible first | exact HB.out | apply bl | apply pN | apply b1) | exact HB.out | exact HBo.out)⟩
  ·
   rw [if_neg c5] at H
   have c5b0 : (a0 == 3) = false := beq_eq_false_iff_ne.mpr c5
   have c5b1 : (a0 != 3) = true := bne_iff_ne.mpr c5
   by_cases c8 : a0 = 4
   ·
    rw [if_pos c8] at H
    have c8b0 : (a0 == 4) = true := beq_iff_eq.mpr c8
    have c8b1 : (a0 != 4) = false := bne_eq_false_iff_eq.mpr c8
    clear c8
    obtain ⟨y316, hy316⟩ : ∃ y_ : List Int, y_ = (([1, 2] : List Int)) := ⟨_, rfl⟩
    replace H : (some y316) = some r := by first | (rw [hy316]; with_reducible exact H) | (have H2_ := (Option.bind_some _ _).symm.trans H; rw [hy316]; with_reducible exact H2_) | (have H2_ := (Option.bind_some _ _).symm.trans H; with_reducible exact H2_) | with_reducible exact H | (rw [hy316]; exact H) | exact H
    have Ny316 := Am hy316
    clear hy316
    obtain rfl := Option.some.inj H
    go_enter Try.func42, Try.ntmps42
    go_wp2_with (first | ((with_reducible refine gate_dst (N := 12) rfl ?_); refine Kd.R_lit (Kd.int .i64) _ 3 ?hg (N := 12) ?hd (xs := ([1, 2] : List Int)) (inner := [.int .i64 1, .int .i64 2]) (ok := fun _ => True) (okp := fun _ => True) ?hr ?hp (fun _ hk => hk) trivial (Below.refl _ _) (Nat.le_refl _) (by simp) ?_; (case hd => rfl); (case hg => rfl); (case hr => first | (go_simp; done) | (go_simp; rfl)); (case hp => exact (Reps.one (show Kd.M (Kd.int .i64) _ _ _ 1 [.int .i64 1] from rfl) (Reps.one (show Kd.M (Kd.int .i64) _ _ _ 2 [.int .i64 2] from rfl) (Reps.none _ _)))); intro v317 w9 ho10 hb hg_ hnew_; clear hg_ hnew_; (first | rw [← Ny316.out] at ho10 | (simp only [Int.reduceToNat] at ho10; rw [← Ny316.out] at ho10)); have HO318 := Am (Kd.R_lower ho10 (below_size (by repeat (first | (with_reducible first | exact HB.out | apply bl | apply pN | apply b1) | exact HB.out | exact HBo.out)))); replace HB := Am (below_step (by repeat (first | (with_reducible first | exact HB.out | apply bl | apply pN | apply b1) | exact HB.out | exact HBo.out)) hb); clear hb ho10))
    go_ret
    exact ⟨_, by first | rfl | (simp <;> rfl) | (simp [*] <;> rfl) | (simp [Aid.ne_nil, Aid.eq_nil]; done), by (with_reducible repeat (first | apply Kd.R_alloc | apply Kd.R_drewN | apply Kd.R_drew)); exact HO318.out, by repeat (first | (with_reducible first | exact HB.out | apply bl | apply pN | apply b1) | exact HB.out | exact HBo.out)⟩
   ·
    rw [if_neg c8] at H
    have c8b0 : (a0 == 4) = false := beq_eq_false_iff_ne.mpr c8
    have c8b1 : (a0 != 4) = true := bne_iff_ne.mpr c8
    have HC11 := Am H
    clear H
    go_enter Try.func42, Try.ntmps42
    go_upto_if 13 with (fail)
    go_cut [13] (fun v13 wc => ∃ (kq : Nat) (x13_10 : Bool), v13 = .bool x13_10 ∧ Aside0 (shuttlecockref03_Args.j0 kq a0 x13_10 = some r) ∧ Aside0 (kq ≤ k) ∧ Aside0 (Below w.heap.size w wc))
    case first =>
     have H := HC11.out
     clear HC11
     by_cases c12 : a0 = 5
     ·
      rw [if_pos c12] at H
      have c12b0 : (a0 == 5) = true := beq_iff_eq.mpr c12
      have c12b1 : (a0 != 5) = false := bne_eq_false_iff_eq.mpr c12
      clear c12
      (first | rw [c12b0] | (simp only [i64_w, i32_w]; rw [c12b0]) | skip)
      have H' := Am H
      clear H
      go_wp2
      go_meet
      case rel => exact ⟨_, ((a0 == 5)), (by first | rfl | (simp; done) | (simp [*]; done)), H', ⟨by first | omega | exact Nat.le_refl _⟩, ⟨by repeat (first | (with_reducible first | exact HB.out | apply bl | apply pN | apply b1) | exact HB.out | exact HBo.out)⟩⟩
     ·
      rw [if_neg c12] at H
      have c12b0 : (a0 == 5) = false := beq_eq_false_iff_ne.mpr c12
      have c12b1 : (a0 != 5) = true := bne_iff_ne.mpr c12
      (first | rw [c12b0] | (simp only [i64_w, i32_w]; rw [c12b0]) | skip)
      have H' := Am H
      clear H
      go_wp2
      go_meet
      case rel => exact ⟨_, ((a0 == 6)), (by first | rfl | (simp; done) | (simp [*]; done)), H', ⟨by first | omega | exact Nat.le_refl _⟩, ⟨by repeat (first | (with_reducible first | exact HB.out | apply bl | apply pN | apply b1) | exact HB.out | exact HBo.out)⟩⟩
    case rest =>
     clear HC11
     try clear c1
     try clear c2
     try clear c2b0
     try clear c2b1
     try clear p2
     try clear c4
     try clear c5
     try clear c5b0
     try clear c5b1
     try clear c8
     try clear c8b0
     try clear c8b1
     try clear c12
     try clear c12b0
     try clear c12b1
     obtain ⟨kq, x13_10, rfl, HA, HJ10, HB⟩ := hcut
     cases kq with
     | zero => exact absurd HA.out (by simp [shuttlecockref03_Args.j0])
     | succ kj10 =>
      have H := HA.out
      clear HA
      simp only [shuttlecockref03_Args.j0] at H
      by_cases c13 : x13_10 = true
      ·
       subst c13
       rw [if_pos rfl] at H
       obtain ⟨y319, hy319⟩ : ∃ y_ : List Int, y_ = (([3, 4] : List Int)) := ⟨_, rfl⟩
       replace H : (some y319) = some r := by first | (rw [hy319]; with_reducible exact H) | (have H2_ := (Option.bind_some _ _).symm.trans H; rw [hy319]; with_reducible exact H2_) | (have H2_ := (Option.bind_some _ _).symm.trans H; with_reducible exact H2_) | with_reducible exact H | (rw [hy319]; exact H) | exact H
       have Ny319 := Am hy319
       clear hy319
       obtain rfl := Option.some.inj H
       go_wp2_with (first | ((with_reducible refine gate_dst (N := 16) rfl ?_); refine Kd.R_lit (Kd.int .i64) _ 3 ?hg (N := 16) ?hd (xs := ([3, 4] : List Int)) (inner := [.int .i64 3, .int .i64 4]) (ok := fun _ => True) (okp := fun _ => True) ?hr ?hp (fun _ hk => hk) trivial (Below.refl _ _) (Nat.le_refl _) (by simp) ?_; (case hd => rfl); (case hg => rfl); (case hr => first | (go_simp; done) | (go_simp; rfl)); (case hp => exact (Reps.one (show Kd.M (Kd.int .i64) _ _ _ 3 [.int .i64 3] from rfl) (Reps.one (show Kd.M (Kd.int .i64) _ _ _ 4 [.int .i64 4] from rfl) (Reps.none _ _)))); intro v320 w14 ho15 hb hg_ hnew_; clear hg_ hnew_; (first | rw [← Ny319.out] at ho15 | (simp only [Int.reduceToNat] at ho15; rw [← Ny319.out] at ho15)); have HO321 := Am (Kd.R_lower ho15 (below_size (by repeat (first | (with_reducible first | exact HB.out | apply bl | apply pN | apply b1) | exact HB.out | exact HBo.out)))); replace HB := Am (below_step (by repeat (first | (with_reducible first | exact HB.out | apply bl | apply pN | apply b1) | exact HB.out | exact HBo.out)) hb); clear hb ho15))
       go_ret
       exact ⟨_, by first | rfl | (simp <;> rfl) | (simp [*] <;> rfl) | (simp [Aid.ne_nil, Aid.eq_nil]; done), by (with_reducible repeat (first | apply Kd.R_alloc | apply Kd.R_drewN | apply Kd.R_drew)); exact HO321.out, by repeat (first | (with_reducible first | exact HB.out | apply bl | apply pN | apply b1) | exact HB.out | exact HBo.out)⟩
      ·
       replace c13 := Bool.eq_false_iff.mpr c13
       subst c13
       rw [if_neg (show ¬ (false = true) by decide)] at H
       by_cases c16 : a0 = 7
       ·
        rw [if_pos c16] at H
        have c16b0 : (a0 == 7) = true := beq_iff_eq.mpr c16
        have c16b1 : (a0 != 7) = false := bne_eq_false_iff_eq.mpr c16
        clear c16
        obtain ⟨y322, hy322⟩ : ∃ y_ : List Int, y_ = (([1, 2, 4] : List Int)) := ⟨_, rfl⟩
        replace H : (some y322) = some r := by first | (rw [hy322]; with_reducible exact H) | (have H2_ := (Option.bind_some _ _).symm.trans H; rw [hy322]; with_reducible exact H2_) | (have H2_ := (Option.bind_some _ _).symm.trans H; with_reducible exact H2_) | with_reducible exact H | (rw [hy322]; exact H) | exact H
        have Ny322 := Am hy322
        clear hy322
        obtain rfl := Option.some.inj H
        go_wp2_with (first | ((with_reducible refine gate_dst (N := 19) rfl ?_); refine Kd.R_lit (Kd.int .i64) _ 3 ?hg (N := 19) ?hd (xs := ([1, 2, 4] : List Int)) (inner := [.int .i64 1, .int .i64 2, .int .i64 4]) (ok := fun _ => True) (okp := fun _ => True) ?hr ?hp (fun _ hk => hk) trivial (Below.refl _ _) (Nat.le_refl _) (by simp) ?_; (case hd => rfl); (case hg => rfl); (case hr => first | (go_simp; done) | (go_simp; rfl)); (case hp => exact (Reps.one (show Kd.M (Kd.int .i64) _ _ _ 1 [.int .i64 1] from rfl) (Reps.one (show Kd.M (Kd.int .i64) _ _ _ 2 [.int .i64 2] from rfl) (Reps.one (show Kd.M (Kd.int .i64) _ _ _ 4 [.int .i64 4] from rfl) (Reps.none _ _))))); intro v323 w17 ho18 hb hg_ hnew_; clear hg_ hnew_; (first | rw [← Ny322.out] at ho18 | (simp only [Int.reduceToNat] at ho18; rw [← Ny322.out] at ho18)); have HO324 := Am (Kd.R_lower ho18 (below_size (by repeat (first | (with_reducible first | exact HB.out | apply bl | apply pN | apply b1) | exact HB.out | exact HBo.out)))); replace HB := Am (below_step (by repeat (first | (with_reducible first | exact HB.out | apply bl | apply pN | apply b1) | exact HB.out | exact HBo.out)) hb); clear hb ho18))
        go_ret
        exact ⟨_, by first | rfl | (simp <;> rfl) | (simp [*] <;> rfl) | (simp [Aid.ne_nil, Aid.eq_nil]; done), by (with_reducible repeat (first | apply Kd.R_alloc | apply Kd.R_drewN | apply Kd.R_drew)); exact HO324.out, by repeat (first | (with_reducible first | exact HB.out | apply bl | apply pN | apply b1) | exact HB.out | exact HBo.out)⟩
       ·
        rw [if_neg c16] at H
        have c16b0 : (a0 == 7) = false := beq_eq_false_iff_ne.mpr c16
        have c16b1 : (a0 != 7) = true := bne_iff_ne.mpr c16
        by_cases c19 : a0 = 9
        ·
         rw [if_pos c19] at H
         have c19b0 : (a0 == 9) = true := beq_iff_eq.mpr c19
         have c19b1 : (a0 != 9) = false := bne_eq_false_iff_eq.mpr c19
         clear c19
         obtain ⟨y325, hy325⟩ : ∃ y_ : List Int, y_ = (([4] : List Int)) := ⟨_, rfl⟩
         replace H : (some y325) = some r := by first | (rw [hy325]; with_reducible exact H) | (have H2_ := (Option.bind_some _ _).symm.trans H; rw [hy325]; with_reducible exact H2_) | (have H2_ := (Option.bind_some _ _).symm.trans H; with_reducible exact H2_) | with_reducible exact H | (rw [hy325]; exact H) | exact H
         have Ny325 := Am hy325
         clear hy325
         obtain rfl := Option.some.inj H
         go_wp2_with (first | ((with_reducible refine gate_dst (N := 22) rfl ?_); refine Kd.R_lit (Kd.int .i64) _ 3 ?hg (N := 22) ?hd (xs := ([4] : List Int)) (inner := [.int .i64 4]) (ok := fun _ => True) (okp := fun _ => True) ?hr ?hp (fun _ hk => hk) trivial (Below.refl _ _) (Nat.le_refl _) (by simp) ?_; (case hd => rfl); (case hg => rfl); (case hr => first | (go_simp; done) | (go_simp; rfl)); (case hp => exact (Reps.one (show Kd.M (Kd.int .i64) _ _ _ 4 [.int .i64 4] from rfl) (Reps.none _ _))); intro v326 w20 ho21 hb hg_ hnew_; clear hg_ hnew_; (first | rw [← Ny325.out] at ho21 | (simp only [Int.reduceToNat] at ho21; rw [← Ny325.out] at ho21)); have HO327 := Am (Kd.R_lower ho21 (below_size (by repeat (first | (with_reducible first | exact HB.out | apply bl | apply pN | apply b1) | exact HB.out | exact HBo.out)))); replace HB := Am (below_step (by repeat (first | (with_reducible first | exact HB.out | apply bl | apply pN | apply b1) | exact HB.out | exact HBo.out)) hb); clear hb ho21))
         go_ret
         exact ⟨_, by first | rfl | (simp <;> rfl) | (simp [*] <;> rfl) | (simp [Aid.ne_nil, Aid.eq_nil]; done), by (with_reducible repeat (first | apply Kd.R_alloc | apply Kd.R_drewN | apply Kd.R_drew)); exact HO327.out, by repeat (first | (with_reducible first | exact HB.out | apply bl | apply pN | apply b1) | exact HB.out | exact HBo.out)⟩
        ·
         rw [if_neg c19] at H
         have c19b0 : (a0 == 9) = false := beq_eq_false_iff_ne.mpr c19
         have c19b1 : (a0 != 9) = true := bne_iff_ne.mpr c19
         by_cases c22 : a0 = 10
         ·
          rw [if_pos c22] at H
          have c22b0 : (a0 == 10) = true := beq_iff_eq.mpr c22
          have c22b1 : (a0 != 10) = false := bne_eq_false_iff_eq.mpr c22
          clear c22
          obtain ⟨y328, hy328⟩ : ∃ y_ : List Int, y_ = (([5, 2] : List Int)) := ⟨_, rfl⟩
          replace H : (some y328) = some r := by first | (rw [hy328]; with_reducible exact H) | (have H2_ := (Option.bind_some _ _).symm.trans H; rw [hy328]; with_reducible exact H2_) | (have H2_ := (Option.bind_some _ _).symm.trans H; with_reducible exact H2_) | with_reducible exact H | (rw [hy328]; exact H) | exact H
          have Ny328 := Am hy328
          clear hy328
          obtain rfl := Option.some.inj H
          go_wp2_with (first | ((with_reducible refine gate_dst (N := 25) rfl ?_); refine Kd.R_lit (Kd.int .i64) _ 3 ?hg (N := 25) ?hd (xs := ([5, 2] : List Int)) (inner := [.int .i64 5, .int .i64 2]) (ok := fun _ => True) (okp := fun _ => True) ?hr ?hp (fun _ hk => hk) trivial (Below.refl _ _) (Nat.le_refl _) (by simp) ?_; (case hd => rfl); (case hg => rfl); (case hr => first | (go_simp; done) | (go_simp; rfl)); (case hp => exact (Reps.one (show Kd.M (Kd.int .i64) _ _ _ 5 [.int .i64 5] from rfl) (Reps.one (show Kd.M (Kd.int .i64) _ _ _ 2 [.int .i64 2] from rfl) (Reps.none _ _)))); intro v329 w23 ho24 hb hg_ hnew_; clear hg_ hnew_; (first | rw [← Ny328.out] at ho24 | (simp only [Int.reduceToNat] at ho24; rw [← Ny328.out] at ho24)); have HO330 := Am (Kd.R_lower ho24 (below_size (by repeat (first | (with_reducible first | exact HB.out | apply bl | apply pN | apply b1) | exact HB.out | exact HBo.out)))); replace HB := Am (below_step (by repeat (first | (with_reducible first | exact HB.out | apply bl | apply pN | apply b1) | exact HB.out | exact HBo.out)) hb); clear hb ho24))
          go_ret
          exact ⟨_, by first | rfl | (simp <;> rfl) | (simp [*] <;> rfl) | (simp [Aid.ne_nil, Aid.eq_nil]; done), by (with_reducible repeat (first | apply Kd.R_alloc | apply Kd.R_drewN | apply Kd.R_drew)); exact HO330.out, by repeat (first | (with_reducible first | exact HB.out | apply bl | apply pN | apply b1) | exact HB.out | exact HBo.out)⟩
         ·
          rw [if_neg c22] at H
          have c22b0 : (a0 == 10) = false := beq_eq_false_iff_ne.mpr c22
          have c22b1 : (a0 != 10) = true := bne_iff_ne.mpr c22
          obtain rfl := Option.some.inj H
          go_wp2
          go_ret
          exact ⟨_, by first | rfl | (simp <;> rfl) | (simp [*] <;> rfl) | (simp [Aid.ne_nil, Aid.eq_nil]; done), by first | exact Kd.R_nil _ _ _ _ _ | exact Kd.N_nil _ _ _ _ _ | exact Kd.V_nil _ _ _ _ _ | exact Kd.Q_nil _ _ _ _ _ | exact Kd.S_nil _ _ _ _ _, by repeat (first | (with_reducible first | exact HB.out | apply bl | apply pN | apply b1) | exact HB.out | exact HBo.out)⟩

end Go.Proofs.Ytfcombimnmkoeaa.Q
