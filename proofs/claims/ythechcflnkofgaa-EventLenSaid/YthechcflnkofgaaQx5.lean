-- printed by a program of this session (NOTES: hprint); not the kit's print
-- minified
-- halved
import Derived.Test.YthechcflnkofgaaAl
import Derived.Test.YthechcflnkofgaaQx0
import Derived.Test.YthechcflnkofgaaQx1
import Derived.Test.YthechcflnkofgaaQx4
namespace Go.Proofs.Ythechcflnkofgaa.Q
open Go.RowKit Go.Proofs.YthechcflnkofgaaW.PrintWords Go.Proofs.YthechcflnkofgaaW.PrintLast Go.Proofs.YthechcflnkofgaaW.PrintMore
attribute [local go_sem] max2_int min2_int max_two min_two max_three min_three max_four min_four   -- for this text's walks alone
set_option linter.unusedVariables false
set_option linter.unusedSimpArgs false

def q5_0 : Array Bool := let o := true; let z := false; #[z,z,z,z,z,z,z,z,z,z,z,z,z,z,z,z,z,z,z,z,z,z,z,z,z]
def q5_1 : Array Bool := let o := true; let z := false; #[o,z,z,z,z,z,z,z,z,z,z,z,z,z,z,z,z,z,z,z,z,z,z,z,z]
def q5_2 : Array Bool := let o := true; let z := false; #[o,o,z,z,z,z,z,z,z,z,z,z,z,z,z,z,z,z,z,z,z,z,z,z,z]
def q5_3 : Array Bool := let o := true; let z := false; #[o,o,o,z,z,z,z,z,z,z,z,z,z,z,z,z,z,z,z,z,z,z,z,z,z]
def q5_4 : Array Bool := let o := true; let z := false; #[o,o,o,o,z,z,z,z,z,z,z,z,z,z,z,z,z,z,z,z,z,z,z,z,z]
def q5_5 : Array Bool := let o := true; let z := false; #[o,o,o,o,o,o,o,z,z,z,z,z,z,z,z,z,z,z,z,z,z,z,z,z,z]
def q5_6 : Array Bool := let o := true; let z := false; #[o,o,o,o,o,o,o,o,z,z,z,z,z,z,z,z,z,z,z,z,z,z,z,z,z]
def q5_7 : Array Bool := let o := true; let z := false; #[o,o,o,o,o,o,o,o,o,z,z,z,z,z,z,z,z,z,z,z,z,z,z,z,z]
def q5_8 : Array Bool := let o := true; let z := false; #[o,o,o,o,o,o,o,o,o,o,o,o,o,o,o,o,o,z,z,z,z,z,z,z,z]
def q5_9 : Array Bool := let o := true; let z := false; #[o,o,o,o,o,o,o,o,o,o,o,o,o,o,o,o,o,o,z,z,z,z,z,z,z]
def q5_10 : Array Bool := let o := true; let z := false; #[o,o,o,o,o,o,o,o,o,o,o,o,o,o,o,o,o,o,o,z,z,z,z,z,z]
def q5_11 : Array Bool := let o := true; let z := false; #[o,o,o,o,o,o,o,o,o,o,o,o,o,o,o,o,o,o,o,o,o,o,o,z,z]
def q5_12 : Array Bool := let o := true; let z := false; #[o,o,o,o,o,o,o,o,o,o,o,o,o,o,o,o,o,o,o,o,o,o,o,o,z]
def q5_13 : Array Bool := let o := true; let z := false; #[o,o,o,o,o,o,o,o,o,o,o,o,o,o,o,o,o,o,o,o,o,o,o,o,o]
def q5_14 : Array Bool := let o := true; let z := false; #[o,o,o,o,o,z,z,z,z,z,z,z,z,z,z,z,z,z,z,z,z,z,z,z,z]
def q5_15 : Array Bool := let o := true; let z := false; #[o,o,o,o,o,o,z,z,z,z,z,z,z,z,z,z,z,z,z,z,z,z,z,z,z]
def q5_16 : Array Bool := let o := true; let z := false; #[o,o,o,o,o,o,o,o,o,o,z,z,z,z,z,z,z,z,z,z,z,z,z,z,z]
def q5_17 : Array Bool := let o := true; let z := false; #[o,o,o,o,o,o,o,o,o,o,z,z,o,z,z,z,z,z,z,z,z,z,z,z,z]
def q5_18 : Array Bool := let o := true; let z := false; #[o,o,o,o,o,o,o,o,o,o,o,z,o,z,z,z,z,z,z,z,z,z,z,z,z]
def q5_19 : Array Bool := let o := true; let z := false; #[o,o,o,o,o,o,o,o,o,o,o,o,o,z,z,z,z,z,z,z,z,z,z,z,z]
def q5_20 : Array Bool := let o := true; let z := false; #[o,o,o,o,o,o,o,o,o,o,o,o,o,o,z,z,z,z,z,z,z,z,z,z,z]
def q5_21 : Array Bool := let o := true; let z := false; #[o,o,o,o,o,o,o,o,o,o,o,o,o,o,o,z,z,z,z,z,z,z,z,z,z]
def q5_22 : Array Bool := let o := true; let z := false; #[o,o,o,o,o,o,o,o,o,o,o,o,o,o,o,o,z,z,z,z,z,z,z,z,z]
def q5_23 : Array Bool := let o := true; let z := false; #[o,o,o,o,o,o,o,o,o,o,o,o,o,o,o,o,o,o,o,o,z,z,z,z,z]
def q5_24 : Array Bool := let o := true; let z := false; #[o,o,o,o,o,o,o,o,o,o,o,o,o,o,o,o,o,o,o,o,o,z,z,z,z]
def q5_25 : Array Bool := let o := true; let z := false; #[o,o,o,o,o,o,o,o,o,o,o,o,o,o,o,o,o,o,o,o,o,o,z,z,z]
/-! ### event_May: function 12, by hand -/
def event_May.T5 : Bool × List (List Nat × List Nat) := (true, [([], []), ([0], [0]), ([1], [1]), ([2, 2], [2]), ([3], [3]), ([4, 3], [3, 4]), ([5, 3], [3, 5]), ([3, 6], [3, 6]), ([7, 3], [7]), ([8], [8]), ([9, 8], [8, 9]), ([10, 8], [8, 10]), ([8], [8]), ([12, 8], [8, 12]), ([13, 8, 8], [8, 13]), ([14, 8], [8, 14]), ([11, 15, 8], [8, 11, 15]), ([8, 16], [8, 16]), ([17, 14], [17]), ([18], [18]), ([19, 18], [18, 19]), ([20, 18, 18], [18, 20]), ([21, 18], [18, 21]), ([18, 22], [18, 22]), ([23, 21, 0, 1, 2, 3, 4, 5, 6, 7, 8, 9, 10, 11, 12, 13, 14, 15, 16, 17, 18, 19, 20, 21, 22, 23], [23])])
def event_May.B5 : List Nat := [0, 1, 3, 7, 15, 31, 63, 127, 255, 511, 1023, 2047, 511, 4607, 12799, 29183, 65535, 131071, 262143, 524287, 1048575, 2097151, 4194303, 8388607, 16777215]
theorem event_May.tab5 : rtab .any (opsOf Try.f12 5) = event_May.T5 := by kernel_rfl
theorem event_May.bits5 : waitsOk event_May.T5.2 event_May.B5 = true := by kernel_rfl
def fitsE (a : Int) : Bool := if a ≥ 0 then decide (a < 4611686018427387904) else false
def expE (a : Int) : Bool := if a ≥ 128 then decide (a < 256) else false
theorem fitsE_f (a : Int) : event_fits.f a = some (fitsE a) := by
 unfold event_fits.f fitsE
 split <;> rfl
theorem expE_f (a : Int) : kind_Exp.f a = some (expE a) := by
 unfold kind_Exp.f expE
 split <;> rfl
def outE (a : Int) : Bool := !fitsE a
set_option maxHeartbeats 2000000 in
set_option maxRecDepth 100000 in
theorem outE.calls (a : Int) (w : World) : Calls Try.prog 31 #[.int .i64 a] w fun e w' => e = .returned (.bool (outE a)) ∧ Below w.heap.size w w' := by
 have H := Am (event_fits.calls a (fitsE a) w (fitsE_f a))
 go_enter Try.func31, Try.ntmps31
 go_wp2_with (first | (go_at_call 26; (with_reducible refine H.out.mono ?_); rintro e w1 ⟨rfl, hd⟩; have HB := Am hd.below; clear hd))
 go_ret
 exact ⟨rfl, HB.out⟩
theorem any_take_outE {l : List Int} {x : Int} (h0 : 0 ≤ x) (h1 : x < (l.length : Int)) : (l.take (x.toNat + 1)).any outE = ((l.take x.toNat).any outE || outE (rd l x)) := by
 have hx : x.toNat < l.length := by omega
 unfold rd
 rw [List.take_succ_eq_append_getElem hx, List.any_append, List.getD_eq_getElem?_getD, List.getElem?_eq_getElem hx]
 simp
theorem any_outE_of {l : List Int} {x : Int} (h0 : 0 ≤ x) (h1 : x < (l.length : Int)) (h : outE (rd l x) = true) : l.any outE = true := by
 have hx : x.toNat < l.length := by omega
 unfold rd at h
 rw [List.getD_eq_getElem?_getD, List.getElem?_eq_getElem hx] at h
 exact List.any_eq_true.2 ⟨_, List.getElem_mem hx, h⟩
theorem nx_ev (x : Int) (n : Nat) (h : x < (n : Int)) (h0 : 0 ≤ x) (hn : n ≤ 9223372036854775807) : wrap64 (x + 1) = x + 1 := by
 unfold wrap64
 omega
set_option maxHeartbeats 4000000 in
set_option maxRecDepth 100000 in
theorem IndexE.calls (A0 : Option Addr) (c0 : Nat) (l0 : List Int) (w : World) (hr0 : Kd.C (Kd.int .i64) w A0 l0.length l0) (hc0 : l0.length ≤ c0) :
  Calls Try.prog 47 #[.slice A0 l0.length c0, .func (.func 31) #[] #[]] w fun e w' => ∃ i : Int, e = .returned (.int .i64 i) ∧ decide (0 ≤ i) = l0.any outE ∧ Below w.heap.size w w' := by
 have hml := hr0.2.1
 have HR := Am hr0
 clear hr0 hc0
 go_enter Try.func47, Try.ntmps47
 go_wp2
 go_loopg [8] (l0.length + 1) (fun kq v8 w' => ∃ x : Int, v8 = .int .i64 x ∧ Aside0 (0 ≤ x ∧ x ≤ l0.length ∧ (kq : Int) + x = l0.length + 1 ∧ (l0.take x.toNat).any outE = false) ∧ Aside0 (Below w.heap.size w w'))
 case atStart => exact ⟨0, rfl, ⟨by omega, by omega, by omega, rfl⟩, ⟨by repeat (first | exact Below.refl _ _ | apply b1)⟩⟩
 case round =>
  obtain ⟨x, rfl, HA, HB⟩ := hrel
  cases gk with
  | zero => exact absurd HA.out.2.2.1 (by have := HA.out.2.1; omega)
  | succ k1 =>
  by_cases d1 : x < (l0.length : Int)
  ·
   have d1b : decide (x < (l0.length : Int)) = true := decide_eq_true d1
   have d0 := HA.out.1
   obtain ⟨ad, ea, hx⟩ := Kd.at_int HR.out x d0 d1
   cases ea
   replace hx := (HB.out.cell (World.block_lt_of_cell? w _ hx)).trans hx
   have p1 := eq_true d0
   have q1 := eq_true d1
   have HD := Am (And.intro d0 d1)
   clear d0 d1
   have HC := fun W => outE.calls (rd l0 x) W
   cases ho : outE (rd l0 x) with
   | true =>
    rw [ho] at HC
    have HO := Am ho
    have HCC := Am HC
    clear ho HC
    go_wp2_with (first | (go_at_call 31; (with_reducible refine (HCC.out _).mono ?_); rintro e w1 ⟨rfl, hb⟩; have HB1 := Am (below_step HB.out hb); clear hb))
    go_ret
    exact ⟨x, rfl, by rw [any_outE_of HD.out.1 HD.out.2 HO.out]; exact decide_eq_true HD.out.1, HB1.out⟩
   | false =>
    rw [ho] at HC
    have HO := Am ho
    have HCC := Am HC
    clear ho HC
    go_wp2_with (first | (go_at_call 31; (with_reducible refine (HCC.out _).mono ?_); rintro e w1 ⟨rfl, hb⟩; have HB1 := Am (below_step HB.out hb); clear hb))
    go_roundg k1
    case rel => exact ⟨_, rfl, ⟨by have := HA.out; rw [nx_ev x l0.length HD.out.2 HA.out.1 hml]; omega, by have := HD.out; rw [nx_ev x l0.length HD.out.2 HA.out.1 hml]; omega, by have := HA.out; rw [nx_ev x l0.length HD.out.2 HA.out.1 hml]; omega, by rw [nx_ev x l0.length HD.out.2 HA.out.1 hml, show (x + 1).toNat = x.toNat + 1 by have := HA.out.1; omega, any_take_outE HD.out.1 HD.out.2, HA.out.2.2.2, HO.out]; rfl⟩, HB1⟩
    case measure => exact Nat.lt_succ_self _
  ·
   have d1b : decide (x < (l0.length : Int)) = false := decide_eq_false d1
   have HX := Am d1
   clear d1
   go_wp2
   go_ret
   have e1 : l0.any outE = false := by
    have := HA.out.2.2.2
    rwa [show x.toNat = l0.length by have := HX.out; have := HA.out.2.1; omega, List.take_length] at this
   exact ⟨_, rfl, by rw [e1]; rfl, HB.out⟩
set_option maxHeartbeats 2000000 in
set_option maxRecDepth 100000 in
theorem ContainsE.calls (A0 : Option Addr) (c0 : Nat) (l0 : List Int) (w : World) (hr0 : Kd.C (Kd.int .i64) w A0 l0.length l0) (hc0 : l0.length ≤ c0) :
  Calls Try.prog 30 #[.slice A0 l0.length c0, .func (.func 31) #[] #[]] w fun e w' => e = .returned (.bool (l0.any outE)) ∧ Below w.heap.size w w' := by
 have H := Am (IndexE.calls A0 c0 l0 w hr0 hc0)
 clear hr0 hc0
 go_enter Try.func30, Try.ntmps30
 go_wp2_with (first | (go_at_call 47; (with_reducible refine H.out.mono ?_); rintro e w1 ⟨i, rfl, hi, hb⟩; have HB1 := Am hb; have HI := Am hi; clear hb hi))
 go_ret
 exact ⟨by first | rfl | (rw [← HI.out]; rfl), HB1.out⟩
/-- May an event be? -/
def mayE (a d : Int) (l : List Int) (t : ByteArray) : Bool :=
 if fitsE d = true then (if expE a = true then ((l.length : Int) == 0) else Kind.knownB a && (t.toList == ([] : List UInt8)) && ((l.length : Int) == ((Kind.argsL a).length : Int)) && !l.any outE) else false
def event_May.f (a0_0 a0_1 : Int) (l0_2 : List Int) (a0_3 : ByteArray) : Option (Bool) := if (Lit.int .i64 a0_0).wf = true then some (mayE a0_0 a0_1 l0_2 a0_3) else none
/-- The event in its box, and what lay below. -/
def EvAt (w : World) (a d : Int) (A : Option Addr) (n c : Nat) (t : ByteArray) (w' : World) : Prop := w'.heap[w.heap.size]? = some (.cells #[.int .i64 a, .int .i64 d, .slice A n c, .string t] 24 (0, 0)) ∧ Below w.heap.size w w'
section
variable {w w1 w2 : World} {a d : Int} {A : Option Addr} {n c : Nat} {t : ByteArray}
theorem EvAt.below (h : EvAt w a d A n c t w1) (hb : Below w1.heap.size w1 w2) : EvAt w a d A n c t w2 := ⟨blk_below h.1 hb, below_step h.2 hb⟩
theorem EvAt.drew (h : EvAt w a d A n c t w1) : EvAt w a d A n c t w1.drew := ⟨h.1, b1 h.2⟩
theorem EvAt.c0 (h : EvAt w a d A n c t w1) : w1.cell? ⟨w.heap.size, 0, none⟩ = some (.int .i64 a) := (bc h.1 0).trans rfl
theorem EvAt.c2 (h : EvAt w a d A n c t w1) : w1.cell? ⟨w.heap.size, 2, none⟩ = some (.slice A n c) := (bc h.1 2).trans rfl
theorem EvAt.c3 (h : EvAt w a d A n c t w1) : w1.cell? ⟨w.heap.size, 3, none⟩ = some (.string t) := (bc h.1 3).trans rfl
theorem EvAt.known {b : Bool} (h : EvAt w a d A n c t w1) (hw : (Lit.int .i64 a).wf = true) (hb : Kind.knownB a = b) : Calls Try.prog 28 #[.int .i64 a] w1 fun e w' => e = .returned (.bool b) ∧ EvAt w a d A n c t w' :=
 (Kind.known_calls a w1 hw).mono fun e w' ⟨he, hbe⟩ => ⟨by rw [he, hb], h.below hbe⟩
theorem EvAt.args (h : EvAt w a d A n c t w1) (hw : (Lit.int .i64 a).wf = true) : Calls Try.prog 29 #[.int .i64 a] w1 fun e w' => ∃ A' c', e = .returned (.slice A' (Kind.argsL a).length c') ∧ EvAt w a d A n c t w' :=
 (Kind.args_calls a w1 hw).mono fun e w' ⟨v, he, hr, hbe⟩ => by
  obtain ⟨A', c', rfl⟩ := Kd.R_slice hr
  exact ⟨A', c', he, h.below hbe⟩
theorem EvAt.contains {l : List Int} {b : Bool} (h : EvAt w a d A l.length c t w1) (hr : Kd.C (Kd.int .i64) w A l.length l) (hc : l.length ≤ c) (hb : l.any outE = b) : Calls Try.prog 30 #[.slice A l.length c, .func (.func 31) #[] #[]] w1 fun e w' => e = .returned (.bool b) ∧ EvAt w a d A l.length c t w' :=
 (ContainsE.calls A c l w1 (Kd.C_below hr h.2) hc).mono fun e w' ⟨he, hbe⟩ => ⟨by rw [he, hb], h.below hbe⟩
end
set_option maxHeartbeats 8000000 in
set_option maxRecDepth 100000 in
theorem event_May.calls (a0_0 a0_1 : Int) (A0_2 : Option Addr) (c0_2 : Nat) (l0_2 : List Int) (a0_3 : ByteArray) (r : Bool) (w : World) (hr0_2 : Kd.C (Kd.int .i64) w A0_2 l0_2.length l0_2) (hc0_2 : l0_2.length ≤ c0_2) (h : event_May.f a0_0 a0_1 l0_2 a0_3 = some r) :
  Calls Try.prog 12 #[.agg #[.int .i64 a0_0, .int .i64 a0_1, .slice A0_2 l0_2.length c0_2, .string a0_3]] w fun e w' => e = .returned (.bool r) ∧ Below w.heap.size w w' := by
 unfold event_May.f at h
 split at h
 case isFalse => cases h
 rename_i hw
 obtain rfl := Option.some.inj h
 clear h
 have HR := Am hr0_2
 have HC := Am hc0_2
 have HWF := Am hw
 clear hr0_2 hc0_2 hw
 have HFD := Am (event_fits.calls a0_1 (fitsE a0_1) (w.alloc (.cells #[.int .i64 a0_0, .int .i64 a0_1, .slice A0_2 l0_2.length c0_2, .string a0_3] 24)) (fitsE_f a0_1))
 have HE0 : Aside0 (EvAt w a0_0 a0_1 A0_2 l0_2.length c0_2 a0_3 (w.alloc (.cells #[.int .i64 a0_0, .int .i64 a0_1, .slice A0_2 l0_2.length c0_2, .string a0_3] 24))) := ⟨⟨blk_new w _, bl (Below.refl _ _) _⟩⟩
 have HXX := Am (fun W => kind_Exp.calls a0_0 (expE a0_0) W (expE_f a0_0))
 cases hf : fitsE a0_1 with
 | false =>
  have HX := Am (show mayE a0_0 a0_1 l0_2 a0_3 = false by unfold mayE; rw [hf]; rfl)
  rw [hf] at HFD
  clear hf
  go_enter Try.func12, Try.ntmps12
  go_wp2_with (first | (go_at_call 26; (with_reducible refine HFD.out.mono ?_); rintro e w1 ⟨rfl, hd⟩; have HE := Am (HE0.out.below hd.below); clear hd))
  go_ret
  exact ⟨by rw [HX.out]; rfl, HE.out.2⟩
 | true =>
  have HFT := Am hf
  rw [hf] at HFD
  clear hf
  cases hx : expE a0_0 with
  | true =>
   have HX := Am (show mayE a0_0 a0_1 l0_2 a0_3 = ((l0_2.length : Int) == 0) by unfold mayE; rw [HFT.out, hx]; rfl)
   rw [hx] at HXX
   clear hx
   go_enter Try.func12, Try.ntmps12
   go_wp2_with (first | (go_at_call 26; (with_reducible refine HFD.out.mono ?_); rintro e w1 ⟨rfl, hd⟩; have HE := Am (HE0.out.below hd.below); have hc0 := HE.out.c0; clear hd) | (go_at_call 27; (with_reducible refine (HXX.out _).mono ?_); rintro e w2 ⟨rfl, hd⟩; have HE2 := Am (HE.out.below hd.below); have hc2 := HE2.out.c2; clear hd))
   go_ret
   exact ⟨by rw [HX.out]; rfl, HE2.out.2⟩
  | false =>
   have HXE := Am hx
   have HEQ := Am (show mayE a0_0 a0_1 l0_2 a0_3 = (Kind.knownB a0_0 && (a0_3.toList == ([] : List UInt8)) && ((l0_2.length : Int) == ((Kind.argsL a0_0).length : Int)) && !l0_2.any outE) by unfold mayE; rw [HFT.out, hx]; rfl)
   rw [hx] at HXX
   clear hx
   cases hk : Kind.knownB a0_0 with
   | false =>
    have HK := Am hk
    clear hk
    have HX := Am (show mayE a0_0 a0_1 l0_2 a0_3 = false by rw [HEQ.out, HK.out]; rfl)
    go_enter Try.func12, Try.ntmps12
    go_wp2_with (first | (go_at_call 26; (with_reducible refine HFD.out.mono ?_); rintro e w1 ⟨rfl, hd⟩; have HE := Am (HE0.out.below hd.below); have hc0 := HE.out.c0; clear hd) | (go_at_call 27; (with_reducible refine (HXX.out _).mono ?_); rintro e w2 ⟨rfl, hd⟩; have HM := Am (HE.out.below hd.below); clear hd hc0))
    refine start_ (n := 25) (S := fun w' => w'.cell? ⟨w.heap.size, 0, none⟩ = some (.int .i64 a0_0) ∧ w'.cell? ⟨w.heap.size, 2, none⟩ = some (.slice A0_2 l0_2.length c0_2) ∧ w'.cell? ⟨w.heap.size, 3, none⟩ = some (.string a0_3) ∧ EvAt w a0_0 a0_1 A0_2 l0_2.length c0_2 a0_3 w') (ds := []) q5_0 (by kernel_rfl) rfl rfl ⟨HM.out.drew.c0, HM.out.drew.c2, HM.out.drew.c3, HM.out.drew⟩ (fun hHeld => ?_)
    refine with_tabW event_May.tab5 event_May.bits5 (fun HT_ HW_ => ?_)
    refine Own.pr_ 0 (some 16) q5_1 HT_ (h := ?_)
    refine Own.tk_ 1 (some 17) q5_2 HT_ HW_ hHeld (hy := by rintro w' ⟨s0, s1, s2, s3⟩; go_simp; with_reducible rfl) (h := ?_)
    refine one_ (i := 2) (N := some 18) q5_3 rfl rfl (one_of HT_.out (by kernel_rfl)) (by decide) (fun K hK => ?_)
    refine goes_ Try.func28 (by kernel_rfl) rfl #[.int .i64 a0_0] (by rfl) rfl rfl (by (try simp only [List.map_toArray, List.map_cons, List.map_nil]); first | done | rfl | (simp only [List.length_drop, List.length_take]; rfl)) ?_
    with_reducible refine (EvAt.known hHeld.2.2.2 HWF.out HK.out).mono ?_
    rintro e w4 ⟨rfl, HJ⟩
    refine ⟨_, rfl, ?_⟩
    refine hK.out _ _ ⟨HJ.c0, HJ.c2, HJ.c3, HJ⟩ (fun hHeld => ?_)
    clear hK K
    refine norm_ (a' := ?_) ?_ ?_
    rotate_left
    ·
     show Act.put _ (some 18) _ = _
     simp only [Act.put, sI, sZ, sS, i64_w, i32_w]
     rfl
    refine Own.pr_ 3 (some 19) q5_4 HT_ (h := ?_)
    refine Own.skips_ HT_.out [4, 5, 6] [some 20, some 21, some 22] 18 21 _ q5_5 _ ?_ _ rfl (by kernel_rfl) (fun _ _ _ _ h => h) (by kernel_rfl) ?_ ?_
    rotate_left
    ·
     simp only [Own.putU, Act.put, sI, sZ, sS]
     rfl
    refine Own.pr_ 7 (some 23) q5_6 HT_ (h := ?_)
    refine Own.pr_ 8 (some 24) q5_7 HT_ (h := ?_)
    refine Own.skips_ HT_.out [9, 10, 11, 12, 13, 14, 15, 16] [some 25, some 26, some 27, some 28, some 29, some 30, some 31, some 32] 8 16 _ q5_8 _ ?_ _ rfl (by kernel_rfl) (fun _ _ _ _ h => h) (by kernel_rfl) ?_ ?_
    rotate_left
    ·
     simp only [Own.putU, Act.put, sI, sZ, sS]
     rfl
    refine Own.pr_ 17 (some 33) q5_9 HT_ (h := ?_)
    refine Own.pr_ 18 (some 34) q5_10 HT_ (h := ?_)
    refine Own.skips_ HT_.out [19, 20, 21, 22] [some 35, some 36, some 37, some 38] 2 6 _ q5_11 _ ?_ _ rfl (by kernel_rfl) (fun _ _ _ _ h => h) (by kernel_rfl) ?_ ?_
    rotate_left
    ·
     simp only [Own.putU, Act.put, sI, sZ, sS]
     rfl
    refine Own.pr_ 23 (some 39) q5_12 HT_ (h := ?_)
    refine Own.pr_ 24 (some 2) q5_13 HT_ (h := ?_)
    refine done_ (done_of HT_.out (by kernel_rfl)) ?_
    have HB8 := Am hHeld.2.2.2.2
    clear hHeld
    go_wp2
    go_ret
    exact ⟨by rw [HX.out]; rfl, HB8.out⟩
   | true =>
    have HK := Am hk
    clear hk
    cases ht : (a0_3.toList == ([] : List UInt8)) with
    | false =>
     have HT := Am ht
     have HX := Am (show mayE a0_0 a0_1 l0_2 a0_3 = false by rw [HEQ.out, HK.out, HT.out]; rfl)
     go_enter Try.func12, Try.ntmps12
     go_wp2_with (first | (go_at_call 26; (with_reducible refine HFD.out.mono ?_); rintro e w1 ⟨rfl, hd⟩; have HE := Am (HE0.out.below hd.below); have hc0 := HE.out.c0; clear hd) | (go_at_call 27; (with_reducible refine (HXX.out _).mono ?_); rintro e w2 ⟨rfl, hd⟩; have HM := Am (HE.out.below hd.below); clear hd hc0))
     refine start_ (n := 25) (S := fun w' => w'.cell? ⟨w.heap.size, 0, none⟩ = some (.int .i64 a0_0) ∧ w'.cell? ⟨w.heap.size, 2, none⟩ = some (.slice A0_2 l0_2.length c0_2) ∧ w'.cell? ⟨w.heap.size, 3, none⟩ = some (.string a0_3) ∧ EvAt w a0_0 a0_1 A0_2 l0_2.length c0_2 a0_3 w') (ds := []) q5_0 (by kernel_rfl) rfl rfl ⟨HM.out.drew.c0, HM.out.drew.c2, HM.out.drew.c3, HM.out.drew⟩ (fun hHeld => ?_)
     refine with_tabW event_May.tab5 event_May.bits5 (fun HT_ HW_ => ?_)
     refine Own.pr_ 0 (some 16) q5_1 HT_ (h := ?_)
     refine Own.tk_ 1 (some 17) q5_2 HT_ HW_ hHeld (hy := by rintro w' ⟨s0, s1, s2, s3⟩; go_simp; with_reducible rfl) (h := ?_)
     refine one_ (i := 2) (N := some 18) q5_3 rfl rfl (one_of HT_.out (by kernel_rfl)) (by decide) (fun K hK => ?_)
     refine goes_ Try.func28 (by kernel_rfl) rfl #[.int .i64 a0_0] (by rfl) rfl rfl (by (try simp only [List.map_toArray, List.map_cons, List.map_nil]); first | done | rfl | (simp only [List.length_drop, List.length_take]; rfl)) ?_
     with_reducible refine (EvAt.known hHeld.2.2.2 HWF.out HK.out).mono ?_
     rintro e w4 ⟨rfl, HJ⟩
     refine ⟨_, rfl, ?_⟩
     refine hK.out _ _ ⟨HJ.c0, HJ.c2, HJ.c3, HJ⟩ (fun hHeld => ?_)
     clear hK K
     refine norm_ (a' := ?_) ?_ ?_
     rotate_left
     ·
      show Act.put _ (some 18) _ = _
      simp only [Act.put, sI, sZ, sS, i64_w, i32_w]
      rfl
     refine Own.pr_ 3 (some 19) q5_4 HT_ (h := ?_)
     refine Own.pr_ 4 (some 20) q5_14 HT_ (h := ?_)
     refine Own.tk_ 5 (some 21) q5_15 HT_ HW_ hHeld (hy := by rintro w' ⟨s0, s1, s2, s3⟩; go_simp; with_reducible rfl) (h := ?_)
     refine Own.pr_ 6 (some 22) q5_5 HT_ (h := ?_)
     refine Own.pr_ 7 (some 23) q5_6 HT_ (h := ?_)
     refine Own.pr_ 8 (some 24) q5_7 HT_ (h := ?_)
     refine Own.skips_ HT_.out [9, 10, 11, 12, 13, 14, 15, 16] [some 25, some 26, some 27, some 28, some 29, some 30, some 31, some 32] 8 16 _ q5_8 _ ?_ _ rfl (by kernel_rfl) (fun _ _ _ _ h => h) (by kernel_rfl) ?_ ?_
     rotate_left
     ·
      simp only [Own.putU, Act.put, sI, sZ, sS]
      rfl
     refine Own.pr_ 17 (some 33) q5_9 HT_ (h := ?_)
     refine Own.pr_ 18 (some 34) q5_10 HT_ (h := ?_)
     refine Own.skips_ HT_.out [19, 20, 21, 22] [some 35, some 36, some 37, some 38] 2 6 _ q5_11 _ ?_ _ rfl (by kernel_rfl) (fun _ _ _ _ h => h) (by kernel_rfl) ?_ ?_
     rotate_left
     ·
      simp only [Own.putU, Act.put, sI, sZ, sS]
      rfl
     refine Own.pr_ 23 (some 39) q5_12 HT_ (h := ?_)
     refine Own.pr_ 24 (some 2) q5_13 HT_ (h := ?_)
     refine done_ (done_of HT_.out (by kernel_rfl)) ?_
     have HB8 := Am hHeld.2.2.2.2
     clear hHeld
     go_wp2
     go_ret
     exact ⟨by rw [HX.out]; rfl, HB8.out⟩
    | true =>
     have HT := Am ht
     cases hl : ((l0_2.length : Int) == ((Kind.argsL a0_0).length : Int)) with
     | false =>
      have HLL := Am hl
      have HX := Am (show mayE a0_0 a0_1 l0_2 a0_3 = false by rw [HEQ.out, HK.out, HT.out, HLL.out]; rfl)
      go_enter Try.func12, Try.ntmps12
      go_wp2_with (first | (go_at_call 26; (with_reducible refine HFD.out.mono ?_); rintro e w1 ⟨rfl, hd⟩; have HE := Am (HE0.out.below hd.below); have hc0 := HE.out.c0; clear hd) | (go_at_call 27; (with_reducible refine (HXX.out _).mono ?_); rintro e w2 ⟨rfl, hd⟩; have HM := Am (HE.out.below hd.below); clear hd hc0))
      refine start_ (n := 25) (S := fun w' => w'.cell? ⟨w.heap.size, 0, none⟩ = some (.int .i64 a0_0) ∧ w'.cell? ⟨w.heap.size, 2, none⟩ = some (.slice A0_2 l0_2.length c0_2) ∧ w'.cell? ⟨w.heap.size, 3, none⟩ = some (.string a0_3) ∧ EvAt w a0_0 a0_1 A0_2 l0_2.length c0_2 a0_3 w') (ds := []) q5_0 (by kernel_rfl) rfl rfl ⟨HM.out.drew.c0, HM.out.drew.c2, HM.out.drew.c3, HM.out.drew⟩ (fun hHeld => ?_)
      refine with_tabW event_May.tab5 event_May.bits5 (fun HT_ HW_ => ?_)
      refine Own.pr_ 0 (some 16) q5_1 HT_ (h := ?_)
      refine Own.tk_ 1 (some 17) q5_2 HT_ HW_ hHeld (hy := by rintro w' ⟨s0, s1, s2, s3⟩; go_simp; with_reducible rfl) (h := ?_)
      refine one_ (i := 2) (N := some 18) q5_3 rfl rfl (one_of HT_.out (by kernel_rfl)) (by decide) (fun K hK => ?_)
      refine goes_ Try.func28 (by kernel_rfl) rfl #[.int .i64 a0_0] (by rfl) rfl rfl (by (try simp only [List.map_toArray, List.map_cons, List.map_nil]); first | done | rfl | (simp only [List.length_drop, List.length_take]; rfl)) ?_
      with_reducible refine (EvAt.known hHeld.2.2.2 HWF.out HK.out).mono ?_
      rintro e w4 ⟨rfl, HJ⟩
      refine ⟨_, rfl, ?_⟩
      refine hK.out _ _ ⟨HJ.c0, HJ.c2, HJ.c3, HJ⟩ (fun hHeld => ?_)
      clear hK K
      refine norm_ (a' := ?_) ?_ ?_
      rotate_left
      ·
       show Act.put _ (some 18) _ = _
       simp only [Act.put, sI, sZ, sS, i64_w, i32_w]
       rfl
      refine Own.pr_ 3 (some 19) q5_4 HT_ (h := ?_)
      refine Own.pr_ 4 (some 20) q5_14 HT_ (h := ?_)
      refine Own.tk_ 5 (some 21) q5_15 HT_ HW_ hHeld (hy := by rintro w' ⟨s0, s1, s2, s3⟩; go_simp; with_reducible rfl) (h := ?_)
      refine Own.pr_ 6 (some 22) q5_5 HT_ (h := ?_)
      refine Own.pr_ 7 (some 23) q5_6 HT_ (h := ?_)
      refine Own.pr_ 8 (some 24) q5_7 HT_ (h := ?_)
      refine Own.pr_ 9 (some 25) q5_16 HT_ (h := ?_)
      refine Own.pr_ 12 (some 28) q5_17 HT_ (h := ?_)
      refine Own.tk_ 10 (some 26) q5_18 HT_ HW_ hHeld (hy := by rintro w' ⟨s0, s1, s2, s3⟩; go_simp; with_reducible rfl) (h := ?_)
      refine Own.pr_ 11 (some 27) q5_19 HT_ (h := ?_)
      refine Own.tk_ 13 (some 29) q5_20 HT_ HW_ hHeld (hy := by rintro w' ⟨s0, s1, s2, s3⟩; go_simp; with_reducible rfl) (h := ?_)
      refine one_ (i := 14) (N := some 30) q5_21 rfl rfl (one_of HT_.out (by kernel_rfl)) (by decide) (fun K hK => ?_)
      refine goes_ Try.func29 (by kernel_rfl) rfl #[.int .i64 a0_0] (by rfl) rfl rfl (by (try simp only [List.map_toArray, List.map_cons, List.map_nil]); first | done | rfl | (simp only [List.length_drop, List.length_take]; rfl)) ?_
      with_reducible refine (EvAt.args hHeld.2.2.2 HWF.out).mono ?_
      rintro e w5 ⟨A5, c5, rfl, HJ⟩
      refine ⟨_, rfl, ?_⟩
      refine hK.out _ _ ⟨HJ.c0, HJ.c2, HJ.c3, HJ⟩ (fun hHeld => ?_)
      clear hK K
      refine norm_ (a' := ?_) ?_ ?_
      rotate_left
      ·
       show Act.put _ (some 30) _ = _
       simp only [Act.put, sI, sZ, sS, i64_w, i32_w]
       rfl
      refine Own.pr_ 15 (some 31) q5_22 HT_ (h := ?_)
      refine Own.pr_ 16 (some 32) q5_8 HT_ (h := ?_)
      refine Own.pr_ 17 (some 33) q5_9 HT_ (h := ?_)
      refine Own.pr_ 18 (some 34) q5_10 HT_ (h := ?_)
      refine Own.skips_ HT_.out [19, 20, 21, 22] [some 35, some 36, some 37, some 38] 2 6 _ q5_11 _ ?_ _ rfl (by kernel_rfl) (fun _ _ _ _ h => h) (by kernel_rfl) ?_ ?_
      rotate_left
      ·
       simp only [Own.putU, Act.put, sI, sZ, sS]
       rfl
      refine Own.pr_ 23 (some 39) q5_12 HT_ (h := ?_)
      refine Own.pr_ 24 (some 2) q5_13 HT_ (h := ?_)
      refine done_ (done_of HT_.out (by kernel_rfl)) ?_
      have HB8 := Am hHeld.2.2.2.2
      clear hHeld
      go_wp2
      go_ret
      exact ⟨by rw [HX.out]; rfl, HB8.out⟩
     | true =>
      have HLL := Am hl
      cases hcf : l0_2.any outE with
      | true =>
       have HCF := Am hcf
       clear hcf
       have HX := Am (show mayE a0_0 a0_1 l0_2 a0_3 = false by rw [HEQ.out, HK.out, HT.out, HLL.out, HCF.out]; rfl)
       go_enter Try.func12, Try.ntmps12
       go_wp2_with (first | (go_at_call 26; (with_reducible refine HFD.out.mono ?_); rintro e w1 ⟨rfl, hd⟩; have HE := Am (HE0.out.below hd.below); have hc0 := HE.out.c0; clear hd) | (go_at_call 27; (with_reducible refine (HXX.out _).mono ?_); rintro e w2 ⟨rfl, hd⟩; have HM := Am (HE.out.below hd.below); clear hd hc0))
       refine start_ (n := 25) (S := fun w' => w'.cell? ⟨w.heap.size, 0, none⟩ = some (.int .i64 a0_0) ∧ w'.cell? ⟨w.heap.size, 2, none⟩ = some (.slice A0_2 l0_2.length c0_2) ∧ w'.cell? ⟨w.heap.size, 3, none⟩ = some (.string a0_3) ∧ EvAt w a0_0 a0_1 A0_2 l0_2.length c0_2 a0_3 w') (ds := []) q5_0 (by kernel_rfl) rfl rfl ⟨HM.out.drew.c0, HM.out.drew.c2, HM.out.drew.c3, HM.out.drew⟩ (fun hHeld => ?_)
       refine with_tabW event_May.tab5 event_May.bits5 (fun HT_ HW_ => ?_)
       refine Own.pr_ 0 (some 16) q5_1 HT_ (h := ?_)
       refine Own.tk_ 1 (some 17) q5_2 HT_ HW_ hHeld (hy := by rintro w' ⟨s0, s1, s2, s3⟩; go_simp; with_reducible rfl) (h := ?_)
       refine one_ (i := 2) (N := some 18) q5_3 rfl rfl (one_of HT_.out (by kernel_rfl)) (by decide) (fun K hK => ?_)
       refine goes_ Try.func28 (by kernel_rfl) rfl #[.int .i64 a0_0] (by rfl) rfl rfl (by (try simp only [List.map_toArray, List.map_cons, List.map_nil]); first | done | rfl | (simp only [List.length_drop, List.length_take]; rfl)) ?_
       with_reducible refine (EvAt.known hHeld.2.2.2 HWF.out HK.out).mono ?_
       rintro e w4 ⟨rfl, HJ⟩
       refine ⟨_, rfl, ?_⟩
       refine hK.out _ _ ⟨HJ.c0, HJ.c2, HJ.c3, HJ⟩ (fun hHeld => ?_)
       clear hK K
       refine norm_ (a' := ?_) ?_ ?_
       rotate_left
       ·
        show Act.put _ (some 18) _ = _
        simp only [Act.put, sI, sZ, sS, i64_w, i32_w]
        rfl
       refine Own.pr_ 3 (some 19) q5_4 HT_ (h := ?_)
       refine Own.pr_ 4 (some 20) q5_14 HT_ (h := ?_)
       refine Own.tk_ 5 (some 21) q5_15 HT_ HW_ hHeld (hy := by rintro w' ⟨s0, s1, s2, s3⟩; go_simp; with_reducible rfl) (h := ?_)
       refine Own.pr_ 6 (some 22) q5_5 HT_ (h := ?_)
       refine Own.pr_ 7 (some 23) q5_6 HT_ (h := ?_)
       refine Own.pr_ 8 (some 24) q5_7 HT_ (h := ?_)
       refine Own.pr_ 9 (some 25) q5_16 HT_ (h := ?_)
       refine Own.pr_ 12 (some 28) q5_17 HT_ (h := ?_)
       refine Own.tk_ 10 (some 26) q5_18 HT_ HW_ hHeld (hy := by rintro w' ⟨s0, s1, s2, s3⟩; go_simp; with_reducible rfl) (h := ?_)
       refine Own.pr_ 11 (some 27) q5_19 HT_ (h := ?_)
       refine Own.tk_ 13 (some 29) q5_20 HT_ HW_ hHeld (hy := by rintro w' ⟨s0, s1, s2, s3⟩; go_simp; with_reducible rfl) (h := ?_)
       refine one_ (i := 14) (N := some 30) q5_21 rfl rfl (one_of HT_.out (by kernel_rfl)) (by decide) (fun K hK => ?_)
       refine goes_ Try.func29 (by kernel_rfl) rfl #[.int .i64 a0_0] (by rfl) rfl rfl (by (try simp only [List.map_toArray, List.map_cons, List.map_nil]); first | done | rfl | (simp only [List.length_drop, List.length_take]; rfl)) ?_
       with_reducible refine (EvAt.args hHeld.2.2.2 HWF.out).mono ?_
       rintro e w5 ⟨A5, c5, rfl, HJ⟩
       refine ⟨_, rfl, ?_⟩
       refine hK.out _ _ ⟨HJ.c0, HJ.c2, HJ.c3, HJ⟩ (fun hHeld => ?_)
       clear hK K
       refine norm_ (a' := ?_) ?_ ?_
       rotate_left
       ·
        show Act.put _ (some 30) _ = _
        simp only [Act.put, sI, sZ, sS, i64_w, i32_w]
        rfl
       refine Own.pr_ 15 (some 31) q5_22 HT_ (h := ?_)
       refine Own.pr_ 16 (some 32) q5_8 HT_ (h := ?_)
       refine Own.pr_ 17 (some 33) q5_9 HT_ (h := ?_)
       refine Own.pr_ 18 (some 34) q5_10 HT_ (h := ?_)
       refine Own.pr_ 19 (some 35) q5_23 HT_ (h := ?_)
       refine Own.tk_ 20 (some 36) q5_24 HT_ HW_ hHeld (hy := by rintro w' ⟨s0, s1, s2, s3⟩; go_simp; with_reducible rfl) (h := ?_)
       refine one_ (i := 21) (N := some 37) q5_25 rfl rfl (one_of HT_.out (by kernel_rfl)) (by decide) (fun K hK => ?_)
       refine goes_ Try.func30 (by kernel_rfl) rfl #[.slice A0_2 l0_2.length c0_2, .func (.func 31) #[] #[]] (by rfl) rfl rfl (by (try simp only [List.map_toArray, List.map_cons, List.map_nil]); first | done | rfl | (simp only [List.length_drop, List.length_take]; rfl)) ?_
       with_reducible refine (EvAt.contains hHeld.2.2.2 HR.out HC.out HCF.out).mono ?_
       rintro e w6 ⟨rfl, HJ⟩
       refine ⟨_, rfl, ?_⟩
       refine hK.out _ _ ⟨HJ.c0, HJ.c2, HJ.c3, HJ⟩ (fun hHeld => ?_)
       clear hK K
       refine norm_ (a' := ?_) ?_ ?_
       rotate_left
       ·
        show Act.put _ (some 37) _ = _
        simp only [Act.put, sI, sZ, sS, i64_w, i32_w]
        rfl
       refine Own.pr_ 22 (some 38) q5_11 HT_ (h := ?_)
       refine Own.pr_ 23 (some 39) q5_12 HT_ (h := ?_)
       refine Own.pr_ 24 (some 2) q5_13 HT_ (h := ?_)
       refine done_ (done_of HT_.out (by kernel_rfl)) ?_
       have HB8 := Am hHeld.2.2.2.2
       clear hHeld
       go_wp2
       go_ret
       exact ⟨by rw [HX.out]; rfl, HB8.out⟩
      | false =>
       have HCF := Am hcf
       clear hcf
       have HX := Am (show mayE a0_0 a0_1 l0_2 a0_3 = true by rw [HEQ.out, HK.out, HT.out, HLL.out, HCF.out]; rfl)
       go_enter Try.func12, Try.ntmps12
       go_wp2_with (first | (go_at_call 26; (with_reducible refine HFD.out.mono ?_); rintro e w1 ⟨rfl, hd⟩; have HE := Am (HE0.out.below hd.below); have hc0 := HE.out.c0; clear hd) | (go_at_call 27; (with_reducible refine (HXX.out _).mono ?_); rintro e w2 ⟨rfl, hd⟩; have HM := Am (HE.out.below hd.below); clear hd hc0))
       refine start_ (n := 25) (S := fun w' => w'.cell? ⟨w.heap.size, 0, none⟩ = some (.int .i64 a0_0) ∧ w'.cell? ⟨w.heap.size, 2, none⟩ = some (.slice A0_2 l0_2.length c0_2) ∧ w'.cell? ⟨w.heap.size, 3, none⟩ = some (.string a0_3) ∧ EvAt w a0_0 a0_1 A0_2 l0_2.length c0_2 a0_3 w') (ds := []) q5_0 (by kernel_rfl) rfl rfl ⟨HM.out.drew.c0, HM.out.drew.c2, HM.out.drew.c3, HM.out.drew⟩ (fun hHeld => ?_)
       refine with_tabW event_May.tab5 event_May.bits5 (fun HT_ HW_ => ?_)
       refine Own.pr_ 0 (some 16) q5_1 HT_ (h := ?_)
       refine Own.tk_ 1 (some 17) q5_2 HT_ HW_ hHeld (hy := by rintro w' ⟨s0, s1, s2, s3⟩; go_simp; with_reducible rfl) (h := ?_)
       refine one_ (i := 2) (N := some 18) q5_3 rfl rfl (one_of HT_.out (by kernel_rfl)) (by decide) (fun K hK => ?_)
       refine goes_ Try.func28 (by kernel_rfl) rfl #[.int .i64 a0_0] (by rfl) rfl rfl (by (try simp only [List.map_toArray, List.map_cons, List.map_nil]); first | done | rfl | (simp only [List.length_drop, List.length_take]; rfl)) ?_
       with_reducible refine (EvAt.known hHeld.2.2.2 HWF.out HK.out).mono ?_
       rintro e w4 ⟨rfl, HJ⟩
       refine ⟨_, rfl, ?_⟩
       refine hK.out _ _ ⟨HJ.c0, HJ.c2, HJ.c3, HJ⟩ (fun hHeld => ?_)
       clear hK K
       refine norm_ (a' := ?_) ?_ ?_
       rotate_left
       ·
        show Act.put _ (some 18) _ = _
        simp only [Act.put, sI, sZ, sS, i64_w, i32_w]
        rfl
       refine Own.pr_ 3 (some 19) q5_4 HT_ (h := ?_)
       refine Own.pr_ 4 (some 20) q5_14 HT_ (h := ?_)
       refine Own.tk_ 5 (some 21) q5_15 HT_ HW_ hHeld (hy := by rintro w' ⟨s0, s1, s2, s3⟩; go_simp; with_reducible rfl) (h := ?_)
       refine Own.pr_ 6 (some 22) q5_5 HT_ (h := ?_)
       refine Own.pr_ 7 (some 23) q5_6 HT_ (h := ?_)
       refine Own.pr_ 8 (some 24) q5_7 HT_ (h := ?_)
       refine Own.pr_ 9 (some 25) q5_16 HT_ (h := ?_)
       refine Own.pr_ 12 (some 28) q5_17 HT_ (h := ?_)
       refine Own.tk_ 10 (some 26) q5_18 HT_ HW_ hHeld (hy := by rintro w' ⟨s0, s1, s2, s3⟩; go_simp; with_reducible rfl) (h := ?_)
       refine Own.pr_ 11 (some 27) q5_19 HT_ (h := ?_)
       refine Own.tk_ 13 (some 29) q5_20 HT_ HW_ hHeld (hy := by rintro w' ⟨s0, s1, s2, s3⟩; go_simp; with_reducible rfl) (h := ?_)
       refine one_ (i := 14) (N := some 30) q5_21 rfl rfl (one_of HT_.out (by kernel_rfl)) (by decide) (fun K hK => ?_)
       refine goes_ Try.func29 (by kernel_rfl) rfl #[.int .i64 a0_0] (by rfl) rfl rfl (by (try simp only [List.map_toArray, List.map_cons, List.map_nil]); first | done | rfl | (simp only [List.length_drop, List.length_take]; rfl)) ?_
       with_reducible refine (EvAt.args hHeld.2.2.2 HWF.out).mono ?_
       rintro e w5 ⟨A5, c5, rfl, HJ⟩
       refine ⟨_, rfl, ?_⟩
       refine hK.out _ _ ⟨HJ.c0, HJ.c2, HJ.c3, HJ⟩ (fun hHeld => ?_)
       clear hK K
       refine norm_ (a' := ?_) ?_ ?_
       rotate_left
       ·
        show Act.put _ (some 30) _ = _
        simp only [Act.put, sI, sZ, sS, i64_w, i32_w]
        rfl
       refine Own.pr_ 15 (some 31) q5_22 HT_ (h := ?_)
       refine Own.pr_ 16 (some 32) q5_8 HT_ (h := ?_)
       refine Own.pr_ 17 (some 33) q5_9 HT_ (h := ?_)
       refine Own.pr_ 18 (some 34) q5_10 HT_ (h := ?_)
       refine Own.pr_ 19 (some 35) q5_23 HT_ (h := ?_)
       refine Own.tk_ 20 (some 36) q5_24 HT_ HW_ hHeld (hy := by rintro w' ⟨s0, s1, s2, s3⟩; go_simp; with_reducible rfl) (h := ?_)
       refine one_ (i := 21) (N := some 37) q5_25 rfl rfl (one_of HT_.out (by kernel_rfl)) (by decide) (fun K hK => ?_)
       refine goes_ Try.func30 (by kernel_rfl) rfl #[.slice A0_2 l0_2.length c0_2, .func (.func 31) #[] #[]] (by rfl) rfl rfl (by (try simp only [List.map_toArray, List.map_cons, List.map_nil]); first | done | rfl | (simp only [List.length_drop, List.length_take]; rfl)) ?_
       with_reducible refine (EvAt.contains hHeld.2.2.2 HR.out HC.out HCF.out).mono ?_
       rintro e w6 ⟨rfl, HJ⟩
       refine ⟨_, rfl, ?_⟩
       refine hK.out _ _ ⟨HJ.c0, HJ.c2, HJ.c3, HJ⟩ (fun hHeld => ?_)
       clear hK K
       refine norm_ (a' := ?_) ?_ ?_
       rotate_left
       ·
        show Act.put _ (some 37) _ = _
        simp only [Act.put, sI, sZ, sS, i64_w, i32_w]
        rfl
       refine Own.pr_ 22 (some 38) q5_11 HT_ (h := ?_)
       refine Own.pr_ 23 (some 39) q5_12 HT_ (h := ?_)
       refine Own.pr_ 24 (some 2) q5_13 HT_ (h := ?_)
       refine done_ (done_of HT_.out (by kernel_rfl)) ?_
       have HB8 := Am hHeld.2.2.2.2
       clear hHeld
       go_wp2
       go_ret
       exact ⟨by rw [HX.out]; rfl, HB8.out⟩

end Go.Proofs.Ythechcflnkofgaa.Q
