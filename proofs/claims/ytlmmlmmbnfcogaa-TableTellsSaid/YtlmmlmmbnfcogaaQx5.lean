-- printed by a program of this session (NOTES: hprint); not the kit's print
-- minified3
-- minified2
-- minified
-- halved
import Derived.Test.YtlmmlmmbnfcogaaAl
import Derived.Test.YtlmmlmmbnfcogaaQx0
namespace Go.Proofs.Ytlmmlmmbnfcogaa.Q
open Go.RowKit Go.Proofs.YtlmmlmmbnfcogaaW.PrintWords Go.Proofs.YtlmmlmmbnfcogaaW.PrintLast Go.Proofs.YtlmmlmmbnfcogaaW.PrintMore
attribute [local go_sem] max2_int min2_int max_two min_two max_three min_three max_four min_four   -- for this text's walks alone
set_option linter.unusedVariables false
set_option linter.unusedSimpArgs false

def q5_0 : Array Bool := let o := true; let z := false; #[z,z,z,z,z,z,z,z]
def q5_1 : Array Bool := let o := true; let z := false; #[o,z,z,z,z,z,z,z]
def q5_2 : Array Bool := let o := true; let z := false; #[o,z,z,o,z,z,z,z]
def q5_3 : Array Bool := let o := true; let z := false; #[o,o,z,o,z,z,z,z]
def q5_4 : Array Bool := let o := true; let z := false; #[o,o,z,o,o,z,z,z]
def q5_5 : Array Bool := let o := true; let z := false; #[o,o,o,o,o,z,z,z]
def q5_6 : Array Bool := let o := true; let z := false; #[o,o,o,o,o,o,z,z]
def q5_7 : Array Bool := let o := true; let z := false; #[o,o,o,o,o,o,o,z]
def q5_8 : Array Bool := let o := true; let z := false; #[o,o,o,o,o,o,o,o]
/-! ### intern_frames: function 44, by hand -/
/-- Is a frame none that may be, of so many strings? -/
def outF (m : Int) (x : S70) : Bool := decide (x.f0 < 1) || decide (m < x.f0) || decide (x.f1 < 0) || decide (4611686018427387904 ≤ x.f1)
def framesB (l0 : List S70) (m : Int) : Bool := if l0.length = 0 ∨ 100 < l0.length then false else !l0.any (outF m)
def intern_frames.f (l0 : List S70) (a1 : Int) : Option (Bool) := some (framesB l0 a1)
set_option maxHeartbeats 4000000 in
set_option maxRecDepth 100000 in
theorem outF.calls (m : Int) (x : S70) (b : Nat) (w : World) (hc : w.cell? ⟨b, 0, none⟩ = some (.int .i64 m)) : Calls Try.prog 58 #[.agg #[.int .i64 x.f0, .int .i64 x.f1], .pointer (some ⟨b, 0, none⟩)] w fun e w' => e = .returned (.bool (outF m x)) ∧ Below w.heap.size w w' := by
 have hc1 : (w.alloc (.cells #[.int .i64 x.f0, .int .i64 x.f1] 70)).cell? ⟨b, 0, none⟩ = some (.int .i64 m) := ((bl (Below.refl w.heap.size w) _).cell (World.block_lt_of_cell? w _ hc)).trans hc
 unfold outF
 go_enter Try.func58, Try.ntmps58
 go_wp2
 all_goals (go_ret; exact ⟨by first | rfl | simp [*], bl (Below.refl _ _) _⟩)
theorem any_take_outF {m : Int} {l : List S70} {x : Int} (h0 : 0 ≤ x) (h1 : x < (l.length : Int)) : (l.take (x.toNat + 1)).any (outF m) = ((l.take x.toNat).any (outF m) || outF m (rd_T70 l x)) := by
 have hx : x.toNat < l.length := by omega
 unfold rd_T70
 rw [List.take_succ_eq_append_getElem hx, List.any_append, List.getD_eq_getElem?_getD, List.getElem?_eq_getElem hx]
 simp
theorem any_outF_of {m : Int} {l : List S70} {x : Int} (h0 : 0 ≤ x) (h1 : x < (l.length : Int)) (h : outF m (rd_T70 l x) = true) : l.any (outF m) = true := by
 have hx : x.toNat < l.length := by omega
 unfold rd_T70 at h
 rw [List.getD_eq_getElem?_getD, List.getElem?_eq_getElem hx] at h
 exact List.any_eq_true.2 ⟨_, List.getElem_mem hx, h⟩
theorem nx_fr (x : Int) (n : Nat) (h : x < (n : Int)) (h0 : 0 ≤ x) (hn : n ≤ 9223372036854775807) : wrap64 (x + 1) = x + 1 := by
 unfold wrap64
 omega
set_option maxHeartbeats 4000000 in
set_option maxRecDepth 100000 in
theorem IndexF.calls (m : Int) (b : Nat) (A0 : Option Addr) (c0 : Nat) (l0 : List S70) (w : World) (hr0 : Kd.C k70 w A0 l0.length l0) (hm : w.cell? ⟨b, 0, none⟩ = some (.int .i64 m)) :
  Calls Try.prog 67 #[.slice A0 l0.length c0, .func (.func 58) #[] #[.pointer (some ⟨b, 0, none⟩)]] w fun e w' => ∃ i : Int, e = .returned (.int .i64 i) ∧ decide (0 ≤ i) = l0.any (outF m) ∧ Below w.heap.size w w' := by
 have hml := hr0.2.1
 have HR := Am hr0
 have HM := Am hm
 clear hr0 hm
 have hu50 := Try.underlying70
 go_enter Try.func67, Try.ntmps67
 go_wp2
 go_loopg [8] (l0.length + 1) (fun kq v8 w' => ∃ x : Int, v8 = .int .i64 x ∧ Aside0 (0 ≤ x ∧ x ≤ l0.length ∧ (kq : Int) + x = l0.length + 1 ∧ (l0.take x.toNat).any (outF m) = false) ∧ Aside0 (Below w.heap.size w w'))
 case atStart => exact ⟨0, rfl, ⟨by omega, by omega, by omega, rfl⟩, ⟨by repeat (first | exact Below.refl _ _ | apply b1)⟩⟩
 case round =>
  obtain ⟨x, rfl, HA, HB⟩ := hrel
  cases gk with
  | zero => exact absurd HA.out.2.2.1 (by have := HA.out.2.1; omega)
  | succ k1 =>
  by_cases d1 : x < (l0.length : Int)
  ·
   have d1b : decide (x < (l0.length : Int)) = true := decide_eq_true d1
   have d0 := HA.out.1
   obtain ⟨ad, ea, hx0, hx1⟩ := at_T70 HR.out x d0 d1
   cases ea
   replace hx0 := (HB.out.cell (World.block_lt_of_cell? w _ hx0)).trans hx0
   replace hx1 := (HB.out.cell (World.block_lt_of_cell? w _ hx1)).trans hx1
   have p1 := eq_true d0
   have q1 := eq_true d1
   have HD := Am (And.intro d0 d1)
   clear d0 d1
   have HC := fun W hW => outF.calls m (rd_T70 l0 x) b W hW
   have HMM : ∀ W, Below w.heap.size w W → W.cell? ⟨b, 0, none⟩ = some (.int .i64 m) := fun W hW => (hW.cell (World.block_lt_of_cell? w _ HM.out)).trans HM.out
   replace HMM := Am HMM
   cases ho : outF m (rd_T70 l0 x) with
   | true =>
    rw [ho] at HC
    have HO := Am ho
    have HCC := Am HC
    clear ho HC
    go_wp2_with (first | (go_at_call 58; (with_reducible refine (HCC.out _ (HMM.out _ (by repeat (first | exact HB.out | apply b1)))).mono ?_); rintro e w1 ⟨rfl, hb⟩; have HB1 := Am (below_step HB.out hb); clear hb))
    go_ret
    exact ⟨x, rfl, by rw [any_outF_of HD.out.1 HD.out.2 HO.out]; exact decide_eq_true HD.out.1, HB1.out⟩
   | false =>
    rw [ho] at HC
    have HO := Am ho
    have HCC := Am HC
    clear ho HC
    go_wp2_with (first | (go_at_call 58; (with_reducible refine (HCC.out _ (HMM.out _ (by repeat (first | exact HB.out | apply b1)))).mono ?_); rintro e w1 ⟨rfl, hb⟩; have HB1 := Am (below_step HB.out hb); clear hb))
    go_roundg k1
    case rel => exact ⟨_, rfl, ⟨by have := HA.out; rw [nx_fr x l0.length HD.out.2 HA.out.1 hml]; omega, by have := HD.out; rw [nx_fr x l0.length HD.out.2 HA.out.1 hml]; omega, by have := HA.out; rw [nx_fr x l0.length HD.out.2 HA.out.1 hml]; omega, by rw [nx_fr x l0.length HD.out.2 HA.out.1 hml, show (x + 1).toNat = x.toNat + 1 by have := HA.out.1; omega, any_take_outF HD.out.1 HD.out.2, HA.out.2.2.2, HO.out]; rfl⟩, HB1⟩
    case measure => exact Nat.lt_succ_self _
  ·
   have d1b : decide (x < (l0.length : Int)) = false := decide_eq_false d1
   have HX := Am d1
   clear d1
   go_wp2
   go_ret
   have e1 : l0.any (outF m) = false := by
    have := HA.out.2.2.2
    rwa [show x.toNat = l0.length by have := HX.out; have := HA.out.2.1; omega, List.take_length] at this
   exact ⟨_, rfl, by rw [e1]; rfl, HB.out⟩
set_option maxHeartbeats 2000000 in
set_option maxRecDepth 100000 in
theorem ContainsF.calls (m : Int) (b : Nat) (A0 : Option Addr) (c0 : Nat) (l0 : List S70) (w : World) (hr0 : Kd.C k70 w A0 l0.length l0) (hm : w.cell? ⟨b, 0, none⟩ = some (.int .i64 m)) :
  Calls Try.prog 57 #[.slice A0 l0.length c0, .func (.func 58) #[] #[.pointer (some ⟨b, 0, none⟩)]] w fun e w' => e = .returned (.bool (l0.any (outF m))) ∧ Below w.heap.size w w' := by
 have H := Am (IndexF.calls m b A0 c0 l0 w hr0 hm)
 clear hr0 hm
 go_enter Try.func57, Try.ntmps57
 go_wp2_with (first | (go_at_call 67; (with_reducible refine H.out.mono ?_); rintro e w1 ⟨i, rfl, hi, hb⟩; have HB1 := Am hb; have HI := Am hi; clear hb hi))
 go_ret
 exact ⟨by first | rfl | (rw [← HI.out]; rfl), HB1.out⟩
set_option maxHeartbeats 4000000 in
set_option maxRecDepth 100000 in
theorem intern_frames.calls (A0 : Option Addr) (c0 : Nat) (l0 : List S70) (a1 : Int) (r : Bool) (w : World) (hr0 : Kd.C k70 w A0 l0.length l0) (hc0 : l0.length ≤ c0) (h : intern_frames.f l0 a1 = some r) :
  Calls Try.prog 44 #[.slice A0 l0.length c0, .int .i64 a1] w fun e w' => e = .returned (.bool r) ∧ Below w.heap.size w w' := by
 obtain rfl := Option.some.inj h
 have hmf : ∀ (fn : Fn) (first cap : Array Value) (W : World), (Instr.makeFunc fn first cap).run Try.prog W = .ok (.func fn first cap) W := fun _ _ _ _ => rfl
 have hb0 := bl (Below.refl w.heap.size w) (.cells #[.int .i64 a1] 3)
 have H := Am (ContainsF.calls a1 w.heap.size A0 c0 l0 (w.alloc (.cells #[.int .i64 a1] 3)) (Kd.C_below hr0 hb0) ((bc (blk_new w _) 0).trans rfl))
 have HB0 := Am hb0
 clear hr0 hc0 h hb0
 unfold framesB
 by_cases h0 : l0.length = 0
 ·
  have h0b : ((l0.length : Int) == 0) = true := beq_iff_eq.mpr (by omega)
  have hF : (if l0.length = 0 ∨ 100 < l0.length then false else !l0.any (outF a1)) = false := if_pos (.inl h0)
  rw [hF]
  go_enter Try.func44, Try.ntmps44
  go_wp2
  go_ret
  exact ⟨rfl, by repeat (first | exact HB0.out | apply b1)⟩
 ·
  by_cases h1 : 100 < l0.length
  ·
   have h0b : ((l0.length : Int) == 0) = false := beq_eq_false_iff_ne.mpr (by omega)
   have h1b : decide ((100 : Int) < (l0.length : Int)) = true := decide_eq_true (by omega)
   have hF : (if l0.length = 0 ∨ 100 < l0.length then false else !l0.any (outF a1)) = false := if_pos (.inr h1)
   rw [hF]
   go_enter Try.func44, Try.ntmps44
   go_wp2
   go_ret
   exact ⟨rfl, by repeat (first | exact HB0.out | apply b1)⟩
  ·
   have h0b : ((l0.length : Int) == 0) = false := beq_eq_false_iff_ne.mpr (by omega)
   have h1b : decide ((100 : Int) < (l0.length : Int)) = false := decide_eq_false (by omega)
   have hF : (if l0.length = 0 ∨ 100 < l0.length then false else !l0.any (outF a1)) = !l0.any (outF a1) := if_neg (by omega)
   rw [hF]
   go_enter Try.func44, Try.ntmps44
   go_wp2_with (first | (go_at_call 57; (with_reducible refine H.out.mono ?_); rintro e w1 ⟨rfl, hb⟩; have HB1 := Am (below_step HB0.out hb); clear hb))
   go_ret
   exact ⟨by simp, HB1.out⟩

/-! ### varint_Put: function 51 -/
mutual
def varint_Put.j0 : Nat → Int → Bool → Option (ByteArray)
 | 0, _, _ => none
 | k + 1, x0, x9 => if x9 = true then (some (⟨#[]⟩ : ByteArray)) else (varint_Put.l0 k x0 ([] : List Int))
def varint_Put.l0 : Nat → Int → List Int → Option (ByteArray)
 | 0, _, _ => none
 | k + 1, x0, x3 => if x0 ≥ 128 then (if x3.length < 140737488355328 then (varint_Put.l0 k (x0 / 128) (x3 ++ [(Go.bits .or .i64 (Go.bits .and .i64 x0 127) 128) % 256])) else (none)) else (if x3.length < 140737488355328 then (some (strOfNums (x3 ++ [(x0) % 256]))) else (none))
end
def varint_Put.f (k : Nat) (a0 : Int) : Option (ByteArray) := if a0 < 0 then (varint_Put.j0 k a0 true) else (varint_Put.j0 k a0 (decide (a0 ≥ 4611686018427387904)))
theorem varint_Put.mono_l : ∀ k, (∀ y0 y1, LeO (varint_Put.j0 k y0 y1) (varint_Put.j0 (k + 1) y0 y1)) ∧ (∀ y0 y1, LeO (varint_Put.l0 k y0 y1) (varint_Put.l0 (k + 1) y0 y1))
 | 0 => ⟨fun _ _ r h => by simp [varint_Put.j0] at h, fun _ _ r h => by simp [varint_Put.l0] at h⟩
 | k + 1 => by
  obtain ⟨ih0, ih1⟩ := varint_Put.mono_l k
  refine ⟨?_, ?_⟩
  ·
   intro y0 y1
   unfold varint_Put.j0
   repeat' first
   | (with_reducible exact ih0 _ _)
   | (with_reducible exact ih1 _ _)
   | (with_reducible exact LeO.refl _)
   | (with_reducible exact LeO.none _)
   | (with_reducible refine LeO.ite ?_ ?_)
   | (with_reducible refine LeO.bind ?_ (fun _ => ?_))
   | exact LeO.none _
   | refine LeO.ite ?_ ?_
   | refine LeO.bind ?_ (fun _ => ?_)
  ·
   intro y0 y1
   unfold varint_Put.l0
   repeat' first
   | (with_reducible exact ih0 _ _)
   | (with_reducible exact ih1 _ _)
   | (with_reducible exact LeO.refl _)
   | (with_reducible exact LeO.none _)
   | (with_reducible refine LeO.ite ?_ ?_)
   | (with_reducible refine LeO.bind ?_ (fun _ => ?_))
   | exact LeO.none _
   | refine LeO.ite ?_ ?_
   | refine LeO.bind ?_ (fun _ => ?_)
theorem varint_Put.mono : ∀ a0 k, LeO (varint_Put.f k a0) (varint_Put.f (k + 1) a0) := by
 intro a0 k
 obtain ⟨ih0, ih1⟩ := varint_Put.mono_l k
 unfold varint_Put.f
 repeat' first
   | (with_reducible exact ih0 _ _)
   | (with_reducible exact ih1 _ _)
   | (with_reducible exact LeO.refl _)
   | (with_reducible exact LeO.none _)
   | (with_reducible refine LeO.ite ?_ ?_)
   | (with_reducible refine LeO.bind ?_ (fun _ => ?_))
   | exact LeO.none _
   | refine LeO.ite ?_ ?_
   | refine LeO.bind ?_ (fun _ => ?_)
set_option maxHeartbeats 8000000 in
set_option maxRecDepth 100000 in
theorem varint_Put.calls (k : Nat) (a0 : Int) (r : ByteArray) (w : World) (h : varint_Put.f k a0 = some r) :
  Calls Try.prog 51 #[.int .i64 a0] w fun e w' => e = .returned (.string r) ∧ Below w.heap.size w w' := by
 have HB := Am (Below.refl w.heap.size w)
 have H : (if a0 < 0 then (varint_Put.j0 k a0 true) else (varint_Put.j0 k a0 (decide (a0 ≥ 4611686018427387904)))) = some r := h
 clear h
 have HC2 := Am H
 clear H
 go_enter Try.func51, Try.ntmps51
 go_upto_region 1 with (fail)
 go_cut [9] (fun v9 wc => ∃ (kq : Nat) (x9_1 : Bool), v9 = .bool x9_1 ∧ Aside0 (varint_Put.j0 kq a0 x9_1 = some r) ∧ Aside0 (kq ≤ k) ∧ Aside0 (Below w.heap.size w wc))
 case first =>
  have H := HC2.out
  clear HC2
  by_cases c3 : a0 < 0
  ·
   rw [if_pos c3] at H
   have c3b0 : decide (a0 < 0) = true := decide_eq_true c3
   clear c3
   (first | rw [c3b0] | (simp only [i64_w, i32_w]; rw [c3b0]) | skip)
   have H' := Am H
   clear H
   go_wp2
   go_meet
   case rel => exact ⟨_, (true), (by first | rfl | (simp; done) | (simp [*]; done) | (simp; generalize ByteArray.toList _ = l_; cases l_ <;> rfl)), H', ⟨by first | omega | exact Nat.le_refl _⟩, ⟨z3⟩⟩
  ·
   rw [if_neg c3] at H
   have c3b0 : decide (a0 < 0) = false := decide_eq_false c3
   clear c3
   (first | rw [c3b0] | (simp only [i64_w, i32_w]; rw [c3b0]) | skip)
   have H' := Am H
   clear H
   go_wp2
   go_meet
   case rel => exact ⟨_, (decide (a0 ≥ 4611686018427387904)), (by first | rfl | (simp; done) | (simp [*]; done) | (simp; generalize ByteArray.toList _ = l_; cases l_ <;> rfl)), H', ⟨by first | omega | exact Nat.le_refl _⟩, ⟨z3⟩⟩
 case rest =>
  clear HC2
  try clear p2
  try clear c3
  try clear c3b0
  obtain ⟨kq, x9_1, rfl, HA, HJ1, HB⟩ := hcut
  cases kq with
  | zero => exact absurd HA.out (by simp [varint_Put.j0])
  | succ kj1 =>
   have H := HA.out
   clear HA
   simp only [varint_Put.j0] at H
   by_cases c4 : x9_1 = true
   ·
    subst c4
    rw [if_pos rfl] at H
    obtain rfl := Option.some.inj H
    go_wp2
    go_ret
    exact ⟨y0, z3⟩
   ·
    replace c4 := Bool.eq_false_iff.mpr c4
    subst c4
    rw [if_neg (show ¬ (false = true) by decide)] at H
    have H' := Am H
    clear H
    go_wp2
    go_loopg [0, 3] kj1 (fun kq v0 v3 w' => ∃ (x0_2 : Int) (x3_2 : List Int), v0 = .int .i64 x0_2 ∧ Aside0 (varint_Put.l0 kq x0_2 x3_2 = some r) ∧ Aside0 (kq ≤ kj1) ∧ Aside0 (Kd.R (Kd.int .u8) 5 w' w.heap.size (fun _ => True) v3 x3_2) ∧ Aside0 (Below w.heap.size w w'))
    case atStart => exact ⟨(a0), (([] : List Int)), (by first | rfl | (simp; done) | (simp [*]; done) | (simp; generalize ByteArray.toList _ = l_; cases l_ <;> rfl)), H', ⟨Nat.le_refl _⟩, ⟨by first | exact Kd.R_nil _ _ _ _ _ | exact Kd.N_nil _ _ _ _ _ | exact Kd.V_nil _ _ _ _ _ | exact Kd.Q_nil _ _ _ _ _ | exact Kd.S_nil _ _ _ _ _⟩, ⟨z3⟩⟩
    case round =>
     clear H'
     try clear p2
     try clear c3
     try clear c3b0
     try clear c4
     try clear p2
     obtain ⟨x0_2, x3_2, rfl, HA, HK2, HO_3, HB⟩ := hrel
     cases gk with
     | zero => exact absurd HA.out (by simp [varint_Put.l0])
     | succ k2 =>
      have H := HA.out
      clear HA
      simp only [varint_Put.l0] at H
      by_cases c5 : x0_2 ≥ 128
      ·
       rw [if_pos c5] at H
       have c5b0 : decide (128 ≤ x0_2) = true := decide_eq_true c5
       clear c5
       by_cases c6 : x3_2.length < 140737488355328
       ·
        rw [if_pos c6] at H
        have LMc6 := Am c6
        clear c6
        obtain ⟨y145, hy145⟩ : ∃ y_ : List Int, y_ = (x3_2 ++ [(Go.bits .or .i64 (Go.bits .and .i64 x0_2 127) 128) % 256]) := ⟨_, rfl⟩
        replace H : (varint_Put.l0 k2 (x0_2 / 128) y145) = some r := by first | (rw [hy145]; with_reducible exact H) | (have H2_ := (Option.bind_some _ _).symm.trans H; rw [hy145]; with_reducible exact H2_) | (have H2_ := (Option.bind_some _ _).symm.trans H; with_reducible exact H2_) | with_reducible exact H | (rw [hy145]; exact H) | exact H
        have Ny145 := Am hy145
        clear hy145
        have H' := Am H
        clear H
        go_wp2_with (first | ((with_reducible refine gate_builtin (b := .append) (xs := #[.tmp 14, .tmp 19]) rfl ?_); at_builtin; refine Kd.R_append (Kd.int .u8) (w0 := w) w.heap.size rfl (.tmp 14) (.tmp 19) 61 5 (.int .u8 0) 1 rfl Try.underlying61 info5 rfl (by decide) (by omega) u3 x3_2 ((Go.bits .or .i64 (Go.bits .and .i64 x0_2 127) 128) % 256) [.int .u8 ((Go.bits .or .i64 (Go.bits .and .i64 x0_2 127) 128) % 256)] (fun _ => True) (fun _ => False) rfl rfl ?aP (fun _ hk => hk.elim) ?aF ?aO ?aB ?aS ?aL ?_; (case aP => exact rfl); (case aB => exact (z3)); (case aF => exact (fun _ _ => trivial)); (case aO => exact (by (with_reducible repeat (first | apply Kd.R_alloc | apply Kd.R_drewN | apply Kd.R_drew)); exact HO_3.out)); (case aS => exact (below_size (z3))); (case aL => have := LMc6.out; omega); intro v146 w7 ho hb hg hat; rw [← Ny145.out] at ho; have n0_ := Am (hb); have n1_ := Am (ho); clear HB; clear HO_3; have HB := n0_; have HO147 := n1_; clear n0_ n1_; clear ho hb hg hat))
        go_roundg k2
        case measure => have := HJ1.out; have := HK2.out; omega
        case rel => exact ⟨(x0_2 / 128), (y145), (by first | rfl | (simp; done) | (simp [*]; done) | (simp; generalize ByteArray.toList _ = l_; cases l_ <;> rfl)), H', ⟨by have := HJ1.out; have := HK2.out; omega⟩, ⟨by (with_reducible repeat (first | apply Kd.R_alloc | apply Kd.R_drewN | apply Kd.R_drew)); exact HO147.out⟩, ⟨z3⟩⟩
       ·
        rw [if_neg c6] at H
        exact absurd H (by simp)
      ·
       rw [if_neg c5] at H
       have c5b0 : decide (128 ≤ x0_2) = false := decide_eq_false c5
       clear c5
       by_cases c8 : x3_2.length < 140737488355328
       ·
        rw [if_pos c8] at H
        have LMc8 := Am c8
        clear c8
        obtain ⟨y148, hy148⟩ : ∃ y_ : List Int, y_ = (x3_2 ++ [(x0_2) % 256]) := ⟨_, rfl⟩
        replace H : (some (strOfNums y148)) = some r := by first | (rw [hy148]; with_reducible exact H) | (have H2_ := (Option.bind_some _ _).symm.trans H; rw [hy148]; with_reducible exact H2_) | (have H2_ := (Option.bind_some _ _).symm.trans H; with_reducible exact H2_) | with_reducible exact H | (rw [hy148]; exact H) | exact H
        have Ny148 := Am hy148
        clear hy148
        obtain rfl := Option.some.inj H
        go_wp2_with (first | ((with_reducible refine gate_builtin (b := .append) (xs := #[.tmp 21, .tmp 24]) rfl ?_); at_builtin; refine Kd.R_append (Kd.int .u8) (w0 := w) w.heap.size rfl (.tmp 21) (.tmp 24) 61 5 (.int .u8 0) 1 rfl Try.underlying61 info5 rfl (by decide) (by omega) u3 x3_2 ((x0_2) % 256) [.int .u8 ((x0_2) % 256)] (fun _ => True) (fun _ => False) rfl rfl ?aP (fun _ hk => hk.elim) ?aF ?aO ?aB ?aS ?aL ?_; (case aP => exact rfl); (case aB => exact (z3)); (case aF => exact (fun _ _ => trivial)); (case aO => exact (by (with_reducible repeat (first | apply Kd.R_alloc | apply Kd.R_drewN | apply Kd.R_drew)); exact HO_3.out)); (case aS => exact (below_size (z3))); (case aL => have := LMc8.out; omega); intro v149 w9 ho hb hg hat; rw [← Ny148.out] at ho; have n0_ := Am (hb); have n1_ := Am (ho); clear HB; clear HO_3; have HB := n0_; have HO150 := n1_; clear n0_ n1_; clear ho hb hg hat; have hcv10 := own_string (P := Try.prog) Try.underlying61 Try.underlying5 Try.underlying9 (Kd.own_of_R HO150.out)))
        go_ret
        exact ⟨y0, z3⟩
       ·
        rw [if_neg c8] at H
        exact absurd H (by simp)

/-! ### intern_key: function 45, by hand -/
def intern_key.T5 : Bool × List (List Nat × List Nat) := (true, [([], []), ([0], [0]), ([1], [1]), ([], []), ([3], [3]), ([4, 2], [4]), ([2, 5], [2, 5]), ([6, 5], [6])])
def intern_key.B5 : List Nat := [0, 1, 3, 0, 8, 31, 63, 127]
theorem intern_key.tab5 : rtab .any (opsOf Try.f45 5) = intern_key.T5 := by kernel_rfl
theorem intern_key.bits5 : waitsOk intern_key.T5.2 intern_key.B5 = true := by kernel_rfl
def intern_key.l0 : Nat → List S70 → ByteArray → Int → Option (ByteArray)
 | 0, _, _, _ => none
 | k + 1, x0, x3, x8 => if x8 < (x0.length : Int) then (if 0 ≤ x8 then ((varint_Put.f k (rd_T70 x0 x8).f0).bind fun s => (varint_Put.f k (rd_T70 x0 x8).f1).bind fun t => (if x3.size + (s.size + t.size) ≤ 140737488355328 then (intern_key.l0 k x0 (x3 ++ (s ++ t)) (wrap64 (x8 + 1))) else (none))) else (none)) else (some x3)
def intern_key.f (k : Nat) (l0 : List S70) : Option (ByteArray) := intern_key.l0 k l0 (⟨#[]⟩ : ByteArray) 0
theorem intern_key.mono_l : ∀ k, ∀ y0 y1 y2, LeO (intern_key.l0 k y0 y1 y2) (intern_key.l0 (k + 1) y0 y1 y2)
 | 0 => fun _ _ _ r h => by simp [intern_key.l0] at h
 | k + 1 => fun y0 y1 y2 => by
  have ih := intern_key.mono_l k
  unfold intern_key.l0
  exact LeO.ite (LeO.ite (LeO.bind (varint_Put.mono _ _) (fun _ => LeO.bind (varint_Put.mono _ _) (fun _ => LeO.ite (ih _ _ _) (LeO.refl _)))) (LeO.refl _)) (LeO.refl _)
theorem intern_key.mono : ∀ a0 k, LeO (intern_key.f k a0) (intern_key.f (k + 1) a0) := fun a0 k => intern_key.mono_l k a0 _ 0
/-- The builder holds these bytes; below lies what lay. -/
def KeyNums (w : World) (acc : ByteArray) (w' : World) : Prop := Lib.IsBuilder 63 5 w.heap.size w.heap.size (Lib.strCells acc) w' ∧ Below w.heap.size w w'
theorem KeyNums.start (w : World) : KeyNums w (⟨#[]⟩ : ByteArray) (w.alloc (.cells #[.pointer none, .slice none 0 0] 63)) := ⟨Lib.fresh_isBuilder _ _ w, bl (Below.refl _ _) _⟩
theorem KeyBuilder_below {B b : Nat} {bs : List Value} {w w1 : World} (h : Lib.IsBuilder 63 5 B b bs w) (hb : Below w.heap.size w w1) : Lib.IsBuilder 63 5 B b bs w1 := by
 have go : ∀ p, Lib.BuilderAt 63 5 B b p bs w → Lib.BuilderAt 63 5 B b p bs w1 := by
  rintro p ⟨hB, v, hbk, hown, hne⟩
  exact ⟨hB, v, blk_grown hbk (grown_of_below hb none) (by simp), pw_own_below hown hb, hne⟩
 rcases h with h | h
 ·
  exact .inl (go _ h)
 ·
  exact .inr (go _ h)
theorem KeyNums.below {w : World} {acc : ByteArray} {w' w1 : World} (h : KeyNums w acc w') (hb : Below w'.heap.size w' w1) : KeyNums w acc w1 := ⟨KeyBuilder_below h.1 hb, below_step h.2 hb⟩
theorem KeyNums.put {w : World} {acc t : ByteArray} {w' w1 : World} (h : KeyNums w acc w') (k : Lib.BuilderAt 63 5 w.heap.size w.heap.size (.pointer (some ⟨w.heap.size, 0, none⟩)) (Lib.strCells acc ++ Lib.strCells t) w1) (hb : Below w.heap.size w' w1) : KeyNums w (acc ++ t) w1 := by
 refine ⟨.inr ?_, h.2.trans hb⟩
 have e : Lib.strCells (acc ++ t) = Lib.strCells acc ++ Lib.strCells t := by simp [Lib.strCells]
 rw [e]
 exact k
/-- .. and a frame lies in its box. -/
def KeyAt (w : World) (g : Nat) (c : Array Value) (acc : ByteArray) (w' : World) : Prop := KeyNums w acc w' ∧ w'.heap[g]? = some (.cells c 70 (0, 0))
section
variable {w w1 w2 : World} {g : Nat} {c : Array Value} {acc : ByteArray}
theorem KeyAt.below (h : KeyAt w g c acc w1) (hb : Below w1.heap.size w1 w2) : KeyAt w g c acc w2 := ⟨h.1.below hb, blk_below h.2 hb⟩
theorem KeyAt.drew (h : KeyAt w g c acc w1) : KeyAt w g c acc w1.drew := h.below (b1 (Below.refl _ _))
theorem KeyAt.e (h : KeyAt w g c acc w1) (i : Nat) {v : Value} (hv : c[i]? = some v) : w1.cell? ⟨g, i, none⟩ = some v := (bc h.2 i).trans hv
theorem KeyAt.num (h : KeyAt w g c acc w1) (k : Nat) (a : Int) (t : ByteArray) (hf : varint_Put.f k a = some t) : Calls Try.prog 51 #[.int .i64 a] w1 fun e w' => e = .returned (.string t) ∧ KeyAt w g c acc w' :=
 (varint_Put.calls k a t w1 hf).mono fun e w' ⟨he, hb⟩ => ⟨he, h.below (by first | exact hb | exact hb.below)⟩
theorem KeyAt.write (h : KeyAt w g c acc w1) (t : ByteArray) (hl : acc.size + t.size ≤ 140737488355328) : Calls Try.prog 28 #[.pointer (some ⟨w.heap.size, 0, none⟩), .string t] w1 fun e w' => e = .returned (.tuple #[.int .i64 t.size, .nilIface]) ∧ KeyNums w (acc ++ t) w' :=
 (Go.Proofs.Ytlmmlmmbnfcogaa.Bld.writeString w.heap.size w.heap.size _ t w1 h.1.1 (by rw [Lib.strCells_length]; exact hl) (below_size h.1.2)).mono fun e w' ⟨he, hk, hb⟩ => ⟨he, h.1.put hk hb⟩
end
set_option maxHeartbeats 4000000 in
set_option maxRecDepth 100000 in
theorem intern_key.calls (k : Nat) (A0 : Option Addr) (c0 : Nat) (l0 : List S70) (r : ByteArray) (w : World) (hr0 : Kd.C k70 w A0 l0.length l0) (hc0 : l0.length ≤ c0) (h : intern_key.f k l0 = some r) :
  Calls Try.prog 45 #[.slice A0 l0.length c0] w fun e w' => e = .returned (.string r) ∧ Below w.heap.size w w' := by
 have HR0 := Am hr0
 clear hr0 hc0
 have hu50 := Try.underlying70
 have H' : Aside0 (intern_key.l0 k l0 (⟨#[]⟩ : ByteArray) 0 = some r) := Am h
 clear h
 go_enter Try.func45, Try.ntmps45
 go_wp2
 go_loopg [8] k (fun kq v8 w' => ∃ (x3 : ByteArray) (x8 : Int), v8 = .int .i64 x8 ∧ Aside0 (intern_key.l0 kq l0 x3 x8 = some r) ∧ Aside0 (KeyNums w x3 w'))
 case atStart => exact ⟨_, 0, rfl, H', ⟨KeyNums.start w⟩⟩
 case round =>
  clear H'
  obtain ⟨x3, x8, rfl, HA, HN⟩ := hrel
  cases gk with
  | zero => exact absurd HA.out (by simp [intern_key.l0])
  | succ k1 =>
   have H := HA.out
   clear HA
   simp only [intern_key.l0] at H
   by_cases c2 : x8 < (l0.length : Int)
   ·
    rw [if_pos c2] at H
    have c2b0 : decide (x8 < (l0.length : Int)) = true := decide_eq_true c2
    by_cases c3 : 0 ≤ x8
    ·
     rw [if_pos c3] at H
     have c3b0 : decide (0 ≤ x8) = true := decide_eq_true c3
     obtain ⟨ad, ea, hx0, hx1⟩ := at_T70 HR0.out x8 c3 c2
     cases ea
     replace hx0 := (HN.out.2.cell (World.block_lt_of_cell? w _ hx0)).trans hx0
     replace hx1 := (HN.out.2.cell (World.block_lt_of_cell? w _ hx1)).trans hx1
     have p1 := eq_true c3
     have q1 := eq_true c2
     clear c2 c3
     generalize (rd_T70 l0 x8).f0 = a at hx0 H
     generalize (rd_T70 l0 x8).f1 = c at hx1 H
     replace H := ob H
     obtain ⟨s, A40, H⟩ := H
     have A4 := Am A40
     clear A40
     replace H := ob H
     obtain ⟨t, A50, H⟩ := H
     have A5 := Am A50
     clear A50
     by_cases c8 : x3.size + (s.size + t.size) ≤ 140737488355328
     ·
      rw [if_pos c8] at H
      have H' := Am H
      clear H
      have HL := Am (show x3.size + (s ++ t).size ≤ 140737488355328 by rw [ByteArray.size_append]; exact c8)
      have hcat : (9223372036854775807 < s.size + t.size) = False := eq_false (by omega)
      clear c8
      go_wp2
      have HM : Aside0 (KeyAt w wr.heap.size #[.int .i64 a, .int .i64 c] x3 (wr.alloc (.cells #[.int .i64 a, .int .i64 c] 70))) := ⟨⟨KeyNums.below HN.out (bl (Below.refl _ _) _), blk_new _ _⟩⟩
      refine start_ (n := 8) (S := fun w' => w'.cell? ⟨wr.heap.size, 0, none⟩ = some (.int .i64 a) ∧ w'.cell? ⟨wr.heap.size, 1, none⟩ = some (.int .i64 c) ∧ KeyAt w wr.heap.size #[.int .i64 a, .int .i64 c] x3 w') (ds := [7]) q5_0 (by kernel_rfl) rfl rfl ⟨HM.out.drew.e 0 rfl, HM.out.drew.e 1 rfl, HM.out.drew⟩ (fun hHeld => ?_)
      refine with_tabW intern_key.tab5 intern_key.bits5 (fun HT_ HW_ => ?_)
      refine Own.pr_ 0 (some 12) q5_1 HT_ (h := ?_)
      refine Own.pr_ 3 (some 15) q5_2 HT_ (h := ?_)
      refine Own.tk_ 1 (some 13) q5_3 HT_ HW_ hHeld (hy := by rintro w' ⟨s0, s1, s2⟩; go_simp; with_reducible rfl) (h := ?_)
      refine Own.tk_ 4 (some 16) q5_4 HT_ HW_ hHeld (hy := by rintro w' ⟨s0, s1, s2⟩; go_simp; with_reducible rfl) (h := ?_)
      refine one_ (i := 2) (N := some 14) q5_5 rfl rfl (one_of HT_.out (by kernel_rfl)) (by decide) (fun K hK => ?_)
      refine goes_ Try.func51 (by kernel_rfl) rfl #[.int .i64 a] (by rfl) rfl rfl (by (try simp only [List.map_toArray, List.map_cons, List.map_nil]); first | done | rfl | (simp only [List.length_drop, List.length_take]; rfl)) ?_
      with_reducible refine (KeyAt.num hHeld.2.2 k1 a s A4.out).mono ?_
      rintro e w4 ⟨rfl, HJ⟩
      refine ⟨_, rfl, ?_⟩
      refine hK.out _ _ ⟨HJ.e 0 rfl, HJ.e 1 rfl, HJ⟩ (fun hHeld => ?_)
      clear hK K
      refine norm_ (a' := ?_) ?_ ?_
      rotate_left
      ·
       show Act.put _ (some 14) _ = _
       simp only [Act.put, sI, sZ, sS, i64_w, i32_w]
       rfl
      refine one_ (i := 5) (N := some 17) q5_6 rfl rfl (one_of HT_.out (by kernel_rfl)) (by decide) (fun K hK => ?_)
      refine goes_ Try.func51 (by kernel_rfl) rfl #[.int .i64 c] (by rfl) rfl rfl (by (try simp only [List.map_toArray, List.map_cons, List.map_nil]); first | done | rfl | (simp only [List.length_drop, List.length_take]; rfl)) ?_
      with_reducible refine (KeyAt.num hHeld.2.2 k1 c t A5.out).mono ?_
      rintro e w5 ⟨rfl, HJ⟩
      refine ⟨_, rfl, ?_⟩
      refine hK.out _ _ ⟨HJ.e 0 rfl, HJ.e 1 rfl, HJ⟩ (fun hHeld => ?_)
      clear hK K
      refine norm_ (a' := ?_) ?_ ?_
      rotate_left
      ·
       show Act.put _ (some 17) _ = _
       simp only [Act.put, sI, sZ, sS, i64_w, i32_w]
       rfl
      refine Own.pr_ 6 (some 18) q5_7 HT_ (h := ?_)
      refine last_ (i := 7) (N := some 19) q5_8 rfl rfl (one_of HT_.out (by kernel_rfl)) (by decide) (fun K hK => ?_)
      refine goes_ Try.func28 (by kernel_rfl) rfl #[.pointer (some ⟨w.heap.size, 0, none⟩), .string (s ++ t)] (by rfl) rfl rfl (by (try simp only [List.map_toArray, List.map_cons, List.map_nil]); first | done | rfl | (simp only [List.length_drop, List.length_take]; rfl)) ?_
      with_reducible refine (KeyAt.write hHeld.2.2 (s ++ t) HL.out).mono ?_
      rintro e w6 ⟨rfl, HN6⟩
      refine ⟨_, rfl, ?_⟩
      refine hK.out _ _ ?_
      clear hK K
      refine norm_ (a' := ?_) ?_ ?_
      rotate_left
      ·
       show Act.put _ (some 19) _ = _
       simp only [Act.put, sI, sZ, sS, i64_w, i32_w]
       rfl
      refine done_ (done_of HT_.out (by kernel_rfl)) ?_
      have HN2 := Am HN6
      go_wp2
      go_roundg k1
      case rel => exact ⟨_, _, rfl, H', HN2⟩
      case measure => exact Nat.lt_succ_self _
     ·
      rw [if_neg c8] at H
      cases H
    ·
     rw [if_neg c3] at H
     cases H
   ·
    rw [if_neg c2] at H
    have c2b0 : decide (x8 < (l0.length : Int)) = false := decide_eq_false c2
    clear c2
    obtain rfl := Option.some.inj H
    clear H
    have HN' : Lib.IsBuilder 63 5 w.heap.size w.heap.size (Lib.byteCells x3.data.toList) _ := HN.out.1
    go_wp2_with (go_at_call 31; (refine (Go.Proofs.Ytlmmlmmbnfcogaa.Bld.string_any w.heap.size w.heap.size x3.data.toList _ HN' (below_size HN.out.2)).mono ?_); rintro e w2 ⟨rfl, hb⟩; have HB2 := HN.out.2.trans hb; clear hb)
    go_ret
    exact ⟨rfl, HB2⟩

/-! ### intern_May: function 22, by hand -/
/-! #### sets of texts -/
def hasS (ks : List ByteArray) (s : ByteArray) : Bool := ks.any fun x => x.data.toList == s.data.toList
theorem hasS_lit (ks : List ByteArray) (s : ByteArray) : (ks.any fun x => (Lit.string x.data.toList).sameKey (.string s.data.toList)) = hasS ks s := rfl
theorem zero_boolS (w : World) : (zeroValue 4).run Try.prog w = .ok (.bool false) w := by kernel_rfl
theorem key_str (s : ByteArray) (h : s.size ≤ 9223372036854775807) : keyOf Try.prog 9 (.string s) = some (.string s.data.toList) := Go.WideMaps.keyOf_string_mk Try.underlying9 (by unfold maxLen; omega)
/-- A set of texts in a block that the call made. -/
def StrSet (w0 w : World) (b n : Nat) (ks : List ByteArray) : Prop := Go.Proofs.Ytlmmlmmbnfcogaa.MapB.SetAt Try.prog 9 4 w b n (fun l => ks.any fun x => (Lit.string x.data.toList).sameKey l) ∧ Below w0.heap.size w0 w ∧ w0.heap.size ≤ b
theorem StrSet.start {w0 w : World} (hb : Below w0.heap.size w0 w) : StrSet w0 (w.alloc (.map #[] 0)) w.heap.size 0 [] :=
 ⟨Go.Proofs.Ytlmmlmmbnfcogaa.MapB.SetAt.made w _ _ _, bl hb _, hb.size⟩
theorem StrSet.startS {w : World} {o : Obj} (hb : Below w.heap.size w (w.alloc o)) : StrSet w ((w.alloc o).alloc (.map #[] 0)) (w.heap.size + 1) 0 [] := by
 have h := StrSet.start hb
 rwa [show (w.alloc o).heap.size = w.heap.size + 1 by show (w.heap.push o).size = _; simp] at h
theorem StrSet.below {w0 w w1 : World} {b n : Nat} {ks : List ByteArray} (h : StrSet w0 w b n ks) (hb : Below w.heap.size w w1) : StrSet w0 w1 b n ks := ⟨h.1.below hb, below_step h.2.1 hb, h.2.2⟩
theorem StrSet.look {w0 w : World} {b n : Nat} {ks : List ByteArray} (h : StrSet w0 w b n ks) (s : ByteArray) (hs : s.size ≤ 9223372036854775807) : (Instr.lookup 82 (.map (some b)) (.string s) false).run Try.prog w = .ok (.bool (hasS ks s)) w :=
 h.1.look (Go.Maps.string_keyed Try.underlying9) Try.underlying82 Try.underlying4 (zero_boolS w) (key_str s hs)
theorem sameKey_str (l : Lit) (s : List UInt8) : (Lit.string s).sameKey l = l.sameKey (.string s) := by
 cases l with
 | string q => exact Bool.eq_iff_iff.2 ⟨fun h => beq_iff_eq.2 (beq_iff_eq.1 h).symm, fun h => beq_iff_eq.2 (beq_iff_eq.1 h).symm⟩
 | _ => rfl
theorem StrSet.put {w0 w w1 : World} {b n n' : Nat} {ks : List ByteArray} {s : ByteArray} (h : StrSet w0 w b n ks) (hs : Go.Proofs.Ytlmmlmmbnfcogaa.MapB.SetAt Try.prog 9 4 w1 b n' (fun l => if l.sameKey (.string s.data.toList) then true else ks.any fun x => (Lit.string x.data.toList).sameKey l)) (hg : w.grownBy w1 (some b)) : StrSet w0 w1 b n' (ks ++ [s]) :=
 ⟨hs.congr (fun l => by simp only [List.any_append, List.any_cons, List.any_nil, Bool.or_false, sameKey_str]; cases l.sameKey (.string s.data.toList) <;> simp), h.2.1.grown hg h.2.1.size (fun k hk => by cases hk; exact h.2.2), h.2.2⟩
/-! #### what may be -/
def sOk (l : List ByteArray) (i : Nat) : Bool := !((rdOf ByteArray.empty l i).toList == ([] : List UInt8)) && !decide ((1000 : Int) < ((rdOf ByteArray.empty l i).size : Int)) && !hasS (l.take i) (rdOf ByteArray.empty l i)
def sPre (l : List ByteArray) : Nat → Bool
 | 0 => true
 | n + 1 => sPre l n && sOk l n
theorem sPre_false {l : List ByteArray} {i : Nat} (h : sOk l i = false) : ∀ n, i < n → sPre l n = false
 | 0, hn => absurd hn (by omega)
 | n + 1, hn => by
  unfold sPre
  rcases Nat.lt_or_ge i n with h1 | h1
  ·
   rw [sPre_false h n h1]; rfl
  ·
   obtain rfl : i = n := by omega
   rw [h, Bool.and_false]
def rd_stk (xs : List (List S70)) (i : Int) : List S70 := xs.getD i.toNat ([] : List S70)
theorem at_stk {w : World} {A : Option Addr} {n : Nat} {xs : List (List S70)} (h : Kd.C (Kd.slice 70 k70) w A n xs) (i : Int) (h0 : 0 ≤ i) (h1 : i < n) : ∃ ad A0 c0, A = some ad ∧ w.cell? (ad.add i.toNat) = some (.slice A0 (rd_stk xs i).length c0) ∧ (rd_stk xs i).length ≤ c0 ∧ k70.C w A0 (rd_stk xs i).length (rd_stk xs i) := by
 obtain ⟨ad, c, e, _, hK, hc0⟩ := Kd.C_get h ([] : List S70) i h0 h1
 have hc : ∀ j u, c[j]? = some u → w.cell? (ad.add (i.toNat * 1 + j)) = some u := hc0
 obtain ⟨A0, c0, rfl, l0, g0⟩ := hK
 exact ⟨ad, A0, c0, e, by have hq := hc 0 _ rfl; rwa [Nat.mul_one, Nat.add_zero] at hq, l0, g0⟩
def intern_May.l1 : Nat → Int → List (List S70) → List ByteArray → Int → Option Bool
 | 0, _, _, _, _ => none
 | k + 1, m, l, ks, x => if x < (l.length : Int) then (if framesB (rd_stk l x) m = true then ((intern_key.f k (rd_stk l x)).bind fun s => if s.size ≤ 9223372036854775807 then (if hasS ks s = true then some false else intern_May.l1 k m l (ks ++ [s]) (x + 1)) else none) else some false) else some true
def intern_May.f (k : Nat) (l0_0 : List ByteArray) (l0_1 : List (List S70)) : Option Bool := if 10000 < l0_0.length then some false else if 10000 < l0_1.length then some false else if sPre l0_0 l0_0.length = true then intern_May.l1 k (l0_0.length : Int) l0_1 [] 0 else some false
theorem intern_May.mono_l : ∀ k, ∀ y0 y1 y2 y3, LeO (intern_May.l1 k y0 y1 y2 y3) (intern_May.l1 (k + 1) y0 y1 y2 y3)
 | 0 => fun _ _ _ _ r h => by simp [intern_May.l1] at h
 | k + 1 => fun y0 y1 y2 y3 => by
  have ih := intern_May.mono_l k
  unfold intern_May.l1
  exact LeO.ite (LeO.ite (LeO.bind (intern_key.mono _ _) (fun _ => LeO.ite (LeO.ite (LeO.refl _) (ih _ _ _ _)) (LeO.refl _))) (LeO.refl _)) (LeO.refl _)
theorem intern_May.mono : ∀ a0 a1 k, LeO (intern_May.f k a0 a1) (intern_May.f (k + 1) a0 a1) := fun a0 a1 k => by
 unfold intern_May.f
 exact LeO.ite (LeO.refl _) (LeO.ite (LeO.refl _) (LeO.ite (intern_May.mono_l k _ _ _ _) (LeO.refl _)))
theorem nx_may (x : Int) (n : Nat) (h : x < (n : Int)) (h0 : 0 ≤ x) (hn : n ≤ 9223372036854775807) : wrap64 (x + 1) = x + 1 := by
 unfold wrap64
 omega
/-- The table in its box, and what lay below. -/
def MayAt (w : World) (c : Array Value) (w' : World) : Prop := w'.heap[w.heap.size]? = some (.cells c 25 (0, 0)) ∧ Below w.heap.size w w'
theorem MayAt.below {w w1 w2 : World} {c : Array Value} (h : MayAt w c w1) (hb : Below w1.heap.size w1 w2) : MayAt w c w2 := ⟨blk_below h.1 hb, below_step h.2 hb⟩
theorem MayAt.b {w w1 : World} {c : Array Value} (h : MayAt w c w1) : Below w.heap.size w w1 := h.2
theorem MayAt.e {w w1 : World} {c : Array Value} (h : MayAt w c w1) (i : Nat) {v : Value} (hv : c[i]? = some v) : w1.cell? ⟨w.heap.size, i, none⟩ = some v := (bc h.1 i).trans hv
theorem MayAt.put {w w1 w2 : World} {c : Array Value} {b : Nat} (h : MayAt w c w1) (hg : w1.grownBy w2 (some b)) (hb : w.heap.size < b) : MayAt w c w2 :=
 ⟨by
  have hlt : w.heap.size < w1.heap.size := by
   rcases Nat.lt_or_ge w.heap.size w1.heap.size with h' | h'
   ·
    exact h'
   ·
    have := h.1; simp [Array.getElem?_eq_none h'] at this
  rw [hg.block _ hlt (by simp; omega)]
  exact h.1, h.2.grown hg h.2.size (fun k hk => by cases hk; omega)⟩
set_option maxHeartbeats 8000000 in
set_option maxRecDepth 100000 in
theorem intern_May.calls (k : Nat) (A0_0 : Option Addr) (c0_0 : Nat) (l0_0 : List ByteArray) (A0_1 : Option Addr) (c0_1 : Nat) (l0_1 : List (List S70)) (r : Bool) (w : World) (hr0_0 : Kd.C Kd.string w A0_0 l0_0.length l0_0) (hc0_0 : l0_0.length ≤ c0_0) (hr0_1 : Kd.C (Kd.slice 70 k70) w A0_1 l0_1.length l0_1) (hc0_1 : l0_1.length ≤ c0_1) (h : intern_May.f k l0_0 l0_1 = some r) :
  Calls Try.prog 22 #[.agg #[.slice A0_0 l0_0.length c0_0, .slice A0_1 l0_1.length c0_1]] w fun e w' => e = .returned (.bool r) ∧ Below w.heap.size w w' := by
 have hml := hr0_0.2.1
 have hml1 := hr0_1.2.1
 have HR0 := Am hr0_0
 have HR1 := Am hr0_1
 clear hr0_0 hr0_1 hc0_0 hc0_1
 have hmm := @run_makeMap Try.prog
 have HM0 : Aside0 (MayAt w #[.slice A0_0 l0_0.length c0_0, .slice A0_1 l0_1.length c0_1] (w.alloc (.cells #[.slice A0_0 l0_0.length c0_0, .slice A0_1 l0_1.length c0_1] 25))) := ⟨⟨blk_new w _, bl (Below.refl _ _) _⟩⟩
 unfold intern_May.f at h
 by_cases n0 : 10000 < l0_0.length
 ·
  rw [if_pos n0] at h
  obtain rfl := Option.some.inj h
  have n0b : decide ((10000 : Int) < (l0_0.length : Int)) = true := decide_eq_true (by omega)
  clear h n0
  go_enter Try.func22, Try.ntmps22
  go_wp2
  go_ret
  exact ⟨rfl, HM0.out.2⟩
 rw [if_neg n0] at h
 have n0b : decide ((10000 : Int) < (l0_0.length : Int)) = false := decide_eq_false (by omega)
 by_cases n1 : 10000 < l0_1.length
 ·
  rw [if_pos n1] at h
  obtain rfl := Option.some.inj h
  have n1b : decide ((10000 : Int) < (l0_1.length : Int)) = true := decide_eq_true (by omega)
  clear h n1 n0
  go_enter Try.func22, Try.ntmps22
  go_wp2
  go_ret
  exact ⟨rfl, HM0.out.2⟩
 rw [if_neg n1] at h
 have n1b : decide ((10000 : Int) < (l0_1.length : Int)) = false := decide_eq_false (by omega)
 have H := Am h
 have HN01 := Am (And.intro n0 n1)
 clear h n0 n1
 go_enter Try.func22, Try.ntmps22
 go_wp2
 go_loopg [23] (l0_0.length + 1) (fun kq v23 w' => ∃ x : Int, v23 = .int .i64 x ∧ Aside0 (0 ≤ x ∧ x ≤ l0_0.length ∧ (kq : Int) + x = l0_0.length + 1 ∧ sPre l0_0 x.toNat = true) ∧ Aside0 (∃ n : Nat, (n : Int) ≤ x ∧ StrSet w w' (w.heap.size + 1) n (l0_0.take x.toNat)) ∧ Aside0 (MayAt w #[.slice A0_0 l0_0.length c0_0, .slice A0_1 l0_1.length c0_1] w'))
 case atStart => exact ⟨0, rfl, ⟨by omega, by omega, by omega, rfl⟩, ⟨0, by omega, StrSet.startS (w := w) HM0.out.2⟩, ⟨HM0.out.below (bl (Below.refl _ _) _)⟩⟩
 case round =>
  obtain ⟨x, rfl, HA, HS, HT⟩ := hrel
  obtain ⟨n, hn, hset⟩ := HS.out
  have HN := Am hn
  have HS := Am hset
  clear hn hset
  cases gk with
  | zero => exact absurd HA.out.2.2.1 (by have := HA.out.2.1; omega)
  | succ k1 =>
  by_cases d1 : x < (l0_0.length : Int)
  ·
   have d1b : decide (x < (l0_0.length : Int)) = true := decide_eq_true d1
   have d0 := HA.out.1
   obtain ⟨ad, ea, hx⟩ := Kd.at_string HR0.out x d0 d1
   cases ea
   replace hx := (HS.out.2.1.cell (World.block_lt_of_cell? w _ hx)).trans hx
   have p1 := eq_true d0
   have q1 := eq_true d1
   have HD := Am (And.intro d0 (And.intro d1 (show x.toNat < l0_0.length by omega)))
   clear d0 d1
   generalize hs : rdOf ByteArray.empty l0_0 x = s at hx
   have HSS := Am hs
   clear hs
   have HOK := Am (show sOk l0_0 x.toNat = (!(s.toList == ([] : List UInt8)) && !decide ((1000 : Int) < (s.size : Int)) && !hasS (l0_0.take x.toNat) s) by
    unfold sOk
    rw [show ((x.toNat : Nat) : Int) = x by have := HA.out.1; omega, HSS.out])
   have HNO := Am (show sOk l0_0 x.toNat = false → r = false from fun e => by
    have h := H.out
    rw [if_neg (by rw [sPre_false e l0_0.length HD.out.2.2]; exact Bool.false_ne_true)] at h
    exact (Option.some.inj h).symm)
   by_cases e1 : s.toList = ([] : List UInt8)
   ·
    have e1b : (s.toList == ([] : List UInt8)) = true := beq_iff_eq.mpr e1
    have e1c : s.toList.isEmpty = true := by rw [e1]; rfl
    have HX := Am (HNO.out (by rw [HOK.out, e1b]; rfl))
    go_wp2
    go_ret
    exact ⟨by first | (rw [HX.out]; done) | (rw [HX.out]; rfl), HT.out.2⟩
   ·
    have e1b : (s.toList == ([] : List UInt8)) = false := beq_eq_false_iff_ne.mpr e1
    have e1c : s.toList.isEmpty = false := by rw [← Bool.not_eq_true, List.isEmpty_iff]; exact e1
    have HE1 := Am e1b
    clear e1
    by_cases e2 : (1000 : Int) < (s.size : Int)
    ·
     have e2b : decide ((1000 : Int) < (s.size : Int)) = true := decide_eq_true e2
     have HX := Am (HNO.out (by rw [HOK.out, e2b]; simp))
     clear e2
     go_wp2
     go_ret
     exact ⟨by first | (rw [HX.out]; done) | (rw [HX.out]; rfl), HT.out.2⟩
    ·
     have e2b : decide ((1000 : Int) < (s.size : Int)) = false := decide_eq_false e2
     have HZ := Am (show s.size ≤ 9223372036854775807 by omega)
     have HE2 := Am e2b
     clear e2
     cases hp : hasS (l0_0.take x.toNat) s with
     | true =>
      have HX := Am (HNO.out (by rw [HOK.out, hp]; simp))
      have hlk := HS.out.look s HZ.out
      rw [hp] at hlk
      clear hp
      go_wp2
      go_ret
      exact ⟨by first | (rw [HX.out]; done) | (rw [HX.out]; rfl), HT.out.2⟩
     | false =>
      have HP := Am hp
      have hlk := HS.out.look s HZ.out
      rw [hp] at hlk
      clear hp
      have HNX := Am (show sPre l0_0 (x.toNat + 1) = true by
       unfold sPre
       rw [HA.out.2.2.2, HOK.out, HE1.out, HE2.out, HP.out]
       rfl)
      have HTK := Am (show l0_0.take (x.toNat + 1) = l0_0.take x.toNat ++ [s] by
       have hx : x.toNat < l0_0.length := HD.out.2.2
       rw [List.take_succ_eq_append_getElem hx]
       have e := HSS.out
       unfold rdOf at e
       rw [List.getD_eq_getElem?_getD, List.getElem?_eq_getElem hx] at e
       exact congrArg (fun z => l0_0.take x.toNat ++ [z]) e)
      have HL := Am (show n < maxLen by have := HD.out; have := HN.out; have := hml; unfold maxLen; omega)
      have HK := Am (key_str s HZ.out)
      go_wp2_with (first | (at_mapUpdate; refine Go.Proofs.Ytlmmlmmbnfcogaa.MapB.wp_store _ rfl _ _ _ 82 rfl 9 4 (Go.Maps.string_keyed Try.underlying9) Try.underlying82 Try.underlying4 (w.heap.size + 1) n _ rfl HS.out.1 HL.out (.string s) (.string s.data.toList) true rfl rfl HK.out trivial ?_; intro w5 hset hgrow; have HS' := Am (HS.out.put hset hgrow); have HT' := Am (HT.out.put hgrow (by omega)); clear hset hgrow))
      go_roundg k1
      case rel => exact ⟨_, rfl, ⟨by have := HA.out; rw [nx_may x l0_0.length HD.out.2.1 HA.out.1 hml]; omega, by have := HD.out; rw [nx_may x l0_0.length HD.out.2.1 HA.out.1 hml]; omega, by have := HA.out; rw [nx_may x l0_0.length HD.out.2.1 HA.out.1 hml]; omega, by rw [nx_may x l0_0.length HD.out.2.1 HA.out.1 hml, show (x + 1).toNat = x.toNat + 1 by have := HA.out.1; omega]; exact HNX.out⟩, ⟨n + 1, by rw [nx_may x l0_0.length HD.out.2.1 HA.out.1 hml]; have := HN.out; omega, by rw [nx_may x l0_0.length HD.out.2.1 HA.out.1 hml, show (x + 1).toNat = x.toNat + 1 by have := HA.out.1; omega, HTK.out]; exact HS'.out⟩, HT'⟩
      case measure => exact Nat.lt_succ_self _
  ·
   have d1b : decide (x < (l0_0.length : Int)) = false := decide_eq_false d1
   have e0 : x.toNat = l0_0.length := by have := HA.out.2.1; omega
   have e1 : sPre l0_0 l0_0.length = true := by
    have := HA.out.2.2.2
    rwa [e0] at this
   have H2 := H.out
   rw [if_pos e1] at H2
   have H := Am H2
   clear H2 e0 e1 d1
   have hw1 := HT.out.e 1 rfl
   have HBM := Am (show w.heap.size < wr.heap.size by
    rcases Nat.lt_or_ge w.heap.size wr.heap.size with h' | h'
    ·
     exact h'
    ·
     have := HT.out.1; simp [Array.getElem?_eq_none h'] at this)
   have HW1 : Aside0 ((wr.alloc (.map #[] 0)).cell? ⟨w.heap.size, 1, none⟩ = some (.slice A0_1 l0_1.length c0_1)) := ⟨(HT.out.below (bl (Below.refl _ _) _)).e 1 rfl⟩
   have hw2 := HW1.out
   go_wp2
   go_loopg [46] k (fun kq v46 w' => ∃ (x : Int) (acc : List ByteArray), v46 = .int .i64 x ∧ Aside0 (0 ≤ x ∧ x ≤ l0_1.length) ∧ Aside0 (intern_May.l1 kq (l0_0.length : Int) l0_1 acc x = some r) ∧ Aside0 (∃ n : Nat, (n : Int) ≤ x ∧ StrSet w w' wr.heap.size n acc) ∧ Aside0 (MayAt w #[.slice A0_0 l0_0.length c0_0, .slice A0_1 l0_1.length c0_1] w'))
   case atStart => exact ⟨0, [], rfl, ⟨by omega, by omega⟩, H, ⟨0, by omega, StrSet.start HT.out.2⟩, ⟨HT.out.below (bl (Below.refl _ _) _)⟩⟩
   case round =>
    clear HA HS HT HN hw1 hw2 HW1 H d1b
    obtain ⟨x, acc, rfl, HA, HH, HS, HT⟩ := hrel
    obtain ⟨n, hn, hset⟩ := HS.out
    have HN := Am hn
    have HS := Am hset
    clear hn hset
    cases gk with
    | zero => exact absurd HH.out (by simp [intern_May.l1])
    | succ k2 =>
    have H := HH.out
    clear HH
    simp only [intern_May.l1] at H
    by_cases d1 : x < (l0_1.length : Int)
    ·
     rw [if_pos d1] at H
     have d1b : decide (x < (l0_1.length : Int)) = true := decide_eq_true d1
     have d0 := HA.out.1
     obtain ⟨ad, A2, c2, ea, hx, hl2, hC2⟩ := at_stk HR1.out x d0 d1
     cases ea
     replace hx := (HS.out.2.1.cell (World.block_lt_of_cell? w _ hx)).trans hx
     have p1 := eq_true d0
     have q1 := eq_true d1
     have HD := Am (And.intro d0 d1)
     clear d0 d1
     generalize rd_stk l0_1 x = l at hx hl2 hC2 H
     have HC2 := Am hC2
     have HL2 := Am hl2
     clear hC2 hl2
     have HFR := Am (fun (W : World) (hW : Below w.heap.size w W) => intern_frames.calls A2 c2 l (l0_0.length : Int) (framesB l (l0_0.length : Int)) W (Kd.C_below HC2.out hW) HL2.out rfl)
     have hw0 := HT.out.e 0 rfl
     cases hf : framesB l (l0_0.length : Int) with
     | false =>
      rw [hf] at H HFR
      clear hf
      have H' := Am (Option.some.inj ((if_neg Bool.false_ne_true).symm.trans H))
      clear H
      go_wp2_with (first | (go_at_call 44; (with_reducible refine (HFR.out _ (MayAt.b HT.out)).mono ?_); rintro e w1 ⟨rfl, hb⟩; have HT1 := Am (HT.out.below hb); clear hb))
      go_ret
      exact ⟨by first | (rw [← H'.out]; done) | (rw [← H'.out]; rfl), HT1.out.2⟩
     | true =>
      rw [hf] at H HFR
      clear hf
      replace H := (if_pos rfl).symm.trans H
      replace H := ob H
      obtain ⟨s, A40, H⟩ := H
      have A4 := Am A40
      clear A40
      by_cases hz : s.size ≤ 9223372036854775807
      ·
       rw [if_pos hz] at H
       have HZ := Am hz
       clear hz
       have HKY := Am (fun (W : World) (hW : Below w.heap.size w W) => intern_key.calls k2 A2 c2 l s W (Kd.C_below HC2.out hW) HL2.out A4.out)
       cases hp : hasS acc s with
       | true =>
        rw [hp] at H
        have HP := Am hp
        clear hp
        have H' := Am (Option.some.inj ((if_pos rfl).symm.trans H))
        clear H
        go_wp2_with (first | (go_at_call 44; (with_reducible refine (HFR.out _ (MayAt.b HT.out)).mono ?_); rintro e w1 ⟨rfl, hb⟩; have HT1 := Am (HT.out.below hb); have HS1 := Am (HS.out.below hb); clear hb) | (go_at_call 45; (with_reducible refine (HKY.out _ (MayAt.b HT1.out)).mono ?_); rintro e w2 ⟨rfl, hb⟩; have HT2 := Am (HT1.out.below hb); have HS2 := Am (HS1.out.below hb); have hlk := HS2.out.look s HZ.out; rw [HP.out] at hlk; clear hb))
        go_ret
        exact ⟨by first | (rw [← H'.out]; done) | (rw [← H'.out]; rfl), HT2.out.2⟩
       | false =>
        rw [hp] at H
        have HP := Am hp
        clear hp
        have H' := Am ((if_neg Bool.false_ne_true).symm.trans H)
        clear H
        have HL := Am (show n < maxLen by have := HD.out; have := HN.out; have := hml1; unfold maxLen; omega)
        have HK := Am (key_str s HZ.out)
        go_wp2_with (first | (go_at_call 44; (with_reducible refine (HFR.out _ (MayAt.b HT.out)).mono ?_); rintro e w1 ⟨rfl, hb⟩; have HT1 := Am (HT.out.below hb); have HS1 := Am (HS.out.below hb); clear hb) | (go_at_call 45; (with_reducible refine (HKY.out _ (MayAt.b HT1.out)).mono ?_); rintro e w2 ⟨rfl, hb⟩; have HT2 := Am (HT1.out.below hb); have HS2 := Am (HS1.out.below hb); have hlk := HS2.out.look s HZ.out; rw [HP.out] at hlk; clear hb) | (go_at_call 45; (with_reducible refine (HKY.out _ (MayAt.b HT2.out)).mono ?_); rintro e w3 ⟨rfl, hb⟩; have HT3 := Am (HT2.out.below hb); have HS3 := Am (HS2.out.below hb); clear hb) | (at_mapUpdate; refine Go.Proofs.Ytlmmlmmbnfcogaa.MapB.wp_store _ rfl _ _ _ 82 rfl 9 4 (Go.Maps.string_keyed Try.underlying9) Try.underlying82 Try.underlying4 _ n _ rfl HS3.out.1 HL.out (.string s) (.string s.data.toList) true rfl rfl HK.out trivial ?_; intro w5 hset hgrow; have HS' := Am (HS3.out.put hset hgrow); have HT' := Am (HT3.out.put hgrow HBM.out); clear hset hgrow))
        go_roundg k2
        case rel => exact ⟨_, _, rfl, ⟨by have := HA.out; rw [nx_may x l0_1.length HD.out.2 HA.out.1 hml1]; omega, by have := HD.out; rw [nx_may x l0_1.length HD.out.2 HA.out.1 hml1]; omega⟩, by rw [nx_may x l0_1.length HD.out.2 HA.out.1 hml1]; exact H', ⟨n + 1, by rw [nx_may x l0_1.length HD.out.2 HA.out.1 hml1]; have := HN.out; omega, HS'.out⟩, HT'⟩
        case measure => exact Nat.lt_succ_self _
      ·
       rw [if_neg hz] at H
       cases H
    ·
     rw [if_neg d1] at H
     have d1b : decide (x < (l0_1.length : Int)) = false := decide_eq_false d1
     have H' := Am (Option.some.inj H)
     clear d1 H
     go_wp2
     go_ret
     exact ⟨by first | (rw [← H'.out]; done) | (rw [← H'.out]; rfl), HT.out.2⟩

end Go.Proofs.Ytlmmlmmbnfcogaa.Q
