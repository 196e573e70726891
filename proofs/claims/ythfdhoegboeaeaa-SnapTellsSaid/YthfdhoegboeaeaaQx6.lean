-- printed by a program of this session (NOTES: hprint); not the kit's print
-- minified
-- halved
import Derived.Test.YthfdhoegboeaeaaAl
import Derived.Test.YthfdhoegboeaeaaQx0
import Derived.Test.YthfdhoegboeaeaaQx3
namespace Go.Proofs.Ythfdhoegboeaeaa.Q
open Go.RowKit Go.Proofs.YthfdhoegboeaeaaW.PrintWords Go.Proofs.YthfdhoegboeaeaaW.PrintLast Go.Proofs.YthfdhoegboeaeaaW.PrintMore
attribute [local go_sem] max2_int min2_int max_two min_two max_three min_three max_four min_four   -- for this text's walks alone
set_option linter.unusedVariables false
set_option linter.unusedSimpArgs false

/-! ### varint_Put: function 41 -/
mutual
def varint_Put.j0 : Nat → Int → Bool → Option (ByteArray)
 | 0, _, _ => none
 | k + 1, x0, x9 => if x9 = true then (some (⟨#[]⟩ : ByteArray)) else (varint_Put.l0 k x0 ([] : List Int))
def varint_Put.l0 : Nat → Int → List Int → Option (ByteArray)
 | 0, _, _ => none
 | k + 1, x0, x3 => if x0 ≥ 128 then (if x3.length < 140737488355328 then (varint_Put.l0 k (x0 / 128) (x3 ++ [(Go.bits .or .i64 (Go.bits .and .i64 x0 127) 128) % 256])) else (none)) else (if x3.length < 140737488355328 then (some (strOfNums (x3 ++ [(x0) % 256]))) else (none))
end
def varint_Put.f (k : Nat) (a0 : Int) : Option (ByteArray) := if a0 < 0 then (varint_Put.j0 k a0 true) else (varint_Put.j0 k a0 (decide (a0 ≥ 4611686018427387904)))
theorem varint_Put.mono_l : ∀ k, (∀ y0 y1, LeO (varint_Put.j0 k y0 y1) (varint_Put.j0 (k + 1) y0 y1)) ∧ (∀ y0 y1, LeO (varint_Put.l0 k y0 y1) (varint_Put.l0 (k + 1) y0 y1))
 | 0 => ⟨fun _ _ r h => by simp [varint_Put.j0] at h, fun _ _ r h => by simp [varint_Put.l0] at h⟩
 | k + 1 => by
  obtain ⟨ih0, ih1⟩ := varint_Put.mono_l k
  refine ⟨?_, ?_⟩
  ·
   intro y0 y1
   unfold varint_Put.j0
   repeat' first
   | (with_reducible exact ih0 _ _)
   | (with_reducible exact ih1 _ _)
   | (with_reducible exact LeO.refl _)
   | (with_reducible exact LeO.none _)
   | (with_reducible refine LeO.ite ?_ ?_)
   | (with_reducible refine LeO.bind ?_ (fun _ => ?_))
   | exact ih0 _ _
   | exact ih1 _ _
   | exact LeO.none _
   | refine LeO.ite ?_ ?_
   | refine LeO.bind ?_ (fun _ => ?_)
  ·
   intro y0 y1
   unfold varint_Put.l0
   repeat' first
   | (with_reducible exact ih0 _ _)
   | (with_reducible exact ih1 _ _)
   | (with_reducible exact LeO.refl _)
   | (with_reducible exact LeO.none _)
   | (with_reducible refine LeO.ite ?_ ?_)
   | (with_reducible refine LeO.bind ?_ (fun _ => ?_))
   | exact ih0 _ _
   | exact ih1 _ _
   | exact LeO.none _
   | refine LeO.ite ?_ ?_
   | refine LeO.bind ?_ (fun _ => ?_)
theorem varint_Put.mono : ∀ a0 k, LeO (varint_Put.f k a0) (varint_Put.f (k + 1) a0) := by
 intro a0 k
 obtain ⟨ih0, ih1⟩ := varint_Put.mono_l k
 unfold varint_Put.f
 repeat' first
   | (with_reducible exact ih0 _ _)
   | (with_reducible exact ih1 _ _)
   | (with_reducible exact LeO.refl _)
   | (with_reducible exact LeO.none _)
   | (with_reducible refine LeO.ite ?_ ?_)
   | (with_reducible refine LeO.bind ?_ (fun _ => ?_))
   | exact ih0 _ _
   | exact ih1 _ _
   | exact LeO.none _
   | refine LeO.ite ?_ ?_
   | refine LeO.bind ?_ (fun _ => ?_)
set_option maxHeartbeats 8000000 in
set_option maxRecDepth 100000 in
theorem varint_Put.calls (k : Nat) (a0 : Int) (r : ByteArray) (w : World) (h : varint_Put.f k a0 = some r) :
  Calls Try.prog 41 #[.int .i64 a0] w fun e w' => e = .returned (.string r) ∧ Below w.heap.size w w' := by
 have HB := Am (Below.refl w.heap.size w)
 have H : (if a0 < 0 then (varint_Put.j0 k a0 true) else (varint_Put.j0 k a0 (decide (a0 ≥ 4611686018427387904)))) = some r := h
 clear h
 have HC2 := Am H
 clear H
 go_enter Try.func41, Try.ntmps41
 go_upto_region 1 with (fail)
 go_cut [9] (fun v9 wc => ∃ (kq : Nat) (x9_1 : Bool), v9 = .bool x9_1 ∧ Aside0 (varint_Put.j0 kq a0 x9_1 = some r) ∧ Aside0 (kq ≤ k) ∧ Aside0 (Below w.heap.size w wc))
 case first =>
  have H := HC2.out
  clear HC2
  by_cases c3 : a0 < 0
  ·
   rw [if_pos c3] at H
   have c3b0 : decide (a0 < 0) = true := decide_eq_true c3
   clear c3
   (first | rw [c3b0] | (simp only [i64_w, i32_w]; rw [c3b0]) | skip)
   have H' := Am H
   clear H
   go_wp2
   go_meet
   case rel => exact ⟨_, (true), (by first | rfl | (simp; done) | (simp [*]; done)), H', ⟨by first | omega | exact Nat.le_refl _⟩, ⟨by repeat (first | (with_reducible first | exact HB.out | apply bl | apply pN | apply b1) | exact HB.out | exact HBo.out)⟩⟩
  ·
   rw [if_neg c3] at H
   have c3b0 : decide (a0 < 0) = false := decide_eq_false c3
   clear c3
   (first | rw [c3b0] | (simp only [i64_w, i32_w]; rw [c3b0]) | skip)
   have H' := Am H
   clear H
   go_wp2
   go_meet
   case rel => exact ⟨_, (decide (a0 ≥ 4611686018427387904)), (by first | rfl | (simp; done) | (simp [*]; done)), H', ⟨by first | omega | exact Nat.le_refl _⟩, ⟨by repeat (first | (with_reducible first | exact HB.out | apply bl | apply pN | apply b1) | exact HB.out | exact HBo.out)⟩⟩
 case rest =>
  clear HC2
  try clear p2
  try clear c3
  try clear c3b0
  obtain ⟨kq, x9_1, rfl, HA, HJ1, HB⟩ := hcut
  cases kq with
  | zero => exact absurd HA.out (by simp [varint_Put.j0])
  | succ kj1 =>
   have H := HA.out
   clear HA
   simp only [varint_Put.j0] at H
   by_cases c4 : x9_1 = true
   ·
    subst c4
    have H1 : (some (⟨#[]⟩ : ByteArray)) = some r := by rw [if_pos rfl] at H; exact H
    clear H
    have H := H1
    clear H1
    obtain rfl := Option.some.inj H
    go_wp2
    go_ret
    exact ⟨by first | rfl | (simp [errW_none, errW_some] <;> rfl) | (simp [*, errW_none, errW_some] <;> rfl) | (simp [Aid.ne_nil, Aid.eq_nil, errW_none, errW_some]; done), by repeat (first | (with_reducible first | exact HB.out | apply bl | apply pN | apply b1) | exact HB.out | exact HBo.out)⟩
   ·
    replace c4 := Bool.eq_false_iff.mpr c4
    subst c4
    have H1 : (varint_Put.l0 kj1 a0 ([] : List Int)) = some r := by rw [if_neg (show ¬ (false = true) by decide)] at H; exact H
    clear H
    have H := H1
    clear H1
    have H' := Am H
    clear H
    go_wp2
    go_loopg [0, 3] kj1 (fun kq v0 v3 w' => ∃ (x0_2 : Int) (x3_2 : List Int), v0 = .int .i64 x0_2 ∧ Aside0 (varint_Put.l0 kq x0_2 x3_2 = some r) ∧ Aside0 (kq ≤ kj1) ∧ Aside0 (Kd.R (Kd.int .u8) 5 w' w.heap.size (fun _ => True) v3 x3_2) ∧ Aside0 (Below w.heap.size w w'))
    case atStart => exact ⟨(a0), (([] : List Int)), (by first | rfl | (simp; done) | (simp [*]; done)), H', ⟨Nat.le_refl _⟩, ⟨by first | exact Kd.R_nil _ _ _ _ _ | exact Kd.N_nil _ _ _ _ _ | exact Kd.V_nil _ _ _ _ _ | exact Kd.Q_nil _ _ _ _ _ | exact Kd.S_nil _ _ _ _ _⟩, ⟨by repeat (first | (with_reducible first | exact HB.out | apply bl | apply pN | apply b1) | exact HB.out | exact HBo.out)⟩⟩
    case round =>
     clear H'
     try clear p2
     try clear c3
     try clear c3b0
     try clear c4
     try clear p2
     obtain ⟨x0_2, x3_2, rfl, HA, HK2, HO_3, HB⟩ := hrel
     cases gk with
     | zero => exact absurd HA.out (by simp [varint_Put.l0])
     | succ k2 =>
      have H := HA.out
      clear HA
      simp only [varint_Put.l0] at H
      by_cases c5 : x0_2 ≥ 128
      ·
       rw [if_pos c5] at H
       have c5b0 : decide (128 ≤ x0_2) = true := decide_eq_true c5
       clear c5
       by_cases c6 : x3_2.length < 140737488355328
       ·
        rw [if_pos c6] at H
        have LMc6 := Am c6
        clear c6
        obtain ⟨y185, hy185⟩ : ∃ y_ : List Int, y_ = (x3_2 ++ [(Go.bits .or .i64 (Go.bits .and .i64 x0_2 127) 128) % 256]) := ⟨_, rfl⟩
        replace H : (varint_Put.l0 k2 (x0_2 / 128) y185) = some r := by first | (rw [hy185]; with_reducible exact H) | (have H2_ := (Option.bind_some _ _).symm.trans H; rw [hy185]; with_reducible exact H2_) | (have H2_ := (Option.bind_some _ _).symm.trans H; with_reducible exact H2_) | with_reducible exact H | (rw [hy185]; exact H) | exact H
        have Ny185 := Am hy185
        clear hy185
        have H' := Am H
        clear H
        go_wp2_with (first | ((with_reducible refine gate_builtin (b := .append) (xs := #[.tmp 14, .tmp 19]) rfl ?_); at_builtin; refine Kd.R_append (Kd.int .u8) (w0 := w) w.heap.size rfl (.tmp 14) (.tmp 19) 59 5 (.int .u8 0) 1 rfl Try.underlying59 info5 rfl (by decide) (by omega) u3 x3_2 ((Go.bits .or .i64 (Go.bits .and .i64 x0_2 127) 128) % 256) [.int .u8 ((Go.bits .or .i64 (Go.bits .and .i64 x0_2 127) 128) % 256)] (fun _ => True) (fun _ => False) rfl rfl ?aP (fun _ hk => hk.elim) ?aF ?aO ?aB ?aS ?aL ?_; (case aP => exact rfl); (case aB => exact (by repeat (first | (with_reducible first | exact HB.out | apply bl | apply pN | apply b1) | exact HB.out | exact HBo.out))); (case aF => exact (fun _ _ => trivial)); (case aO => exact (by (with_reducible repeat (first | apply Kd.R_alloc | apply Kd.R_drewN | apply Kd.R_drew)); exact HO_3.out)); (case aS => exact (below_size (by repeat (first | (with_reducible first | exact HB.out | apply bl | apply pN | apply b1) | exact HB.out | exact HBo.out)))); (case aL => have := LMc6.out; omega); intro v186 w7 ho hb hg hat; rw [← Ny185.out] at ho; have n0_ := Am (hb); have n1_ := Am (ho); clear HB; clear HO_3; have HB := n0_; have HO187 := n1_; clear n0_ n1_; clear ho hb hg hat))
        go_roundg k2
        case measure => have := HJ1.out; have := HK2.out; omega
        case rel => exact ⟨(x0_2 / 128), (y185), (by first | rfl | (simp; done) | (simp [*]; done)), H', ⟨by have := HJ1.out; have := HK2.out; omega⟩, ⟨by (with_reducible repeat (first | apply Kd.R_alloc | apply Kd.R_drewN | apply Kd.R_drew)); exact HO187.out⟩, ⟨by repeat (first | (with_reducible first | exact HB.out | apply bl | apply pN | apply b1) | exact HB.out | exact HBo.out)⟩⟩
       ·
        rw [if_neg c6] at H
        exact absurd H (by simp)
      ·
       rw [if_neg c5] at H
       have c5b0 : decide (128 ≤ x0_2) = false := decide_eq_false c5
       clear c5
       by_cases c8 : x3_2.length < 140737488355328
       ·
        rw [if_pos c8] at H
        have LMc8 := Am c8
        clear c8
        obtain ⟨y188, hy188⟩ : ∃ y_ : List Int, y_ = (x3_2 ++ [(x0_2) % 256]) := ⟨_, rfl⟩
        replace H : (some (strOfNums y188)) = some r := by first | (rw [hy188]; with_reducible exact H) | (have H2_ := (Option.bind_some _ _).symm.trans H; rw [hy188]; with_reducible exact H2_) | (have H2_ := (Option.bind_some _ _).symm.trans H; with_reducible exact H2_) | with_reducible exact H | (rw [hy188]; exact H) | exact H
        have Ny188 := Am hy188
        clear hy188
        obtain rfl := Option.some.inj H
        go_wp2_with (first | ((with_reducible refine gate_builtin (b := .append) (xs := #[.tmp 21, .tmp 24]) rfl ?_); at_builtin; refine Kd.R_append (Kd.int .u8) (w0 := w) w.heap.size rfl (.tmp 21) (.tmp 24) 59 5 (.int .u8 0) 1 rfl Try.underlying59 info5 rfl (by decide) (by omega) u3 x3_2 ((x0_2) % 256) [.int .u8 ((x0_2) % 256)] (fun _ => True) (fun _ => False) rfl rfl ?aP (fun _ hk => hk.elim) ?aF ?aO ?aB ?aS ?aL ?_; (case aP => exact rfl); (case aB => exact (by repeat (first | (with_reducible first | exact HB.out | apply bl | apply pN | apply b1) | exact HB.out | exact HBo.out))); (case aF => exact (fun _ _ => trivial)); (case aO => exact (by (with_reducible repeat (first | apply Kd.R_alloc | apply Kd.R_drewN | apply Kd.R_drew)); exact HO_3.out)); (case aS => exact (below_size (by repeat (first | (with_reducible first | exact HB.out | apply bl | apply pN | apply b1) | exact HB.out | exact HBo.out)))); (case aL => have := LMc8.out; omega); intro v189 w9 ho hb hg hat; rw [← Ny188.out] at ho; have n0_ := Am (hb); have n1_ := Am (ho); clear HB; clear HO_3; have HB := n0_; have HO190 := n1_; clear n0_ n1_; clear ho hb hg hat; have hcv10 := own_string (P := Try.prog) Try.underlying59 Try.underlying5 Try.underlying9 (Kd.own_of_R HO190.out)))
        go_ret
        exact ⟨by first | rfl | (simp [errW_none, errW_some] <;> rfl) | (simp [*, errW_none, errW_some] <;> rfl) | (simp [Aid.ne_nil, Aid.eq_nil, errW_none, errW_some]; done), by repeat (first | (with_reducible first | exact HB.out | apply bl | apply pN | apply b1) | exact HB.out | exact HBo.out)⟩
       ·
        rw [if_neg c8] at H
        exact absurd H (by simp)

/-! ### wire_Nums: function 29, by hand -/
def wire_Nums.l0 : Nat → List Int → ByteArray → Int → Option (ByteArray)
 | 0, _, _, _ => none
 | k + 1, x0, x3, x9 => if x9 < (x0.length : Int) then (if 0 ≤ x9 then ((varint_Put.f k (rd x0 x9)).bind fun t => (if t.toList = ([] : List UInt8) then (some (⟨#[]⟩ : ByteArray)) else (if x3.size + t.size ≤ 140737488355328 then (wire_Nums.l0 k x0 (x3 ++ t) (wrap64 (x9 + 1))) else (none)))) else (none)) else (some x3)
def wire_Nums.f (k : Nat) (l0 : List Int) : Option (ByteArray) := wire_Nums.l0 k l0 (⟨#[]⟩ : ByteArray) 0
theorem wire_Nums.mono_l : ∀ k, ∀ y0 y1 y2, LeO (wire_Nums.l0 k y0 y1 y2) (wire_Nums.l0 (k + 1) y0 y1 y2)
 | 0 => fun _ _ _ r h => by simp [wire_Nums.l0] at h
 | k + 1 => fun y0 y1 y2 => by
  have ih := wire_Nums.mono_l k
  unfold wire_Nums.l0
  exact LeO.ite (LeO.ite (LeO.bind (varint_Put.mono _ _) (fun _ => LeO.ite (LeO.refl _) (LeO.ite (ih _ _ _) (LeO.refl _)))) (LeO.refl _)) (LeO.refl _)
theorem wire_Nums.mono : ∀ a0 k, LeO (wire_Nums.f k a0) (wire_Nums.f (k + 1) a0) := fun a0 k => wire_Nums.mono_l k a0 _ 0
/-- The builder holds these bytes; below lies what lay. -/
def NumsAt (w : World) (acc : ByteArray) (w' : World) : Prop := Lib.IsBuilder 61 5 w.heap.size w.heap.size (Lib.strCells acc) w' ∧ Below w.heap.size w w'
theorem NumsAt.start (w : World) : NumsAt w (⟨#[]⟩ : ByteArray) (w.alloc (.cells #[.pointer none, .slice none 0 0] 61)) := ⟨Lib.fresh_isBuilder _ _ w, bl (Below.refl _ _) _⟩
theorem IsBuilder_below {B b : Nat} {bs : List Value} {w w1 : World} (h : Lib.IsBuilder 61 5 B b bs w) (hb : Below w.heap.size w w1) : Lib.IsBuilder 61 5 B b bs w1 := by
 have go : ∀ p, Lib.BuilderAt 61 5 B b p bs w → Lib.BuilderAt 61 5 B b p bs w1 := by
  rintro p ⟨hB, v, hbk, hown, hne⟩
  exact ⟨hB, v, blk_grown hbk (grown_of_below hb none) (by simp), pw_own_below hown hb, hne⟩
 rcases h with h | h
 ·
  exact .inl (go _ h)
 ·
  exact .inr (go _ h)
theorem NumsAt.below {w : World} {acc : ByteArray} {w' w1 : World} (h : NumsAt w acc w') (hb : Below w'.heap.size w' w1) : NumsAt w acc w1 := ⟨IsBuilder_below h.1 hb, below_step h.2 hb⟩
theorem NumsAt.put {w : World} {acc t : ByteArray} {w' w1 : World} (h : NumsAt w acc w') (k : Lib.BuilderAt 61 5 w.heap.size w.heap.size (.pointer (some ⟨w.heap.size, 0, none⟩)) (Lib.strCells acc ++ Lib.strCells t) w1) (hb : Below w.heap.size w' w1) : NumsAt w (acc ++ t) w1 := by
 refine ⟨.inr ?_, h.2.trans hb⟩
 have e : Lib.strCells (acc ++ t) = Lib.strCells acc ++ Lib.strCells t := by simp [Lib.strCells]
 rw [e]
 exact k
set_option maxHeartbeats 2000000 in
set_option maxRecDepth 100000 in
theorem wire_Nums.calls (k : Nat) (A0 : Option Addr) (c0 : Nat) (l0 : List Int) (r : ByteArray) (w : World) (hr0 : Kd.C (Kd.int .i64) w A0 l0.length l0) (hc0 : l0.length ≤ c0) (h : wire_Nums.f k l0 = some r) :
  Calls Try.prog 29 #[.slice A0 l0.length c0] w fun e w' => e = .returned (.string r) ∧ Below w.heap.size w w' := by
 have HR0 := Am hr0
 clear hr0 hc0
 have H' : Aside0 (wire_Nums.l0 k l0 (⟨#[]⟩ : ByteArray) 0 = some r) := Am h
 clear h
 go_enter Try.func29, Try.ntmps29
 go_wp2
 go_loopg [9] k (fun kq v9 w' => ∃ (x3 : ByteArray) (x9 : Int), v9 = .int .i64 x9 ∧ Aside0 (wire_Nums.l0 kq l0 x3 x9 = some r) ∧ NumsAt w x3 w')
 case atStart => exact ⟨_, 0, rfl, H', NumsAt.start w⟩
 case round =>
  clear H'
  obtain ⟨x3, x9, rfl, HA, HN⟩ := hrel
  cases gk with
  | zero => exact absurd HA.out (by simp [wire_Nums.l0])
  | succ k1 =>
   have H := HA.out
   clear HA
   simp only [wire_Nums.l0] at H
   by_cases c2 : x9 < (l0.length : Int)
   ·
    rw [if_pos c2] at H
    have c2b0 : decide (x9 < (l0.length : Int)) = true := decide_eq_true c2
    by_cases c3 : 0 ≤ x9
    ·
     rw [if_pos c3] at H
     have c3b0 : decide (0 ≤ x9) = true := decide_eq_true c3
     obtain ⟨ad, ea, hx⟩ := Kd.at_int HR0.out x9 c3 c2
     cases ea
     replace hx := (HN.2.cell (World.block_lt_of_cell? w _ hx)).trans hx
     have p1 := eq_true c3
     have q1 := eq_true c2
     clear c2 c3
     replace H := ob H
     obtain ⟨t, A40, H⟩ := H
     have A4 := Am A40
     clear A40
     by_cases c5 : t.toList = ([] : List UInt8)
     ·
      rw [if_pos c5] at H
      have c5b0 : (t.toList == ([] : List UInt8)) = true := beq_iff_eq.mpr c5
      clear c5
      obtain rfl := Option.some.inj H
      clear H
      go_wp2_with (go_at_call 41; (with_reducible refine (varint_Put.calls k1 _ t _ A4.out).mono ?_); rintro e w1 ⟨rfl, hb⟩; have HN1 := NumsAt.below HN hb; clear hb)
      go_ret
      exact ⟨rfl, HN1.2⟩
     ·
      rw [if_neg c5] at H
      have c5b0 : (t.toList == ([] : List UInt8)) = false := beq_eq_false_iff_ne.mpr c5
      clear c5
      by_cases c8 : x3.size + t.size ≤ 140737488355328
      ·
       rw [if_pos c8] at H
       have H' := Am H
       clear H
       have hlen : (Lib.strCells x3).length + t.size ≤ 140737488355328 := by rw [Lib.strCells_length]; exact c8
       have HL := Am hlen
       clear hlen c8
       go_wp2_with (first | (go_at_call 41; (with_reducible refine (varint_Put.calls k1 _ t _ A4.out).mono ?_); rintro e w1 ⟨rfl, hb⟩; have HN1 := NumsAt.below HN hb; clear hb) | (go_at_call 28; (refine (Go.Proofs.Ythfdhoegboeaeaa.Bld.writeString w.heap.size w.heap.size _ t _ HN1.1 HL.out (below_size HN1.2)).mono ?_); rintro e w2 ⟨rfl, hk, hb⟩; have HN2 := NumsAt.put HN1 hk hb; clear hk hb))
       go_roundg k1
       case rel => exact ⟨_, _, rfl, H', HN2⟩
       case measure => exact Nat.lt_succ_self _
      ·
       rw [if_neg c8] at H
       cases H
    ·
     rw [if_neg c3] at H
     cases H
   ·
    rw [if_neg c2] at H
    have c2b0 : decide (x9 < (l0.length : Int)) = false := decide_eq_false c2
    clear c2
    obtain rfl := Option.some.inj H
    clear H
    have HN' : Lib.IsBuilder 61 5 w.heap.size w.heap.size (Lib.byteCells x3.data.toList) _ := HN.1
    go_wp2_with (go_at_call 30; (refine (Go.Proofs.Ythfdhoegboeaeaa.Bld.string_any w.heap.size w.heap.size x3.data.toList _ HN' (below_size HN.2)).mono ?_); rintro e w2 ⟨rfl, hb⟩; have HB2 := HN.2.trans hb; clear hb)
    go_ret
    exact ⟨rfl, HB2⟩

/-! ### snap_Encode: function 14, by hand -/
/-- Rows of numbers, one behind the other. -/
def encL (f : List Int → Option ByteArray) : ByteArray → List (List Int) → Option ByteArray
 | acc, [] => some acc
 | acc, l :: r => (f l).bind fun t => if acc.size + t.size ≤ 140737488355328 then encL f (acc ++ t) r else none
theorem encL_mono {f g : List Int → Option ByteArray} (h : ∀ l, LeO (f l) (g l)) : ∀ (rs : List (List Int)) (acc : ByteArray), LeO (encL f acc rs) (encL g acc rs)
 | [], acc => LeO.refl _
 | l :: r, acc => by
  unfold encL
  exact LeO.bind (h l) (fun t => LeO.ite (encL_mono h r _) (LeO.refl _))
theorem encL_step {f : List Int → Option ByteArray} {acc : ByteArray} {l : List Int} {rs : List (List Int)} {r : ByteArray} (h : encL f acc (l :: rs) = some r) : ∃ t, f l = some t ∧ acc.size + t.size ≤ 140737488355328 ∧ encL f (acc ++ t) rs = some r := by
 unfold encL at h
 obtain ⟨t, h1, h2⟩ := Option.bind_eq_some_iff.1 h
 by_cases c : acc.size + t.size ≤ 140737488355328
 ·
  rw [if_pos c] at h2; exact ⟨t, h1, c, h2⟩
 ·
  rw [if_neg c] at h2; cases h2
def rowsP (ps : List S46) : List (List Int) := ps.map fun p => [p.f0, p.f1]
def rowsG (gs : List S36) : List (List Int) := gs.map fun g => [g.f0, g.f1, g.f2, g.f3]
def rowsS (a : Int) (ps : List S46) (gs : List S36) : List (List Int) := [a, (ps.length : Int)] :: (rowsP ps ++ ([(gs.length : Int)] :: rowsG gs))
def snap_Encode.f (k : Nat) (a0_0 : Int) (l0_1 : List S46) (l0_2 : List S36) : Option (ByteArray) := if mayAll a0_0 l0_1 l0_2 = true then encL (wire_Nums.f k) (⟨#[]⟩ : ByteArray) (rowsS a0_0 l0_1 l0_2) else some (⟨#[]⟩ : ByteArray)
theorem snap_Encode.mono : ∀ a0 a1 a2 k, LeO (snap_Encode.f k a0 a1 a2) (snap_Encode.f (k + 1) a0 a1 a2) := fun a0 a1 a2 k => by
 unfold snap_Encode.f
 exact LeO.ite (encL_mono (fun l => wire_Nums.mono l k) _ _) (LeO.refl _)
theorem rowsP_drop {ps : List S46} {x : Int} (h0 : 0 ≤ x) (h1 : x < (ps.length : Int)) : rowsP (ps.drop x.toNat) = [(rd_T46 ps x).f0, (rd_T46 ps x).f1] :: rowsP (ps.drop (x.toNat + 1)) := by
 have hx : x.toNat < ps.length := by omega
 unfold rd_T46 rowsP
 rw [List.drop_eq_getElem_cons hx, List.getD_eq_getElem?_getD, List.getElem?_eq_getElem hx]
 rfl
theorem rowsG_drop {gs : List S36} {x : Int} (h0 : 0 ≤ x) (h1 : x < (gs.length : Int)) : rowsG (gs.drop x.toNat) = [(rd_T36 gs x).f0, (rd_T36 gs x).f1, (rd_T36 gs x).f2, (rd_T36 gs x).f3] :: rowsG (gs.drop (x.toNat + 1)) := by
 have hx : x.toNat < gs.length := by omega
 unfold rd_T36 rowsG
 rw [List.drop_eq_getElem_cons hx, List.getD_eq_getElem?_getD, List.getElem?_eq_getElem hx]
 rfl
theorem nums_lit (k : Nat) (W : World) (xs : List Int) (hl : xs.length ≤ 9223372036854775807) (g : Nat) (hg : W.heap.size = g) {t : ByteArray} (h : wire_Nums.f k xs = some t) : Calls Try.prog 29 #[.slice (some ⟨g, 0, none⟩) xs.length xs.length] (W.alloc (.cells (xs.map (Value.int .i64)).toArray 3)) fun e w' => e = .returned (.string t) ∧ Below W.heap.size W w' := by
 subst hg
 refine (wire_Nums.calls k _ _ xs t _ (lit_C W xs _ hl) (Nat.le_refl _) h).mono fun e w' ⟨he, hb⟩ => ⟨he, below_step (bl (Below.refl _ _) _) hb⟩
theorem nums_lit1 (k : Nat) (W : World) (a : Int) (g : Nat) (hg : W.heap.size = g) {t : ByteArray} (h : wire_Nums.f k [a] = some t) : Calls Try.prog 29 #[.slice (some ⟨g, 0, none⟩) 1 1] (W.alloc (.cells #[.int .i64 a] 3)) fun e w' => e = .returned (.string t) ∧ Below W.heap.size W w' := nums_lit k W [a] (by simp) g hg h
theorem nums_lit2 (k : Nat) (W : World) (a b : Int) (g : Nat) (hg : W.heap.size = g) {t : ByteArray} (h : wire_Nums.f k [a, b] = some t) : Calls Try.prog 29 #[.slice (some ⟨g, 0, none⟩) 2 2] (W.alloc (.cells #[.int .i64 a, .int .i64 b] 3)) fun e w' => e = .returned (.string t) ∧ Below W.heap.size W w' := nums_lit k W [a, b] (by simp) g hg h
theorem nums_lit4 (k : Nat) (W : World) (a b c d : Int) (g : Nat) (hg : W.heap.size = g) {t : ByteArray} (h : wire_Nums.f k [a, b, c, d] = some t) : Calls Try.prog 29 #[.slice (some ⟨g, 0, none⟩) 4 4] (W.alloc (.cells #[.int .i64 a, .int .i64 b, .int .i64 c, .int .i64 d] 3)) fun e w' => e = .returned (.string t) ∧ Below W.heap.size W w' := nums_lit k W [a, b, c, d] (by simp) g hg h
theorem NumsAt.box {w w' : World} {acc : ByteArray} {g : Nat} {o : Obj} (h : NumsAt w acc w') (hb : w.heap[g]? = some o) : w'.heap[g]? = some o := (h.2.block g (blk_lt hb)).trans hb
theorem nx_enc (x : Int) (n : Nat) (h : x < (n : Int)) (h0 : 0 ≤ x) (hn : n ≤ 9223372036854775807) : wrap64 (x + 1) = x + 1 := by
 unfold wrap64
 omega
set_option maxHeartbeats 8000000 in
set_option maxRecDepth 100000 in
theorem snap_Encode.calls (k : Nat) (a0_0 : Int) (A0_1 : Option Addr) (c0_1 : Nat) (l0_1 : List S46) (A0_2 : Option Addr) (c0_2 : Nat) (l0_2 : List S36) (r : ByteArray) (w : World) (hr0_1 : Kd.C k46 w A0_1 l0_1.length l0_1) (hc0_1 : l0_1.length ≤ c0_1) (hr0_2 : Kd.C k36 w A0_2 l0_2.length l0_2) (hc0_2 : l0_2.length ≤ c0_2) (h : snap_Encode.f k a0_0 l0_1 l0_2 = some r) :
  Calls Try.prog 14 #[.agg #[.int .i64 a0_0, .slice A0_1 l0_1.length c0_1, .slice A0_2 l0_2.length c0_2]] w fun e w' => e = .returned (.string r) ∧ Below w.heap.size w w' := by
 have hml1 := hr0_1.2.1
 have hml2 := hr0_2.2.1
 have HMAY := Am (fun o => snap_May.calls a0_0 A0_1 c0_1 l0_1 A0_2 c0_2 l0_2 (mayAll a0_0 l0_1 l0_2) (w.alloc o) (Kd.C_alloc hr0_1 o) hc0_1 (Kd.C_alloc hr0_2 o) hc0_2 rfl)
 have HR1 := Am hr0_1
 have HR2 := Am hr0_2
 clear hr0_1 hr0_2 hc0_1 hc0_2
 unfold snap_Encode.f at h
 cases hm : mayAll a0_0 l0_1 l0_2 with
 | false =>
  rw [hm] at HMAY h
  rw [if_neg Bool.false_ne_true] at h
  obtain rfl := Option.some.inj h
  clear h hm
  go_enter Try.func14, Try.ntmps14
  go_wp2_with (first | (go_at_call 12; (with_reducible refine (HMAY.out _).mono ?_); rintro e w1 ⟨rfl, hb⟩; have HB1 := Am (below_step (bl (Below.refl w.heap.size w) _) hb); clear hb))
  go_ret
  exact ⟨rfl, HB1.out⟩
 | true =>
  rw [hm] at HMAY h
  rw [if_pos rfl] at h
  clear hm
  unfold rowsS at h
  obtain ⟨t0, ht0, hs0, h⟩ := encL_step h
  have HT0 := Am ht0
  have HS0 := Am (show (Lib.strCells (⟨#[]⟩ : ByteArray)).length + t0.size ≤ 140737488355328 by rw [Lib.strCells_length]; exact hs0)
  have H' := Am h
  clear h ht0 hs0
  go_enter Try.func14, Try.ntmps14
  go_wp2_with (first | (go_at_call 12; (with_reducible refine (HMAY.out _).mono ?_); rintro e w1 ⟨rfl, hb⟩; have HB1 := Am (below_step (bl (Below.refl w.heap.size w) _) hb); have BX1 := Am (blk_below (blk_new _ _) hb); clear hb; have HN0 := Am (NumsAt.start w1); have hq0 := (bc (NumsAt.box HN0.out BX1.out) 0).trans (show _ = some (Value.int .i64 a0_0) from rfl); have hq1 := (bc (NumsAt.box HN0.out BX1.out) 1).trans (show _ = some (Value.slice A0_1 l0_1.length c0_1) from rfl)) | (go_at_call 29; (refine (nums_lit2 k _ a0_0 (l0_1.length : Int) _ (by first | rfl | exact alloc_size _ _) HT0.out).mono ?_); rintro e w3 ⟨rfl, hb⟩; have HN1 := Am (NumsAt.below HN0.out hb); clear hb) | (go_at_call 28; (refine (Go.Proofs.Ythfdhoegboeaeaa.Bld.writeString w1.heap.size w1.heap.size _ t0 _ HN1.out.1 HS0.out (below_size HN1.out.2)).mono ?_); rintro e w4 ⟨rfl, hk, hb⟩; have HN2 := Am (NumsAt.put HN1.out hk hb); clear hk hb; have hq1' := (bc (NumsAt.box HN2.out BX1.out) 1).trans (show _ = some (Value.slice A0_1 l0_1.length c0_1) from rfl)))
  go_loopg [22] (l0_1.length + 1) (fun kq v22 w' => ∃ (x : Int) (acc : ByteArray), v22 = .int .i64 x ∧ Aside0 (0 ≤ x ∧ x ≤ l0_1.length ∧ (kq : Int) + x = l0_1.length + 1) ∧ Aside0 (encL (wire_Nums.f k) acc (rowsP (l0_1.drop x.toNat) ++ ([(l0_2.length : Int)] :: rowsG l0_2)) = some r) ∧ Aside0 (NumsAt w1 acc w'))
  case atStart => exact ⟨0, _, rfl, ⟨by omega, by omega, by omega⟩, H', HN2⟩
  case round =>
   clear H' HN2 HN1 HN0 hq0 hq1 hq1'
   obtain ⟨x, acc, rfl, HA, HE, HN⟩ := hrel
   cases gk with
   | zero => exact absurd HA.out.2.2 (by have := HA.out.2.1; omega)
   | succ k1 =>
   by_cases d1 : x < (l0_1.length : Int)
   ·
    have d1b : decide (x < (l0_1.length : Int)) = true := decide_eq_true d1
    have d0 := HA.out.1
    have he := HE.out
    rw [rowsP_drop d0 d1, List.cons_append] at he
    obtain ⟨t1, ht1, hs1, he⟩ := encL_step he
    have HS1 := Am (show (Lib.strCells acc).length + t1.size ≤ 140737488355328 by rw [Lib.strCells_length]; exact hs1)
    have HE' := Am he
    clear he HE hs1
    obtain ⟨ad, ea, hx0, hx1⟩ := at_T46 HR1.out x d0 d1
    cases ea
    replace hx0 := ((below_step HB1.out HN.out.2).cell (World.block_lt_of_cell? w _ hx0)).trans hx0
    replace hx1 := ((below_step HB1.out HN.out.2).cell (World.block_lt_of_cell? w _ hx1)).trans hx1
    have p1 := eq_true d0
    have q1 := eq_true d1
    have HD := Am (And.intro d0 d1)
    clear d0 d1
    generalize (rd_T46 l0_1 x).f0 = a at hx0 ht1
    generalize (rd_T46 l0_1 x).f1 = c at hx1 ht1
    have HT1 := Am ht1
    clear ht1
    go_wp2_with (first | (go_at_call 29; (refine (nums_lit2 k _ a c _ (by first | rfl | exact alloc_size _ _) HT1.out).mono ?_); rintro e w3 ⟨rfl, hb⟩; have HN1 := Am (NumsAt.below (NumsAt.below HN.out (bl (Below.refl _ _) _)) hb); clear hb) | (go_at_call 28; (refine (Go.Proofs.Ythfdhoegboeaeaa.Bld.writeString w1.heap.size w1.heap.size _ t1 _ HN1.out.1 HS1.out (below_size HN1.out.2)).mono ?_); rintro e w4 ⟨rfl, hk, hb⟩; have HN2 := Am (NumsAt.put HN1.out hk hb); clear hk hb))
    go_roundg k1
    case rel =>
     have e1 : wrap64 (x + 1) = x + 1 := nx_enc x l0_1.length HD.out.2 HA.out.1 hml1
     have e2 : (x + 1).toNat = x.toNat + 1 := by have := HA.out.1; omega
     exact ⟨_, _, rfl, ⟨by have := HA.out; rw [e1]; omega, by have := HD.out; rw [e1]; omega, by have := HA.out; rw [e1]; omega⟩, ⟨by rw [e1, e2]; exact HE'.out⟩, HN2⟩
    case measure => exact Nat.lt_succ_self _
   ·
    have d1b : decide (x < (l0_1.length : Int)) = false := decide_eq_false d1
    have he := HE.out
    rw [show l0_1.drop x.toNat = [] from List.drop_eq_nil_of_le (by omega)] at he
    obtain ⟨t1, ht1, hs1, he⟩ := encL_step (show encL (wire_Nums.f k) acc ([(l0_2.length : Int)] :: rowsG l0_2) = some r from he)
    have HS1 := Am (show (Lib.strCells acc).length + t1.size ≤ 140737488355328 by rw [Lib.strCells_length]; exact hs1)
    have HE' := Am he
    have HT1 := Am ht1
    clear he HE hs1 ht1 d1
    have hw2 := (bc (NumsAt.box HN.out BX1.out) 2).trans (show _ = some (Value.slice A0_2 l0_2.length c0_2) from rfl)
    go_wp2_with (first | (go_at_call 29; (refine (nums_lit1 k _ (l0_2.length : Int) _ (by first | rfl | exact alloc_size _ _) HT1.out).mono ?_); rintro e w3 ⟨rfl, hb⟩; have HN1 := Am (NumsAt.below HN.out hb); clear hb) | (go_at_call 28; (refine (Go.Proofs.Ythfdhoegboeaeaa.Bld.writeString w1.heap.size w1.heap.size _ t1 _ HN1.out.1 HS1.out (below_size HN1.out.2)).mono ?_); rintro e w4 ⟨rfl, hk, hb⟩; have HN2 := Am (NumsAt.put HN1.out hk hb); clear hk hb; have hw2' := (bc (NumsAt.box HN2.out BX1.out) 2).trans (show _ = some (Value.slice A0_2 l0_2.length c0_2) from rfl)))
    go_loopg [43] (l0_2.length + 1) (fun kq v43 w' => ∃ (x : Int) (acc : ByteArray), v43 = .int .i64 x ∧ Aside0 (0 ≤ x ∧ x ≤ l0_2.length ∧ (kq : Int) + x = l0_2.length + 1) ∧ Aside0 (encL (wire_Nums.f k) acc (rowsG (l0_2.drop x.toNat)) = some r) ∧ Aside0 (NumsAt w1 acc w'))
    case atStart => exact ⟨0, _, rfl, ⟨by omega, by omega, by omega⟩, HE', HN2⟩
    case round =>
     clear HE' HN2 HN1 HN hw2 hw2' HA
     obtain ⟨x, acc, rfl, HA, HE, HN⟩ := hrel
     cases gk with
     | zero => exact absurd HA.out.2.2 (by have := HA.out.2.1; omega)
     | succ k1 =>
     by_cases d1 : x < (l0_2.length : Int)
     ·
      have d1b : decide (x < (l0_2.length : Int)) = true := decide_eq_true d1
      have d0 := HA.out.1
      have he := HE.out
      rw [rowsG_drop d0 d1] at he
      obtain ⟨t1, ht1, hs1, he⟩ := encL_step he
      have HS1 := Am (show (Lib.strCells acc).length + t1.size ≤ 140737488355328 by rw [Lib.strCells_length]; exact hs1)
      have HE' := Am he
      clear he HE hs1
      obtain ⟨ad, ea, hx0, hx1, hx2, hx3⟩ := at_T36 HR2.out x d0 d1
      cases ea
      replace hx0 := ((below_step HB1.out HN.out.2).cell (World.block_lt_of_cell? w _ hx0)).trans hx0
      replace hx1 := ((below_step HB1.out HN.out.2).cell (World.block_lt_of_cell? w _ hx1)).trans hx1
      replace hx2 := ((below_step HB1.out HN.out.2).cell (World.block_lt_of_cell? w _ hx2)).trans hx2
      replace hx3 := ((below_step HB1.out HN.out.2).cell (World.block_lt_of_cell? w _ hx3)).trans hx3
      have p1 := eq_true d0
      have q1 := eq_true d1
      have HD := Am (And.intro d0 d1)
      clear d0 d1
      generalize (rd_T36 l0_2 x).f0 = a at hx0 ht1
      generalize (rd_T36 l0_2 x).f1 = b at hx1 ht1
      generalize (rd_T36 l0_2 x).f2 = c at hx2 ht1
      generalize (rd_T36 l0_2 x).f3 = d at hx3 ht1
      have HT1 := Am ht1
      clear ht1
      go_wp2_with (first | (go_at_call 29; (refine (nums_lit4 k _ a b c d _ (by first | rfl | exact alloc_size _ _) HT1.out).mono ?_); rintro e w3 ⟨rfl, hb⟩; have HN1 := Am (NumsAt.below (NumsAt.below HN.out (bl (Below.refl _ _) _)) hb); clear hb) | (go_at_call 28; (refine (Go.Proofs.Ythfdhoegboeaeaa.Bld.writeString w1.heap.size w1.heap.size _ t1 _ HN1.out.1 HS1.out (below_size HN1.out.2)).mono ?_); rintro e w4 ⟨rfl, hk, hb⟩; have HN2 := Am (NumsAt.put HN1.out hk hb); clear hk hb))
      go_roundg k1
      case rel =>
       have e1 : wrap64 (x + 1) = x + 1 := nx_enc x l0_2.length HD.out.2 HA.out.1 hml2
       have e2 : (x + 1).toNat = x.toNat + 1 := by have := HA.out.1; omega
       exact ⟨_, _, rfl, ⟨by have := HA.out; rw [e1]; omega, by have := HD.out; rw [e1]; omega, by have := HA.out; rw [e1]; omega⟩, ⟨by rw [e1, e2]; exact HE'.out⟩, HN2⟩
      case measure => exact Nat.lt_succ_self _
     ·
      have d1b : decide (x < (l0_2.length : Int)) = false := decide_eq_false d1
      have he := HE.out
      rw [show l0_2.drop x.toNat = [] from List.drop_eq_nil_of_le (by omega)] at he
      obtain rfl := Option.some.inj (show some acc = some r from he)
      clear he HE d1
      have HN' : Lib.IsBuilder 61 5 w1.heap.size w1.heap.size (Lib.byteCells acc.data.toList) _ := HN.out.1
      go_wp2_with (go_at_call 30; (refine (Go.Proofs.Ythfdhoegboeaeaa.Bld.string_any w1.heap.size w1.heap.size acc.data.toList _ HN' (below_size HN.out.2)).mono ?_); rintro e w2 ⟨rfl, hb⟩; have HB2 := below_step HB1.out (HN.out.2.trans hb); clear hb)
      go_ret
      exact ⟨rfl, HB2⟩

end Go.Proofs.Ythfdhoegboeaeaa.Q
