-- printed by a program of this session (NOTES: hprint); not the kit's print
-- minified
-- halved
import Derived.Test.YtlmmlmmbnfcogaaAl
import Derived.Test.YtlmmlmmbnfcogaaQx0
import Derived.Test.YtlmmlmmbnfcogaaQx5
namespace Go.Proofs.Ytlmmlmmbnfcogaa.Q
open Go.RowKit Go.Proofs.YtlmmlmmbnfcogaaW.PrintWords Go.Proofs.YtlmmlmmbnfcogaaW.PrintLast Go.Proofs.YtlmmlmmbnfcogaaW.PrintMore
attribute [local go_sem] max2_int min2_int max_two min_two max_three min_three max_four min_four   -- for this text's walks alone
set_option linter.unusedVariables false
set_option linter.unusedSimpArgs false

def q6_0 : Array Bool := let o := true; let z := false; #[z,z,z,z,z,z,z,z,z,z,z,z]
def q6_1 : Array Bool := let o := true; let z := false; #[o,z,z,z,z,z,z,z,z,z,z,z]
def q6_2 : Array Bool := let o := true; let z := false; #[o,z,z,o,z,z,z,z,z,z,z,z]
def q6_3 : Array Bool := let o := true; let z := false; #[o,z,z,o,z,o,z,z,z,z,z,z]
def q6_4 : Array Bool := let o := true; let z := false; #[o,z,z,o,z,o,o,z,z,z,z,z]
def q6_5 : Array Bool := let o := true; let z := false; #[o,z,z,o,o,o,o,z,z,z,z,z]
def q6_6 : Array Bool := let o := true; let z := false; #[o,z,z,o,o,o,o,o,z,z,z,z]
def q6_7 : Array Bool := let o := true; let z := false; #[o,z,z,o,o,o,o,o,o,z,z,z]
def q6_8 : Array Bool := let o := true; let z := false; #[o,o,z,o,o,o,o,o,o,z,z,z]
def q6_9 : Array Bool := let o := true; let z := false; #[o,o,o,o,o,o,o,o,o,z,z,z]
def q6_10 : Array Bool := let o := true; let z := false; #[o,o,o,o,o,o,o,o,o,o,z,z]
def q6_11 : Array Bool := let o := true; let z := false; #[o,o,o,o,o,o,o,o,o,o,o,z]
def q6_12 : Array Bool := let o := true; let z := false; #[o,o,o,o,o,o,o,o,o,o,o,o]
/-! ### table_each: function 27 -/
def table_each.l0 : Nat → List Int → Int → List Bool → List Int → Int → Int → Option (Bool)
 | 0, _, _, _, _, _, _ => none
 | k + 1, x0, x1, x5, x10, x11, x12 => if x12 < x11 then (if 0 ≤ x12 then (if x12 < (x10.length : Int) then (if (rd x10 x12) < 1 then (some false) else (if (rd x10 x12) > x1 then (some false) else (if 0 ≤ (wrap64 ((rd x10 x12) - 1)) then (if (wrap64 ((rd x10 x12) - 1)) < (x5.length : Int) then (if rdOf false x5 (wrap64 ((rd x10 x12) - 1)) = true then (some false) else (table_each.l0 k x0 x1 (x5.set ((wrap64 ((rd x10 x12) - 1)) : Int).toNat true) x10 x11 (wrap64 (x12 + 1)))) else (none)) else (none)))) else (none)) else (none)) else (some ((x0.length : Int) == x1))
def table_each.f (k : Nat) (l0 : List Int) (a1 : Int) : Option (Bool) := if 0 ≤ a1 then (if (a1 : Int).toNat ≤ 281474976710656 then (table_each.l0 k l0 a1 (List.replicate (a1 : Int).toNat false) l0 (l0.length : Int) 0) else (none)) else (none)
theorem table_each.mono_l : ∀ k, (∀ y0 y1 y2 y3 y4 y5, LeO (table_each.l0 k y0 y1 y2 y3 y4 y5) (table_each.l0 (k + 1) y0 y1 y2 y3 y4 y5))
 | 0 => fun _ _ _ _ _ _ r h => by simp [table_each.l0] at h
 | k + 1 => by
  have ih0 := table_each.mono_l k
  ·
   intro y0 y1 y2 y3 y4 y5
   unfold table_each.l0
   repeat' first
   | (with_reducible exact ih0 _ _ _ _ _ _)
   | (with_reducible exact LeO.refl _)
   | (with_reducible exact LeO.none _)
   | (with_reducible refine LeO.ite ?_ ?_)
   | (with_reducible refine LeO.bind ?_ (fun _ => ?_))
   | exact ih0 _ _ _ _ _ _
   | exact LeO.none _
   | refine LeO.ite ?_ ?_
   | refine LeO.bind ?_ (fun _ => ?_)
theorem table_each.mono : ∀ a0 a1 k, LeO (table_each.f k a0 a1) (table_each.f (k + 1) a0 a1) := by
 intro a0 a1 k
 have ih0 := table_each.mono_l k
 unfold table_each.f
 repeat' first
   | (with_reducible exact ih0 _ _ _ _ _ _)
   | (with_reducible exact LeO.refl _)
   | (with_reducible exact LeO.none _)
   | (with_reducible refine LeO.ite ?_ ?_)
   | (with_reducible refine LeO.bind ?_ (fun _ => ?_))
   | exact ih0 _ _ _ _ _ _
   | exact LeO.none _
   | refine LeO.ite ?_ ?_
   | refine LeO.bind ?_ (fun _ => ?_)
set_option maxHeartbeats 8000000 in
set_option maxRecDepth 100000 in
theorem table_each.calls (k : Nat) (A0 : Option Addr) (c0 : Nat) (l0 : List Int) (a1 : Int) (r : Bool) (w : World) (hr0 : Kd.C (Kd.int .i64) w A0 l0.length l0) (hc0 : l0.length ≤ c0) (h : table_each.f k l0 a1 = some r) :
  Calls Try.prog 27 #[.slice A0 l0.length c0, .int .i64 a1] w fun e w' => e = .returned (.bool r) ∧ Below w.heap.size w w' := by
 have HR0 := Am hr0
 have HC0 := Am hc0
 clear hr0 hc0
 have HB := Am (Below.refl w.heap.size w)
 have H : (if 0 ≤ a1 then (if (a1 : Int).toNat ≤ 281474976710656 then (table_each.l0 k l0 a1 (List.replicate (a1 : Int).toNat false) l0 (l0.length : Int) 0) else (none)) else (none)) = some r := h
 clear h
 by_cases c3 : 0 ≤ a1
 ·
  rw [if_pos c3] at H
  have c3b0 := eq_true c3
  have c3b1 : decide (0 ≤ a1) = true := decide_eq_true c3
  clear c3
  by_cases c4 : (a1 : Int).toNat ≤ 281474976710656
  ·
   rw [if_pos c4] at H
   have c4b0 := eq_true c4
   have c4b1 : decide ((a1 : Int).toNat ≤ 281474976710656) = true := decide_eq_true c4
   clear c4
   obtain ⟨y148, hy148⟩ : ∃ y_ : List Bool, y_ = (List.replicate (a1 : Int).toNat false) := ⟨_, rfl⟩
   replace H : (table_each.l0 k l0 a1 y148 l0 (l0.length : Int) 0) = some r := by first | (rw [hy148]; with_reducible exact H) | (have H2_ := (Option.bind_some _ _).symm.trans H; rw [hy148]; with_reducible exact H2_) | (have H2_ := (Option.bind_some _ _).symm.trans H; with_reducible exact H2_) | with_reducible exact H | (rw [hy148]; exact H) | exact H
   have Ny148 := Am hy148
   clear hy148
   have H' := Am H
   clear H
   go_enter Try.func27, Try.ntmps27
   go_wp2_with (first | ((with_reducible refine gate_dst (N := 9) rfl ?_); refine Kd.R_make Kd.bool _ 4 rfl (N := 9) rfl 78 _ _ rfl a1 rfl rfl Try.underlying78 (.bool false) 1 info4 rfl (by decide) (by omega) false (ok := fun _ => True) (okp := fun _ => True) rfl (fun _ hk => hk) trivial (of_decide_eq_true (by first | (with_reducible assumption) | assumption)) (Nat.le_trans (Nat.mul_le_mul_right _ (of_decide_eq_true (by first | (with_reducible assumption) | assumption) : a1.toNat ≤ 281474976710656)) (by omega)) (Below.refl _ _) (Nat.le_refl _) ?_; intro v149 w5 ho6 hb hg_ hnew_; clear hg_ hnew_; (first | rw [← Ny148.out] at ho6 | (simp only [Int.reduceToNat] at ho6; rw [← Ny148.out] at ho6)); have n0_ := Am (Kd.R_lower ho6 (below_size (by repeat (first | (with_reducible first | exact HB.out | apply bl | apply pN | apply b1) | exact HB.out | exact HBo.out)))); have n1_ := Am (below_step (by repeat (first | (with_reducible first | exact HB.out | apply bl | apply pN | apply b1) | exact HB.out | exact HBo.out)) hb); clear HB; have HO150 := n0_; have HB := n1_; clear n0_ n1_; clear hb ho6))
   go_loopg [12] k (fun kq v12 w' => ∃ (x5_1 : List Bool) (x12_1 : Int), v12 = .int .i64 x12_1 ∧ Aside0 (table_each.l0 kq l0 a1 x5_1 l0 (l0.length : Int) x12_1 = some r) ∧ Aside0 (kq ≤ k) ∧ Aside0 (Kd.R Kd.bool 4 w' w.heap.size (fun _ => True) v149 x5_1) ∧ Aside0 (Below w.heap.size w w'))
   case atStart => exact ⟨(y148), (0), (by first | rfl | (simp; done) | (simp [*]; done) | (simp; generalize ByteArray.toList _ = l_; cases l_ <;> rfl)), H', ⟨Nat.le_refl _⟩, ⟨by (with_reducible repeat (first | apply Kd.R_alloc | apply Kd.R_drewN | apply Kd.R_drew)); exact HO150.out⟩, ⟨by repeat (first | (with_reducible first | exact HB.out | apply bl | apply pN | apply b1) | exact HB.out | exact HBo.out)⟩⟩
   case round =>
    clear H'
    try clear c2
    try clear p2
    try clear c3
    try clear c3b0
    try clear c3b1
    try clear c4
    try clear c4b0
    try clear c4b1
    obtain ⟨x5_1, x12_1, rfl, HA, HK1, HO_5, HB⟩ := hrel
    cases gk with
    | zero => exact absurd HA.out (by simp [table_each.l0])
    | succ k1 =>
     have H := HA.out
     clear HA
     simp only [table_each.l0] at H
     by_cases c7 : x12_1 < (l0.length : Int)
     ·
      rw [if_pos c7] at H
      have c7b0 : decide (x12_1 < (l0.length : Int)) = true := decide_eq_true c7
      clear c7
      by_cases c8 : 0 ≤ x12_1
      ·
       rw [if_pos c8] at H
       have c8b0 : decide (0 ≤ x12_1) = true := decide_eq_true c8
       clear c8
       by_cases c9 : x12_1 < (l0.length : Int)
       ·
        rw [if_pos c9] at H
        have c9b0 : decide (x12_1 < (l0.length : Int)) = true := decide_eq_true c9
        clear c9
        by_cases c10 : (rd l0 x12_1) < 1
        ·
         rw [if_pos c10] at H
         have c10b0 : decide ((rd l0 x12_1) < 1) = true := decide_eq_true c10
         clear c10
         obtain rfl := Option.some.inj H
         have p151 : 0 ≤ (x12_1 : Int) := of_decide_eq_true (by first | (with_reducible assumption) | assumption)
         have q151 : x12_1 < (l0.length : Int) := of_decide_eq_true (by first | (with_reducible assumption) | assumption)
         obtain ⟨ad151, e151, hx151_0⟩ := Kd.at_int HR0.out x12_1 p151 q151
         cases e151
         replace hx151_0 := (HB.out.cell (World.block_lt_of_cell? w _ hx151_0)).trans hx151_0
         replace p151 := eq_true p151
         replace q151 := eq_true q151
         go_wp2
         go_ret
         exact ⟨by first | rfl | (simp [errW_none, errW_some] <;> rfl) | (simp [*, errW_none, errW_some] <;> rfl) | (simp [Aid.ne_nil, Aid.eq_nil, errW_none, errW_some]; done), by repeat (first | (with_reducible first | exact HB.out | apply bl | apply pN | apply b1) | exact HB.out | exact HBo.out)⟩
        ·
         rw [if_neg c10] at H
         have c10b0 : decide ((rd l0 x12_1) < 1) = false := decide_eq_false c10
         clear c10
         by_cases c11 : (rd l0 x12_1) > a1
         ·
          rw [if_pos c11] at H
          have c11b0 : decide (a1 < (rd l0 x12_1)) = true := decide_eq_true c11
          clear c11
          obtain rfl := Option.some.inj H
          have p151 : 0 ≤ (x12_1 : Int) := of_decide_eq_true (by first | (with_reducible assumption) | assumption)
          have q151 : x12_1 < (l0.length : Int) := of_decide_eq_true (by first | (with_reducible assumption) | assumption)
          obtain ⟨ad151, e151, hx151_0⟩ := Kd.at_int HR0.out x12_1 p151 q151
          cases e151
          replace hx151_0 := (HB.out.cell (World.block_lt_of_cell? w _ hx151_0)).trans hx151_0
          replace p151 := eq_true p151
          replace q151 := eq_true q151
          go_wp2
          go_ret
          exact ⟨by first | rfl | (simp [errW_none, errW_some] <;> rfl) | (simp [*, errW_none, errW_some] <;> rfl) | (simp [Aid.ne_nil, Aid.eq_nil, errW_none, errW_some]; done), by repeat (first | (with_reducible first | exact HB.out | apply bl | apply pN | apply b1) | exact HB.out | exact HBo.out)⟩
         ·
          rw [if_neg c11] at H
          have c11b0 : decide (a1 < (rd l0 x12_1)) = false := decide_eq_false c11
          clear c11
          obtain ⟨ji12, hji12⟩ : ∃ j_ : Int, (wrap64 ((rd l0 x12_1) - 1)) = j_ := ⟨_, rfl⟩
          replace H : (if 0 ≤ (ji12) then (if (ji12) < (x5_1.length : Int) then (if rdOf false x5_1 (ji12) = true then (some false) else (table_each.l0 k1 l0 a1 (x5_1.set ((ji12) : Int).toNat true) l0 (l0.length : Int) (wrap64 (x12_1 + 1)))) else (none)) else (none)) = some r := by first | (rw [hji12] at H; exact H) | (simp only [hji12] at H ⊢; exact H)
          have hji12w : (IntKind.i64.wrap ((rd l0 x12_1) - 1)) = ji12 := (i64_w _).trans hji12
          by_cases c13 : 0 ≤ (ji12)
          ·
           rw [if_pos c13] at H
           have c13b0 : decide (0 ≤ (ji12)) = true := decide_eq_true c13
           clear c13
           by_cases c14 : (ji12) < (x5_1.length : Int)
           ·
            rw [if_pos c14] at H
            have c14b0 : decide ((ji12) < (x5_1.length : Int)) = true := decide_eq_true c14
            clear c14
            obtain ⟨bq15, hbq15⟩ : ∃ b_ : Bool, b_ = (rdOf false x5_1 (ji12)) := ⟨_, rfl⟩
            replace H : (if bq15 = true then (some false) else (table_each.l0 k1 l0 a1 (x5_1.set ((ji12) : Int).toNat true) l0 (l0.length : Int) (wrap64 (x12_1 + 1)))) = some r := by rw [← hbq15] at H; exact H
            have Nbq15 := Am hbq15
            clear hbq15
            by_cases c16 : bq15 = true
            ·
             subst c16
             have H1 : (some false) = some r := by rw [if_pos rfl] at H; exact H
             clear H
             have H := H1
             clear H1
             obtain rfl := Option.some.inj H
             have p151 : 0 ≤ (x12_1 : Int) := of_decide_eq_true (by first | (with_reducible assumption) | assumption)
             have q151 : x12_1 < (l0.length : Int) := of_decide_eq_true (by first | (with_reducible assumption) | assumption)
             obtain ⟨ad151, e151, hx151_0⟩ := Kd.at_int HR0.out x12_1 p151 q151
             cases e151
             replace hx151_0 := (HB.out.cell (World.block_lt_of_cell? w _ hx151_0)).trans hx151_0
             replace p151 := eq_true p151
             replace q151 := eq_true q151
             obtain ⟨Ao17, co17, eo17⟩ := Kd.R_slice HO_5.out
             subst eo17
             have p152 : 0 ≤ ((ji12) : Int) := of_decide_eq_true (by first | (with_reducible assumption) | assumption)
             have q152 : (ji12) < (x5_1.length : Int) := of_decide_eq_true (by first | (with_reducible assumption) | assumption)
             obtain ⟨ad152, e152, hx152_0⟩ := Kd.at_bool (Kd.R_reads' HO_5.out).2.2 (ji12) p152 q152
             (try rw [← Nbq15.out] at hx152_0)
             cases e152
             replace p152 := eq_true p152
             replace q152 := eq_true q152
             go_wp2
             go_ret
             exact ⟨by first | rfl | (simp [errW_none, errW_some] <;> rfl) | (simp only [← hji12]; first | rfl | (simp [errW_none, errW_some] <;> rfl)) | (simp [*, errW_none, errW_some] <;> rfl) | (simp [Aid.ne_nil, Aid.eq_nil, errW_none, errW_some]; done), by repeat (first | (with_reducible first | exact HB.out | apply bl | apply pN | apply b1) | exact HB.out | exact HBo.out)⟩
            ·
             replace c16 := Bool.eq_false_iff.mpr c16
             subst c16
             have H1 : (table_each.l0 k1 l0 a1 (x5_1.set ((ji12) : Int).toNat true) l0 (l0.length : Int) (wrap64 (x12_1 + 1))) = some r := by rw [if_neg (show ¬ (false = true) by decide)] at H; exact H
             clear H
             have H := H1
             clear H1
             obtain ⟨y153, hy153⟩ : ∃ y_ : List Bool, y_ = (x5_1.set ((ji12) : Int).toNat true) := ⟨_, rfl⟩
             replace H : (table_each.l0 k1 l0 a1 y153 l0 (l0.length : Int) (wrap64 (x12_1 + 1))) = some r := by first | (rw [hy153]; with_reducible exact H) | (have H2_ := (Option.bind_some _ _).symm.trans H; rw [hy153]; with_reducible exact H2_) | (have H2_ := (Option.bind_some _ _).symm.trans H; with_reducible exact H2_) | with_reducible exact H | (rw [hy153]; exact H) | exact H
             have Ny153 := Am hy153
             clear hy153
             have H' := Am H
             clear H
             have p151 : 0 ≤ (x12_1 : Int) := of_decide_eq_true (by first | (with_reducible assumption) | assumption)
             have q151 : x12_1 < (l0.length : Int) := of_decide_eq_true (by first | (with_reducible assumption) | assumption)
             obtain ⟨ad151, e151, hx151_0⟩ := Kd.at_int HR0.out x12_1 p151 q151
             cases e151
             replace hx151_0 := (HB.out.cell (World.block_lt_of_cell? w _ hx151_0)).trans hx151_0
             replace p151 := eq_true p151
             replace q151 := eq_true q151
             obtain ⟨Ao19, co19, eo19⟩ := Kd.R_slice HO_5.out
             subst eo19
             have p152 : 0 ≤ ((ji12) : Int) := of_decide_eq_true (by first | (with_reducible assumption) | assumption)
             have q152 : (ji12) < (x5_1.length : Int) := of_decide_eq_true (by first | (with_reducible assumption) | assumption)
             obtain ⟨ad152, e152, hx152_0⟩ := Kd.at_bool (Kd.R_reads' HO_5.out).2.2 (ji12) p152 q152
             (try rw [← Nbq15.out] at hx152_0)
             cases e152
             replace p152 := eq_true p152
             replace q152 := eq_true q152
             have p18 : 0 ≤ ((ji12) : Int) := of_decide_eq_true (by first | (with_reducible assumption) | assumption)
             have q18 : ((ji12) : Int) < ((x5_1.length : Int) : Int) := of_decide_eq_true (by first | (with_reducible assumption) | assumption)
             obtain ⟨go18, co18, eo18, gb18, gl18, cl18, HG18⟩ := Kd.R_form HO_5.out (by omega)
             (first | cases eo18 | (injection eo18 with ea_ en_ ec_; (first | subst ea_ | (injection ea_ with ea_; subst ea_)); subst ec_; clear en_))
             have GB18 := Am gb18
             have GG18 := Am HG18
             clear gb18 gl18 HG18
             (first | simp only [add_plain] at hx152_0 | skip)
             obtain ⟨hx18_0, hf18_0⟩ := Kd.R_celln false HO_5.out ((ji12) : Int) p18 q18
             replace p18 := eq_true p18
             replace q18 := eq_true q18
             have HP20 := Kd.R_putg HO_5.out ((ji12) : Int) true
             go_wp2_with (first | ((with_reducible refine gate_store (t := 4) (p := 33) rfl ?_); refine store_event (t := 4) (p := 33) (v := ?vo_w21) (w1 := (wr.setCell ⟨go18, ((ji12) : Int).toNat, none⟩ (.bool true))) ?hg ?ho ?hn ?hr ?_; (case ho => rfl); (case hg => rfl); (case hn => rfl); (case hr => first | (go_simp; done) | (go_simp; rfl)); intro w21 hw; have hg : wr.grownBy w21 (some go18) := (by rw [hw]; exact HP20.2); have hp_ : Kd.R Kd.bool 4 w21 w.heap.size (fun _ => True) (.slice (some ⟨go18, 0, none⟩) x5_1.length co19) y153 := (by rw [hw, Ny153.out]; exact HP20.1); clear HP20; have n0_ := Am (hp_); have n1_ := Am ((by rw [hw]; exact bs (HB.out) GB18.out : Below w.heap.size w w21)); clear HO_5; clear HB; have HO_5 := n0_; have HB := n1_; clear n0_ n1_; clear hg hw hp_))
             go_roundg k1
             case measure => have := HK1.out; omega
             case rel => exact ⟨(y153), (wrap64 (x12_1 + 1)), (by first | rfl | (simp; done) | (simp [*]; done) | (simp; generalize ByteArray.toList _ = l_; cases l_ <;> rfl)), H', ⟨by have := HK1.out; omega⟩, ⟨by (with_reducible repeat (first | apply Kd.R_alloc | apply Kd.R_drewN | apply Kd.R_drew)); exact HO_5.out⟩, ⟨by repeat (first | (with_reducible first | exact HB.out | apply bl | apply pN | apply b1) | exact HB.out | exact HBo.out)⟩⟩
           ·
            rw [if_neg c14] at H
            exact absurd H (by simp)
          ·
           rw [if_neg c13] at H
           exact absurd H (by simp)
       ·
        rw [if_neg c9] at H
        exact absurd H (by simp)
      ·
       rw [if_neg c8] at H
       exact absurd H (by simp)
     ·
      rw [if_neg c7] at H
      have c7b0 : decide (x12_1 < (l0.length : Int)) = false := decide_eq_false c7
      clear c7
      obtain rfl := Option.some.inj H
      go_wp2
      go_ret
      exact ⟨by first | rfl | (simp [errW_none, errW_some] <;> rfl) | (simp [*, errW_none, errW_some] <;> rfl) | (simp [Aid.ne_nil, Aid.eq_nil, errW_none, errW_some]; done), by repeat (first | (with_reducible first | exact HB.out | apply bl | apply pN | apply b1) | exact HB.out | exact HBo.out)⟩
  ·
   rw [if_neg c4] at H
   exact absurd H (by simp)
 ·
  rw [if_neg c3] at H
  exact absurd H (by simp)

-- NOT PRINTED: function 62 (abi_NoEscape)

-- NOT PRINTED: function 50 (strings_Builder_copyCheck)

-- NOT PRINTED: function 28 (strings_Builder_WriteString)

-- NOT PRINTED: function 31 (strings_Builder_String)

/-! ### wire_Nums: function 29, by hand -/
def wire_Nums.l0 : Nat → List Int → ByteArray → Int → Option (ByteArray)
 | 0, _, _, _ => none
 | k + 1, x0, x3, x9 => if x9 < (x0.length : Int) then (if 0 ≤ x9 then ((varint_Put.f k (rd x0 x9)).bind fun t => (if t.toList = ([] : List UInt8) then (some (⟨#[]⟩ : ByteArray)) else (if x3.size + t.size ≤ 140737488355328 then (wire_Nums.l0 k x0 (x3 ++ t) (wrap64 (x9 + 1))) else (none)))) else (none)) else (some x3)
def wire_Nums.f (k : Nat) (l0 : List Int) : Option (ByteArray) := wire_Nums.l0 k l0 (⟨#[]⟩ : ByteArray) 0
theorem wire_Nums.mono_l : ∀ k, ∀ y0 y1 y2, LeO (wire_Nums.l0 k y0 y1 y2) (wire_Nums.l0 (k + 1) y0 y1 y2)
 | 0 => fun _ _ _ r h => by simp [wire_Nums.l0] at h
 | k + 1 => fun y0 y1 y2 => by
  have ih := wire_Nums.mono_l k
  unfold wire_Nums.l0
  exact LeO.ite (LeO.ite (LeO.bind (varint_Put.mono _ _) (fun _ => LeO.ite (LeO.refl _) (LeO.ite (ih _ _ _) (LeO.refl _)))) (LeO.refl _)) (LeO.refl _)
theorem wire_Nums.mono : ∀ a0 k, LeO (wire_Nums.f k a0) (wire_Nums.f (k + 1) a0) := fun a0 k => wire_Nums.mono_l k a0 _ 0
/-- The builder holds these bytes; below lies what lay. -/
def NumsAt (w : World) (acc : ByteArray) (w' : World) : Prop := Lib.IsBuilder 63 5 w.heap.size w.heap.size (Lib.strCells acc) w' ∧ Below w.heap.size w w'
theorem NumsAt.start (w : World) : NumsAt w (⟨#[]⟩ : ByteArray) (w.alloc (.cells #[.pointer none, .slice none 0 0] 63)) := ⟨Lib.fresh_isBuilder _ _ w, bl (Below.refl _ _) _⟩
theorem IsBuilder_below {B b : Nat} {bs : List Value} {w w1 : World} (h : Lib.IsBuilder 63 5 B b bs w) (hb : Below w.heap.size w w1) : Lib.IsBuilder 63 5 B b bs w1 := by
 have go : ∀ p, Lib.BuilderAt 63 5 B b p bs w → Lib.BuilderAt 63 5 B b p bs w1 := by
  rintro p ⟨hB, v, hbk, hown, hne⟩
  exact ⟨hB, v, blk_grown hbk (grown_of_below hb none) (by simp), pw_own_below hown hb, hne⟩
 rcases h with h | h
 ·
  exact .inl (go _ h)
 ·
  exact .inr (go _ h)
theorem NumsAt.below {w : World} {acc : ByteArray} {w' w1 : World} (h : NumsAt w acc w') (hb : Below w'.heap.size w' w1) : NumsAt w acc w1 := ⟨IsBuilder_below h.1 hb, below_step h.2 hb⟩
theorem NumsAt.put {w : World} {acc t : ByteArray} {w' w1 : World} (h : NumsAt w acc w') (k : Lib.BuilderAt 63 5 w.heap.size w.heap.size (.pointer (some ⟨w.heap.size, 0, none⟩)) (Lib.strCells acc ++ Lib.strCells t) w1) (hb : Below w.heap.size w' w1) : NumsAt w (acc ++ t) w1 := by
 refine ⟨.inr ?_, h.2.trans hb⟩
 have e : Lib.strCells (acc ++ t) = Lib.strCells acc ++ Lib.strCells t := by simp [Lib.strCells]
 rw [e]
 exact k
set_option maxHeartbeats 2000000 in
set_option maxRecDepth 100000 in
theorem wire_Nums.calls (k : Nat) (A0 : Option Addr) (c0 : Nat) (l0 : List Int) (r : ByteArray) (w : World) (hr0 : Kd.C (Kd.int .i64) w A0 l0.length l0) (hc0 : l0.length ≤ c0) (h : wire_Nums.f k l0 = some r) :
  Calls Try.prog 29 #[.slice A0 l0.length c0] w fun e w' => e = .returned (.string r) ∧ Below w.heap.size w w' := by
 have HR0 := Am hr0
 clear hr0 hc0
 have H' : Aside0 (wire_Nums.l0 k l0 (⟨#[]⟩ : ByteArray) 0 = some r) := Am h
 clear h
 go_enter Try.func29, Try.ntmps29
 go_wp2
 go_loopg [9] k (fun kq v9 w' => ∃ (x3 : ByteArray) (x9 : Int), v9 = .int .i64 x9 ∧ Aside0 (wire_Nums.l0 kq l0 x3 x9 = some r) ∧ NumsAt w x3 w')
 case atStart => exact ⟨_, 0, rfl, H', NumsAt.start w⟩
 case round =>
  clear H'
  obtain ⟨x3, x9, rfl, HA, HN⟩ := hrel
  cases gk with
  | zero => exact absurd HA.out (by simp [wire_Nums.l0])
  | succ k1 =>
   have H := HA.out
   clear HA
   simp only [wire_Nums.l0] at H
   by_cases c2 : x9 < (l0.length : Int)
   ·
    rw [if_pos c2] at H
    have c2b0 : decide (x9 < (l0.length : Int)) = true := decide_eq_true c2
    by_cases c3 : 0 ≤ x9
    ·
     rw [if_pos c3] at H
     have c3b0 : decide (0 ≤ x9) = true := decide_eq_true c3
     obtain ⟨ad, ea, hx⟩ := Kd.at_int HR0.out x9 c3 c2
     cases ea
     replace hx := (HN.2.cell (World.block_lt_of_cell? w _ hx)).trans hx
     have p1 := eq_true c3
     have q1 := eq_true c2
     clear c2 c3
     replace H := ob H
     obtain ⟨t, A40, H⟩ := H
     have A4 := Am A40
     clear A40
     by_cases c5 : t.toList = ([] : List UInt8)
     ·
      rw [if_pos c5] at H
      have c5b0 : (t.toList == ([] : List UInt8)) = true := beq_iff_eq.mpr c5
      try have c5b9 : (t.toList).isEmpty = true := List.isEmpty_iff.2 c5
      clear c5
      obtain rfl := Option.some.inj H
      clear H
      go_wp2_with (go_at_call 51; (with_reducible refine (varint_Put.calls k1 _ t _ A4.out).mono ?_); rintro e w1 ⟨rfl, hb⟩; have HN1 := NumsAt.below HN hb; clear hb)
      go_ret
      exact ⟨rfl, HN1.2⟩
     ·
      rw [if_neg c5] at H
      have c5b0 : (t.toList == ([] : List UInt8)) = false := beq_eq_false_iff_ne.mpr c5
      try have c5b9 : (t.toList).isEmpty = false := (by rw [List.isEmpty_eq_false_iff]; exact c5)
      clear c5
      by_cases c8 : x3.size + t.size ≤ 140737488355328
      ·
       rw [if_pos c8] at H
       have H' := Am H
       clear H
       have hlen : (Lib.strCells x3).length + t.size ≤ 140737488355328 := by rw [Lib.strCells_length]; exact c8
       have HL := Am hlen
       clear hlen c8
       go_wp2_with (first | (go_at_call 51; (with_reducible refine (varint_Put.calls k1 _ t _ A4.out).mono ?_); rintro e w1 ⟨rfl, hb⟩; have HN1 := NumsAt.below HN hb; clear hb) | (go_at_call 28; (refine (Go.Proofs.Ytlmmlmmbnfcogaa.Bld.writeString w.heap.size w.heap.size _ t _ HN1.1 HL.out (below_size HN1.2)).mono ?_); rintro e w2 ⟨rfl, hk, hb⟩; have HN2 := NumsAt.put HN1 hk hb; clear hk hb))
       go_roundg k1
       case rel => exact ⟨_, _, rfl, H', HN2⟩
       case measure => exact Nat.lt_succ_self _
      ·
       rw [if_neg c8] at H
       cases H
    ·
     rw [if_neg c3] at H
     cases H
   ·
    rw [if_neg c2] at H
    have c2b0 : decide (x9 < (l0.length : Int)) = false := decide_eq_false c2
    clear c2
    obtain rfl := Option.some.inj H
    clear H
    have HN' : Lib.IsBuilder 63 5 w.heap.size w.heap.size (Lib.byteCells x3.data.toList) _ := HN.1
    go_wp2_with (go_at_call 31; (refine (Go.Proofs.Ytlmmlmmbnfcogaa.Bld.string_any w.heap.size w.heap.size x3.data.toList _ HN' (below_size HN.2)).mono ?_); rintro e w2 ⟨rfl, hb⟩; have HB2 := HN.2.trans hb; clear hb)
    go_ret
    exact ⟨rfl, HB2⟩

/-! ### wire_Text: function 30 -/
def wire_Text.f (k : Nat) (a0 : ByteArray) : Option (ByteArray) := (varint_Put.f k (a0.size : Int)).bind fun t154 => (if t154.size + a0.size ≤ 9223372036854775807 then (some (t154 ++ a0)) else (none))
theorem wire_Text.mono : ∀ a0 k, LeO (wire_Text.f k a0) (wire_Text.f (k + 1) a0) := by
 intro a0 k
 unfold wire_Text.f
 repeat' first
   | (with_reducible exact varint_Put.mono _ _)
   | (with_reducible exact LeO.refl _)
   | (with_reducible exact LeO.none _)
   | (with_reducible refine LeO.ite ?_ ?_)
   | (with_reducible refine LeO.bind ?_ (fun _ => ?_))
   | exact varint_Put.mono _ _
   | exact LeO.none _
   | refine LeO.ite ?_ ?_
   | refine LeO.bind ?_ (fun _ => ?_)
set_option maxHeartbeats 8000000 in
set_option maxRecDepth 100000 in
theorem wire_Text.calls (k : Nat) (a0 : ByteArray) (r : ByteArray) (w : World) (h : wire_Text.f k a0 = some r) :
  Calls Try.prog 30 #[.string a0] w fun e w' => e = .returned (.string r) ∧ Below w.heap.size w w' := by
 have HB := Am (Below.refl w.heap.size w)
 have H : ((varint_Put.f k (a0.size : Int)).bind fun t154 => (if t154.size + a0.size ≤ 9223372036854775807 then (some (t154 ++ a0)) else (none))) = some r := h
 clear h
 replace H := ob H
 obtain ⟨t154, A20, H⟩ := H
 replace H : (if t154.size + a0.size ≤ 9223372036854775807 then (some (t154 ++ a0)) else (none)) = some r := H
 have A2 := Am A20
 clear A20
 by_cases c3 : t154.size + a0.size ≤ 9223372036854775807
 ·
  rw [if_pos c3] at H
  have c3b0 := eq_true c3
  have c3b1 : decide (t154.size + a0.size ≤ 9223372036854775807) = true := decide_eq_true c3
  try have c3b2 : (9223372036854775807 < t154.size + a0.size) = False := eq_false (Nat.not_lt.2 c3)
  obtain rfl := Option.some.inj H
  go_enter Try.func30, Try.ntmps30
  go_wp2_with (first | ((with_reducible refine gate_callee (f := 51) rfl ?_); refine goesL_ (some 5) rfl rfl Try.func51 (by kernel_rfl) rfl #[.int .i64 (a0.size : Int)] rfl (by (try simp only [List.map_toArray, List.map_cons, List.map_nil]); first | done | rfl | (simp only [List.length_drop, List.length_take]; rfl)) ?_; (with_reducible refine (varint_Put.calls k (a0.size : Int) t154 _ A2.out).mono ?_); rintro e w4 ⟨rfl, hb⟩; refine ⟨_, rfl, ?_⟩; have n0_ := Am (below_step (by repeat (first | (with_reducible first | exact HB.out | apply bl | apply pN | apply b1) | exact HB.out | exact HBo.out)) hb); clear HB; have HB := n0_; clear n0_; (try clear hb); (try clear hb2); (try clear hk); (try clear hi)))
  go_ret
  exact ⟨by first | rfl | (simp [errW_none, errW_some] <;> rfl) | (simp [*, errW_none, errW_some] <;> rfl) | (simp [Aid.ne_nil, Aid.eq_nil, errW_none, errW_some]; done), by repeat (first | (with_reducible first | exact HB.out | apply bl | apply pN | apply b1) | exact HB.out | exact HBo.out)⟩
 ·
  rw [if_neg c3] at H
  exact absurd H (by simp)

/-! ### table_Order: function 13, by hand -/
def table_Order.T8 : Bool × List (List Nat × List Nat) := (true, [([], []), ([0], [0]), ([1], [1]), ([], []), ([3], [3]), ([], []), ([5], [5]), ([4, 6], [4, 6]), ([7], [7]), ([8, 2], [8]), ([2, 9], [2, 9]), ([10, 9], [10])])
def table_Order.B8 : List Nat := [0, 1, 3, 0, 8, 0, 32, 120, 248, 511, 1023, 2047]
theorem table_Order.tab8 : rtab .any (opsOf Try.f13 8) = table_Order.T8 := by kernel_rfl
theorem table_Order.bits8 : waitsOk table_Order.T8.2 table_Order.B8 = true := by kernel_rfl
/-- A piece that is written: numbers; a number and a text; one that is out of reach. -/
inductive Pc where
 | n (l : List Int)
 | s (i : Int) (t : ByteArray)
 | bad
def pcF (k : Nat) : Pc → Option ByteArray
 | .n l => wire_Nums.f k l
 | .s i t => (wire_Nums.f k [i]).bind fun a => (wire_Text.f k t).bind fun b => if a.size + b.size ≤ 9223372036854775807 then some (a ++ b) else none
 | .bad => none
theorem pcF_mono (k : Nat) : ∀ p, LeO (pcF k p) (pcF (k + 1) p)
 | .n l => wire_Nums.mono l k
 | .s i t => LeO.bind (wire_Nums.mono _ k) (fun _ => LeO.bind (wire_Text.mono _ k) (fun _ => LeO.refl _))
 | .bad => LeO.refl _
/-- Pieces, one behind the other. -/
def encK (k : Nat) : ByteArray → List Pc → Option ByteArray
 | acc, [] => some acc
 | acc, p :: r => (pcF k p).bind fun t => if acc.size + t.size ≤ 140737488355328 then encK k (acc ++ t) r else none
theorem encK_mono (k : Nat) : ∀ (rs : List Pc) (acc : ByteArray), LeO (encK k acc rs) (encK (k + 1) acc rs)
 | [], acc => LeO.refl _
 | p :: r, acc => by
  unfold encK
  exact LeO.bind (pcF_mono k p) (fun t => LeO.ite (encK_mono k r _) (LeO.refl _))
theorem encK_step {k : Nat} {acc : ByteArray} {p : Pc} {rs : List Pc} {r : ByteArray} (h : encK k acc (p :: rs) = some r) : ∃ t, pcF k p = some t ∧ acc.size + t.size ≤ 140737488355328 ∧ encK k (acc ++ t) rs = some r := by
 unfold encK at h
 obtain ⟨t, h1, h2⟩ := Option.bind_eq_some_iff.1 h
 by_cases c : acc.size + t.size ≤ 140737488355328
 ·
  rw [if_pos c] at h2; exact ⟨t, h1, c, h2⟩
 ·
  rw [if_neg c] at h2; cases h2
def nameP (ss : List ByteArray) (i : Int) : Pc := if 1 ≤ i ∧ i ≤ ss.length then .s i (rdOf ByteArray.empty ss (i - 1)) else .bad
def rowF (l : List S70) : List Pc := l.map fun f => .n [f.f0, f.f1]
def stackP (zs : List (List S70)) (i : Int) : List Pc := if 1 ≤ i ∧ i ≤ zs.length then .n [i, ((rd_stk zs (i - 1)).length : Int)] :: rowF (rd_stk zs (i - 1)) else [.bad]
def ordP (ss : List ByteArray) (zs : List (List S70)) (l1 l2 : List Int) : List Pc := .n [(l1.length : Int)] :: (l1.map (nameP ss) ++ (.n [(l2.length : Int)] :: l2.flatMap (stackP zs)))
def table_Order.f (k : Nat) (l0_0 : List ByteArray) (l0_1 : List (List S70)) (l1 l2 : List Int) : Option ByteArray :=
 (intern_May.f k l0_0 l0_1).bind fun m => if m = true then ((table_each.f k l1 (l0_0.length : Int)).bind fun e1 => if e1 = true then ((table_each.f k l2 (l0_1.length : Int)).bind fun e2 => if e2 = true then encK k (⟨#[]⟩ : ByteArray) (ordP l0_0 l0_1 l1 l2) else some (⟨#[]⟩ : ByteArray)) else some (⟨#[]⟩ : ByteArray)) else some (⟨#[]⟩ : ByteArray)
theorem table_Order.mono : ∀ a0 a1 a2 a3 k, LeO (table_Order.f k a0 a1 a2 a3) (table_Order.f (k + 1) a0 a1 a2 a3) := fun a0 a1 a2 a3 k => by
 unfold table_Order.f
 exact LeO.bind (intern_May.mono _ _ k) (fun _ => LeO.ite (LeO.bind (table_each.mono _ _ k) (fun _ => LeO.ite (LeO.bind (table_each.mono _ _ k) (fun _ => LeO.ite (encK_mono k _ _) (LeO.refl _))) (LeO.refl _))) (LeO.refl _))
theorem map_drop1 {α β : Type} (f : α → β) (l : List α) (d : α) {x : Int} (h0 : 0 ≤ x) (h1 : x < (l.length : Int)) : (l.drop x.toNat).map f = f (l.getD x.toNat d) :: (l.drop (x.toNat + 1)).map f := by
 have hx : x.toNat < l.length := by omega
 rw [List.drop_eq_getElem_cons hx, List.getD_eq_getElem?_getD, List.getElem?_eq_getElem hx]
 rfl
theorem rowF_drop {l : List S70} {x : Int} (h0 : 0 ≤ x) (h1 : x < (l.length : Int)) : rowF (l.drop x.toNat) = .n [(rd_T70 l x).f0, (rd_T70 l x).f1] :: rowF (l.drop (x.toNat + 1)) := by
 have hx : x.toNat < l.length := by omega
 unfold rd_T70 rowF
 rw [List.drop_eq_getElem_cons hx, List.getD_eq_getElem?_getD, List.getElem?_eq_getElem hx]
 rfl
theorem flat_drop1 {α β : Type} (f : α → List β) (l : List α) (d : α) {x : Int} (h0 : 0 ≤ x) (h1 : x < (l.length : Int)) : (l.drop x.toNat).flatMap f = f (l.getD x.toNat d) ++ (l.drop (x.toNat + 1)).flatMap f := by
 have hx : x.toNat < l.length := by omega
 rw [List.drop_eq_getElem_cons hx, List.getD_eq_getElem?_getD, List.getElem?_eq_getElem hx]
 rfl
theorem lit_C (w : World) (xs : List Int) (t : TypeId) (hl : xs.length ≤ 9223372036854775807) : Kd.C (Kd.int .i64) (w.alloc (.cells (xs.map (Value.int .i64)).toArray t)) (some ⟨w.heap.size, 0, none⟩) xs.length xs := by
 refine ⟨rfl, hl, fun hn => ⟨_, rfl, fun j p hj => ⟨[.int .i64 p], rfl, rfl, fun i u hu => ?_⟩⟩⟩
 obtain ⟨hl, hp⟩ := List.getElem?_eq_some_iff.1 hj
 cases i with
 | succ i => simp at hu
 | zero =>
  have e : (⟨w.heap.size, 0, none⟩ : Addr).add (j * (Kd.int .i64).sz + 0) = ⟨w.heap.size, j, none⟩ := by
   show (⟨w.heap.size, 0, none⟩ : Addr).add (j * 1 + 0) = _
   simp [Addr.add]
   exact fun h => h.symm
  have hu2 : u = .int .i64 p := by simpa using hu.symm
  rw [e, hu2]
  refine (bc (blk_new w _) j).trans ?_
  simp [hj]
theorem alloc_size (w : World) (o : Obj) : (w.alloc o).heap.size = w.heap.size + 1 := by
 show (w.heap.push o).size = _
 simp
theorem nums_lit (k : Nat) (W : World) (xs : List Int) (t0 : TypeId) (hl : xs.length ≤ 9223372036854775807) (g : Nat) (hg : W.heap.size = g) {t : ByteArray} (h : wire_Nums.f k xs = some t) : Calls Try.prog 29 #[.slice (some ⟨g, 0, none⟩) xs.length xs.length] (W.alloc (.cells (xs.map (Value.int .i64)).toArray t0)) fun e w' => e = .returned (.string t) ∧ Below W.heap.size W w' := by
 subst hg
 refine (wire_Nums.calls k _ _ xs t _ (lit_C W xs _ hl) (Nat.le_refl _) h).mono fun e w' ⟨he, hb⟩ => ⟨he, below_step (bl (Below.refl _ _) _) hb⟩
theorem nums_lit1 (k : Nat) (W : World) (a : Int) (g : Nat) (hg : W.heap.size = g) {t : ByteArray} (h : wire_Nums.f k [a] = some t) : Calls Try.prog 29 #[.slice (some ⟨g, 0, none⟩) 1 1] (W.alloc (.cells #[.int .i64 a] 3)) fun e w' => e = .returned (.string t) ∧ Below W.heap.size W w' := nums_lit k W [a] _ (by simp) g hg h
theorem nums_lit2 (k : Nat) (W : World) (a b : Int) (t0 : TypeId) (g : Nat) (hg : W.heap.size = g) {t : ByteArray} (h : wire_Nums.f k [a, b] = some t) : Calls Try.prog 29 #[.slice (some ⟨g, 0, none⟩) 2 2] (W.alloc (.cells #[.int .i64 a, .int .i64 b] t0)) fun e w' => e = .returned (.string t) ∧ Below W.heap.size W w' := nums_lit k W [a, b] _ (by simp) g hg h
theorem NumsAt.box {w w' : World} {acc : ByteArray} {g : Nat} {o : Obj} (h : NumsAt w acc w') (hb : w.heap[g]? = some o) : w'.heap[g]? = some o := (h.2.block g (blk_lt hb)).trans hb
theorem nx_enc (x : Int) (n : Nat) (h : x < (n : Int)) (h0 : 0 ≤ x) (hn : n ≤ 9223372036854775807) : wrap64 (x + 1) = x + 1 := by
 unfold wrap64
 omega
set_option maxHeartbeats 8000000 in
set_option maxRecDepth 100000 in
theorem table_Order.calls (k : Nat) (A0_0 : Option Addr) (c0_0 : Nat) (l0_0 : List ByteArray) (A0_1 : Option Addr) (c0_1 : Nat) (l0_1 : List (List S70)) (A1 : Option Addr) (c1 : Nat) (l1 : List Int) (A2 : Option Addr) (c2 : Nat) (l2 : List Int) (r : ByteArray) (w : World) (hr0_0 : Kd.C Kd.string w A0_0 l0_0.length l0_0) (hc0_0 : l0_0.length ≤ c0_0) (hr0_1 : Kd.C (Kd.slice 70 k70) w A0_1 l0_1.length l0_1) (hc0_1 : l0_1.length ≤ c0_1) (hr1 : Kd.C (Kd.int .i64) w A1 l1.length l1) (hc1 : l1.length ≤ c1) (hr2 : Kd.C (Kd.int .i64) w A2 l2.length l2) (hc2 : l2.length ≤ c2) (h : table_Order.f k l0_0 l0_1 l1 l2 = some r) :
  Calls Try.prog 13 #[.agg #[.slice A0_0 l0_0.length c0_0, .slice A0_1 l0_1.length c0_1], .slice A1 l1.length c1, .slice A2 l2.length c2] w fun e w' => e = .returned (.string r) ∧ Below w.heap.size w w' := by
 have hml1 := hr1.2.1
 have hml2 := hr2.2.1
 have hml3 := hr0_0.2.1
 have hml4 := hr0_1.2.1
 have HR0 := Am hr0_0
 have HR1 := Am hr0_1
 have HN1 := Am hr1
 have HN2 := Am hr2
 have BX := Am (blk_new w (.cells #[.slice A0_0 l0_0.length c0_0, .slice A0_1 l0_1.length c0_1] 25))
 have HA0 := Am (bl (Below.refl w.heap.size w) (.cells #[.slice A0_0 l0_0.length c0_0, .slice A0_1 l0_1.length c0_1] 25))
 obtain ⟨m, hm, h⟩ := ob h
 have HMAY := Am (fun W (hb : Below w.heap.size w W) => intern_May.calls k A0_0 c0_0 l0_0 A0_1 c0_1 l0_1 m W (Kd.C_below hr0_0 hb) hc0_0 (Kd.C_below hr0_1 hb) hc0_1 hm)
 have HE1 := fun e1 h1 => Am (fun W (hb : Below w.heap.size w W) => table_each.calls k A1 c1 l1 (l0_0.length : Int) e1 W (Kd.C_below hr1 hb) hc1 h1)
 have HE2 := fun e2 h2 => Am (fun W (hb : Below w.heap.size w W) => table_each.calls k A2 c2 l2 (l0_1.length : Int) e2 W (Kd.C_below hr2 hb) hc2 h2)
 clear hr0_0 hr0_1 hr1 hr2 hc0_0 hc0_1 hc1 hc2 hm
 cases m with
 | false =>
  simp only [Bool.false_eq_true, if_false, Option.some.injEq] at h
  subst h
  clear HE1 HE2
  go_enter Try.func13, Try.ntmps13
  go_wp2_with (first | (go_at_call 22; (with_reducible refine (HMAY.out _ HA0.out).mono ?_); rintro e w1 ⟨rfl, hb⟩; have HB1 := Am (below_step HA0.out hb); clear hb))
  go_ret
  exact ⟨rfl, HB1.out⟩
 | true =>
  simp only [if_true] at h
  obtain ⟨e1, h1, h⟩ := ob h
  replace HE1 := HE1 e1 h1
  clear h1
  cases e1 with
  | false =>
   simp only [Bool.false_eq_true, if_false, Option.some.injEq] at h
   subst h
   clear HE2
   go_enter Try.func13, Try.ntmps13
   go_wp2_with (first | (go_at_call 22; (with_reducible refine (HMAY.out _ HA0.out).mono ?_); rintro e w1 ⟨rfl, hb⟩; have HB1 := Am (below_step HA0.out hb); have BX1 := Am (blk_below BX.out hb); clear hb; have hq0 := (bc BX1.out 0).trans (show _ = some (Value.slice A0_0 l0_0.length c0_0) from rfl)) | (go_at_call 27; (with_reducible refine (HE1.out _ HB1.out).mono ?_); rintro e w2 ⟨rfl, hb⟩; have HB2 := Am (below_step HB1.out hb); clear hb))
   go_ret
   exact ⟨rfl, HB2.out⟩
  | true =>
   simp only [if_true] at h
   obtain ⟨e2, h2, h⟩ := ob h
   replace HE2 := HE2 e2 h2
   clear h2
   cases e2 with
   | false =>
    simp only [Bool.false_eq_true, if_false, Option.some.injEq] at h
    subst h
    go_enter Try.func13, Try.ntmps13
    go_wp2_with (first | (go_at_call 22; (with_reducible refine (HMAY.out _ HA0.out).mono ?_); rintro e w1 ⟨rfl, hb⟩; have HB1 := Am (below_step HA0.out hb); have BX1 := Am (blk_below BX.out hb); clear hb; have hq0 := (bc BX1.out 0).trans (show _ = some (Value.slice A0_0 l0_0.length c0_0) from rfl)) | (go_at_call 27; (with_reducible refine (HE1.out _ HB1.out).mono ?_); rintro e w2 ⟨rfl, hb⟩; have HB2 := Am (below_step HB1.out hb); have BX2 := Am (blk_below BX1.out hb); clear hb hq0; have hq1 := (bc BX2.out 1).trans (show _ = some (Value.slice A0_1 l0_1.length c0_1) from rfl)) | (go_at_call 27; (with_reducible refine (HE2.out _ HB2.out).mono ?_); rintro e w3 ⟨rfl, hb⟩; have HB3 := Am (below_step HB2.out hb); clear hb))
    go_ret
    exact ⟨rfl, HB3.out⟩
   | true =>
    simp only [if_true] at h
    unfold ordP at h
    obtain ⟨t0, ht0, hs0, h⟩ := encK_step h
    have HT0 := Am (show wire_Nums.f k [(l1.length : Int)] = some t0 from ht0)
    have HS0 := Am (show (Lib.strCells (⟨#[]⟩ : ByteArray)).length + t0.size ≤ 140737488355328 by rw [Lib.strCells_length]; exact hs0)
    have H' := Am h
    clear h ht0 hs0
    go_enter Try.func13, Try.ntmps13
    go_wp2_with (first | (go_at_call 22; (with_reducible refine (HMAY.out _ HA0.out).mono ?_); rintro e w1 ⟨rfl, hb⟩; have HB1 := Am (below_step HA0.out hb); have BX1 := Am (blk_below BX.out hb); clear hb; have hq0 := (bc BX1.out 0).trans (show _ = some (Value.slice A0_0 l0_0.length c0_0) from rfl)) | (go_at_call 27; (with_reducible refine (HE1.out _ HB1.out).mono ?_); rintro e w2 ⟨rfl, hb⟩; have HB2 := Am (below_step HB1.out hb); have BX2 := Am (blk_below BX1.out hb); clear hb hq0; have hq1 := (bc BX2.out 1).trans (show _ = some (Value.slice A0_1 l0_1.length c0_1) from rfl)) | (go_at_call 27; (with_reducible refine (HE2.out _ HB2.out).mono ?_); rintro e w3 ⟨rfl, hb⟩; have HB3 := Am (below_step HB2.out hb); have BX3 := Am (blk_below BX2.out hb); clear hb hq1; have HM0 := Am (NumsAt.start w3)) | (go_at_call 29; (refine (nums_lit1 k _ (l1.length : Int) _ (by first | rfl | exact alloc_size _ _) HT0.out).mono ?_); rintro e w4 ⟨rfl, hb⟩; have HM1 := Am (NumsAt.below HM0.out hb); clear hb) | (go_at_call 28; (refine (Go.Proofs.Ytlmmlmmbnfcogaa.Bld.writeString w3.heap.size w3.heap.size _ t0 _ HM1.out.1 HS0.out (below_size HM1.out.2)).mono ?_); rintro e w5 ⟨rfl, hk, hb⟩; have HM2 := Am (NumsAt.put HM1.out hk hb); clear hk hb))
    go_loopg [41] (l1.length + 1) (fun kq v41 w' => ∃ (x : Int) (acc : ByteArray), v41 = .int .i64 x ∧ Aside0 (0 ≤ x ∧ x ≤ l1.length ∧ (kq : Int) + x = l1.length + 1) ∧ Aside0 (encK k acc ((l1.drop x.toNat).map (nameP l0_0) ++ (.n [(l2.length : Int)] :: l2.flatMap (stackP l0_1))) = some r) ∧ Aside0 (NumsAt w3 acc w'))
    case atStart => exact ⟨0, _, rfl, ⟨by omega, by omega, by omega⟩, H', HM2⟩
    case round =>
     clear H' HM2 HM1 HM0 HMAY HE1 HE2 HT0 HS0
     obtain ⟨x, acc, rfl, HA, HE, HM⟩ := hrel
     cases gk with
     | zero => exact absurd HA.out.2.2 (by have := HA.out.2.1; omega)
     | succ k1 =>
     by_cases d1 : x < (l1.length : Int)
     ·
      have d1b : decide (x < (l1.length : Int)) = true := decide_eq_true d1
      have d0 := HA.out.1
      have he := HE.out
      rw [map_drop1 (nameP l0_0) l1 0 d0 d1, List.cons_append] at he
      obtain ⟨t1, ht1, hs1, he⟩ := encK_step he
      replace ht1 : pcF k (nameP l0_0 (rd l1 x)) = some t1 := ht1
      have HS1 := Am (show (Lib.strCells acc).length + t1.size ≤ 140737488355328 by rw [Lib.strCells_length]; exact hs1)
      have HE' := Am he
      clear he HE hs1
      obtain ⟨ad1, ea1, hx1⟩ := Kd.at_int HN1.out x d0 d1
      cases ea1
      replace hx1 := ((below_step HB3.out HM.out.2).cell (World.block_lt_of_cell? w _ hx1)).trans hx1
      have p1 := eq_true d0
      have q1 := eq_true d1
      have HD := Am (And.intro d0 d1)
      clear d0 d1
      generalize rd l1 x = i at hx1 ht1
      unfold nameP at ht1
      by_cases ci : 1 ≤ i ∧ i ≤ (l0_0.length : Int)
      ·
       rw [if_pos ci] at ht1
       obtain ⟨a, hta, ht1⟩ := ob ht1
       obtain ⟨b, htb, ht1⟩ := ob ht1
       have HTa := Am hta
       by_cases cs : a.size + b.size ≤ 9223372036854775807
       ·
        rw [if_pos cs] at ht1
        obtain rfl := Option.some.inj ht1
        have cs0 := eq_true cs
        have cs1 : decide (a.size + b.size ≤ 9223372036854775807) = true := decide_eq_true cs
        have cs2 : (9223372036854775807 < a.size + b.size) = False := eq_false (Nat.not_lt.2 cs)
        clear hta ht1 cs
        obtain ⟨j, hj⟩ : ∃ j, j = i - 1 := ⟨_, rfl⟩
        have hw1 : wrap64 (i - 1) = j := by rw [hj]; unfold wrap64; omega
        have hw2 : IntKind.i64.wrap (i - 1) = j := (i64_w _).trans hw1
        rw [← hj] at htb
        have pj : 0 ≤ j := by omega
        have qj : j < (l0_0.length : Int) := by omega
        obtain ⟨ad, ea, hx⟩ := Kd.at_string HR0.out j pj qj
        cases ea
        generalize rdOf ByteArray.empty l0_0 j = s at hx htb
        have HTb := Am htb
        have HSt := Am (fun W (hb : Below w3.heap.size w3 W) => ((below_step HB3.out hb).cell (World.block_lt_of_cell? w _ hx)).trans hx)
        replace pj := eq_true pj
        replace qj := eq_true qj
        clear hx htb hj ci
        go_wp2
        have HMd := Am (NumsAt.below HM.out (below_drew (Below.refl _ _)))
        refine start_ (n := 12) (S := fun w' => w'.cell? ⟨w.heap.size, 0, none⟩ = some (.slice (some ad) l0_0.length c0_0) ∧ w'.cell? (ad.add j.toNat) = some (.string s)) (ds := []) q6_0 (by kernel_rfl) rfl rfl ⟨(bc (NumsAt.box HMd.out BX3.out) 0).trans rfl, HSt.out _ HMd.out.2⟩ (fun hHeld => ?_)
        refine with_tabW table_Order.tab8 table_Order.bits8 (fun HT_ HW_ => ?_)
        generalize wr.drew = wd at HMd hHeld ⊢
        refine Own.pr_ 0 (some 45) q6_1 HT_ (h := ?_)
        refine Own.pr_ 3 (some 48) q6_2 HT_ (h := ?_)
        refine Own.pr_ 5 (some 50) q6_3 HT_ (h := ?_)
        refine Own.pr_ 6 (some 51) q6_4 HT_ (h := ?_)
        refine Own.tk_ 4 (some 49) q6_5 HT_ HW_ hHeld (hy := by rintro w' ⟨s0, s1⟩; go_simp; with_reducible rfl) (h := ?_)
        refine Own.pr_ 7 (some 52) q6_6 HT_ (h := ?_)
        refine Own.tk_ 8 (some 53) q6_7 HT_ HW_ hHeld (hy := by rintro w' ⟨s0, s1⟩; go_simp; with_reducible rfl) (h := ?_)
        refine one_ (i := 1) (N := some 46) q6_8 rfl rfl (one_of HT_.out (by kernel_rfl)) (by decide) (fun K hK => ?_)
        refine value_ (w1 := ?_) (v := ?_) (by rfl) rfl ?_ ?_
        rotate_left 2
        ·
         go_simp
         constructor
         ·
          rfl
         ·
          rfl
        have HMa := Am (NumsAt.below HMd.out (bl (Below.refl _ _) (.cells #[.int .i64 i] 3)))
        refine hK.out _ _ ⟨(bc (NumsAt.box HMa.out BX3.out) 0).trans rfl, HSt.out _ HMa.out.2⟩ (fun hHeld => ?_)
        clear hK K
        refine norm_ (a' := ?_) ?_ ?_
        rotate_left
        ·
         show Act.put _ (some 46) _ = _
         simp only [Act.put, sI, sZ, sS, i64_w, i32_w]
         rfl
        refine one_ (i := 2) (N := some 47) q6_9 rfl rfl (one_of HT_.out (by kernel_rfl)) (by decide) (fun K hK => ?_)
        refine goes_ Try.func29 (by kernel_rfl) rfl #[.slice (some ⟨wd.heap.size, 0, none⟩) 1 1] (by rfl) rfl rfl (by (try simp only [List.map_toArray, List.map_cons, List.map_nil]); first | done | rfl | (simp only [List.length_drop, List.length_take]; rfl)) ?_
        with_reducible refine (nums_lit1 k wd i _ rfl HTa.out).mono ?_
        rintro e w5 ⟨rfl, hb5⟩
        refine ⟨_, rfl, ?_⟩
        have HMb := Am (NumsAt.below HMd.out hb5)
        refine hK.out _ _ ⟨(bc (NumsAt.box HMb.out BX3.out) 0).trans rfl, HSt.out _ HMb.out.2⟩ (fun hHeld => ?_)
        clear hK K
        refine norm_ (a' := ?_) ?_ ?_
        rotate_left
        ·
         show Act.put _ (some 47) _ = _
         simp only [Act.put, sI, sZ, sS, i64_w, i32_w]
         rfl
        refine one_ (i := 9) (N := some 54) q6_10 rfl rfl (one_of HT_.out (by kernel_rfl)) (by decide) (fun K hK => ?_)
        refine goes_ Try.func30 (by kernel_rfl) rfl #[.string s] (by rfl) rfl rfl (by (try simp only [List.map_toArray, List.map_cons, List.map_nil]); first | done | rfl | (simp only [List.length_drop, List.length_take]; rfl)) ?_
        with_reducible refine (wire_Text.calls k s b _ HTb.out).mono ?_
        rintro e w6 ⟨rfl, hb6⟩
        refine ⟨_, rfl, ?_⟩
        have HMc := Am (NumsAt.below HMb.out hb6)
        have HMc1 := Am HMc.out.1
        have HMc2 := Am (below_size HMc.out.2)
        refine hK.out _ _ ⟨(bc (NumsAt.box HMc.out BX3.out) 0).trans rfl, HSt.out _ HMc.out.2⟩ (fun hHeld => ?_)
        clear hK K
        refine norm_ (a' := ?_) ?_ ?_
        rotate_left
        ·
         show Act.put _ (some 54) _ = _
         simp only [Act.put, sI, sZ, sS, i64_w, i32_w]
         rfl
        refine Own.pr_ 10 (some 55) q6_11 HT_ (h := ?_)
        refine one_ (i := 11) (N := some 56) q6_12 rfl rfl (one_of HT_.out (by kernel_rfl)) (by decide) (fun K hK => ?_)
        refine goes_ Try.func28 (by kernel_rfl) rfl #[.pointer (some ⟨w3.heap.size, 0, none⟩), .string (a ++ b)] (by rfl) rfl rfl (by (try simp only [List.map_toArray, List.map_cons, List.map_nil]); first | done | rfl | (simp only [List.length_drop, List.length_take]; rfl)) ?_
        with_reducible refine (Go.Proofs.Ytlmmlmmbnfcogaa.Bld.writeString w3.heap.size w3.heap.size _ (a ++ b) _ HMc1.out HS1.out HMc2.out).mono ?_
        rintro e w7 ⟨rfl, hk7, hb7⟩
        refine ⟨_, rfl, ?_⟩
        have HMe := Am (NumsAt.put HMc.out hk7 hb7)
        refine hK.out _ _ ⟨(bc (NumsAt.box HMe.out BX3.out) 0).trans rfl, HSt.out _ HMe.out.2⟩ (fun hHeld => ?_)
        clear hK K
        refine norm_ (a' := ?_) ?_ ?_
        rotate_left
        ·
         show Act.put _ (some 56) _ = _
         simp only [Act.put, sI, sZ, sS, i64_w, i32_w]
         rfl
        refine done_ (done_of HT_.out (by kernel_rfl)) ?_
        clear hHeld hb5 hb6 hk7 hb7
        go_wp2
        go_roundg k1
        case rel =>
         have e1 : wrap64 (x + 1) = x + 1 := nx_enc x l1.length HD.out.2 HA.out.1 hml1
         have e2 : (x + 1).toNat = x.toNat + 1 := by have := HA.out.1; omega
         exact ⟨_, _, rfl, ⟨by have := HA.out; rw [e1]; omega, by have := HD.out; rw [e1]; omega, by have := HA.out; rw [e1]; omega⟩, ⟨by rw [e1, e2]; exact HE'.out⟩, HMe⟩
        case measure => exact Nat.lt_succ_self _
       ·
        rw [if_neg cs] at ht1; cases ht1
      ·
       rw [if_neg ci] at ht1; cases ht1
     ·
      have d1b : decide (x < (l1.length : Int)) = false := decide_eq_false d1
      have he := HE.out
      rw [show l1.drop x.toNat = [] from List.drop_eq_nil_of_le (by omega)] at he
      obtain ⟨t1, ht1, hs1, he⟩ := encK_step (show encK k acc (.n [(l2.length : Int)] :: l2.flatMap (stackP l0_1)) = some r from he)
      have HS1 := Am (show (Lib.strCells acc).length + t1.size ≤ 140737488355328 by rw [Lib.strCells_length]; exact hs1)
      have HE' := Am he
      have HT1 := Am (show wire_Nums.f k [(l2.length : Int)] = some t1 from ht1)
      clear he HE hs1 ht1 d1
      go_wp2_with (first | (go_at_call 29; (refine (nums_lit1 k _ (l2.length : Int) _ (by first | rfl | exact alloc_size _ _) HT1.out).mono ?_); rintro e w4 ⟨rfl, hb⟩; have HM1 := Am (NumsAt.below HM.out hb); clear hb) | (go_at_call 28; (refine (Go.Proofs.Ytlmmlmmbnfcogaa.Bld.writeString w3.heap.size w3.heap.size _ t1 _ HM1.out.1 HS1.out (below_size HM1.out.2)).mono ?_); rintro e w5 ⟨rfl, hk, hb⟩; have HM2 := Am (NumsAt.put HM1.out hk hb); clear hk hb))
      go_loopg [65] (l2.length + 1) (fun kq v65 w' => ∃ (x : Int) (acc : ByteArray), v65 = .int .i64 x ∧ Aside0 (0 ≤ x ∧ x ≤ l2.length ∧ (kq : Int) + x = l2.length + 1) ∧ Aside0 (encK k acc ((l2.drop x.toNat).flatMap (stackP l0_1)) = some r) ∧ Aside0 (NumsAt w3 acc w'))
      case atStart => exact ⟨0, _, rfl, ⟨by omega, by omega, by omega⟩, HE', HM2⟩
      case round =>
       clear HE' HM2 HM1 HM HA HT1 HS1
       obtain ⟨x, acc, rfl, HA, HE, HM⟩ := hrel
       cases gk with
       | zero => exact absurd HA.out.2.2 (by have := HA.out.2.1; omega)
       | succ k1 =>
       by_cases d1 : x < (l2.length : Int)
       ·
        have d1b : decide (x < (l2.length : Int)) = true := decide_eq_true d1
        have d0 := HA.out.1
        have he := HE.out
        rw [flat_drop1 (stackP l0_1) l2 0 d0 d1] at he
        replace he : encK k acc (stackP l0_1 (rd l2 x) ++ (l2.drop (x.toNat + 1)).flatMap (stackP l0_1)) = some r := he
        obtain ⟨ad1, ea1, hx1⟩ := Kd.at_int HN2.out x d0 d1
        cases ea1
        replace hx1 := ((below_step HB3.out HM.out.2).cell (World.block_lt_of_cell? w _ hx1)).trans hx1
        have p1 := eq_true d0
        have q1 := eq_true d1
        have HD := Am (And.intro d0 d1)
        clear d0 d1 HE
        generalize rd l2 x = i at hx1 he
        unfold stackP at he
        by_cases ci : 1 ≤ i ∧ i ≤ (l0_1.length : Int)
        ·
         rw [if_pos ci, List.cons_append] at he
         obtain ⟨t1, ht1, hs1, he⟩ := encK_step he
         obtain ⟨j, hj⟩ : ∃ j, j = i - 1 := ⟨_, rfl⟩
         have hw1 : wrap64 (i - 1) = j := by rw [hj]; unfold wrap64; omega
         have hw2 : IntKind.i64.wrap (i - 1) = j := (i64_w _).trans hw1
         rw [← hj] at ht1 he
         have pj : 0 ≤ j := by omega
         have qj : j < (l0_1.length : Int) := by omega
         obtain ⟨ad, A3, c3, ea, hx, hl3, hC3⟩ := at_stk HR1.out j pj qj
         cases ea
         replace hx := ((below_step HB3.out HM.out.2).cell (World.block_lt_of_cell? w _ hx)).trans hx
         generalize rd_stk l0_1 j = l at hx hl3 hC3 ht1 he
         have hml5 := hC3.2.1
         have HC3 := Am hC3
         have HT1 := Am (show wire_Nums.f k [i, (l.length : Int)] = some t1 from ht1)
         have HS1 := Am (show (Lib.strCells acc).length + t1.size ≤ 140737488355328 by rw [Lib.strCells_length]; exact hs1)
         have HE' : Aside0 (encK k (acc ++ t1) (rowF l ++ (l2.drop (x.toNat + 1)).flatMap (stackP l0_1)) = some r) := ⟨he⟩
         replace pj := eq_true pj
         replace qj := eq_true qj
         clear hj ci he ht1 hs1 hC3 hl3
         have hq1 := (bc (NumsAt.box HM.out BX3.out) 1).trans (show _ = some (Value.slice (some ad) l0_1.length c0_1) from rfl)
         go_wp2_with (first | (go_at_call 29; (refine (nums_lit2 k _ i (l.length : Int) _ _ (by first | rfl | exact alloc_size _ _) HT1.out).mono ?_); rintro e w4 ⟨rfl, hb⟩; have HM1 := Am (NumsAt.below HM.out hb); clear hb) | (go_at_call 28; (refine (Go.Proofs.Ytlmmlmmbnfcogaa.Bld.writeString w3.heap.size w3.heap.size _ t1 _ HM1.out.1 HS1.out (below_size HM1.out.2)).mono ?_); rintro e w5 ⟨rfl, hk, hb⟩; have HM2 := Am (NumsAt.put HM1.out hk hb); clear hk hb))
         go_loopg [83] (l.length + 1) (fun kq v83 w' => ∃ (y : Int) (acc : ByteArray), v83 = .int .i64 y ∧ Aside0 (0 ≤ y ∧ y ≤ l.length ∧ (kq : Int) + y = l.length + 1) ∧ Aside0 (encK k acc (rowF (l.drop y.toNat) ++ (l2.drop (x.toNat + 1)).flatMap (stackP l0_1)) = some r) ∧ Aside0 (NumsAt w3 acc w'))
         case atStart => exact ⟨0, _, rfl, ⟨by omega, by omega, by omega⟩, HE', HM2⟩
         case round =>
          replace HC3 := Am (fun W (hb : Below w3.heap.size w3 W) => Kd.C_below HC3.out (below_step HB3.out hb))
          clear HE' HM2 HM1 HM HT1 HS1 hx hx1 hq1 hw1 hw2 pj qj p1 q1
          obtain ⟨y, acc, rfl, HY, HE, HM⟩ := hrel
          cases gk with
          | zero => exact absurd HY.out.2.2 (by have := HY.out.2.1; omega)
          | succ k2 =>
          by_cases d1 : y < (l.length : Int)
          ·
           have d1b : decide (y < (l.length : Int)) = true := decide_eq_true d1
           have d0 := HY.out.1
           have he := HE.out
           rw [rowF_drop d0 d1, List.cons_append] at he
           obtain ⟨t1, ht1, hs1, he⟩ := encK_step he
           obtain ⟨ad3, ea3, hy0, hy1⟩ := at_T70 (HC3.out _ HM.out.2) y d0 d1
           cases ea3
           have p1 := eq_true d0
           have q1 := eq_true d1
           have HDy := Am (And.intro d0 d1)
           clear d0 d1 HE
           generalize (rd_T70 l y).f0 = a at hy0 ht1
           generalize (rd_T70 l y).f1 = b at hy1 ht1
           have HT1 := Am (show wire_Nums.f k [a, b] = some t1 from ht1)
           have HS1 := Am (show (Lib.strCells acc).length + t1.size ≤ 140737488355328 by rw [Lib.strCells_length]; exact hs1)
           have HE' := Am he
           clear he ht1 hs1
           go_wp2_with (first | (go_at_call 29; (refine (nums_lit2 k _ a b _ _ (by first | rfl | exact alloc_size _ _) HT1.out).mono ?_); rintro e w4 ⟨rfl, hb⟩; have HM1 := Am (NumsAt.below HM.out hb); clear hb) | (go_at_call 28; (refine (Go.Proofs.Ytlmmlmmbnfcogaa.Bld.writeString w3.heap.size w3.heap.size _ t1 _ HM1.out.1 HS1.out (below_size HM1.out.2)).mono ?_); rintro e w5 ⟨rfl, hk, hb⟩; have HM2 := Am (NumsAt.put HM1.out hk hb); clear hk hb))
           go_roundg k2
           case rel =>
            have e1 : wrap64 (y + 1) = y + 1 := nx_enc y l.length HDy.out.2 HY.out.1 hml5
            have e2 : (y + 1).toNat = y.toNat + 1 := by have := HY.out.1; omega
            exact ⟨_, _, rfl, ⟨by have := HY.out; rw [e1]; omega, by have := HDy.out; rw [e1]; omega, by have := HY.out; rw [e1]; omega⟩, ⟨by rw [e1, e2]; exact HE'.out⟩, HM2⟩
           case measure => exact Nat.lt_succ_self _
          ·
           have d1b : decide (y < (l.length : Int)) = false := decide_eq_false d1
           have he := HE.out
           rw [show l.drop y.toNat = [] from List.drop_eq_nil_of_le (by omega)] at he
           have HE' : Aside0 (encK k acc ((l2.drop (x.toNat + 1)).flatMap (stackP l0_1)) = some r) := ⟨he⟩
           clear he HE d1
           go_wp2
           go_roundg k1
           case rel =>
            have e1 : wrap64 (x + 1) = x + 1 := nx_enc x l2.length HD.out.2 HA.out.1 hml2
            have e2 : (x + 1).toNat = x.toNat + 1 := by have := HA.out.1; omega
            exact ⟨_, _, rfl, ⟨by have := HA.out; rw [e1]; omega, by have := HD.out; rw [e1]; omega, by have := HA.out; rw [e1]; omega⟩, ⟨by rw [e1, e2]; exact HE'.out⟩, HM⟩
           case measure => exact Nat.lt_succ_self _
        ·
         rw [if_neg ci] at he
         obtain ⟨t1, ht1, -, -⟩ := encK_step (show encK k acc (.bad :: (l2.drop (x.toNat + 1)).flatMap (stackP l0_1)) = some r from he)
         cases ht1
       ·
        have d1b : decide (x < (l2.length : Int)) = false := decide_eq_false d1
        have he := HE.out
        rw [show l2.drop x.toNat = [] from List.drop_eq_nil_of_le (by omega)] at he
        obtain rfl := Option.some.inj (show some acc = some r from he)
        clear he HE d1
        have HN' : Lib.IsBuilder 63 5 w3.heap.size w3.heap.size (Lib.byteCells acc.data.toList) _ := HM.out.1
        go_wp2_with (go_at_call 31; (refine (Go.Proofs.Ytlmmlmmbnfcogaa.Bld.string_any w3.heap.size w3.heap.size acc.data.toList _ HN' (below_size HM.out.2)).mono ?_); rintro e w4 ⟨rfl, hb⟩; have HB4 := below_step HB3.out (HM.out.2.trans hb); clear hb)
        go_ret
        exact ⟨rfl, HB4⟩

end Go.Proofs.Ytlmmlmmbnfcogaa.Q
