-- printed by a program of this session (NOTES: hprint); not the kit's print
-- minified
-- halved
import Derived.Test.YtfcombimnmkoeaaAl
import Derived.Test.YtfcombimnmkoeaaQx0
import Derived.Test.YtfcombimnmkoeaaQx5
namespace Go.Proofs.Ytfcombimnmkoeaa.Q
open Go.RowKit Go.Proofs.YtfcombimnmkoeaaW.PrintWords Go.Proofs.YtfcombimnmkoeaaW.PrintLast Go.Proofs.YtfcombimnmkoeaaW.PrintMore
attribute [local go_sem] max2_int min2_int max_two min_two max_three min_three max_four min_four   -- for this text's walks alone
set_option linter.unusedVariables false
set_option linter.unusedSimpArgs false

/-! ### wire_Nums: function 34, by hand -/
def wire_Nums.l0 : Nat → List Int → ByteArray → Int → Option (ByteArray)
 | 0, _, _, _ => none
 | k + 1, x0, x3, x9 => if x9 < (x0.length : Int) then (if 0 ≤ x9 then ((varint_Put.f k (rd x0 x9)).bind fun t => (if t.toList = ([] : List UInt8) then (some (⟨#[]⟩ : ByteArray)) else (if x3.size + t.size ≤ 140737488355328 then (wire_Nums.l0 k x0 (x3 ++ t) (wrap64 (x9 + 1))) else (none)))) else (none)) else (some x3)
def wire_Nums.f (k : Nat) (l0 : List Int) : Option (ByteArray) := wire_Nums.l0 k l0 (⟨#[]⟩ : ByteArray) 0
theorem wire_Nums.mono_l : ∀ k, ∀ y0 y1 y2, LeO (wire_Nums.l0 k y0 y1 y2) (wire_Nums.l0 (k + 1) y0 y1 y2)
 | 0 => fun _ _ _ r h => by simp [wire_Nums.l0] at h
 | k + 1 => fun y0 y1 y2 => by
  have ih := wire_Nums.mono_l k
  unfold wire_Nums.l0
  exact LeO.ite (LeO.ite (LeO.bind (varint_Put.mono _ _) (fun _ => LeO.ite (LeO.refl _) (LeO.ite (ih _ _ _) (LeO.refl _)))) (LeO.refl _)) (LeO.refl _)
theorem wire_Nums.mono : ∀ a0 k, LeO (wire_Nums.f k a0) (wire_Nums.f (k + 1) a0) := fun a0 k => wire_Nums.mono_l k a0 _ 0
/-- The builder holds these bytes; below lies what lay. -/
def NumsAt (w : World) (acc : ByteArray) (w' : World) : Prop := Lib.IsBuilder 78 5 w.heap.size w.heap.size (Lib.strCells acc) w' ∧ Below w.heap.size w w'
theorem NumsAt.start (w : World) : NumsAt w (⟨#[]⟩ : ByteArray) (w.alloc (.cells #[.pointer none, .slice none 0 0] 78)) := ⟨Lib.fresh_isBuilder _ _ w, bl (Below.refl _ _) _⟩
theorem IsBuilder_below {B b : Nat} {bs : List Value} {w w1 : World} (h : Lib.IsBuilder 78 5 B b bs w) (hb : Below w.heap.size w w1) : Lib.IsBuilder 78 5 B b bs w1 := by
 have go : ∀ p, Lib.BuilderAt 78 5 B b p bs w → Lib.BuilderAt 78 5 B b p bs w1 := by
  rintro p ⟨hB, v, hbk, hown, hne⟩
  exact ⟨hB, v, blk_grown hbk (grown_of_below hb none) (by simp), pw_own_below hown hb, hne⟩
 rcases h with h | h
 ·
  exact .inl (go _ h)
 ·
  exact .inr (go _ h)
theorem NumsAt.below {w : World} {acc : ByteArray} {w' w1 : World} (h : NumsAt w acc w') (hb : Below w'.heap.size w' w1) : NumsAt w acc w1 := ⟨IsBuilder_below h.1 hb, below_step h.2 hb⟩
theorem NumsAt.put {w : World} {acc t : ByteArray} {w' w1 : World} (h : NumsAt w acc w') (k : Lib.BuilderAt 78 5 w.heap.size w.heap.size (.pointer (some ⟨w.heap.size, 0, none⟩)) (Lib.strCells acc ++ Lib.strCells t) w1) (hb : Below w.heap.size w' w1) : NumsAt w (acc ++ t) w1 := by
 refine ⟨.inr ?_, h.2.trans hb⟩
 have e : Lib.strCells (acc ++ t) = Lib.strCells acc ++ Lib.strCells t := by simp [Lib.strCells]
 rw [e]
 exact k
set_option maxHeartbeats 2000000 in
set_option maxRecDepth 100000 in
theorem wire_Nums.calls (k : Nat) (A0 : Option Addr) (c0 : Nat) (l0 : List Int) (r : ByteArray) (w : World) (hr0 : Kd.C (Kd.int .i64) w A0 l0.length l0) (hc0 : l0.length ≤ c0) (h : wire_Nums.f k l0 = some r) :
  Calls Try.prog 34 #[.slice A0 l0.length c0] w fun e w' => e = .returned (.string r) ∧ Below w.heap.size w w' := by
 have HR0 := Am hr0
 clear hr0 hc0
 have H' : Aside0 (wire_Nums.l0 k l0 (⟨#[]⟩ : ByteArray) 0 = some r) := Am h
 clear h
 go_enter Try.func34, Try.ntmps34
 go_wp2
 go_loopg [9] k (fun kq v9 w' => ∃ (x3 : ByteArray) (x9 : Int), v9 = .int .i64 x9 ∧ Aside0 (wire_Nums.l0 kq l0 x3 x9 = some r) ∧ NumsAt w x3 w')
 case atStart => exact ⟨_, 0, rfl, H', NumsAt.start w⟩
 case round =>
  clear H'
  obtain ⟨x3, x9, rfl, HA, HN⟩ := hrel
  cases gk with
  | zero => exact absurd HA.out (by simp [wire_Nums.l0])
  | succ k1 =>
   have H := HA.out
   clear HA
   simp only [wire_Nums.l0] at H
   by_cases c2 : x9 < (l0.length : Int)
   ·
    rw [if_pos c2] at H
    have c2b0 : decide (x9 < (l0.length : Int)) = true := decide_eq_true c2
    by_cases c3 : 0 ≤ x9
    ·
     rw [if_pos c3] at H
     have c3b0 : decide (0 ≤ x9) = true := decide_eq_true c3
     obtain ⟨ad, ea, hx⟩ := Kd.at_int HR0.out x9 c3 c2
     cases ea
     replace hx := (HN.2.cell (World.block_lt_of_cell? w _ hx)).trans hx
     have p1 := eq_true c3
     have q1 := eq_true c2
     clear c2 c3
     replace H := ob H
     obtain ⟨t, A40, H⟩ := H
     have A4 := Am A40
     clear A40
     by_cases c5 : t.toList = ([] : List UInt8)
     ·
      rw [if_pos c5] at H
      have c5b0 : (t.toList == ([] : List UInt8)) = true := beq_iff_eq.mpr c5
      try have c5b9 : (t.toList).isEmpty = true := List.isEmpty_iff.2 c5
      clear c5
      obtain rfl := Option.some.inj H
      clear H
      go_wp2_with (go_at_call 52; (with_reducible refine (varint_Put.calls k1 _ t _ A4.out).mono ?_); rintro e w1 ⟨rfl, hb⟩; have HN1 := NumsAt.below HN hb; clear hb)
      go_ret
      exact ⟨rfl, HN1.2⟩
     ·
      rw [if_neg c5] at H
      have c5b0 : (t.toList == ([] : List UInt8)) = false := beq_eq_false_iff_ne.mpr c5
      try have c5b9 : (t.toList).isEmpty = false := (by rw [List.isEmpty_eq_false_iff]; exact c5)
      clear c5
      by_cases c8 : x3.size + t.size ≤ 140737488355328
      ·
       rw [if_pos c8] at H
       have H' := Am H
       clear H
       have hlen : (Lib.strCells x3).length + t.size ≤ 140737488355328 := by rw [Lib.strCells_length]; exact c8
       have HL := Am hlen
       clear hlen c8
       go_wp2_with (first | (go_at_call 52; (with_reducible refine (varint_Put.calls k1 _ t _ A4.out).mono ?_); rintro e w1 ⟨rfl, hb⟩; have HN1 := NumsAt.below HN hb; clear hb) | (go_at_call 53; (refine (Go.Proofs.Ytfcombimnmkoeaa.Bld.writeString w.heap.size w.heap.size _ t _ HN1.1 HL.out (below_size HN1.2)).mono ?_); rintro e w2 ⟨rfl, hk, hb⟩; have HN2 := NumsAt.put HN1 hk hb; clear hk hb))
       go_roundg k1
       case rel => exact ⟨_, _, rfl, H', HN2⟩
       case measure => exact Nat.lt_succ_self _
      ·
       rw [if_neg c8] at H
       cases H
    ·
     rw [if_neg c3] at H
     cases H
   ·
    rw [if_neg c2] at H
    have c2b0 : decide (x9 < (l0.length : Int)) = false := decide_eq_false c2
    clear c2
    obtain rfl := Option.some.inj H
    clear H
    have HN' : Lib.IsBuilder 78 5 w.heap.size w.heap.size (Lib.byteCells x3.data.toList) _ := HN.1
    go_wp2_with (go_at_call 54; (refine (Go.Proofs.Ytfcombimnmkoeaa.Bld.string_any w.heap.size w.heap.size x3.data.toList _ HN' (below_size HN.2)).mono ?_); rintro e w2 ⟨rfl, hb⟩; have HB2 := HN.2.trans hb; clear hb)
    go_ret
    exact ⟨rfl, HB2⟩

end Go.Proofs.Ytfcombimnmkoeaa.Q
