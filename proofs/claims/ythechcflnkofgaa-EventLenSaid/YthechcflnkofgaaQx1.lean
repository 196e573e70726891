-- printed by a program of this session (NOTES: hprint); not the kit's print
-- minified
-- halved
import Derived.Test.YthechcflnkofgaaAl
import Derived.Test.YthechcflnkofgaaQx0
namespace Go.Proofs.Ythechcflnkofgaa.Q
open Go.RowKit Go.Proofs.YthechcflnkofgaaW.PrintWords Go.Proofs.YthechcflnkofgaaW.PrintLast Go.Proofs.YthechcflnkofgaaW.PrintMore
attribute [local go_sem] max2_int min2_int max_two min_two max_three min_three max_four min_four   -- for this text's walks alone
set_option linter.unusedVariables false
set_option linter.unusedSimpArgs false

/-! ### shuttlecockref04_Short: function 8 -/
def shuttlecockref04_Short.l0 : Nat → List (S24) → Int → Option (Bool)
 | 0, _, _ => none
 | k + 1, x0, x3 => if x3 < (x0.length : Int) then (if 0 ≤ x3 then (if (((rd_T24 x0 x3).f2).length : Int) > 20 then (some false) else (if (((rd_T24 x0 x3).f3).size : Int) > 300 then (some false) else (shuttlecockref04_Short.l0 k x0 (wrap64 (x3 + 1))))) else (none)) else (some (decide ((x0.length : Int) ≤ 60)))
def shuttlecockref04_Short.f (k : Nat) (l0 : List (S24)) : Option (Bool) := shuttlecockref04_Short.l0 k l0 0
theorem shuttlecockref04_Short.mono_l : ∀ k, (∀ y0 y1, LeO (shuttlecockref04_Short.l0 k y0 y1) (shuttlecockref04_Short.l0 (k + 1) y0 y1))
 | 0 => fun _ _ r h => by simp [shuttlecockref04_Short.l0] at h
 | k + 1 => by
  have ih0 := shuttlecockref04_Short.mono_l k
  ·
   intro y0 y1
   unfold shuttlecockref04_Short.l0
   repeat' first
   | (with_reducible exact ih0 _ _)
   | (with_reducible exact LeO.refl _)
   | (with_reducible exact LeO.none _)
   | (with_reducible refine LeO.ite ?_ ?_)
   | (with_reducible refine LeO.bind ?_ (fun _ => ?_))
   | exact ih0 _ _
   | exact LeO.none _
   | refine LeO.ite ?_ ?_
   | refine LeO.bind ?_ (fun _ => ?_)
theorem shuttlecockref04_Short.mono : ∀ a0 k, LeO (shuttlecockref04_Short.f k a0) (shuttlecockref04_Short.f (k + 1) a0) := by
 intro a0 k
 have ih0 := shuttlecockref04_Short.mono_l k
 unfold shuttlecockref04_Short.f
 repeat' first
   | (with_reducible exact ih0 _ _)
   | (with_reducible exact LeO.refl _)
   | (with_reducible exact LeO.none _)
   | (with_reducible refine LeO.ite ?_ ?_)
   | (with_reducible refine LeO.bind ?_ (fun _ => ?_))
   | exact ih0 _ _
   | exact LeO.none _
   | refine LeO.ite ?_ ?_
   | refine LeO.bind ?_ (fun _ => ?_)
set_option maxHeartbeats 8000000 in
set_option maxRecDepth 100000 in
theorem shuttlecockref04_Short.calls (k : Nat) (A0 : Option Addr) (c0 : Nat) (l0 : List (S24)) (r : Bool) (w : World) (hr0 : Kd.C k24 w A0 l0.length l0) (hc0 : l0.length ≤ c0) (h : shuttlecockref04_Short.f k l0 = some r) :
  Calls Try.prog 8 #[.slice A0 l0.length c0] w fun e w' => e = .returned (.bool r) ∧ Drawn0 w w' := by
 have HR0 := Am hr0
 have HC0 := Am hc0
 clear hr0 hc0
 have H : (shuttlecockref04_Short.l0 k l0 0) = some r := h
 clear h
 have H' := Am H
 clear H
 go_enter Try.func8, Try.ntmps8
 go_wp2
 go_loopg [3] k (fun kq v3 w' => ∃ (x3_1 : Int), v3 = .int .i64 x3_1 ∧ Aside0 (shuttlecockref04_Short.l0 kq l0 x3_1 = some r) ∧ Aside0 (kq ≤ k) ∧ Drawn0 w w')
 case atStart => exact ⟨(0), (by first | rfl | (simp; done) | (simp [*]; done)), H', ⟨Nat.le_refl _⟩, by repeat (first | exact Drawn0.refl _ | apply Drawn0.step)⟩
 case round =>
  clear H'
  obtain ⟨x3_1, rfl, HA, HK1, ⟨m1, rfl⟩⟩ := hrel
  cases gk with
  | zero => exact absurd HA.out (by simp [shuttlecockref04_Short.l0])
  | succ k1 =>
   have H := HA.out
   clear HA
   simp only [shuttlecockref04_Short.l0] at H
   by_cases c2 : x3_1 < (l0.length : Int)
   ·
    rw [if_pos c2] at H
    have c2b0 : decide (x3_1 < (l0.length : Int)) = true := decide_eq_true c2
    clear c2
    by_cases c3 : 0 ≤ x3_1
    ·
     rw [if_pos c3] at H
     have c3b0 : decide (0 ≤ x3_1) = true := decide_eq_true c3
     clear c3
     by_cases c4 : (((rd_T24 l0 x3_1).f2).length : Int) > 20
     ·
      rw [if_pos c4] at H
      have c4b0 : decide (20 < (((rd_T24 l0 x3_1).f2).length : Int)) = true := decide_eq_true c4
      have c4b1 : decide (20 < ((rd_T24 l0 x3_1).f2).length) = true := decide_eq_true (by omega)
      clear c4
      obtain rfl := Option.some.inj H
      have p101 : 0 ≤ (x3_1 : Int) := of_decide_eq_true (by first | (with_reducible assumption) | assumption)
      have q101 : x3_1 < (l0.length : Int) := of_decide_eq_true (by first | (with_reducible assumption) | assumption)
      obtain ⟨ad101, A101_2, c101_2, e101, hx101_0, hx101_1, hx101_2, hx101_3, hl101_2, hi101_2⟩ := at_T24 HR0.out x3_1 p101 q101
      cases e101
      have HR101_2 := Am hi101_2
      have HC101_2 := Am hl101_2
      clear hi101_2 hl101_2
      replace p101 := eq_true p101
      replace q101 := eq_true q101
      go_wp2
      go_ret
      exact ⟨by first | rfl | (simp; done) | (simp [*]; done), by repeat (first | exact Drawn0.refl _ | apply Drawn0.step)⟩
     ·
      rw [if_neg c4] at H
      have c4b0 : decide (20 < (((rd_T24 l0 x3_1).f2).length : Int)) = false := decide_eq_false c4
      have c4b1 : decide (20 < ((rd_T24 l0 x3_1).f2).length) = false := decide_eq_false (by omega)
      clear c4
      by_cases c5 : (((rd_T24 l0 x3_1).f3).size : Int) > 300
      ·
       rw [if_pos c5] at H
       have c5b0 : decide (300 < (((rd_T24 l0 x3_1).f3).size : Int)) = true := decide_eq_true c5
       have c5b1 : decide (300 < ((rd_T24 l0 x3_1).f3).size) = true := decide_eq_true (by omega)
       clear c5
       obtain rfl := Option.some.inj H
       have p101 : 0 ≤ (x3_1 : Int) := of_decide_eq_true (by first | (with_reducible assumption) | assumption)
       have q101 : x3_1 < (l0.length : Int) := of_decide_eq_true (by first | (with_reducible assumption) | assumption)
       obtain ⟨ad101, A101_2, c101_2, e101, hx101_0, hx101_1, hx101_2, hx101_3, hl101_2, hi101_2⟩ := at_T24 HR0.out x3_1 p101 q101
       cases e101
       have HR101_2 := Am hi101_2
       have HC101_2 := Am hl101_2
       clear hi101_2 hl101_2
       replace p101 := eq_true p101
       replace q101 := eq_true q101
       have p102 : 0 ≤ (x3_1 : Int) := of_decide_eq_true (by first | (with_reducible assumption) | assumption)
       have q102 : x3_1 < (l0.length : Int) := of_decide_eq_true (by first | (with_reducible assumption) | assumption)
       obtain ⟨ad102, A102_2, c102_2, e102, hx102_0, hx102_1, hx102_2, hx102_3, hl102_2, hi102_2⟩ := at_T24 HR0.out x3_1 p102 q102
       obtain rfl : ad101 = ad102 := (by injection e102)
       have HR102_2 := Am hi102_2
       have HC102_2 := Am hl102_2
       clear hi102_2 hl102_2
       replace p102 := eq_true p102
       replace q102 := eq_true q102
       have ea_ := Option.some.inj (hx101_2.symm.trans hx102_2)
       injection ea_ with ea_ en_ ec_
       subst ea_
       subst ec_
       clear en_
       go_wp2
       go_ret
       exact ⟨by first | rfl | (simp; done) | (simp [*]; done), by repeat (first | exact Drawn0.refl _ | apply Drawn0.step)⟩
      ·
       rw [if_neg c5] at H
       have c5b0 : decide (300 < (((rd_T24 l0 x3_1).f3).size : Int)) = false := decide_eq_false c5
       have c5b1 : decide (300 < ((rd_T24 l0 x3_1).f3).size) = false := decide_eq_false (by omega)
       clear c5
       have H' := Am H
       clear H
       have p101 : 0 ≤ (x3_1 : Int) := of_decide_eq_true (by first | (with_reducible assumption) | assumption)
       have q101 : x3_1 < (l0.length : Int) := of_decide_eq_true (by first | (with_reducible assumption) | assumption)
       obtain ⟨ad101, A101_2, c101_2, e101, hx101_0, hx101_1, hx101_2, hx101_3, hl101_2, hi101_2⟩ := at_T24 HR0.out x3_1 p101 q101
       cases e101
       have HR101_2 := Am hi101_2
       have HC101_2 := Am hl101_2
       clear hi101_2 hl101_2
       replace p101 := eq_true p101
       replace q101 := eq_true q101
       have p102 : 0 ≤ (x3_1 : Int) := of_decide_eq_true (by first | (with_reducible assumption) | assumption)
       have q102 : x3_1 < (l0.length : Int) := of_decide_eq_true (by first | (with_reducible assumption) | assumption)
       obtain ⟨ad102, A102_2, c102_2, e102, hx102_0, hx102_1, hx102_2, hx102_3, hl102_2, hi102_2⟩ := at_T24 HR0.out x3_1 p102 q102
       obtain rfl : ad101 = ad102 := (by injection e102)
       have HR102_2 := Am hi102_2
       have HC102_2 := Am hl102_2
       clear hi102_2 hl102_2
       replace p102 := eq_true p102
       replace q102 := eq_true q102
       have ea_ := Option.some.inj (hx101_2.symm.trans hx102_2)
       injection ea_ with ea_ en_ ec_
       subst ea_
       subst ec_
       clear en_
       go_wp2
       go_roundg k1
       case measure => have := HK1.out; omega
       case rel => exact ⟨(wrap64 (x3_1 + 1)), (by first | rfl | (simp; done) | (simp [*]; done)), H', ⟨by have := HK1.out; omega⟩, by repeat (first | exact Drawn0.refl _ | apply Drawn0.step)⟩
    ·
     rw [if_neg c3] at H
     exact absurd H (by simp)
   ·
    rw [if_neg c2] at H
    have c2b0 : decide (x3_1 < (l0.length : Int)) = false := decide_eq_false c2
    clear c2
    obtain rfl := Option.some.inj H
    go_wp2
    go_ret
    exact ⟨by first | rfl | (simp; done) | (simp [*]; done), by repeat (first | exact Drawn0.refl _ | apply Drawn0.step)⟩

/-- A state of type 58 at block g of W; what its slices lead to came in by w0. -/
def IsS58 (w0 W : World) (g : Nat) (f0 : ByteArray) (f1 : Int) (f2 : Int) (f3 : Int) : Prop := W.heap[g]? = some (.cells #[.string f0, .int .i64 f1, .int .i64 f2, .int .i64 f3] 58 (0, 0)) ∧ w0.heap.size ≤ g
theorem IsS58.grown {w0 W : World} {g : Nat} {f0 : ByteArray} {f1 : Int} {f2 : Int} {f3 : Int} {W1 : World} {row : Option Nat} (h : IsS58 w0 W g f0 f1 f2 f3) (hw : W.grownBy W1 row) (hne : some g ≠ row) : IsS58 w0 W1 g f0 f1 f2 f3 := by
 obtain ⟨hb, hg⟩ := h
 exact ⟨blk_grown hb hw hne, hg⟩
theorem IsS58.own_neN {w0 W : World} {g : Nat} {f0 : ByteArray} {f1 : Int} {f2 : Int} {f3 : Int} {α : Type} {d : Kd α} {e : Nat} {base : Nat} {ok : Nat → Prop} {v : Value} {xs : List α} (h : IsS58 w0 W g f0 f1 f2 f3) (ho : Kd.N d e W base ok v xs) (ht : e ≠ 58) : some g ≠ v.ownBlock := by
 obtain ⟨hb, hg⟩ := h
 exact Kd.N_ne ho hb ht
theorem IsS58.fresh {w0 W : World} {g : Nat} {f0 : ByteArray} {f1 : Int} {f2 : Int} {f3 : Int} (h : IsS58 w0 W g f0 f1 f2 f3) : ∀ k, W.heap.size ≤ k → k ≠ g := by
 obtain ⟨hb, hg⟩ := h
 exact Kd.freshB hb
theorem IsS58.kept {w0 W : World} {g : Nat} {f0 : ByteArray} {f1 : Int} {f2 : Int} {f3 : Int} {W1 : World} {S : Nat → Prop} (h : IsS58 w0 W g f0 f1 f2 f3) (hk : Kept W W1 S) (hne : ¬ S g) : IsS58 w0 W1 g f0 f1 f2 f3 := by
 obtain ⟨hb, hg⟩ := h
 exact ⟨blk_kept hb hk hne, hg⟩
theorem IsS58.below {w0 W : World} {g : Nat} {f0 : ByteArray} {f1 : Int} {f2 : Int} {f3 : Int} {W1 : World} (h : IsS58 w0 W g f0 f1 f2 f3) (hw : Below W.heap.size W W1) : IsS58 w0 W1 g f0 f1 f2 f3 := h.grown (grown_of_below hw none) (by simp)
theorem IsS58.alloc {w0 W : World} {g : Nat} {f0 : ByteArray} {f1 : Int} {f2 : Int} {f3 : Int} (h : IsS58 w0 W g f0 f1 f2 f3) (o : Obj) : IsS58 w0 (W.alloc o) g f0 f1 f2 f3 := h.below (bl (Below.refl _ _) o)
theorem IsS58.drewN {w0 W : World} {g : Nat} {f0 : ByteArray} {f1 : Int} {f2 : Int} {f3 : Int} (h : IsS58 w0 W g f0 f1 f2 f3) (m : Nat) : IsS58 w0 (W.drewN m) g f0 f1 f2 f3 := h
theorem IsS58.drew {w0 W : World} {g : Nat} {f0 : ByteArray} {f1 : Int} {f2 : Int} {f3 : Int} (h : IsS58 w0 W g f0 f1 f2 f3) : IsS58 w0 W.drew g f0 f1 f2 f3 := h
theorem IsS58.at_ {w0 W : World} {g : Nat} {f0 : ByteArray} {f1 : Int} {f2 : Int} {f3 : Int} {w' : World} {m : Nat} (hq : W.drewN m = w') (h : IsS58 w0 W g f0 f1 f2 f3) : IsS58 w0 w' g f0 f1 f2 f3 := by subst hq; exact IsS58.drewN h m
theorem IsS58.apart {w0 W : World} {g : Nat} {f0 : ByteArray} {f1 : Int} {f2 : Int} {f3 : Int} {α : Type} {d : Kd α} {e : Nat} {base : Nat} {ok : Nat → Prop} {v : Value} {xs : List α} (h : IsS58 w0 W g f0 f1 f2 f3) (ho : d.R e W base ok v xs) (ht : ∀ q, q ∈ e :: d.E → q ≠ 58) : d.R e W base (fun k => ok k ∧ k ≠ g) v xs := by
 obtain ⟨hb, hg⟩ := h
 exact Kd.R_types ho hb ht
theorem IsS58.own_ne {w0 W : World} {g : Nat} {f0 : ByteArray} {f1 : Int} {f2 : Int} {f3 : Int} {α : Type} {d : Kd α} {e : Nat} {base : Nat} {ok : Nat → Prop} {v : Value} {xs : List α} (h : IsS58 w0 W g f0 f1 f2 f3) (ho : d.R e W base ok v xs) (ht : e ≠ 58) : some g ≠ v.ownBlock := by
 obtain ⟨hb, hg⟩ := h
 exact Kd.R_ne ho hb ht
theorem IsS58.apartQ {w0 W : World} {g : Nat} {f0 : ByteArray} {f1 : Int} {f2 : Int} {f3 : Int} {α : Type} {d : Kd α} {e : Nat} {base : Nat} {ok : Nat → Prop} {v : Value} {xs : List α} (h : IsS58 w0 W g f0 f1 f2 f3) (ho : d.Q e W base ok v xs) (ht : ∀ q, q ∈ e :: d.E → q ≠ 58) : d.Q e W base (fun k => ok k ∧ k ≠ g) v xs := by
 obtain ⟨hb, hg⟩ := h
 exact Kd.Q_types ho hb ht
theorem IsS58.own_neQ {w0 W : World} {g : Nat} {f0 : ByteArray} {f1 : Int} {f2 : Int} {f3 : Int} {α : Type} {d : Kd α} {e : Nat} {base : Nat} {ok : Nat → Prop} {v : Value} {xs : List α} (h : IsS58 w0 W g f0 f1 f2 f3) (ho : d.Q e W base ok v xs) (ht : e ≠ 58) : some g ≠ v.ownBlock := by
 obtain ⟨hb, hg⟩ := h
 exact Kd.Q_ne ho hb ht
theorem IsS58.apartS {w0 W : World} {g : Nat} {f0 : ByteArray} {f1 : Int} {f2 : Int} {f3 : Int} {α : Type} {d : Kd α} {e : Nat} {base : Nat} {ok : Nat → Prop} {v : Value} {xs : List α} (h : IsS58 w0 W g f0 f1 f2 f3) (ho : d.S e W base ok v xs) (ht : ∀ q, q ∈ e :: d.E → q ≠ 58) : d.S e W base (fun k => ok k ∧ k ≠ g) v xs := by
 obtain ⟨hb, hg⟩ := h
 exact Kd.S_types ho hb ht
theorem IsS58.own_neS {w0 W : World} {g : Nat} {f0 : ByteArray} {f1 : Int} {f2 : Int} {f3 : Int} {α : Type} {d : Kd α} {e : Nat} {base : Nat} {ok : Nat → Prop} {v : Value} {xs : List α} (h : IsS58 w0 W g f0 f1 f2 f3) (ho : d.S e W base ok v xs) (ht : e ≠ 58) : some g ≠ v.ownBlock := by
 obtain ⟨hb, hg⟩ := h
 exact Kd.S_ne ho hb ht
theorem IsS58.lt {w0 W : World} {g : Nat} {f0 : ByteArray} {f1 : Int} {f2 : Int} {f3 : Int} (h : IsS58 w0 W g f0 f1 f2 f3) : g < W.heap.size := by
 obtain ⟨hb, hg⟩ := h
 exact blk_lt hb
theorem IsS58.ge {w0 W : World} {g : Nat} {f0 : ByteArray} {f1 : Int} {f2 : Int} {f3 : Int} (h : IsS58 w0 W g f0 f1 f2 f3) : w0.heap.size ≤ g := by
 obtain ⟨hb, hg⟩ := h
 exact hg
theorem IsS58.ne_blk {w0 W : World} {g : Nat} {f0 : ByteArray} {f1 : Int} {f2 : Int} {f3 : Int} {a : Nat} {cs : Array Value} {t : TypeId} {fr : Nat × Nat} (h : IsS58 w0 W g f0 f1 f2 f3) (hb2 : W.heap[a]? = some (.cells cs t fr)) (ht : t ≠ 58) : g ≠ a := by
 obtain ⟨hb, hg⟩ := h
 rintro rfl
 rw [hb] at hb2
 injection hb2 with hb2
 injection hb2 with _ ht2
 exact ht ht2.symm
theorem IsS58.far {w0 W : World} {g : Nat} {f0 : ByteArray} {f1 : Int} {f2 : Int} {f3 : Int} {p : Addr} (h : IsS58 w0 W g f0 f1 f2 f3) (hne : g ≠ p.block) (u : Value) : IsS58 w0 (W.setCell p u) g f0 f1 f2 f3 := by
 obtain ⟨hb, hg⟩ := h
 exact ⟨blk_far hb hne u, hg⟩
theorem cellS58_0 {W : World} {g : Nat} {f0 : ByteArray} {f1 : Int} {f2 : Int} {f3 : Int} (h : W.heap[g]? = some (.cells #[.string f0, .int .i64 f1, .int .i64 f2, .int .i64 f3] 58 (0, 0))) : W.cell? ⟨g, 0, none⟩ = some (.string f0) := (bc h 0).trans rfl
theorem IsS58.set_0 {w0 W : World} {g : Nat} {f0 : ByteArray} {f1 : Int} {f2 : Int} {f3 : Int} (h : IsS58 w0 W g f0 f1 f2 f3) (x : ByteArray) : IsS58 w0 (W.setCell ⟨g, 0, none⟩ (.string x)) g x f1 f2 f3 := by
 obtain ⟨hb, hg⟩ := h
 exact ⟨by simpa using blk_set hb 0 (.string x), hg⟩
theorem cellS58_1 {W : World} {g : Nat} {f0 : ByteArray} {f1 : Int} {f2 : Int} {f3 : Int} (h : W.heap[g]? = some (.cells #[.string f0, .int .i64 f1, .int .i64 f2, .int .i64 f3] 58 (0, 0))) : W.cell? ⟨g, 1, none⟩ = some (.int .i64 f1) := (bc h 1).trans rfl
theorem IsS58.set_1 {w0 W : World} {g : Nat} {f0 : ByteArray} {f1 : Int} {f2 : Int} {f3 : Int} (h : IsS58 w0 W g f0 f1 f2 f3) (x : Int) : IsS58 w0 (W.setCell ⟨g, 1, none⟩ (.int .i64 x)) g f0 x f2 f3 := by
 obtain ⟨hb, hg⟩ := h
 exact ⟨by simpa using blk_set hb 1 (.int .i64 x), hg⟩
theorem cellS58_2 {W : World} {g : Nat} {f0 : ByteArray} {f1 : Int} {f2 : Int} {f3 : Int} (h : W.heap[g]? = some (.cells #[.string f0, .int .i64 f1, .int .i64 f2, .int .i64 f3] 58 (0, 0))) : W.cell? ⟨g, 2, none⟩ = some (.int .i64 f2) := (bc h 2).trans rfl
theorem IsS58.set_2 {w0 W : World} {g : Nat} {f0 : ByteArray} {f1 : Int} {f2 : Int} {f3 : Int} (h : IsS58 w0 W g f0 f1 f2 f3) (x : Int) : IsS58 w0 (W.setCell ⟨g, 2, none⟩ (.int .i64 x)) g f0 f1 x f3 := by
 obtain ⟨hb, hg⟩ := h
 exact ⟨by simpa using blk_set hb 2 (.int .i64 x), hg⟩
theorem cellS58_3 {W : World} {g : Nat} {f0 : ByteArray} {f1 : Int} {f2 : Int} {f3 : Int} (h : W.heap[g]? = some (.cells #[.string f0, .int .i64 f1, .int .i64 f2, .int .i64 f3] 58 (0, 0))) : W.cell? ⟨g, 3, none⟩ = some (.int .i64 f3) := (bc h 3).trans rfl
theorem IsS58.set_3 {w0 W : World} {g : Nat} {f0 : ByteArray} {f1 : Int} {f2 : Int} {f3 : Int} (h : IsS58 w0 W g f0 f1 f2 f3) (x : Int) : IsS58 w0 (W.setCell ⟨g, 3, none⟩ (.int .i64 x)) g f0 f1 f2 x := by
 obtain ⟨hb, hg⟩ := h
 exact ⟨by simpa using blk_set hb 3 (.int .i64 x), hg⟩
theorem IsS58.new (w0 W : World) (f0 : ByteArray) (f1 : Int) (f2 : Int) (f3 : Int) (hB : Below w0.heap.size w0 W) : IsS58 w0 (W.alloc (.cells #[.string f0, .int .i64 f1, .int .i64 f2, .int .i64 f3] 58)) W.heap.size f0 f1 f2 f3 := ⟨by simpa using heap_alloc_new W _, hB.size⟩

/-! ### wire_New: function 18 -/
def wire_New.f (a0 : ByteArray) : Option (ByteArray × Int × Int × Int) := some (a0, 0, 0, 0)
set_option maxHeartbeats 8000000 in
set_option maxRecDepth 100000 in
theorem wire_New.calls (a0 : ByteArray) (r1 : ByteArray) (r2 : Int) (r3 : Int) (r4 : Int) (w0 w : World) (hB : Below w0.heap.size w0 w) (h : wire_New.f a0 = some (r1, r2, r3, r4)) :
  Calls Try.prog 18 #[.string a0] w fun e w' => ∃ g_ : Nat, e = .returned (.pointer (some ⟨g_, 0, none⟩)) ∧ IsS58 w0 w' g_ r1 r2 r3 r4 ∧ Below w0.heap.size w0 w' ∧ Below w.heap.size w w' := by
 have hu58 := Try.underlying58
 have HBW := Am (Below.refl w.heap.size w)
 have HW0 := Am hB.size
 have HB := Am hB
 clear hB
 have H : (some (a0, 0, 0, 0)) = some (r1, r2, r3, r4) := h
 clear h
 simp only [Option.some.injEq, Prod.mk.injEq] at H
 obtain ⟨rfl, rfl, rfl, rfl⟩ := H
 go_enter Try.func18, Try.ntmps18
 go_wp2_with (first | ((with_reducible refine gate_dst (N := 5) rfl ?_); refine box_event ?hg (N := 5) ?hd (cs := #[.string a0, .int .i64 0, .int .i64 0, .int .i64 0]) (t := 58) ?hr ?_; (case hd => rfl); (case hg => rfl); (case hr => first | (go_simp; done) | (go_simp; rfl)); intro gb103 hg w2 hbox hb; have n0_ := Am (below_step HBW.out hb); have n1_ := Am (below_step (by repeat (first | (with_reducible first | exact HB.out | apply bl | apply pN | apply b1) | exact HB.out | exact HBo.out)) hb); have n2_ := Am (hbox); have n3_ := Am ((by rw [hg]; exact (below_size (by repeat (first | (with_reducible first | exact HBW.out | apply bl | apply pN | apply b1) | exact HBW.out))) : w.heap.size ≤ gb103)); have n4_ := Am ((Nat.le_trans HW0.out (by rw [hg]; exact (below_size (by repeat (first | (with_reducible first | exact HBW.out | apply bl | apply pN | apply b1) | exact HBW.out))) : w.heap.size ≤ gb103) : w0.heap.size ≤ gb103)); clear HBW; clear HB; have HBW := n0_; have HB := n1_; have BK103 := n2_; have GW103 := n3_; have GE103 := n4_; clear n0_ n1_ n2_ n3_ n4_; clear hb hbox hg))
 go_ret
 exact ⟨_, rfl, (show IsS58 w0 _ gb103 a0 0 0 0 from ⟨by (with_reducible repeat (first | refine bn ?_ _ | refine bd ?_ | refine ba ?_ _)); exact BK103.out, GE103.out⟩), by repeat (first | (with_reducible first | exact HB.out | apply bl | apply pN | apply b1 | refine bs ?_ GE103.out) | exact HB.out | exact HBo.out), by repeat (first | (with_reducible first | exact HBW.out | apply bl | apply pN | apply b1 | refine bs ?_ GW103.out) | exact HBW.out)⟩

/-! ### wire_Reader_Err: function 20 -/
def wire_Reader_Err.f (s0_0 : ByteArray) (s0_1 : Int) (s0_2 : Int) (s0_3 : Int) : Option (Int × Int × ByteArray × Int × Int × Int) := some (s0_2, s0_3, s0_0, s0_1, s0_2, s0_3)
set_option maxHeartbeats 8000000 in
set_option maxRecDepth 100000 in
theorem wire_Reader_Err.calls (g : Nat) (s0_0 : ByteArray) (s0_1 : Int) (s0_2 : Int) (s0_3 : Int) (r1 : Int) (r2 : Int) (r3 : ByteArray) (r4 : Int) (r5 : Int) (r6 : Int) (w0 w : World) (hI : IsS58 w0 w g s0_0 s0_1 s0_2 s0_3) (hB : Below w0.heap.size w0 w) (h : wire_Reader_Err.f s0_0 s0_1 s0_2 s0_3 = some (r1, r2, r3, r4, r5, r6)) :
  Calls Try.prog 20 #[.pointer (some ⟨g, 0, none⟩)] w fun e w' => e = .returned (.tuple #[.int .i64 r1, .int .i64 r2]) ∧ IsS58 w0 w' g r3 r4 r5 r6 ∧ Below w0.heap.size w0 w' ∧ KeepBut w w' g none := by
 have HI0 := Am hI
 have HK := Am (KeepBut.refl w g none)
 have HL := Am hB.size
 clear hI
 have HW0 := Am hB.size
 have HB := Am hB
 clear hB
 have H : (some (s0_2, s0_3, s0_0, s0_1, s0_2, s0_3)) = some (r1, r2, r3, r4, r5, r6) := h
 clear h
 simp only [Option.some.injEq, Prod.mk.injEq] at H
 obtain ⟨rfl, rfl, rfl, rfl, rfl, rfl⟩ := H
 obtain ⟨HGz2, hgz2⟩ := HI0.out
 have hcz2_0 := cellS58_0 HGz2
 have hcz2_1 := cellS58_1 HGz2
 have hcz2_2 := cellS58_2 HGz2
 have hcz2_3 := cellS58_3 HGz2
 have hfz2_0 := bf HGz2 0
 have hfz2_1 := bf HGz2 1
 have hfz2_2 := bf HGz2 2
 have hfz2_3 := bf HGz2 3
 clear HGz2 hgz2
 go_enter Try.func20, Try.ntmps20
 go_wp2
 repeat (go_quiet (fail); try go_wp2)
 go_ret2
 exact ⟨by first | rfl | (simp [errW_none, errW_some] <;> rfl) | (simp [*, errW_none, errW_some] <;> rfl) | (simp [Aid.ne_nil, Aid.eq_nil, errW_none, errW_some]; done), by repeat (first | (with_reducible first | exact HI0.out | apply IsS58.alloc | apply IsS58.drewN | apply IsS58.drew | apply IsS58.set_0 | apply IsS58.set_1 | apply IsS58.set_2 | apply IsS58.set_3) | exact HI0.out), by repeat (first | (with_reducible first | exact HB.out | apply bl | apply pN | apply b1 | refine bs ?_ (IsS58.ge HI0.out)) | exact HB.out | exact HBo.out), by repeat (first | (with_reducible first | exact HK.out | apply KeepBut.set_ | apply keep_drewN | apply keep_drew | apply keep_alloc) | exact HK.out)⟩

/-! ### kind_Exp: function 27 -/
def kind_Exp.f (a0 : Int) : Option (Bool) := if a0 ≥ 128 then (some (decide (a0 < 256))) else (some false)
set_option maxHeartbeats 8000000 in
set_option maxRecDepth 100000 in
theorem kind_Exp.calls (a0 : Int) (r : Bool) (w : World) (h : kind_Exp.f a0 = some r) :
  Calls Try.prog 27 #[.int .i64 a0] w fun e w' => e = .returned (.bool r) ∧ Drawn0 w w' := by
 have H : (if a0 ≥ 128 then (some (decide (a0 < 256))) else (some false)) = some r := h
 clear h
 by_cases c2 : a0 ≥ 128
 ·
  rw [if_pos c2] at H
  have c2b0 : decide (128 ≤ a0) = true := decide_eq_true c2
  clear c2
  obtain rfl := Option.some.inj H
  go_enter Try.func27, Try.ntmps27
  go_wp2
  go_ret
  exact ⟨by first | rfl | (simp; done) | (simp [*]; done), by repeat (first | exact Drawn0.refl _ | apply Drawn0.step)⟩
 ·
  rw [if_neg c2] at H
  have c2b0 : decide (128 ≤ a0) = false := decide_eq_false c2
  clear c2
  obtain rfl := Option.some.inj H
  go_enter Try.func27, Try.ntmps27
  go_wp2
  go_ret
  exact ⟨by first | rfl | (simp; done) | (simp [*]; done), by repeat (first | exact Drawn0.refl _ | apply Drawn0.step)⟩

/-! ### kind_Known: function 28, by hand -/
def kind_Known.f (a0 : Int) : Option (Bool) := if (Lit.int .i64 a0).wf = true then some (Kind.knownB a0) else none
theorem kind_Known.calls (a0 : Int) (r : Bool) (w : World) (h : kind_Known.f a0 = some r) :
  Calls Try.prog 28 #[.int .i64 a0] w fun e w' => e = .returned (.bool r) ∧ Below w.heap.size w w' := by
 unfold kind_Known.f at h
 split at h
 ·
  rename_i hw
  obtain rfl := Option.some.inj h
  exact Kind.known_calls a0 w hw
 ·
  cases h

/-! ### kind_Args: function 29, by hand -/
def kind_Args.f (a0 : Int) : Option (List Int) := if (Lit.int .i64 a0).wf = true then some (Kind.argsL a0) else none
theorem kind_Args.calls (a0 : Int) (r : List Int) (w : World) (h : kind_Args.f a0 = some r) :
  Calls Try.prog 29 #[.int .i64 a0] w fun e w' => ∃ v0_ : Value, e = .returned (v0_) ∧ Kd.R (Kd.int .i64) 3 w' w.heap.size (fun _ => True) v0_ r ∧ Below w.heap.size w w' := by
 unfold kind_Args.f at h
 split at h
 ·
  rename_i hw
  obtain rfl := Option.some.inj h
  exact Kind.args_calls a0 w hw
 ·
  cases h

/-! ### wire_Reader_ok: function 51 -/
def wire_Reader_ok.f (s0_0 : ByteArray) (s0_1 : Int) (s0_2 : Int) (s0_3 : Int) : Option (Bool × ByteArray × Int × Int × Int) := some ((s0_2 == 0), s0_0, s0_1, s0_2, s0_3)
set_option maxHeartbeats 8000000 in
set_option maxRecDepth 100000 in
theorem wire_Reader_ok.calls (g : Nat) (s0_0 : ByteArray) (s0_1 : Int) (s0_2 : Int) (s0_3 : Int) (r1 : Bool) (r2 : ByteArray) (r3 : Int) (r4 : Int) (r5 : Int) (w0 w : World) (hI : IsS58 w0 w g s0_0 s0_1 s0_2 s0_3) (hB : Below w0.heap.size w0 w) (h : wire_Reader_ok.f s0_0 s0_1 s0_2 s0_3 = some (r1, r2, r3, r4, r5)) :
  Calls Try.prog 51 #[.pointer (some ⟨g, 0, none⟩)] w fun e w' => e = .returned (.bool r1) ∧ IsS58 w0 w' g r2 r3 r4 r5 ∧ Below w0.heap.size w0 w' ∧ KeepBut w w' g none := by
 have HI0 := Am hI
 have HK := Am (KeepBut.refl w g none)
 have HL := Am hB.size
 clear hI
 have HW0 := Am hB.size
 have HB := Am hB
 clear hB
 have H : (some ((s0_2 == 0), s0_0, s0_1, s0_2, s0_3)) = some (r1, r2, r3, r4, r5) := h
 clear h
 simp only [Option.some.injEq, Prod.mk.injEq] at H
 obtain ⟨rfl, rfl, rfl, rfl, rfl⟩ := H
 obtain ⟨HGz2, hgz2⟩ := HI0.out
 have hcz2_0 := cellS58_0 HGz2
 have hcz2_1 := cellS58_1 HGz2
 have hcz2_2 := cellS58_2 HGz2
 have hcz2_3 := cellS58_3 HGz2
 have hfz2_0 := bf HGz2 0
 have hfz2_1 := bf HGz2 1
 have hfz2_2 := bf HGz2 2
 have hfz2_3 := bf HGz2 3
 clear HGz2 hgz2
 go_enter Try.func51, Try.ntmps51
 go_wp2
 go_ret
 exact ⟨by first | rfl | (simp [errW_none, errW_some] <;> rfl) | (simp [*, errW_none, errW_some] <;> rfl) | (simp [Aid.ne_nil, Aid.eq_nil, errW_none, errW_some]; done), by repeat (first | (with_reducible first | exact HI0.out | apply IsS58.alloc | apply IsS58.drewN | apply IsS58.drew | apply IsS58.set_0 | apply IsS58.set_1 | apply IsS58.set_2 | apply IsS58.set_3) | exact HI0.out), by repeat (first | (with_reducible first | exact HB.out | apply bl | apply pN | apply b1 | refine bs ?_ (IsS58.ge HI0.out)) | exact HB.out | exact HBo.out), by repeat (first | (with_reducible first | exact HK.out | apply KeepBut.set_ | apply keep_drewN | apply keep_drew | apply keep_alloc) | exact HK.out)⟩

/-! ### wire_Reader_fail: function 53 -/
def wire_Reader_fail.f (s0_0 : ByteArray) (s0_1 : Int) (s0_2 : Int) (s0_3 : Int) (a1 : Int) (a2 : Int) : Option (ByteArray × Int × Int × Int) := some (s0_0, a2, a1, a2)
set_option maxHeartbeats 8000000 in
set_option maxRecDepth 100000 in
theorem wire_Reader_fail.calls (g : Nat) (s0_0 : ByteArray) (s0_1 : Int) (s0_2 : Int) (s0_3 : Int) (a1 : Int) (a2 : Int) (r1 : ByteArray) (r2 : Int) (r3 : Int) (r4 : Int) (w0 w : World) (hI : IsS58 w0 w g s0_0 s0_1 s0_2 s0_3) (hB : Below w0.heap.size w0 w) (h : wire_Reader_fail.f s0_0 s0_1 s0_2 s0_3 a1 a2 = some (r1, r2, r3, r4)) :
  Calls Try.prog 53 #[.pointer (some ⟨g, 0, none⟩), .int .i64 a1, .int .i64 a2] w fun e w' => e = .returned (.tuple #[]) ∧ IsS58 w0 w' g r1 r2 r3 r4 ∧ Below w0.heap.size w0 w' ∧ KeepBut w w' g none := by
 have HI0 := Am hI
 have HK := Am (KeepBut.refl w g none)
 have HL := Am hB.size
 clear hI
 have HW0 := Am hB.size
 have HB := Am hB
 clear hB
 have H : (some (s0_0, a2, a1, a2)) = some (r1, r2, r3, r4) := h
 clear h
 simp only [Option.some.injEq, Prod.mk.injEq] at H
 obtain ⟨rfl, rfl, rfl, rfl⟩ := H
 obtain ⟨HGz4, hgz4⟩ := HI0.out
 have hcz4_0 := cellS58_0 HGz4
 have hcz4_1 := cellS58_1 HGz4
 have hcz4_2 := cellS58_2 HGz4
 have hcz4_3 := cellS58_3 HGz4
 have hfz4_0 := bf HGz4 0
 have hfz4_1 := bf HGz4 1
 have hfz4_2 := bf HGz4 2
 have hfz4_3 := bf HGz4 3
 clear HGz4 hgz4
 go_enter Try.func53, Try.ntmps53
 go_wp2
 first | go_end0 | ((try simp only [Exit.inBlock, Exit.then]); refine bodyPost_ret (results_none rfl _ _ _) rfl ?_)
 exact ⟨by first | rfl | (simp [errW_none, errW_some] <;> rfl) | (simp [*, errW_none, errW_some] <;> rfl) | (simp [Aid.ne_nil, Aid.eq_nil, errW_none, errW_some]; done), by repeat (first | (with_reducible first | exact HI0.out | apply IsS58.alloc | apply IsS58.drewN | apply IsS58.drew | apply IsS58.set_0 | apply IsS58.set_1 | apply IsS58.set_2 | apply IsS58.set_3) | exact HI0.out), by repeat (first | (with_reducible first | exact HB.out | apply bl | apply pN | apply b1 | refine bs ?_ (IsS58.ge HI0.out)) | exact HB.out | exact HBo.out), by repeat (first | (with_reducible first | exact HK.out | apply KeepBut.set_ | apply keep_drewN | apply keep_drew | apply keep_alloc) | exact HK.out)⟩

/-! ### wire_Reader_take: function 54 -/
def wire_Reader_take.f (s0_0 : ByteArray) (s0_1 : Int) (s0_2 : Int) (s0_3 : Int) (a1 : Int) (a2 : Int) : Option (ByteArray × ByteArray × Int × Int × Int) := if a1 < 0 then ((wire_Reader_fail.f s0_0 s0_1 s0_2 s0_3 1 a2).bind fun bt104 => (some ((⟨#[]⟩ : ByteArray), bt104.1, bt104.2.1, bt104.2.2.1, bt104.2.2.2))) else (if a1 > (wrap64 ((s0_0.size : Int) - s0_1)) then ((wire_Reader_fail.f s0_0 s0_1 s0_2 s0_3 10 a2).bind fun bt108 => (some ((⟨#[]⟩ : ByteArray), bt108.1, bt108.2.1, bt108.2.2.1, bt108.2.2.2))) else (if 0 ≤ s0_1 then (if s0_1 ≤ (wrap64 (s0_1 + a1)) then (if (wrap64 (s0_1 + a1)) ≤ (s0_0.size : Int) then (some (s0_0.extract (s0_1 : Int).toNat ((wrap64 (s0_1 + a1)) : Int).toNat, s0_0, wrap64 (s0_1 + a1), s0_2, s0_3)) else (none)) else (none)) else (none)))
set_option maxHeartbeats 8000000 in
set_option maxRecDepth 100000 in
theorem wire_Reader_take.calls (g : Nat) (s0_0 : ByteArray) (s0_1 : Int) (s0_2 : Int) (s0_3 : Int) (a1 : Int) (a2 : Int) (r1 : ByteArray) (r2 : ByteArray) (r3 : Int) (r4 : Int) (r5 : Int) (w0 w : World) (hI : IsS58 w0 w g s0_0 s0_1 s0_2 s0_3) (hB : Below w0.heap.size w0 w) (h : wire_Reader_take.f s0_0 s0_1 s0_2 s0_3 a1 a2 = some (r1, r2, r3, r4, r5)) :
  Calls Try.prog 54 #[.pointer (some ⟨g, 0, none⟩), .int .i64 a1, .int .i64 a2] w fun e w' => e = .returned (.string r1) ∧ IsS58 w0 w' g r2 r3 r4 r5 ∧ Below w0.heap.size w0 w' ∧ KeepBut w w' g none := by
 have HI0 := Am hI
 have HK := Am (KeepBut.refl w g none)
 have HL := Am hB.size
 clear hI
 have HW0 := Am hB.size
 have HB := Am hB
 clear hB
 have H : (if a1 < 0 then ((wire_Reader_fail.f s0_0 s0_1 s0_2 s0_3 1 a2).bind fun bt104 => (some ((⟨#[]⟩ : ByteArray), bt104.1, bt104.2.1, bt104.2.2.1, bt104.2.2.2))) else (if a1 > (wrap64 ((s0_0.size : Int) - s0_1)) then ((wire_Reader_fail.f s0_0 s0_1 s0_2 s0_3 10 a2).bind fun bt108 => (some ((⟨#[]⟩ : ByteArray), bt108.1, bt108.2.1, bt108.2.2.1, bt108.2.2.2))) else (if 0 ≤ s0_1 then (if s0_1 ≤ (wrap64 (s0_1 + a1)) then (if (wrap64 (s0_1 + a1)) ≤ (s0_0.size : Int) then (some (s0_0.extract (s0_1 : Int).toNat ((wrap64 (s0_1 + a1)) : Int).toNat, s0_0, wrap64 (s0_1 + a1), s0_2, s0_3)) else (none)) else (none)) else (none)))) = some (r1, r2, r3, r4, r5) := h
 clear h
 by_cases c4 : a1 < 0
 ·
  rw [if_pos c4] at H
  have c4b0 : decide (a1 < 0) = true := decide_eq_true c4
  clear c4
  replace H := ob H
  obtain ⟨⟨t104, t105, t106, t107⟩, A50, H⟩ := H
  replace H : (some ((⟨#[]⟩ : ByteArray), t104, t105, t106, t107)) = some (r1, r2, r3, r4, r5) := H
  have A5 := Am A50
  clear A50
  simp only [Option.some.injEq, Prod.mk.injEq] at H
  obtain ⟨rfl, rfl, rfl, rfl, rfl⟩ := H
  go_enter Try.func54, Try.ntmps54
  go_wp2_with (first | (go_at_call 53; (with_reducible refine (wire_Reader_fail.calls g s0_0 s0_1 s0_2 s0_3 1 a2 t104 t105 t106 t107 w0 _ ?side1 ?side2 A5.out).mono ?_); (case side1 => repeat (first | (with_reducible first | exact HI0.out | apply IsS58.alloc | apply IsS58.drewN | apply IsS58.drew | apply IsS58.set_0 | apply IsS58.set_1 | apply IsS58.set_2 | apply IsS58.set_3) | exact HI0.out)); (case side2 => repeat (first | (with_reducible first | exact HB.out | apply bl | apply pN | apply b1 | refine bs ?_ (IsS58.ge HI0.out)) | exact HB.out | exact HBo.out)); rintro e w6 ⟨rfl, hi, hb, hk⟩; have n0_ := Am (KeepBut.trans (by repeat (first | (with_reducible first | exact HK.out | apply KeepBut.set_ | apply keep_drewN | apply keep_drew | apply keep_alloc) | exact HK.out)) hk (.inl rfl)); have n1_ := Am (hb); have n2_ := Am (hi); clear HK; clear HB; clear HI0; have HK := n0_; have HB := n1_; have HI0 := n2_; clear n0_ n1_ n2_; (try clear hb); (try clear hb2); (try clear hk); (try clear hi)))
  repeat (go_quiet (first | (go_at_call 53; (with_reducible refine (wire_Reader_fail.calls g s0_0 s0_1 s0_2 s0_3 1 a2 t104 t105 t106 t107 w0 _ ?side1 ?side2 A5.out).mono ?_); (case side1 => repeat (first | (with_reducible first | exact HI0.out | apply IsS58.alloc | apply IsS58.drewN | apply IsS58.drew | apply IsS58.set_0 | apply IsS58.set_1 | apply IsS58.set_2 | apply IsS58.set_3) | exact HI0.out)); (case side2 => repeat (first | (with_reducible first | exact HB.out | apply bl | apply pN | apply b1 | refine bs ?_ (IsS58.ge HI0.out)) | exact HB.out | exact HBo.out)); rintro e w6 ⟨rfl, hi, hb, hk⟩; have n0_ := Am (KeepBut.trans (by repeat (first | (with_reducible first | exact HK.out | apply KeepBut.set_ | apply keep_drewN | apply keep_drew | apply keep_alloc) | exact HK.out)) hk (.inl rfl)); have n1_ := Am (hb); have n2_ := Am (hi); clear HK; clear HB; clear HI0; have HK := n0_; have HB := n1_; have HI0 := n2_; clear n0_ n1_ n2_; (try clear hb); (try clear hb2); (try clear hk); (try clear hi))); try go_wp2_with (first | (go_at_call 53; (with_reducible refine (wire_Reader_fail.calls g s0_0 s0_1 s0_2 s0_3 1 a2 t104 t105 t106 t107 w0 _ ?side1 ?side2 A5.out).mono ?_); (case side1 => repeat (first | (with_reducible first | exact HI0.out | apply IsS58.alloc | apply IsS58.drewN | apply IsS58.drew | apply IsS58.set_0 | apply IsS58.set_1 | apply IsS58.set_2 | apply IsS58.set_3) | exact HI0.out)); (case side2 => repeat (first | (with_reducible first | exact HB.out | apply bl | apply pN | apply b1 | refine bs ?_ (IsS58.ge HI0.out)) | exact HB.out | exact HBo.out)); rintro e w6 ⟨rfl, hi, hb, hk⟩; have n0_ := Am (KeepBut.trans (by repeat (first | (with_reducible first | exact HK.out | apply KeepBut.set_ | apply keep_drewN | apply keep_drew | apply keep_alloc) | exact HK.out)) hk (.inl rfl)); have n1_ := Am (hb); have n2_ := Am (hi); clear HK; clear HB; clear HI0; have HK := n0_; have HB := n1_; have HI0 := n2_; clear n0_ n1_ n2_; (try clear hb); (try clear hb2); (try clear hk); (try clear hi))))
  go_ret
  exact ⟨by first | rfl | (simp [errW_none, errW_some] <;> rfl) | (simp [*, errW_none, errW_some] <;> rfl) | (simp [Aid.ne_nil, Aid.eq_nil, errW_none, errW_some]; done), by repeat (first | (with_reducible first | exact HI0.out | apply IsS58.alloc | apply IsS58.drewN | apply IsS58.drew | apply IsS58.set_0 | apply IsS58.set_1 | apply IsS58.set_2 | apply IsS58.set_3) | exact HI0.out), by repeat (first | (with_reducible first | exact HB.out | apply bl | apply pN | apply b1 | refine bs ?_ (IsS58.ge HI0.out)) | exact HB.out | exact HBo.out), by repeat (first | (with_reducible first | exact HK.out | apply KeepBut.set_ | apply keep_drewN | apply keep_drew | apply keep_alloc) | exact HK.out)⟩
 ·
  rw [if_neg c4] at H
  have c4b0 : decide (a1 < 0) = false := decide_eq_false c4
  clear c4
  by_cases c7 : a1 > (wrap64 ((s0_0.size : Int) - s0_1))
  ·
   rw [if_pos c7] at H
   have c7b0 : decide ((wrap64 ((s0_0.size : Int) - s0_1)) < a1) = true := decide_eq_true c7
   clear c7
   replace H := ob H
   obtain ⟨⟨t108, t109, t110, t111⟩, A80, H⟩ := H
   replace H : (some ((⟨#[]⟩ : ByteArray), t108, t109, t110, t111)) = some (r1, r2, r3, r4, r5) := H
   have A8 := Am A80
   clear A80
   simp only [Option.some.injEq, Prod.mk.injEq] at H
   obtain ⟨rfl, rfl, rfl, rfl, rfl⟩ := H
   obtain ⟨HGz9, hgz9⟩ := HI0.out
   have hcz9_0 := cellS58_0 HGz9
   have hcz9_1 := cellS58_1 HGz9
   have hcz9_2 := cellS58_2 HGz9
   have hcz9_3 := cellS58_3 HGz9
   have hfz9_0 := bf HGz9 0
   have hfz9_1 := bf HGz9 1
   have hfz9_2 := bf HGz9 2
   have hfz9_3 := bf HGz9 3
   clear HGz9 hgz9
   go_enter Try.func54, Try.ntmps54
   go_wp2_with (first | (go_at_call 53; (with_reducible refine (wire_Reader_fail.calls g s0_0 s0_1 s0_2 s0_3 10 a2 t108 t109 t110 t111 w0 _ ?side1 ?side2 A8.out).mono ?_); (case side1 => repeat (first | (with_reducible first | exact HI0.out | apply IsS58.alloc | apply IsS58.drewN | apply IsS58.drew | apply IsS58.set_0 | apply IsS58.set_1 | apply IsS58.set_2 | apply IsS58.set_3) | exact HI0.out)); (case side2 => repeat (first | (with_reducible first | exact HB.out | apply bl | apply pN | apply b1 | refine bs ?_ (IsS58.ge HI0.out)) | exact HB.out | exact HBo.out)); rintro e w10 ⟨rfl, hi, hb, hk⟩; have n0_ := Am (KeepBut.trans (by repeat (first | (with_reducible first | exact HK.out | apply KeepBut.set_ | apply keep_drewN | apply keep_drew | apply keep_alloc) | exact HK.out)) hk (.inl rfl)); have n1_ := Am (hb); have n2_ := Am (hi); clear HK; clear HB; clear HI0; have HK := n0_; have HB := n1_; have HI0 := n2_; clear n0_ n1_ n2_; (try clear hb); (try clear hb2); (try clear hk); (try clear hi)))
   repeat (go_quiet (first | (go_at_call 53; (with_reducible refine (wire_Reader_fail.calls g s0_0 s0_1 s0_2 s0_3 10 a2 t108 t109 t110 t111 w0 _ ?side1 ?side2 A8.out).mono ?_); (case side1 => repeat (first | (with_reducible first | exact HI0.out | apply IsS58.alloc | apply IsS58.drewN | apply IsS58.drew | apply IsS58.set_0 | apply IsS58.set_1 | apply IsS58.set_2 | apply IsS58.set_3) | exact HI0.out)); (case side2 => repeat (first | (with_reducible first | exact HB.out | apply bl | apply pN | apply b1 | refine bs ?_ (IsS58.ge HI0.out)) | exact HB.out | exact HBo.out)); rintro e w10 ⟨rfl, hi, hb, hk⟩; have n0_ := Am (KeepBut.trans (by repeat (first | (with_reducible first | exact HK.out | apply KeepBut.set_ | apply keep_drewN | apply keep_drew | apply keep_alloc) | exact HK.out)) hk (.inl rfl)); have n1_ := Am (hb); have n2_ := Am (hi); clear HK; clear HB; clear HI0; have HK := n0_; have HB := n1_; have HI0 := n2_; clear n0_ n1_ n2_; (try clear hb); (try clear hb2); (try clear hk); (try clear hi))); try go_wp2_with (first | (go_at_call 53; (with_reducible refine (wire_Reader_fail.calls g s0_0 s0_1 s0_2 s0_3 10 a2 t108 t109 t110 t111 w0 _ ?side1 ?side2 A8.out).mono ?_); (case side1 => repeat (first | (with_reducible first | exact HI0.out | apply IsS58.alloc | apply IsS58.drewN | apply IsS58.drew | apply IsS58.set_0 | apply IsS58.set_1 | apply IsS58.set_2 | apply IsS58.set_3) | exact HI0.out)); (case side2 => repeat (first | (with_reducible first | exact HB.out | apply bl | apply pN | apply b1 | refine bs ?_ (IsS58.ge HI0.out)) | exact HB.out | exact HBo.out)); rintro e w10 ⟨rfl, hi, hb, hk⟩; have n0_ := Am (KeepBut.trans (by repeat (first | (with_reducible first | exact HK.out | apply KeepBut.set_ | apply keep_drewN | apply keep_drew | apply keep_alloc) | exact HK.out)) hk (.inl rfl)); have n1_ := Am (hb); have n2_ := Am (hi); clear HK; clear HB; clear HI0; have HK := n0_; have HB := n1_; have HI0 := n2_; clear n0_ n1_ n2_; (try clear hb); (try clear hb2); (try clear hk); (try clear hi))))
   go_ret
   exact ⟨by first | rfl | (simp [errW_none, errW_some] <;> rfl) | (simp [*, errW_none, errW_some] <;> rfl) | (simp [Aid.ne_nil, Aid.eq_nil, errW_none, errW_some]; done), by repeat (first | (with_reducible first | exact HI0.out | apply IsS58.alloc | apply IsS58.drewN | apply IsS58.drew | apply IsS58.set_0 | apply IsS58.set_1 | apply IsS58.set_2 | apply IsS58.set_3) | exact HI0.out), by repeat (first | (with_reducible first | exact HB.out | apply bl | apply pN | apply b1 | refine bs ?_ (IsS58.ge HI0.out)) | exact HB.out | exact HBo.out), by repeat (first | (with_reducible first | exact HK.out | apply KeepBut.set_ | apply keep_drewN | apply keep_drew | apply keep_alloc) | exact HK.out)⟩
  ·
   rw [if_neg c7] at H
   have c7b0 : decide ((wrap64 ((s0_0.size : Int) - s0_1)) < a1) = false := decide_eq_false c7
   clear c7
   by_cases c11 : 0 ≤ s0_1
   ·
    rw [if_pos c11] at H
    have c11b0 := eq_true c11
    have c11b1 : decide (0 ≤ s0_1) = true := decide_eq_true c11
    clear c11
    by_cases c12 : s0_1 ≤ (wrap64 (s0_1 + a1))
    ·
     rw [if_pos c12] at H
     have c12b0 := eq_true c12
     have c12b1 : decide (s0_1 ≤ (wrap64 (s0_1 + a1))) = true := decide_eq_true c12
     by_cases c13 : (wrap64 (s0_1 + a1)) ≤ (s0_0.size : Int)
     ·
      rw [if_pos c13] at H
      have c13b0 := eq_true c13
      have c13b1 : decide ((wrap64 (s0_1 + a1)) ≤ (s0_0.size : Int)) = true := decide_eq_true c13
      simp only [Option.some.injEq, Prod.mk.injEq] at H
      obtain ⟨rfl, rfl, rfl, rfl, rfl⟩ := H
      obtain ⟨HGz14, hgz14⟩ := HI0.out
      have hcz14_0 := cellS58_0 HGz14
      have hcz14_1 := cellS58_1 HGz14
      have hcz14_2 := cellS58_2 HGz14
      have hcz14_3 := cellS58_3 HGz14
      have hfz14_0 := bf HGz14 0
      have hfz14_1 := bf HGz14 1
      have hfz14_2 := bf HGz14 2
      have hfz14_3 := bf HGz14 3
      clear HGz14 hgz14
      go_enter Try.func54, Try.ntmps54
      go_wp2
      repeat (go_quiet (fail); try go_wp2)
      go_ret
      exact ⟨by first | rfl | (simp [errW_none, errW_some] <;> rfl) | (simp [*, errW_none, errW_some] <;> rfl) | (simp [Aid.ne_nil, Aid.eq_nil, errW_none, errW_some]; done), by repeat (first | (with_reducible first | exact HI0.out | apply IsS58.alloc | apply IsS58.drewN | apply IsS58.drew | apply IsS58.set_0 | apply IsS58.set_1 | apply IsS58.set_2 | apply IsS58.set_3) | exact HI0.out), by repeat (first | (with_reducible first | exact HB.out | apply bl | apply pN | apply b1 | refine bs ?_ (IsS58.ge HI0.out)) | exact HB.out | exact HBo.out), by repeat (first | (with_reducible first | exact HK.out | apply KeepBut.set_ | apply keep_drewN | apply keep_drew | apply keep_alloc) | exact HK.out)⟩
     ·
      rw [if_neg c13] at H
      exact absurd H (by simp)
    ·
     rw [if_neg c12] at H
     exact absurd H (by simp)
   ·
    rw [if_neg c11] at H
    exact absurd H (by simp)

/-! ### wire_Reader_Take: function 50 -/
def wire_Reader_Take.f (s0_0 : ByteArray) (s0_1 : Int) (s0_2 : Int) (s0_3 : Int) (a1 : Int) : Option (ByteArray × ByteArray × Int × Int × Int) := (wire_Reader_ok.f s0_0 s0_1 s0_2 s0_3).bind fun bt112 => (if bt112.1 = true then ((wire_Reader_take.f bt112.2.1 bt112.2.2.1 bt112.2.2.2.1 bt112.2.2.2.2 a1 bt112.2.2.1).bind fun bt117 => (some (bt117.1, bt117.2.1, bt117.2.2.1, bt117.2.2.2.1, bt117.2.2.2.2))) else (some ((⟨#[]⟩ : ByteArray), bt112.2.1, bt112.2.2.1, bt112.2.2.2.1, bt112.2.2.2.2)))
set_option maxHeartbeats 8000000 in
set_option maxRecDepth 100000 in
theorem wire_Reader_Take.calls (g : Nat) (s0_0 : ByteArray) (s0_1 : Int) (s0_2 : Int) (s0_3 : Int) (a1 : Int) (r1 : ByteArray) (r2 : ByteArray) (r3 : Int) (r4 : Int) (r5 : Int) (w0 w : World) (hI : IsS58 w0 w g s0_0 s0_1 s0_2 s0_3) (hB : Below w0.heap.size w0 w) (h : wire_Reader_Take.f s0_0 s0_1 s0_2 s0_3 a1 = some (r1, r2, r3, r4, r5)) :
  Calls Try.prog 50 #[.pointer (some ⟨g, 0, none⟩), .int .i64 a1] w fun e w' => e = .returned (.string r1) ∧ IsS58 w0 w' g r2 r3 r4 r5 ∧ Below w0.heap.size w0 w' ∧ KeepBut w w' g none := by
 have HI0 := Am hI
 have HK := Am (KeepBut.refl w g none)
 have HL := Am hB.size
 clear hI
 have HW0 := Am hB.size
 have HB := Am hB
 clear hB
 have H : ((wire_Reader_ok.f s0_0 s0_1 s0_2 s0_3).bind fun bt112 => (if bt112.1 = true then ((wire_Reader_take.f bt112.2.1 bt112.2.2.1 bt112.2.2.2.1 bt112.2.2.2.2 a1 bt112.2.2.1).bind fun bt117 => (some (bt117.1, bt117.2.1, bt117.2.2.1, bt117.2.2.2.1, bt117.2.2.2.2))) else (some ((⟨#[]⟩ : ByteArray), bt112.2.1, bt112.2.2.1, bt112.2.2.2.1, bt112.2.2.2.2)))) = some (r1, r2, r3, r4, r5) := h
 clear h
 replace H := ob H
 obtain ⟨⟨t112, t113, t114, t115, t116⟩, A30, H⟩ := H
 replace H : (if t112 = true then ((wire_Reader_take.f t113 t114 t115 t116 a1 t114).bind fun bt117 => (some (bt117.1, bt117.2.1, bt117.2.2.1, bt117.2.2.2.1, bt117.2.2.2.2))) else (some ((⟨#[]⟩ : ByteArray), t113, t114, t115, t116))) = some (r1, r2, r3, r4, r5) := H
 have A3 := Am A30
 clear A30
 by_cases c4 : t112 = true
 ·
  subst c4
  have H1 : ((wire_Reader_take.f t113 t114 t115 t116 a1 t114).bind fun bt117 => (some (bt117.1, bt117.2.1, bt117.2.2.1, bt117.2.2.2.1, bt117.2.2.2.2))) = some (r1, r2, r3, r4, r5) := by rw [if_pos rfl] at H; exact H
  clear H
  have H := H1
  clear H1
  replace H := ob H
  obtain ⟨⟨t117, t118, t119, t120, t121⟩, A50, H⟩ := H
  replace H : (some (t117, t118, t119, t120, t121)) = some (r1, r2, r3, r4, r5) := H
  have A5 := Am A50
  clear A50
  simp only [Option.some.injEq, Prod.mk.injEq] at H
  obtain ⟨rfl, rfl, rfl, rfl, rfl⟩ := H
  go_enter Try.func50, Try.ntmps50
  go_wp2_with (first | ((with_reducible refine gate_callee (f := 51) rfl ?_); refine goesL_ (some 6) rfl rfl Try.func51 (by kernel_rfl) rfl #[.pointer (some ⟨g, 0, none⟩)] rfl (by (try simp only [List.map_toArray, List.map_cons, List.map_nil]); first | done | rfl | (simp only [List.length_drop, List.length_take]; rfl)) ?_; (with_reducible refine (wire_Reader_ok.calls g s0_0 s0_1 s0_2 s0_3 true t113 t114 t115 t116 w0 _ ?side1 ?side2 A3.out).mono ?_); (case side1 => repeat (first | (with_reducible first | exact HI0.out | apply IsS58.alloc | apply IsS58.drewN | apply IsS58.drew | apply IsS58.set_0 | apply IsS58.set_1 | apply IsS58.set_2 | apply IsS58.set_3) | exact HI0.out)); (case side2 => repeat (first | (with_reducible first | exact HB.out | apply bl | apply pN | apply b1 | refine bs ?_ (IsS58.ge HI0.out)) | exact HB.out | exact HBo.out)); rintro e w6 ⟨rfl, hi, hb, hk⟩; refine ⟨_, rfl, ?_⟩; have n0_ := Am (KeepBut.trans (by repeat (first | (with_reducible first | exact HK.out | apply KeepBut.set_ | apply keep_drewN | apply keep_drew | apply keep_alloc) | exact HK.out)) hk (.inl rfl)); have n1_ := Am (hb); have n2_ := Am (hi); clear HK; clear HB; clear HI0; have HK := n0_; have HB := n1_; have HI0 := n2_; clear n0_ n1_ n2_; (try clear hb); (try clear hb2); (try clear hk); (try clear hi); obtain ⟨HGz7, hgz7⟩ := HI0.out; have hcz7_0 := cellS58_0 HGz7; have hcz7_1 := cellS58_1 HGz7; have hcz7_2 := cellS58_2 HGz7; have hcz7_3 := cellS58_3 HGz7; have hfz7_0 := bf HGz7 0; have hfz7_1 := bf HGz7 1; have hfz7_2 := bf HGz7 2; have hfz7_3 := bf HGz7 3; clear HGz7 hgz7) | ((with_reducible refine gate_callee (f := 54) rfl ?_); refine goesL_ (some 14) rfl rfl Try.func54 (by kernel_rfl) rfl #[.pointer (some ⟨g, 0, none⟩), .int .i64 a1, .int .i64 t114] rfl (by (try simp only [List.map_toArray, List.map_cons, List.map_nil]); first | done | rfl | (simp only [List.length_drop, List.length_take]; rfl)) ?_; (with_reducible refine (wire_Reader_take.calls g t113 t114 t115 t116 a1 t114 t117 t118 t119 t120 t121 w0 _ ?side1 ?side2 A5.out).mono ?_); (case side1 => repeat (first | (with_reducible first | exact HI0.out | apply IsS58.alloc | apply IsS58.drewN | apply IsS58.drew | apply IsS58.set_0 | apply IsS58.set_1 | apply IsS58.set_2 | apply IsS58.set_3) | exact HI0.out)); (case side2 => repeat (first | (with_reducible first | exact HB.out | apply bl | apply pN | apply b1 | refine bs ?_ (IsS58.ge HI0.out)) | exact HB.out | exact HBo.out)); rintro e w8 ⟨rfl, hi, hb, hk⟩; refine ⟨_, rfl, ?_⟩; have n0_ := Am (KeepBut.trans (by repeat (first | (with_reducible first | exact HK.out | apply KeepBut.set_ | apply keep_drewN | apply keep_drew | apply keep_alloc) | exact HK.out)) hk (.inl rfl)); have n1_ := Am (hb); have n2_ := Am (hi); clear HK; clear HB; clear HI0; have HK := n0_; have HB := n1_; have HI0 := n2_; clear n0_ n1_ n2_; (try clear hb); (try clear hb2); (try clear hk); (try clear hi)))
  go_ret
  exact ⟨by first | rfl | (simp [errW_none, errW_some] <;> rfl) | (simp [*, errW_none, errW_some] <;> rfl) | (simp [Aid.ne_nil, Aid.eq_nil, errW_none, errW_some]; done), by repeat (first | (with_reducible first | exact HI0.out | apply IsS58.alloc | apply IsS58.drewN | apply IsS58.drew | apply IsS58.set_0 | apply IsS58.set_1 | apply IsS58.set_2 | apply IsS58.set_3) | exact HI0.out), by repeat (first | (with_reducible first | exact HB.out | apply bl | apply pN | apply b1 | refine bs ?_ (IsS58.ge HI0.out)) | exact HB.out | exact HBo.out), by repeat (first | (with_reducible first | exact HK.out | apply KeepBut.set_ | apply keep_drewN | apply keep_drew | apply keep_alloc) | exact HK.out)⟩
 ·
  replace c4 := Bool.eq_false_iff.mpr c4
  subst c4
  have H1 : (some ((⟨#[]⟩ : ByteArray), t113, t114, t115, t116)) = some (r1, r2, r3, r4, r5) := by rw [if_neg (show ¬ (false = true) by decide)] at H; exact H
  clear H
  have H := H1
  clear H1
  simp only [Option.some.injEq, Prod.mk.injEq] at H
  obtain ⟨rfl, rfl, rfl, rfl, rfl⟩ := H
  go_enter Try.func50, Try.ntmps50
  go_wp2_with (first | ((with_reducible refine gate_callee (f := 51) rfl ?_); refine goesL_ (some 6) rfl rfl Try.func51 (by kernel_rfl) rfl #[.pointer (some ⟨g, 0, none⟩)] rfl (by (try simp only [List.map_toArray, List.map_cons, List.map_nil]); first | done | rfl | (simp only [List.length_drop, List.length_take]; rfl)) ?_; (with_reducible refine (wire_Reader_ok.calls g s0_0 s0_1 s0_2 s0_3 false t113 t114 t115 t116 w0 _ ?side1 ?side2 A3.out).mono ?_); (case side1 => repeat (first | (with_reducible first | exact HI0.out | apply IsS58.alloc | apply IsS58.drewN | apply IsS58.drew | apply IsS58.set_0 | apply IsS58.set_1 | apply IsS58.set_2 | apply IsS58.set_3) | exact HI0.out)); (case side2 => repeat (first | (with_reducible first | exact HB.out | apply bl | apply pN | apply b1 | refine bs ?_ (IsS58.ge HI0.out)) | exact HB.out | exact HBo.out)); rintro e w9 ⟨rfl, hi, hb, hk⟩; refine ⟨_, rfl, ?_⟩; have n0_ := Am (KeepBut.trans (by repeat (first | (with_reducible first | exact HK.out | apply KeepBut.set_ | apply keep_drewN | apply keep_drew | apply keep_alloc) | exact HK.out)) hk (.inl rfl)); have n1_ := Am (hb); have n2_ := Am (hi); clear HK; clear HB; clear HI0; have HK := n0_; have HB := n1_; have HI0 := n2_; clear n0_ n1_ n2_; (try clear hb); (try clear hb2); (try clear hk); (try clear hi)))
  go_ret
  exact ⟨by first | rfl | (simp [errW_none, errW_some] <;> rfl) | (simp [*, errW_none, errW_some] <;> rfl) | (simp [Aid.ne_nil, Aid.eq_nil, errW_none, errW_some]; done), by repeat (first | (with_reducible first | exact HI0.out | apply IsS58.alloc | apply IsS58.drewN | apply IsS58.drew | apply IsS58.set_0 | apply IsS58.set_1 | apply IsS58.set_2 | apply IsS58.set_3) | exact HI0.out), by repeat (first | (with_reducible first | exact HB.out | apply bl | apply pN | apply b1 | refine bs ?_ (IsS58.ge HI0.out)) | exact HB.out | exact HBo.out), by repeat (first | (with_reducible first | exact HK.out | apply KeepBut.set_ | apply keep_drewN | apply keep_drew | apply keep_alloc) | exact HK.out)⟩

/-! ### wire_Reader_Byte: function 40 -/
def wire_Reader_Byte.f (s0_0 : ByteArray) (s0_1 : Int) (s0_2 : Int) (s0_3 : Int) : Option (Int × ByteArray × Int × Int × Int) := (wire_Reader_Take.f s0_0 s0_1 s0_2 s0_3 1).bind fun bt122 => (if bt122.1.toList = ([] : List UInt8) then (some (0, bt122.2.1, bt122.2.2.1, bt122.2.2.2.1, bt122.2.2.2.2)) else (if 0 < (bt122.1.size : Int) then (some (wrap64 (bt bt122.1 0), bt122.2.1, bt122.2.2.1, bt122.2.2.2.1, bt122.2.2.2.2)) else (none)))
set_option maxHeartbeats 8000000 in
set_option maxRecDepth 100000 in
theorem wire_Reader_Byte.calls (g : Nat) (s0_0 : ByteArray) (s0_1 : Int) (s0_2 : Int) (s0_3 : Int) (r1 : Int) (r2 : ByteArray) (r3 : Int) (r4 : Int) (r5 : Int) (w0 w : World) (hI : IsS58 w0 w g s0_0 s0_1 s0_2 s0_3) (hB : Below w0.heap.size w0 w) (h : wire_Reader_Byte.f s0_0 s0_1 s0_2 s0_3 = some (r1, r2, r3, r4, r5)) :
  Calls Try.prog 40 #[.pointer (some ⟨g, 0, none⟩)] w fun e w' => e = .returned (.int .i64 r1) ∧ IsS58 w0 w' g r2 r3 r4 r5 ∧ Below w0.heap.size w0 w' ∧ KeepBut w w' g none := by
 have HI0 := Am hI
 have HK := Am (KeepBut.refl w g none)
 have HL := Am hB.size
 clear hI
 have HW0 := Am hB.size
 have HB := Am hB
 clear hB
 have H : ((wire_Reader_Take.f s0_0 s0_1 s0_2 s0_3 1).bind fun bt122 => (if bt122.1.toList = ([] : List UInt8) then (some (0, bt122.2.1, bt122.2.2.1, bt122.2.2.2.1, bt122.2.2.2.2)) else (if 0 < (bt122.1.size : Int) then (some (wrap64 (bt bt122.1 0), bt122.2.1, bt122.2.2.1, bt122.2.2.2.1, bt122.2.2.2.2)) else (none)))) = some (r1, r2, r3, r4, r5) := h
 clear h
 replace H := ob H
 obtain ⟨⟨t122, t123, t124, t125, t126⟩, A20, H⟩ := H
 replace H : (if t122.toList = ([] : List UInt8) then (some (0, t123, t124, t125, t126)) else (if 0 < (t122.size : Int) then (some (wrap64 (bt t122 0), t123, t124, t125, t126)) else (none))) = some (r1, r2, r3, r4, r5) := H
 have A2 := Am A20
 clear A20
 by_cases c3 : t122.toList = ([] : List UInt8)
 ·
  rw [if_pos c3] at H
  have c3b0 : (t122.toList == ([] : List UInt8)) = true := beq_iff_eq.mpr c3
  try have c3b9 : (t122.toList).isEmpty = true := List.isEmpty_iff.2 c3
  have c3b1 : (t122.toList != ([] : List UInt8)) = false := bne_eq_false_iff_eq.mpr c3
  clear c3
  simp only [Option.some.injEq, Prod.mk.injEq] at H
  obtain ⟨rfl, rfl, rfl, rfl, rfl⟩ := H
  go_enter Try.func40, Try.ntmps40
  go_wp2_with (first | ((with_reducible refine gate_callee (f := 50) rfl ?_); refine goesL_ (some 5) rfl rfl Try.func50 (by kernel_rfl) rfl #[.pointer (some ⟨g, 0, none⟩), .int .i64 1] rfl (by (try simp only [List.map_toArray, List.map_cons, List.map_nil]); first | done | rfl | (simp only [List.length_drop, List.length_take]; rfl)) ?_; (with_reducible refine (wire_Reader_Take.calls g s0_0 s0_1 s0_2 s0_3 1 t122 t123 t124 t125 t126 w0 _ ?side1 ?side2 A2.out).mono ?_); (case side1 => repeat (first | (with_reducible first | exact HI0.out | apply IsS58.alloc | apply IsS58.drewN | apply IsS58.drew | apply IsS58.set_0 | apply IsS58.set_1 | apply IsS58.set_2 | apply IsS58.set_3) | exact HI0.out)); (case side2 => repeat (first | (with_reducible first | exact HB.out | apply bl | apply pN | apply b1 | refine bs ?_ (IsS58.ge HI0.out)) | exact HB.out | exact HBo.out)); rintro e w4 ⟨rfl, hi, hb, hk⟩; refine ⟨_, rfl, ?_⟩; have n0_ := Am (KeepBut.trans (by repeat (first | (with_reducible first | exact HK.out | apply KeepBut.set_ | apply keep_drewN | apply keep_drew | apply keep_alloc) | exact HK.out)) hk (.inl rfl)); have n1_ := Am (hb); have n2_ := Am (hi); clear HK; clear HB; clear HI0; have HK := n0_; have HB := n1_; have HI0 := n2_; clear n0_ n1_ n2_; (try clear hb); (try clear hb2); (try clear hk); (try clear hi)))
  go_ret
  exact ⟨by first | rfl | (simp [errW_none, errW_some] <;> rfl) | (simp [*, errW_none, errW_some] <;> rfl) | (simp [Aid.ne_nil, Aid.eq_nil, errW_none, errW_some]; done), by repeat (first | (with_reducible first | exact HI0.out | apply IsS58.alloc | apply IsS58.drewN | apply IsS58.drew | apply IsS58.set_0 | apply IsS58.set_1 | apply IsS58.set_2 | apply IsS58.set_3) | exact HI0.out), by repeat (first | (with_reducible first | exact HB.out | apply bl | apply pN | apply b1 | refine bs ?_ (IsS58.ge HI0.out)) | exact HB.out | exact HBo.out), by repeat (first | (with_reducible first | exact HK.out | apply KeepBut.set_ | apply keep_drewN | apply keep_drew | apply keep_alloc) | exact HK.out)⟩
 ·
  rw [if_neg c3] at H
  have c3b0 : (t122.toList == ([] : List UInt8)) = false := beq_eq_false_iff_ne.mpr c3
  try have c3b9 : (t122.toList).isEmpty = false := (by rw [List.isEmpty_eq_false_iff]; exact c3)
  have c3b1 : (t122.toList != ([] : List UInt8)) = true := bne_iff_ne.mpr c3
  by_cases c5 : 0 < (t122.size : Int)
  ·
   rw [if_pos c5] at H
   have c5b0 : decide (0 < (t122.size : Int)) = true := decide_eq_true c5
   have c5b1 : decide (0 < t122.size) = true := decide_eq_true (by omega)
   clear c5
   simp only [Option.some.injEq, Prod.mk.injEq] at H
   obtain ⟨rfl, rfl, rfl, rfl, rfl⟩ := H
   go_enter Try.func40, Try.ntmps40
   go_wp2_with (first | ((with_reducible refine gate_callee (f := 50) rfl ?_); refine goesL_ (some 5) rfl rfl Try.func50 (by kernel_rfl) rfl #[.pointer (some ⟨g, 0, none⟩), .int .i64 1] rfl (by (try simp only [List.map_toArray, List.map_cons, List.map_nil]); first | done | rfl | (simp only [List.length_drop, List.length_take]; rfl)) ?_; (with_reducible refine (wire_Reader_Take.calls g s0_0 s0_1 s0_2 s0_3 1 t122 t123 t124 t125 t126 w0 _ ?side1 ?side2 A2.out).mono ?_); (case side1 => repeat (first | (with_reducible first | exact HI0.out | apply IsS58.alloc | apply IsS58.drewN | apply IsS58.drew | apply IsS58.set_0 | apply IsS58.set_1 | apply IsS58.set_2 | apply IsS58.set_3) | exact HI0.out)); (case side2 => repeat (first | (with_reducible first | exact HB.out | apply bl | apply pN | apply b1 | refine bs ?_ (IsS58.ge HI0.out)) | exact HB.out | exact HBo.out)); rintro e w7 ⟨rfl, hi, hb, hk⟩; refine ⟨_, rfl, ?_⟩; have n0_ := Am (KeepBut.trans (by repeat (first | (with_reducible first | exact HK.out | apply KeepBut.set_ | apply keep_drewN | apply keep_drew | apply keep_alloc) | exact HK.out)) hk (.inl rfl)); have n1_ := Am (hb); have n2_ := Am (hi); clear HK; clear HB; clear HI0; have HK := n0_; have HB := n1_; have HI0 := n2_; clear n0_ n1_ n2_; (try clear hb); (try clear hb2); (try clear hk); (try clear hi); have p6 : 0 ≤ (0 : Int) := (by omega); have q6 : 0 < t122.size := (by have : (0 : Int) < (t122.size : Int) := of_decide_eq_true (by first | (with_reducible assumption) | assumption); omega); have hx6 : ∀ h : 0 < t122.size, ((t122[0]'h).toNat : Int) = bt t122 0 := bt_at t122 0; clear p6; have qi6 : (0 < (t122.size : Int)) = True := eq_true (of_decide_eq_true (by first | (with_reducible assumption) | assumption)); replace q6 := eq_true q6))
   go_ret
   exact ⟨by first | rfl | (simp [errW_none, errW_some] <;> rfl) | (simp [*, errW_none, errW_some] <;> rfl) | (simp [Aid.ne_nil, Aid.eq_nil, errW_none, errW_some]; done), by repeat (first | (with_reducible first | exact HI0.out | apply IsS58.alloc | apply IsS58.drewN | apply IsS58.drew | apply IsS58.set_0 | apply IsS58.set_1 | apply IsS58.set_2 | apply IsS58.set_3) | exact HI0.out), by repeat (first | (with_reducible first | exact HB.out | apply bl | apply pN | apply b1 | refine bs ?_ (IsS58.ge HI0.out)) | exact HB.out | exact HBo.out), by repeat (first | (with_reducible first | exact HK.out | apply KeepBut.set_ | apply keep_drewN | apply keep_drew | apply keep_alloc) | exact HK.out)⟩
  ·
   rw [if_neg c5] at H
   exact absurd H (by simp)

end Go.Proofs.Ythechcflnkofgaa.Q
