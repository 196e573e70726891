-- printed by a program of this session (NOTES: hprint); not the kit's print
-- minified3
-- minified2
-- minified
-- halved
import Derived.Test.YtlmmlmmbnfcogaaOg
import Derived.Test.YtlmmlmmbnfcogaaAl
import Derived.Test.YtlmmlmmbnfcogaaQx0
import Derived.Test.YtlmmlmmbnfcogaaQx13
namespace Go.Proofs.Ytlmmlmmbnfcogaa.Q
open Go.RowKit Go.Proofs.YtlmmlmmbnfcogaaW.PrintWords Go.Proofs.YtlmmlmmbnfcogaaW.PrintLast Go.Proofs.YtlmmlmmbnfcogaaW.PrintMore
attribute [local go_sem] max2_int min2_int max_two min_two max_three min_three max_four min_four   -- for this text's walks alone
set_option linter.unusedVariables false
set_option linter.unusedSimpArgs false

/-- A state of type 53 at block g of W; what its slices lead to came in by w0. -/
def IsS53 (w0 W : World) (g : Nat) (f0 : ByteArray) (f1 : Int) (f2 : Int) (f3 : Int) : Prop := W.heap[g]? = some (.cells #[.string f0, .int .i64 f1, .int .i64 f2, .int .i64 f3] 53 (0, 0)) ∧ w0.heap.size ≤ g
theorem IsS53.grown {w0 W : World} {g : Nat} {f0 : ByteArray} {f1 : Int} {f2 : Int} {f3 : Int} {W1 : World} {row : Option Nat} (h : IsS53 w0 W g f0 f1 f2 f3) (hw : W.grownBy W1 row) (hne : some g ≠ row) : IsS53 w0 W1 g f0 f1 f2 f3 := by
 obtain ⟨hb, hg⟩ := h
 exact ⟨blk_grown hb hw hne, hg⟩
theorem IsS53.own_neN {w0 W : World} {g : Nat} {f0 : ByteArray} {f1 : Int} {f2 : Int} {f3 : Int} {α : Type} {d : Kd α} {e : Nat} {base : Nat} {ok : Nat → Prop} {v : Value} {xs : List α} (h : IsS53 w0 W g f0 f1 f2 f3) (ho : Kd.N d e W base ok v xs) (ht : e ≠ 53) : some g ≠ v.ownBlock := by
 obtain ⟨hb, hg⟩ := h
 exact Kd.N_ne ho hb ht
theorem IsS53.fresh {w0 W : World} {g : Nat} {f0 : ByteArray} {f1 : Int} {f2 : Int} {f3 : Int} (h : IsS53 w0 W g f0 f1 f2 f3) : ∀ k, W.heap.size ≤ k → k ≠ g := by
 obtain ⟨hb, hg⟩ := h
 exact Kd.freshB hb
theorem IsS53.kept {w0 W : World} {g : Nat} {f0 : ByteArray} {f1 : Int} {f2 : Int} {f3 : Int} {W1 : World} {S : Nat → Prop} (h : IsS53 w0 W g f0 f1 f2 f3) (hk : Kept W W1 S) (hne : ¬ S g) : IsS53 w0 W1 g f0 f1 f2 f3 := by
 obtain ⟨hb, hg⟩ := h
 exact ⟨blk_kept hb hk hne, hg⟩
theorem IsS53.below {w0 W : World} {g : Nat} {f0 : ByteArray} {f1 : Int} {f2 : Int} {f3 : Int} {W1 : World} (h : IsS53 w0 W g f0 f1 f2 f3) (hw : Below W.heap.size W W1) : IsS53 w0 W1 g f0 f1 f2 f3 := h.grown (grown_of_below hw none) (by simp)
theorem IsS53.alloc {w0 W : World} {g : Nat} {f0 : ByteArray} {f1 : Int} {f2 : Int} {f3 : Int} (h : IsS53 w0 W g f0 f1 f2 f3) (o : Obj) : IsS53 w0 (W.alloc o) g f0 f1 f2 f3 := h.below (bl (Below.refl _ _) o)
theorem IsS53.drewN {w0 W : World} {g : Nat} {f0 : ByteArray} {f1 : Int} {f2 : Int} {f3 : Int} (h : IsS53 w0 W g f0 f1 f2 f3) (m : Nat) : IsS53 w0 (W.drewN m) g f0 f1 f2 f3 := h
theorem IsS53.drew {w0 W : World} {g : Nat} {f0 : ByteArray} {f1 : Int} {f2 : Int} {f3 : Int} (h : IsS53 w0 W g f0 f1 f2 f3) : IsS53 w0 W.drew g f0 f1 f2 f3 := h
theorem IsS53.at_ {w0 W : World} {g : Nat} {f0 : ByteArray} {f1 : Int} {f2 : Int} {f3 : Int} {w' : World} {m : Nat} (hq : W.drewN m = w') (h : IsS53 w0 W g f0 f1 f2 f3) : IsS53 w0 w' g f0 f1 f2 f3 := by subst hq; exact IsS53.drewN h m
theorem IsS53.apart {w0 W : World} {g : Nat} {f0 : ByteArray} {f1 : Int} {f2 : Int} {f3 : Int} {α : Type} {d : Kd α} {e : Nat} {base : Nat} {ok : Nat → Prop} {v : Value} {xs : List α} (h : IsS53 w0 W g f0 f1 f2 f3) (ho : d.R e W base ok v xs) (ht : ∀ q, q ∈ e :: d.E → q ≠ 53) : d.R e W base (fun k => ok k ∧ k ≠ g) v xs := by
 obtain ⟨hb, hg⟩ := h
 exact Kd.R_types ho hb ht
theorem IsS53.own_ne {w0 W : World} {g : Nat} {f0 : ByteArray} {f1 : Int} {f2 : Int} {f3 : Int} {α : Type} {d : Kd α} {e : Nat} {base : Nat} {ok : Nat → Prop} {v : Value} {xs : List α} (h : IsS53 w0 W g f0 f1 f2 f3) (ho : d.R e W base ok v xs) (ht : e ≠ 53) : some g ≠ v.ownBlock := by
 obtain ⟨hb, hg⟩ := h
 exact Kd.R_ne ho hb ht
theorem IsS53.apartQ {w0 W : World} {g : Nat} {f0 : ByteArray} {f1 : Int} {f2 : Int} {f3 : Int} {α : Type} {d : Kd α} {e : Nat} {base : Nat} {ok : Nat → Prop} {v : Value} {xs : List α} (h : IsS53 w0 W g f0 f1 f2 f3) (ho : d.Q e W base ok v xs) (ht : ∀ q, q ∈ e :: d.E → q ≠ 53) : d.Q e W base (fun k => ok k ∧ k ≠ g) v xs := by
 obtain ⟨hb, hg⟩ := h
 exact Kd.Q_types ho hb ht
theorem IsS53.own_neQ {w0 W : World} {g : Nat} {f0 : ByteArray} {f1 : Int} {f2 : Int} {f3 : Int} {α : Type} {d : Kd α} {e : Nat} {base : Nat} {ok : Nat → Prop} {v : Value} {xs : List α} (h : IsS53 w0 W g f0 f1 f2 f3) (ho : d.Q e W base ok v xs) (ht : e ≠ 53) : some g ≠ v.ownBlock := by
 obtain ⟨hb, hg⟩ := h
 exact Kd.Q_ne ho hb ht
theorem IsS53.apartS {w0 W : World} {g : Nat} {f0 : ByteArray} {f1 : Int} {f2 : Int} {f3 : Int} {α : Type} {d : Kd α} {e : Nat} {base : Nat} {ok : Nat → Prop} {v : Value} {xs : List α} (h : IsS53 w0 W g f0 f1 f2 f3) (ho : d.S e W base ok v xs) (ht : ∀ q, q ∈ e :: d.E → q ≠ 53) : d.S e W base (fun k => ok k ∧ k ≠ g) v xs := by
 obtain ⟨hb, hg⟩ := h
 exact Kd.S_types ho hb ht
theorem IsS53.own_neS {w0 W : World} {g : Nat} {f0 : ByteArray} {f1 : Int} {f2 : Int} {f3 : Int} {α : Type} {d : Kd α} {e : Nat} {base : Nat} {ok : Nat → Prop} {v : Value} {xs : List α} (h : IsS53 w0 W g f0 f1 f2 f3) (ho : d.S e W base ok v xs) (ht : e ≠ 53) : some g ≠ v.ownBlock := by
 obtain ⟨hb, hg⟩ := h
 exact Kd.S_ne ho hb ht
theorem IsS53.lt {w0 W : World} {g : Nat} {f0 : ByteArray} {f1 : Int} {f2 : Int} {f3 : Int} (h : IsS53 w0 W g f0 f1 f2 f3) : g < W.heap.size := by
 obtain ⟨hb, hg⟩ := h
 exact blk_lt hb
theorem IsS53.ge {w0 W : World} {g : Nat} {f0 : ByteArray} {f1 : Int} {f2 : Int} {f3 : Int} (h : IsS53 w0 W g f0 f1 f2 f3) : w0.heap.size ≤ g := by
 obtain ⟨hb, hg⟩ := h
 exact hg
theorem IsS53.ne_blk {w0 W : World} {g : Nat} {f0 : ByteArray} {f1 : Int} {f2 : Int} {f3 : Int} {a : Nat} {cs : Array Value} {t : TypeId} {fr : Nat × Nat} (h : IsS53 w0 W g f0 f1 f2 f3) (hb2 : W.heap[a]? = some (.cells cs t fr)) (ht : t ≠ 53) : g ≠ a := by
 obtain ⟨hb, hg⟩ := h
 rintro rfl
 rw [hb] at hb2
 injection hb2 with hb2
 injection hb2 with _ ht2
 exact ht ht2.symm
theorem IsS53.far {w0 W : World} {g : Nat} {f0 : ByteArray} {f1 : Int} {f2 : Int} {f3 : Int} {p : Addr} (h : IsS53 w0 W g f0 f1 f2 f3) (hne : g ≠ p.block) (u : Value) : IsS53 w0 (W.setCell p u) g f0 f1 f2 f3 := by
 obtain ⟨hb, hg⟩ := h
 exact ⟨blk_far hb hne u, hg⟩
theorem cellS53_0 {W : World} {g : Nat} {f0 : ByteArray} {f1 : Int} {f2 : Int} {f3 : Int} (h : W.heap[g]? = some (.cells #[.string f0, .int .i64 f1, .int .i64 f2, .int .i64 f3] 53 (0, 0))) : W.cell? ⟨g, 0, none⟩ = some (.string f0) := (bc h 0).trans rfl
theorem IsS53.set_0 {w0 W : World} {g : Nat} {f0 : ByteArray} {f1 : Int} {f2 : Int} {f3 : Int} (h : IsS53 w0 W g f0 f1 f2 f3) (x : ByteArray) : IsS53 w0 (W.setCell ⟨g, 0, none⟩ (.string x)) g x f1 f2 f3 := by
 obtain ⟨hb, hg⟩ := h
 exact ⟨by simpa using blk_set hb 0 (.string x), hg⟩
theorem cellS53_1 {W : World} {g : Nat} {f0 : ByteArray} {f1 : Int} {f2 : Int} {f3 : Int} (h : W.heap[g]? = some (.cells #[.string f0, .int .i64 f1, .int .i64 f2, .int .i64 f3] 53 (0, 0))) : W.cell? ⟨g, 1, none⟩ = some (.int .i64 f1) := (bc h 1).trans rfl
theorem IsS53.set_1 {w0 W : World} {g : Nat} {f0 : ByteArray} {f1 : Int} {f2 : Int} {f3 : Int} (h : IsS53 w0 W g f0 f1 f2 f3) (x : Int) : IsS53 w0 (W.setCell ⟨g, 1, none⟩ (.int .i64 x)) g f0 x f2 f3 := by
 obtain ⟨hb, hg⟩ := h
 exact ⟨by simpa using blk_set hb 1 (.int .i64 x), hg⟩
theorem cellS53_2 {W : World} {g : Nat} {f0 : ByteArray} {f1 : Int} {f2 : Int} {f3 : Int} (h : W.heap[g]? = some (.cells #[.string f0, .int .i64 f1, .int .i64 f2, .int .i64 f3] 53 (0, 0))) : W.cell? ⟨g, 2, none⟩ = some (.int .i64 f2) := (bc h 2).trans rfl
theorem IsS53.set_2 {w0 W : World} {g : Nat} {f0 : ByteArray} {f1 : Int} {f2 : Int} {f3 : Int} (h : IsS53 w0 W g f0 f1 f2 f3) (x : Int) : IsS53 w0 (W.setCell ⟨g, 2, none⟩ (.int .i64 x)) g f0 f1 x f3 := by
 obtain ⟨hb, hg⟩ := h
 exact ⟨by simpa using blk_set hb 2 (.int .i64 x), hg⟩
theorem cellS53_3 {W : World} {g : Nat} {f0 : ByteArray} {f1 : Int} {f2 : Int} {f3 : Int} (h : W.heap[g]? = some (.cells #[.string f0, .int .i64 f1, .int .i64 f2, .int .i64 f3] 53 (0, 0))) : W.cell? ⟨g, 3, none⟩ = some (.int .i64 f3) := (bc h 3).trans rfl
theorem IsS53.set_3 {w0 W : World} {g : Nat} {f0 : ByteArray} {f1 : Int} {f2 : Int} {f3 : Int} (h : IsS53 w0 W g f0 f1 f2 f3) (x : Int) : IsS53 w0 (W.setCell ⟨g, 3, none⟩ (.int .i64 x)) g f0 f1 f2 x := by
 obtain ⟨hb, hg⟩ := h
 exact ⟨by simpa using blk_set hb 3 (.int .i64 x), hg⟩
theorem IsS53.new (w0 W : World) (f0 : ByteArray) (f1 : Int) (f2 : Int) (f3 : Int) (hB : Below w0.heap.size w0 W) : IsS53 w0 (W.alloc (.cells #[.string f0, .int .i64 f1, .int .i64 f2, .int .i64 f3] 53)) W.heap.size f0 f1 f2 f3 := ⟨by simpa using heap_alloc_new W _, hB.size⟩

/-! ### shuttlecockref02_Reader_fail: function 60 -/
def shuttlecockref02_Reader_fail.f (s0_0 : ByteArray) (s0_1 : Int) (s0_2 : Int) (s0_3 : Int) (a1 : Int) (a2 : Int) : Option (ByteArray × Int × Int × Int) := some (s0_0, a2, a1, a2)
set_option maxHeartbeats 8000000 in
set_option maxRecDepth 100000 in
theorem shuttlecockref02_Reader_fail.calls (g : Nat) (s0_0 : ByteArray) (s0_1 : Int) (s0_2 : Int) (s0_3 : Int) (a1 : Int) (a2 : Int) (r1 : ByteArray) (r2 : Int) (r3 : Int) (r4 : Int) (w0 w : World) (hI : IsS53 w0 w g s0_0 s0_1 s0_2 s0_3) (hB : Below w0.heap.size w0 w) (h : shuttlecockref02_Reader_fail.f s0_0 s0_1 s0_2 s0_3 a1 a2 = some (r1, r2, r3, r4)) :
  Calls Try.prog 60 #[.pointer (some ⟨g, 0, none⟩), .int .i64 a1, .int .i64 a2] w fun e w' => e = .returned (.tuple #[]) ∧ IsS53 w0 w' g r1 r2 r3 r4 ∧ Below w0.heap.size w0 w' ∧ KeepBut w w' g none := by
 have HI0 := Am hI
 have HK := Am (KeepBut.refl w g none)
 have HL := Am hB.size
 clear hI
 have HW0 := Am hB.size
 have HB := Am hB
 clear hB
 have H : (some (s0_0, a2, a1, a2)) = some (r1, r2, r3, r4) := h
 clear h
 simp only [Option.some.injEq, Prod.mk.injEq] at H
 obtain ⟨rfl, rfl, rfl, rfl⟩ := H
 obtain ⟨HGz4, hgz4⟩ := HI0.out
 have hcz4_0 := cellS53_0 HGz4
 have hcz4_1 := cellS53_1 HGz4
 have hcz4_2 := cellS53_2 HGz4
 have hcz4_3 := cellS53_3 HGz4
 have hfz4_0 := bf HGz4 0
 have hfz4_1 := bf HGz4 1
 have hfz4_2 := bf HGz4 2
 have hfz4_3 := bf HGz4 3
 clear HGz4 hgz4
 go_enter Try.func60, Try.ntmps60
 go_wp2
 first | go_end0 | ((try simp only [Exit.inBlock, Exit.then]); refine bodyPost_ret (results_none rfl _ _ _) rfl ?_)
 exact ⟨y1, z0, z2, z1⟩

/-! ### shuttlecockref02_Reader_Num: function 46, by hand -/
def shuttlecockref02_Reader_Num.f (k : Nat) (s0_0 : ByteArray) (s0_1 s0_2 s0_3 : Int) : Option (Int × ByteArray × Int × Int × Int) :=
 if s0_2 = 0 then ((shuttlecockref01_Take.f k s0_0 s0_1).bind fun b => if b.2.2 = 0 then some (b.1, s0_0, b.2.1, s0_2, s0_3) else some (0, s0_0, s0_1, b.2.2, s0_1)) else some (0, s0_0, s0_1, s0_2, s0_3)
theorem shuttlecockref02_Reader_Num.mono : ∀ a0 a1 a2 a3 k, LeO (shuttlecockref02_Reader_Num.f k a0 a1 a2 a3) (shuttlecockref02_Reader_Num.f (k + 1) a0 a1 a2 a3) := by
 intro a0 a1 a2 a3 k
 unfold shuttlecockref02_Reader_Num.f
 refine LeO.ite (LeO.bind (shuttlecockref01_Take.mono _ _ _) (fun _ => LeO.refl _)) (LeO.refl _)
/-- A reader at a block, and the world below: hidden from the walk. -/
def RdAt (w0 w : World) (g : Nat) (s : ByteArray) (a e f : Int) (w' : World) : Prop := IsS53 w0 w' g s a e f ∧ Below w0.heap.size w0 w' ∧ KeepBut w w' g none
theorem RdAt.drew {w0 w : World} {g : Nat} {s : ByteArray} {a e f : Int} {w' : World} (h : RdAt w0 w g s a e f w') : RdAt w0 w g s a e f w'.drew := ⟨h.1.drew, below_drew h.2.1, keep_drew h.2.2⟩
theorem RdAt.below {w0 w : World} {g : Nat} {s : ByteArray} {a e f : Int} {w' w1 : World} (h : RdAt w0 w g s a e f w') (hb : Below w'.heap.size w' w1) : RdAt w0 w g s a e f w1 :=
 ⟨h.1.below hb, below_step h.2.1 hb, KeepBut.trans h.2.2 (KeepBut.of_below hb g none) (.inl rfl)⟩
theorem shuttlecockref02_Reader_Num.calls (k : Nat) (g : Nat) (s0_0 : ByteArray) (s0_1 s0_2 s0_3 : Int) (r1 : Int) (r2 : ByteArray) (r3 r4 r5 : Int) (w0 w : World) (hI : IsS53 w0 w g s0_0 s0_1 s0_2 s0_3) (hB : Below w0.heap.size w0 w) (h : shuttlecockref02_Reader_Num.f k s0_0 s0_1 s0_2 s0_3 = some (r1, r2, r3, r4, r5)) :
  Calls Try.prog 46 #[.pointer (some ⟨g, 0, none⟩)] w fun e w' => e = .returned (.int .i64 r1) ∧ IsS53 w0 w' g r2 r3 r4 r5 ∧ Below w0.heap.size w0 w' ∧ KeepBut w w' g none := by
 have hc0 := cellS53_0 hI.1
 have hc1 := cellS53_1 hI.1
 have hc2 := cellS53_2 hI.1
 have HI : RdAt w0 w g s0_0 s0_1 s0_2 s0_3 w := ⟨hI, hB, KeepBut.refl _ _ _⟩
 have HI' := HI.drew
 clear hI hB
 unfold shuttlecockref02_Reader_Num.f at h
 by_cases hz : s0_2 = 0
 ·
  rw [if_pos hz] at h
  have h' := Option.bind_eq_some_iff.1 h
  clear h
  obtain ⟨⟨t1, t2, t3⟩, A0, h⟩ := h'
  simp only at h
  have hz1 : (s0_2 != 0) = false := by rw [hz]; rfl
  have A := Am A0
  clear hz A0
  by_cases he : t3 = 0
  ·
   rw [if_pos he] at h
   simp only [Option.some.injEq, Prod.mk.injEq] at h
   obtain ⟨rfl, rfl, rfl, rfl, rfl⟩ := h
   have he1 : (t3 != 0) = false := by rw [he]; rfl
   clear he
   go_enter Try.func46, Try.ntmps46
   go_wp2_with fail
   go_region_held3 (fun w' => w'.cell? ⟨g, 0, none⟩ = some (.string s0_0) ∧ w'.cell? ⟨g, 1, none⟩ = some (.int .i64 s0_1) ∧ RdAt w0 w g s0_0 s0_1 s0_2 s0_3 w')
    (first | exact ⟨hc0, hc1, HI'⟩ | exact ⟨cellS53_0 HJ.1.1, cellS53_1 HJ.1.1, HJ⟩)
    (first | (go_at_call 59; (with_reducible refine (shuttlecockref01_Take.calls k s0_0 s0_1 t1 t2 t3 _ A.out).mono ?_); rintro e w1 ⟨rfl, hb⟩; have HJ := RdAt.below (by assumption) hb; clear hb))
   have k1 := cellS53_1 HJ.1.1
   have f1 := bf HJ.1.1 1
   go_wp2
   go_ret
   exact ⟨rfl, HJ.1.set_1 _, bs HJ.2.1 HJ.1.ge, KeepBut.set_ HJ.2.2 _ _⟩
  ·
   rw [if_neg he] at h
   simp only [Option.some.injEq, Prod.mk.injEq] at h
   obtain ⟨rfl, rfl, rfl, rfl, rfl⟩ := h
   have he1 : (t3 != 0) = true := bne_iff_ne.2 he
   clear he
   go_enter Try.func46, Try.ntmps46
   go_wp2_with fail
   go_region_held3 (fun w' => w'.cell? ⟨g, 0, none⟩ = some (.string s0_0) ∧ w'.cell? ⟨g, 1, none⟩ = some (.int .i64 s0_1) ∧ RdAt w0 w g s0_0 s0_1 s0_2 s0_3 w')
    (first | exact ⟨hc0, hc1, HI'⟩ | exact ⟨cellS53_0 HJ.1.1, cellS53_1 HJ.1.1, HJ⟩)
    (first | (go_at_call 59; (with_reducible refine (shuttlecockref01_Take.calls k s0_0 s0_1 t1 t2 t3 _ A.out).mono ?_); rintro e w1 ⟨rfl, hb⟩; have HJ := RdAt.below (by assumption) hb; clear hb))
   have k1 := cellS53_1 HJ.1.1
   have J1 := HJ.1
   have J2 := HJ.2.1
   go_wp2_with (go_at_call 60; (with_reducible refine (shuttlecockref02_Reader_fail.calls g s0_0 s0_1 s0_2 s0_3 t3 s0_1 s0_0 s0_1 t3 s0_1 w0 _ J1 J2 rfl).mono ?_); rintro e w2 ⟨rfl, hi, hb, hk⟩)
   go_ret
   exact ⟨rfl, hi, hb, KeepBut.trans HJ.2.2 hk (.inl rfl)⟩
 ·
  rw [if_neg hz] at h
  simp only [Option.some.injEq, Prod.mk.injEq] at h
  obtain ⟨rfl, rfl, rfl, rfl, rfl⟩ := h
  have hz1 : (s0_2 != 0) = true := bne_iff_ne.2 hz
  clear hz
  go_enter Try.func46, Try.ntmps46
  go_wp2
  go_ret
  exact ⟨rfl, HI⟩

/-! ### shuttlecockref07_fresh: function 47 -/
def shuttlecockref07_fresh.f (a0 : Int) (l1 : List Bool) : Option (Bool) := if a0 < 1 then (some false) else (if a0 > (l1.length : Int) then (some false) else (if 0 ≤ (wrap64 (a0 - 1)) then (if (wrap64 (a0 - 1)) < (l1.length : Int) then (some (!(rdOf false l1 (wrap64 (a0 - 1))))) else (none)) else (none)))
set_option maxHeartbeats 8000000 in
set_option maxRecDepth 100000 in
theorem shuttlecockref07_fresh.calls (a0 : Int) (A1 : Option Addr) (c1 : Nat) (l1 : List Bool) (r : Bool) (w : World) (hr1 : Kd.C Kd.bool w A1 l1.length l1) (hc1 : l1.length ≤ c1) (h : shuttlecockref07_fresh.f a0 l1 = some r) :
  Calls Try.prog 47 #[.int .i64 a0, .slice A1 l1.length c1] w fun e w' => e = .returned (.bool r) ∧ Drawn0 w w' := by
 have HR1 := Am hr1
 have HC1 := Am hc1
 clear hr1 hc1
 have H : (if a0 < 1 then (some false) else (if a0 > (l1.length : Int) then (some false) else (if 0 ≤ (wrap64 (a0 - 1)) then (if (wrap64 (a0 - 1)) < (l1.length : Int) then (some (!(rdOf false l1 (wrap64 (a0 - 1))))) else (none)) else (none)))) = some r := h
 clear h
 by_cases c3 : a0 < 1
 ·
  rw [if_pos c3] at H
  have c3b0 : decide (a0 < 1) = true := decide_eq_true c3
  clear c3
  obtain rfl := Option.some.inj H
  go_enter Try.func47, Try.ntmps47
  go_wp2
  go_ret
  exact ⟨by first | rfl | (simp; done) | (simp [*]; done), by repeat (first | exact Drawn0.refl _ | apply Drawn0.step)⟩
 ·
  rw [if_neg c3] at H
  have c3b0 : decide (a0 < 1) = false := decide_eq_false c3
  clear c3
  by_cases c4 : a0 > (l1.length : Int)
  ·
   rw [if_pos c4] at H
   have c4b0 : decide ((l1.length : Int) < a0) = true := decide_eq_true c4
   clear c4
   obtain rfl := Option.some.inj H
   go_enter Try.func47, Try.ntmps47
   go_wp2
   go_ret
   exact ⟨by first | rfl | (simp; done) | (simp [*]; done), by repeat (first | exact Drawn0.refl _ | apply Drawn0.step)⟩
  ·
   rw [if_neg c4] at H
   have c4b0 : decide ((l1.length : Int) < a0) = false := decide_eq_false c4
   clear c4
   obtain ⟨ji5, hji5⟩ : ∃ j_ : Int, (wrap64 (a0 - 1)) = j_ := ⟨_, rfl⟩
   replace H : (if 0 ≤ (ji5) then (if (ji5) < (l1.length : Int) then (some (!(rdOf false l1 (ji5)))) else (none)) else (none)) = some r := by first | (rw [hji5] at H; exact H) | (simp only [hji5] at H ⊢; exact H)
   have hji5w : (IntKind.i64.wrap (a0 - 1)) = ji5 := (i64_w _).trans hji5
   by_cases c6 : 0 ≤ (ji5)
   ·
    rw [if_pos c6] at H
    have c6b0 : decide (0 ≤ (ji5)) = true := decide_eq_true c6
    clear c6
    by_cases c7 : (ji5) < (l1.length : Int)
    ·
     rw [if_pos c7] at H
     have c7b0 : decide ((ji5) < (l1.length : Int)) = true := decide_eq_true c7
     clear c7
     obtain rfl := Option.some.inj H
     have p212 : 0 ≤ ((ji5) : Int) := dz
     have q212 : (ji5) < (l1.length : Int) := dz
     obtain ⟨ad212, e212, hx212_0⟩ := Kd.at_bool HR1.out (ji5) p212 q212
     cases e212
     replace p212 := eq_true p212
     replace q212 := eq_true q212
     go_enter Try.func47, Try.ntmps47
     go_wp2
     go_ret
     exact ⟨by first | rfl | (simp; done) | (simp only [← hji5] <;> (first | rfl | simp)) | (simp [*]; done), by repeat (first | exact Drawn0.refl _ | apply Drawn0.step)⟩
    ·
     rw [if_neg c7] at H
     exact absurd H (by simp)
   ·
    rw [if_neg c6] at H
    exact absurd H (by simp)

/-! ### shuttlecockref02_Reader_Take: function 61 -/
def shuttlecockref02_Reader_Take.f (s0_0 : ByteArray) (s0_1 : Int) (s0_2 : Int) (s0_3 : Int) (a1 : Int) : Option (ByteArray × ByteArray × Int × Int × Int) := if s0_2 = 0 then (if a1 < 0 then ((shuttlecockref02_Reader_fail.f s0_0 s0_1 s0_2 s0_3 1 s0_1).bind fun bt213 => (some ((⟨#[]⟩ : ByteArray), bt213.1, bt213.2.1, bt213.2.2.1, bt213.2.2.2))) else (if a1 > (wrap64 ((s0_0.size : Int) - s0_1)) then ((shuttlecockref02_Reader_fail.f s0_0 s0_1 s0_2 s0_3 10 s0_1).bind fun bt217 => (some ((⟨#[]⟩ : ByteArray), bt217.1, bt217.2.1, bt217.2.2.1, bt217.2.2.2))) else (if 0 ≤ (wrap64 ((wrap64 (s0_1 + a1)) - a1)) then (if (wrap64 ((wrap64 (s0_1 + a1)) - a1)) ≤ (wrap64 (s0_1 + a1)) then (if (wrap64 (s0_1 + a1)) ≤ (s0_0.size : Int) then (some (s0_0.extract ((wrap64 ((wrap64 (s0_1 + a1)) - a1)) : Int).toNat ((wrap64 (s0_1 + a1)) : Int).toNat, s0_0, wrap64 (s0_1 + a1), s0_2, s0_3)) else (none)) else (none)) else (none)))) else (some ((⟨#[]⟩ : ByteArray), s0_0, s0_1, s0_2, s0_3))
set_option maxHeartbeats 8000000 in
set_option maxRecDepth 100000 in
theorem shuttlecockref02_Reader_Take.calls (g : Nat) (s0_0 : ByteArray) (s0_1 : Int) (s0_2 : Int) (s0_3 : Int) (a1 : Int) (r1 : ByteArray) (r2 : ByteArray) (r3 : Int) (r4 : Int) (r5 : Int) (w0 w : World) (hI : IsS53 w0 w g s0_0 s0_1 s0_2 s0_3) (hB : Below w0.heap.size w0 w) (h : shuttlecockref02_Reader_Take.f s0_0 s0_1 s0_2 s0_3 a1 = some (r1, r2, r3, r4, r5)) :
  Calls Try.prog 61 #[.pointer (some ⟨g, 0, none⟩), .int .i64 a1] w fun e w' => e = .returned (.string r1) ∧ IsS53 w0 w' g r2 r3 r4 r5 ∧ Below w0.heap.size w0 w' ∧ KeepBut w w' g none := by
 have HI0 := Am hI
 have HK := Am (KeepBut.refl w g none)
 have HL := Am hB.size
 clear hI
 have HW0 := Am hB.size
 have HB := Am hB
 clear hB
 have H : (if s0_2 = 0 then (if a1 < 0 then ((shuttlecockref02_Reader_fail.f s0_0 s0_1 s0_2 s0_3 1 s0_1).bind fun bt213 => (some ((⟨#[]⟩ : ByteArray), bt213.1, bt213.2.1, bt213.2.2.1, bt213.2.2.2))) else (if a1 > (wrap64 ((s0_0.size : Int) - s0_1)) then ((shuttlecockref02_Reader_fail.f s0_0 s0_1 s0_2 s0_3 10 s0_1).bind fun bt217 => (some ((⟨#[]⟩ : ByteArray), bt217.1, bt217.2.1, bt217.2.2.1, bt217.2.2.2))) else (if 0 ≤ (wrap64 ((wrap64 (s0_1 + a1)) - a1)) then (if (wrap64 ((wrap64 (s0_1 + a1)) - a1)) ≤ (wrap64 (s0_1 + a1)) then (if (wrap64 (s0_1 + a1)) ≤ (s0_0.size : Int) then (some (s0_0.extract ((wrap64 ((wrap64 (s0_1 + a1)) - a1)) : Int).toNat ((wrap64 (s0_1 + a1)) : Int).toNat, s0_0, wrap64 (s0_1 + a1), s0_2, s0_3)) else (none)) else (none)) else (none)))) else (some ((⟨#[]⟩ : ByteArray), s0_0, s0_1, s0_2, s0_3))) = some (r1, r2, r3, r4, r5) := h
 clear h
 by_cases c3 : s0_2 = 0
 ·
  rw [if_pos c3] at H
  have c3b0 : (s0_2 == 0) = true := beq_iff_eq.mpr c3
  have c3b1 : (s0_2 != 0) = false := bne_eq_false_iff_eq.mpr c3
  clear c3
  by_cases c4 : a1 < 0
  ·
   rw [if_pos c4] at H
   have c4b0 : decide (a1 < 0) = true := decide_eq_true c4
   clear c4
   replace H := ob H
   obtain ⟨⟨t213, t214, t215, t216⟩, A50, H⟩ := H
   (try dsimp only at H)
   have A5 := Am A50
   clear A50
   simp only [Option.some.injEq, Prod.mk.injEq] at H
   obtain ⟨rfl, rfl, rfl, rfl, rfl⟩ := H
   obtain ⟨HGz6, hgz6⟩ := HI0.out
   have hcz6_0 := cellS53_0 HGz6
   have hcz6_1 := cellS53_1 HGz6
   have hcz6_2 := cellS53_2 HGz6
   have hcz6_3 := cellS53_3 HGz6
   have hfz6_0 := bf HGz6 0
   have hfz6_1 := bf HGz6 1
   have hfz6_2 := bf HGz6 2
   have hfz6_3 := bf HGz6 3
   clear HGz6 hgz6
   go_enter Try.func61, Try.ntmps61
   go_wp2_with (first | (go_at_call 60; (with_reducible refine (shuttlecockref02_Reader_fail.calls g s0_0 s0_1 s0_2 s0_3 1 s0_1 t213 t214 t215 t216 w0 _ ?side1 ?side2 A5.out).mono ?_); (case side1 => exact z0); (case side2 => exact z2); rintro e w7 ⟨rfl, hi, hb, hk⟩; replace HK := Am (KeepBut.trans (z1) hk (.inl rfl)); replace HB := Am (hb); replace HI0 := Am (hi); (try clear hb); (try clear hb2); (try clear hk); (try clear hi)))
   repeat (go_quiet (first | (go_at_call 60; (with_reducible refine (shuttlecockref02_Reader_fail.calls g s0_0 s0_1 s0_2 s0_3 1 s0_1 t213 t214 t215 t216 w0 _ ?side1 ?side2 A5.out).mono ?_); (case side1 => exact z0); (case side2 => exact z2); rintro e w7 ⟨rfl, hi, hb, hk⟩; replace HK := Am (KeepBut.trans (z1) hk (.inl rfl)); replace HB := Am (hb); replace HI0 := Am (hi); (try clear hb); (try clear hb2); (try clear hk); (try clear hi))); try go_wp2_with (first | (go_at_call 60; (with_reducible refine (shuttlecockref02_Reader_fail.calls g s0_0 s0_1 s0_2 s0_3 1 s0_1 t213 t214 t215 t216 w0 _ ?side1 ?side2 A5.out).mono ?_); (case side1 => exact z0); (case side2 => exact z2); rintro e w7 ⟨rfl, hi, hb, hk⟩; replace HK := Am (KeepBut.trans (z1) hk (.inl rfl)); replace HB := Am (hb); replace HI0 := Am (hi); (try clear hb); (try clear hb2); (try clear hk); (try clear hi))))
   go_ret
   exact ⟨y1, z0, z2, z1⟩
  ·
   rw [if_neg c4] at H
   have c4b0 : decide (a1 < 0) = false := decide_eq_false c4
   clear c4
   by_cases c8 : a1 > (wrap64 ((s0_0.size : Int) - s0_1))
   ·
    rw [if_pos c8] at H
    have c8b0 : decide ((wrap64 ((s0_0.size : Int) - s0_1)) < a1) = true := decide_eq_true c8
    clear c8
    replace H := ob H
    obtain ⟨⟨t217, t218, t219, t220⟩, A90, H⟩ := H
    (try dsimp only at H)
    have A9 := Am A90
    clear A90
    simp only [Option.some.injEq, Prod.mk.injEq] at H
    obtain ⟨rfl, rfl, rfl, rfl, rfl⟩ := H
    obtain ⟨HGz10, hgz10⟩ := HI0.out
    have hcz10_0 := cellS53_0 HGz10
    have hcz10_1 := cellS53_1 HGz10
    have hcz10_2 := cellS53_2 HGz10
    have hcz10_3 := cellS53_3 HGz10
    have hfz10_0 := bf HGz10 0
    have hfz10_1 := bf HGz10 1
    have hfz10_2 := bf HGz10 2
    have hfz10_3 := bf HGz10 3
    clear HGz10 hgz10
    go_enter Try.func61, Try.ntmps61
    go_wp2_with (first | (go_at_call 60; (with_reducible refine (shuttlecockref02_Reader_fail.calls g s0_0 s0_1 s0_2 s0_3 10 s0_1 t217 t218 t219 t220 w0 _ ?side1 ?side2 A9.out).mono ?_); (case side1 => exact z0); (case side2 => exact z2); rintro e w11 ⟨rfl, hi, hb, hk⟩; replace HK := Am (KeepBut.trans (z1) hk (.inl rfl)); replace HB := Am (hb); replace HI0 := Am (hi); (try clear hb); (try clear hb2); (try clear hk); (try clear hi)))
    repeat (go_quiet (first | (go_at_call 60; (with_reducible refine (shuttlecockref02_Reader_fail.calls g s0_0 s0_1 s0_2 s0_3 10 s0_1 t217 t218 t219 t220 w0 _ ?side1 ?side2 A9.out).mono ?_); (case side1 => exact z0); (case side2 => exact z2); rintro e w11 ⟨rfl, hi, hb, hk⟩; replace HK := Am (KeepBut.trans (z1) hk (.inl rfl)); replace HB := Am (hb); replace HI0 := Am (hi); (try clear hb); (try clear hb2); (try clear hk); (try clear hi))); try go_wp2_with (first | (go_at_call 60; (with_reducible refine (shuttlecockref02_Reader_fail.calls g s0_0 s0_1 s0_2 s0_3 10 s0_1 t217 t218 t219 t220 w0 _ ?side1 ?side2 A9.out).mono ?_); (case side1 => exact z0); (case side2 => exact z2); rintro e w11 ⟨rfl, hi, hb, hk⟩; replace HK := Am (KeepBut.trans (z1) hk (.inl rfl)); replace HB := Am (hb); replace HI0 := Am (hi); (try clear hb); (try clear hb2); (try clear hk); (try clear hi))))
    go_ret
    exact ⟨y1, z0, z2, z1⟩
   ·
    rw [if_neg c8] at H
    have c8b0 : decide ((wrap64 ((s0_0.size : Int) - s0_1)) < a1) = false := decide_eq_false c8
    clear c8
    obtain ⟨ji12, hji12⟩ : ∃ j_ : Int, (wrap64 ((wrap64 (s0_1 + a1)) - a1)) = j_ := ⟨_, rfl⟩
    replace H : (if 0 ≤ (ji12) then (if (ji12) ≤ (wrap64 (s0_1 + a1)) then (if (wrap64 (s0_1 + a1)) ≤ (s0_0.size : Int) then (some (s0_0.extract ((ji12) : Int).toNat ((wrap64 (s0_1 + a1)) : Int).toNat, s0_0, wrap64 (s0_1 + a1), s0_2, s0_3)) else (none)) else (none)) else (none)) = some (r1, r2, r3, r4, r5) := by first | (rw [hji12] at H; exact H) | (simp only [hji12] at H ⊢; exact H)
    have hji12w : (IntKind.i64.wrap ((wrap64 (s0_1 + a1)) - a1)) = ji12 := (i64_w _).trans hji12
    by_cases c13 : 0 ≤ (ji12)
    ·
     rw [if_pos c13] at H
     have c13b0 := eq_true c13
     have c13b1 : decide (0 ≤ (ji12)) = true := decide_eq_true c13
     clear c13
     by_cases c14 : (ji12) ≤ (wrap64 (s0_1 + a1))
     ·
      rw [if_pos c14] at H
      have c14b0 := eq_true c14
      have c14b1 : decide ((ji12) ≤ (wrap64 (s0_1 + a1))) = true := decide_eq_true c14
      by_cases c15 : (wrap64 (s0_1 + a1)) ≤ (s0_0.size : Int)
      ·
       rw [if_pos c15] at H
       have c15b0 := eq_true c15
       have c15b1 : decide ((wrap64 (s0_1 + a1)) ≤ (s0_0.size : Int)) = true := decide_eq_true c15
       simp only [Option.some.injEq, Prod.mk.injEq] at H
       obtain ⟨rfl, rfl, rfl, rfl, rfl⟩ := H
       obtain ⟨HGz16, hgz16⟩ := HI0.out
       have hcz16_0 := cellS53_0 HGz16
       have hcz16_1 := cellS53_1 HGz16
       have hcz16_2 := cellS53_2 HGz16
       have hcz16_3 := cellS53_3 HGz16
       have hfz16_0 := bf HGz16 0
       have hfz16_1 := bf HGz16 1
       have hfz16_2 := bf HGz16 2
       have hfz16_3 := bf HGz16 3
       clear HGz16 hgz16
       go_enter Try.func61, Try.ntmps61
       go_wp2
       repeat (go_quiet (fail); try go_wp2)
       go_ret
       exact ⟨by first | rfl | (simp [errW_none, errW_some] <;> rfl) | (simp only [← hji12]; first | rfl | (simp [errW_none, errW_some] <;> rfl)) | (simp [*, errW_none, errW_some] <;> rfl) | (simp [Aid.ne_nil, Aid.eq_nil, errW_none, errW_some]; done), z0, z2, z1⟩
      ·
       rw [if_neg c15] at H
       exact absurd H (by simp)
     ·
      rw [if_neg c14] at H
      exact absurd H (by simp)
    ·
     rw [if_neg c13] at H
     exact absurd H (by simp)
 ·
  rw [if_neg c3] at H
  have c3b0 : (s0_2 == 0) = false := beq_eq_false_iff_ne.mpr c3
  have c3b1 : (s0_2 != 0) = true := bne_iff_ne.mpr c3
  simp only [Option.some.injEq, Prod.mk.injEq] at H
  obtain ⟨rfl, rfl, rfl, rfl, rfl⟩ := H
  obtain ⟨HGz17, hgz17⟩ := HI0.out
  have hcz17_0 := cellS53_0 HGz17
  have hcz17_1 := cellS53_1 HGz17
  have hcz17_2 := cellS53_2 HGz17
  have hcz17_3 := cellS53_3 HGz17
  have hfz17_0 := bf HGz17 0
  have hfz17_1 := bf HGz17 1
  have hfz17_2 := bf HGz17 2
  have hfz17_3 := bf HGz17 3
  clear HGz17 hgz17
  go_enter Try.func61, Try.ntmps61
  go_wp2
  repeat (go_quiet (fail); try go_wp2)
  go_ret
  exact ⟨y1, z0, z2, z1⟩

/-! ### shuttlecockref02_Reader_Text: function 48 -/
def shuttlecockref02_Reader_Text.f (k : Nat) (s0_0 : ByteArray) (s0_1 : Int) (s0_2 : Int) (s0_3 : Int) : Option (ByteArray × ByteArray × Int × Int × Int) := (shuttlecockref02_Reader_Num.f k s0_0 s0_1 s0_2 s0_3).bind fun bt221 => ((shuttlecockref02_Reader_Take.f bt221.2.1 bt221.2.2.1 bt221.2.2.2.1 bt221.2.2.2.2 bt221.1).bind fun bt226 => (if bt226.2.2.2.1 = 0 then (some (bt226.1, bt226.2.1, bt226.2.2.1, bt226.2.2.2.1, bt226.2.2.2.2)) else (if bt226.2.2.2.2 > s0_1 then ((shuttlecockref02_Reader_fail.f bt226.2.1 bt226.2.2.1 bt226.2.2.2.1 bt226.2.2.2.2 bt226.2.2.2.1 s0_1).bind fun bt231 => (some ((⟨#[]⟩ : ByteArray), bt231.1, bt231.2.1, bt231.2.2.1, bt231.2.2.2))) else (some ((⟨#[]⟩ : ByteArray), bt226.2.1, bt226.2.2.1, bt226.2.2.2.1, bt226.2.2.2.2)))))
theorem shuttlecockref02_Reader_Text.mono : ∀ a0 a1 a2 a3 k, LeO (shuttlecockref02_Reader_Text.f k a0 a1 a2 a3) (shuttlecockref02_Reader_Text.f (k + 1) a0 a1 a2 a3) := by
 intro a0 a1 a2 a3 k
 unfold shuttlecockref02_Reader_Text.f
 repeat' first
   | (with_reducible exact shuttlecockref02_Reader_Num.mono _ _ _ _ _)
   | (with_reducible exact LeO.refl _)
   | (with_reducible exact LeO.none _)
   | (with_reducible refine LeO.ite ?_ ?_)
   | (with_reducible refine LeO.bind ?_ (fun _ => ?_))
   | exact LeO.none _
   | refine LeO.ite ?_ ?_
   | refine LeO.bind ?_ (fun _ => ?_)
set_option maxHeartbeats 8000000 in
set_option maxRecDepth 100000 in
theorem shuttlecockref02_Reader_Text.calls (k : Nat) (g : Nat) (s0_0 : ByteArray) (s0_1 : Int) (s0_2 : Int) (s0_3 : Int) (r1 : ByteArray) (r2 : ByteArray) (r3 : Int) (r4 : Int) (r5 : Int) (w0 w : World) (hI : IsS53 w0 w g s0_0 s0_1 s0_2 s0_3) (hB : Below w0.heap.size w0 w) (h : shuttlecockref02_Reader_Text.f k s0_0 s0_1 s0_2 s0_3 = some (r1, r2, r3, r4, r5)) :
  Calls Try.prog 48 #[.pointer (some ⟨g, 0, none⟩)] w fun e w' => e = .returned (.string r1) ∧ IsS53 w0 w' g r2 r3 r4 r5 ∧ Below w0.heap.size w0 w' ∧ KeepBut w w' g none := by
 have HI0 := Am hI
 have HK := Am (KeepBut.refl w g none)
 have HL := Am hB.size
 clear hI
 have HW0 := Am hB.size
 have HB := Am hB
 clear hB
 have H : ((shuttlecockref02_Reader_Num.f k s0_0 s0_1 s0_2 s0_3).bind fun bt221 => ((shuttlecockref02_Reader_Take.f bt221.2.1 bt221.2.2.1 bt221.2.2.2.1 bt221.2.2.2.2 bt221.1).bind fun bt226 => (if bt226.2.2.2.1 = 0 then (some (bt226.1, bt226.2.1, bt226.2.2.1, bt226.2.2.2.1, bt226.2.2.2.2)) else (if bt226.2.2.2.2 > s0_1 then ((shuttlecockref02_Reader_fail.f bt226.2.1 bt226.2.2.1 bt226.2.2.2.1 bt226.2.2.2.2 bt226.2.2.2.1 s0_1).bind fun bt231 => (some ((⟨#[]⟩ : ByteArray), bt231.1, bt231.2.1, bt231.2.2.1, bt231.2.2.2))) else (some ((⟨#[]⟩ : ByteArray), bt226.2.1, bt226.2.2.1, bt226.2.2.2.1, bt226.2.2.2.2)))))) = some (r1, r2, r3, r4, r5) := h
 clear h
 replace H := ob H
 obtain ⟨⟨t221, t222, t223, t224, t225⟩, A20, H⟩ := H
 (try dsimp only at H)
 have A2 := Am A20
 clear A20
 replace H := ob H
 obtain ⟨⟨t226, t227, t228, t229, t230⟩, A30, H⟩ := H
 (try dsimp only at H)
 have A3 := Am A30
 clear A30
 by_cases c4 : t229 = 0
 ·
  rw [if_pos c4] at H
  have c4b0 : (t229 == 0) = true := beq_iff_eq.mpr c4
  have c4b1 : (t229 != 0) = false := bne_eq_false_iff_eq.mpr c4
  clear c4
  simp only [Option.some.injEq, Prod.mk.injEq] at H
  obtain ⟨rfl, rfl, rfl, rfl, rfl⟩ := H
  obtain ⟨HGz5, hgz5⟩ := HI0.out
  have hcz5_0 := cellS53_0 HGz5
  have hcz5_1 := cellS53_1 HGz5
  have hcz5_2 := cellS53_2 HGz5
  have hcz5_3 := cellS53_3 HGz5
  have hfz5_0 := bf HGz5 0
  have hfz5_1 := bf HGz5 1
  have hfz5_2 := bf HGz5 2
  have hfz5_3 := bf HGz5 3
  clear HGz5 hgz5
  go_enter Try.func48, Try.ntmps48
  go_wp2_with (first | ((with_reducible refine gate_callee (f := 46) rfl ?_); refine Own.gL_ (some 11) Try.func46 (#[.pointer (some ⟨g, 0, none⟩)]) (h := ?_); (with_reducible refine (shuttlecockref02_Reader_Num.calls k g s0_0 s0_1 s0_2 s0_3 t221 t222 t223 t224 t225 w0 _ ?side1 ?side2 A2.out).mono ?_); (case side1 => exact z0); (case side2 => exact z2); rintro e w6 ⟨rfl, hi, hb, hk⟩; refine ⟨_, rfl, ?_⟩; replace HK := Am (KeepBut.trans (z1) hk (.inl rfl)); replace HB := Am (hb); replace HI0 := Am (hi); (try clear hb); (try clear hb2); (try clear hk); (try clear hi)) | ((with_reducible refine gate_callee (f := 61) rfl ?_); refine Own.gL_ (some 14) Try.func61 (#[.pointer (some ⟨g, 0, none⟩), .int .i64 t221]) (h := ?_); (with_reducible refine (shuttlecockref02_Reader_Take.calls g t222 t223 t224 t225 t221 t226 t227 t228 t229 t230 w0 _ ?side1 ?side2 A3.out).mono ?_); (case side1 => exact z0); (case side2 => exact z2); rintro e w7 ⟨rfl, hi, hb, hk⟩; refine ⟨_, rfl, ?_⟩; replace HK := Am (KeepBut.trans (z1) hk (.inl rfl)); replace HB := Am (hb); replace HI0 := Am (hi); (try clear hb); (try clear hb2); (try clear hk); (try clear hi); obtain ⟨HGz8, hgz8⟩ := HI0.out; have hcz8_0 := cellS53_0 HGz8; have hcz8_1 := cellS53_1 HGz8; have hcz8_2 := cellS53_2 HGz8; have hcz8_3 := cellS53_3 HGz8; have hfz8_0 := bf HGz8 0; have hfz8_1 := bf HGz8 1; have hfz8_2 := bf HGz8 2; have hfz8_3 := bf HGz8 3; clear HGz8 hgz8))
  go_ret
  exact ⟨y1, z0, z2, z1⟩
 ·
  rw [if_neg c4] at H
  have c4b0 : (t229 == 0) = false := beq_eq_false_iff_ne.mpr c4
  have c4b1 : (t229 != 0) = true := bne_iff_ne.mpr c4
  by_cases c9 : t230 > s0_1
  ·
   rw [if_pos c9] at H
   have c9b0 : decide (s0_1 < t230) = true := decide_eq_true c9
   clear c9
   replace H := ob H
   obtain ⟨⟨t231, t232, t233, t234⟩, A100, H⟩ := H
   (try dsimp only at H)
   have A10 := Am A100
   clear A100
   simp only [Option.some.injEq, Prod.mk.injEq] at H
   obtain ⟨rfl, rfl, rfl, rfl, rfl⟩ := H
   obtain ⟨HGz11, hgz11⟩ := HI0.out
   have hcz11_0 := cellS53_0 HGz11
   have hcz11_1 := cellS53_1 HGz11
   have hcz11_2 := cellS53_2 HGz11
   have hcz11_3 := cellS53_3 HGz11
   have hfz11_0 := bf HGz11 0
   have hfz11_1 := bf HGz11 1
   have hfz11_2 := bf HGz11 2
   have hfz11_3 := bf HGz11 3
   clear HGz11 hgz11
   go_enter Try.func48, Try.ntmps48
   go_wp2_with (first | ((with_reducible refine gate_callee (f := 46) rfl ?_); refine Own.gL_ (some 11) Try.func46 (#[.pointer (some ⟨g, 0, none⟩)]) (h := ?_); (with_reducible refine (shuttlecockref02_Reader_Num.calls k g s0_0 s0_1 s0_2 s0_3 t221 t222 t223 t224 t225 w0 _ ?side1 ?side2 A2.out).mono ?_); (case side1 => exact z0); (case side2 => exact z2); rintro e w12 ⟨rfl, hi, hb, hk⟩; refine ⟨_, rfl, ?_⟩; replace HK := Am (KeepBut.trans (z1) hk (.inl rfl)); replace HB := Am (hb); replace HI0 := Am (hi); (try clear hb); (try clear hb2); (try clear hk); (try clear hi)) | ((with_reducible refine gate_callee (f := 61) rfl ?_); refine Own.gL_ (some 14) Try.func61 (#[.pointer (some ⟨g, 0, none⟩), .int .i64 t221]) (h := ?_); (with_reducible refine (shuttlecockref02_Reader_Take.calls g t222 t223 t224 t225 t221 t226 t227 t228 t229 t230 w0 _ ?side1 ?side2 A3.out).mono ?_); (case side1 => exact z0); (case side2 => exact z2); rintro e w13 ⟨rfl, hi, hb, hk⟩; refine ⟨_, rfl, ?_⟩; replace HK := Am (KeepBut.trans (z1) hk (.inl rfl)); replace HB := Am (hb); replace HI0 := Am (hi); (try clear hb); (try clear hb2); (try clear hk); (try clear hi); obtain ⟨HGz14, hgz14⟩ := HI0.out; have hcz14_0 := cellS53_0 HGz14; have hcz14_1 := cellS53_1 HGz14; have hcz14_2 := cellS53_2 HGz14; have hcz14_3 := cellS53_3 HGz14; have hfz14_0 := bf HGz14 0; have hfz14_1 := bf HGz14 1; have hfz14_2 := bf HGz14 2; have hfz14_3 := bf HGz14 3; clear HGz14 hgz14) | ((with_reducible refine gate_callee (f := 60) rfl ?_); refine Own.gL_ (some 32) Try.func60 (#[.pointer (some ⟨g, 0, none⟩), .int .i64 t229, .int .i64 s0_1]) (h := ?_); (with_reducible refine (shuttlecockref02_Reader_fail.calls g t227 t228 t229 t230 t229 s0_1 t231 t232 t233 t234 w0 _ ?side1 ?side2 A10.out).mono ?_); (case side1 => exact z0); (case side2 => exact z2); rintro e w15 ⟨rfl, hi, hb, hk⟩; refine ⟨_, rfl, ?_⟩; replace HK := Am (KeepBut.trans (z1) hk (.inl rfl)); replace HB := Am (hb); replace HI0 := Am (hi); (try clear hb); (try clear hb2); (try clear hk); (try clear hi)))
   go_ret
   exact ⟨y1, z0, z2, z1⟩
  ·
   rw [if_neg c9] at H
   have c9b0 : decide (s0_1 < t230) = false := decide_eq_false c9
   clear c9
   simp only [Option.some.injEq, Prod.mk.injEq] at H
   obtain ⟨rfl, rfl, rfl, rfl, rfl⟩ := H
   obtain ⟨HGz16, hgz16⟩ := HI0.out
   have hcz16_0 := cellS53_0 HGz16
   have hcz16_1 := cellS53_1 HGz16
   have hcz16_2 := cellS53_2 HGz16
   have hcz16_3 := cellS53_3 HGz16
   have hfz16_0 := bf HGz16 0
   have hfz16_1 := bf HGz16 1
   have hfz16_2 := bf HGz16 2
   have hfz16_3 := bf HGz16 3
   clear HGz16 hgz16
   go_enter Try.func48, Try.ntmps48
   go_wp2_with (first | ((with_reducible refine gate_callee (f := 46) rfl ?_); refine Own.gL_ (some 11) Try.func46 (#[.pointer (some ⟨g, 0, none⟩)]) (h := ?_); (with_reducible refine (shuttlecockref02_Reader_Num.calls k g s0_0 s0_1 s0_2 s0_3 t221 t222 t223 t224 t225 w0 _ ?side1 ?side2 A2.out).mono ?_); (case side1 => exact z0); (case side2 => exact z2); rintro e w17 ⟨rfl, hi, hb, hk⟩; refine ⟨_, rfl, ?_⟩; replace HK := Am (KeepBut.trans (z1) hk (.inl rfl)); replace HB := Am (hb); replace HI0 := Am (hi); (try clear hb); (try clear hb2); (try clear hk); (try clear hi)) | ((with_reducible refine gate_callee (f := 61) rfl ?_); refine Own.gL_ (some 14) Try.func61 (#[.pointer (some ⟨g, 0, none⟩), .int .i64 t221]) (h := ?_); (with_reducible refine (shuttlecockref02_Reader_Take.calls g t222 t223 t224 t225 t221 t226 t227 t228 t229 t230 w0 _ ?side1 ?side2 A3.out).mono ?_); (case side1 => exact z0); (case side2 => exact z2); rintro e w18 ⟨rfl, hi, hb, hk⟩; refine ⟨_, rfl, ?_⟩; replace HK := Am (KeepBut.trans (z1) hk (.inl rfl)); replace HB := Am (hb); replace HI0 := Am (hi); (try clear hb); (try clear hb2); (try clear hk); (try clear hi); obtain ⟨HGz19, hgz19⟩ := HI0.out; have hcz19_0 := cellS53_0 HGz19; have hcz19_1 := cellS53_1 HGz19; have hcz19_2 := cellS53_2 HGz19; have hcz19_3 := cellS53_3 HGz19; have hfz19_0 := bf HGz19 0; have hfz19_1 := bf HGz19 1; have hfz19_2 := bf HGz19 2; have hfz19_3 := bf HGz19 3; clear HGz19 hgz19))
   go_ret
   exact ⟨y1, z0, z2, z1⟩

end Go.Proofs.Ytlmmlmmbnfcogaa.Q
