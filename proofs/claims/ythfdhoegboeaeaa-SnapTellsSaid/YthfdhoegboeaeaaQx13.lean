-- printed by a program of this session (NOTES: hprint); not the kit's print
-- minified
-- halved
import Derived.Test.YthfdhoegboeaeaaAl
import Derived.Test.YthfdhoegboeaeaaQx0
import Derived.Test.YthfdhoegboeaeaaQx10
import Derived.Test.YthfdhoegboeaeaaQx12
namespace Go.Proofs.Ythfdhoegboeaeaa.Q
open Go.RowKit Go.Proofs.YthfdhoegboeaeaaW.PrintWords Go.Proofs.YthfdhoegboeaeaaW.PrintLast Go.Proofs.YthfdhoegboeaeaaW.PrintMore
attribute [local go_sem] max2_int min2_int max_two min_two max_three min_three max_four min_four   -- for this text's walks alone
set_option linter.unusedVariables false
set_option linter.unusedSimpArgs false

/-- A state of type 51 at block g of W; what its slices lead to came in by w0. -/
def IsS51 (w0 W : World) (g : Nat) (f0 : ByteArray) (f1 : Int) (f2 : Int) (f3 : Int) : Prop := W.heap[g]? = some (.cells #[.string f0, .int .i64 f1, .int .i64 f2, .int .i64 f3] 51 (0, 0)) ∧ w0.heap.size ≤ g
theorem IsS51.grown {w0 W : World} {g : Nat} {f0 : ByteArray} {f1 : Int} {f2 : Int} {f3 : Int} {W1 : World} {row : Option Nat} (h : IsS51 w0 W g f0 f1 f2 f3) (hw : W.grownBy W1 row) (hne : some g ≠ row) : IsS51 w0 W1 g f0 f1 f2 f3 := by
 obtain ⟨hb, hg⟩ := h
 exact ⟨blk_grown hb hw hne, hg⟩
theorem IsS51.own_neN {w0 W : World} {g : Nat} {f0 : ByteArray} {f1 : Int} {f2 : Int} {f3 : Int} {α : Type} {d : Kd α} {e : Nat} {base : Nat} {ok : Nat → Prop} {v : Value} {xs : List α} (h : IsS51 w0 W g f0 f1 f2 f3) (ho : Kd.N d e W base ok v xs) (ht : e ≠ 51) : some g ≠ v.ownBlock := by
 obtain ⟨hb, hg⟩ := h
 exact Kd.N_ne ho hb ht
theorem IsS51.fresh {w0 W : World} {g : Nat} {f0 : ByteArray} {f1 : Int} {f2 : Int} {f3 : Int} (h : IsS51 w0 W g f0 f1 f2 f3) : ∀ k, W.heap.size ≤ k → k ≠ g := by
 obtain ⟨hb, hg⟩ := h
 exact Kd.freshB hb
theorem IsS51.kept {w0 W : World} {g : Nat} {f0 : ByteArray} {f1 : Int} {f2 : Int} {f3 : Int} {W1 : World} {S : Nat → Prop} (h : IsS51 w0 W g f0 f1 f2 f3) (hk : Kept W W1 S) (hne : ¬ S g) : IsS51 w0 W1 g f0 f1 f2 f3 := by
 obtain ⟨hb, hg⟩ := h
 exact ⟨blk_kept hb hk hne, hg⟩
theorem IsS51.below {w0 W : World} {g : Nat} {f0 : ByteArray} {f1 : Int} {f2 : Int} {f3 : Int} {W1 : World} (h : IsS51 w0 W g f0 f1 f2 f3) (hw : Below W.heap.size W W1) : IsS51 w0 W1 g f0 f1 f2 f3 := h.grown (grown_of_below hw none) (by simp)
theorem IsS51.alloc {w0 W : World} {g : Nat} {f0 : ByteArray} {f1 : Int} {f2 : Int} {f3 : Int} (h : IsS51 w0 W g f0 f1 f2 f3) (o : Obj) : IsS51 w0 (W.alloc o) g f0 f1 f2 f3 := h.below (bl (Below.refl _ _) o)
theorem IsS51.drewN {w0 W : World} {g : Nat} {f0 : ByteArray} {f1 : Int} {f2 : Int} {f3 : Int} (h : IsS51 w0 W g f0 f1 f2 f3) (m : Nat) : IsS51 w0 (W.drewN m) g f0 f1 f2 f3 := h
theorem IsS51.drew {w0 W : World} {g : Nat} {f0 : ByteArray} {f1 : Int} {f2 : Int} {f3 : Int} (h : IsS51 w0 W g f0 f1 f2 f3) : IsS51 w0 W.drew g f0 f1 f2 f3 := h
theorem IsS51.at_ {w0 W : World} {g : Nat} {f0 : ByteArray} {f1 : Int} {f2 : Int} {f3 : Int} {w' : World} {m : Nat} (hq : W.drewN m = w') (h : IsS51 w0 W g f0 f1 f2 f3) : IsS51 w0 w' g f0 f1 f2 f3 := by subst hq; exact IsS51.drewN h m
theorem IsS51.apart {w0 W : World} {g : Nat} {f0 : ByteArray} {f1 : Int} {f2 : Int} {f3 : Int} {α : Type} {d : Kd α} {e : Nat} {base : Nat} {ok : Nat → Prop} {v : Value} {xs : List α} (h : IsS51 w0 W g f0 f1 f2 f3) (ho : d.R e W base ok v xs) (ht : ∀ q, q ∈ e :: d.E → q ≠ 51) : d.R e W base (fun k => ok k ∧ k ≠ g) v xs := by
 obtain ⟨hb, hg⟩ := h
 exact Kd.R_types ho hb ht
theorem IsS51.own_ne {w0 W : World} {g : Nat} {f0 : ByteArray} {f1 : Int} {f2 : Int} {f3 : Int} {α : Type} {d : Kd α} {e : Nat} {base : Nat} {ok : Nat → Prop} {v : Value} {xs : List α} (h : IsS51 w0 W g f0 f1 f2 f3) (ho : d.R e W base ok v xs) (ht : e ≠ 51) : some g ≠ v.ownBlock := by
 obtain ⟨hb, hg⟩ := h
 exact Kd.R_ne ho hb ht
theorem IsS51.apartQ {w0 W : World} {g : Nat} {f0 : ByteArray} {f1 : Int} {f2 : Int} {f3 : Int} {α : Type} {d : Kd α} {e : Nat} {base : Nat} {ok : Nat → Prop} {v : Value} {xs : List α} (h : IsS51 w0 W g f0 f1 f2 f3) (ho : d.Q e W base ok v xs) (ht : ∀ q, q ∈ e :: d.E → q ≠ 51) : d.Q e W base (fun k => ok k ∧ k ≠ g) v xs := by
 obtain ⟨hb, hg⟩ := h
 exact Kd.Q_types ho hb ht
theorem IsS51.own_neQ {w0 W : World} {g : Nat} {f0 : ByteArray} {f1 : Int} {f2 : Int} {f3 : Int} {α : Type} {d : Kd α} {e : Nat} {base : Nat} {ok : Nat → Prop} {v : Value} {xs : List α} (h : IsS51 w0 W g f0 f1 f2 f3) (ho : d.Q e W base ok v xs) (ht : e ≠ 51) : some g ≠ v.ownBlock := by
 obtain ⟨hb, hg⟩ := h
 exact Kd.Q_ne ho hb ht
theorem IsS51.apartS {w0 W : World} {g : Nat} {f0 : ByteArray} {f1 : Int} {f2 : Int} {f3 : Int} {α : Type} {d : Kd α} {e : Nat} {base : Nat} {ok : Nat → Prop} {v : Value} {xs : List α} (h : IsS51 w0 W g f0 f1 f2 f3) (ho : d.S e W base ok v xs) (ht : ∀ q, q ∈ e :: d.E → q ≠ 51) : d.S e W base (fun k => ok k ∧ k ≠ g) v xs := by
 obtain ⟨hb, hg⟩ := h
 exact Kd.S_types ho hb ht
theorem IsS51.own_neS {w0 W : World} {g : Nat} {f0 : ByteArray} {f1 : Int} {f2 : Int} {f3 : Int} {α : Type} {d : Kd α} {e : Nat} {base : Nat} {ok : Nat → Prop} {v : Value} {xs : List α} (h : IsS51 w0 W g f0 f1 f2 f3) (ho : d.S e W base ok v xs) (ht : e ≠ 51) : some g ≠ v.ownBlock := by
 obtain ⟨hb, hg⟩ := h
 exact Kd.S_ne ho hb ht
theorem IsS51.lt {w0 W : World} {g : Nat} {f0 : ByteArray} {f1 : Int} {f2 : Int} {f3 : Int} (h : IsS51 w0 W g f0 f1 f2 f3) : g < W.heap.size := by
 obtain ⟨hb, hg⟩ := h
 exact blk_lt hb
theorem IsS51.ge {w0 W : World} {g : Nat} {f0 : ByteArray} {f1 : Int} {f2 : Int} {f3 : Int} (h : IsS51 w0 W g f0 f1 f2 f3) : w0.heap.size ≤ g := by
 obtain ⟨hb, hg⟩ := h
 exact hg
theorem IsS51.ne_blk {w0 W : World} {g : Nat} {f0 : ByteArray} {f1 : Int} {f2 : Int} {f3 : Int} {a : Nat} {cs : Array Value} {t : TypeId} {fr : Nat × Nat} (h : IsS51 w0 W g f0 f1 f2 f3) (hb2 : W.heap[a]? = some (.cells cs t fr)) (ht : t ≠ 51) : g ≠ a := by
 obtain ⟨hb, hg⟩ := h
 rintro rfl
 rw [hb] at hb2
 injection hb2 with hb2
 injection hb2 with _ ht2
 exact ht ht2.symm
theorem IsS51.far {w0 W : World} {g : Nat} {f0 : ByteArray} {f1 : Int} {f2 : Int} {f3 : Int} {p : Addr} (h : IsS51 w0 W g f0 f1 f2 f3) (hne : g ≠ p.block) (u : Value) : IsS51 w0 (W.setCell p u) g f0 f1 f2 f3 := by
 obtain ⟨hb, hg⟩ := h
 exact ⟨blk_far hb hne u, hg⟩
theorem cellS51_0 {W : World} {g : Nat} {f0 : ByteArray} {f1 : Int} {f2 : Int} {f3 : Int} (h : W.heap[g]? = some (.cells #[.string f0, .int .i64 f1, .int .i64 f2, .int .i64 f3] 51 (0, 0))) : W.cell? ⟨g, 0, none⟩ = some (.string f0) := (bc h 0).trans rfl
theorem IsS51.set_0 {w0 W : World} {g : Nat} {f0 : ByteArray} {f1 : Int} {f2 : Int} {f3 : Int} (h : IsS51 w0 W g f0 f1 f2 f3) (x : ByteArray) : IsS51 w0 (W.setCell ⟨g, 0, none⟩ (.string x)) g x f1 f2 f3 := by
 obtain ⟨hb, hg⟩ := h
 exact ⟨by simpa using blk_set hb 0 (.string x), hg⟩
theorem cellS51_1 {W : World} {g : Nat} {f0 : ByteArray} {f1 : Int} {f2 : Int} {f3 : Int} (h : W.heap[g]? = some (.cells #[.string f0, .int .i64 f1, .int .i64 f2, .int .i64 f3] 51 (0, 0))) : W.cell? ⟨g, 1, none⟩ = some (.int .i64 f1) := (bc h 1).trans rfl
theorem IsS51.set_1 {w0 W : World} {g : Nat} {f0 : ByteArray} {f1 : Int} {f2 : Int} {f3 : Int} (h : IsS51 w0 W g f0 f1 f2 f3) (x : Int) : IsS51 w0 (W.setCell ⟨g, 1, none⟩ (.int .i64 x)) g f0 x f2 f3 := by
 obtain ⟨hb, hg⟩ := h
 exact ⟨by simpa using blk_set hb 1 (.int .i64 x), hg⟩
theorem cellS51_2 {W : World} {g : Nat} {f0 : ByteArray} {f1 : Int} {f2 : Int} {f3 : Int} (h : W.heap[g]? = some (.cells #[.string f0, .int .i64 f1, .int .i64 f2, .int .i64 f3] 51 (0, 0))) : W.cell? ⟨g, 2, none⟩ = some (.int .i64 f2) := (bc h 2).trans rfl
theorem IsS51.set_2 {w0 W : World} {g : Nat} {f0 : ByteArray} {f1 : Int} {f2 : Int} {f3 : Int} (h : IsS51 w0 W g f0 f1 f2 f3) (x : Int) : IsS51 w0 (W.setCell ⟨g, 2, none⟩ (.int .i64 x)) g f0 f1 x f3 := by
 obtain ⟨hb, hg⟩ := h
 exact ⟨by simpa using blk_set hb 2 (.int .i64 x), hg⟩
theorem cellS51_3 {W : World} {g : Nat} {f0 : ByteArray} {f1 : Int} {f2 : Int} {f3 : Int} (h : W.heap[g]? = some (.cells #[.string f0, .int .i64 f1, .int .i64 f2, .int .i64 f3] 51 (0, 0))) : W.cell? ⟨g, 3, none⟩ = some (.int .i64 f3) := (bc h 3).trans rfl
theorem IsS51.set_3 {w0 W : World} {g : Nat} {f0 : ByteArray} {f1 : Int} {f2 : Int} {f3 : Int} (h : IsS51 w0 W g f0 f1 f2 f3) (x : Int) : IsS51 w0 (W.setCell ⟨g, 3, none⟩ (.int .i64 x)) g f0 f1 f2 x := by
 obtain ⟨hb, hg⟩ := h
 exact ⟨by simpa using blk_set hb 3 (.int .i64 x), hg⟩
theorem IsS51.new (w0 W : World) (f0 : ByteArray) (f1 : Int) (f2 : Int) (f3 : Int) (hB : Below w0.heap.size w0 W) : IsS51 w0 (W.alloc (.cells #[.string f0, .int .i64 f1, .int .i64 f2, .int .i64 f3] 51)) W.heap.size f0 f1 f2 f3 := ⟨by simpa using heap_alloc_new W _, hB.size⟩

def q13_0 : Array Bool := let o := true; let z := false; #[z,z,z,z,z,z,z]
def q13_1 : Array Bool := let o := true; let z := false; #[o,z,z,z,z,z,z]
def q13_2 : Array Bool := let o := true; let z := false; #[o,o,z,z,z,z,z]
def q13_3 : Array Bool := let o := true; let z := false; #[o,o,o,z,z,z,z]
def q13_4 : Array Bool := let o := true; let z := false; #[o,o,o,o,z,z,z]
def q13_5 : Array Bool := let o := true; let z := false; #[o,o,o,o,o,z,z]
def q13_6 : Array Bool := let o := true; let z := false; #[o,o,o,o,o,o,z]
def q13_7 : Array Bool := let o := true; let z := false; #[o,o,o,o,o,o,o]
/-! ### shuttlecockref02_Reader_fail: function 36 -/
def shuttlecockref02_Reader_fail.f (s0_0 : ByteArray) (s0_1 : Int) (s0_2 : Int) (s0_3 : Int) (a1 : Int) (a2 : Int) : Option (ByteArray × Int × Int × Int) := some (s0_0, a2, a1, a2)
set_option maxHeartbeats 8000000 in
set_option maxRecDepth 100000 in
theorem shuttlecockref02_Reader_fail.calls (g : Nat) (s0_0 : ByteArray) (s0_1 : Int) (s0_2 : Int) (s0_3 : Int) (a1 : Int) (a2 : Int) (r1 : ByteArray) (r2 : Int) (r3 : Int) (r4 : Int) (w0 w : World) (hI : IsS51 w0 w g s0_0 s0_1 s0_2 s0_3) (hB : Below w0.heap.size w0 w) (h : shuttlecockref02_Reader_fail.f s0_0 s0_1 s0_2 s0_3 a1 a2 = some (r1, r2, r3, r4)) :
  Calls Try.prog 36 #[.pointer (some ⟨g, 0, none⟩), .int .i64 a1, .int .i64 a2] w fun e w' => e = .returned (.tuple #[]) ∧ IsS51 w0 w' g r1 r2 r3 r4 ∧ Below w0.heap.size w0 w' ∧ KeepBut w w' g none := by
 have HI0 := Am hI
 have HK := Am (KeepBut.refl w g none)
 have HL := Am hB.size
 clear hI
 have HW0 := Am hB.size
 have HB := Am hB
 clear hB
 have H : (some (s0_0, a2, a1, a2)) = some (r1, r2, r3, r4) := h
 clear h
 simp only [Option.some.injEq, Prod.mk.injEq] at H
 obtain ⟨rfl, rfl, rfl, rfl⟩ := H
 obtain ⟨HGz4, hgz4⟩ := HI0.out
 have hcz4_0 := cellS51_0 HGz4
 have hcz4_1 := cellS51_1 HGz4
 have hcz4_2 := cellS51_2 HGz4
 have hcz4_3 := cellS51_3 HGz4
 have hfz4_0 := bf HGz4 0
 have hfz4_1 := bf HGz4 1
 have hfz4_2 := bf HGz4 2
 have hfz4_3 := bf HGz4 3
 clear HGz4 hgz4
 go_enter Try.func36, Try.ntmps36
 go_wp2
 first | go_end0 | ((try simp only [Exit.inBlock, Exit.then]); refine bodyPost_ret (results_none rfl _ _ _) rfl ?_)
 exact ⟨by first | rfl | (simp [errW_none, errW_some] <;> rfl) | (simp [*, errW_none, errW_some] <;> rfl) | (simp [Aid.ne_nil, Aid.eq_nil, errW_none, errW_some]; done), by repeat (first | (with_reducible first | exact HI0.out | apply IsS51.alloc | apply IsS51.drewN | apply IsS51.drew | apply IsS51.set_0 | apply IsS51.set_1 | apply IsS51.set_2 | apply IsS51.set_3) | exact HI0.out), by repeat (first | (with_reducible first | exact HB.out | apply bl | apply pN | apply b1 | refine bs ?_ (IsS51.ge HI0.out)) | exact HB.out | exact HBo.out), by repeat (first | (with_reducible first | exact HK.out | apply KeepBut.set_ | apply keep_drewN | apply keep_drew | apply keep_alloc) | exact HK.out)⟩

/-! ### shuttlecockref02_Reader_Num: function 23, by hand -/
def shuttlecockref02_Reader_Num.f (k : Nat) (s0_0 : ByteArray) (s0_1 s0_2 s0_3 : Int) : Option (Int × ByteArray × Int × Int × Int) :=
 if s0_2 = 0 then ((shuttlecockref01_Take.f k s0_0 s0_1).bind fun b => if b.2.2 = 0 then some (b.1, s0_0, b.2.1, s0_2, s0_3) else some (0, s0_0, s0_1, b.2.2, s0_1)) else some (0, s0_0, s0_1, s0_2, s0_3)
theorem shuttlecockref02_Reader_Num.mono : ∀ a0 a1 a2 a3 k, LeO (shuttlecockref02_Reader_Num.f k a0 a1 a2 a3) (shuttlecockref02_Reader_Num.f (k + 1) a0 a1 a2 a3) := by
 intro a0 a1 a2 a3 k
 unfold shuttlecockref02_Reader_Num.f
 refine LeO.ite (LeO.bind (shuttlecockref01_Take.mono _ _ _) (fun _ => LeO.refl _)) (LeO.refl _)
/-- A reader at a block, and the world below: hidden from the walk. -/
def RdAt (w0 w : World) (g : Nat) (s : ByteArray) (a e f : Int) (w' : World) : Prop := IsS51 w0 w' g s a e f ∧ Below w0.heap.size w0 w' ∧ KeepBut w w' g none
theorem RdAt.drew {w0 w : World} {g : Nat} {s : ByteArray} {a e f : Int} {w' : World} (h : RdAt w0 w g s a e f w') : RdAt w0 w g s a e f w'.drew := ⟨h.1.drew, below_drew h.2.1, keep_drew h.2.2⟩
theorem RdAt.below {w0 w : World} {g : Nat} {s : ByteArray} {a e f : Int} {w' w1 : World} (h : RdAt w0 w g s a e f w') (hb : Below w'.heap.size w' w1) : RdAt w0 w g s a e f w1 :=
 ⟨h.1.below hb, below_step h.2.1 hb, KeepBut.trans h.2.2 (KeepBut.of_below hb g none) (.inl rfl)⟩
theorem shuttlecockref02_Reader_Num.calls (k : Nat) (g : Nat) (s0_0 : ByteArray) (s0_1 s0_2 s0_3 : Int) (r1 : Int) (r2 : ByteArray) (r3 r4 r5 : Int) (w0 w : World) (hI : IsS51 w0 w g s0_0 s0_1 s0_2 s0_3) (hB : Below w0.heap.size w0 w) (h : shuttlecockref02_Reader_Num.f k s0_0 s0_1 s0_2 s0_3 = some (r1, r2, r3, r4, r5)) :
  Calls Try.prog 23 #[.pointer (some ⟨g, 0, none⟩)] w fun e w' => e = .returned (.int .i64 r1) ∧ IsS51 w0 w' g r2 r3 r4 r5 ∧ Below w0.heap.size w0 w' ∧ KeepBut w w' g none := by
 have hc0 := cellS51_0 hI.1
 have hc1 := cellS51_1 hI.1
 have hc2 := cellS51_2 hI.1
 have HI : RdAt w0 w g s0_0 s0_1 s0_2 s0_3 w := ⟨hI, hB, KeepBut.refl _ _ _⟩
 have HI' := HI.drew
 clear hI hB
 unfold shuttlecockref02_Reader_Num.f at h
 by_cases hz : s0_2 = 0
 ·
  rw [if_pos hz] at h
  have h' := Option.bind_eq_some_iff.1 h
  clear h
  obtain ⟨⟨t1, t2, t3⟩, A0, h⟩ := h'
  simp only at h
  have hz1 : (s0_2 != 0) = false := by rw [hz]; rfl
  have A := Am A0
  clear hz A0
  by_cases he : t3 = 0
  ·
   rw [if_pos he] at h
   simp only [Option.some.injEq, Prod.mk.injEq] at h
   obtain ⟨rfl, rfl, rfl, rfl, rfl⟩ := h
   have he1 : (t3 != 0) = false := by rw [he]; rfl
   clear he
   go_enter Try.func23, Try.ntmps23
   go_wp2_with fail
   go_region_held3 (fun w' => w'.cell? ⟨g, 0, none⟩ = some (.string s0_0) ∧ w'.cell? ⟨g, 1, none⟩ = some (.int .i64 s0_1) ∧ RdAt w0 w g s0_0 s0_1 s0_2 s0_3 w')
    (first | exact ⟨hc0, hc1, HI'⟩ | exact ⟨cellS51_0 HJ.1.1, cellS51_1 HJ.1.1, HJ⟩)
    (first | (go_at_call 35; (with_reducible refine (shuttlecockref01_Take.calls k s0_0 s0_1 t1 t2 t3 _ A.out).mono ?_); rintro e w1 ⟨rfl, hb⟩; have HJ := RdAt.below (by assumption) hb; clear hb))
   have k1 := cellS51_1 HJ.1.1
   have f1 := bf HJ.1.1 1
   go_wp2
   go_ret
   exact ⟨rfl, HJ.1.set_1 _, bs HJ.2.1 HJ.1.ge, KeepBut.set_ HJ.2.2 _ _⟩
  ·
   rw [if_neg he] at h
   simp only [Option.some.injEq, Prod.mk.injEq] at h
   obtain ⟨rfl, rfl, rfl, rfl, rfl⟩ := h
   have he1 : (t3 != 0) = true := bne_iff_ne.2 he
   clear he
   go_enter Try.func23, Try.ntmps23
   go_wp2_with fail
   go_region_held3 (fun w' => w'.cell? ⟨g, 0, none⟩ = some (.string s0_0) ∧ w'.cell? ⟨g, 1, none⟩ = some (.int .i64 s0_1) ∧ RdAt w0 w g s0_0 s0_1 s0_2 s0_3 w')
    (first | exact ⟨hc0, hc1, HI'⟩ | exact ⟨cellS51_0 HJ.1.1, cellS51_1 HJ.1.1, HJ⟩)
    (first | (go_at_call 35; (with_reducible refine (shuttlecockref01_Take.calls k s0_0 s0_1 t1 t2 t3 _ A.out).mono ?_); rintro e w1 ⟨rfl, hb⟩; have HJ := RdAt.below (by assumption) hb; clear hb))
   have k1 := cellS51_1 HJ.1.1
   have J1 := HJ.1
   have J2 := HJ.2.1
   go_wp2_with (go_at_call 36; (with_reducible refine (shuttlecockref02_Reader_fail.calls g s0_0 s0_1 s0_2 s0_3 t3 s0_1 s0_0 s0_1 t3 s0_1 w0 _ J1 J2 rfl).mono ?_); rintro e w2 ⟨rfl, hi, hb, hk⟩)
   go_ret
   exact ⟨rfl, hi, hb, KeepBut.trans HJ.2.2 hk (.inl rfl)⟩
 ·
  rw [if_neg hz] at h
  simp only [Option.some.injEq, Prod.mk.injEq] at h
  obtain ⟨rfl, rfl, rfl, rfl, rfl⟩ := h
  have hz1 : (s0_2 != 0) = true := bne_iff_ne.2 hz
  clear hz
  go_enter Try.func23, Try.ntmps23
  go_wp2
  go_ret
  exact ⟨rfl, HI⟩

/-! ### shuttlecockref08_Decode: function 11 -/
mutual
def shuttlecockref08_Decode.l0 : Nat → ByteArray → Int → Int → ByteArray → Int → Int → Int → Int → List (S46) → Option (Int × (List (S46)) × (List (S36)) × Int)
 | 0, _, _, _, _, _, _, _, _, _ => none
 | k + 1, x0, x6, x7, x286000, x286001, x286002, x286003, x287000, x287001 => if x7 < x6 then ((shuttlecockref02_Reader_Num.f k x286000 x286001 x286002 x286003).bind fun bt298 => ((shuttlecockref02_Reader_Num.f k bt298.2.1 bt298.2.2.1 bt298.2.2.2.1 bt298.2.2.2.2).bind fun bt303 => (if x287001.length < 8796093022208 then (shuttlecockref08_Decode.l0 k x0 x6 (wrap64 (x7 + 1)) bt303.2.1 bt303.2.2.1 bt303.2.2.2.1 bt303.2.2.2.2 x287000 (x287001 ++ [(⟨bt298.1, bt303.1⟩ : S46)])) else (none)))) else ((shuttlecockref02_Reader_Num.f k x286000 x286001 x286002 x286003).bind fun bt311 => (if bt311.2.2.2.1 = 0 then (if bt311.1 > 1000 then (some (0, ([] : List (S46)), ([] : List (S36)), 80)) else (shuttlecockref08_Decode.l1 k x0 bt311.1 0 bt311.2.1 bt311.2.2.1 bt311.2.2.2.1 bt311.2.2.2.2 x287000 x287001 ([] : List (S36)))) else (some (0, ([] : List (S46)), ([] : List (S36)), bt311.2.2.2.1))))
def shuttlecockref08_Decode.l1 : Nat → ByteArray → Int → Int → ByteArray → Int → Int → Int → Int → List (S46) → List (S36) → Option (Int × (List (S46)) × (List (S36)) × Int)
 | 0, _, _, _, _, _, _, _, _, _, _ => none
 | k + 1, x0, x9, x10, x286000, x286001, x286002, x286003, x287000, x287001, x287002 => if x10 < x9 then ((shuttlecockref02_Reader_Num.f k x286000 x286001 x286002 x286003).bind fun bt317 => ((shuttlecockref02_Reader_Num.f k bt317.2.1 bt317.2.2.1 bt317.2.2.2.1 bt317.2.2.2.2).bind fun bt322 => ((shuttlecockref02_Reader_Num.f k bt322.2.1 bt322.2.2.1 bt322.2.2.2.1 bt322.2.2.2.2).bind fun bt327 => ((shuttlecockref02_Reader_Num.f k bt327.2.1 bt327.2.2.1 bt327.2.2.2.1 bt327.2.2.2.2).bind fun bt332 => (if x287002.length < 4398046511104 then (shuttlecockref08_Decode.l1 k x0 x9 (wrap64 (x10 + 1)) bt332.2.1 bt332.2.2.1 bt332.2.2.2.1 bt332.2.2.2.2 x287000 x287001 (x287002 ++ [(⟨bt317.1, bt322.1, bt327.1, bt332.1⟩ : S36)])) else (none)))))) else (if x286002 = 0 then (if x286001 < (x0.size : Int) then (some (0, ([] : List (S46)), ([] : List (S36)), 80)) else ((shuttlecockref08_May.f x287000 x287001 x287002).bind fun t340 => (if t340 = true then (some (x287000, x287001, x287002, 0)) else (some (0, ([] : List (S46)), ([] : List (S36)), 80))))) else (some (0, ([] : List (S46)), ([] : List (S36)), x286002)))
end
def shuttlecockref08_Decode.f (k : Nat) (a0 : ByteArray) : Option (Int × (List (S46)) × (List (S36)) × Int) := (shuttlecockref02_Reader_Num.f k a0 0 0 0).bind fun bt287 => ((shuttlecockref02_Reader_Num.f k bt287.2.1 bt287.2.2.1 bt287.2.2.2.1 bt287.2.2.2.2).bind fun bt292 => (if bt292.1 > 64 then (some (0, ([] : List (S46)), ([] : List (S36)), 80)) else (shuttlecockref08_Decode.l0 k a0 bt292.1 0 bt292.2.1 bt292.2.2.1 bt292.2.2.2.1 bt292.2.2.2.2 bt287.1 ([] : List (S46)))))
theorem shuttlecockref08_Decode.mono_l : ∀ k, (∀ y0 y1 y2 y3 y4 y5 y6 y7 y8, LeO (shuttlecockref08_Decode.l0 k y0 y1 y2 y3 y4 y5 y6 y7 y8) (shuttlecockref08_Decode.l0 (k + 1) y0 y1 y2 y3 y4 y5 y6 y7 y8)) ∧ (∀ y0 y1 y2 y3 y4 y5 y6 y7 y8 y9, LeO (shuttlecockref08_Decode.l1 k y0 y1 y2 y3 y4 y5 y6 y7 y8 y9) (shuttlecockref08_Decode.l1 (k + 1) y0 y1 y2 y3 y4 y5 y6 y7 y8 y9))
 | 0 => ⟨fun _ _ _ _ _ _ _ _ _ r h => by simp [shuttlecockref08_Decode.l0] at h, fun _ _ _ _ _ _ _ _ _ _ r h => by simp [shuttlecockref08_Decode.l1] at h⟩
 | k + 1 => by
  obtain ⟨ih0, ih1⟩ := shuttlecockref08_Decode.mono_l k
  refine ⟨?_, ?_⟩
  ·
   intro y0 y1 y2 y3 y4 y5 y6 y7 y8
   unfold shuttlecockref08_Decode.l0
   repeat' first
   | (with_reducible exact ih0 _ _ _ _ _ _ _ _ _)
   | (with_reducible exact ih1 _ _ _ _ _ _ _ _ _ _)
   | (with_reducible exact shuttlecockref02_Reader_Num.mono _ _ _ _ _)
   | (with_reducible exact LeO.refl _)
   | (with_reducible exact LeO.none _)
   | (with_reducible refine LeO.ite ?_ ?_)
   | (with_reducible refine LeO.bind ?_ (fun _ => ?_))
   | exact ih0 _ _ _ _ _ _ _ _ _
   | exact ih1 _ _ _ _ _ _ _ _ _ _
   | exact shuttlecockref02_Reader_Num.mono _ _ _ _ _
   | exact LeO.none _
   | refine LeO.ite ?_ ?_
   | refine LeO.bind ?_ (fun _ => ?_)
  ·
   intro y0 y1 y2 y3 y4 y5 y6 y7 y8 y9
   unfold shuttlecockref08_Decode.l1
   repeat' first
   | (with_reducible exact ih0 _ _ _ _ _ _ _ _ _)
   | (with_reducible exact ih1 _ _ _ _ _ _ _ _ _ _)
   | (with_reducible exact shuttlecockref02_Reader_Num.mono _ _ _ _ _)
   | (with_reducible exact LeO.refl _)
   | (with_reducible exact LeO.none _)
   | (with_reducible refine LeO.ite ?_ ?_)
   | (with_reducible refine LeO.bind ?_ (fun _ => ?_))
   | exact ih0 _ _ _ _ _ _ _ _ _
   | exact ih1 _ _ _ _ _ _ _ _ _ _
   | exact shuttlecockref02_Reader_Num.mono _ _ _ _ _
   | exact LeO.none _
   | refine LeO.ite ?_ ?_
   | refine LeO.bind ?_ (fun _ => ?_)
theorem shuttlecockref08_Decode.mono : ∀ a0 k, LeO (shuttlecockref08_Decode.f k a0) (shuttlecockref08_Decode.f (k + 1) a0) := by
 intro a0 k
 obtain ⟨ih0, ih1⟩ := shuttlecockref08_Decode.mono_l k
 unfold shuttlecockref08_Decode.f
 repeat' first
   | (with_reducible exact ih0 _ _ _ _ _ _ _ _ _)
   | (with_reducible exact ih1 _ _ _ _ _ _ _ _ _ _)
   | (with_reducible exact shuttlecockref02_Reader_Num.mono _ _ _ _ _)
   | (with_reducible exact LeO.refl _)
   | (with_reducible exact LeO.none _)
   | (with_reducible refine LeO.ite ?_ ?_)
   | (with_reducible refine LeO.bind ?_ (fun _ => ?_))
   | exact ih0 _ _ _ _ _ _ _ _ _
   | exact ih1 _ _ _ _ _ _ _ _ _ _
   | exact shuttlecockref02_Reader_Num.mono _ _ _ _ _
   | exact LeO.none _
   | refine LeO.ite ?_ ?_
   | refine LeO.bind ?_ (fun _ => ?_)
set_option maxHeartbeats 8000000 in
set_option maxRecDepth 100000 in
theorem shuttlecockref08_Decode.calls (k : Nat) (a0 : ByteArray) (r1 : Int) (r2 : List (S46)) (r3 : List (S36)) (r4 : Int) (w : World) (h : shuttlecockref08_Decode.f k a0 = some (r1, r2, r3, r4)) :
  Calls Try.prog 11 #[.string a0] w fun e w' => ∃ v1_ v2_ : Value, e = .returned (.tuple #[.agg #[.int .i64 r1, v1_, v2_], .int .i64 r4]) ∧ Kd.R k46 46 w' w.heap.size (fun _ => True) v1_ r2 ∧ Kd.R k36 36 w' w.heap.size (fun _ => True) v2_ r3 ∧ Below w.heap.size w w' := by
 have hu25 := Try.underlying25
 have hu51 := Try.underlying51
 have hu46 := Try.underlying46
 have hu36 := Try.underlying36
 have HB := Am (Below.refl w.heap.size w)
 have H : ((shuttlecockref02_Reader_Num.f k a0 0 0 0).bind fun bt287 => ((shuttlecockref02_Reader_Num.f k bt287.2.1 bt287.2.2.1 bt287.2.2.2.1 bt287.2.2.2.2).bind fun bt292 => (if bt292.1 > 64 then (some (0, ([] : List (S46)), ([] : List (S36)), 80)) else (shuttlecockref08_Decode.l0 k a0 bt292.1 0 bt292.2.1 bt292.2.2.1 bt292.2.2.2.1 bt292.2.2.2.2 bt287.1 ([] : List (S46)))))) = some (r1, r2, r3, r4) := h
 clear h
 replace H := ob H
 obtain ⟨⟨t287, t288, t289, t290, t291⟩, A20, H⟩ := H
 replace H : ((shuttlecockref02_Reader_Num.f k t288 t289 t290 t291).bind fun bt292 => (if bt292.1 > 64 then (some (0, ([] : List (S46)), ([] : List (S36)), 80)) else (shuttlecockref08_Decode.l0 k a0 bt292.1 0 bt292.2.1 bt292.2.2.1 bt292.2.2.2.1 bt292.2.2.2.2 t287 ([] : List (S46))))) = some (r1, r2, r3, r4) := H
 have A2 := Am A20
 clear A20
 replace H := ob H
 obtain ⟨⟨t292, t293, t294, t295, t296⟩, A30, H⟩ := H
 replace H : (if t292 > 64 then (some (0, ([] : List (S46)), ([] : List (S36)), 80)) else (shuttlecockref08_Decode.l0 k a0 t292 0 t293 t294 t295 t296 t287 ([] : List (S46)))) = some (r1, r2, r3, r4) := H
 have A3 := Am A30
 clear A30
 by_cases c4 : t292 > 64
 ·
  rw [if_pos c4] at H
  have c4b0 : decide (64 < t292) = true := decide_eq_true c4
  clear c4
  simp only [Option.some.injEq, Prod.mk.injEq] at H
  obtain ⟨rfl, rfl, rfl, rfl⟩ := H
  go_enter Try.func11, Try.ntmps11
  go_wp2_with (first | ((with_reducible refine gate_dst (N := 2) rfl ?_); refine box_event ?hg (N := 2) ?hd (cs := #[.int .i64 0, .slice none 0 0, .slice none 0 0]) (t := 25) ?hr ?_; (case hd => rfl); (case hg => rfl); (case hr => first | (go_simp; done) | (go_simp; rfl)); intro gb284 hg w5 hbox hb; have n0_ := Am (below_step (by repeat (first | (with_reducible first | exact HB.out | apply bl | apply pN | apply b1) | exact HB.out | exact HBo.out)) hb); have n1_ := Am (hbox); have n2_ := Am ((by rw [hg]; exact (below_size (by repeat (first | (with_reducible first | exact HB.out | apply bl | apply pN | apply b1) | exact HB.out | exact HBo.out))) : w.heap.size ≤ gb284)); have n3_ := Am ((by rw [hg]; exact (below_size (by repeat (first | (with_reducible first | exact HB.out | apply bl | apply pN | apply b1) | exact HB.out | exact HBo.out))) : w.heap.size ≤ gb284)); clear HB; have HB := n0_; have BK284 := n1_; have GW284 := n2_; have GE284 := n3_; clear n0_ n1_ n2_ n3_; clear hb hbox hg) | ((with_reducible refine gate_dst (N := 14) rfl ?_); refine box_event ?hg (N := 14) ?hd (cs := #[.string a0, .int .i64 0, .int .i64 0, .int .i64 0]) (t := 51) ?hr ?_; (case hd => rfl); (case hg => rfl); (case hr => first | (go_simp; done) | (go_simp; rfl)); intro gb285 hg w6 hbox hb; have n0_ := Am (blk_below (g := gb284) (o := .cells #[.int .i64 0, .slice none 0 0, .slice none 0 0] 25 (0, 0)) (by (with_reducible repeat (first | refine bn ?_ _ | refine bd ?_ | refine ba ?_ _)); exact BK284.out) hb); have n1_ := Am (below_step (by repeat (first | (with_reducible first | exact HB.out | apply bl | apply pN | apply b1 | refine bs ?_ GE284.out) | exact HB.out | exact HBo.out)) hb); have n2_ := Am ((⟨hbox, (by rw [hg]; exact (below_size (by repeat (first | (with_reducible first | exact HB.out | apply bl | apply pN | apply b1 | refine bs ?_ GE284.out) | exact HB.out | exact HBo.out))))⟩ : IsS51 w w6 gb285 a0 0 0 0)); have n3_ := Am ((by rw [hg]; exact (below_size (by repeat (first | (with_reducible first | exact HB.out | apply bl | apply pN | apply b1 | refine bs ?_ GE284.out) | exact HB.out | exact HBo.out))) : w.heap.size ≤ gb285)); have n4_ := Am ((by rw [hg]; exact (below_size (by repeat (first | (with_reducible first | exact HB.out | apply bl | apply pN | apply b1 | refine bs ?_ GE284.out) | exact HB.out | exact HBo.out))) : w.heap.size ≤ gb285)); have n5_ := Am ((by rw [hg]; exact Nat.ne_of_lt (blk_lt (g := gb284) (o := .cells #[.int .i64 0, .slice none 0 0, .slice none 0 0] 25 (0, 0)) (by (with_reducible repeat (first | refine bn ?_ _ | refine bd ?_ | refine ba ?_ _)); exact BK284.out)) : gb284 ≠ gb285)); have n6_ := Am ((by rw [hg]; exact Nat.ne_of_gt (blk_lt (g := gb284) (o := .cells #[.int .i64 0, .slice none 0 0, .slice none 0 0] 25 (0, 0)) (by (with_reducible repeat (first | refine bn ?_ _ | refine bd ?_ | refine ba ?_ _)); exact BK284.out)) : gb285 ≠ gb284)); clear BK284; clear HB; have BK284 := n0_; have HB := n1_; have HI285 := n2_; have GW285 := n3_; have GE285 := n4_; have NB284_285 := n5_; have NB285_284 := n6_; clear n0_ n1_ n2_ n3_ n4_ n5_ n6_; clear hb hbox hg) | ((with_reducible refine gate_dst (N := 5) rfl ?_); refine box_event ?hg (N := 5) ?hd (cs := #[.int .i64 0, .slice none 0 0, .slice none 0 0]) (t := 25) ?hr ?_; (case hd => rfl); (case hg => rfl); (case hr => first | (go_simp; done) | (go_simp; rfl)); intro gb286 hg w7 hbox hb; have n0_ := Am (blk_below (g := gb284) (o := .cells #[.int .i64 0, .slice none 0 0, .slice none 0 0] 25 (0, 0)) (by (with_reducible repeat (first | refine bn ?_ _ | refine bd ?_ | refine ba ?_ _)); exact BK284.out) hb); have n1_ := Am (IsS51.below (by repeat (first | (with_reducible first | exact HI285.out | apply IsS51.alloc | apply IsS51.drewN | apply IsS51.drew | apply IsS51.set_0 | apply IsS51.set_1 | apply IsS51.set_2 | apply IsS51.set_3 | refine IsS51.far ?_ NB285_284.out _) | exact HI285.out)) hb); have n2_ := Am (below_step (by repeat (first | (with_reducible first | exact HB.out | apply bl | apply pN | apply b1 | refine bs ?_ (IsS51.ge HI285.out) | refine bs ?_ GE284.out) | exact HB.out | exact HBo.out)) hb); have n3_ := Am (hbox); have n4_ := Am ((by rw [hg]; exact (below_size (by repeat (first | (with_reducible first | exact HB.out | apply bl | apply pN | apply b1 | refine bs ?_ (IsS51.ge HI285.out) | refine bs ?_ GE284.out) | exact HB.out | exact HBo.out))) : w.heap.size ≤ gb286)); have n5_ := Am ((by rw [hg]; exact (below_size (by repeat (first | (with_reducible first | exact HB.out | apply bl | apply pN | apply b1 | refine bs ?_ (IsS51.ge HI285.out) | refine bs ?_ GE284.out) | exact HB.out | exact HBo.out))) : w.heap.size ≤ gb286)); have n6_ := Am ((by rw [hg]; exact Nat.ne_of_lt (blk_lt (g := gb284) (o := .cells #[.int .i64 0, .slice none 0 0, .slice none 0 0] 25 (0, 0)) (by (with_reducible repeat (first | refine bn ?_ _ | refine bd ?_ | refine ba ?_ _)); exact BK284.out)) : gb284 ≠ gb286)); have n7_ := Am ((by rw [hg]; exact Nat.ne_of_gt (blk_lt (g := gb284) (o := .cells #[.int .i64 0, .slice none 0 0, .slice none 0 0] 25 (0, 0)) (by (with_reducible repeat (first | refine bn ?_ _ | refine bd ?_ | refine ba ?_ _)); exact BK284.out)) : gb286 ≠ gb284)); have n8_ := Am ((by rw [hg]; exact Nat.ne_of_lt (IsS51.lt (show IsS51 w _ gb285 a0 0 0 0 from by repeat (first | (with_reducible first | exact HI285.out | apply IsS51.alloc | apply IsS51.drewN | apply IsS51.drew | apply IsS51.set_0 | apply IsS51.set_1 | apply IsS51.set_2 | apply IsS51.set_3 | refine IsS51.far ?_ NB285_284.out _) | exact HI285.out))) : gb285 ≠ gb286)); have n9_ := Am ((by rw [hg]; exact Nat.ne_of_gt (IsS51.lt (show IsS51 w _ gb285 a0 0 0 0 from by repeat (first | (with_reducible first | exact HI285.out | apply IsS51.alloc | apply IsS51.drewN | apply IsS51.drew | apply IsS51.set_0 | apply IsS51.set_1 | apply IsS51.set_2 | apply IsS51.set_3 | refine IsS51.far ?_ NB285_284.out _) | exact HI285.out))) : gb286 ≠ gb285)); clear BK284; clear HI285; clear HB; have BK284 := n0_; have HI285 := n1_; have HB := n2_; have BK286 := n3_; have GW286 := n4_; have GE286 := n5_; have NB284_286 := n6_; have NB286_284 := n7_; have NB285_286 := n8_; have NB286_285 := n9_; clear n0_ n1_ n2_ n3_ n4_ n5_ n6_ n7_ n8_ n9_; clear hb hbox hg; have hnb8 := NB286_284.out; have hnc8 := NB284_286.out; have hnb9 := NB286_285.out; have hnc9 := NB285_286.out; have hcz10_0 : w7.cell? ⟨gb286, 0, none⟩ = some (.int .i64 0) := (bc BK286.out 0).trans rfl; have hcz10_1 : w7.cell? ⟨gb286, 1, none⟩ = some (.slice none 0 0) := (bc BK286.out 1).trans rfl; have hcz10_2 : w7.cell? ⟨gb286, 2, none⟩ = some (.slice none 0 0) := (bc BK286.out 2).trans rfl; have hfz10_0 := bf BK286.out 0; have hfz10_1 := bf BK286.out 1; have hfz10_2 := bf BK286.out 2) | ((with_reducible refine gate_callee (f := 23) rfl ?_); refine goesL_ (some 17) rfl rfl Try.func23 (by kernel_rfl) rfl #[.pointer (some ⟨gb285, 0, none⟩)] rfl (by (try simp only [List.map_toArray, List.map_cons, List.map_nil]); first | done | rfl | (simp only [List.length_drop, List.length_take]; rfl)) ?_; (with_reducible refine (shuttlecockref02_Reader_Num.calls k gb285 a0 0 0 0 t287 t288 t289 t290 t291 w _ ?side1 ?side2 A2.out).mono ?_); (case side1 => repeat (first | (with_reducible first | exact HI285.out | apply IsS51.alloc | apply IsS51.drewN | apply IsS51.drew | apply IsS51.set_0 | apply IsS51.set_1 | apply IsS51.set_2 | apply IsS51.set_3 | refine IsS51.far ?_ NB285_284.out _ | refine IsS51.far ?_ NB285_286.out _) | exact HI285.out)); (case side2 => repeat (first | (with_reducible first | exact HB.out | apply bl | apply pN | apply b1 | refine bs ?_ (IsS51.ge HI285.out) | refine bs ?_ GE284.out | refine bs ?_ GE286.out) | exact HB.out | exact HBo.out)); rintro e w11 ⟨rfl, hi, hb, hk⟩; refine ⟨_, rfl, ?_⟩; have n0_ := Am (KeepBut.blk hk (g' := gb284) (o := .cells #[.int .i64 0, .slice none 0 0, .slice none 0 0] 25 (0, 0)) (by (with_reducible repeat (first | refine bn ?_ _ | refine bd ?_ | refine ba ?_ _)); refine blk_far ?_ NB284_286.out _; (with_reducible repeat (first | refine bn ?_ _ | refine bd ?_ | refine ba ?_ _)); refine blk_far ?_ NB284_286.out _; (with_reducible repeat (first | refine bn ?_ _ | refine bd ?_ | refine ba ?_ _)); refine blk_far ?_ NB284_286.out _; (with_reducible repeat (first | refine bn ?_ _ | refine bd ?_ | refine ba ?_ _)); exact BK284.out) NB284_285.out (by simp)); have n1_ := Am (KeepBut.blk hk (g' := gb286) (o := .cells #[.int .i64 0, .slice none 0 0, .slice none 0 0] 25 (0, 0)) (by (with_reducible repeat (first | refine bn ?_ _ | refine bd ?_ | refine ba ?_ _)); refine blk_put (cs := #[.int .i64 0, .slice none 0 0, .slice none 0 0]) ?_ 2 _ rfl; (with_reducible repeat (first | refine bn ?_ _ | refine bd ?_ | refine ba ?_ _)); refine blk_put (cs := #[.int .i64 0, .slice none 0 0, .slice none 0 0]) ?_ 1 _ rfl; (with_reducible repeat (first | refine bn ?_ _ | refine bd ?_ | refine ba ?_ _)); refine blk_put (cs := #[.int .i64 0, .slice none 0 0, .slice none 0 0]) ?_ 0 _ rfl; (with_reducible repeat (first | refine bn ?_ _ | refine bd ?_ | refine ba ?_ _)); exact BK286.out) NB286_285.out (by simp)); have n2_ := Am (hb); have n3_ := Am (hi); clear BK284; clear BK286; clear HB; clear HI285; have BK284 := n0_; have BK286 := n1_; have HB := n2_; have HI285 := n3_; clear n0_ n1_ n2_ n3_; (try clear hb); (try clear hb2); (try clear hk); (try clear hi); have hcz12_0 : w11.cell? ⟨gb286, 0, none⟩ = some (.int .i64 0) := (bc BK286.out 0).trans rfl; have hcz12_1 : w11.cell? ⟨gb286, 1, none⟩ = some (.slice none 0 0) := (bc BK286.out 1).trans rfl; have hcz12_2 : w11.cell? ⟨gb286, 2, none⟩ = some (.slice none 0 0) := (bc BK286.out 2).trans rfl; have hfz12_0 := bf BK286.out 0; have hfz12_1 := bf BK286.out 1; have hfz12_2 := bf BK286.out 2) | ((with_reducible refine gate_callee (f := 23) rfl ?_); refine goesL_ (some 20) rfl rfl Try.func23 (by kernel_rfl) rfl #[.pointer (some ⟨gb285, 0, none⟩)] rfl (by (try simp only [List.map_toArray, List.map_cons, List.map_nil]); first | done | rfl | (simp only [List.length_drop, List.length_take]; rfl)) ?_; (with_reducible refine (shuttlecockref02_Reader_Num.calls k gb285 t288 t289 t290 t291 t292 t293 t294 t295 t296 w _ ?side1 ?side2 A3.out).mono ?_); (case side1 => repeat (first | (with_reducible first | exact HI285.out | apply IsS51.alloc | apply IsS51.drewN | apply IsS51.drew | apply IsS51.set_0 | apply IsS51.set_1 | apply IsS51.set_2 | apply IsS51.set_3 | refine IsS51.far ?_ NB285_284.out _ | refine IsS51.far ?_ NB285_286.out _) | exact HI285.out)); (case side2 => repeat (first | (with_reducible first | exact HB.out | apply bl | apply pN | apply b1 | refine bs ?_ (IsS51.ge HI285.out) | refine bs ?_ GE284.out | refine bs ?_ GE286.out) | exact HB.out | exact HBo.out)); rintro e w13 ⟨rfl, hi, hb, hk⟩; refine ⟨_, rfl, ?_⟩; have n0_ := Am (KeepBut.blk hk (g' := gb284) (o := .cells #[.int .i64 0, .slice none 0 0, .slice none 0 0] 25 (0, 0)) (by (with_reducible repeat (first | refine bn ?_ _ | refine bd ?_ | refine ba ?_ _)); refine blk_far ?_ NB284_286.out _; (with_reducible repeat (first | refine bn ?_ _ | refine bd ?_ | refine ba ?_ _)); exact BK284.out) NB284_285.out (by simp)); have n1_ := Am (KeepBut.blk hk (g' := gb286) (o := .cells #[.int .i64 t287, .slice none 0 0, .slice none 0 0] 25 (0, 0)) (by (with_reducible repeat (first | refine bn ?_ _ | refine bd ?_ | refine ba ?_ _)); refine blk_put (cs := #[.int .i64 0, .slice none 0 0, .slice none 0 0]) ?_ 0 _ rfl; (with_reducible repeat (first | refine bn ?_ _ | refine bd ?_ | refine ba ?_ _)); exact BK286.out) NB286_285.out (by simp)); have n2_ := Am (hb); have n3_ := Am (hi); clear BK284; clear BK286; clear HB; clear HI285; have BK284 := n0_; have BK286 := n1_; have HB := n2_; have HI285 := n3_; clear n0_ n1_ n2_ n3_; (try clear hb); (try clear hb2); (try clear hk); (try clear hi); have hnb14 := NB284_285.out; have hnc14 := NB285_284.out; have hcz15_0 : w13.cell? ⟨gb284, 0, none⟩ = some (.int .i64 0) := (bc BK284.out 0).trans rfl; have hcz15_1 : w13.cell? ⟨gb284, 1, none⟩ = some (.slice none 0 0) := (bc BK284.out 1).trans rfl; have hcz15_2 : w13.cell? ⟨gb284, 2, none⟩ = some (.slice none 0 0) := (bc BK284.out 2).trans rfl; have hfz15_0 := bf BK284.out 0; have hfz15_1 := bf BK284.out 1; have hfz15_2 := bf BK284.out 2))
  refine bodyPost_ret (results_ct rfl _ _ gb284 25 #[.int .i64 0, .slice none 0 0, .slice none 0 0] (0, 0) _ rfl (by (with_reducible repeat (first | refine bn ?_ _ | refine bd ?_ | refine ba ?_ _)); refine blk_put (cs := #[.int .i64 0, .slice none 0 0, .slice none 0 0]) ?_ 2 _ rfl; (with_reducible repeat (first | refine bn ?_ _ | refine bd ?_ | refine ba ?_ _)); refine blk_put (cs := #[.int .i64 0, .slice none 0 0, .slice none 0 0]) ?_ 1 _ rfl; (with_reducible repeat (first | refine bn ?_ _ | refine bd ?_ | refine ba ?_ _)); refine blk_put (cs := #[.int .i64 0, .slice none 0 0, .slice none 0 0]) ?_ 0 _ rfl; (with_reducible repeat (first | refine bn ?_ _ | refine bd ?_ | refine ba ?_ _)); exact BK284.out) Try.underlying25 rfl (by kernel_rfl)) rfl ?_
  exact ⟨_, _, by first | rfl | (simp [errW_none, errW_some] <;> rfl) | (simp [*, errW_none, errW_some] <;> rfl) | (simp [Aid.ne_nil, Aid.eq_nil, errW_none, errW_some]; done), by first | exact Kd.R_nil _ _ _ _ _ | exact Kd.N_nil _ _ _ _ _ | exact Kd.V_nil _ _ _ _ _ | exact Kd.Q_nil _ _ _ _ _ | exact Kd.S_nil _ _ _ _ _, by first | exact Kd.R_nil _ _ _ _ _ | exact Kd.N_nil _ _ _ _ _ | exact Kd.V_nil _ _ _ _ _ | exact Kd.Q_nil _ _ _ _ _ | exact Kd.S_nil _ _ _ _ _, by repeat (first | (with_reducible first | exact HB.out | apply bl | apply pN | apply b1 | refine bs ?_ (IsS51.ge HI285.out) | refine bs ?_ GE284.out | refine bs ?_ GE286.out) | exact HB.out | exact HBo.out)⟩
 ·
  rw [if_neg c4] at H
  have c4b0 : decide (64 < t292) = false := decide_eq_false c4
  clear c4
  have H' := Am H
  clear H
  go_enter Try.func11, Try.ntmps11
  go_wp2_with (first | ((with_reducible refine gate_dst (N := 2) rfl ?_); refine box_event ?hg (N := 2) ?hd (cs := #[.int .i64 0, .slice none 0 0, .slice none 0 0]) (t := 25) ?hr ?_; (case hd => rfl); (case hg => rfl); (case hr => first | (go_simp; done) | (go_simp; rfl)); intro gb284 hg w16 hbox hb; have n0_ := Am (below_step (by repeat (first | (with_reducible first | exact HB.out | apply bl | apply pN | apply b1) | exact HB.out | exact HBo.out)) hb); have n1_ := Am (hbox); have n2_ := Am ((by rw [hg]; exact (below_size (by repeat (first | (with_reducible first | exact HB.out | apply bl | apply pN | apply b1) | exact HB.out | exact HBo.out))) : w.heap.size ≤ gb284)); have n3_ := Am ((by rw [hg]; exact (below_size (by repeat (first | (with_reducible first | exact HB.out | apply bl | apply pN | apply b1) | exact HB.out | exact HBo.out))) : w.heap.size ≤ gb284)); clear HB; have HB := n0_; have BK284 := n1_; have GW284 := n2_; have GE284 := n3_; clear n0_ n1_ n2_ n3_; clear hb hbox hg) | ((with_reducible refine gate_dst (N := 14) rfl ?_); refine box_event ?hg (N := 14) ?hd (cs := #[.string a0, .int .i64 0, .int .i64 0, .int .i64 0]) (t := 51) ?hr ?_; (case hd => rfl); (case hg => rfl); (case hr => first | (go_simp; done) | (go_simp; rfl)); intro gb285 hg w17 hbox hb; have n0_ := Am (blk_below (g := gb284) (o := .cells #[.int .i64 0, .slice none 0 0, .slice none 0 0] 25 (0, 0)) (by (with_reducible repeat (first | refine bn ?_ _ | refine bd ?_ | refine ba ?_ _)); exact BK284.out) hb); have n1_ := Am (below_step (by repeat (first | (with_reducible first | exact HB.out | apply bl | apply pN | apply b1 | refine bs ?_ GE284.out) | exact HB.out | exact HBo.out)) hb); have n2_ := Am ((⟨hbox, (by rw [hg]; exact (below_size (by repeat (first | (with_reducible first | exact HB.out | apply bl | apply pN | apply b1 | refine bs ?_ GE284.out) | exact HB.out | exact HBo.out))))⟩ : IsS51 w w17 gb285 a0 0 0 0)); have n3_ := Am ((by rw [hg]; exact (below_size (by repeat (first | (with_reducible first | exact HB.out | apply bl | apply pN | apply b1 | refine bs ?_ GE284.out) | exact HB.out | exact HBo.out))) : w.heap.size ≤ gb285)); have n4_ := Am ((by rw [hg]; exact (below_size (by repeat (first | (with_reducible first | exact HB.out | apply bl | apply pN | apply b1 | refine bs ?_ GE284.out) | exact HB.out | exact HBo.out))) : w.heap.size ≤ gb285)); have n5_ := Am ((by rw [hg]; exact Nat.ne_of_lt (blk_lt (g := gb284) (o := .cells #[.int .i64 0, .slice none 0 0, .slice none 0 0] 25 (0, 0)) (by (with_reducible repeat (first | refine bn ?_ _ | refine bd ?_ | refine ba ?_ _)); exact BK284.out)) : gb284 ≠ gb285)); have n6_ := Am ((by rw [hg]; exact Nat.ne_of_gt (blk_lt (g := gb284) (o := .cells #[.int .i64 0, .slice none 0 0, .slice none 0 0] 25 (0, 0)) (by (with_reducible repeat (first | refine bn ?_ _ | refine bd ?_ | refine ba ?_ _)); exact BK284.out)) : gb285 ≠ gb284)); clear BK284; clear HB; have BK284 := n0_; have HB := n1_; have HI285 := n2_; have GW285 := n3_; have GE285 := n4_; have NB284_285 := n5_; have NB285_284 := n6_; clear n0_ n1_ n2_ n3_ n4_ n5_ n6_; clear hb hbox hg) | ((with_reducible refine gate_dst (N := 5) rfl ?_); refine box_event ?hg (N := 5) ?hd (cs := #[.int .i64 0, .slice none 0 0, .slice none 0 0]) (t := 25) ?hr ?_; (case hd => rfl); (case hg => rfl); (case hr => first | (go_simp; done) | (go_simp; rfl)); intro gb286 hg w18 hbox hb; have n0_ := Am (blk_below (g := gb284) (o := .cells #[.int .i64 0, .slice none 0 0, .slice none 0 0] 25 (0, 0)) (by (with_reducible repeat (first | refine bn ?_ _ | refine bd ?_ | refine ba ?_ _)); exact BK284.out) hb); have n1_ := Am (IsS51.below (by repeat (first | (with_reducible first | exact HI285.out | apply IsS51.alloc | apply IsS51.drewN | apply IsS51.drew | apply IsS51.set_0 | apply IsS51.set_1 | apply IsS51.set_2 | apply IsS51.set_3 | refine IsS51.far ?_ NB285_284.out _) | exact HI285.out)) hb); have n2_ := Am (below_step (by repeat (first | (with_reducible first | exact HB.out | apply bl | apply pN | apply b1 | refine bs ?_ (IsS51.ge HI285.out) | refine bs ?_ GE284.out) | exact HB.out | exact HBo.out)) hb); have n3_ := Am (hbox); have n4_ := Am ((by rw [hg]; exact (below_size (by repeat (first | (with_reducible first | exact HB.out | apply bl | apply pN | apply b1 | refine bs ?_ (IsS51.ge HI285.out) | refine bs ?_ GE284.out) | exact HB.out | exact HBo.out))) : w.heap.size ≤ gb286)); have n5_ := Am ((by rw [hg]; exact (below_size (by repeat (first | (with_reducible first | exact HB.out | apply bl | apply pN | apply b1 | refine bs ?_ (IsS51.ge HI285.out) | refine bs ?_ GE284.out) | exact HB.out | exact HBo.out))) : w.heap.size ≤ gb286)); have n6_ := Am ((by rw [hg]; exact Nat.ne_of_lt (blk_lt (g := gb284) (o := .cells #[.int .i64 0, .slice none 0 0, .slice none 0 0] 25 (0, 0)) (by (with_reducible repeat (first | refine bn ?_ _ | refine bd ?_ | refine ba ?_ _)); exact BK284.out)) : gb284 ≠ gb286)); have n7_ := Am ((by rw [hg]; exact Nat.ne_of_gt (blk_lt (g := gb284) (o := .cells #[.int .i64 0, .slice none 0 0, .slice none 0 0] 25 (0, 0)) (by (with_reducible repeat (first | refine bn ?_ _ | refine bd ?_ | refine ba ?_ _)); exact BK284.out)) : gb286 ≠ gb284)); have n8_ := Am ((by rw [hg]; exact Nat.ne_of_lt (IsS51.lt (show IsS51 w _ gb285 a0 0 0 0 from by repeat (first | (with_reducible first | exact HI285.out | apply IsS51.alloc | apply IsS51.drewN | apply IsS51.drew | apply IsS51.set_0 | apply IsS51.set_1 | apply IsS51.set_2 | apply IsS51.set_3 | refine IsS51.far ?_ NB285_284.out _) | exact HI285.out))) : gb285 ≠ gb286)); have n9_ := Am ((by rw [hg]; exact Nat.ne_of_gt (IsS51.lt (show IsS51 w _ gb285 a0 0 0 0 from by repeat (first | (with_reducible first | exact HI285.out | apply IsS51.alloc | apply IsS51.drewN | apply IsS51.drew | apply IsS51.set_0 | apply IsS51.set_1 | apply IsS51.set_2 | apply IsS51.set_3 | refine IsS51.far ?_ NB285_284.out _) | exact HI285.out))) : gb286 ≠ gb285)); clear BK284; clear HI285; clear HB; have BK284 := n0_; have HI285 := n1_; have HB := n2_; have BK286 := n3_; have GW286 := n4_; have GE286 := n5_; have NB284_286 := n6_; have NB286_284 := n7_; have NB285_286 := n8_; have NB286_285 := n9_; clear n0_ n1_ n2_ n3_ n4_ n5_ n6_ n7_ n8_ n9_; clear hb hbox hg; have hnb19 := NB286_284.out; have hnc19 := NB284_286.out; have hnb20 := NB286_285.out; have hnc20 := NB285_286.out; have hcz21_0 : w18.cell? ⟨gb286, 0, none⟩ = some (.int .i64 0) := (bc BK286.out 0).trans rfl; have hcz21_1 : w18.cell? ⟨gb286, 1, none⟩ = some (.slice none 0 0) := (bc BK286.out 1).trans rfl; have hcz21_2 : w18.cell? ⟨gb286, 2, none⟩ = some (.slice none 0 0) := (bc BK286.out 2).trans rfl; have hfz21_0 := bf BK286.out 0; have hfz21_1 := bf BK286.out 1; have hfz21_2 := bf BK286.out 2) | ((with_reducible refine gate_callee (f := 23) rfl ?_); refine goesL_ (some 17) rfl rfl Try.func23 (by kernel_rfl) rfl #[.pointer (some ⟨gb285, 0, none⟩)] rfl (by (try simp only [List.map_toArray, List.map_cons, List.map_nil]); first | done | rfl | (simp only [List.length_drop, List.length_take]; rfl)) ?_; (with_reducible refine (shuttlecockref02_Reader_Num.calls k gb285 a0 0 0 0 t287 t288 t289 t290 t291 w _ ?side1 ?side2 A2.out).mono ?_); (case side1 => repeat (first | (with_reducible first | exact HI285.out | apply IsS51.alloc | apply IsS51.drewN | apply IsS51.drew | apply IsS51.set_0 | apply IsS51.set_1 | apply IsS51.set_2 | apply IsS51.set_3 | refine IsS51.far ?_ NB285_284.out _ | refine IsS51.far ?_ NB285_286.out _) | exact HI285.out)); (case side2 => repeat (first | (with_reducible first | exact HB.out | apply bl | apply pN | apply b1 | refine bs ?_ (IsS51.ge HI285.out) | refine bs ?_ GE284.out | refine bs ?_ GE286.out) | exact HB.out | exact HBo.out)); rintro e w22 ⟨rfl, hi, hb, hk⟩; refine ⟨_, rfl, ?_⟩; have n0_ := Am (KeepBut.blk hk (g' := gb284) (o := .cells #[.int .i64 0, .slice none 0 0, .slice none 0 0] 25 (0, 0)) (by (with_reducible repeat (first | refine bn ?_ _ | refine bd ?_ | refine ba ?_ _)); refine blk_far ?_ NB284_286.out _; (with_reducible repeat (first | refine bn ?_ _ | refine bd ?_ | refine ba ?_ _)); refine blk_far ?_ NB284_286.out _; (with_reducible repeat (first | refine bn ?_ _ | refine bd ?_ | refine ba ?_ _)); refine blk_far ?_ NB284_286.out _; (with_reducible repeat (first | refine bn ?_ _ | refine bd ?_ | refine ba ?_ _)); exact BK284.out) NB284_285.out (by simp)); have n1_ := Am (KeepBut.blk hk (g' := gb286) (o := .cells #[.int .i64 0, .slice none 0 0, .slice none 0 0] 25 (0, 0)) (by (with_reducible repeat (first | refine bn ?_ _ | refine bd ?_ | refine ba ?_ _)); refine blk_put (cs := #[.int .i64 0, .slice none 0 0, .slice none 0 0]) ?_ 2 _ rfl; (with_reducible repeat (first | refine bn ?_ _ | refine bd ?_ | refine ba ?_ _)); refine blk_put (cs := #[.int .i64 0, .slice none 0 0, .slice none 0 0]) ?_ 1 _ rfl; (with_reducible repeat (first | refine bn ?_ _ | refine bd ?_ | refine ba ?_ _)); refine blk_put (cs := #[.int .i64 0, .slice none 0 0, .slice none 0 0]) ?_ 0 _ rfl; (with_reducible repeat (first | refine bn ?_ _ | refine bd ?_ | refine ba ?_ _)); exact BK286.out) NB286_285.out (by simp)); have n2_ := Am (hb); have n3_ := Am (hi); clear BK284; clear BK286; clear HB; clear HI285; have BK284 := n0_; have BK286 := n1_; have HB := n2_; have HI285 := n3_; clear n0_ n1_ n2_ n3_; (try clear hb); (try clear hb2); (try clear hk); (try clear hi); have hcz23_0 : w22.cell? ⟨gb286, 0, none⟩ = some (.int .i64 0) := (bc BK286.out 0).trans rfl; have hcz23_1 : w22.cell? ⟨gb286, 1, none⟩ = some (.slice none 0 0) := (bc BK286.out 1).trans rfl; have hcz23_2 : w22.cell? ⟨gb286, 2, none⟩ = some (.slice none 0 0) := (bc BK286.out 2).trans rfl; have hfz23_0 := bf BK286.out 0; have hfz23_1 := bf BK286.out 1; have hfz23_2 := bf BK286.out 2) | ((with_reducible refine gate_callee (f := 23) rfl ?_); refine goesL_ (some 20) rfl rfl Try.func23 (by kernel_rfl) rfl #[.pointer (some ⟨gb285, 0, none⟩)] rfl (by (try simp only [List.map_toArray, List.map_cons, List.map_nil]); first | done | rfl | (simp only [List.length_drop, List.length_take]; rfl)) ?_; (with_reducible refine (shuttlecockref02_Reader_Num.calls k gb285 t288 t289 t290 t291 t292 t293 t294 t295 t296 w _ ?side1 ?side2 A3.out).mono ?_); (case side1 => repeat (first | (with_reducible first | exact HI285.out | apply IsS51.alloc | apply IsS51.drewN | apply IsS51.drew | apply IsS51.set_0 | apply IsS51.set_1 | apply IsS51.set_2 | apply IsS51.set_3 | refine IsS51.far ?_ NB285_284.out _ | refine IsS51.far ?_ NB285_286.out _) | exact HI285.out)); (case side2 => repeat (first | (with_reducible first | exact HB.out | apply bl | apply pN | apply b1 | refine bs ?_ (IsS51.ge HI285.out) | refine bs ?_ GE284.out | refine bs ?_ GE286.out) | exact HB.out | exact HBo.out)); rintro e w24 ⟨rfl, hi, hb, hk⟩; refine ⟨_, rfl, ?_⟩; have n0_ := Am (KeepBut.blk hk (g' := gb284) (o := .cells #[.int .i64 0, .slice none 0 0, .slice none 0 0] 25 (0, 0)) (by (with_reducible repeat (first | refine bn ?_ _ | refine bd ?_ | refine ba ?_ _)); refine blk_far ?_ NB284_286.out _; (with_reducible repeat (first | refine bn ?_ _ | refine bd ?_ | refine ba ?_ _)); exact BK284.out) NB284_285.out (by simp)); have n1_ := Am (KeepBut.blk hk (g' := gb286) (o := .cells #[.int .i64 t287, .slice none 0 0, .slice none 0 0] 25 (0, 0)) (by (with_reducible repeat (first | refine bn ?_ _ | refine bd ?_ | refine ba ?_ _)); refine blk_put (cs := #[.int .i64 0, .slice none 0 0, .slice none 0 0]) ?_ 0 _ rfl; (with_reducible repeat (first | refine bn ?_ _ | refine bd ?_ | refine ba ?_ _)); exact BK286.out) NB286_285.out (by simp)); have n2_ := Am (hb); have n3_ := Am (hi); clear BK284; clear BK286; clear HB; clear HI285; have BK284 := n0_; have BK286 := n1_; have HB := n2_; have HI285 := n3_; clear n0_ n1_ n2_ n3_; (try clear hb); (try clear hb2); (try clear hk); (try clear hi)))
  go_loopg [7] k (fun kq v7 w' => ∃ (x7_1 : Int) (x286000_1 : ByteArray) (x286001_1 : Int) (x286002_1 : Int) (x286003_1 : Int) (x287001_1 : List (S46)) (u287001 : Value), v7 = .int .i64 x7_1 ∧ Aside0 (shuttlecockref08_Decode.l0 kq a0 t292 x7_1 x286000_1 x286001_1 x286002_1 x286003_1 t287 x287001_1 = some (r1, r2, r3, r4)) ∧ Aside0 (kq ≤ k) ∧ Aside0 (Kd.R k46 46 w' w.heap.size (fun _ => True) u287001 x287001_1) ∧ Aside0 (w'.heap[gb284]? = some (.cells #[.int .i64 0, (.slice none 0 0), (.slice none 0 0)] 25 (0, 0))) ∧ Aside0 (w'.heap[gb286]? = some (.cells #[.int .i64 t287, u287001, (.slice none 0 0)] 25 (0, 0))) ∧ Aside0 (IsS51 w w' gb285 x286000_1 x286001_1 x286002_1 x286003_1) ∧ Aside0 (Below w.heap.size w w'))
  case atStart => exact ⟨(0), (t293), (t294), (t295), (t296), (([] : List (S46))), (.slice none 0 0), (by first | rfl | (simp; done) | (simp [*]; done)), H', ⟨Nat.le_refl _⟩, ⟨by first | exact Kd.R_nil _ _ _ _ _ | exact Kd.N_nil _ _ _ _ _ | exact Kd.V_nil _ _ _ _ _ | exact Kd.Q_nil _ _ _ _ _ | exact Kd.S_nil _ _ _ _ _⟩, ⟨by (with_reducible repeat (first | refine bn ?_ _ | refine bd ?_ | refine ba ?_ _)); exact BK284.out⟩, ⟨by (with_reducible repeat (first | refine bn ?_ _ | refine bd ?_ | refine ba ?_ _)); exact BK286.out⟩, ⟨by repeat (first | (with_reducible first | exact HI285.out | apply IsS51.alloc | apply IsS51.drewN | apply IsS51.drew | apply IsS51.set_0 | apply IsS51.set_1 | apply IsS51.set_2 | apply IsS51.set_3 | refine IsS51.far ?_ NB285_284.out _ | refine IsS51.far ?_ NB285_286.out _) | exact HI285.out)⟩, ⟨by repeat (first | (with_reducible first | exact HB.out | apply bl | apply pN | apply b1 | refine bs ?_ (IsS51.ge HI285.out) | refine bs ?_ GE284.out | refine bs ?_ GE286.out) | exact HB.out | exact HBo.out)⟩⟩
  case round =>
   clear H'
   try clear c1
   try clear c2
   try clear p2
   try clear c4
   try clear c4b0
   try clear c8
   try clear c9
   try clear c11
   try clear c14
   try clear c19
   try clear c20
   try clear c23
   try clear hcz10_0
   try clear hcz10_1
   try clear hcz10_2
   try clear hcz12_0
   try clear hcz12_1
   try clear hcz12_2
   try clear hcz15_0
   try clear hcz15_1
   try clear hcz15_2
   try clear hcz21_0
   try clear hcz21_1
   try clear hcz21_2
   try clear hcz23_0
   try clear hcz23_1
   try clear hcz23_2
   try clear hfz10_0
   try clear hfz10_1
   try clear hfz10_2
   try clear hfz12_0
   try clear hfz12_1
   try clear hfz12_2
   try clear hfz15_0
   try clear hfz15_1
   try clear hfz15_2
   try clear hfz21_0
   try clear hfz21_1
   try clear hfz21_2
   try clear hfz23_0
   try clear hfz23_1
   try clear hfz23_2
   obtain ⟨x7_1, x286000_1, x286001_1, x286002_1, x286003_1, x287001_1, u287001, rfl, HA, HK1, HO_287001, BK284, BK286, HI285, HB⟩ := hrel
   cases gk with
   | zero => exact absurd HA.out (by simp [shuttlecockref08_Decode.l0])
   | succ k1 =>
    have H := HA.out
    clear HA
    simp only [shuttlecockref08_Decode.l0] at H
    by_cases c25 : x7_1 < t292
    ·
     rw [if_pos c25] at H
     have c25b0 : decide (x7_1 < t292) = true := decide_eq_true c25
     clear c25
     replace H := ob H
     obtain ⟨⟨t298, t299, t300, t301, t302⟩, A260, H⟩ := H
     replace H : ((shuttlecockref02_Reader_Num.f k1 t299 t300 t301 t302).bind fun bt303 => (if x287001_1.length < 8796093022208 then (shuttlecockref08_Decode.l0 k1 a0 t292 (wrap64 (x7_1 + 1)) bt303.2.1 bt303.2.2.1 bt303.2.2.2.1 bt303.2.2.2.2 t287 (x287001_1 ++ [(⟨t298, bt303.1⟩ : S46)])) else (none))) = some (r1, r2, r3, r4) := H
     have A26 := Am A260
     clear A260
     replace H := ob H
     obtain ⟨⟨t303, t304, t305, t306, t307⟩, A270, H⟩ := H
     replace H : (if x287001_1.length < 8796093022208 then (shuttlecockref08_Decode.l0 k1 a0 t292 (wrap64 (x7_1 + 1)) t304 t305 t306 t307 t287 (x287001_1 ++ [(⟨t298, t303⟩ : S46)])) else (none)) = some (r1, r2, r3, r4) := H
     have A27 := Am A270
     clear A270
     by_cases c28 : x287001_1.length < 8796093022208
     ·
      rw [if_pos c28] at H
      have LMc28 := Am c28
      clear c28
      obtain ⟨y308, hy308⟩ : ∃ y_ : List (S46), y_ = (x287001_1 ++ [(⟨t298, t303⟩ : S46)]) := ⟨_, rfl⟩
      replace H : (shuttlecockref08_Decode.l0 k1 a0 t292 (wrap64 (x7_1 + 1)) t304 t305 t306 t307 t287 y308) = some (r1, r2, r3, r4) := by first | (rw [hy308]; with_reducible exact H) | (have H2_ := (Option.bind_some _ _).symm.trans H; rw [hy308]; with_reducible exact H2_) | (have H2_ := (Option.bind_some _ _).symm.trans H; with_reducible exact H2_) | with_reducible exact H | (rw [hy308]; exact H) | exact H
      have Ny308 := Am hy308
      clear hy308
      have H' := Am H
      clear H
      go_wp2_with (first | ((with_reducible refine gate_dst (N := 8) rfl ?_); refine box_event ?hg (N := 8) ?hd (cs := #[.int .i64 0, .int .i64 0]) (t := 46) ?hr ?_; (case hd => rfl); (case hg => rfl); (case hr => first | (go_simp; done) | (go_simp; rfl)); intro gb297 hg w29 hbox hb; have n0_ := Am (Kd.R_below (Kd.R_elderB (by (with_reducible repeat (first | apply Kd.R_alloc | apply Kd.R_drewN | apply Kd.R_drew)); exact HO_287001.out) gb297 (Nat.le_of_eq hg.symm)) hb); have n1_ := Am (blk_below (g := gb284) (o := .cells #[.int .i64 0, .slice none 0 0, .slice none 0 0] 25 (0, 0)) (by (with_reducible repeat (first | refine bn ?_ _ | refine bd ?_ | refine ba ?_ _)); exact BK284.out) hb); have n2_ := Am (blk_below (g := gb286) (o := .cells #[.int .i64 t287, u287001, .slice none 0 0] 25 (0, 0)) (by (with_reducible repeat (first | refine bn ?_ _ | refine bd ?_ | refine ba ?_ _)); exact BK286.out) hb); have n3_ := Am (IsS51.below (by repeat (first | (with_reducible first | exact HI285.out | apply IsS51.alloc | apply IsS51.drewN | apply IsS51.drew | apply IsS51.set_0 | apply IsS51.set_1 | apply IsS51.set_2 | apply IsS51.set_3 | refine IsS51.far ?_ NB285_284.out _ | refine IsS51.far ?_ NB285_286.out _) | exact HI285.out)) hb); have n4_ := Am (below_step (by repeat (first | (with_reducible first | exact HB.out | apply bl | apply pN | apply b1 | refine bs ?_ (IsS51.ge HI285.out) | refine bs ?_ GE284.out | refine bs ?_ GE286.out) | exact HB.out | exact HBo.out)) hb); have n5_ := Am (hbox); have n6_ := Am ((by rw [hg]; exact (below_size (by repeat (first | (with_reducible first | exact HB.out | apply bl | apply pN | apply b1 | refine bs ?_ (IsS51.ge HI285.out) | refine bs ?_ GE284.out | refine bs ?_ GE286.out) | exact HB.out | exact HBo.out))) : w.heap.size ≤ gb297)); have n7_ := Am ((by rw [hg]; exact (below_size (by repeat (first | (with_reducible first | exact HB.out | apply bl | apply pN | apply b1 | refine bs ?_ (IsS51.ge HI285.out) | refine bs ?_ GE284.out | refine bs ?_ GE286.out) | exact HB.out | exact HBo.out))) : w.heap.size ≤ gb297)); have n8_ := Am ((by rw [hg]; exact Nat.ne_of_lt (blk_lt (g := gb284) (o := .cells #[.int .i64 0, .slice none 0 0, .slice none 0 0] 25 (0, 0)) (by (with_reducible repeat (first | refine bn ?_ _ | refine bd ?_ | refine ba ?_ _)); exact BK284.out)) : gb284 ≠ gb297)); have n9_ := Am ((by rw [hg]; exact Nat.ne_of_gt (blk_lt (g := gb284) (o := .cells #[.int .i64 0, .slice none 0 0, .slice none 0 0] 25 (0, 0)) (by (with_reducible repeat (first | refine bn ?_ _ | refine bd ?_ | refine ba ?_ _)); exact BK284.out)) : gb297 ≠ gb284)); have n10_ := Am ((by rw [hg]; exact Nat.ne_of_lt (blk_lt (g := gb286) (o := .cells #[.int .i64 t287, u287001, .slice none 0 0] 25 (0, 0)) (by (with_reducible repeat (first | refine bn ?_ _ | refine bd ?_ | refine ba ?_ _)); exact BK286.out)) : gb286 ≠ gb297)); have n11_ := Am ((by rw [hg]; exact Nat.ne_of_gt (blk_lt (g := gb286) (o := .cells #[.int .i64 t287, u287001, .slice none 0 0] 25 (0, 0)) (by (with_reducible repeat (first | refine bn ?_ _ | refine bd ?_ | refine ba ?_ _)); exact BK286.out)) : gb297 ≠ gb286)); have n12_ := Am ((by rw [hg]; exact Nat.ne_of_lt (IsS51.lt (show IsS51 w _ gb285 x286000_1 x286001_1 x286002_1 x286003_1 from by repeat (first | (with_reducible first | exact HI285.out | apply IsS51.alloc | apply IsS51.drewN | apply IsS51.drew | apply IsS51.set_0 | apply IsS51.set_1 | apply IsS51.set_2 | apply IsS51.set_3 | refine IsS51.far ?_ NB285_284.out _ | refine IsS51.far ?_ NB285_286.out _) | exact HI285.out))) : gb285 ≠ gb297)); have n13_ := Am ((by rw [hg]; exact Nat.ne_of_gt (IsS51.lt (show IsS51 w _ gb285 x286000_1 x286001_1 x286002_1 x286003_1 from by repeat (first | (with_reducible first | exact HI285.out | apply IsS51.alloc | apply IsS51.drewN | apply IsS51.drew | apply IsS51.set_0 | apply IsS51.set_1 | apply IsS51.set_2 | apply IsS51.set_3 | refine IsS51.far ?_ NB285_284.out _ | refine IsS51.far ?_ NB285_286.out _) | exact HI285.out))) : gb297 ≠ gb285)); clear HO_287001; clear BK284; clear BK286; clear HI285; clear HB; have HO_287001 := n0_; have BK284 := n1_; have BK286 := n2_; have HI285 := n3_; have HB := n4_; have BK297 := n5_; have GW297 := n6_; have GE297 := n7_; have NB284_297 := n8_; have NB297_284 := n9_; have NB286_297 := n10_; have NB297_286 := n11_; have NB285_297 := n12_; have NB297_285 := n13_; clear n0_ n1_ n2_ n3_ n4_ n5_ n6_ n7_ n8_ n9_ n10_ n11_ n12_ n13_; clear hb hbox hg; have hnb30 := NB297_284.out; have hnc30 := NB284_297.out; have hnb31 := NB297_286.out; have hnc31 := NB286_297.out; have hnb32 := NB297_285.out; have hnc32 := NB285_297.out; have hcz33_0 : w29.cell? ⟨gb297, 0, none⟩ = some (.int .i64 0) := (bc BK297.out 0).trans rfl; have hcz33_1 : w29.cell? ⟨gb297, 1, none⟩ = some (.int .i64 0) := (bc BK297.out 1).trans rfl; have hfz33_0 := bf BK297.out 0; have hfz33_1 := bf BK297.out 1) | ((with_reducible refine gate_callee (f := 23) rfl ?_); refine goesL_ (some 31) rfl rfl Try.func23 (by kernel_rfl) rfl #[.pointer (some ⟨gb285, 0, none⟩)] rfl (by (try simp only [List.map_toArray, List.map_cons, List.map_nil]); first | done | rfl | (simp only [List.length_drop, List.length_take]; rfl)) ?_; (with_reducible refine (shuttlecockref02_Reader_Num.calls k1 gb285 x286000_1 x286001_1 x286002_1 x286003_1 t298 t299 t300 t301 t302 w _ ?side1 ?side2 A26.out).mono ?_); (case side1 => repeat (first | (with_reducible first | exact HI285.out | apply IsS51.alloc | apply IsS51.drewN | apply IsS51.drew | apply IsS51.set_0 | apply IsS51.set_1 | apply IsS51.set_2 | apply IsS51.set_3 | refine IsS51.far ?_ NB285_284.out _ | refine IsS51.far ?_ NB285_286.out _ | refine IsS51.far ?_ NB285_297.out _) | exact HI285.out)); (case side2 => repeat (first | (with_reducible first | exact HB.out | apply bl | apply pN | apply b1 | refine bs ?_ (IsS51.ge HI285.out) | refine bs ?_ GE284.out | refine bs ?_ GE286.out | refine bs ?_ GE297.out) | exact HB.out | exact HBo.out)); rintro e w34 ⟨rfl, hi, hb, hk⟩; refine ⟨_, rfl, ?_⟩; have n0_ := Am (Kd.R_mono (Kd.R_keep (IsS51.apart (show IsS51 w _ gb285 x286000_1 x286001_1 x286002_1 x286003_1 from by repeat (first | (with_reducible first | exact HI285.out | apply IsS51.alloc | apply IsS51.drewN | apply IsS51.drew | apply IsS51.set_0 | apply IsS51.set_1 | apply IsS51.set_2 | apply IsS51.set_3 | refine IsS51.far ?_ NB285_284.out _ | refine IsS51.far ?_ NB285_286.out _ | refine IsS51.far ?_ NB285_297.out _) | exact HI285.out)) (by (with_reducible repeat (first | apply Kd.R_alloc | apply Kd.R_drewN | apply Kd.R_drew)); exact (Kd.R_mono (Kd.R_far (p := ⟨gb297, 1, none⟩) (Kd.R_far (p := ⟨gb297, 0, none⟩) (Kd.R_mono HO_287001.out (fun k_ hk => (⟨hk, hk.2⟩ : _ ∧ k_ ≠ gb297))) (fun _ hk => hk.2) (.int .i64 0)) (fun _ hk => hk.2) (.int .i64 0)) (fun _ h_ => h_.1))) (by decide)) hk (fun _ h => h.2)) (fun _ h => h.1)); have n1_ := Am (KeepBut.blk hk (g' := gb284) (o := .cells #[.int .i64 0, .slice none 0 0, .slice none 0 0] 25 (0, 0)) (by (with_reducible repeat (first | refine bn ?_ _ | refine bd ?_ | refine ba ?_ _)); refine blk_far ?_ NB284_297.out _; (with_reducible repeat (first | refine bn ?_ _ | refine bd ?_ | refine ba ?_ _)); refine blk_far ?_ NB284_297.out _; (with_reducible repeat (first | refine bn ?_ _ | refine bd ?_ | refine ba ?_ _)); exact BK284.out) NB284_285.out (by simp)); have n2_ := Am (KeepBut.blk hk (g' := gb286) (o := .cells #[.int .i64 t287, u287001, .slice none 0 0] 25 (0, 0)) (by (with_reducible repeat (first | refine bn ?_ _ | refine bd ?_ | refine ba ?_ _)); refine blk_far ?_ NB286_297.out _; (with_reducible repeat (first | refine bn ?_ _ | refine bd ?_ | refine ba ?_ _)); refine blk_far ?_ NB286_297.out _; (with_reducible repeat (first | refine bn ?_ _ | refine bd ?_ | refine ba ?_ _)); exact BK286.out) NB286_285.out (by simp)); have n3_ := Am (KeepBut.blk hk (g' := gb297) (o := .cells #[.int .i64 0, .int .i64 0] 46 (0, 0)) (by (with_reducible repeat (first | refine bn ?_ _ | refine bd ?_ | refine ba ?_ _)); refine blk_put (cs := #[.int .i64 0, .int .i64 0]) ?_ 1 _ rfl; (with_reducible repeat (first | refine bn ?_ _ | refine bd ?_ | refine ba ?_ _)); refine blk_put (cs := #[.int .i64 0, .int .i64 0]) ?_ 0 _ rfl; (with_reducible repeat (first | refine bn ?_ _ | refine bd ?_ | refine ba ?_ _)); exact BK297.out) NB297_285.out (by simp)); have n4_ := Am (hb); have n5_ := Am (hi); clear HO_287001; clear BK284; clear BK286; clear BK297; clear HB; clear HI285; have HO_287001 := n0_; have BK284 := n1_; have BK286 := n2_; have BK297 := n3_; have HB := n4_; have HI285 := n5_; clear n0_ n1_ n2_ n3_ n4_ n5_; (try clear hb); (try clear hb2); (try clear hk); (try clear hi); have hcz35_0 : w34.cell? ⟨gb297, 0, none⟩ = some (.int .i64 0) := (bc BK297.out 0).trans rfl; have hcz35_1 : w34.cell? ⟨gb297, 1, none⟩ = some (.int .i64 0) := (bc BK297.out 1).trans rfl; have hfz35_0 := bf BK297.out 0; have hfz35_1 := bf BK297.out 1) | ((with_reducible refine gate_callee (f := 23) rfl ?_); refine goesL_ (some 34) rfl rfl Try.func23 (by kernel_rfl) rfl #[.pointer (some ⟨gb285, 0, none⟩)] rfl (by (try simp only [List.map_toArray, List.map_cons, List.map_nil]); first | done | rfl | (simp only [List.length_drop, List.length_take]; rfl)) ?_; (with_reducible refine (shuttlecockref02_Reader_Num.calls k1 gb285 t299 t300 t301 t302 t303 t304 t305 t306 t307 w _ ?side1 ?side2 A27.out).mono ?_); (case side1 => repeat (first | (with_reducible first | exact HI285.out | apply IsS51.alloc | apply IsS51.drewN | apply IsS51.drew | apply IsS51.set_0 | apply IsS51.set_1 | apply IsS51.set_2 | apply IsS51.set_3 | refine IsS51.far ?_ NB285_284.out _ | refine IsS51.far ?_ NB285_286.out _ | refine IsS51.far ?_ NB285_297.out _) | exact HI285.out)); (case side2 => repeat (first | (with_reducible first | exact HB.out | apply bl | apply pN | apply b1 | refine bs ?_ (IsS51.ge HI285.out) | refine bs ?_ GE284.out | refine bs ?_ GE286.out | refine bs ?_ GE297.out) | exact HB.out | exact HBo.out)); rintro e w36 ⟨rfl, hi, hb, hk⟩; refine ⟨_, rfl, ?_⟩; have n0_ := Am (Kd.R_mono (Kd.R_keep (IsS51.apart (show IsS51 w _ gb285 t299 t300 t301 t302 from by repeat (first | (with_reducible first | exact HI285.out | apply IsS51.alloc | apply IsS51.drewN | apply IsS51.drew | apply IsS51.set_0 | apply IsS51.set_1 | apply IsS51.set_2 | apply IsS51.set_3 | refine IsS51.far ?_ NB285_284.out _ | refine IsS51.far ?_ NB285_286.out _ | refine IsS51.far ?_ NB285_297.out _) | exact HI285.out)) (by (with_reducible repeat (first | apply Kd.R_alloc | apply Kd.R_drewN | apply Kd.R_drew)); exact (Kd.R_mono (Kd.R_far (p := ⟨gb297, 0, none⟩) (Kd.R_mono HO_287001.out (fun k_ hk => (⟨hk, hk.2⟩ : _ ∧ k_ ≠ gb297))) (fun _ hk => hk.2) (.int .i64 t298)) (fun _ h_ => h_.1))) (by decide)) hk (fun _ h => h.2)) (fun _ h => h.1)); have n1_ := Am (KeepBut.blk hk (g' := gb284) (o := .cells #[.int .i64 0, .slice none 0 0, .slice none 0 0] 25 (0, 0)) (by (with_reducible repeat (first | refine bn ?_ _ | refine bd ?_ | refine ba ?_ _)); refine blk_far ?_ NB284_297.out _; (with_reducible repeat (first | refine bn ?_ _ | refine bd ?_ | refine ba ?_ _)); exact BK284.out) NB284_285.out (by simp)); have n2_ := Am (KeepBut.blk hk (g' := gb286) (o := .cells #[.int .i64 t287, u287001, .slice none 0 0] 25 (0, 0)) (by (with_reducible repeat (first | refine bn ?_ _ | refine bd ?_ | refine ba ?_ _)); refine blk_far ?_ NB286_297.out _; (with_reducible repeat (first | refine bn ?_ _ | refine bd ?_ | refine ba ?_ _)); exact BK286.out) NB286_285.out (by simp)); have n3_ := Am (KeepBut.blk hk (g' := gb297) (o := .cells #[.int .i64 t298, .int .i64 0] 46 (0, 0)) (by (with_reducible repeat (first | refine bn ?_ _ | refine bd ?_ | refine ba ?_ _)); refine blk_put (cs := #[.int .i64 0, .int .i64 0]) ?_ 0 _ rfl; (with_reducible repeat (first | refine bn ?_ _ | refine bd ?_ | refine ba ?_ _)); exact BK297.out) NB297_285.out (by simp)); have n4_ := Am (hb); have n5_ := Am (hi); clear HO_287001; clear BK284; clear BK286; clear BK297; clear HB; clear HI285; have HO_287001 := n0_; have BK284 := n1_; have BK286 := n2_; have BK297 := n3_; have HB := n4_; have HI285 := n5_; clear n0_ n1_ n2_ n3_ n4_ n5_; (try clear hb); (try clear hb2); (try clear hk); (try clear hi); have hcz37_0 : w36.cell? ⟨gb297, 0, none⟩ = some (.int .i64 t298) := (bc BK297.out 0).trans rfl; have hcz37_1 : w36.cell? ⟨gb297, 1, none⟩ = some (.int .i64 0) := (bc BK297.out 1).trans rfl; have hfz37_0 := bf BK297.out 0; have hfz37_1 := bf BK297.out 1; have hnb38 := NB286_284.out; have hnc38 := NB284_286.out; have hnb39 := NB286_285.out; have hnc39 := NB285_286.out; have hcz40_0 : w36.cell? ⟨gb286, 0, none⟩ = some (.int .i64 t287) := (bc BK286.out 0).trans rfl; have hcz40_1 : w36.cell? ⟨gb286, 1, none⟩ = some (u287001) := (bc BK286.out 1).trans rfl; have hcz40_2 : w36.cell? ⟨gb286, 2, none⟩ = some (.slice none 0 0) := (bc BK286.out 2).trans rfl; have hfz40_0 := bf BK286.out 0; have hfz40_1 := bf BK286.out 1; have hfz40_2 := bf BK286.out 2) | ((with_reducible refine gate_builtin (b := .append) (xs := #[.tmp 37, .tmp 39]) rfl ?_); at_builtin; refine Kd.R_append k46 (w0 := w) w.heap.size rfl (.tmp 37) (.tmp 39) 22 46 (.agg #[(.int .i64 0), (.int .i64 0)]) 16 rfl Try.underlying22 info46 rfl (by decide) (by omega) u287001 x287001_1 (⟨t298, t303⟩ : S46) [.int .i64 t298, .int .i64 t303] (fun k_ => k_ ≠ gb297) (fun _ => False) rfl (by first | (go_simp; done) | (go_simp; rfl)) ?aP (fun _ hk => hk.elim) ?aF ?aO ?aB ?aS ?aL ?_; (case aP => exact k46_mkM _ _ _ (⟨t298, t303⟩ : S46)); (case aB => exact (by repeat (first | (with_reducible first | exact HB.out | apply bl | apply pN | apply b1 | refine bs ?_ (IsS51.ge HI285.out) | refine bs ?_ GE284.out | refine bs ?_ GE286.out | refine bs ?_ GE297.out) | exact HB.out | exact HBo.out))); (case aF => exact (fun k_ hk => Kd.freshB (g := gb297) (o := .cells #[.int .i64 t298, .int .i64 t303] 46 (0, 0)) (by (with_reducible repeat (first | refine bn ?_ _ | refine bd ?_ | refine ba ?_ _)); refine blk_put (cs := #[.int .i64 t298, .int .i64 0]) ?_ 1 _ rfl; (with_reducible repeat (first | refine bn ?_ _ | refine bd ?_ | refine ba ?_ _)); exact BK297.out) k_ hk)); (case aO => exact (by (with_reducible repeat (first | apply Kd.R_alloc | apply Kd.R_drewN | apply Kd.R_drew)); exact Kd.R_mono (Kd.R_far (p := ⟨gb297, 1, none⟩) (Kd.R_mono HO_287001.out (fun k_ hk => (⟨hk, hk.2⟩ : _ ∧ k_ ≠ gb297))) (fun _ hk => hk.2) (.int .i64 t303)) (fun _ hk => hk.1.2))); (case aS => exact (below_size (by repeat (first | (with_reducible first | exact HB.out | apply bl | apply pN | apply b1 | refine bs ?_ (IsS51.ge HI285.out) | refine bs ?_ GE284.out | refine bs ?_ GE286.out | refine bs ?_ GE297.out) | exact HB.out | exact HBo.out)))); (case aL => have := LMc28.out; omega); intro v309 w41 ho hb hg hat; rw [← Ny308.out] at ho; have n0_ := Am (blk_grown (g := gb284) (o := .cells #[.int .i64 0, .slice none 0 0, .slice none 0 0] 25 (0, 0)) (by (with_reducible repeat (first | refine bn ?_ _ | refine bd ?_ | refine ba ?_ _)); refine blk_far ?_ NB284_297.out _; (with_reducible repeat (first | refine bn ?_ _ | refine bd ?_ | refine ba ?_ _)); exact BK284.out) hg (Kd.R_ne HO_287001.out BK284.out (by decide))); have n1_ := Am (blk_grown (g := gb286) (o := .cells #[.int .i64 t287, u287001, .slice none 0 0] 25 (0, 0)) (by (with_reducible repeat (first | refine bn ?_ _ | refine bd ?_ | refine ba ?_ _)); refine blk_far ?_ NB286_297.out _; (with_reducible repeat (first | refine bn ?_ _ | refine bd ?_ | refine ba ?_ _)); exact BK286.out) hg (Kd.R_ne HO_287001.out BK286.out (by decide))); have n2_ := Am (IsS51.grown (show IsS51 w _ gb285 t304 t305 t306 t307 from by repeat (first | (with_reducible first | exact HI285.out | apply IsS51.alloc | apply IsS51.drewN | apply IsS51.drew | apply IsS51.set_0 | apply IsS51.set_1 | apply IsS51.set_2 | apply IsS51.set_3 | refine IsS51.far ?_ NB285_284.out _ | refine IsS51.far ?_ NB285_286.out _ | refine IsS51.far ?_ NB285_297.out _) | exact HI285.out)) hg (IsS51.own_ne HI285.out HO_287001.out (by decide))); have n3_ := Am (blk_grown (g := gb297) (o := .cells #[.int .i64 t298, .int .i64 t303] 46 (0, 0)) (by (with_reducible repeat (first | refine bn ?_ _ | refine bd ?_ | refine ba ?_ _)); refine blk_put (cs := #[.int .i64 t298, .int .i64 0]) ?_ 1 _ rfl; (with_reducible repeat (first | refine bn ?_ _ | refine bd ?_ | refine ba ?_ _)); exact BK297.out) hg (Kd.R_away HO_287001.out (fun _ hk => hk.2))); have n4_ := Am (hb); have n5_ := Am (ho); clear BK284; clear BK286; clear HI285; clear BK297; clear HB; clear HO_287001; have BK284 := n0_; have BK286 := n1_; have HI285 := n2_; have BK297 := n3_; have HB := n4_; have HO310 := n5_; clear n0_ n1_ n2_ n3_ n4_ n5_; clear ho hb hg hat; obtain ⟨Ao42, co42, eo42⟩ := Kd.R_slice HO310.out; subst eo42; have hcz43_0 : w41.cell? ⟨gb286, 0, none⟩ = some (.int .i64 t287) := (bc BK286.out 0).trans rfl; have hcz43_1 : w41.cell? ⟨gb286, 1, none⟩ = some (u287001) := (bc BK286.out 1).trans rfl; have hcz43_2 : w41.cell? ⟨gb286, 2, none⟩ = some (.slice none 0 0) := (bc BK286.out 2).trans rfl; have hfz43_0 := bf BK286.out 0; have hfz43_1 := bf BK286.out 1; have hfz43_2 := bf BK286.out 2))
      go_roundg k1
      case measure => have := HK1.out; omega
      case rel => exact ⟨(wrap64 (x7_1 + 1)), (t304), (t305), (t306), (t307), (y308), (.slice Ao42 y308.length co42), (by first | rfl | (simp; done) | (simp [*]; done)), H', ⟨by have := HK1.out; omega⟩, ⟨by (with_reducible repeat (first | apply Kd.R_alloc | apply Kd.R_drewN | apply Kd.R_drew)); exact Kd.R_mono (Kd.R_far (p := ⟨gb286, 1, none⟩) (Kd.R_types HO310.out BK286.out (by decide)) (fun _ hk => hk.2) (.slice Ao42 y308.length co42)) (fun _ hk => trivial)⟩, ⟨by (with_reducible repeat (first | refine bn ?_ _ | refine bd ?_ | refine ba ?_ _)); refine blk_far ?_ NB284_286.out _; (with_reducible repeat (first | refine bn ?_ _ | refine bd ?_ | refine ba ?_ _)); exact BK284.out⟩, ⟨by (with_reducible repeat (first | refine bn ?_ _ | refine bd ?_ | refine ba ?_ _)); refine blk_put (cs := #[.int .i64 t287, u287001, .slice none 0 0]) ?_ 1 _ rfl; (with_reducible repeat (first | refine bn ?_ _ | refine bd ?_ | refine ba ?_ _)); exact BK286.out⟩, ⟨by repeat (first | (with_reducible first | exact HI285.out | apply IsS51.alloc | apply IsS51.drewN | apply IsS51.drew | apply IsS51.set_0 | apply IsS51.set_1 | apply IsS51.set_2 | apply IsS51.set_3 | refine IsS51.far ?_ NB285_284.out _ | refine IsS51.far ?_ NB285_286.out _ | refine IsS51.far ?_ NB285_297.out _) | exact HI285.out)⟩, ⟨by repeat (first | (with_reducible first | exact HB.out | apply bl | apply pN | apply b1 | refine bs ?_ (IsS51.ge HI285.out) | refine bs ?_ GE284.out | refine bs ?_ GE286.out | refine bs ?_ GE297.out) | exact HB.out | exact HBo.out)⟩⟩
     ·
      rw [if_neg c28] at H
      exact absurd H (by simp)
    ·
     rw [if_neg c25] at H
     have c25b0 : decide (x7_1 < t292) = false := decide_eq_false c25
     clear c25
     replace H := ob H
     obtain ⟨⟨t311, t312, t313, t314, t315⟩, A440, H⟩ := H
     replace H : (if t314 = 0 then (if t311 > 1000 then (some (0, ([] : List (S46)), ([] : List (S36)), 80)) else (shuttlecockref08_Decode.l1 k1 a0 t311 0 t312 t313 t314 t315 t287 x287001_1 ([] : List (S36)))) else (some (0, ([] : List (S46)), ([] : List (S36)), t314))) = some (r1, r2, r3, r4) := H
     have A44 := Am A440
     clear A440
     by_cases c45 : t314 = 0
     ·
      rw [if_pos c45] at H
      have c45b0 : (t314 == 0) = true := beq_iff_eq.mpr c45
      have c45b1 : (t314 != 0) = false := bne_eq_false_iff_eq.mpr c45
      clear c45
      by_cases c46 : t311 > 1000
      ·
       rw [if_pos c46] at H
       have c46b0 : decide (1000 < t311) = true := decide_eq_true c46
       clear c46
       simp only [Option.some.injEq, Prod.mk.injEq] at H
       obtain ⟨rfl, rfl, rfl, rfl⟩ := H
       go_wp2_with (first | ((with_reducible refine gate_callee (f := 23) rfl ?_); refine goesL_ (some 43) rfl rfl Try.func23 (by kernel_rfl) rfl #[.pointer (some ⟨gb285, 0, none⟩)] rfl (by (try simp only [List.map_toArray, List.map_cons, List.map_nil]); first | done | rfl | (simp only [List.length_drop, List.length_take]; rfl)) ?_; (with_reducible refine (shuttlecockref02_Reader_Num.calls k1 gb285 x286000_1 x286001_1 x286002_1 x286003_1 t311 t312 t313 t314 t315 w _ ?side1 ?side2 A44.out).mono ?_); (case side1 => repeat (first | (with_reducible first | exact HI285.out | apply IsS51.alloc | apply IsS51.drewN | apply IsS51.drew | apply IsS51.set_0 | apply IsS51.set_1 | apply IsS51.set_2 | apply IsS51.set_3 | refine IsS51.far ?_ NB285_284.out _ | refine IsS51.far ?_ NB285_286.out _) | exact HI285.out)); (case side2 => repeat (first | (with_reducible first | exact HB.out | apply bl | apply pN | apply b1 | refine bs ?_ (IsS51.ge HI285.out) | refine bs ?_ GE284.out | refine bs ?_ GE286.out) | exact HB.out | exact HBo.out)); rintro e w47 ⟨rfl, hi, hb, hk⟩; refine ⟨_, rfl, ?_⟩; have n0_ := Am (Kd.R_mono (Kd.R_keep (IsS51.apart (show IsS51 w _ gb285 x286000_1 x286001_1 x286002_1 x286003_1 from by repeat (first | (with_reducible first | exact HI285.out | apply IsS51.alloc | apply IsS51.drewN | apply IsS51.drew | apply IsS51.set_0 | apply IsS51.set_1 | apply IsS51.set_2 | apply IsS51.set_3 | refine IsS51.far ?_ NB285_284.out _ | refine IsS51.far ?_ NB285_286.out _) | exact HI285.out)) (by (with_reducible repeat (first | apply Kd.R_alloc | apply Kd.R_drewN | apply Kd.R_drew)); exact HO_287001.out) (by decide)) hk (fun _ h => h.2)) (fun _ h => h.1)); have n1_ := Am (KeepBut.blk hk (g' := gb284) (o := .cells #[.int .i64 0, .slice none 0 0, .slice none 0 0] 25 (0, 0)) (by (with_reducible repeat (first | refine bn ?_ _ | refine bd ?_ | refine ba ?_ _)); exact BK284.out) NB284_285.out (by simp)); have n2_ := Am (KeepBut.blk hk (g' := gb286) (o := .cells #[.int .i64 t287, u287001, .slice none 0 0] 25 (0, 0)) (by (with_reducible repeat (first | refine bn ?_ _ | refine bd ?_ | refine ba ?_ _)); exact BK286.out) NB286_285.out (by simp)); have n3_ := Am (hb); have n4_ := Am (hi); clear HO_287001; clear BK284; clear BK286; clear HB; clear HI285; have HO_287001 := n0_; have BK284 := n1_; have BK286 := n2_; have HB := n3_; have HI285 := n4_; clear n0_ n1_ n2_ n3_ n4_; (try clear hb); (try clear hb2); (try clear hk); (try clear hi); obtain ⟨HGz48, hgz48⟩ := HI285.out; have hcz48_0 := cellS51_0 HGz48; have hcz48_1 := cellS51_1 HGz48; have hcz48_2 := cellS51_2 HGz48; have hcz48_3 := cellS51_3 HGz48; have hfz48_0 := bf HGz48 0; have hfz48_1 := bf HGz48 1; have hfz48_2 := bf HGz48 2; have hfz48_3 := bf HGz48 3; clear HGz48 hgz48; have hnb49 := NB284_286.out; have hnc49 := NB286_284.out; have hnb50 := NB284_285.out; have hnc50 := NB285_284.out; have hcz51_0 : w47.cell? ⟨gb284, 0, none⟩ = some (.int .i64 0) := (bc BK284.out 0).trans rfl; have hcz51_1 : w47.cell? ⟨gb284, 1, none⟩ = some (.slice none 0 0) := (bc BK284.out 1).trans rfl; have hcz51_2 : w47.cell? ⟨gb284, 2, none⟩ = some (.slice none 0 0) := (bc BK284.out 2).trans rfl; have hfz51_0 := bf BK284.out 0; have hfz51_1 := bf BK284.out 1; have hfz51_2 := bf BK284.out 2))
       refine bodyPost_ret (results_ct rfl _ _ gb284 25 #[.int .i64 0, .slice none 0 0, .slice none 0 0] (0, 0) _ rfl (by (with_reducible repeat (first | refine bn ?_ _ | refine bd ?_ | refine ba ?_ _)); refine blk_put (cs := #[.int .i64 0, .slice none 0 0, .slice none 0 0]) ?_ 2 _ rfl; (with_reducible repeat (first | refine bn ?_ _ | refine bd ?_ | refine ba ?_ _)); refine blk_put (cs := #[.int .i64 0, .slice none 0 0, .slice none 0 0]) ?_ 1 _ rfl; (with_reducible repeat (first | refine bn ?_ _ | refine bd ?_ | refine ba ?_ _)); refine blk_put (cs := #[.int .i64 0, .slice none 0 0, .slice none 0 0]) ?_ 0 _ rfl; (with_reducible repeat (first | refine bn ?_ _ | refine bd ?_ | refine ba ?_ _)); exact BK284.out) Try.underlying25 rfl (by kernel_rfl)) rfl ?_
       exact ⟨_, _, by first | rfl | (simp [errW_none, errW_some] <;> rfl) | (simp [*, errW_none, errW_some] <;> rfl) | (simp [Aid.ne_nil, Aid.eq_nil, errW_none, errW_some]; done), by first | exact Kd.R_nil _ _ _ _ _ | exact Kd.N_nil _ _ _ _ _ | exact Kd.V_nil _ _ _ _ _ | exact Kd.Q_nil _ _ _ _ _ | exact Kd.S_nil _ _ _ _ _, by first | exact Kd.R_nil _ _ _ _ _ | exact Kd.N_nil _ _ _ _ _ | exact Kd.V_nil _ _ _ _ _ | exact Kd.Q_nil _ _ _ _ _ | exact Kd.S_nil _ _ _ _ _, by repeat (first | (with_reducible first | exact HB.out | apply bl | apply pN | apply b1 | refine bs ?_ (IsS51.ge HI285.out) | refine bs ?_ GE284.out | refine bs ?_ GE286.out) | exact HB.out | exact HBo.out)⟩
      ·
       rw [if_neg c46] at H
       have c46b0 : decide (1000 < t311) = false := decide_eq_false c46
       clear c46
       have H' := Am H
       clear H
       go_wp2_with (first | ((with_reducible refine gate_callee (f := 23) rfl ?_); refine goesL_ (some 43) rfl rfl Try.func23 (by kernel_rfl) rfl #[.pointer (some ⟨gb285, 0, none⟩)] rfl (by (try simp only [List.map_toArray, List.map_cons, List.map_nil]); first | done | rfl | (simp only [List.length_drop, List.length_take]; rfl)) ?_; (with_reducible refine (shuttlecockref02_Reader_Num.calls k1 gb285 x286000_1 x286001_1 x286002_1 x286003_1 t311 t312 t313 t314 t315 w _ ?side1 ?side2 A44.out).mono ?_); (case side1 => repeat (first | (with_reducible first | exact HI285.out | apply IsS51.alloc | apply IsS51.drewN | apply IsS51.drew | apply IsS51.set_0 | apply IsS51.set_1 | apply IsS51.set_2 | apply IsS51.set_3 | refine IsS51.far ?_ NB285_284.out _ | refine IsS51.far ?_ NB285_286.out _) | exact HI285.out)); (case side2 => repeat (first | (with_reducible first | exact HB.out | apply bl | apply pN | apply b1 | refine bs ?_ (IsS51.ge HI285.out) | refine bs ?_ GE284.out | refine bs ?_ GE286.out) | exact HB.out | exact HBo.out)); rintro e w52 ⟨rfl, hi, hb, hk⟩; refine ⟨_, rfl, ?_⟩; have n0_ := Am (Kd.R_mono (Kd.R_keep (IsS51.apart (show IsS51 w _ gb285 x286000_1 x286001_1 x286002_1 x286003_1 from by repeat (first | (with_reducible first | exact HI285.out | apply IsS51.alloc | apply IsS51.drewN | apply IsS51.drew | apply IsS51.set_0 | apply IsS51.set_1 | apply IsS51.set_2 | apply IsS51.set_3 | refine IsS51.far ?_ NB285_284.out _ | refine IsS51.far ?_ NB285_286.out _) | exact HI285.out)) (by (with_reducible repeat (first | apply Kd.R_alloc | apply Kd.R_drewN | apply Kd.R_drew)); exact HO_287001.out) (by decide)) hk (fun _ h => h.2)) (fun _ h => h.1)); have n1_ := Am (KeepBut.blk hk (g' := gb284) (o := .cells #[.int .i64 0, .slice none 0 0, .slice none 0 0] 25 (0, 0)) (by (with_reducible repeat (first | refine bn ?_ _ | refine bd ?_ | refine ba ?_ _)); exact BK284.out) NB284_285.out (by simp)); have n2_ := Am (KeepBut.blk hk (g' := gb286) (o := .cells #[.int .i64 t287, u287001, .slice none 0 0] 25 (0, 0)) (by (with_reducible repeat (first | refine bn ?_ _ | refine bd ?_ | refine ba ?_ _)); exact BK286.out) NB286_285.out (by simp)); have n3_ := Am (hb); have n4_ := Am (hi); clear HO_287001; clear BK284; clear BK286; clear HB; clear HI285; have HO_287001 := n0_; have BK284 := n1_; have BK286 := n2_; have HB := n3_; have HI285 := n4_; clear n0_ n1_ n2_ n3_ n4_; (try clear hb); (try clear hb2); (try clear hk); (try clear hi); obtain ⟨HGz53, hgz53⟩ := HI285.out; have hcz53_0 := cellS51_0 HGz53; have hcz53_1 := cellS51_1 HGz53; have hcz53_2 := cellS51_2 HGz53; have hcz53_3 := cellS51_3 HGz53; have hfz53_0 := bf HGz53 0; have hfz53_1 := bf HGz53 1; have hfz53_2 := bf HGz53 2; have hfz53_3 := bf HGz53 3; clear HGz53 hgz53))
       go_loopg [10] k1 (fun kq v10 w' => ∃ (x10_2 : Int) (x286000_2 : ByteArray) (x286001_2 : Int) (x286002_2 : Int) (x286003_2 : Int) (x287002_2 : List (S36)) (u287002 : Value), v10 = .int .i64 x10_2 ∧ Aside0 (shuttlecockref08_Decode.l1 kq a0 t311 x10_2 x286000_2 x286001_2 x286002_2 x286003_2 t287 x287001_1 x287002_2 = some (r1, r2, r3, r4)) ∧ Aside0 (kq ≤ k1) ∧ Aside0 (Kd.R k46 46 w' w.heap.size (fun _ => True) u287001 x287001_1) ∧ Aside0 (Kd.R k36 36 w' w.heap.size (fun _ => True) u287002 x287002_2) ∧ Aside0 (w'.heap[gb284]? = some (.cells #[.int .i64 0, (.slice none 0 0), (.slice none 0 0)] 25 (0, 0))) ∧ Aside0 (w'.heap[gb286]? = some (.cells #[.int .i64 t287, u287001, u287002] 25 (0, 0))) ∧ Aside0 (IsS51 w w' gb285 x286000_2 x286001_2 x286002_2 x286003_2) ∧ Aside0 (Below w.heap.size w w'))
       case atStart => exact ⟨(0), (t312), (t313), (t314), (t315), (([] : List (S36))), (.slice none 0 0), (by first | rfl | (simp; done) | (simp [*]; done)), H', ⟨Nat.le_refl _⟩, ⟨by (with_reducible repeat (first | apply Kd.R_alloc | apply Kd.R_drewN | apply Kd.R_drew)); exact HO_287001.out⟩, ⟨by first | exact Kd.R_nil _ _ _ _ _ | exact Kd.N_nil _ _ _ _ _ | exact Kd.V_nil _ _ _ _ _ | exact Kd.Q_nil _ _ _ _ _ | exact Kd.S_nil _ _ _ _ _⟩, ⟨by (with_reducible repeat (first | refine bn ?_ _ | refine bd ?_ | refine ba ?_ _)); exact BK284.out⟩, ⟨by (with_reducible repeat (first | refine bn ?_ _ | refine bd ?_ | refine ba ?_ _)); exact BK286.out⟩, ⟨by repeat (first | (with_reducible first | exact HI285.out | apply IsS51.alloc | apply IsS51.drewN | apply IsS51.drew | apply IsS51.set_0 | apply IsS51.set_1 | apply IsS51.set_2 | apply IsS51.set_3 | refine IsS51.far ?_ NB285_284.out _ | refine IsS51.far ?_ NB285_286.out _) | exact HI285.out)⟩, ⟨by repeat (first | (with_reducible first | exact HB.out | apply bl | apply pN | apply b1 | refine bs ?_ (IsS51.ge HI285.out) | refine bs ?_ GE284.out | refine bs ?_ GE286.out) | exact HB.out | exact HBo.out)⟩⟩
       case round =>
        clear H'
        try clear c1
        try clear c2
        try clear p2
        try clear c3
        try clear c4
        try clear c4b0
        try clear c5
        try clear p6
        try clear c8
        try clear c9
        try clear c11
        try clear c14
        try clear c19
        try clear c20
        try clear c23
        try clear c25
        try clear c25b0
        try clear c28
        try clear c30
        try clear c31
        try clear c32
        try clear c38
        try clear c39
        try clear c45
        try clear c45b0
        try clear c45b1
        try clear c46
        try clear c46b0
        try clear c49
        try clear c50
        try clear hcz10_0
        try clear hcz10_1
        try clear hcz10_2
        try clear hcz12_0
        try clear hcz12_1
        try clear hcz12_2
        try clear hcz15_0
        try clear hcz15_1
        try clear hcz15_2
        try clear hcz21_0
        try clear hcz21_1
        try clear hcz21_2
        try clear hcz23_0
        try clear hcz23_1
        try clear hcz23_2
        try clear hcz33_0
        try clear hcz33_1
        try clear hcz35_0
        try clear hcz35_1
        try clear hcz37_0
        try clear hcz37_1
        try clear hcz40_0
        try clear hcz40_1
        try clear hcz40_2
        try clear hcz43_0
        try clear hcz43_1
        try clear hcz43_2
        try clear hcz48_0
        try clear hcz48_1
        try clear hcz48_2
        try clear hcz48_3
        try clear hcz51_0
        try clear hcz51_1
        try clear hcz51_2
        try clear hcz53_0
        try clear hcz53_1
        try clear hcz53_2
        try clear hcz53_3
        try clear hfz10_0
        try clear hfz10_1
        try clear hfz10_2
        try clear hfz12_0
        try clear hfz12_1
        try clear hfz12_2
        try clear hfz15_0
        try clear hfz15_1
        try clear hfz15_2
        try clear hfz21_0
        try clear hfz21_1
        try clear hfz21_2
        try clear hfz23_0
        try clear hfz23_1
        try clear hfz23_2
        try clear hfz33_0
        try clear hfz33_1
        try clear hfz35_0
        try clear hfz35_1
        try clear hfz37_0
        try clear hfz37_1
        try clear hfz40_0
        try clear hfz40_1
        try clear hfz40_2
        try clear hfz43_0
        try clear hfz43_1
        try clear hfz43_2
        try clear hfz48_0
        try clear hfz48_1
        try clear hfz48_2
        try clear hfz48_3
        try clear hfz51_0
        try clear hfz51_1
        try clear hfz51_2
        try clear hfz53_0
        try clear hfz53_1
        try clear hfz53_2
        try clear hfz53_3
        try clear p2
        obtain ⟨x10_2, x286000_2, x286001_2, x286002_2, x286003_2, x287002_2, u287002, rfl, HA, HK2, HO_287001, HO_287002, BK284, BK286, HI285, HB⟩ := hrel
        cases gk with
        | zero => exact absurd HA.out (by simp [shuttlecockref08_Decode.l1])
        | succ k2 =>
         have H := HA.out
         clear HA
         simp only [shuttlecockref08_Decode.l1] at H
         by_cases c54 : x10_2 < t311
         ·
          rw [if_pos c54] at H
          have c54b0 : decide (x10_2 < t311) = true := decide_eq_true c54
          clear c54
          replace H := ob H
          obtain ⟨⟨t317, t318, t319, t320, t321⟩, A550, H⟩ := H
          replace H : ((shuttlecockref02_Reader_Num.f k2 t318 t319 t320 t321).bind fun bt322 => ((shuttlecockref02_Reader_Num.f k2 bt322.2.1 bt322.2.2.1 bt322.2.2.2.1 bt322.2.2.2.2).bind fun bt327 => ((shuttlecockref02_Reader_Num.f k2 bt327.2.1 bt327.2.2.1 bt327.2.2.2.1 bt327.2.2.2.2).bind fun bt332 => (if x287002_2.length < 4398046511104 then (shuttlecockref08_Decode.l1 k2 a0 t311 (wrap64 (x10_2 + 1)) bt332.2.1 bt332.2.2.1 bt332.2.2.2.1 bt332.2.2.2.2 t287 x287001_1 (x287002_2 ++ [(⟨t317, bt322.1, bt327.1, bt332.1⟩ : S36)])) else (none))))) = some (r1, r2, r3, r4) := H
          have A55 := Am A550
          clear A550
          replace H := ob H
          obtain ⟨⟨t322, t323, t324, t325, t326⟩, A560, H⟩ := H
          replace H : ((shuttlecockref02_Reader_Num.f k2 t323 t324 t325 t326).bind fun bt327 => ((shuttlecockref02_Reader_Num.f k2 bt327.2.1 bt327.2.2.1 bt327.2.2.2.1 bt327.2.2.2.2).bind fun bt332 => (if x287002_2.length < 4398046511104 then (shuttlecockref08_Decode.l1 k2 a0 t311 (wrap64 (x10_2 + 1)) bt332.2.1 bt332.2.2.1 bt332.2.2.2.1 bt332.2.2.2.2 t287 x287001_1 (x287002_2 ++ [(⟨t317, t322, bt327.1, bt332.1⟩ : S36)])) else (none)))) = some (r1, r2, r3, r4) := H
          have A56 := Am A560
          clear A560
          replace H := ob H
          obtain ⟨⟨t327, t328, t329, t330, t331⟩, A570, H⟩ := H
          replace H : ((shuttlecockref02_Reader_Num.f k2 t328 t329 t330 t331).bind fun bt332 => (if x287002_2.length < 4398046511104 then (shuttlecockref08_Decode.l1 k2 a0 t311 (wrap64 (x10_2 + 1)) bt332.2.1 bt332.2.2.1 bt332.2.2.2.1 bt332.2.2.2.2 t287 x287001_1 (x287002_2 ++ [(⟨t317, t322, t327, bt332.1⟩ : S36)])) else (none))) = some (r1, r2, r3, r4) := H
          have A57 := Am A570
          clear A570
          replace H := ob H
          obtain ⟨⟨t332, t333, t334, t335, t336⟩, A580, H⟩ := H
          replace H : (if x287002_2.length < 4398046511104 then (shuttlecockref08_Decode.l1 k2 a0 t311 (wrap64 (x10_2 + 1)) t333 t334 t335 t336 t287 x287001_1 (x287002_2 ++ [(⟨t317, t322, t327, t332⟩ : S36)])) else (none)) = some (r1, r2, r3, r4) := H
          have A58 := Am A580
          clear A580
          by_cases c59 : x287002_2.length < 4398046511104
          ·
           rw [if_pos c59] at H
           have LMc59 := Am c59
           clear c59
           obtain ⟨y337, hy337⟩ : ∃ y_ : List (S36), y_ = (x287002_2 ++ [(⟨t317, t322, t327, t332⟩ : S36)]) := ⟨_, rfl⟩
           replace H : (shuttlecockref08_Decode.l1 k2 a0 t311 (wrap64 (x10_2 + 1)) t333 t334 t335 t336 t287 x287001_1 y337) = some (r1, r2, r3, r4) := by first | (rw [hy337]; with_reducible exact H) | (have H2_ := (Option.bind_some _ _).symm.trans H; rw [hy337]; with_reducible exact H2_) | (have H2_ := (Option.bind_some _ _).symm.trans H; with_reducible exact H2_) | with_reducible exact H | (rw [hy337]; exact H) | exact H
           have Ny337 := Am hy337
           clear hy337
           have H' := Am H
           clear H
           go_wp2_with (first | ((with_reducible refine gate_dst (N := 11) rfl ?_); refine box_event ?hg (N := 11) ?hd (cs := #[.int .i64 0, .int .i64 0, .int .i64 0, .int .i64 0]) (t := 36) ?hr ?_; (case hd => rfl); (case hg => rfl); (case hr => first | (go_simp; done) | (go_simp; rfl)); intro gb316 hg w60 hbox hb; have n0_ := Am (Kd.R_below (by (with_reducible repeat (first | apply Kd.R_alloc | apply Kd.R_drewN | apply Kd.R_drew)); exact HO_287001.out) hb); have n1_ := Am (Kd.R_below (Kd.R_elderB (by (with_reducible repeat (first | apply Kd.R_alloc | apply Kd.R_drewN | apply Kd.R_drew)); exact HO_287002.out) gb316 (Nat.le_of_eq hg.symm)) hb); have n2_ := Am (blk_below (g := gb284) (o := .cells #[.int .i64 0, .slice none 0 0, .slice none 0 0] 25 (0, 0)) (by (with_reducible repeat (first | refine bn ?_ _ | refine bd ?_ | refine ba ?_ _)); exact BK284.out) hb); have n3_ := Am (blk_below (g := gb286) (o := .cells #[.int .i64 t287, u287001, u287002] 25 (0, 0)) (by (with_reducible repeat (first | refine bn ?_ _ | refine bd ?_ | refine ba ?_ _)); exact BK286.out) hb); have n4_ := Am (IsS51.below (by repeat (first | (with_reducible first | exact HI285.out | apply IsS51.alloc | apply IsS51.drewN | apply IsS51.drew | apply IsS51.set_0 | apply IsS51.set_1 | apply IsS51.set_2 | apply IsS51.set_3 | refine IsS51.far ?_ NB285_284.out _ | refine IsS51.far ?_ NB285_286.out _) | exact HI285.out)) hb); have n5_ := Am (below_step (by repeat (first | (with_reducible first | exact HB.out | apply bl | apply pN | apply b1 | refine bs ?_ (IsS51.ge HI285.out) | refine bs ?_ GE284.out | refine bs ?_ GE286.out) | exact HB.out | exact HBo.out)) hb); have n6_ := Am (hbox); have n7_ := Am ((by rw [hg]; exact (below_size (by repeat (first | (with_reducible first | exact HB.out | apply bl | apply pN | apply b1 | refine bs ?_ (IsS51.ge HI285.out) | refine bs ?_ GE284.out | refine bs ?_ GE286.out) | exact HB.out | exact HBo.out))) : w.heap.size ≤ gb316)); have n8_ := Am ((by rw [hg]; exact (below_size (by repeat (first | (with_reducible first | exact HB.out | apply bl | apply pN | apply b1 | refine bs ?_ (IsS51.ge HI285.out) | refine bs ?_ GE284.out | refine bs ?_ GE286.out) | exact HB.out | exact HBo.out))) : w.heap.size ≤ gb316)); have n9_ := Am ((by rw [hg]; exact Nat.ne_of_lt (blk_lt (g := gb284) (o := .cells #[.int .i64 0, .slice none 0 0, .slice none 0 0] 25 (0, 0)) (by (with_reducible repeat (first | refine bn ?_ _ | refine bd ?_ | refine ba ?_ _)); exact BK284.out)) : gb284 ≠ gb316)); have n10_ := Am ((by rw [hg]; exact Nat.ne_of_gt (blk_lt (g := gb284) (o := .cells #[.int .i64 0, .slice none 0 0, .slice none 0 0] 25 (0, 0)) (by (with_reducible repeat (first | refine bn ?_ _ | refine bd ?_ | refine ba ?_ _)); exact BK284.out)) : gb316 ≠ gb284)); have n11_ := Am ((by rw [hg]; exact Nat.ne_of_lt (blk_lt (g := gb286) (o := .cells #[.int .i64 t287, u287001, u287002] 25 (0, 0)) (by (with_reducible repeat (first | refine bn ?_ _ | refine bd ?_ | refine ba ?_ _)); exact BK286.out)) : gb286 ≠ gb316)); have n12_ := Am ((by rw [hg]; exact Nat.ne_of_gt (blk_lt (g := gb286) (o := .cells #[.int .i64 t287, u287001, u287002] 25 (0, 0)) (by (with_reducible repeat (first | refine bn ?_ _ | refine bd ?_ | refine ba ?_ _)); exact BK286.out)) : gb316 ≠ gb286)); have n13_ := Am ((by rw [hg]; exact Nat.ne_of_lt (IsS51.lt (show IsS51 w _ gb285 x286000_2 x286001_2 x286002_2 x286003_2 from by repeat (first | (with_reducible first | exact HI285.out | apply IsS51.alloc | apply IsS51.drewN | apply IsS51.drew | apply IsS51.set_0 | apply IsS51.set_1 | apply IsS51.set_2 | apply IsS51.set_3 | refine IsS51.far ?_ NB285_284.out _ | refine IsS51.far ?_ NB285_286.out _) | exact HI285.out))) : gb285 ≠ gb316)); have n14_ := Am ((by rw [hg]; exact Nat.ne_of_gt (IsS51.lt (show IsS51 w _ gb285 x286000_2 x286001_2 x286002_2 x286003_2 from by repeat (first | (with_reducible first | exact HI285.out | apply IsS51.alloc | apply IsS51.drewN | apply IsS51.drew | apply IsS51.set_0 | apply IsS51.set_1 | apply IsS51.set_2 | apply IsS51.set_3 | refine IsS51.far ?_ NB285_284.out _ | refine IsS51.far ?_ NB285_286.out _) | exact HI285.out))) : gb316 ≠ gb285)); clear HO_287001; clear HO_287002; clear BK284; clear BK286; clear HI285; clear HB; have HO_287001 := n0_; have HO_287002 := n1_; have BK284 := n2_; have BK286 := n3_; have HI285 := n4_; have HB := n5_; have BK316 := n6_; have GW316 := n7_; have GE316 := n8_; have NB284_316 := n9_; have NB316_284 := n10_; have NB286_316 := n11_; have NB316_286 := n12_; have NB285_316 := n13_; have NB316_285 := n14_; clear n0_ n1_ n2_ n3_ n4_ n5_ n6_ n7_ n8_ n9_ n10_ n11_ n12_ n13_ n14_; clear hb hbox hg; have hnb61 := NB316_284.out; have hnc61 := NB284_316.out; have hnb62 := NB316_286.out; have hnc62 := NB286_316.out; have hnb63 := NB316_285.out; have hnc63 := NB285_316.out; have hcz64_0 : w60.cell? ⟨gb316, 0, none⟩ = some (.int .i64 0) := (bc BK316.out 0).trans rfl; have hcz64_1 : w60.cell? ⟨gb316, 1, none⟩ = some (.int .i64 0) := (bc BK316.out 1).trans rfl; have hcz64_2 : w60.cell? ⟨gb316, 2, none⟩ = some (.int .i64 0) := (bc BK316.out 2).trans rfl; have hcz64_3 : w60.cell? ⟨gb316, 3, none⟩ = some (.int .i64 0) := (bc BK316.out 3).trans rfl; have hfz64_0 := bf BK316.out 0; have hfz64_1 := bf BK316.out 1; have hfz64_2 := bf BK316.out 2; have hfz64_3 := bf BK316.out 3) | ((with_reducible refine gate_callee (f := 23) rfl ?_); refine goesL_ (some 64) rfl rfl Try.func23 (by kernel_rfl) rfl #[.pointer (some ⟨gb285, 0, none⟩)] rfl (by (try simp only [List.map_toArray, List.map_cons, List.map_nil]); first | done | rfl | (simp only [List.length_drop, List.length_take]; rfl)) ?_; (with_reducible refine (shuttlecockref02_Reader_Num.calls k2 gb285 x286000_2 x286001_2 x286002_2 x286003_2 t317 t318 t319 t320 t321 w _ ?side1 ?side2 A55.out).mono ?_); (case side1 => repeat (first | (with_reducible first | exact HI285.out | apply IsS51.alloc | apply IsS51.drewN | apply IsS51.drew | apply IsS51.set_0 | apply IsS51.set_1 | apply IsS51.set_2 | apply IsS51.set_3 | refine IsS51.far ?_ NB285_284.out _ | refine IsS51.far ?_ NB285_286.out _ | refine IsS51.far ?_ NB285_316.out _) | exact HI285.out)); (case side2 => repeat (first | (with_reducible first | exact HB.out | apply bl | apply pN | apply b1 | refine bs ?_ (IsS51.ge HI285.out) | refine bs ?_ GE284.out | refine bs ?_ GE286.out | refine bs ?_ GE316.out) | exact HB.out | exact HBo.out)); rintro e w65 ⟨rfl, hi, hb, hk⟩; refine ⟨_, rfl, ?_⟩; have n0_ := Am (Kd.R_mono (Kd.R_keep (IsS51.apart (show IsS51 w _ gb285 x286000_2 x286001_2 x286002_2 x286003_2 from by repeat (first | (with_reducible first | exact HI285.out | apply IsS51.alloc | apply IsS51.drewN | apply IsS51.drew | apply IsS51.set_0 | apply IsS51.set_1 | apply IsS51.set_2 | apply IsS51.set_3 | refine IsS51.far ?_ NB285_284.out _ | refine IsS51.far ?_ NB285_286.out _ | refine IsS51.far ?_ NB285_316.out _) | exact HI285.out)) (by (with_reducible repeat (first | apply Kd.R_alloc | apply Kd.R_drewN | apply Kd.R_drew)); exact (Kd.R_mono (Kd.R_far (p := ⟨gb316, 3, none⟩) (Kd.R_far (p := ⟨gb316, 2, none⟩) (Kd.R_far (p := ⟨gb316, 1, none⟩) (Kd.R_far (p := ⟨gb316, 0, none⟩) (Kd.R_types HO_287001.out BK316.out (by decide)) (fun _ hk => hk.2) (.int .i64 0)) (fun _ hk => hk.2) (.int .i64 0)) (fun _ hk => hk.2) (.int .i64 0)) (fun _ hk => hk.2) (.int .i64 0)) (fun _ h_ => h_.1))) (by decide)) hk (fun _ h => h.2)) (fun _ h => h.1)); have n1_ := Am (Kd.R_mono (Kd.R_keep (IsS51.apart (show IsS51 w _ gb285 x286000_2 x286001_2 x286002_2 x286003_2 from by repeat (first | (with_reducible first | exact HI285.out | apply IsS51.alloc | apply IsS51.drewN | apply IsS51.drew | apply IsS51.set_0 | apply IsS51.set_1 | apply IsS51.set_2 | apply IsS51.set_3 | refine IsS51.far ?_ NB285_284.out _ | refine IsS51.far ?_ NB285_286.out _ | refine IsS51.far ?_ NB285_316.out _) | exact HI285.out)) (by (with_reducible repeat (first | apply Kd.R_alloc | apply Kd.R_drewN | apply Kd.R_drew)); exact (Kd.R_mono (Kd.R_far (p := ⟨gb316, 3, none⟩) (Kd.R_far (p := ⟨gb316, 2, none⟩) (Kd.R_far (p := ⟨gb316, 1, none⟩) (Kd.R_far (p := ⟨gb316, 0, none⟩) (Kd.R_mono HO_287002.out (fun k_ hk => (⟨hk, hk.2⟩ : _ ∧ k_ ≠ gb316))) (fun _ hk => hk.2) (.int .i64 0)) (fun _ hk => hk.2) (.int .i64 0)) (fun _ hk => hk.2) (.int .i64 0)) (fun _ hk => hk.2) (.int .i64 0)) (fun _ h_ => h_.1))) (by decide)) hk (fun _ h => h.2)) (fun _ h => h.1)); have n2_ := Am (KeepBut.blk hk (g' := gb284) (o := .cells #[.int .i64 0, .slice none 0 0, .slice none 0 0] 25 (0, 0)) (by (with_reducible repeat (first | refine bn ?_ _ | refine bd ?_ | refine ba ?_ _)); refine blk_far ?_ NB284_316.out _; (with_reducible repeat (first | refine bn ?_ _ | refine bd ?_ | refine ba ?_ _)); refine blk_far ?_ NB284_316.out _; (with_reducible repeat (first | refine bn ?_ _ | refine bd ?_ | refine ba ?_ _)); refine blk_far ?_ NB284_316.out _; (with_reducible repeat (first | refine bn ?_ _ | refine bd ?_ | refine ba ?_ _)); refine blk_far ?_ NB284_316.out _; (with_reducible repeat (first | refine bn ?_ _ | refine bd ?_ | refine ba ?_ _)); exact BK284.out) NB284_285.out (by simp)); have n3_ := Am (KeepBut.blk hk (g' := gb286) (o := .cells #[.int .i64 t287, u287001, u287002] 25 (0, 0)) (by (with_reducible repeat (first | refine bn ?_ _ | refine bd ?_ | refine ba ?_ _)); refine blk_far ?_ NB286_316.out _; (with_reducible repeat (first | refine bn ?_ _ | refine bd ?_ | refine ba ?_ _)); refine blk_far ?_ NB286_316.out _; (with_reducible repeat (first | refine bn ?_ _ | refine bd ?_ | refine ba ?_ _)); refine blk_far ?_ NB286_316.out _; (with_reducible repeat (first | refine bn ?_ _ | refine bd ?_ | refine ba ?_ _)); refine blk_far ?_ NB286_316.out _; (with_reducible repeat (first | refine bn ?_ _ | refine bd ?_ | refine ba ?_ _)); exact BK286.out) NB286_285.out (by simp)); have n4_ := Am (KeepBut.blk hk (g' := gb316) (o := .cells #[.int .i64 0, .int .i64 0, .int .i64 0, .int .i64 0] 36 (0, 0)) (by (with_reducible repeat (first | refine bn ?_ _ | refine bd ?_ | refine ba ?_ _)); refine blk_put (cs := #[.int .i64 0, .int .i64 0, .int .i64 0, .int .i64 0]) ?_ 3 _ rfl; (with_reducible repeat (first | refine bn ?_ _ | refine bd ?_ | refine ba ?_ _)); refine blk_put (cs := #[.int .i64 0, .int .i64 0, .int .i64 0, .int .i64 0]) ?_ 2 _ rfl; (with_reducible repeat (first | refine bn ?_ _ | refine bd ?_ | refine ba ?_ _)); refine blk_put (cs := #[.int .i64 0, .int .i64 0, .int .i64 0, .int .i64 0]) ?_ 1 _ rfl; (with_reducible repeat (first | refine bn ?_ _ | refine bd ?_ | refine ba ?_ _)); refine blk_put (cs := #[.int .i64 0, .int .i64 0, .int .i64 0, .int .i64 0]) ?_ 0 _ rfl; (with_reducible repeat (first | refine bn ?_ _ | refine bd ?_ | refine ba ?_ _)); exact BK316.out) NB316_285.out (by simp)); have n5_ := Am (hb); have n6_ := Am (hi); clear HO_287001; clear HO_287002; clear BK284; clear BK286; clear BK316; clear HB; clear HI285; have HO_287001 := n0_; have HO_287002 := n1_; have BK284 := n2_; have BK286 := n3_; have BK316 := n4_; have HB := n5_; have HI285 := n6_; clear n0_ n1_ n2_ n3_ n4_ n5_ n6_; (try clear hb); (try clear hb2); (try clear hk); (try clear hi); have hcz66_0 : w65.cell? ⟨gb316, 0, none⟩ = some (.int .i64 0) := (bc BK316.out 0).trans rfl; have hcz66_1 : w65.cell? ⟨gb316, 1, none⟩ = some (.int .i64 0) := (bc BK316.out 1).trans rfl; have hcz66_2 : w65.cell? ⟨gb316, 2, none⟩ = some (.int .i64 0) := (bc BK316.out 2).trans rfl; have hcz66_3 : w65.cell? ⟨gb316, 3, none⟩ = some (.int .i64 0) := (bc BK316.out 3).trans rfl; have hfz66_0 := bf BK316.out 0; have hfz66_1 := bf BK316.out 1; have hfz66_2 := bf BK316.out 2; have hfz66_3 := bf BK316.out 3) | ((with_reducible refine gate_callee (f := 23) rfl ?_); refine goesL_ (some 67) rfl rfl Try.func23 (by kernel_rfl) rfl #[.pointer (some ⟨gb285, 0, none⟩)] rfl (by (try simp only [List.map_toArray, List.map_cons, List.map_nil]); first | done | rfl | (simp only [List.length_drop, List.length_take]; rfl)) ?_; (with_reducible refine (shuttlecockref02_Reader_Num.calls k2 gb285 t318 t319 t320 t321 t322 t323 t324 t325 t326 w _ ?side1 ?side2 A56.out).mono ?_); (case side1 => repeat (first | (with_reducible first | exact HI285.out | apply IsS51.alloc | apply IsS51.drewN | apply IsS51.drew | apply IsS51.set_0 | apply IsS51.set_1 | apply IsS51.set_2 | apply IsS51.set_3 | refine IsS51.far ?_ NB285_284.out _ | refine IsS51.far ?_ NB285_286.out _ | refine IsS51.far ?_ NB285_316.out _) | exact HI285.out)); (case side2 => repeat (first | (with_reducible first | exact HB.out | apply bl | apply pN | apply b1 | refine bs ?_ (IsS51.ge HI285.out) | refine bs ?_ GE284.out | refine bs ?_ GE286.out | refine bs ?_ GE316.out) | exact HB.out | exact HBo.out)); rintro e w67 ⟨rfl, hi, hb, hk⟩; refine ⟨_, rfl, ?_⟩; have n0_ := Am (Kd.R_mono (Kd.R_keep (IsS51.apart (show IsS51 w _ gb285 t318 t319 t320 t321 from by repeat (first | (with_reducible first | exact HI285.out | apply IsS51.alloc | apply IsS51.drewN | apply IsS51.drew | apply IsS51.set_0 | apply IsS51.set_1 | apply IsS51.set_2 | apply IsS51.set_3 | refine IsS51.far ?_ NB285_284.out _ | refine IsS51.far ?_ NB285_286.out _ | refine IsS51.far ?_ NB285_316.out _) | exact HI285.out)) (by (with_reducible repeat (first | apply Kd.R_alloc | apply Kd.R_drewN | apply Kd.R_drew)); exact (Kd.R_mono (Kd.R_far (p := ⟨gb316, 0, none⟩) (Kd.R_types HO_287001.out BK316.out (by decide)) (fun _ hk => hk.2) (.int .i64 t317)) (fun _ h_ => h_.1))) (by decide)) hk (fun _ h => h.2)) (fun _ h => h.1)); have n1_ := Am (Kd.R_mono (Kd.R_keep (IsS51.apart (show IsS51 w _ gb285 t318 t319 t320 t321 from by repeat (first | (with_reducible first | exact HI285.out | apply IsS51.alloc | apply IsS51.drewN | apply IsS51.drew | apply IsS51.set_0 | apply IsS51.set_1 | apply IsS51.set_2 | apply IsS51.set_3 | refine IsS51.far ?_ NB285_284.out _ | refine IsS51.far ?_ NB285_286.out _ | refine IsS51.far ?_ NB285_316.out _) | exact HI285.out)) (by (with_reducible repeat (first | apply Kd.R_alloc | apply Kd.R_drewN | apply Kd.R_drew)); exact (Kd.R_mono (Kd.R_far (p := ⟨gb316, 0, none⟩) (Kd.R_mono HO_287002.out (fun k_ hk => (⟨hk, hk.2⟩ : _ ∧ k_ ≠ gb316))) (fun _ hk => hk.2) (.int .i64 t317)) (fun _ h_ => h_.1))) (by decide)) hk (fun _ h => h.2)) (fun _ h => h.1)); have n2_ := Am (KeepBut.blk hk (g' := gb284) (o := .cells #[.int .i64 0, .slice none 0 0, .slice none 0 0] 25 (0, 0)) (by (with_reducible repeat (first | refine bn ?_ _ | refine bd ?_ | refine ba ?_ _)); refine blk_far ?_ NB284_316.out _; (with_reducible repeat (first | refine bn ?_ _ | refine bd ?_ | refine ba ?_ _)); exact BK284.out) NB284_285.out (by simp)); have n3_ := Am (KeepBut.blk hk (g' := gb286) (o := .cells #[.int .i64 t287, u287001, u287002] 25 (0, 0)) (by (with_reducible repeat (first | refine bn ?_ _ | refine bd ?_ | refine ba ?_ _)); refine blk_far ?_ NB286_316.out _; (with_reducible repeat (first | refine bn ?_ _ | refine bd ?_ | refine ba ?_ _)); exact BK286.out) NB286_285.out (by simp)); have n4_ := Am (KeepBut.blk hk (g' := gb316) (o := .cells #[.int .i64 t317, .int .i64 0, .int .i64 0, .int .i64 0] 36 (0, 0)) (by (with_reducible repeat (first | refine bn ?_ _ | refine bd ?_ | refine ba ?_ _)); refine blk_put (cs := #[.int .i64 0, .int .i64 0, .int .i64 0, .int .i64 0]) ?_ 0 _ rfl; (with_reducible repeat (first | refine bn ?_ _ | refine bd ?_ | refine ba ?_ _)); exact BK316.out) NB316_285.out (by simp)); have n5_ := Am (hb); have n6_ := Am (hi); clear HO_287001; clear HO_287002; clear BK284; clear BK286; clear BK316; clear HB; clear HI285; have HO_287001 := n0_; have HO_287002 := n1_; have BK284 := n2_; have BK286 := n3_; have BK316 := n4_; have HB := n5_; have HI285 := n6_; clear n0_ n1_ n2_ n3_ n4_ n5_ n6_; (try clear hb); (try clear hb2); (try clear hk); (try clear hi); have hcz68_0 : w67.cell? ⟨gb316, 0, none⟩ = some (.int .i64 t317) := (bc BK316.out 0).trans rfl; have hcz68_1 : w67.cell? ⟨gb316, 1, none⟩ = some (.int .i64 0) := (bc BK316.out 1).trans rfl; have hcz68_2 : w67.cell? ⟨gb316, 2, none⟩ = some (.int .i64 0) := (bc BK316.out 2).trans rfl; have hcz68_3 : w67.cell? ⟨gb316, 3, none⟩ = some (.int .i64 0) := (bc BK316.out 3).trans rfl; have hfz68_0 := bf BK316.out 0; have hfz68_1 := bf BK316.out 1; have hfz68_2 := bf BK316.out 2; have hfz68_3 := bf BK316.out 3) | ((with_reducible refine gate_callee (f := 23) rfl ?_); refine goesL_ (some 70) rfl rfl Try.func23 (by kernel_rfl) rfl #[.pointer (some ⟨gb285, 0, none⟩)] rfl (by (try simp only [List.map_toArray, List.map_cons, List.map_nil]); first | done | rfl | (simp only [List.length_drop, List.length_take]; rfl)) ?_; (with_reducible refine (shuttlecockref02_Reader_Num.calls k2 gb285 t323 t324 t325 t326 t327 t328 t329 t330 t331 w _ ?side1 ?side2 A57.out).mono ?_); (case side1 => repeat (first | (with_reducible first | exact HI285.out | apply IsS51.alloc | apply IsS51.drewN | apply IsS51.drew | apply IsS51.set_0 | apply IsS51.set_1 | apply IsS51.set_2 | apply IsS51.set_3 | refine IsS51.far ?_ NB285_284.out _ | refine IsS51.far ?_ NB285_286.out _ | refine IsS51.far ?_ NB285_316.out _) | exact HI285.out)); (case side2 => repeat (first | (with_reducible first | exact HB.out | apply bl | apply pN | apply b1 | refine bs ?_ (IsS51.ge HI285.out) | refine bs ?_ GE284.out | refine bs ?_ GE286.out | refine bs ?_ GE316.out) | exact HB.out | exact HBo.out)); rintro e w69 ⟨rfl, hi, hb, hk⟩; refine ⟨_, rfl, ?_⟩; have n0_ := Am (Kd.R_mono (Kd.R_keep (IsS51.apart (show IsS51 w _ gb285 t323 t324 t325 t326 from by repeat (first | (with_reducible first | exact HI285.out | apply IsS51.alloc | apply IsS51.drewN | apply IsS51.drew | apply IsS51.set_0 | apply IsS51.set_1 | apply IsS51.set_2 | apply IsS51.set_3 | refine IsS51.far ?_ NB285_284.out _ | refine IsS51.far ?_ NB285_286.out _ | refine IsS51.far ?_ NB285_316.out _) | exact HI285.out)) (by (with_reducible repeat (first | apply Kd.R_alloc | apply Kd.R_drewN | apply Kd.R_drew)); exact (Kd.R_mono (Kd.R_far (p := ⟨gb316, 1, none⟩) (Kd.R_types HO_287001.out BK316.out (by decide)) (fun _ hk => hk.2) (.int .i64 t322)) (fun _ h_ => h_.1))) (by decide)) hk (fun _ h => h.2)) (fun _ h => h.1)); have n1_ := Am (Kd.R_mono (Kd.R_keep (IsS51.apart (show IsS51 w _ gb285 t323 t324 t325 t326 from by repeat (first | (with_reducible first | exact HI285.out | apply IsS51.alloc | apply IsS51.drewN | apply IsS51.drew | apply IsS51.set_0 | apply IsS51.set_1 | apply IsS51.set_2 | apply IsS51.set_3 | refine IsS51.far ?_ NB285_284.out _ | refine IsS51.far ?_ NB285_286.out _ | refine IsS51.far ?_ NB285_316.out _) | exact HI285.out)) (by (with_reducible repeat (first | apply Kd.R_alloc | apply Kd.R_drewN | apply Kd.R_drew)); exact (Kd.R_mono (Kd.R_far (p := ⟨gb316, 1, none⟩) (Kd.R_mono HO_287002.out (fun k_ hk => (⟨hk, hk.2⟩ : _ ∧ k_ ≠ gb316))) (fun _ hk => hk.2) (.int .i64 t322)) (fun _ h_ => h_.1))) (by decide)) hk (fun _ h => h.2)) (fun _ h => h.1)); have n2_ := Am (KeepBut.blk hk (g' := gb284) (o := .cells #[.int .i64 0, .slice none 0 0, .slice none 0 0] 25 (0, 0)) (by (with_reducible repeat (first | refine bn ?_ _ | refine bd ?_ | refine ba ?_ _)); refine blk_far ?_ NB284_316.out _; (with_reducible repeat (first | refine bn ?_ _ | refine bd ?_ | refine ba ?_ _)); exact BK284.out) NB284_285.out (by simp)); have n3_ := Am (KeepBut.blk hk (g' := gb286) (o := .cells #[.int .i64 t287, u287001, u287002] 25 (0, 0)) (by (with_reducible repeat (first | refine bn ?_ _ | refine bd ?_ | refine ba ?_ _)); refine blk_far ?_ NB286_316.out _; (with_reducible repeat (first | refine bn ?_ _ | refine bd ?_ | refine ba ?_ _)); exact BK286.out) NB286_285.out (by simp)); have n4_ := Am (KeepBut.blk hk (g' := gb316) (o := .cells #[.int .i64 t317, .int .i64 t322, .int .i64 0, .int .i64 0] 36 (0, 0)) (by (with_reducible repeat (first | refine bn ?_ _ | refine bd ?_ | refine ba ?_ _)); refine blk_put (cs := #[.int .i64 t317, .int .i64 0, .int .i64 0, .int .i64 0]) ?_ 1 _ rfl; (with_reducible repeat (first | refine bn ?_ _ | refine bd ?_ | refine ba ?_ _)); exact BK316.out) NB316_285.out (by simp)); have n5_ := Am (hb); have n6_ := Am (hi); clear HO_287001; clear HO_287002; clear BK284; clear BK286; clear BK316; clear HB; clear HI285; have HO_287001 := n0_; have HO_287002 := n1_; have BK284 := n2_; have BK286 := n3_; have BK316 := n4_; have HB := n5_; have HI285 := n6_; clear n0_ n1_ n2_ n3_ n4_ n5_ n6_; (try clear hb); (try clear hb2); (try clear hk); (try clear hi); have hcz70_0 : w69.cell? ⟨gb316, 0, none⟩ = some (.int .i64 t317) := (bc BK316.out 0).trans rfl; have hcz70_1 : w69.cell? ⟨gb316, 1, none⟩ = some (.int .i64 t322) := (bc BK316.out 1).trans rfl; have hcz70_2 : w69.cell? ⟨gb316, 2, none⟩ = some (.int .i64 0) := (bc BK316.out 2).trans rfl; have hcz70_3 : w69.cell? ⟨gb316, 3, none⟩ = some (.int .i64 0) := (bc BK316.out 3).trans rfl; have hfz70_0 := bf BK316.out 0; have hfz70_1 := bf BK316.out 1; have hfz70_2 := bf BK316.out 2; have hfz70_3 := bf BK316.out 3) | ((with_reducible refine gate_callee (f := 23) rfl ?_); refine goesL_ (some 73) rfl rfl Try.func23 (by kernel_rfl) rfl #[.pointer (some ⟨gb285, 0, none⟩)] rfl (by (try simp only [List.map_toArray, List.map_cons, List.map_nil]); first | done | rfl | (simp only [List.length_drop, List.length_take]; rfl)) ?_; (with_reducible refine (shuttlecockref02_Reader_Num.calls k2 gb285 t328 t329 t330 t331 t332 t333 t334 t335 t336 w _ ?side1 ?side2 A58.out).mono ?_); (case side1 => repeat (first | (with_reducible first | exact HI285.out | apply IsS51.alloc | apply IsS51.drewN | apply IsS51.drew | apply IsS51.set_0 | apply IsS51.set_1 | apply IsS51.set_2 | apply IsS51.set_3 | refine IsS51.far ?_ NB285_284.out _ | refine IsS51.far ?_ NB285_286.out _ | refine IsS51.far ?_ NB285_316.out _) | exact HI285.out)); (case side2 => repeat (first | (with_reducible first | exact HB.out | apply bl | apply pN | apply b1 | refine bs ?_ (IsS51.ge HI285.out) | refine bs ?_ GE284.out | refine bs ?_ GE286.out | refine bs ?_ GE316.out) | exact HB.out | exact HBo.out)); rintro e w71 ⟨rfl, hi, hb, hk⟩; refine ⟨_, rfl, ?_⟩; have n0_ := Am (Kd.R_mono (Kd.R_keep (IsS51.apart (show IsS51 w _ gb285 t328 t329 t330 t331 from by repeat (first | (with_reducible first | exact HI285.out | apply IsS51.alloc | apply IsS51.drewN | apply IsS51.drew | apply IsS51.set_0 | apply IsS51.set_1 | apply IsS51.set_2 | apply IsS51.set_3 | refine IsS51.far ?_ NB285_284.out _ | refine IsS51.far ?_ NB285_286.out _ | refine IsS51.far ?_ NB285_316.out _) | exact HI285.out)) (by (with_reducible repeat (first | apply Kd.R_alloc | apply Kd.R_drewN | apply Kd.R_drew)); exact (Kd.R_mono (Kd.R_far (p := ⟨gb316, 2, none⟩) (Kd.R_types HO_287001.out BK316.out (by decide)) (fun _ hk => hk.2) (.int .i64 t327)) (fun _ h_ => h_.1))) (by decide)) hk (fun _ h => h.2)) (fun _ h => h.1)); have n1_ := Am (Kd.R_mono (Kd.R_keep (IsS51.apart (show IsS51 w _ gb285 t328 t329 t330 t331 from by repeat (first | (with_reducible first | exact HI285.out | apply IsS51.alloc | apply IsS51.drewN | apply IsS51.drew | apply IsS51.set_0 | apply IsS51.set_1 | apply IsS51.set_2 | apply IsS51.set_3 | refine IsS51.far ?_ NB285_284.out _ | refine IsS51.far ?_ NB285_286.out _ | refine IsS51.far ?_ NB285_316.out _) | exact HI285.out)) (by (with_reducible repeat (first | apply Kd.R_alloc | apply Kd.R_drewN | apply Kd.R_drew)); exact (Kd.R_mono (Kd.R_far (p := ⟨gb316, 2, none⟩) (Kd.R_mono HO_287002.out (fun k_ hk => (⟨hk, hk.2⟩ : _ ∧ k_ ≠ gb316))) (fun _ hk => hk.2) (.int .i64 t327)) (fun _ h_ => h_.1))) (by decide)) hk (fun _ h => h.2)) (fun _ h => h.1)); have n2_ := Am (KeepBut.blk hk (g' := gb284) (o := .cells #[.int .i64 0, .slice none 0 0, .slice none 0 0] 25 (0, 0)) (by (with_reducible repeat (first | refine bn ?_ _ | refine bd ?_ | refine ba ?_ _)); refine blk_far ?_ NB284_316.out _; (with_reducible repeat (first | refine bn ?_ _ | refine bd ?_ | refine ba ?_ _)); exact BK284.out) NB284_285.out (by simp)); have n3_ := Am (KeepBut.blk hk (g' := gb286) (o := .cells #[.int .i64 t287, u287001, u287002] 25 (0, 0)) (by (with_reducible repeat (first | refine bn ?_ _ | refine bd ?_ | refine ba ?_ _)); refine blk_far ?_ NB286_316.out _; (with_reducible repeat (first | refine bn ?_ _ | refine bd ?_ | refine ba ?_ _)); exact BK286.out) NB286_285.out (by simp)); have n4_ := Am (KeepBut.blk hk (g' := gb316) (o := .cells #[.int .i64 t317, .int .i64 t322, .int .i64 t327, .int .i64 0] 36 (0, 0)) (by (with_reducible repeat (first | refine bn ?_ _ | refine bd ?_ | refine ba ?_ _)); refine blk_put (cs := #[.int .i64 t317, .int .i64 t322, .int .i64 0, .int .i64 0]) ?_ 2 _ rfl; (with_reducible repeat (first | refine bn ?_ _ | refine bd ?_ | refine ba ?_ _)); exact BK316.out) NB316_285.out (by simp)); have n5_ := Am (hb); have n6_ := Am (hi); clear HO_287001; clear HO_287002; clear BK284; clear BK286; clear BK316; clear HB; clear HI285; have HO_287001 := n0_; have HO_287002 := n1_; have BK284 := n2_; have BK286 := n3_; have BK316 := n4_; have HB := n5_; have HI285 := n6_; clear n0_ n1_ n2_ n3_ n4_ n5_ n6_; (try clear hb); (try clear hb2); (try clear hk); (try clear hi); have hcz72_0 : w71.cell? ⟨gb316, 0, none⟩ = some (.int .i64 t317) := (bc BK316.out 0).trans rfl; have hcz72_1 : w71.cell? ⟨gb316, 1, none⟩ = some (.int .i64 t322) := (bc BK316.out 1).trans rfl; have hcz72_2 : w71.cell? ⟨gb316, 2, none⟩ = some (.int .i64 t327) := (bc BK316.out 2).trans rfl; have hcz72_3 : w71.cell? ⟨gb316, 3, none⟩ = some (.int .i64 0) := (bc BK316.out 3).trans rfl; have hfz72_0 := bf BK316.out 0; have hfz72_1 := bf BK316.out 1; have hfz72_2 := bf BK316.out 2; have hfz72_3 := bf BK316.out 3; have hnb73 := NB286_284.out; have hnc73 := NB284_286.out; have hnb74 := NB286_285.out; have hnc74 := NB285_286.out; have hcz75_0 : w71.cell? ⟨gb286, 0, none⟩ = some (.int .i64 t287) := (bc BK286.out 0).trans rfl; have hcz75_1 : w71.cell? ⟨gb286, 1, none⟩ = some (u287001) := (bc BK286.out 1).trans rfl; have hcz75_2 : w71.cell? ⟨gb286, 2, none⟩ = some (u287002) := (bc BK286.out 2).trans rfl; have hfz75_0 := bf BK286.out 0; have hfz75_1 := bf BK286.out 1; have hfz75_2 := bf BK286.out 2) | ((with_reducible refine gate_builtin (b := .append) (xs := #[.tmp 76, .tmp 78]) rfl ?_); at_builtin; refine Kd.R_append k36 (w0 := w) w.heap.size rfl (.tmp 76) (.tmp 78) 23 36 (.agg #[(.int .i64 0), (.int .i64 0), (.int .i64 0), (.int .i64 0)]) 32 rfl Try.underlying23 info36 rfl (by decide) (by omega) u287002 x287002_2 (⟨t317, t322, t327, t332⟩ : S36) [.int .i64 t317, .int .i64 t322, .int .i64 t327, .int .i64 t332] (fun k_ => k_ ≠ gb316) (fun _ => False) rfl (by first | (go_simp; done) | (go_simp; rfl)) ?aP (fun _ hk => hk.elim) ?aF ?aO ?aB ?aS ?aL ?_; (case aP => exact k36_mkM _ _ _ (⟨t317, t322, t327, t332⟩ : S36)); (case aB => exact (by repeat (first | (with_reducible first | exact HB.out | apply bl | apply pN | apply b1 | refine bs ?_ (IsS51.ge HI285.out) | refine bs ?_ GE284.out | refine bs ?_ GE286.out | refine bs ?_ GE316.out) | exact HB.out | exact HBo.out))); (case aF => exact (fun k_ hk => Kd.freshB (g := gb316) (o := .cells #[.int .i64 t317, .int .i64 t322, .int .i64 t327, .int .i64 t332] 36 (0, 0)) (by (with_reducible repeat (first | refine bn ?_ _ | refine bd ?_ | refine ba ?_ _)); refine blk_put (cs := #[.int .i64 t317, .int .i64 t322, .int .i64 t327, .int .i64 0]) ?_ 3 _ rfl; (with_reducible repeat (first | refine bn ?_ _ | refine bd ?_ | refine ba ?_ _)); exact BK316.out) k_ hk)); (case aO => exact (by (with_reducible repeat (first | apply Kd.R_alloc | apply Kd.R_drewN | apply Kd.R_drew)); exact Kd.R_mono (Kd.R_far (p := ⟨gb316, 3, none⟩) (Kd.R_mono HO_287002.out (fun k_ hk => (⟨hk, hk.2⟩ : _ ∧ k_ ≠ gb316))) (fun _ hk => hk.2) (.int .i64 t332)) (fun _ hk => hk.1.2))); (case aS => exact (below_size (by repeat (first | (with_reducible first | exact HB.out | apply bl | apply pN | apply b1 | refine bs ?_ (IsS51.ge HI285.out) | refine bs ?_ GE284.out | refine bs ?_ GE286.out | refine bs ?_ GE316.out) | exact HB.out | exact HBo.out)))); (case aL => have := LMc59.out; omega); intro v338 w76 ho hb hg hat; rw [← Ny337.out] at ho; have n0_ := Am (Kd.R_over' (by (with_reducible repeat (first | apply Kd.R_alloc | apply Kd.R_drewN | apply Kd.R_drew)); exact (Kd.R_mono (Kd.R_far (p := ⟨gb316, 3, none⟩) (Kd.R_types HO_287001.out BK316.out (by decide)) (fun _ hk => hk.2) (.int .i64 t332)) (fun _ h_ => h_.1))) (Kd.R_typed (by (with_reducible repeat (first | apply Kd.R_alloc | apply Kd.R_drewN | apply Kd.R_drew)); exact (Kd.R_mono (Kd.R_far (p := ⟨gb316, 3, none⟩) (Kd.R_mono HO_287002.out (fun k_ hk => (⟨hk, hk.2⟩ : _ ∧ k_ ≠ gb316))) (fun _ hk => hk.2) (.int .i64 t332)) (fun _ h_ => h_.1)))) (by decide) hg); have n1_ := Am (blk_grown (g := gb284) (o := .cells #[.int .i64 0, .slice none 0 0, .slice none 0 0] 25 (0, 0)) (by (with_reducible repeat (first | refine bn ?_ _ | refine bd ?_ | refine ba ?_ _)); refine blk_far ?_ NB284_316.out _; (with_reducible repeat (first | refine bn ?_ _ | refine bd ?_ | refine ba ?_ _)); exact BK284.out) hg (Kd.R_ne HO_287002.out BK284.out (by decide))); have n2_ := Am (blk_grown (g := gb286) (o := .cells #[.int .i64 t287, u287001, u287002] 25 (0, 0)) (by (with_reducible repeat (first | refine bn ?_ _ | refine bd ?_ | refine ba ?_ _)); refine blk_far ?_ NB286_316.out _; (with_reducible repeat (first | refine bn ?_ _ | refine bd ?_ | refine ba ?_ _)); exact BK286.out) hg (Kd.R_ne HO_287002.out BK286.out (by decide))); have n3_ := Am (IsS51.grown (show IsS51 w _ gb285 t333 t334 t335 t336 from by repeat (first | (with_reducible first | exact HI285.out | apply IsS51.alloc | apply IsS51.drewN | apply IsS51.drew | apply IsS51.set_0 | apply IsS51.set_1 | apply IsS51.set_2 | apply IsS51.set_3 | refine IsS51.far ?_ NB285_284.out _ | refine IsS51.far ?_ NB285_286.out _ | refine IsS51.far ?_ NB285_316.out _) | exact HI285.out)) hg (IsS51.own_ne HI285.out HO_287002.out (by decide))); have n4_ := Am (blk_grown (g := gb316) (o := .cells #[.int .i64 t317, .int .i64 t322, .int .i64 t327, .int .i64 t332] 36 (0, 0)) (by (with_reducible repeat (first | refine bn ?_ _ | refine bd ?_ | refine ba ?_ _)); refine blk_put (cs := #[.int .i64 t317, .int .i64 t322, .int .i64 t327, .int .i64 0]) ?_ 3 _ rfl; (with_reducible repeat (first | refine bn ?_ _ | refine bd ?_ | refine ba ?_ _)); exact BK316.out) hg (Kd.R_away HO_287002.out (fun _ hk => hk.2))); have n5_ := Am (hb); have n6_ := Am (ho); clear HO_287001; clear BK284; clear BK286; clear HI285; clear BK316; clear HB; clear HO_287002; have HO_287001 := n0_; have BK284 := n1_; have BK286 := n2_; have HI285 := n3_; have BK316 := n4_; have HB := n5_; have HO339 := n6_; clear n0_ n1_ n2_ n3_ n4_ n5_ n6_; clear ho hb hg hat; obtain ⟨Ao77, co77, eo77⟩ := Kd.R_slice HO339.out; subst eo77; have hcz78_0 : w76.cell? ⟨gb286, 0, none⟩ = some (.int .i64 t287) := (bc BK286.out 0).trans rfl; have hcz78_1 : w76.cell? ⟨gb286, 1, none⟩ = some (u287001) := (bc BK286.out 1).trans rfl; have hcz78_2 : w76.cell? ⟨gb286, 2, none⟩ = some (u287002) := (bc BK286.out 2).trans rfl; have hfz78_0 := bf BK286.out 0; have hfz78_1 := bf BK286.out 1; have hfz78_2 := bf BK286.out 2))
           go_roundg k2
           case measure => have := HK1.out; have := HK2.out; omega
           case rel => exact ⟨(wrap64 (x10_2 + 1)), (t333), (t334), (t335), (t336), (y337), (.slice Ao77 y337.length co77), (by first | rfl | (simp; done) | (simp [*]; done)), H', ⟨by have := HK1.out; have := HK2.out; omega⟩, ⟨by (with_reducible repeat (first | apply Kd.R_alloc | apply Kd.R_drewN | apply Kd.R_drew)); exact Kd.R_mono (Kd.R_far (p := ⟨gb286, 2, none⟩) (Kd.R_types HO_287001.out BK286.out (by decide)) (fun _ hk => hk.2) (.slice Ao77 y337.length co77)) (fun _ hk => trivial)⟩, ⟨by (with_reducible repeat (first | apply Kd.R_alloc | apply Kd.R_drewN | apply Kd.R_drew)); exact Kd.R_mono (Kd.R_far (p := ⟨gb286, 2, none⟩) (Kd.R_types HO339.out BK286.out (by decide)) (fun _ hk => hk.2) (.slice Ao77 y337.length co77)) (fun _ hk => trivial)⟩, ⟨by (with_reducible repeat (first | refine bn ?_ _ | refine bd ?_ | refine ba ?_ _)); refine blk_far ?_ NB284_286.out _; (with_reducible repeat (first | refine bn ?_ _ | refine bd ?_ | refine ba ?_ _)); exact BK284.out⟩, ⟨by (with_reducible repeat (first | refine bn ?_ _ | refine bd ?_ | refine ba ?_ _)); refine blk_put (cs := #[.int .i64 t287, u287001, u287002]) ?_ 2 _ rfl; (with_reducible repeat (first | refine bn ?_ _ | refine bd ?_ | refine ba ?_ _)); exact BK286.out⟩, ⟨by repeat (first | (with_reducible first | exact HI285.out | apply IsS51.alloc | apply IsS51.drewN | apply IsS51.drew | apply IsS51.set_0 | apply IsS51.set_1 | apply IsS51.set_2 | apply IsS51.set_3 | refine IsS51.far ?_ NB285_284.out _ | refine IsS51.far ?_ NB285_286.out _ | refine IsS51.far ?_ NB285_316.out _) | exact HI285.out)⟩, ⟨by repeat (first | (with_reducible first | exact HB.out | apply bl | apply pN | apply b1 | refine bs ?_ (IsS51.ge HI285.out) | refine bs ?_ GE284.out | refine bs ?_ GE286.out | refine bs ?_ GE316.out) | exact HB.out | exact HBo.out)⟩⟩
          ·
           rw [if_neg c59] at H
           exact absurd H (by simp)
         ·
          rw [if_neg c54] at H
          have c54b0 : decide (x10_2 < t311) = false := decide_eq_false c54
          clear c54
          by_cases c79 : x286002_2 = 0
          ·
           rw [if_pos c79] at H
           have c79b0 : (x286002_2 == 0) = true := beq_iff_eq.mpr c79
           have c79b1 : (x286002_2 != 0) = false := bne_eq_false_iff_eq.mpr c79
           clear c79
           by_cases c80 : x286001_2 < (a0.size : Int)
           ·
            rw [if_pos c80] at H
            have c80b0 : decide (x286001_2 < (a0.size : Int)) = true := decide_eq_true c80
            clear c80
            simp only [Option.some.injEq, Prod.mk.injEq] at H
            obtain ⟨rfl, rfl, rfl, rfl⟩ := H
            obtain ⟨HGz81, hgz81⟩ := HI285.out
            have hcz81_0 := cellS51_0 HGz81
            have hcz81_1 := cellS51_1 HGz81
            have hcz81_2 := cellS51_2 HGz81
            have hcz81_3 := cellS51_3 HGz81
            have hfz81_0 := bf HGz81 0
            have hfz81_1 := bf HGz81 1
            have hfz81_2 := bf HGz81 2
            have hfz81_3 := bf HGz81 3
            clear HGz81 hgz81
            have hnb82 := NB284_286.out
            have hnc82 := NB286_284.out
            have hnb83 := NB284_285.out
            have hnc83 := NB285_284.out
            have hcz84_0 : wr.cell? ⟨gb284, 0, none⟩ = some (.int .i64 0) := (bc BK284.out 0).trans rfl
            have hcz84_1 : wr.cell? ⟨gb284, 1, none⟩ = some (.slice none 0 0) := (bc BK284.out 1).trans rfl
            have hcz84_2 : wr.cell? ⟨gb284, 2, none⟩ = some (.slice none 0 0) := (bc BK284.out 2).trans rfl
            have hfz84_0 := bf BK284.out 0
            have hfz84_1 := bf BK284.out 1
            have hfz84_2 := bf BK284.out 2
            go_wp2
            refine bodyPost_ret (results_ct rfl _ _ gb284 25 #[.int .i64 0, .slice none 0 0, .slice none 0 0] (0, 0) _ rfl (by (with_reducible repeat (first | refine bn ?_ _ | refine bd ?_ | refine ba ?_ _)); refine blk_put (cs := #[.int .i64 0, .slice none 0 0, .slice none 0 0]) ?_ 2 _ rfl; (with_reducible repeat (first | refine bn ?_ _ | refine bd ?_ | refine ba ?_ _)); refine blk_put (cs := #[.int .i64 0, .slice none 0 0, .slice none 0 0]) ?_ 1 _ rfl; (with_reducible repeat (first | refine bn ?_ _ | refine bd ?_ | refine ba ?_ _)); refine blk_put (cs := #[.int .i64 0, .slice none 0 0, .slice none 0 0]) ?_ 0 _ rfl; (with_reducible repeat (first | refine bn ?_ _ | refine bd ?_ | refine ba ?_ _)); exact BK284.out) Try.underlying25 rfl (by kernel_rfl)) rfl ?_
            exact ⟨_, _, by first | rfl | (simp [errW_none, errW_some] <;> rfl) | (simp [*, errW_none, errW_some] <;> rfl) | (simp [Aid.ne_nil, Aid.eq_nil, errW_none, errW_some]; done), by first | exact Kd.R_nil _ _ _ _ _ | exact Kd.N_nil _ _ _ _ _ | exact Kd.V_nil _ _ _ _ _ | exact Kd.Q_nil _ _ _ _ _ | exact Kd.S_nil _ _ _ _ _, by first | exact Kd.R_nil _ _ _ _ _ | exact Kd.N_nil _ _ _ _ _ | exact Kd.V_nil _ _ _ _ _ | exact Kd.Q_nil _ _ _ _ _ | exact Kd.S_nil _ _ _ _ _, by repeat (first | (with_reducible first | exact HB.out | apply bl | apply pN | apply b1 | refine bs ?_ (IsS51.ge HI285.out) | refine bs ?_ GE284.out | refine bs ?_ GE286.out) | exact HB.out | exact HBo.out)⟩
           ·
            rw [if_neg c80] at H
            have c80b0 : decide (x286001_2 < (a0.size : Int)) = false := decide_eq_false c80
            clear c80
            replace H := ob H
            obtain ⟨t340, A850, H⟩ := H
            replace H : (if t340 = true then (some (t287, x287001_1, x287002_2, 0)) else (some (0, ([] : List (S46)), ([] : List (S36)), 80))) = some (r1, r2, r3, r4) := H
            have A85 := Am A850
            clear A850
            by_cases c86 : t340 = true
            ·
             subst c86
             have H1 : (some (t287, x287001_1, x287002_2, 0)) = some (r1, r2, r3, r4) := by rw [if_pos rfl] at H; exact H
             clear H
             have H := H1
             clear H1
             simp only [Option.some.injEq, Prod.mk.injEq] at H
             obtain ⟨rfl, rfl, rfl, rfl⟩ := H
             obtain ⟨HGz87, hgz87⟩ := HI285.out
             have hcz87_0 := cellS51_0 HGz87
             have hcz87_1 := cellS51_1 HGz87
             have hcz87_2 := cellS51_2 HGz87
             have hcz87_3 := cellS51_3 HGz87
             have hfz87_0 := bf HGz87 0
             have hfz87_1 := bf HGz87 1
             have hfz87_2 := bf HGz87 2
             have hfz87_3 := bf HGz87 3
             clear HGz87 hgz87
             have hnb88 := NB286_284.out
             have hnc88 := NB284_286.out
             have hnb89 := NB286_285.out
             have hnc89 := NB285_286.out
             have hcz90_0 : wr.cell? ⟨gb286, 0, none⟩ = some (.int .i64 t287) := (bc BK286.out 0).trans rfl
             have hcz90_1 : wr.cell? ⟨gb286, 1, none⟩ = some (u287001) := (bc BK286.out 1).trans rfl
             have hcz90_2 : wr.cell? ⟨gb286, 2, none⟩ = some (u287002) := (bc BK286.out 2).trans rfl
             have hfz90_0 := bf BK286.out 0
             have hfz90_1 := bf BK286.out 1
             have hfz90_2 := bf BK286.out 2
             obtain ⟨Ao91, co91, eo91⟩ := Kd.R_slice HO_287001.out
             subst eo91
             obtain ⟨Ao92, co92, eo92⟩ := Kd.R_slice HO_287002.out
             subst eo92
             go_wp2_with (first | (go_at_call 13; (with_reducible refine (shuttlecockref08_May.calls t287 _ _ x287001_1 _ _ x287002_2 true _ ?side1 ?side2 ?side3 ?side4 A85.out).mono ?_); (case side1 => repeat (first | exact (Kd.R_reads' HO_287001.out).2.2 | (with_reducible refine Kd.C_alloc ?_ _) | (with_reducible refine Kd.C_drewN ?_ _) | (with_reducible refine Kd.C_drew ?_))); (case side2 => exact (Kd.R_reads' HO_287001.out).2.1); (case side3 => repeat (first | exact (Kd.R_reads' HO_287002.out).2.2 | (with_reducible refine Kd.C_alloc ?_ _) | (with_reducible refine Kd.C_drewN ?_ _) | (with_reducible refine Kd.C_drew ?_))); (case side4 => exact (Kd.R_reads' HO_287002.out).2.1); rintro e w93 ⟨rfl, hb⟩; have n0_ := Am (Kd.R_below (by (with_reducible repeat (first | apply Kd.R_alloc | apply Kd.R_drewN | apply Kd.R_drew)); exact HO_287001.out) hb); have n1_ := Am (Kd.R_below (by (with_reducible repeat (first | apply Kd.R_alloc | apply Kd.R_drewN | apply Kd.R_drew)); exact HO_287002.out) hb); have n2_ := Am (blk_below (g := gb284) (o := .cells #[.int .i64 0, .slice none 0 0, .slice none 0 0] 25 (0, 0)) (by (with_reducible repeat (first | refine bn ?_ _ | refine bd ?_ | refine ba ?_ _)); exact BK284.out) hb); have n3_ := Am (blk_below (g := gb286) (o := .cells #[.int .i64 t287, .slice Ao91 x287001_1.length co91, .slice Ao92 x287002_2.length co92] 25 (0, 0)) (by (with_reducible repeat (first | refine bn ?_ _ | refine bd ?_ | refine ba ?_ _)); exact BK286.out) hb); have n4_ := Am (IsS51.below (by repeat (first | (with_reducible first | exact HI285.out | apply IsS51.alloc | apply IsS51.drewN | apply IsS51.drew | apply IsS51.set_0 | apply IsS51.set_1 | apply IsS51.set_2 | apply IsS51.set_3 | refine IsS51.far ?_ NB285_284.out _ | refine IsS51.far ?_ NB285_286.out _) | exact HI285.out)) hb); have n5_ := Am (below_step (by repeat (first | (with_reducible first | exact HB.out | apply bl | apply pN | apply b1 | refine bs ?_ (IsS51.ge HI285.out) | refine bs ?_ GE284.out | refine bs ?_ GE286.out) | exact HB.out | exact HBo.out)) hb); clear HO_287001; clear HO_287002; clear BK284; clear BK286; clear HI285; clear HB; have HO_287001 := n0_; have HO_287002 := n1_; have BK284 := n2_; have BK286 := n3_; have HI285 := n4_; have HB := n5_; clear n0_ n1_ n2_ n3_ n4_ n5_; (try clear hb); (try clear hb2); (try clear hk); (try clear hi); have hcz94_0 : w93.cell? ⟨gb286, 0, none⟩ = some (.int .i64 t287) := (bc BK286.out 0).trans rfl; have hcz94_1 : w93.cell? ⟨gb286, 1, none⟩ = some (.slice Ao91 x287001_1.length co91) := (bc BK286.out 1).trans rfl; have hcz94_2 : w93.cell? ⟨gb286, 2, none⟩ = some (.slice Ao92 x287002_2.length co92) := (bc BK286.out 2).trans rfl; have hfz94_0 := bf BK286.out 0; have hfz94_1 := bf BK286.out 1; have hfz94_2 := bf BK286.out 2; have hnb95 := NB284_285.out; have hnc95 := NB285_284.out; have hcz96_0 : w93.cell? ⟨gb284, 0, none⟩ = some (.int .i64 0) := (bc BK284.out 0).trans rfl; have hcz96_1 : w93.cell? ⟨gb284, 1, none⟩ = some (.slice none 0 0) := (bc BK284.out 1).trans rfl; have hcz96_2 : w93.cell? ⟨gb284, 2, none⟩ = some (.slice none 0 0) := (bc BK284.out 2).trans rfl; have hfz96_0 := bf BK284.out 0; have hfz96_1 := bf BK284.out 1; have hfz96_2 := bf BK284.out 2))
             refine bodyPost_ret (results_ct rfl _ _ gb284 25 #[.int .i64 t287, .slice Ao91 x287001_1.length co91, .slice Ao92 x287002_2.length co92] (0, 0) _ rfl (by (with_reducible repeat (first | refine bn ?_ _ | refine bd ?_ | refine ba ?_ _)); refine blk_put (cs := #[.int .i64 t287, .slice Ao91 x287001_1.length co91, .slice none 0 0]) ?_ 2 _ rfl; (with_reducible repeat (first | refine bn ?_ _ | refine bd ?_ | refine ba ?_ _)); refine blk_put (cs := #[.int .i64 t287, .slice none 0 0, .slice none 0 0]) ?_ 1 _ rfl; (with_reducible repeat (first | refine bn ?_ _ | refine bd ?_ | refine ba ?_ _)); refine blk_put (cs := #[.int .i64 0, .slice none 0 0, .slice none 0 0]) ?_ 0 _ rfl; (with_reducible repeat (first | refine bn ?_ _ | refine bd ?_ | refine ba ?_ _)); exact BK284.out) Try.underlying25 rfl (by kernel_rfl)) rfl ?_
             exact ⟨_, _, by first | rfl | (simp [errW_none, errW_some] <;> rfl) | (simp [*, errW_none, errW_some] <;> rfl) | (simp [Aid.ne_nil, Aid.eq_nil, errW_none, errW_some]; done), by (with_reducible repeat (first | apply Kd.R_alloc | apply Kd.R_drewN | apply Kd.R_drew)); exact Kd.R_mono (Kd.R_far (p := ⟨gb284, 2, none⟩) (Kd.R_far (p := ⟨gb284, 1, none⟩) (Kd.R_far (p := ⟨gb284, 0, none⟩) (Kd.R_types HO_287001.out BK284.out (by decide)) (fun _ hk => hk.2) (.int .i64 t287)) (fun _ hk => hk.2) (.slice Ao91 x287001_1.length co91)) (fun _ hk => hk.2) (.slice Ao92 x287002_2.length co92)) (fun _ hk => trivial), by (with_reducible repeat (first | apply Kd.R_alloc | apply Kd.R_drewN | apply Kd.R_drew)); exact Kd.R_mono (Kd.R_far (p := ⟨gb284, 2, none⟩) (Kd.R_far (p := ⟨gb284, 1, none⟩) (Kd.R_far (p := ⟨gb284, 0, none⟩) (Kd.R_types HO_287002.out BK284.out (by decide)) (fun _ hk => hk.2) (.int .i64 t287)) (fun _ hk => hk.2) (.slice Ao91 x287001_1.length co91)) (fun _ hk => hk.2) (.slice Ao92 x287002_2.length co92)) (fun _ hk => trivial), by repeat (first | (with_reducible first | exact HB.out | apply bl | apply pN | apply b1 | refine bs ?_ (IsS51.ge HI285.out) | refine bs ?_ GE284.out | refine bs ?_ GE286.out) | exact HB.out | exact HBo.out)⟩
            ·
             replace c86 := Bool.eq_false_iff.mpr c86
             subst c86
             have H1 : (some (0, ([] : List (S46)), ([] : List (S36)), 80)) = some (r1, r2, r3, r4) := by rw [if_neg (show ¬ (false = true) by decide)] at H; exact H
             clear H
             have H := H1
             clear H1
             simp only [Option.some.injEq, Prod.mk.injEq] at H
             obtain ⟨rfl, rfl, rfl, rfl⟩ := H
             obtain ⟨HGz97, hgz97⟩ := HI285.out
             have hcz97_0 := cellS51_0 HGz97
             have hcz97_1 := cellS51_1 HGz97
             have hcz97_2 := cellS51_2 HGz97
             have hcz97_3 := cellS51_3 HGz97
             have hfz97_0 := bf HGz97 0
             have hfz97_1 := bf HGz97 1
             have hfz97_2 := bf HGz97 2
             have hfz97_3 := bf HGz97 3
             clear HGz97 hgz97
             have hnb98 := NB286_284.out
             have hnc98 := NB284_286.out
             have hnb99 := NB286_285.out
             have hnc99 := NB285_286.out
             have hcz100_0 : wr.cell? ⟨gb286, 0, none⟩ = some (.int .i64 t287) := (bc BK286.out 0).trans rfl
             have hcz100_1 : wr.cell? ⟨gb286, 1, none⟩ = some (u287001) := (bc BK286.out 1).trans rfl
             have hcz100_2 : wr.cell? ⟨gb286, 2, none⟩ = some (u287002) := (bc BK286.out 2).trans rfl
             have hfz100_0 := bf BK286.out 0
             have hfz100_1 := bf BK286.out 1
             have hfz100_2 := bf BK286.out 2
             obtain ⟨Ao101, co101, eo101⟩ := Kd.R_slice HO_287001.out
             subst eo101
             obtain ⟨Ao102, co102, eo102⟩ := Kd.R_slice HO_287002.out
             subst eo102
             go_wp2_with (first | (go_at_call 13; (with_reducible refine (shuttlecockref08_May.calls t287 _ _ x287001_1 _ _ x287002_2 false _ ?side1 ?side2 ?side3 ?side4 A85.out).mono ?_); (case side1 => repeat (first | exact (Kd.R_reads' HO_287001.out).2.2 | (with_reducible refine Kd.C_alloc ?_ _) | (with_reducible refine Kd.C_drewN ?_ _) | (with_reducible refine Kd.C_drew ?_))); (case side2 => exact (Kd.R_reads' HO_287001.out).2.1); (case side3 => repeat (first | exact (Kd.R_reads' HO_287002.out).2.2 | (with_reducible refine Kd.C_alloc ?_ _) | (with_reducible refine Kd.C_drewN ?_ _) | (with_reducible refine Kd.C_drew ?_))); (case side4 => exact (Kd.R_reads' HO_287002.out).2.1); rintro e w103 ⟨rfl, hb⟩; have n0_ := Am (Kd.R_below (by (with_reducible repeat (first | apply Kd.R_alloc | apply Kd.R_drewN | apply Kd.R_drew)); exact HO_287001.out) hb); have n1_ := Am (Kd.R_below (by (with_reducible repeat (first | apply Kd.R_alloc | apply Kd.R_drewN | apply Kd.R_drew)); exact HO_287002.out) hb); have n2_ := Am (blk_below (g := gb284) (o := .cells #[.int .i64 0, .slice none 0 0, .slice none 0 0] 25 (0, 0)) (by (with_reducible repeat (first | refine bn ?_ _ | refine bd ?_ | refine ba ?_ _)); exact BK284.out) hb); have n3_ := Am (blk_below (g := gb286) (o := .cells #[.int .i64 t287, .slice Ao101 x287001_1.length co101, .slice Ao102 x287002_2.length co102] 25 (0, 0)) (by (with_reducible repeat (first | refine bn ?_ _ | refine bd ?_ | refine ba ?_ _)); exact BK286.out) hb); have n4_ := Am (IsS51.below (by repeat (first | (with_reducible first | exact HI285.out | apply IsS51.alloc | apply IsS51.drewN | apply IsS51.drew | apply IsS51.set_0 | apply IsS51.set_1 | apply IsS51.set_2 | apply IsS51.set_3 | refine IsS51.far ?_ NB285_284.out _ | refine IsS51.far ?_ NB285_286.out _) | exact HI285.out)) hb); have n5_ := Am (below_step (by repeat (first | (with_reducible first | exact HB.out | apply bl | apply pN | apply b1 | refine bs ?_ (IsS51.ge HI285.out) | refine bs ?_ GE284.out | refine bs ?_ GE286.out) | exact HB.out | exact HBo.out)) hb); clear HO_287001; clear HO_287002; clear BK284; clear BK286; clear HI285; clear HB; have HO_287001 := n0_; have HO_287002 := n1_; have BK284 := n2_; have BK286 := n3_; have HI285 := n4_; have HB := n5_; clear n0_ n1_ n2_ n3_ n4_ n5_; (try clear hb); (try clear hb2); (try clear hk); (try clear hi); have hnb104 := NB284_285.out; have hnc104 := NB285_284.out; have hcz105_0 : w103.cell? ⟨gb284, 0, none⟩ = some (.int .i64 0) := (bc BK284.out 0).trans rfl; have hcz105_1 : w103.cell? ⟨gb284, 1, none⟩ = some (.slice none 0 0) := (bc BK284.out 1).trans rfl; have hcz105_2 : w103.cell? ⟨gb284, 2, none⟩ = some (.slice none 0 0) := (bc BK284.out 2).trans rfl; have hfz105_0 := bf BK284.out 0; have hfz105_1 := bf BK284.out 1; have hfz105_2 := bf BK284.out 2))
             refine bodyPost_ret (results_ct rfl _ _ gb284 25 #[.int .i64 0, .slice none 0 0, .slice none 0 0] (0, 0) _ rfl (by (with_reducible repeat (first | refine bn ?_ _ | refine bd ?_ | refine ba ?_ _)); refine blk_put (cs := #[.int .i64 0, .slice none 0 0, .slice none 0 0]) ?_ 2 _ rfl; (with_reducible repeat (first | refine bn ?_ _ | refine bd ?_ | refine ba ?_ _)); refine blk_put (cs := #[.int .i64 0, .slice none 0 0, .slice none 0 0]) ?_ 1 _ rfl; (with_reducible repeat (first | refine bn ?_ _ | refine bd ?_ | refine ba ?_ _)); refine blk_put (cs := #[.int .i64 0, .slice none 0 0, .slice none 0 0]) ?_ 0 _ rfl; (with_reducible repeat (first | refine bn ?_ _ | refine bd ?_ | refine ba ?_ _)); exact BK284.out) Try.underlying25 rfl (by kernel_rfl)) rfl ?_
             exact ⟨_, _, by first | rfl | (simp [errW_none, errW_some] <;> rfl) | (simp [*, errW_none, errW_some] <;> rfl) | (simp [Aid.ne_nil, Aid.eq_nil, errW_none, errW_some]; done), by first | exact Kd.R_nil _ _ _ _ _ | exact Kd.N_nil _ _ _ _ _ | exact Kd.V_nil _ _ _ _ _ | exact Kd.Q_nil _ _ _ _ _ | exact Kd.S_nil _ _ _ _ _, by first | exact Kd.R_nil _ _ _ _ _ | exact Kd.N_nil _ _ _ _ _ | exact Kd.V_nil _ _ _ _ _ | exact Kd.Q_nil _ _ _ _ _ | exact Kd.S_nil _ _ _ _ _, by repeat (first | (with_reducible first | exact HB.out | apply bl | apply pN | apply b1 | refine bs ?_ (IsS51.ge HI285.out) | refine bs ?_ GE284.out | refine bs ?_ GE286.out) | exact HB.out | exact HBo.out)⟩
          ·
           rw [if_neg c79] at H
           have c79b0 : (x286002_2 == 0) = false := beq_eq_false_iff_ne.mpr c79
           have c79b1 : (x286002_2 != 0) = true := bne_iff_ne.mpr c79
           simp only [Option.some.injEq, Prod.mk.injEq] at H
           obtain ⟨rfl, rfl, rfl, rfl⟩ := H
           obtain ⟨HGz106, hgz106⟩ := HI285.out
           have hcz106_0 := cellS51_0 HGz106
           have hcz106_1 := cellS51_1 HGz106
           have hcz106_2 := cellS51_2 HGz106
           have hcz106_3 := cellS51_3 HGz106
           have hfz106_0 := bf HGz106 0
           have hfz106_1 := bf HGz106 1
           have hfz106_2 := bf HGz106 2
           have hfz106_3 := bf HGz106 3
           clear HGz106 hgz106
           try go_wp2
           have n0_ := Am (Kd.R_drew HO_287001.out)
           have n1_ := Am (Kd.R_drew HO_287002.out)
           have n2_ := Am (bd BK284.out)
           have n3_ := Am (bd BK286.out)
           have n4_ := Am (IsS51.drew HI285.out)
           have n5_ := Am (b1 HB.out)
           clear HO_287001
           clear HO_287002
           clear BK284
           clear BK286
           clear HI285
           clear HB
           have HO_287001 := n0_
           have HO_287002 := n1_
           have BK284 := n2_
           have BK286 := n3_
           have HI285 := n4_
           have HB := n5_
           clear n0_ n1_ n2_ n3_ n4_ n5_
           refine start_ (n := 7) (S := fun w' => w'.cell? ⟨gb285, 0, none⟩ = some (.string x286000_2) ∧ w'.cell? ⟨gb285, 1, none⟩ = some (.int .i64 x286001_2) ∧ w'.cell? ⟨gb285, 2, none⟩ = some (.int .i64 x286002_2) ∧ w'.cell? ⟨gb285, 3, none⟩ = some (.int .i64 x286003_2)) (ds := []) q13_0 (by kernel_rfl) rfl rfl ⟨(bc (Am HI285.out.1).out 0).trans rfl, (bc (Am HI285.out.1).out 1).trans rfl, (bc (Am HI285.out.1).out 2).trans rfl, (bc (Am HI285.out.1).out 3).trans rfl⟩ (fun hHeld => ?_)
           generalize wr.drew = w107 at HO_287001 HO_287002 BK284 BK286 HI285 HB hHeld ⊢
           refine pure_ (i := 0) (N := some 86) (v := ?_) (a' := ?_) q13_1 rfl rfl (by kernel_rfl) (fun _ _ _ h => h) (Or.inl ⟨by rfl, ?_⟩) ?_ ?_
           rotate_left
           ·
            intro w'
            go_simp
            with_reducible rfl
           rotate_left
           ·
            simp only [Act.put, sI, sZ, sS, i64_w, i32_w]
            rfl
           refine pure_ (i := 1) (N := some 87) (v := ?_) (a' := ?_) q13_2 rfl rfl (by kernel_rfl) (fun _ _ _ h => h) (Or.inl ⟨by rfl, ?_⟩) ?_ ?_
           rotate_left
           ·
            intro w'
            go_simp
            with_reducible rfl
           rotate_left
           ·
            simp only [Act.put, sI, sZ, sS, i64_w, i32_w]
            rfl
           refine pure_ (i := 2) (N := some 88) (v := ?_) (a' := ?_) q13_3 rfl rfl (by kernel_rfl) (fun _ _ _ h => h) (Or.inl ⟨by rfl, ?_⟩) ?_ ?_
           rotate_left
           ·
            intro w'
            go_simp
            with_reducible rfl
           rotate_left
           ·
            simp only [Act.put, sI, sZ, sS, i64_w, i32_w]
            rfl
           refine pure_ (i := 3) (N := some 89) (v := ?_) (a' := ?_) q13_4 rfl rfl (by kernel_rfl) (fun _ _ _ h => h) (Or.inl ⟨by rfl, ?_⟩) ?_ ?_
           rotate_left
           ·
            intro w'
            go_simp
            with_reducible rfl
           rotate_left
           ·
            simp only [Act.put, sI, sZ, sS, i64_w, i32_w]
            rfl
           refine take_ (i := 4) (N := some 90) (v := ?_) (a' := ?_) q13_5 rfl rfl (by kernel_rfl) (fun _ _ _ h => h) (Or.inl ⟨by rfl, ?_⟩) hHeld ?_ ?_
           rotate_left
           ·
            rintro w' ⟨s0, s1, s2, s3⟩
            go_simp
            with_reducible rfl
           rotate_left
           ·
            simp only [Act.put, sI, sZ, sS, i64_w, i32_w]
            rfl
           refine one_ (i := 5) (N := none) q13_6 rfl rfl (by kernel_rfl) (by decide) (fun K hK => ?_)
           have hs108 : w107.cell? ⟨gb284, 0, none⟩ = some (.int .i64 0) := (bc BK284.out 0).trans rfl
           have hfs108 := bf BK284.out 0
           have hns108_1 := NB286_284.out
           have hms108_1 := NB284_286.out
           have hs109 : w107.cell? ⟨gb284, 1, none⟩ = some (.slice none 0 0) := (bc BK284.out 1).trans rfl
           have hfs109 := bf BK284.out 1
           have hns109_1 := NB286_284.out
           have hms109_1 := NB284_286.out
           have hs110 : w107.cell? ⟨gb284, 2, none⟩ = some (.slice none 0 0) := (bc BK284.out 2).trans rfl
           have hfs110 := bf BK284.out 2
           have hns110_1 := NB286_284.out
           have hms110_1 := NB284_286.out
           refine skip_ (w1 := ?_) (by rfl) rfl ?_ ?_
           rotate_left
           ·
            go_simp
            rfl
           refine hK.out _ _ ⟨((cell_far (p := ⟨gb284, _, none⟩) NB285_284.out _).trans (((cell_far (p := ⟨gb284, _, none⟩) NB285_284.out _).trans (((cell_far (p := ⟨gb284, _, none⟩) NB285_284.out _).trans (hHeld.1)))))), ((cell_far (p := ⟨gb284, _, none⟩) NB285_284.out _).trans (((cell_far (p := ⟨gb284, _, none⟩) NB285_284.out _).trans (((cell_far (p := ⟨gb284, _, none⟩) NB285_284.out _).trans (hHeld.2.1)))))), ((cell_far (p := ⟨gb284, _, none⟩) NB285_284.out _).trans (((cell_far (p := ⟨gb284, _, none⟩) NB285_284.out _).trans (((cell_far (p := ⟨gb284, _, none⟩) NB285_284.out _).trans (hHeld.2.2.1)))))), ((cell_far (p := ⟨gb284, _, none⟩) NB285_284.out _).trans (((cell_far (p := ⟨gb284, _, none⟩) NB285_284.out _).trans (((cell_far (p := ⟨gb284, _, none⟩) NB285_284.out _).trans (hHeld.2.2.2))))))⟩ (fun hHeld => ?_)
           clear hK K
           refine pure_ (i := 6) (N := some 3) (v := ?_) (a' := ?_) q13_7 rfl rfl (by kernel_rfl) (fun _ _ _ h => h) (Or.inl ⟨by rfl, ?_⟩) ?_ ?_
           rotate_left
           ·
            intro w'
            go_simp
            with_reducible rfl
           rotate_left
           ·
            simp only [Act.put, sI, sZ, sS, i64_w, i32_w]
            rfl
           refine done_ (by kernel_rfl) ?_
           try go_wp2
           refine bodyPost_ret (results_ct rfl _ _ gb284 25 #[.int .i64 0, .slice none 0 0, .slice none 0 0] (0, 0) _ rfl (by (with_reducible repeat (first | refine bn ?_ _ | refine bd ?_ | refine ba ?_ _)); refine blk_put (cs := #[.int .i64 0, .slice none 0 0, .slice none 0 0]) ?_ 2 _ rfl; (with_reducible repeat (first | refine bn ?_ _ | refine bd ?_ | refine ba ?_ _)); refine blk_put (cs := #[.int .i64 0, .slice none 0 0, .slice none 0 0]) ?_ 1 _ rfl; (with_reducible repeat (first | refine bn ?_ _ | refine bd ?_ | refine ba ?_ _)); refine blk_put (cs := #[.int .i64 0, .slice none 0 0, .slice none 0 0]) ?_ 0 _ rfl; (with_reducible repeat (first | refine bn ?_ _ | refine bd ?_ | refine ba ?_ _)); exact BK284.out) Try.underlying25 rfl (by kernel_rfl)) rfl ?_
           exact ⟨_, _, by first | rfl | (simp [errW_none, errW_some] <;> rfl) | (simp [*, errW_none, errW_some] <;> rfl) | (simp [Aid.ne_nil, Aid.eq_nil, errW_none, errW_some]; done), by first | exact Kd.R_nil _ _ _ _ _ | exact Kd.N_nil _ _ _ _ _ | exact Kd.V_nil _ _ _ _ _ | exact Kd.Q_nil _ _ _ _ _ | exact Kd.S_nil _ _ _ _ _, by first | exact Kd.R_nil _ _ _ _ _ | exact Kd.N_nil _ _ _ _ _ | exact Kd.V_nil _ _ _ _ _ | exact Kd.Q_nil _ _ _ _ _ | exact Kd.S_nil _ _ _ _ _, by repeat (first | (with_reducible first | exact HB.out | apply bl | apply pN | apply b1 | refine bs ?_ (IsS51.ge HI285.out) | refine bs ?_ GE284.out | refine bs ?_ GE286.out) | exact HB.out | exact HBo.out)⟩
     ·
      rw [if_neg c45] at H
      have c45b0 : (t314 == 0) = false := beq_eq_false_iff_ne.mpr c45
      have c45b1 : (t314 != 0) = true := bne_iff_ne.mpr c45
      simp only [Option.some.injEq, Prod.mk.injEq] at H
      obtain ⟨rfl, rfl, rfl, rfl⟩ := H
      try go_wp2_with (first | ((with_reducible refine gate_callee (f := 23) rfl ?_); refine goesL_ (some 43) rfl rfl Try.func23 (by kernel_rfl) rfl #[.pointer (some ⟨gb285, 0, none⟩)] rfl (by (try simp only [List.map_toArray, List.map_cons, List.map_nil]); first | done | rfl | (simp only [List.length_drop, List.length_take]; rfl)) ?_; (with_reducible refine (shuttlecockref02_Reader_Num.calls k1 gb285 x286000_1 x286001_1 x286002_1 x286003_1 t311 t312 t313 t314 t315 w _ ?side1 ?side2 A44.out).mono ?_); (case side1 => repeat (first | (with_reducible first | exact HI285.out | apply IsS51.alloc | apply IsS51.drewN | apply IsS51.drew | apply IsS51.set_0 | apply IsS51.set_1 | apply IsS51.set_2 | apply IsS51.set_3 | refine IsS51.far ?_ NB285_284.out _ | refine IsS51.far ?_ NB285_286.out _) | exact HI285.out)); (case side2 => repeat (first | (with_reducible first | exact HB.out | apply bl | apply pN | apply b1 | refine bs ?_ (IsS51.ge HI285.out) | refine bs ?_ GE284.out | refine bs ?_ GE286.out) | exact HB.out | exact HBo.out)); rintro e w111 ⟨rfl, hi, hb, hk⟩; refine ⟨_, rfl, ?_⟩; have n0_ := Am (Kd.R_mono (Kd.R_keep (IsS51.apart (show IsS51 w _ gb285 x286000_1 x286001_1 x286002_1 x286003_1 from by repeat (first | (with_reducible first | exact HI285.out | apply IsS51.alloc | apply IsS51.drewN | apply IsS51.drew | apply IsS51.set_0 | apply IsS51.set_1 | apply IsS51.set_2 | apply IsS51.set_3 | refine IsS51.far ?_ NB285_284.out _ | refine IsS51.far ?_ NB285_286.out _) | exact HI285.out)) (by (with_reducible repeat (first | apply Kd.R_alloc | apply Kd.R_drewN | apply Kd.R_drew)); exact HO_287001.out) (by decide)) hk (fun _ h => h.2)) (fun _ h => h.1)); have n1_ := Am (KeepBut.blk hk (g' := gb284) (o := .cells #[.int .i64 0, .slice none 0 0, .slice none 0 0] 25 (0, 0)) (by (with_reducible repeat (first | refine bn ?_ _ | refine bd ?_ | refine ba ?_ _)); exact BK284.out) NB284_285.out (by simp)); have n2_ := Am (KeepBut.blk hk (g' := gb286) (o := .cells #[.int .i64 t287, u287001, .slice none 0 0] 25 (0, 0)) (by (with_reducible repeat (first | refine bn ?_ _ | refine bd ?_ | refine ba ?_ _)); exact BK286.out) NB286_285.out (by simp)); have n3_ := Am (hb); have n4_ := Am (hi); clear HO_287001; clear BK284; clear BK286; clear HB; clear HI285; have HO_287001 := n0_; have BK284 := n1_; have BK286 := n2_; have HB := n3_; have HI285 := n4_; clear n0_ n1_ n2_ n3_ n4_; (try clear hb); (try clear hb2); (try clear hk); (try clear hi); obtain ⟨HGz112, hgz112⟩ := HI285.out; have hcz112_0 := cellS51_0 HGz112; have hcz112_1 := cellS51_1 HGz112; have hcz112_2 := cellS51_2 HGz112; have hcz112_3 := cellS51_3 HGz112; have hfz112_0 := bf HGz112 0; have hfz112_1 := bf HGz112 1; have hfz112_2 := bf HGz112 2; have hfz112_3 := bf HGz112 3; clear HGz112 hgz112))
      have n0_ := Am (Kd.R_drew HO_287001.out)
      have n1_ := Am (bd BK284.out)
      have n2_ := Am (bd BK286.out)
      have n3_ := Am (IsS51.drew HI285.out)
      have n4_ := Am (b1 HB.out)
      clear HO_287001
      clear BK284
      clear BK286
      clear HI285
      clear HB
      have HO_287001 := n0_
      have BK284 := n1_
      have BK286 := n2_
      have HI285 := n3_
      have HB := n4_
      clear n0_ n1_ n2_ n3_ n4_
      refine start_ (n := 7) (S := fun w' => w'.cell? ⟨gb285, 0, none⟩ = some (.string t312) ∧ w'.cell? ⟨gb285, 1, none⟩ = some (.int .i64 t313) ∧ w'.cell? ⟨gb285, 2, none⟩ = some (.int .i64 t314) ∧ w'.cell? ⟨gb285, 3, none⟩ = some (.int .i64 t315)) (ds := []) q13_0 (by kernel_rfl) rfl rfl ⟨(bc (Am HI285.out.1).out 0).trans rfl, (bc (Am HI285.out.1).out 1).trans rfl, (bc (Am HI285.out.1).out 2).trans rfl, (bc (Am HI285.out.1).out 3).trans rfl⟩ (fun hHeld => ?_)
      generalize w111.drew = w113 at HO_287001 BK284 BK286 HI285 HB hHeld ⊢
      refine pure_ (i := 0) (N := some 49) (v := ?_) (a' := ?_) q13_1 rfl rfl (by kernel_rfl) (fun _ _ _ h => h) (Or.inl ⟨by rfl, ?_⟩) ?_ ?_
      rotate_left
      ·
       intro w'
       go_simp
       with_reducible rfl
      rotate_left
      ·
       simp only [Act.put, sI, sZ, sS, i64_w, i32_w]
       rfl
      refine pure_ (i := 1) (N := some 50) (v := ?_) (a' := ?_) q13_2 rfl rfl (by kernel_rfl) (fun _ _ _ h => h) (Or.inl ⟨by rfl, ?_⟩) ?_ ?_
      rotate_left
      ·
       intro w'
       go_simp
       with_reducible rfl
      rotate_left
      ·
       simp only [Act.put, sI, sZ, sS, i64_w, i32_w]
       rfl
      refine pure_ (i := 2) (N := some 51) (v := ?_) (a' := ?_) q13_3 rfl rfl (by kernel_rfl) (fun _ _ _ h => h) (Or.inl ⟨by rfl, ?_⟩) ?_ ?_
      rotate_left
      ·
       intro w'
       go_simp
       with_reducible rfl
      rotate_left
      ·
       simp only [Act.put, sI, sZ, sS, i64_w, i32_w]
       rfl
      refine pure_ (i := 3) (N := some 52) (v := ?_) (a' := ?_) q13_4 rfl rfl (by kernel_rfl) (fun _ _ _ h => h) (Or.inl ⟨by rfl, ?_⟩) ?_ ?_
      rotate_left
      ·
       intro w'
       go_simp
       with_reducible rfl
      rotate_left
      ·
       simp only [Act.put, sI, sZ, sS, i64_w, i32_w]
       rfl
      refine take_ (i := 4) (N := some 53) (v := ?_) (a' := ?_) q13_5 rfl rfl (by kernel_rfl) (fun _ _ _ h => h) (Or.inl ⟨by rfl, ?_⟩) hHeld ?_ ?_
      rotate_left
      ·
       rintro w' ⟨s0, s1, s2, s3⟩
       go_simp
       with_reducible rfl
      rotate_left
      ·
       simp only [Act.put, sI, sZ, sS, i64_w, i32_w]
       rfl
      refine one_ (i := 5) (N := none) q13_6 rfl rfl (by kernel_rfl) (by decide) (fun K hK => ?_)
      have hs114 : w113.cell? ⟨gb284, 0, none⟩ = some (.int .i64 0) := (bc BK284.out 0).trans rfl
      have hfs114 := bf BK284.out 0
      have hns114_1 := NB286_284.out
      have hms114_1 := NB284_286.out
      have hs115 : w113.cell? ⟨gb284, 1, none⟩ = some (.slice none 0 0) := (bc BK284.out 1).trans rfl
      have hfs115 := bf BK284.out 1
      have hns115_1 := NB286_284.out
      have hms115_1 := NB284_286.out
      have hs116 : w113.cell? ⟨gb284, 2, none⟩ = some (.slice none 0 0) := (bc BK284.out 2).trans rfl
      have hfs116 := bf BK284.out 2
      have hns116_1 := NB286_284.out
      have hms116_1 := NB284_286.out
      refine skip_ (w1 := ?_) (by rfl) rfl ?_ ?_
      rotate_left
      ·
       go_simp
       rfl
      refine hK.out _ _ ⟨((cell_far (p := ⟨gb284, _, none⟩) NB285_284.out _).trans (((cell_far (p := ⟨gb284, _, none⟩) NB285_284.out _).trans (((cell_far (p := ⟨gb284, _, none⟩) NB285_284.out _).trans (hHeld.1)))))), ((cell_far (p := ⟨gb284, _, none⟩) NB285_284.out _).trans (((cell_far (p := ⟨gb284, _, none⟩) NB285_284.out _).trans (((cell_far (p := ⟨gb284, _, none⟩) NB285_284.out _).trans (hHeld.2.1)))))), ((cell_far (p := ⟨gb284, _, none⟩) NB285_284.out _).trans (((cell_far (p := ⟨gb284, _, none⟩) NB285_284.out _).trans (((cell_far (p := ⟨gb284, _, none⟩) NB285_284.out _).trans (hHeld.2.2.1)))))), ((cell_far (p := ⟨gb284, _, none⟩) NB285_284.out _).trans (((cell_far (p := ⟨gb284, _, none⟩) NB285_284.out _).trans (((cell_far (p := ⟨gb284, _, none⟩) NB285_284.out _).trans (hHeld.2.2.2))))))⟩ (fun hHeld => ?_)
      clear hK K
      refine pure_ (i := 6) (N := some 3) (v := ?_) (a' := ?_) q13_7 rfl rfl (by kernel_rfl) (fun _ _ _ h => h) (Or.inl ⟨by rfl, ?_⟩) ?_ ?_
      rotate_left
      ·
       intro w'
       go_simp
       with_reducible rfl
      rotate_left
      ·
       simp only [Act.put, sI, sZ, sS, i64_w, i32_w]
       rfl
      refine done_ (by kernel_rfl) ?_
      try go_wp2
      refine bodyPost_ret (results_ct rfl _ _ gb284 25 #[.int .i64 0, .slice none 0 0, .slice none 0 0] (0, 0) _ rfl (by (with_reducible repeat (first | refine bn ?_ _ | refine bd ?_ | refine ba ?_ _)); refine blk_put (cs := #[.int .i64 0, .slice none 0 0, .slice none 0 0]) ?_ 2 _ rfl; (with_reducible repeat (first | refine bn ?_ _ | refine bd ?_ | refine ba ?_ _)); refine blk_put (cs := #[.int .i64 0, .slice none 0 0, .slice none 0 0]) ?_ 1 _ rfl; (with_reducible repeat (first | refine bn ?_ _ | refine bd ?_ | refine ba ?_ _)); refine blk_put (cs := #[.int .i64 0, .slice none 0 0, .slice none 0 0]) ?_ 0 _ rfl; (with_reducible repeat (first | refine bn ?_ _ | refine bd ?_ | refine ba ?_ _)); exact BK284.out) Try.underlying25 rfl (by kernel_rfl)) rfl ?_
      exact ⟨_, _, by first | rfl | (simp [errW_none, errW_some] <;> rfl) | (simp [*, errW_none, errW_some] <;> rfl) | (simp [Aid.ne_nil, Aid.eq_nil, errW_none, errW_some]; done), by first | exact Kd.R_nil _ _ _ _ _ | exact Kd.N_nil _ _ _ _ _ | exact Kd.V_nil _ _ _ _ _ | exact Kd.Q_nil _ _ _ _ _ | exact Kd.S_nil _ _ _ _ _, by first | exact Kd.R_nil _ _ _ _ _ | exact Kd.N_nil _ _ _ _ _ | exact Kd.V_nil _ _ _ _ _ | exact Kd.Q_nil _ _ _ _ _ | exact Kd.S_nil _ _ _ _ _, by repeat (first | (with_reducible first | exact HB.out | apply bl | apply pN | apply b1 | refine bs ?_ (IsS51.ge HI285.out) | refine bs ?_ GE284.out | refine bs ?_ GE286.out) | exact HB.out | exact HBo.out)⟩

end Go.Proofs.Ythfdhoegboeaeaa.Q
