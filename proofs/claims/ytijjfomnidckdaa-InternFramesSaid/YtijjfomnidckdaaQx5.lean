-- printed by a program of this session (NOTES: hprint); not the kit's print
-- minified3
-- minified2
-- minified
-- halved
import Derived.Test.YtijjfomnidckdaaAl
import Derived.Test.YtijjfomnidckdaaQx0
import Derived.Test.YtijjfomnidckdaaQx4
namespace Go.Proofs.Ytijjfomnidckdaa.Q
open Go.RowKit Go.Proofs.YtijjfomnidckdaaW.PrintWords Go.Proofs.YtijjfomnidckdaaW.PrintLast Go.Proofs.YtijjfomnidckdaaW.PrintMore
attribute [local go_sem] max2_int min2_int max_two min_two max_three min_three max_four min_four   -- for this text's walks alone
set_option linter.unusedVariables false
set_option linter.unusedSimpArgs false

/-- A state of type 25 at block g of W; what its slices lead to came in by w0. -/
def IsS25 (w0 W : World) (g : Nat) (f0 : List ByteArray) (f1 : List (List (S50))) : Prop := ∃ A0 c0, ∃ A1 c1, W.heap[g]? = some (.cells #[.slice A0 f0.length c0, .slice A1 f1.length c1] 25 (0, 0)) ∧ w0.heap.size ≤ g ∧ Kd.C Kd.string w0 A0 f0.length f0 ∧ Kd.C (Kd.slice 50 k50) w0 A1 f1.length f1
theorem IsS25.grown {w0 W : World} {g : Nat} {f0 : List ByteArray} {f1 : List (List (S50))} {W1 : World} {row : Option Nat} (h : IsS25 w0 W g f0 f1) (hw : W.grownBy W1 row) (hne : some g ≠ row) : IsS25 w0 W1 g f0 f1 := by
 obtain ⟨A0, c0, A1, c1, hb, hg, hr0, hr1⟩ := h
 exact ⟨A0, c0, A1, c1, blk_grown hb hw hne, hg, hr0, hr1⟩
theorem IsS25.own_neN {w0 W : World} {g : Nat} {f0 : List ByteArray} {f1 : List (List (S50))} {α : Type} {d : Kd α} {e : Nat} {base : Nat} {ok : Nat → Prop} {v : Value} {xs : List α} (h : IsS25 w0 W g f0 f1) (ho : Kd.N d e W base ok v xs) (ht : e ≠ 25) : some g ≠ v.ownBlock := by
 obtain ⟨A0, c0, A1, c1, hb, hg, hr0, hr1⟩ := h
 exact Kd.N_ne ho hb ht
theorem IsS25.fresh {w0 W : World} {g : Nat} {f0 : List ByteArray} {f1 : List (List (S50))} (h : IsS25 w0 W g f0 f1) : ∀ k, W.heap.size ≤ k → k ≠ g := by
 obtain ⟨A0, c0, A1, c1, hb, hg, hr0, hr1⟩ := h
 exact Kd.freshB hb
theorem IsS25.kept {w0 W : World} {g : Nat} {f0 : List ByteArray} {f1 : List (List (S50))} {W1 : World} {S : Nat → Prop} (h : IsS25 w0 W g f0 f1) (hk : Kept W W1 S) (hne : ¬ S g) : IsS25 w0 W1 g f0 f1 := by
 obtain ⟨A0, c0, A1, c1, hb, hg, hr0, hr1⟩ := h
 exact ⟨A0, c0, A1, c1, blk_kept hb hk hne, hg, hr0, hr1⟩
theorem IsS25.below {w0 W : World} {g : Nat} {f0 : List ByteArray} {f1 : List (List (S50))} {W1 : World} (h : IsS25 w0 W g f0 f1) (hw : Below W.heap.size W W1) : IsS25 w0 W1 g f0 f1 := h.grown (grown_of_below hw none) (by simp)
theorem IsS25.alloc {w0 W : World} {g : Nat} {f0 : List ByteArray} {f1 : List (List (S50))} (h : IsS25 w0 W g f0 f1) (o : Obj) : IsS25 w0 (W.alloc o) g f0 f1 := h.below (bl (Below.refl _ _) o)
theorem IsS25.drewN {w0 W : World} {g : Nat} {f0 : List ByteArray} {f1 : List (List (S50))} (h : IsS25 w0 W g f0 f1) (m : Nat) : IsS25 w0 (W.drewN m) g f0 f1 := h
theorem IsS25.drew {w0 W : World} {g : Nat} {f0 : List ByteArray} {f1 : List (List (S50))} (h : IsS25 w0 W g f0 f1) : IsS25 w0 W.drew g f0 f1 := h
theorem IsS25.at_ {w0 W : World} {g : Nat} {f0 : List ByteArray} {f1 : List (List (S50))} {w' : World} {m : Nat} (hq : W.drewN m = w') (h : IsS25 w0 W g f0 f1) : IsS25 w0 w' g f0 f1 := by subst hq; exact IsS25.drewN h m
theorem IsS25.apart {w0 W : World} {g : Nat} {f0 : List ByteArray} {f1 : List (List (S50))} {α : Type} {d : Kd α} {e : Nat} {base : Nat} {ok : Nat → Prop} {v : Value} {xs : List α} (h : IsS25 w0 W g f0 f1) (ho : d.R e W base ok v xs) (ht : ∀ q, q ∈ e :: d.E → q ≠ 25) : d.R e W base (fun k => ok k ∧ k ≠ g) v xs := by
 obtain ⟨A0, c0, A1, c1, hb, hg, hr0, hr1⟩ := h
 exact Kd.R_types ho hb ht
theorem IsS25.own_ne {w0 W : World} {g : Nat} {f0 : List ByteArray} {f1 : List (List (S50))} {α : Type} {d : Kd α} {e : Nat} {base : Nat} {ok : Nat → Prop} {v : Value} {xs : List α} (h : IsS25 w0 W g f0 f1) (ho : d.R e W base ok v xs) (ht : e ≠ 25) : some g ≠ v.ownBlock := by
 obtain ⟨A0, c0, A1, c1, hb, hg, hr0, hr1⟩ := h
 exact Kd.R_ne ho hb ht
theorem IsS25.apartQ {w0 W : World} {g : Nat} {f0 : List ByteArray} {f1 : List (List (S50))} {α : Type} {d : Kd α} {e : Nat} {base : Nat} {ok : Nat → Prop} {v : Value} {xs : List α} (h : IsS25 w0 W g f0 f1) (ho : d.Q e W base ok v xs) (ht : ∀ q, q ∈ e :: d.E → q ≠ 25) : d.Q e W base (fun k => ok k ∧ k ≠ g) v xs := by
 obtain ⟨A0, c0, A1, c1, hb, hg, hr0, hr1⟩ := h
 exact Kd.Q_types ho hb ht
theorem IsS25.own_neQ {w0 W : World} {g : Nat} {f0 : List ByteArray} {f1 : List (List (S50))} {α : Type} {d : Kd α} {e : Nat} {base : Nat} {ok : Nat → Prop} {v : Value} {xs : List α} (h : IsS25 w0 W g f0 f1) (ho : d.Q e W base ok v xs) (ht : e ≠ 25) : some g ≠ v.ownBlock := by
 obtain ⟨A0, c0, A1, c1, hb, hg, hr0, hr1⟩ := h
 exact Kd.Q_ne ho hb ht
theorem IsS25.apartS {w0 W : World} {g : Nat} {f0 : List ByteArray} {f1 : List (List (S50))} {α : Type} {d : Kd α} {e : Nat} {base : Nat} {ok : Nat → Prop} {v : Value} {xs : List α} (h : IsS25 w0 W g f0 f1) (ho : d.S e W base ok v xs) (ht : ∀ q, q ∈ e :: d.E → q ≠ 25) : d.S e W base (fun k => ok k ∧ k ≠ g) v xs := by
 obtain ⟨A0, c0, A1, c1, hb, hg, hr0, hr1⟩ := h
 exact Kd.S_types ho hb ht
theorem IsS25.own_neS {w0 W : World} {g : Nat} {f0 : List ByteArray} {f1 : List (List (S50))} {α : Type} {d : Kd α} {e : Nat} {base : Nat} {ok : Nat → Prop} {v : Value} {xs : List α} (h : IsS25 w0 W g f0 f1) (ho : d.S e W base ok v xs) (ht : e ≠ 25) : some g ≠ v.ownBlock := by
 obtain ⟨A0, c0, A1, c1, hb, hg, hr0, hr1⟩ := h
 exact Kd.S_ne ho hb ht
theorem IsS25.lt {w0 W : World} {g : Nat} {f0 : List ByteArray} {f1 : List (List (S50))} (h : IsS25 w0 W g f0 f1) : g < W.heap.size := by
 obtain ⟨A0, c0, A1, c1, hb, hg, hr0, hr1⟩ := h
 exact blk_lt hb
theorem IsS25.ge {w0 W : World} {g : Nat} {f0 : List ByteArray} {f1 : List (List (S50))} (h : IsS25 w0 W g f0 f1) : w0.heap.size ≤ g := by
 obtain ⟨A0, c0, A1, c1, hb, hg, hr0, hr1⟩ := h
 exact hg
theorem IsS25.ne_blk {w0 W : World} {g : Nat} {f0 : List ByteArray} {f1 : List (List (S50))} {a : Nat} {cs : Array Value} {t : TypeId} {fr : Nat × Nat} (h : IsS25 w0 W g f0 f1) (hb2 : W.heap[a]? = some (.cells cs t fr)) (ht : t ≠ 25) : g ≠ a := by
 obtain ⟨A0, c0, A1, c1, hb, hg, hr0, hr1⟩ := h
 rintro rfl
 rw [hb] at hb2
 injection hb2 with hb2
 injection hb2 with _ ht2
 exact ht ht2.symm
theorem IsS25.far {w0 W : World} {g : Nat} {f0 : List ByteArray} {f1 : List (List (S50))} {p : Addr} (h : IsS25 w0 W g f0 f1) (hne : g ≠ p.block) (u : Value) : IsS25 w0 (W.setCell p u) g f0 f1 := by
 obtain ⟨A0, c0, A1, c1, hb, hg, hr0, hr1⟩ := h
 exact ⟨A0, c0, A1, c1, blk_far hb hne u, hg, hr0, hr1⟩
theorem cellS25_0 {W : World} {g : Nat} {A0 : Option Addr} {c0 : Nat} {A1 : Option Addr} {c1 : Nat} {f0 : List ByteArray} {f1 : List (List (S50))} (h : W.heap[g]? = some (.cells #[.slice A0 f0.length c0, .slice A1 f1.length c1] 25 (0, 0))) : W.cell? ⟨g, 0, none⟩ = some (.slice A0 f0.length c0) := (bc h 0).trans rfl
theorem cellS25_1 {W : World} {g : Nat} {A0 : Option Addr} {c0 : Nat} {A1 : Option Addr} {c1 : Nat} {f0 : List ByteArray} {f1 : List (List (S50))} (h : W.heap[g]? = some (.cells #[.slice A0 f0.length c0, .slice A1 f1.length c1] 25 (0, 0))) : W.cell? ⟨g, 1, none⟩ = some (.slice A1 f1.length c1) := (bc h 1).trans rfl
theorem IsS25.new (w0 W : World) (A0 : Option Addr) (c0 : Nat) (A1 : Option Addr) (c1 : Nat) (f0 : List ByteArray) (f1 : List (List (S50))) (hB : Below w0.heap.size w0 W) (hr0 : Kd.C Kd.string w0 A0 f0.length f0) (hr1 : Kd.C (Kd.slice 50 k50) w0 A1 f1.length f1) : IsS25 w0 (W.alloc (.cells #[.slice A0 f0.length c0, .slice A1 f1.length c1] 25)) W.heap.size f0 f1 := ⟨A0, c0, A1, c1, by simpa using heap_alloc_new W _, hB.size, hr0, hr1⟩

def q5_0 : Array Bool := let o := true; let z := false; #[z,z,z,z,z,z,z,z,z,z]
def q5_1 : Array Bool := let o := true; let z := false; #[z,o,z,z,z,z,z,z,z,z]
def q5_2 : Array Bool := let o := true; let z := false; #[z,o,z,z,o,z,z,z,z,z]
def q5_3 : Array Bool := let o := true; let z := false; #[o,o,z,z,o,z,z,z,z,z]
def q5_4 : Array Bool := let o := true; let z := false; #[o,o,o,z,o,z,z,z,z,z]
def q5_5 : Array Bool := let o := true; let z := false; #[o,o,o,z,o,o,z,z,z,z]
def q5_6 : Array Bool := let o := true; let z := false; #[o,o,o,o,o,o,z,z,z,z]
def q5_7 : Array Bool := let o := true; let z := false; #[o,o,o,o,o,o,o,z,z,z]
def q5_8 : Array Bool := let o := true; let z := false; #[o,o,o,o,o,o,o,o,z,z]
def q5_9 : Array Bool := let o := true; let z := false; #[o,o,o,o,o,o,o,o,o,z]
def q5_10 : Array Bool := let o := true; let z := false; #[o,o,o,o,o,o,o,o,o,o]
/-! ### intern_str: function 24, by hand -/
/-- A row is kept by what writes blocks of other types alone. -/
theorem R_keptT {α : Type} {d : Kd α} {e base : Nat} {ok S : Nat → Prop} {w w' : World} {v : Value} {xs : List α} (h : d.R e w base ok v xs) (hk : Kept w w' S) (ht : ∀ k q cells, q ∈ e :: d.E → w.heap[k]? = some (.cells cells q (0, 0)) → ¬ S k) : d.R e w' base ok v xs :=
 Kd.R_mono (Kd.R_kept (Kd.R_bound h) hk (fun k hk => by obtain ⟨q, hq, cells, hc⟩ := hk.2.2.2; exact ht k q cells hq hc)) (fun _ h => h.1)
theorem S_keptT {α : Type} {d : Kd α} {e base : Nat} {ok S : Nat → Prop} {w w' : World} {v : Value} {xs : List α} (h : Kd.S d e w base ok v xs) (hk : Kept w w' S) (ht : ∀ k q cells, q ∈ e :: d.E → w.heap[k]? = some (.cells cells q (0, 0)) → ¬ S k) : Kd.S d e w' base ok v xs :=
 Kd.S_mono (Kd.S_kept (Kd.S_bound h) hk (fun k hk => by obtain ⟨q, hq, cells, hc⟩ := hk.2.2.2; exact ht k q cells hq hc)) (fun _ h => h.1)
def intern_str.f (k : Nat) (l0 : List ByteArray) (a1 : ByteArray) : Option (List ByteArray × Int) := if a1.toList = ([] : List UInt8) then some (l0, 0) else ((slices_Index_string_string.f k l0 a1).bind fun t => if 0 ≤ t then some (l0, wrap64 (t + 1)) else if l0.length < 8796093022207 then some (l0 ++ [a1], (l0.length : Int) + 1) else none)
theorem intern_str.mono : ∀ a0 a1 k, LeO (intern_str.f k a0 a1) (intern_str.f (k + 1) a0 a1) := fun a0 a1 k => by
 unfold intern_str.f
 exact LeO.ite (LeO.refl _) (LeO.bind (slices_Index_string_string.mono _ _ _) (fun _ => LeO.refl _))
set_option maxHeartbeats 8000000 in
set_option maxRecDepth 100000 in
theorem intern_str.calls (k : Nat) (w0 : World) (b : Nat) (v0 v1 : Value) (l0 : List ByteArray) (a1 : ByteArray) (r1 : List ByteArray) (r2 : Int) (w : World) (hbx : w.heap[b]? = some (.cells #[v0, v1] 25 (0, 0))) (ho : Kd.R Kd.string 9 w w0.heap.size (fun _ => True) v0 l0) (hb0 : w0.heap.size ≤ b) (hB : Below w0.heap.size w0 w) (h : intern_str.f k l0 a1 = some (r1, r2)) :
  Calls Try.prog 24 #[.pointer (some ⟨b, 0, none⟩), .string a1] w fun e w' => ∃ v0' : Value, e = .returned (.int .i64 r2) ∧ w'.heap[b]? = some (.cells #[v0', v1] 25 (0, 0)) ∧ Kd.R Kd.string 9 w' w0.heap.size (fun _ => True) v0' r1 ∧ Below w0.heap.size w0 w' ∧ Kept w w' (fun k => k = b ∨ some k = v0.ownBlock) := by
 obtain ⟨A0, c0, rfl⟩ := Kd.R_slice ho
 have hrd := Kd.R_reads' ho
 have HC := Am hrd.2.2
 have HL := Am hrd.2.1
 have HO := Am ho
 have HBX := Am hbx
 have HB := Am hB
 have HB0 := Am hb0
 have hq0 := (bc hbx 0).trans (show _ = some (Value.slice A0 l0.length c0) from rfl)
 clear hrd ho hbx hB hb0
 unfold intern_str.f at h
 by_cases e1 : a1.toList = ([] : List UInt8)
 ·
  rw [if_pos e1] at h
  have e1b : (a1.toList == ([] : List UInt8)) = true := beq_iff_eq.mpr e1
  have e1c : a1.toList.isEmpty = true := by rw [e1]; rfl
  clear e1
  cases h
  go_enter Try.func24, Try.ntmps24
  go_wp2
  go_ret
  exact ⟨_, rfl, HBX.out, HO.out, HB.out, Kept.refl _ _⟩
 rw [if_neg e1] at h
 have e1b : (a1.toList == ([] : List UInt8)) = false := beq_eq_false_iff_ne.mpr e1
 have e1c : a1.toList.isEmpty = false := by rw [← Bool.not_eq_true, List.isEmpty_iff]; exact e1
 clear e1
 replace h := ob h
 obtain ⟨t, ht, h⟩ := h
 have HT := Am ht
 clear ht
 by_cases e2 : 0 ≤ t
 ·
  rw [if_pos e2] at h
  have e2b : decide (0 ≤ t) = true := decide_eq_true e2
  clear e2
  cases h
  go_enter Try.func24, Try.ntmps24
  go_wp2_with (first | (go_at_call 37; (with_reducible refine (slices_Index_string_string.calls k A0 c0 l0 a1 t _ HC.out HL.out HT.out).mono ?_); rintro e w1 ⟨rfl, hd⟩; have HD := Am (show Below w.heap.size w w1 by first | exact hd.below | exact hd); clear hd))
  go_ret
  exact ⟨_, rfl, blk_below HBX.out HD.out, Kd.R_below HO.out HD.out, below_step HB.out HD.out, Kept.of_below HD.out _⟩
 rw [if_neg e2] at h
 have e2b : decide (0 ≤ t) = false := decide_eq_false e2
 clear e2
 by_cases e3 : l0.length < 8796093022207
 ·
  rw [if_pos e3] at h
  have HLT := Am e3
  clear e3
  cases h
  go_enter Try.func24, Try.ntmps24
  go_wp2_with (first | (go_at_call 37; (with_reducible refine (slices_Index_string_string.calls k A0 c0 l0 a1 t _ HC.out HL.out HT.out).mono ?_); rintro e w1 ⟨rfl, hd⟩; have HD := Am (show Below w.heap.size w w1 by first | exact hd.below | exact hd); have HBX1 := Am (blk_below HBX.out HD.out); have HO1 := Am (Kd.R_below HO.out HD.out); have HB1 := Am (below_step HB.out HD.out); have hq1 := (bc HBX1.out 0).trans (show _ = some (Value.slice A0 l0.length c0) from rfl); have hq2 := (bc (ba HBX1.out (.cells #[.string a1] 9)) 0).trans (show _ = some (Value.slice A0 l0.length c0) from rfl); clear hd) | (at_builtin; refine Kd.R_append Kd.string (w0 := w0) w0.heap.size rfl (.tmp 22) (.tmp 24) 22 9 (.string ⟨#[]⟩) 16 rfl Try.underlying22 info9 rfl (by decide) (by decide) (.slice A0 l0.length c0) l0 a1 [.string a1] (fun _ => True) (fun _ => False) rfl rfl rfl (fun _ h => h.elim) (fun _ _ => trivial) HO1.out HB1.out HB1.out.size (by have := HLT.out; omega) ?_; intro v3 w3 hr3 hb3 hg3 hat3; obtain ⟨A3, c3, rfl⟩ := Kd.R_slice hr3; have HBX3 := Am (blk_grown HBX1.out hg3 (Kd.R_ne HO1.out HBX1.out (by decide))); have HR3 := Am hr3; have HB3 := Am hb3; have HK3 := Am (Kept.of_grown hg3 (Kept.of_below HD.out (fun k => k = b ∨ some k = (Value.slice A0 l0.length c0).ownBlock)) (fun k hk => .inl (.inr hk.symm))); have hcz := (bc HBX3.out 0).trans (show _ = some (Value.slice A0 l0.length c0) from rfl); have hfz : w3.frozen? ⟨b, 0, none⟩ = false := Lib.frozen_of_heap HBX3.out 0; clear hr3 hb3 hg3 hat3))
  go_ret
  refine ⟨.slice A3 (l0.length + 1) c3, rfl, ?_, ?_, ?_, ?_⟩
  ·
   exact blk_set HBX3.out 0 _
  ·
   have hr := HR3.out
   rw [List.length_append, List.length_singleton] at hr
   exact Kd.R_set hr HBX3.out (by decide) 0 _
  ·
   exact HB3.out.setCell (p := ⟨b, 0, none⟩) HB0.out _
  ·
   exact HK3.out.setCell (p := ⟨b, 0, none⟩) (.inl (.inl rfl)) _
 ·
  rw [if_neg e3] at h
  cases h

/-! ### intern_String: function 11, by hand -/
def intern_String.f (k : Nat) (l0_0 : List ByteArray) (l0_1 : List (List S50)) (a1 : ByteArray) : Option (List ByteArray × (List (List S50)) × Int) := (intern_May.f k l0_0 l0_1).bind fun t => if t = true then ((intern_copied.f k l0_0 l0_1).bind fun c => (intern_str.f k c.1 a1).bind fun d => (intern_May.f k d.1 c.2).bind fun u => if u = true then some (d.1, c.2, d.2) else some (([] : List ByteArray), ([] : List (List S50)), (0 : Int))) else some (([] : List ByteArray), ([] : List (List S50)), (0 : Int))
theorem intern_String.mono : ∀ a0 a1 a2 k, LeO (intern_String.f k a0 a1 a2) (intern_String.f (k + 1) a0 a1 a2) := fun a0 a1 a2 k => by
 unfold intern_String.f
 exact LeO.bind (intern_May.mono _ _ _) (fun _ => LeO.ite (LeO.bind (intern_copied.mono _ _ _) (fun _ => LeO.bind (intern_str.mono _ _ _) (fun _ => LeO.bind (intern_May.mono _ _ _) (fun _ => LeO.refl _)))) (LeO.refl _))
theorem tb_size (w : World) (o : Obj) : (w.alloc o).heap.size = w.heap.size + 1 := by
 show (w.heap.push o).size = _
 simp
theorem ty_ne {w : World} {k q t : Nat} {cells cells' : Array Value} (h : w.heap[k]? = some (.cells cells q (0, 0))) (h' : w.heap[k]? = some (.cells cells' t (0, 0))) : q = t := by
 rw [h] at h'
 injection h' with h'
 injection h'
set_option maxHeartbeats 8000000 in
set_option maxRecDepth 100000 in
theorem intern_String.calls (k : Nat) (A0_0 : Option Addr) (c0_0 : Nat) (l0_0 : List ByteArray) (A0_1 : Option Addr) (c0_1 : Nat) (l0_1 : List (List S50)) (a1 : ByteArray) (r1 : List ByteArray) (r2 : List (List S50)) (r3 : Int) (w : World) (hr0_0 : Kd.C Kd.string w A0_0 l0_0.length l0_0) (hc0_0 : l0_0.length ≤ c0_0) (hr0_1 : Kd.C (Kd.slice 50 k50) w A0_1 l0_1.length l0_1) (hc0_1 : l0_1.length ≤ c0_1) (h : intern_String.f k l0_0 l0_1 a1 = some (r1, r2, r3)) :
  Calls Try.prog 11 #[.agg #[.slice A0_0 l0_0.length c0_0, .slice A0_1 l0_1.length c0_1], .string a1] w fun e w' => ∃ v0_ v1_ : Value, e = .returned (.tuple #[.agg #[v0_, v1_], .int .i64 r3]) ∧ Kd.R Kd.string 9 w' w.heap.size (fun _ => True) v0_ r1 ∧ Kd.S (Kd.slice 50 k50) 46 w' w.heap.size (fun _ => True) v1_ r2 ∧ Below w.heap.size w w' := by
 have HR0 := Am hr0_0
 have HR1 := Am hr0_1
 have HC0 := Am hc0_0
 have HC1 := Am hc0_1
 clear hr0_0 hr0_1 hc0_0 hc0_1
 have HB0 : Aside0 (Below w.heap.size w ((w.alloc (.cells #[.slice A0_0 l0_0.length c0_0, .slice A0_1 l0_1.length c0_1] 25)).alloc (.cells #[.slice none 0 0, .slice none 0 0] 25))) := ⟨bl (bl (Below.refl _ _) _) _⟩
 have BX0 : Aside0 (((w.alloc (.cells #[.slice A0_0 l0_0.length c0_0, .slice A0_1 l0_1.length c0_1] 25)).alloc (.cells #[.slice none 0 0, .slice none 0 0] 25)).heap[w.heap.size]? = some (.cells #[.slice A0_0 l0_0.length c0_0, .slice A0_1 l0_1.length c0_1] 25 (0, 0))) := ⟨ba (blk_new w _) _⟩
 have BZ0 : Aside0 (((w.alloc (.cells #[.slice A0_0 l0_0.length c0_0, .slice A0_1 l0_1.length c0_1] 25)).alloc (.cells #[.slice none 0 0, .slice none 0 0] 25)).heap[w.heap.size + 1]? = some (.cells #[.slice none 0 0, .slice none 0 0] 25 (0, 0))) := ⟨by have h := blk_new (w.alloc (.cells #[.slice A0_0 l0_0.length c0_0, .slice A0_1 l0_1.length c0_1] 25)) (.cells #[.slice none 0 0, .slice none 0 0] 25); rwa [tb_size] at h⟩
 unfold intern_String.f at h
 replace h := ob h
 obtain ⟨t, ht, h⟩ := h
 have HMY := Am (fun (W : World) (hW : Below w.heap.size w W) => intern_May.calls k A0_0 c0_0 l0_0 A0_1 c0_1 l0_1 t W (Kd.C_below HR0.out hW) HC0.out (Kd.C_below HR1.out hW) HC1.out ht)
 clear ht
 cases t with
 | false =>
  rw [if_neg Bool.false_ne_true] at h
  cases h
  go_enter Try.func11, Try.ntmps11
  go_wp2_with (first | (go_at_call 19; (with_reducible refine (HMY.out _ HB0.out).mono ?_); rintro e w1 ⟨rfl, hb⟩; have HB1 := Am (below_step HB0.out hb); have BZ1 := Am (blk_below BZ0.out hb); have hz0 := (bc BZ1.out 0).trans (show _ = some (Value.slice none 0 0) from rfl); have hz1 := (bc BZ1.out 1).trans (show _ = some (Value.slice none 0 0) from rfl); have fz0 : w1.frozen? ⟨w.heap.size + 1, 0, none⟩ = false := Lib.frozen_of_heap BZ1.out 0; have fz1 : w1.frozen? ⟨w.heap.size + 1, 1, none⟩ = false := Lib.frozen_of_heap BZ1.out 1; clear hb))
  refine bodyPost_ret (results_ct rfl _ _ (w.heap.size + 1) 25 #[.slice none 0 0, .slice none 0 0] (0, 0) _ rfl (blk_put (cs := #[.slice none 0 0, .slice none 0 0]) (blk_put (cs := #[.slice none 0 0, .slice none 0 0]) BZ1.out 0 _ rfl) 1 _ rfl) Try.underlying25 rfl (by kernel_rfl)) rfl ?_
  exact ⟨_, _, rfl, Kd.R_nil _ _ _ _ _, Kd.S_nil _ _ _ _ _, (HB1.out.setCell (p := ⟨w.heap.size + 1, 0, none⟩) (by simp) _).setCell (p := ⟨w.heap.size + 1, 1, none⟩) (by simp) _⟩
 | true =>
  replace h := (if_pos rfl).symm.trans h
  replace h := ob h
  obtain ⟨⟨m0, m1⟩, hcp, h⟩ := h
  replace h := ob h
  obtain ⟨⟨d0, n⟩, hst, h⟩ := h
  replace h := ob h
  obtain ⟨u, hu, h⟩ := h
  simp only at hst hu h
  have HCP := Am (fun (W : World) (hW : Below w.heap.size w W) => intern_copied.calls k A0_0 c0_0 l0_0 A0_1 c0_1 l0_1 m0 m1 W (Kd.C_below HR0.out hW) HC0.out (Kd.C_below HR1.out hW) HC1.out hcp)
  have HST := Am hst
  have HU := Am hu
  clear hcp hst hu
  cases u with
  | false =>
   rw [if_neg Bool.false_ne_true] at h
   cases h
   go_enter Try.func11, Try.ntmps11
   go_wp2_with (first | (go_at_call 19; (with_reducible refine (HMY.out _ HB0.out).mono ?_); rintro e w1 ⟨rfl, hb⟩; have HB1 := Am (below_step HB0.out hb); have BX1 := Am (blk_below BX0.out hb); have BZ1 := Am (blk_below BZ0.out hb); have hq0 := (bc BX1.out 0).trans (show _ = some (Value.slice A0_0 l0_0.length c0_0) from rfl); have hq1 := (bc BX1.out 1).trans (show _ = some (Value.slice A0_1 l0_1.length c0_1) from rfl); clear hb) | (go_at_call 23; (with_reducible refine (HCP.out _ HB1.out).mono ?_); rintro e w2 ⟨v0, v1, rfl, hr0, hr1, hb⟩; obtain ⟨A2, c2, rfl⟩ := Kd.R_slice hr0; obtain ⟨A3, c3, rfl⟩ := Kd.S_slice hr1; have HB2 := Am (below_step HB1.out hb); have BX2 := Am (blk_below BX1.out hb); have BZ2 := Am (blk_below BZ1.out hb); have hx0 := (bc BX2.out 0).trans (show _ = some (Value.slice A0_0 l0_0.length c0_0) from rfl); have hx1 := (bc BX2.out 1).trans (show _ = some (Value.slice A0_1 l0_1.length c0_1) from rfl); have fx0 : w2.frozen? ⟨w.heap.size, 0, none⟩ = false := Lib.frozen_of_heap BX2.out 0; have fx1 : w2.frozen? ⟨w.heap.size, 1, none⟩ = false := Lib.frozen_of_heap BX2.out 1; have BM := Am (blk_put (cs := #[.slice A0_0 l0_0.length c0_0, .slice A0_1 l0_1.length c0_1]) (cs' := #[.slice A2 m0.length c2, .slice A0_1 l0_1.length c0_1]) BX2.out 0 (.slice A2 m0.length c2) rfl); have BX3 := Am (blk_put (cs := #[.slice A2 m0.length c2, .slice A0_1 l0_1.length c0_1]) (cs' := #[.slice A2 m0.length c2, .slice A3 m1.length c3]) BM.out 1 (.slice A3 m1.length c3) rfl); have RR3 := Am (Kd.R_set (Kd.R_set (Kd.R_lower hr0 HB1.out.size) BX2.out (by decide) 0 (.slice A2 m0.length c2)) BM.out (by decide) 1 (.slice A3 m1.length c3)); have SS3 := Am (Kd.S_set (Kd.S_set (Kd.S_lower hr1 HB1.out.size) BX2.out (by decide) 0 (.slice A2 m0.length c2)) BM.out (by decide) 1 (.slice A3 m1.length c3)); have HB3 := Am ((HB2.out.setCell (p := ⟨w.heap.size, 0, none⟩) (Nat.le_refl _) (.slice A2 m0.length c2)).setCell (p := ⟨w.heap.size, 1, none⟩) (Nat.le_refl _) (.slice A3 m1.length c3)); have BZ3 := Am (blk_far (blk_far BZ2.out (by simp) _) (by simp) _ : ((w2.setCell ⟨w.heap.size, 0, none⟩ (.slice A2 m0.length c2)).setCell ⟨w.heap.size, 1, none⟩ (.slice A3 m1.length c3)).heap[w.heap.size + 1]? = _); clear hr0 hr1 hb) | (go_at_call 24; (with_reducible refine (intern_str.calls k w w.heap.size _ _ m0 a1 d0 n _ BX3.out RR3.out (Nat.le_refl _) HB3.out HST.out).mono ?_); rintro e w4 ⟨v4, rfl, hbx4, hr4, hb4, hk4⟩; obtain ⟨A4, c4, rfl⟩ := Kd.R_slice hr4; have BX4 := Am hbx4; have RR4 := Am hr4; have HB4 := Am hb4; have SS4 := Am (S_keptT SS3.out hk4 (by intro k_ q_ cells_ hq_ hc_; rintro (rfl | hk_); (· have := ty_ne hc_ BX3.out; subst this; revert hq_; decide); (· obtain ⟨cells2_, hc2_⟩ := Kd.R_typed RR3.out k_ hk_.symm; have := ty_ne hc_ hc2_; subst this; revert hq_; decide))); have BZ4 := Am (blk_kept BZ3.out hk4 (by rintro (hk_ | hk_); (· omega); (· exact Kd.R_ne RR3.out BZ3.out (by decide) hk_))); have hq40 := (bc BX4.out 0).trans (show _ = some (Value.slice A4 d0.length c4) from rfl); have hq41 := (bc BX4.out 1).trans (show _ = some (Value.slice A3 m1.length c3) from rfl); have RC4 := Am (Kd.R_reads' hr4); have SC4 := Am (Kd.S_reads' SS4.out); clear hbx4 hr4 hb4 hk4) | (go_at_call 19; (with_reducible refine (intern_May.calls k A4 c4 d0 A3 c3 m1 false _ RC4.out.2.2 RC4.out.2.1 SC4.out.2.2 SC4.out.2.1 HU.out).mono ?_); rintro e w5 ⟨rfl, hb⟩; have BX5 := Am (blk_below BX4.out hb); have BZ5 := Am (blk_below BZ4.out hb); have RR5 := Am (Kd.R_below RR4.out hb); have SS5 := Am (Kd.S_below SS4.out hb); have HB5 := Am (below_step HB4.out hb); have hq50 := (bc BX5.out 0).trans (show _ = some (Value.slice A4 d0.length c4) from rfl); have hq51 := (bc BX5.out 1).trans (show _ = some (Value.slice A3 m1.length c3) from rfl); have hz0 := (bc BZ5.out 0).trans (show _ = some (Value.slice none 0 0) from rfl); have hz1 := (bc BZ5.out 1).trans (show _ = some (Value.slice none 0 0) from rfl); have fz0 : w5.frozen? ⟨w.heap.size + 1, 0, none⟩ = false := Lib.frozen_of_heap BZ5.out 0; have fz1 : w5.frozen? ⟨w.heap.size + 1, 1, none⟩ = false := Lib.frozen_of_heap BZ5.out 1; clear hb))
   refine bodyPost_ret (results_ct rfl _ _ (w.heap.size + 1) 25 #[.slice none 0 0, .slice none 0 0] (0, 0) _ rfl (blk_put (cs := #[.slice none 0 0, .slice none 0 0]) (blk_put (cs := #[.slice none 0 0, .slice none 0 0]) BZ5.out 0 _ rfl) 1 _ rfl) Try.underlying25 rfl (by kernel_rfl)) rfl ?_
   exact ⟨_, _, rfl, Kd.R_nil _ _ _ _ _, Kd.S_nil _ _ _ _ _, (HB5.out.setCell (p := ⟨w.heap.size + 1, 0, none⟩) (by simp) _).setCell (p := ⟨w.heap.size + 1, 1, none⟩) (by simp) _⟩
  | true =>
   replace h := (if_pos rfl).symm.trans h
   simp only [Option.some.injEq, Prod.mk.injEq] at h
   obtain ⟨rfl, rfl, rfl⟩ := h
   go_enter Try.func11, Try.ntmps11
   go_wp2_with (first | (go_at_call 19; (with_reducible refine (HMY.out _ HB0.out).mono ?_); rintro e w1 ⟨rfl, hb⟩; have HB1 := Am (below_step HB0.out hb); have BX1 := Am (blk_below BX0.out hb); have BZ1 := Am (blk_below BZ0.out hb); have hq0 := (bc BX1.out 0).trans (show _ = some (Value.slice A0_0 l0_0.length c0_0) from rfl); have hq1 := (bc BX1.out 1).trans (show _ = some (Value.slice A0_1 l0_1.length c0_1) from rfl); clear hb) | (go_at_call 23; (with_reducible refine (HCP.out _ HB1.out).mono ?_); rintro e w2 ⟨v0, v1, rfl, hr0, hr1, hb⟩; obtain ⟨A2, c2, rfl⟩ := Kd.R_slice hr0; obtain ⟨A3, c3, rfl⟩ := Kd.S_slice hr1; have HB2 := Am (below_step HB1.out hb); have BX2 := Am (blk_below BX1.out hb); have BZ2 := Am (blk_below BZ1.out hb); have hx0 := (bc BX2.out 0).trans (show _ = some (Value.slice A0_0 l0_0.length c0_0) from rfl); have hx1 := (bc BX2.out 1).trans (show _ = some (Value.slice A0_1 l0_1.length c0_1) from rfl); have fx0 : w2.frozen? ⟨w.heap.size, 0, none⟩ = false := Lib.frozen_of_heap BX2.out 0; have fx1 : w2.frozen? ⟨w.heap.size, 1, none⟩ = false := Lib.frozen_of_heap BX2.out 1; have BM := Am (blk_put (cs := #[.slice A0_0 l0_0.length c0_0, .slice A0_1 l0_1.length c0_1]) (cs' := #[.slice A2 m0.length c2, .slice A0_1 l0_1.length c0_1]) BX2.out 0 (.slice A2 m0.length c2) rfl); have BX3 := Am (blk_put (cs := #[.slice A2 m0.length c2, .slice A0_1 l0_1.length c0_1]) (cs' := #[.slice A2 m0.length c2, .slice A3 m1.length c3]) BM.out 1 (.slice A3 m1.length c3) rfl); have RR3 := Am (Kd.R_set (Kd.R_set (Kd.R_lower hr0 HB1.out.size) BX2.out (by decide) 0 (.slice A2 m0.length c2)) BM.out (by decide) 1 (.slice A3 m1.length c3)); have SS3 := Am (Kd.S_set (Kd.S_set (Kd.S_lower hr1 HB1.out.size) BX2.out (by decide) 0 (.slice A2 m0.length c2)) BM.out (by decide) 1 (.slice A3 m1.length c3)); have HB3 := Am ((HB2.out.setCell (p := ⟨w.heap.size, 0, none⟩) (Nat.le_refl _) (.slice A2 m0.length c2)).setCell (p := ⟨w.heap.size, 1, none⟩) (Nat.le_refl _) (.slice A3 m1.length c3)); have BZ3 := Am (blk_far (blk_far BZ2.out (by simp) _) (by simp) _ : ((w2.setCell ⟨w.heap.size, 0, none⟩ (.slice A2 m0.length c2)).setCell ⟨w.heap.size, 1, none⟩ (.slice A3 m1.length c3)).heap[w.heap.size + 1]? = _); clear hr0 hr1 hb) | (go_at_call 24; (with_reducible refine (intern_str.calls k w w.heap.size _ _ m0 a1 d0 n _ BX3.out RR3.out (Nat.le_refl _) HB3.out HST.out).mono ?_); rintro e w4 ⟨v4, rfl, hbx4, hr4, hb4, hk4⟩; obtain ⟨A4, c4, rfl⟩ := Kd.R_slice hr4; have BX4 := Am hbx4; have RR4 := Am hr4; have HB4 := Am hb4; have SS4 := Am (S_keptT SS3.out hk4 (by intro k_ q_ cells_ hq_ hc_; rintro (rfl | hk_); (· have := ty_ne hc_ BX3.out; subst this; revert hq_; decide); (· obtain ⟨cells2_, hc2_⟩ := Kd.R_typed RR3.out k_ hk_.symm; have := ty_ne hc_ hc2_; subst this; revert hq_; decide))); have BZ4 := Am (blk_kept BZ3.out hk4 (by rintro (hk_ | hk_); (· omega); (· exact Kd.R_ne RR3.out BZ3.out (by decide) hk_))); have hq40 := (bc BX4.out 0).trans (show _ = some (Value.slice A4 d0.length c4) from rfl); have hq41 := (bc BX4.out 1).trans (show _ = some (Value.slice A3 m1.length c3) from rfl); have RC4 := Am (Kd.R_reads' hr4); have SC4 := Am (Kd.S_reads' SS4.out); clear hbx4 hr4 hb4 hk4) | (go_at_call 19; (with_reducible refine (intern_May.calls k A4 c4 d0 A3 c3 m1 true _ RC4.out.2.2 RC4.out.2.1 SC4.out.2.2 SC4.out.2.1 HU.out).mono ?_); rintro e w5 ⟨rfl, hb⟩; have BX5 := Am (blk_below BX4.out hb); have BZ5 := Am (blk_below BZ4.out hb); have RR5 := Am (Kd.R_below RR4.out hb); have SS5 := Am (Kd.S_below SS4.out hb); have HB5 := Am (below_step HB4.out hb); have hq50 := (bc BX5.out 0).trans (show _ = some (Value.slice A4 d0.length c4) from rfl); have hq51 := (bc BX5.out 1).trans (show _ = some (Value.slice A3 m1.length c3) from rfl); have hz0 := (bc BZ5.out 0).trans (show _ = some (Value.slice none 0 0) from rfl); have hz1 := (bc BZ5.out 1).trans (show _ = some (Value.slice none 0 0) from rfl); have fz0 : w5.frozen? ⟨w.heap.size + 1, 0, none⟩ = false := Lib.frozen_of_heap BZ5.out 0; have fz1 : w5.frozen? ⟨w.heap.size + 1, 1, none⟩ = false := Lib.frozen_of_heap BZ5.out 1; clear hb))
   refine bodyPost_ret (results_ct rfl _ _ (w.heap.size + 1) 25 #[.slice A4 d0.length c4, .slice A3 m1.length c3] (0, 0) _ rfl (blk_put (cs := #[.slice A4 d0.length c4, .slice none 0 0]) (blk_put (cs := #[.slice none 0 0, .slice none 0 0]) BZ5.out 0 _ rfl) 1 _ rfl) Try.underlying25 rfl (by kernel_rfl)) rfl ?_
   exact ⟨_, _, rfl, Kd.R_set (Kd.R_set RR5.out BZ5.out (by decide) 0 _) (blk_put (cs := #[.slice none 0 0, .slice none 0 0]) BZ5.out 0 _ rfl) (by decide) 1 _, Kd.S_set (Kd.S_set SS5.out BZ5.out (by decide) 0 _) (blk_put (cs := #[.slice none 0 0, .slice none 0 0]) BZ5.out 0 _ rfl) (by decide) 1 _, (HB5.out.setCell (p := ⟨w.heap.size + 1, 0, none⟩) (by simp) _).setCell (p := ⟨w.heap.size + 1, 1, none⟩) (by simp) _⟩

/-! ### intern_Stack: function 13, by hand -/
def intern_Stack.T10 : Bool × List (List Nat × List Nat) := (true, [([], []), ([], []), ([1], [1]), ([2], [2]), ([], []), ([4], [4]), ([3, 5], [3, 5]), ([6], [6]), ([0, 7, 3], [0, 7]), ([8, 8, 0, 1, 2, 3, 4, 5, 6, 7, 8], [8])])
def intern_Stack.B10 : List Nat := [0, 0, 2, 6, 0, 16, 62, 126, 255, 511]
theorem intern_Stack.tab10 : rtab .any (opsOf Try.f13 10) = intern_Stack.T10 := by kernel_rfl
theorem intern_Stack.bits10 : waitsOk intern_Stack.T10.2 intern_Stack.B10 = true := by kernel_rfl
theorem eqH (d : Nat) (w : World) (x0 y0 : Int) (x1 y1 : Int) :
  (Op.equalIn (d + 2) 50 (.agg #[.int .i64 x0, .int .i64 x1]) (.agg #[.int .i64 y0, .int .i64 y1])).run Try.prog w = .ok (x0 == y0 && (x1 == y1)) w := by
 obtain ⟨i, hi⟩ : ∃ i, Try.prog.info? 3 = some i := ⟨_, rfl⟩
 rw [show d + 2 = (d + 1) + 1 from rfl, Go.run_equalIn_array w (d + 1) _ _ Try.underlying50 hi, show Try.prog.cellsOf 3 = 1 by kernel_rfl]
 show (Op.eqItems (d + 1) 3 1 _ _ [0, 1]).run _ _ = _
 refine Go.Proofs.Ytijjfomnidckdaa.Own.eqi_cons (by go_simp; rfl) (by go_simp; rfl) (by go_simp) ?_
 exact Go.Proofs.Ytijjfomnidckdaa.Own.eqi_last (by go_simp; rfl) (by go_simp; rfl) (by go_simp)
attribute [local go_sem high] eqH
theorem infF : (Try.prog.info? 50).map (fun i => (i.zero, i.size, i.bytes)) = some (some (.agg #[(.int .i64 0), (.int .i64 0)]), 2, 16) := by kernel_rfl
theorem infS : (Try.prog.info? 46).map (fun i => (i.zero, i.size, i.bytes)) = some (some (.slice none 0 0), 1, 24) := by kernel_rfl
def eqF (a b : S50) : Bool := a.f0 == b.f0 && (a.f1 == b.f1)
/-- Are the first n frames the same? -/
def eqPre (a b : List S50) : Nat → Bool
 | 0 => true
 | n + 1 => eqPre a b n && eqF (rd_T50 a n) (rd_T50 b n)
theorem eqPre_false {a b : List S50} {i : Nat} (h : eqF (rd_T50 a i) (rd_T50 b i) = false) : ∀ n, i < n → eqPre a b n = false
 | 0, hn => absurd hn (by omega)
 | n + 1, hn => by
  unfold eqPre
  rcases Nat.lt_or_ge i n with h1 | h1
  ·
   rw [eqPre_false h n h1]; rfl
  ·
   obtain rfl : i = n := by omega
   rw [h, Bool.and_false]
def eqL (a b : List S50) : Bool := if a.length = b.length then eqPre a b a.length else false
def slices_Equal_2_int_2_int.f (l0 l1 : List S50) : Option Bool := some (eqL l0 l1)
theorem nx_eq (x : Int) (n : Nat) (h : x < (n : Int)) (h0 : 0 ≤ x) (hn : n ≤ 9223372036854775807) : wrap64 (x + 1) = x + 1 := by
 unfold wrap64
 omega
set_option maxHeartbeats 4000000 in
set_option maxRecDepth 100000 in
theorem slices_Equal_2_int_2_int.calls (A0 : Option Addr) (c0 : Nat) (l0 : List S50) (A1 : Option Addr) (c1 : Nat) (l1 : List S50) (r : Bool) (w : World) (hr0 : Kd.C k50 w A0 l0.length l0) (hc0 : l0.length ≤ c0) (hr1 : Kd.C k50 w A1 l1.length l1) (hc1 : l1.length ≤ c1) (h : slices_Equal_2_int_2_int.f l0 l1 = some r) :
  Calls Try.prog 28 #[.slice A0 l0.length c0, .slice A1 l1.length c1] w fun e w' => e = .returned (.bool r) ∧ Below w.heap.size w w' := by
 have hu50 := Try.underlying50
 obtain rfl := Option.some.inj h
 have hml := hr0.2.1
 have HR0 := Am hr0
 have HR1 := Am hr1
 clear hr0 hr1 hc0 hc1 h
 unfold eqL
 by_cases e0 : l0.length = l1.length
 ·
  rw [if_pos e0]
  have e0b : ((l0.length : Int) == (l1.length : Int)) = true := beq_iff_eq.mpr (by omega)
  have e0c : ((l0.length : Int) != (l1.length : Int)) = false := bne_eq_false_iff_eq.mpr (by omega)
  have e0d : (l0.length == l1.length) = true := beq_iff_eq.mpr e0
  have HE := Am e0
  clear e0
  go_enter Try.func28, Try.ntmps28
  go_wp2
  go_loopg [13] (l0.length + 1) (fun kq v13 w' => ∃ x : Int, v13 = .int .i64 x ∧ Aside0 (0 ≤ x ∧ x ≤ l0.length ∧ (kq : Int) + x = l0.length + 1 ∧ eqPre l0 l1 x.toNat = true) ∧ Aside0 (Below w.heap.size w w'))
  case atStart => exact ⟨0, rfl, ⟨by omega, by omega, by omega, rfl⟩, ⟨by repeat (first | exact Below.refl _ _ | apply b1)⟩⟩
  case round =>
   try clear e0b e0c e0d
   obtain ⟨x, rfl, HA, HB⟩ := hrel
   cases gk with
   | zero => exact absurd HA.out.2.2.1 (by have := HA.out.2.1; omega)
   | succ k1 =>
   by_cases d1 : x < (l0.length : Int)
   ·
    have d1b : decide (x < (l0.length : Int)) = true := decide_eq_true d1
    have d0 := HA.out.1
    have d2 : x < (l1.length : Int) := by have := HE.out; omega
    obtain ⟨ad, ea, hx0, hx1⟩ := at_T50 HR0.out x d0 d1
    cases ea
    obtain ⟨ad2, ea2, hy0, hy1⟩ := at_T50 HR1.out x d0 d2
    cases ea2
    replace hx0 := (HB.out.cell (World.block_lt_of_cell? w _ hx0)).trans hx0
    replace hx1 := (HB.out.cell (World.block_lt_of_cell? w _ hx1)).trans hx1
    replace hy0 := (HB.out.cell (World.block_lt_of_cell? w _ hy0)).trans hy0
    replace hy1 := (HB.out.cell (World.block_lt_of_cell? w _ hy1)).trans hy1
    have p1 := eq_true d0
    have q1 := eq_true d1
    have q2 := eq_true d2
    have HD := Am (And.intro d0 d1)
    clear d0 d1 d2
    cases hq : eqF (rd_T50 l0 x) (rd_T50 l1 x) with
    | false =>
     have HX := Am (eqPre_false (a := l0) (b := l1) (i := x.toNat) (by rw [show ((x.toNat : Nat) : Int) = x by have := HA.out.1; omega]; exact hq) l0.length (by have := HD.out; omega))
     unfold eqF at hq
     have hq2 : (!((rd_T50 l0 x).f0 == (rd_T50 l1 x).f0) || (!((rd_T50 l0 x).f1 == (rd_T50 l1 x).f1))) = true := by rw [← Bool.not_and, hq]; rfl
     have hq6 : (¬ (rd_T50 l0 x).f0 = (rd_T50 l1 x).f0 ∨ ¬ (rd_T50 l0 x).f1 = (rd_T50 l1 x).f1) = True := eq_true (by simpa using hq2)
     have hq7 : ((rd_T50 l0 x).f0 = (rd_T50 l1 x).f0 ∧ (rd_T50 l0 x).f1 = (rd_T50 l1 x).f1) = False := eq_false (by intro hh; simp [hh] at hq)
     go_wp2
     repeat (go_quiet (fail); try go_wp2)
     go_ret
     exact ⟨by first | (rw [HX.out]; done) | (rw [HX.out]; rfl), by repeat (first | exact HB.out | apply b1 | apply pN)⟩
    | true =>
     have HQ := Am hq
     unfold eqF at hq
     have hq2 : (!((rd_T50 l0 x).f0 == (rd_T50 l1 x).f0) || (!((rd_T50 l0 x).f1 == (rd_T50 l1 x).f1))) = false := by rw [← Bool.not_and, hq]; rfl
     have hq6 : (¬ (rd_T50 l0 x).f0 = (rd_T50 l1 x).f0 ∨ ¬ (rd_T50 l0 x).f1 = (rd_T50 l1 x).f1) = False := eq_false (by simpa using hq2)
     have hq7 : ((rd_T50 l0 x).f0 = (rd_T50 l1 x).f0 ∧ (rd_T50 l0 x).f1 = (rd_T50 l1 x).f1) = True := eq_true (by simpa using hq)
     go_wp2
     repeat (go_quiet (fail); try go_wp2)
     go_roundg k1
     case rel => exact ⟨_, rfl, ⟨by have := HA.out; rw [nx_eq x l0.length HD.out.2 HA.out.1 hml]; omega, by have := HD.out; rw [nx_eq x l0.length HD.out.2 HA.out.1 hml]; omega, by have := HA.out; rw [nx_eq x l0.length HD.out.2 HA.out.1 hml]; omega, by rw [nx_eq x l0.length HD.out.2 HA.out.1 hml, show (x + 1).toNat = x.toNat + 1 by have := HA.out.1; omega]; unfold eqPre; rw [HA.out.2.2.2, show ((x.toNat : Nat) : Int) = x by have := HA.out.1; omega, HQ.out]; rfl⟩, ⟨by repeat (first | exact HB.out | apply b1 | apply pN)⟩⟩
     case measure => exact Nat.lt_succ_self _
   ·
    have d1b : decide (x < (l0.length : Int)) = false := decide_eq_false d1
    have e1 : eqPre l0 l1 l0.length = true := by
     have := HA.out.2.2.2
     rwa [show x.toNat = l0.length by have := HA.out.2.1; omega] at this
    have HX := Am e1
    clear d1 e1
    go_wp2
    go_ret
    exact ⟨by first | (rw [HX.out]; done) | (rw [HX.out]; rfl), HB.out⟩
 ·
  rw [if_neg e0]
  have e0b : ((l0.length : Int) == (l1.length : Int)) = false := beq_eq_false_iff_ne.mpr (by omega)
  have e0c : ((l0.length : Int) != (l1.length : Int)) = true := bne_iff_ne.mpr (by omega)
  have e0d : (l0.length == l1.length) = false := beq_eq_false_iff_ne.mpr e0
  clear e0
  go_enter Try.func28, Try.ntmps28
  go_wp2
  go_ret
  exact ⟨rfl, by repeat (first | exact Below.refl _ _ | apply b1)⟩
/-! #### where a stack stands among the stacks -/
def idxS : Nat → List (List S50) → List S50 → Int → Option Int
 | 0, _, _, _ => none
 | k + 1, l, s, x => if x < (l.length : Int) then (if eqL (rd_stk l x) s = true then some x else idxS k l s (x + 1)) else some (-1)
theorem idxS.mono : ∀ k, ∀ y0 y1 y2, LeO (idxS k y0 y1 y2) (idxS (k + 1) y0 y1 y2)
 | 0 => fun _ _ _ r h => by simp [idxS] at h
 | k + 1 => fun y0 y1 y2 => by
  have ih := idxS.mono k
  unfold idxS
  exact LeO.ite (LeO.ite (LeO.refl _) (ih _ _ _)) (LeO.refl _)
set_option maxHeartbeats 4000000 in
set_option maxRecDepth 100000 in
theorem eqS.calls (A : Option Addr) (c : Nat) (m : List S50) (A2 : Option Addr) (c2 : Nat) (s : List S50) (b : Nat) (t : Bool) (w : World) (hm : Kd.C k50 w A m.length m) (hmc : m.length ≤ c) (hs : Kd.C k50 w A2 s.length s) (hsc : s.length ≤ c2) (hb : w.cell? ⟨b, 0, none⟩ = some (.slice A2 s.length c2)) (h : eqL m s = t) :
  Calls Try.prog 27 #[.slice A m.length c, .pointer (some ⟨b, 0, none⟩)] w fun e w' => e = .returned (.bool t) ∧ Below w.heap.size w w' := by
 have H := Am (slices_Equal_2_int_2_int.calls A c m A2 c2 s t w hm hmc hs hsc (congrArg some h))
 clear hm hmc hs hsc h
 go_enter Try.func27, Try.ntmps27
 go_wp2_with (first | (go_at_call 28; (with_reducible refine H.out.mono ?_); rintro e w1 ⟨rfl, hd⟩; have HD := Am (show Below w.heap.size w w1 by first | exact hd.below | exact hd); clear hd))
 go_ret
 exact ⟨rfl, HD.out⟩
theorem nx_st (x : Int) (n : Nat) (h : x < (n : Int)) (h0 : 0 ≤ x) (hn : n ≤ 9223372036854775807) : wrap64 (x + 1) = x + 1 := by
 unfold wrap64
 omega
set_option maxHeartbeats 4000000 in
set_option maxRecDepth 100000 in
theorem IndexS.calls (k : Nat) (A0 : Option Addr) (c0 : Nat) (l0 : List (List S50)) (A2 : Option Addr) (c2 : Nat) (s : List S50) (b : Nat) (r : Int) (w : World) (hr0 : Kd.C (Kd.slice 50 k50) w A0 l0.length l0) (hs : Kd.C k50 w A2 s.length s) (hsc : s.length ≤ c2) (hm : w.cell? ⟨b, 0, none⟩ = some (.slice A2 s.length c2)) (h : idxS k l0 s 0 = some r) :
  Calls Try.prog 26 #[.slice A0 l0.length c0, .func (.func 27) #[] #[.pointer (some ⟨b, 0, none⟩)]] w fun e w' => e = .returned (.int .i64 r) ∧ Below w.heap.size w w' := by
 have hml := hr0.2.1
 have HR := Am hr0
 have HM := Am hm
 have HS := Am hs
 have HSC := Am hsc
 have HH := Am h
 clear hr0 hm hs hsc h
 go_enter Try.func26, Try.ntmps26
 go_wp2
 go_loopg [8] k (fun kq v8 w' => ∃ x : Int, v8 = .int .i64 x ∧ Aside0 (0 ≤ x ∧ x ≤ l0.length) ∧ Aside0 (idxS kq l0 s x = some r) ∧ Aside0 (Below w.heap.size w w'))
 case atStart => exact ⟨0, rfl, ⟨by omega, by omega⟩, HH, ⟨by repeat (first | exact Below.refl _ _ | apply b1)⟩⟩
 case round =>
  clear HH
  obtain ⟨x, rfl, HA, HH, HB⟩ := hrel
  cases gk with
  | zero => exact absurd HH.out (by simp [idxS])
  | succ k1 =>
  have H := HH.out
  clear HH
  simp only [idxS] at H
  by_cases d1 : x < (l0.length : Int)
  ·
   rw [if_pos d1] at H
   have d1b : decide (x < (l0.length : Int)) = true := decide_eq_true d1
   have d0 := HA.out.1
   obtain ⟨ad, A3, c3, ea, hx, hl3, hC3⟩ := at_stk HR.out x d0 d1
   cases ea
   replace hx := (HB.out.cell (World.block_lt_of_cell? w _ hx)).trans hx
   have p1 := eq_true d0
   have q1 := eq_true d1
   have HD := Am (And.intro d0 d1)
   clear d0 d1
   have HC := fun (W : World) (hW : Below w.heap.size w W) => eqS.calls A3 c3 (rd_stk l0 x) A2 c2 s b (eqL (rd_stk l0 x) s) W (Kd.C_below hC3 hW) hl3 (Kd.C_below HS.out hW) HSC.out ((hW.cell (World.block_lt_of_cell? w _ HM.out)).trans HM.out) rfl
   clear hC3 hl3
   cases ht : eqL (rd_stk l0 x) s with
   | true =>
    rw [ht] at H HC
    clear ht
    have HCC := Am HC
    have H' := Am (Option.some.inj ((if_pos rfl).symm.trans H))
    clear HC H
    go_wp2_with (first | (go_at_call 27; (with_reducible refine (HCC.out _ (by repeat (first | exact HB.out | apply b1))).mono ?_); rintro e w1 ⟨rfl, hb⟩; have HB1 := Am (below_step HB.out hb); clear hb))
    go_ret
    exact ⟨by first | (rw [← H'.out]; done) | (rw [← H'.out]; rfl), HB1.out⟩
   | false =>
    rw [ht] at H HC
    clear ht
    have HCC := Am HC
    have H' := Am ((if_neg Bool.false_ne_true).symm.trans H)
    clear HC H
    go_wp2_with (first | (go_at_call 27; (with_reducible refine (HCC.out _ (by repeat (first | exact HB.out | apply b1))).mono ?_); rintro e w1 ⟨rfl, hb⟩; have HB1 := Am (below_step HB.out hb); clear hb))
    go_roundg k1
    case rel => exact ⟨_, rfl, ⟨by have := HA.out; rw [nx_st x l0.length HD.out.2 HA.out.1 hml]; omega, by have := HD.out; rw [nx_st x l0.length HD.out.2 HA.out.1 hml]; omega⟩, by rw [nx_st x l0.length HD.out.2 HA.out.1 hml]; exact H', HB1⟩
    case measure => exact Nat.lt_succ_self _
  ·
   rw [if_neg d1] at H
   have d1b : decide (x < (l0.length : Int)) = false := decide_eq_false d1
   have H' := Am (Option.some.inj H)
   clear d1 H
   go_wp2
   go_ret
   exact ⟨by first | (rw [← H'.out]; done) | (rw [← H'.out]; rfl), HB.out⟩
/-! #### the stack of frames -/
def stL : Nat → List S45 → List ByteArray → List S50 → Int → Option (List ByteArray × List S50)
 | 0, _, _, _, _ => none
 | k + 1, fs, d, st, x => if x < (fs.length : Int) then ((intern_str.f k d (rd_T45 fs x).f0).bind fun e => if st.length < 8796093022207 then stL k fs e.1 (st ++ [⟨e.2, (rd_T45 fs x).f1⟩]) (x + 1) else none) else some (d, st)
theorem stL.mono : ∀ k, ∀ y0 y1 y2 y3, LeO (stL k y0 y1 y2 y3) (stL (k + 1) y0 y1 y2 y3)
 | 0 => fun _ _ _ _ r h => by simp [stL] at h
 | k + 1 => fun y0 y1 y2 y3 => by
  have ih := stL.mono k
  unfold stL
  exact LeO.ite (LeO.bind (intern_str.mono _ _ _) (fun _ => LeO.ite (ih _ _ _ _) (LeO.refl _))) (LeO.refl _)
/-- What is left at the end, if the table may be. -/
def stEnd (k : Nat) (d : List ByteArray) (m : List (List S50)) (n : Int) : Option (List ByteArray × (List (List S50)) × Int) := (intern_May.f k d m).bind fun u => if u = true then some (d, m, n) else some (([] : List ByteArray), ([] : List (List S50)), (0 : Int))
theorem stEnd.mono (k : Nat) (d : List ByteArray) (m : List (List S50)) (n : Int) : LeO (stEnd k d m n) (stEnd (k + 1) d m n) := LeO.bind (intern_May.mono _ _ _) (fun _ => LeO.refl _)
def intern_Stack.f (k : Nat) (l0_0 : List ByteArray) (l0_1 : List (List S50)) (l1 : List S45) : Option (List ByteArray × (List (List S50)) × Int) := (intern_May.f k l0_0 l0_1).bind fun t => if t = true then ((intern_copied.f k l0_0 l0_1).bind fun c => if l1.length = 0 then some (c.1, c.2, (0 : Int)) else ((stL k l1 c.1 [] 0).bind fun d => (idxS k c.2 d.2 0).bind fun at_ => if at_ < 0 then (if c.2.length < 5864062014805 then stEnd k d.1 (c.2 ++ [d.2]) ((c.2.length : Int) + 1) else none) else stEnd k d.1 c.2 (wrap64 (at_ + 1)))) else some (([] : List ByteArray), ([] : List (List S50)), (0 : Int))
theorem intern_Stack.mono : ∀ a0 a1 a2 k, LeO (intern_Stack.f k a0 a1 a2) (intern_Stack.f (k + 1) a0 a1 a2) := fun a0 a1 a2 k => by
 unfold intern_Stack.f
 exact LeO.bind (intern_May.mono _ _ _) (fun _ => LeO.ite (LeO.bind (intern_copied.mono _ _ _) (fun _ => LeO.ite (LeO.refl _) (LeO.bind (stL.mono _ _ _ _ _) (fun _ => LeO.bind (idxS.mono _ _ _ _) (fun _ => LeO.ite (LeO.ite (stEnd.mono _ _ _ _) (LeO.refl _)) (stEnd.mono _ _ _ _)))))) (LeO.refl _))
theorem set_size (w : World) (p : Addr) (v : Value) : (w.setCell p v).heap.size = w.heap.size := by
 simp
/-- The table in its box, the result's box, the stack in its box: what stands in the loop. -/
def StAt (w : World) (g : Nat) (v1 : Value) (m : List (List S50)) (d : List ByteArray) (vs : Value) (st : List S50) (W : World) : Prop :=
 (∃ v0 : Value, W.heap[w.heap.size]? = some (.cells #[v0, v1] 25 (0, 0)) ∧ Kd.R Kd.string 9 W w.heap.size (fun _ => True) v0 d) ∧ W.heap[w.heap.size + 1]? = some (.cells #[.slice none 0 0, .slice none 0 0] 25 (0, 0)) ∧ W.heap[g]? = some (.cells #[vs] 46 (0, 0)) ∧ Kd.S (Kd.slice 50 k50) 46 W w.heap.size (fun k => k < g) v1 m ∧ Kd.R k50 50 W w.heap.size (fun k => g ≤ k) vs st ∧ Below w.heap.size w W ∧ w.heap.size + 1 < g
section
variable {w W W2 : World} {g : Nat} {v1 vs : Value} {m : List (List S50)} {d : List ByteArray} {st : List S50}
theorem StAt.below (h : StAt w g v1 m d vs st W) (hb : Below W.heap.size W W2) : StAt w g v1 m d vs st W2 := by
 obtain ⟨⟨v0, h1, h2⟩, h3, h4, h5, h6, h7, h8⟩ := h
 exact ⟨⟨v0, blk_below h1 hb, Kd.R_below h2 hb⟩, blk_below h3 hb, blk_below h4 hb, Kd.S_below h5 hb, Kd.R_below h6 hb, below_step h7 hb, h8⟩
theorem StAt.v (h : StAt w g v1 m d vs st W) : W.cell? ⟨g, 0, none⟩ = some vs := (bc h.2.2.1 0).trans rfl
theorem StAt.str (h : StAt w g v1 m d vs st W) (k : Nat) (s : ByteArray) (r1 : List ByteArray) (r2 : Int) (hf : intern_str.f k d s = some (r1, r2)) {g8 q8 : Nat} {c8 : Array Value} (h8 : W.heap[g8]? = some (.cells c8 q8 (0, 0))) (hq8 : q8 ≠ 25) (hq9 : q8 ≠ 9) : Calls Try.prog 24 #[.pointer (some ⟨w.heap.size, 0, none⟩), .string s] W fun e W' => e = .returned (.int .i64 r2) ∧ StAt w g v1 m r1 vs st W' ∧ W'.heap[g8]? = some (.cells c8 q8 (0, 0)) := by
 obtain ⟨⟨v0, h1, h2⟩, h3, h4, h5, h6, h7, hlt⟩ := h
 refine (intern_str.calls k w w.heap.size v0 v1 d s r1 r2 W h1 h2 (Nat.le_refl _) h7 hf).mono ?_
 rintro e W' ⟨v0', rfl, hbx, hr, hb, hk⟩
 have hT : ∀ q, q ≠ 25 → q ≠ 9 → ∀ k_ cells_, W.heap[k_]? = some (.cells cells_ q (0, 0)) → ¬ (k_ = w.heap.size ∨ some k_ = v0.ownBlock) := by
  intro q hqa hqb k_ cells_ hc_
  rintro (rfl | hk_)
  ·
   exact hqa (ty_ne hc_ h1)
  ·
   obtain ⟨cells2_, hc2_⟩ := Kd.R_typed h2 k_ hk_.symm
   exact hqb (ty_ne hc_ hc2_)
 refine ⟨rfl, ⟨⟨v0', hbx, hr⟩, ?_, ?_, ?_, ?_, hb, hlt⟩, ?_⟩
 ·
  exact blk_kept h3 hk (by rintro (hk_ | hk_); (· omega); (· exact Kd.R_ne h2 h3 (by decide) hk_))
 ·
  exact blk_kept h4 hk (hT _ (by decide) (by decide) _ _ h4)
 ·
  exact S_keptT h5 hk (by intro k_ q_ cells_ hq_ hc_; exact hT q_ (by rintro rfl; revert hq_; decide) (by rintro rfl; revert hq_; decide) _ _ hc_)
 ·
  exact R_keptT h6 hk (by intro k_ q_ cells_ hq_ hc_; exact hT q_ (by rintro rfl; revert hq_; decide) (by rintro rfl; revert hq_; decide) _ _ hc_)
 ·
  exact blk_kept h8 hk (hT _ hq8 hq9 _ _ h8)
theorem StAt.put (h : StAt w g v1 m d vs st W) {vs' : Value} {st' : List S50} (hr : Kd.R k50 50 W2 w.heap.size (fun k => g ≤ k) vs' st') (hb : Below w.heap.size w W2) (hg : W.grownBy W2 vs.ownBlock) : StAt w g v1 m d vs' st' (W2.setCell ⟨g, 0, none⟩ vs') := by
 obtain ⟨⟨v0, h1, h2⟩, h3, h4, h5, h6, h7, hlt⟩ := h
 have b4 := blk_grown h4 hg (Kd.R_ne h6 h4 (by decide))
 have r2 := Kd.R_over' h2 (Kd.R_typed h6) (by decide) hg
 have s5 : Kd.S (Kd.slice 50 k50) 46 W2 w.heap.size (fun k => k < g) v1 m := Kd.S_step h5 (fun k ho hlt => hg.block k hlt (fun e => by have := h6.1 k e.symm; omega))
 refine ⟨⟨v0, ?_, ?_⟩, ?_, ?_, ?_, ?_, ?_, hlt⟩
 ·
  exact blk_far (blk_grown h1 hg (Kd.R_ne h6 h1 (by decide))) (by show w.heap.size ≠ g; omega) _
 ·
  exact Kd.R_set r2 b4 (by decide) 0 _
 ·
  exact blk_far (blk_grown h3 hg (Kd.R_ne h6 h3 (by decide))) (by show w.heap.size + 1 ≠ g; omega) _
 ·
  exact blk_put (cs := #[vs]) b4 0 _ rfl
 ·
  exact Kd.S_far s5 (fun k hk => by show k ≠ g; omega) _
 ·
  exact Kd.R_set hr b4 (by decide) 0 _
 ·
  exact hb.setCell (p := ⟨g, 0, none⟩) (by show w.heap.size ≤ g; omega) _
end
theorem mayOf {k : Nat} {W : World} {A B : Option Addr} {c e n : Nat} {d : List ByteArray} {m : List (List S50)} {u : Bool} {b : Nat} {ok ok' : Nat → Prop} (hn : m.length = n) (hu : intern_May.f k d m = some u) (h0 : Kd.R Kd.string 9 W b ok (.slice A d.length c) d) (h1 : Kd.S (Kd.slice 50 k50) 46 W b ok' (.slice B n e) m) : Calls Try.prog 19 #[.agg #[.slice A d.length c, .slice B n e]] W fun e' w' => e' = .returned (.bool u) ∧ Below W.heap.size W w' := by
 subst hn
 exact intern_May.calls k A c d B e m u W (Kd.R_reads' h0).2.2 (Kd.R_reads' h0).2.1 (Kd.S_reads' h1).2.2 (Kd.S_reads' h1).2.1 hu
/-- .. and a frame in its box. -/
def StF (w : World) (g : Nat) (v1 : Value) (m : List (List S50)) (d : List ByteArray) (vs : Value) (st : List S50) (g8 : Nat) (c8 : Array Value) (W : World) : Prop := StAt w g v1 m d vs st W ∧ W.heap[g8]? = some (.cells c8 45 (0, 0))
section
variable {w W W2 : World} {g g8 : Nat} {v1 vs : Value} {m : List (List S50)} {d : List ByteArray} {st : List S50} {c8 : Array Value}
theorem StF.below (h : StF w g v1 m d vs st g8 c8 W) (hb : Below W.heap.size W W2) : StF w g v1 m d vs st g8 c8 W2 := ⟨h.1.below hb, blk_below h.2 hb⟩
theorem StF.drew (h : StF w g v1 m d vs st g8 c8 W) : StF w g v1 m d vs st g8 c8 W.drew := h.below (b1 (Below.refl _ _))
theorem StF.alloc (h : StF w g v1 m d vs st g8 c8 W) (o : Obj) : StF w g v1 m d vs st g8 c8 (W.alloc o) := h.below (bl (Below.refl _ _) o)
theorem StF.e (h : StF w g v1 m d vs st g8 c8 W) (i : Nat) {v : Value} (hv : c8[i]? = some v) : W.cell? ⟨g8, i, none⟩ = some v := (bc h.2 i).trans hv
theorem StF.v (h : StF w g v1 m d vs st g8 c8 W) : W.cell? ⟨g, 0, none⟩ = some vs := h.1.v
theorem StF.str (h : StF w g v1 m d vs st g8 c8 W) (k : Nat) (s : ByteArray) (r1 : List ByteArray) (r2 : Int) (hf : intern_str.f k d s = some (r1, r2)) : Calls Try.prog 24 #[.pointer (some ⟨w.heap.size, 0, none⟩), .string s] W fun e W' => e = .returned (.int .i64 r2) ∧ StF w g v1 m r1 vs st g8 c8 W' := h.1.str k s r1 r2 hf h.2 (by decide) (by decide)
end
set_option maxHeartbeats 8000000 in
set_option maxRecDepth 100000 in
theorem intern_Stack.calls (k : Nat) (A0_0 : Option Addr) (c0_0 : Nat) (l0_0 : List ByteArray) (A0_1 : Option Addr) (c0_1 : Nat) (l0_1 : List (List S50)) (A1 : Option Addr) (c1 : Nat) (l1 : List S45) (r1 : List ByteArray) (r2 : List (List S50)) (r3 : Int) (w : World) (hr0_0 : Kd.C Kd.string w A0_0 l0_0.length l0_0) (hc0_0 : l0_0.length ≤ c0_0) (hr0_1 : Kd.C (Kd.slice 50 k50) w A0_1 l0_1.length l0_1) (hc0_1 : l0_1.length ≤ c0_1) (hr1 : Kd.C k45 w A1 l1.length l1) (hc1 : l1.length ≤ c1) (h : intern_Stack.f k l0_0 l0_1 l1 = some (r1, r2, r3)) :
  Calls Try.prog 13 #[.agg #[.slice A0_0 l0_0.length c0_0, .slice A0_1 l0_1.length c0_1], .slice A1 l1.length c1] w fun e w' => ∃ v0_ v1_ : Value, e = .returned (.tuple #[.agg #[v0_, v1_], .int .i64 r3]) ∧ Kd.R Kd.string 9 w' w.heap.size (fun _ => True) v0_ r1 ∧ Kd.S (Kd.slice 50 k50) 46 w' w.heap.size (fun _ => True) v1_ r2 ∧ Below w.heap.size w w' := by
 have hu45 := Try.underlying45
 have hu46 := Try.underlying46
 have hu50 := Try.underlying50
 have HR0 := Am hr0_0
 have HR1 := Am hr0_1
 have HC0 := Am hc0_0
 have HC1 := Am hc0_1
 have HRF := Am hr1
 have hml := hr1.2.1
 clear hr0_0 hr0_1 hc0_0 hc0_1 hr1 hc1
 have HB0 : Aside0 (Below w.heap.size w ((w.alloc (.cells #[.slice A0_0 l0_0.length c0_0, .slice A0_1 l0_1.length c0_1] 25)).alloc (.cells #[.slice none 0 0, .slice none 0 0] 25))) := ⟨bl (bl (Below.refl _ _) _) _⟩
 have BX0 : Aside0 (((w.alloc (.cells #[.slice A0_0 l0_0.length c0_0, .slice A0_1 l0_1.length c0_1] 25)).alloc (.cells #[.slice none 0 0, .slice none 0 0] 25)).heap[w.heap.size]? = some (.cells #[.slice A0_0 l0_0.length c0_0, .slice A0_1 l0_1.length c0_1] 25 (0, 0))) := ⟨ba (blk_new w _) _⟩
 have BZ0 : Aside0 (((w.alloc (.cells #[.slice A0_0 l0_0.length c0_0, .slice A0_1 l0_1.length c0_1] 25)).alloc (.cells #[.slice none 0 0, .slice none 0 0] 25)).heap[w.heap.size + 1]? = some (.cells #[.slice none 0 0, .slice none 0 0] 25 (0, 0))) := ⟨by have h := blk_new (w.alloc (.cells #[.slice A0_0 l0_0.length c0_0, .slice A0_1 l0_1.length c0_1] 25)) (.cells #[.slice none 0 0, .slice none 0 0] 25); rwa [tb_size] at h⟩
 unfold intern_Stack.f at h
 replace h := ob h
 obtain ⟨t, ht, h⟩ := h
 have HMY := Am (fun (W : World) (hW : Below w.heap.size w W) => intern_May.calls k A0_0 c0_0 l0_0 A0_1 c0_1 l0_1 t W (Kd.C_below HR0.out hW) HC0.out (Kd.C_below HR1.out hW) HC1.out ht)
 clear ht
 cases t with
 | false =>
  rw [if_neg Bool.false_ne_true] at h
  cases h
  go_enter Try.func13, Try.ntmps13
  go_wp2_with (first | (go_at_call 19; (with_reducible refine (HMY.out _ HB0.out).mono ?_); rintro e w1 ⟨rfl, hb⟩; have HB1 := Am (below_step HB0.out hb); have BZ1 := Am (blk_below BZ0.out hb); have hz0 := (bc BZ1.out 0).trans (show _ = some (Value.slice none 0 0) from rfl); have hz1 := (bc BZ1.out 1).trans (show _ = some (Value.slice none 0 0) from rfl); have fz0 : w1.frozen? ⟨w.heap.size + 1, 0, none⟩ = false := Lib.frozen_of_heap BZ1.out 0; have fz1 : w1.frozen? ⟨w.heap.size + 1, 1, none⟩ = false := Lib.frozen_of_heap BZ1.out 1; clear hb))
  refine bodyPost_ret (results_ct rfl _ _ (w.heap.size + 1) 25 #[.slice none 0 0, .slice none 0 0] (0, 0) _ rfl (blk_put (cs := #[.slice none 0 0, .slice none 0 0]) (blk_put (cs := #[.slice none 0 0, .slice none 0 0]) BZ1.out 0 _ rfl) 1 _ rfl) Try.underlying25 rfl (by kernel_rfl)) rfl ?_
  exact ⟨_, _, rfl, Kd.R_nil _ _ _ _ _, Kd.S_nil _ _ _ _ _, (HB1.out.setCell (p := ⟨w.heap.size + 1, 0, none⟩) (by simp) _).setCell (p := ⟨w.heap.size + 1, 1, none⟩) (by simp) _⟩
 | true =>
  replace h := (if_pos rfl).symm.trans h
  replace h := ob h
  obtain ⟨⟨m0, m1⟩, hcp, h⟩ := h
  simp only at h
  have HCP := Am (fun (W : World) (hW : Below w.heap.size w W) => intern_copied.calls k A0_0 c0_0 l0_0 A0_1 c0_1 l0_1 m0 m1 W (Kd.C_below HR0.out hW) HC0.out (Kd.C_below HR1.out hW) HC1.out hcp)
  clear hcp
  by_cases hl0 : l1.length = 0
  ·
   rw [if_pos hl0] at h
   have l0b : ((l1.length : Int) == (0 : Int)) = true := beq_iff_eq.mpr (by omega)
   have l0c : ((l1.length : Int) = (0 : Int)) = True := eq_true (by omega)
   have l0d : (l1.length == 0) = true := beq_iff_eq.mpr hl0
   clear hl0
   simp only [Option.some.injEq, Prod.mk.injEq] at h
   obtain ⟨rfl, rfl, rfl⟩ := h
   go_enter Try.func13, Try.ntmps13
   go_wp2_with (first | (go_at_call 19; (with_reducible refine (HMY.out _ HB0.out).mono ?_); rintro e w1 ⟨rfl, hb⟩; have HB1 := Am (below_step HB0.out hb); have BX1 := Am (blk_below BX0.out hb); have BZ1 := Am (blk_below BZ0.out hb); have hq0 := (bc BX1.out 0).trans (show _ = some (Value.slice A0_0 l0_0.length c0_0) from rfl); have hq1 := (bc BX1.out 1).trans (show _ = some (Value.slice A0_1 l0_1.length c0_1) from rfl); clear hb) | (go_at_call 23; (with_reducible refine (HCP.out _ HB1.out).mono ?_); rintro e w2 ⟨v0, v1, rfl, hr0, hr1, hb⟩; obtain ⟨A2, c2, rfl⟩ := Kd.R_slice hr0; obtain ⟨A3, c3, rfl⟩ := Kd.S_slice hr1; have HB2 := Am (below_step HB1.out hb); have BX2 := Am (blk_below BX1.out hb); have BZ2 := Am (blk_below BZ1.out hb); have hx0 := (bc BX2.out 0).trans (show _ = some (Value.slice A0_0 l0_0.length c0_0) from rfl); have hx1 := (bc BX2.out 1).trans (show _ = some (Value.slice A0_1 l0_1.length c0_1) from rfl); have fx0 : w2.frozen? ⟨w.heap.size, 0, none⟩ = false := Lib.frozen_of_heap BX2.out 0; have fx1 : w2.frozen? ⟨w.heap.size, 1, none⟩ = false := Lib.frozen_of_heap BX2.out 1; have hz0 := (bc BZ2.out 0).trans (show _ = some (Value.slice none 0 0) from rfl); have hz1 := (bc BZ2.out 1).trans (show _ = some (Value.slice none 0 0) from rfl); have fz0 : w2.frozen? ⟨w.heap.size + 1, 0, none⟩ = false := Lib.frozen_of_heap BZ2.out 0; have fz1 : w2.frozen? ⟨w.heap.size + 1, 1, none⟩ = false := Lib.frozen_of_heap BZ2.out 1; have BM := Am (blk_put (cs := #[.slice A0_0 l0_0.length c0_0, .slice A0_1 l0_1.length c0_1]) (cs' := #[.slice A2 m0.length c2, .slice A0_1 l0_1.length c0_1]) BX2.out 0 (.slice A2 m0.length c2) rfl); have RR3 := Am (Kd.R_set (Kd.R_set (Kd.R_lower hr0 HB1.out.size) BX2.out (by decide) 0 (.slice A2 m0.length c2)) BM.out (by decide) 1 (.slice A3 m1.length c3)); have SS3 := Am (Kd.S_set (Kd.S_set (Kd.S_lower hr1 HB1.out.size) BX2.out (by decide) 0 (.slice A2 m0.length c2)) BM.out (by decide) 1 (.slice A3 m1.length c3)); have HB3 := Am ((HB2.out.setCell (p := ⟨w.heap.size, 0, none⟩) (Nat.le_refl _) (.slice A2 m0.length c2)).setCell (p := ⟨w.heap.size, 1, none⟩) (Nat.le_refl _) (.slice A3 m1.length c3)); have BZ3 := Am (blk_far (blk_far BZ2.out (by simp) _) (by simp) _ : ((w2.setCell ⟨w.heap.size, 0, none⟩ (.slice A2 m0.length c2)).setCell ⟨w.heap.size, 1, none⟩ (.slice A3 m1.length c3)).heap[w.heap.size + 1]? = _); clear hr0 hr1 hb))
   refine bodyPost_ret (results_ct rfl _ _ (w.heap.size + 1) 25 #[.slice A2 m0.length c2, .slice A3 m1.length c3] (0, 0) _ rfl (blk_put (cs := #[.slice A2 m0.length c2, .slice none 0 0]) (blk_put (cs := #[.slice none 0 0, .slice none 0 0]) BZ3.out 0 _ rfl) 1 _ rfl) Try.underlying25 rfl (by kernel_rfl)) rfl ?_
   exact ⟨_, _, rfl, Kd.R_set (Kd.R_set RR3.out BZ3.out (by decide) 0 _) (blk_put (cs := #[.slice none 0 0, .slice none 0 0]) BZ3.out 0 _ rfl) (by decide) 1 _, Kd.S_set (Kd.S_set SS3.out BZ3.out (by decide) 0 _) (blk_put (cs := #[.slice none 0 0, .slice none 0 0]) BZ3.out 0 _ rfl) (by decide) 1 _, (HB3.out.setCell (p := ⟨w.heap.size + 1, 0, none⟩) (by simp) _).setCell (p := ⟨w.heap.size + 1, 1, none⟩) (by simp) _⟩
  ·
   rw [if_neg hl0] at h
   have l0b : ((l1.length : Int) == (0 : Int)) = false := beq_eq_false_iff_ne.mpr (by omega)
   have l0c : ((l1.length : Int) = (0 : Int)) = False := eq_false (by omega)
   have l0d : (l1.length == 0) = false := beq_eq_false_iff_ne.mpr hl0
   clear hl0
   replace h := ob h
   obtain ⟨⟨d1, s1⟩, hsl, h⟩ := h
   replace h := ob h
   obtain ⟨at_, hat, h⟩ := h
   simp only at hat h
   have HSL := Am hsl
   have HAT := Am hat
   have HH := Am h
   clear hsl hat h
   go_enter Try.func13, Try.ntmps13
   go_wp2_with (first | (go_at_call 19; (with_reducible refine (HMY.out _ HB0.out).mono ?_); rintro e w1 ⟨rfl, hb⟩; have HB1 := Am (below_step HB0.out hb); have BX1 := Am (blk_below BX0.out hb); have BZ1 := Am (blk_below BZ0.out hb); have hq0 := (bc BX1.out 0).trans (show _ = some (Value.slice A0_0 l0_0.length c0_0) from rfl); have hq1 := (bc BX1.out 1).trans (show _ = some (Value.slice A0_1 l0_1.length c0_1) from rfl); clear hb) | (go_at_call 23; (with_reducible refine (HCP.out _ HB1.out).mono ?_); rintro e w2 ⟨v0, v1, rfl, hr0, hr1, hb⟩; obtain ⟨A2, c2, rfl⟩ := Kd.R_slice hr0; obtain ⟨A3, c3, rfl⟩ := Kd.S_slice hr1; have HB2 := Am (below_step HB1.out hb); have BX2 := Am (blk_below BX1.out hb); have BZ2 := Am (blk_below BZ1.out hb); have hx0 := (bc BX2.out 0).trans (show _ = some (Value.slice A0_0 l0_0.length c0_0) from rfl); have hx1 := (bc BX2.out 1).trans (show _ = some (Value.slice A0_1 l0_1.length c0_1) from rfl); have fx0 : w2.frozen? ⟨w.heap.size, 0, none⟩ = false := Lib.frozen_of_heap BX2.out 0; have fx1 : w2.frozen? ⟨w.heap.size, 1, none⟩ = false := Lib.frozen_of_heap BX2.out 1; have BM := Am (blk_put (cs := #[.slice A0_0 l0_0.length c0_0, .slice A0_1 l0_1.length c0_1]) (cs' := #[.slice A2 m0.length c2, .slice A0_1 l0_1.length c0_1]) BX2.out 0 (.slice A2 m0.length c2) rfl); have BX3 := Am (blk_put (cs := #[.slice A2 m0.length c2, .slice A0_1 l0_1.length c0_1]) (cs' := #[.slice A2 m0.length c2, .slice A3 m1.length c3]) BM.out 1 (.slice A3 m1.length c3) rfl); have RR3 := Am (Kd.R_set (Kd.R_set (Kd.R_lower hr0 HB1.out.size) BX2.out (by decide) 0 (.slice A2 m0.length c2)) BM.out (by decide) 1 (.slice A3 m1.length c3)); have SS3 := Am (Kd.S_set (Kd.S_set (Kd.S_lower hr1 HB1.out.size) BX2.out (by decide) 0 (.slice A2 m0.length c2)) BM.out (by decide) 1 (.slice A3 m1.length c3)); have HB3 := Am ((HB2.out.setCell (p := ⟨w.heap.size, 0, none⟩) (Nat.le_refl _) (.slice A2 m0.length c2)).setCell (p := ⟨w.heap.size, 1, none⟩) (Nat.le_refl _) (.slice A3 m1.length c3)); have BZ3 := Am (blk_far (blk_far BZ2.out (by simp) _) (by simp) _ : ((w2.setCell ⟨w.heap.size, 0, none⟩ (.slice A2 m0.length c2)).setCell ⟨w.heap.size, 1, none⟩ (.slice A3 m1.length c3)).heap[w.heap.size + 1]? = _); clear hr0 hr1 hb))
   have HN0 : Aside0 (StAt w w2.heap.size (.slice A3 m1.length c3) m1 m0 (.slice none 0 0) [] (((w2.setCell ⟨w.heap.size, 0, none⟩ (.slice A2 m0.length c2)).setCell ⟨w.heap.size, 1, none⟩ (.slice A3 m1.length c3)).alloc (.cells #[.slice none 0 0] 46))) := ⟨⟨⟨_, ba BX3.out _, Kd.R_alloc RR3.out _⟩, ba BZ3.out _, by have h := blk_new ((w2.setCell ⟨w.heap.size, 0, none⟩ (.slice A2 m0.length c2)).setCell ⟨w.heap.size, 1, none⟩ (.slice A3 m1.length c3)) (.cells #[.slice none 0 0] 46); rwa [set_size, set_size] at h, Kd.S_mono (Kd.S_alloc (Kd.S_bound SS3.out) _) (fun k_ hk_ => by have := hk_.2.2.1; rwa [set_size, set_size] at this), Kd.R_nil _ _ _ _ _, bl HB3.out _, blk_lt BZ2.out⟩⟩
   clear hq0 hq1 hx0 hx1 fx0 fx1
   go_loopg [22] k (fun kq v22 w' => ∃ (x : Int) (d : List ByteArray) (vs : Value) (st : List S50), v22 = .int .i64 x ∧ Aside0 (0 ≤ x) ∧ Aside0 (stL kq l1 d st x = some (d1, s1)) ∧ Aside0 (kq ≤ k) ∧ Aside0 (StAt w w2.heap.size (.slice A3 m1.length c3) m1 d vs st w'))
   case atStart => exact ⟨0, _, _, _, rfl, ⟨Int.le_refl _⟩, HSL, ⟨Nat.le_refl _⟩, HN0⟩
   case round =>
    clear HSL HN0
    obtain ⟨x, d, vs, st, rfl, HX, HA, HKQ, HN⟩ := hrel
    cases gk with
    | zero => exact absurd HA.out (by simp [stL])
    | succ k1 =>
     have H := HA.out
     clear HA
     simp only [stL] at H
     by_cases c2_ : x < (l1.length : Int)
     ·
      rw [if_pos c2_] at H
      have c2b0 : decide (x < (l1.length : Int)) = true := decide_eq_true c2_
      obtain ⟨ad, ea, hx0, hx1⟩ := at_T45 HRF.out x HX.out c2_
      cases ea
      replace hx0 := (HN.out.2.2.2.2.2.1.cell (World.block_lt_of_cell? w _ hx0)).trans hx0
      replace hx1 := (HN.out.2.2.2.2.2.1.cell (World.block_lt_of_cell? w _ hx1)).trans hx1
      have p1 := eq_true HX.out
      have q1 := eq_true c2_
      have HD := Am c2_
      clear c2_
      generalize (rd_T45 l1 x).f0 = s at hx0 H
      generalize (rd_T45 l1 x).f1 = n at hx1 H
      replace H := ob H
      obtain ⟨⟨d2, i2⟩, A40, H⟩ := H
      simp only at H
      have A4 := Am A40
      clear A40
      by_cases c8 : st.length < 8796093022207
      ·
       rw [if_pos c8] at H
       have HL := Am c8
       have H' := Am H
       clear c8 H
       have hnx := nx_st x l1.length HD.out HX.out hml
       go_wp2
       have HM : Aside0 (StF w w2.heap.size (.slice A3 m1.length c3) m1 d vs st wr.heap.size #[.string s, .int .i64 n] (wr.alloc (.cells #[.string s, .int .i64 n] 45))) := ⟨⟨StAt.below HN.out (bl (Below.refl _ _) _), blk_new _ _⟩⟩
       refine start_ (n := 10) (S := fun w' => w'.cell? ⟨wr.heap.size, 0, none⟩ = some (.string s) ∧ w'.cell? ⟨wr.heap.size, 1, none⟩ = some (.int .i64 n) ∧ w'.cell? ⟨w2.heap.size, 0, none⟩ = some vs) (ds := [8, 9]) q5_0 (by kernel_rfl) rfl rfl ⟨HM.out.drew.e 0 rfl, HM.out.drew.e 1 rfl, HM.out.drew.v⟩ (fun hHeld => ?_)
       refine with_tabW intern_Stack.tab10 intern_Stack.bits10 (fun HT_ HW_ => ?_)
       refine Own.pr_ 1 (some 27) q5_1 HT_ (h := ?_)
       refine Own.pr_ 4 (some 30) q5_2 HT_ (h := ?_)
       refine Own.tk_ 0 (some 26) q5_3 HT_ HW_ hHeld (hy := by rintro w' ⟨s0, s1, s2⟩; go_simp; with_reducible rfl) (h := ?_)
       refine Own.tk_ 2 (some 28) q5_4 HT_ HW_ hHeld (hy := by rintro w' ⟨s0, s1, s2⟩; go_simp; with_reducible rfl) (h := ?_)
       refine Own.tk_ 5 (some 31) q5_5 HT_ HW_ hHeld (hy := by rintro w' ⟨s0, s1, s2⟩; go_simp; with_reducible rfl) (h := ?_)
       refine one_ (i := 3) (N := some 29) q5_6 rfl rfl (one_of HT_.out (by kernel_rfl)) (by decide) (fun K hK => ?_)
       refine goes_ Try.func24 (by kernel_rfl) rfl #[.pointer (some ⟨w.heap.size, 0, none⟩), .string s] (by rfl) rfl rfl (by (try simp only [List.map_toArray, List.map_cons, List.map_nil]); first | done | rfl | (simp only [List.length_drop, List.length_take]; rfl)) ?_
       with_reducible refine (StF.str HM.out.drew k1 s d2 i2 A4.out).mono ?_
       rintro e w4 ⟨rfl, HJ⟩
       refine ⟨_, rfl, ?_⟩
       refine hK.out _ _ ⟨HJ.e 0 rfl, HJ.e 1 rfl, HJ.v⟩ (fun hHeld => ?_)
       clear hK K
       refine norm_ (a' := ?_) ?_ ?_
       rotate_left
       ·
        show Act.put _ (some 29) _ = _
        simp only [Act.put, sI, sZ, sS, i64_w, i32_w]
        rfl
       refine Own.pr_ 6 (some 32) q5_7 HT_ (h := ?_)
       refine one_ (i := 7) (N := some 33) q5_8 rfl rfl (one_of HT_.out (by kernel_rfl)) (by decide) (fun K hK => ?_)
       refine value_ (w1 := ?_) (v := ?_) (by rfl) rfl ?_ ?_
       rotate_left 2
       ·
        go_simp
        constructor
        ·
         rfl
        ·
         rfl
       refine hK.out _ _ ⟨(HJ.alloc _).e 0 rfl, (HJ.alloc _).e 1 rfl, (HJ.alloc _).v⟩ (fun hHeld => ?_)
       clear hK K
       refine norm_ (a' := ?_) ?_ ?_
       rotate_left
       ·
        show Act.put _ (some 33) _ = _
        simp only [Act.put, sI, sZ, sS, i64_w, i32_w]
        rfl
       refine last_ (i := 8) (N := some 34) q5_9 rfl rfl (one_of HT_.out (by kernel_rfl)) (by decide) (fun K hK => ?_)
       refine Kd.R_append_step k50 (w0 := w) w.heap.size (by rfl) (.tmp 26) (.tmp 33) 46 50 (.agg #[(.int .i64 0), (.int .i64 0)]) 16 rfl Try.underlying46 infF rfl (by decide) (by omega) vs st (⟨i2, n⟩ : S50) [.int .i64 i2, .int .i64 n] (fun k_ => w2.heap.size ≤ k_) (fun _ => False) rfl rfl (k50_mkM _ _ _ (⟨i2, n⟩ : S50)) (fun _ hk => hk.elim) (fun k_ hk_ => Nat.le_trans (Nat.le_of_lt (blk_lt HJ.1.2.2.1)) hk_) HJ.1.2.2.2.2.1 HJ.1.2.2.2.2.2.1 (below_size HJ.1.2.2.2.2.2.1) (by have := HL.out; omega) ?_
       intro v5 w5 ho hb hg hat
       obtain ⟨A5, c5, rfl⟩ := Kd.R_slice ho
       rw [List.length_append, List.length_singleton] at ho
       have hcs : w5.cell? ⟨w2.heap.size, 0, none⟩ = some vs := (bc (blk_grown HJ.1.2.2.1 hg (Kd.R_ne HJ.1.2.2.2.2.1 HJ.1.2.2.1 (by decide))) 0).trans rfl
       have hfs : w5.frozen? ⟨w2.heap.size, 0, none⟩ = false := Lib.frozen_of_heap (blk_grown HJ.1.2.2.1 hg (Kd.R_ne HJ.1.2.2.2.2.1 HJ.1.2.2.1 (by decide))) 0
       have HST2 := Am (StAt.put HJ.1 ho hb hg)
       clear ho hb hg hat
       refine hK.out _ _ ?_
       clear hK K
       refine norm_ (a' := ?_) ?_ ?_
       rotate_left
       ·
        show Act.put _ (some 34) _ = _
        simp only [Act.put, sI, sZ, sS, i64_w, i32_w]
        rfl
       refine last_ (i := 9) (N := none) q5_10 rfl rfl (one_of HT_.out (by kernel_rfl)) (by decide) (fun K hK => ?_)
       refine skip_ (w1 := ?_) (by rfl) rfl ?_ ?_
       rotate_left
       ·
        go_simp
        rfl
       refine hK.out _ _ ?_
       clear hK K
       refine done_ (done_of HT_.out (by kernel_rfl)) ?_
       go_wp2
       go_roundg k1
       case rel => exact ⟨x + 1, _, _, _, by rw [hnx], ⟨by have := HX.out; omega⟩, H', ⟨by have := HKQ.out; omega⟩, HST2⟩
       case measure => exact Nat.lt_succ_self _
      ·
       rw [if_neg c8] at H
       cases H
     ·
      rw [if_neg c2_] at H
      have c2b0 : decide (x < (l1.length : Int)) = false := decide_eq_false c2_
      clear c2_
      simp only [Option.some.injEq, Prod.mk.injEq] at H
      obtain ⟨e1_, e2_⟩ := H
      subst e1_
      subst e2_
      obtain ⟨⟨u0, hT, hRs⟩, hZ, hG, hSm, hRt, hBl, hlt⟩ := HN.out
      obtain ⟨A5, c5, rfl⟩ := Kd.R_slice hRt
      obtain ⟨A6, c6, rfl⟩ := Kd.R_slice hRs
      have HIX := Am (IndexS.calls k A3 c3 m1 A5 c5 st w2.heap.size at_ wr (Kd.S_reads' hSm).2.2 (Kd.R_reads' hRt).2.2 (Kd.R_reads' hRt).2.1 ((bc hG 0).trans rfl) HAT.out)
      have hm1_ := (bc hT 1).trans (show _ = some (Value.slice A3 m1.length c3) from rfl)
      replace hT := Am hT
      replace hZ := Am hZ
      replace hG := Am hG
      replace hSm := Am hSm
      replace hRt := Am hRt
      replace hRs := Am hRs
      replace hBl := Am hBl
      replace hlt := Am hlt
      have h := HH.out
      clear HH HN HB1 HB2 HB3 HX
      by_cases hneg : at_ < 0
      ·
       rw [if_pos hneg] at h
       have hnb : decide (at_ < 0) = true := decide_eq_true hneg
       clear hneg
       by_cases hlen : m1.length < 5864062014805
       ·
        rw [if_pos hlen] at h
        have HLEN := Am hlen
        have e9 : wrap64 ((m1.length : Int) + 1) = (m1.length : Int) + 1 := by unfold wrap64; omega
        clear hlen
        unfold stEnd at h
        replace h := ob h
        obtain ⟨u, hu, h⟩ := h
        have HU := Am hu
        clear hu
        cases u with
        | false =>
         rw [if_neg Bool.false_ne_true] at h
         simp only [Option.some.injEq, Prod.mk.injEq] at h
         obtain ⟨rfl, rfl, rfl⟩ := h
         go_wp2_with (first | (go_at_call 26; (with_reducible refine HIX.out.mono ?_); rintro e w3 ⟨rfl, hb⟩; have T3 := Am (blk_below hT.out hb); have Z3 := Am (blk_below hZ.out hb); have S3 := Am (Kd.S_below hSm.out hb); have R3 := Am (Kd.R_below hRt.out hb); have RS3 := Am (Kd.R_below hRs.out hb); have B3 := Am (below_step hBl.out hb); have ht0 := (bc T3.out 0).trans (show _ = some (Value.slice A6 d.length c6) from rfl); have ht1 := (bc T3.out 1).trans (show _ = some (Value.slice A3 m1.length c3) from rfl); have hg0 := (bc (blk_below hG.out hb) 0).trans (show _ = some (Value.slice A5 st.length c5) from rfl); clear hb) | (at_builtin; refine Kd.S_append (Kd.slice 50 k50) (w0 := w) w.heap.size rfl (.tmp 46) (.tmp 48) 23 46 (.slice none 0 0) 24 rfl Try.underlying23 infS rfl (by decide) (by decide) (.slice A3 m1.length c3) m1 st [.slice A5 st.length c5] (fun _ => True) (fun k_ => some k_ = (Value.slice A5 st.length c5).ownBlock) rfl rfl (Kd.M_row (Kd.R_mono (Kd.R_tight rfl R3.out) (fun _ h_ => h_))) (fun k_ hk_ => ⟨trivial, fun e_ => by have q1_ := R3.out.1 k_ hk_.symm; have q2_ := (Kd.S_R S3.out).1 k_ e_.symm; omega⟩) (fun _ _ => trivial) (Kd.S_mono S3.out (fun k_ hk_ => ⟨trivial, fun e_ => by have q1_ := R3.out.1 k_ e_.symm; omega⟩)) B3.out B3.out.size (by have := HLEN.out; omega) ?_; intro v7 w7 ho hb hg hat7; obtain ⟨A7, c7, rfl⟩ := Kd.S_slice ho; rw [List.length_append, List.length_singleton] at ho; have T7 := Am (blk_grown T3.out hg (Kd.S_ne S3.out T3.out (by decide))); have Z7 := Am (blk_grown Z3.out hg (Kd.S_ne S3.out Z3.out (by decide))); have RS7 := Am (Kd.R_over' RS3.out (Kd.S_typed S3.out) (by decide) hg); have hcz := (bc T7.out 1).trans (show _ = some (Value.slice A3 m1.length c3) from rfl); have hcy := (bc T7.out 0).trans (show _ = some (Value.slice A6 d.length c6) from rfl); have hfz : w7.frozen? ⟨w.heap.size, 1, none⟩ = false := Lib.frozen_of_heap T7.out 1; have Z8 := Am (blk_far Z7.out (p := ⟨w.heap.size, 1, none⟩) (by simp) (.slice A7 (m1.length + 1) c7)); have S8 := Am (Kd.S_set ho T7.out (by decide) 1 (.slice A7 (m1.length + 1) c7)); have RS8 := Am (Kd.R_set RS7.out T7.out (by decide) 1 (.slice A7 (m1.length + 1) c7)); have B8 := Am (hb.setCell (p := ⟨w.heap.size, 1, none⟩) (Nat.le_refl _) (.slice A7 (m1.length + 1) c7)); have HMC := Am (mayOf (m := m1 ++ [st]) (n := m1.length + 1) (by rw [List.length_append, List.length_singleton]) HU.out RS8.out S8.out); clear ho hb hg hat7 ht0 ht1 hg0) | (go_at_call 19; (with_reducible refine (HMC.out).mono ?_); rintro e w9 ⟨rfl, hb⟩; have T9 := Am (blk_below (blk_put (cs := #[.slice A6 d.length c6, .slice A3 m1.length c3]) (cs' := #[.slice A6 d.length c6, .slice A7 (m1.length + 1) c7]) T7.out 1 (.slice A7 (m1.length + 1) c7) rfl) hb); have Z9 := Am (blk_below Z8.out hb); have S9 := Am (Kd.S_below S8.out hb); have RS9 := Am (Kd.R_below RS8.out hb); have B9 := Am (below_step B8.out hb); have ht90 := (bc T9.out 0).trans (show _ = some (Value.slice A6 d.length c6) from rfl); have ht91 := (bc T9.out 1).trans (show _ = some (Value.slice A7 (m1.length + 1) c7) from rfl); have hz0 := (bc Z9.out 0).trans (show _ = some (Value.slice none 0 0) from rfl); have hz1 := (bc Z9.out 1).trans (show _ = some (Value.slice none 0 0) from rfl); have fz0 : w9.frozen? ⟨w.heap.size + 1, 0, none⟩ = false := Lib.frozen_of_heap Z9.out 0; have fz1 : w9.frozen? ⟨w.heap.size + 1, 1, none⟩ = false := Lib.frozen_of_heap Z9.out 1; clear hb))
         refine bodyPost_ret (results_ct rfl _ _ (w.heap.size + 1) 25 #[.slice none 0 0, .slice none 0 0] (0, 0) _ rfl (blk_put (cs := #[.slice none 0 0, .slice none 0 0]) (blk_put (cs := #[.slice none 0 0, .slice none 0 0]) Z9.out 0 _ rfl) 1 _ rfl) Try.underlying25 rfl (by kernel_rfl)) rfl ?_
         exact ⟨_, _, rfl, Kd.R_nil _ _ _ _ _, Kd.S_nil _ _ _ _ _, (B9.out.setCell (p := ⟨w.heap.size + 1, 0, none⟩) (by simp) _).setCell (p := ⟨w.heap.size + 1, 1, none⟩) (by simp) _⟩
        | true =>
         replace h := (if_pos rfl).symm.trans h
         simp only [Option.some.injEq, Prod.mk.injEq] at h
         obtain ⟨rfl, rfl, rfl⟩ := h
         go_wp2_with (first | (go_at_call 26; (with_reducible refine HIX.out.mono ?_); rintro e w3 ⟨rfl, hb⟩; have T3 := Am (blk_below hT.out hb); have Z3 := Am (blk_below hZ.out hb); have S3 := Am (Kd.S_below hSm.out hb); have R3 := Am (Kd.R_below hRt.out hb); have RS3 := Am (Kd.R_below hRs.out hb); have B3 := Am (below_step hBl.out hb); have ht0 := (bc T3.out 0).trans (show _ = some (Value.slice A6 d.length c6) from rfl); have ht1 := (bc T3.out 1).trans (show _ = some (Value.slice A3 m1.length c3) from rfl); have hg0 := (bc (blk_below hG.out hb) 0).trans (show _ = some (Value.slice A5 st.length c5) from rfl); clear hb) | (at_builtin; refine Kd.S_append (Kd.slice 50 k50) (w0 := w) w.heap.size rfl (.tmp 46) (.tmp 48) 23 46 (.slice none 0 0) 24 rfl Try.underlying23 infS rfl (by decide) (by decide) (.slice A3 m1.length c3) m1 st [.slice A5 st.length c5] (fun _ => True) (fun k_ => some k_ = (Value.slice A5 st.length c5).ownBlock) rfl rfl (Kd.M_row (Kd.R_mono (Kd.R_tight rfl R3.out) (fun _ h_ => h_))) (fun k_ hk_ => ⟨trivial, fun e_ => by have q1_ := R3.out.1 k_ hk_.symm; have q2_ := (Kd.S_R S3.out).1 k_ e_.symm; omega⟩) (fun _ _ => trivial) (Kd.S_mono S3.out (fun k_ hk_ => ⟨trivial, fun e_ => by have q1_ := R3.out.1 k_ e_.symm; omega⟩)) B3.out B3.out.size (by have := HLEN.out; omega) ?_; intro v7 w7 ho hb hg hat7; obtain ⟨A7, c7, rfl⟩ := Kd.S_slice ho; rw [List.length_append, List.length_singleton] at ho; have T7 := Am (blk_grown T3.out hg (Kd.S_ne S3.out T3.out (by decide))); have Z7 := Am (blk_grown Z3.out hg (Kd.S_ne S3.out Z3.out (by decide))); have RS7 := Am (Kd.R_over' RS3.out (Kd.S_typed S3.out) (by decide) hg); have hcz := (bc T7.out 1).trans (show _ = some (Value.slice A3 m1.length c3) from rfl); have hcy := (bc T7.out 0).trans (show _ = some (Value.slice A6 d.length c6) from rfl); have hfz : w7.frozen? ⟨w.heap.size, 1, none⟩ = false := Lib.frozen_of_heap T7.out 1; have Z8 := Am (blk_far Z7.out (p := ⟨w.heap.size, 1, none⟩) (by simp) (.slice A7 (m1.length + 1) c7)); have S8 := Am (Kd.S_set ho T7.out (by decide) 1 (.slice A7 (m1.length + 1) c7)); have RS8 := Am (Kd.R_set RS7.out T7.out (by decide) 1 (.slice A7 (m1.length + 1) c7)); have B8 := Am (hb.setCell (p := ⟨w.heap.size, 1, none⟩) (Nat.le_refl _) (.slice A7 (m1.length + 1) c7)); have HMC := Am (mayOf (m := m1 ++ [st]) (n := m1.length + 1) (by rw [List.length_append, List.length_singleton]) HU.out RS8.out S8.out); clear ho hb hg hat7 ht0 ht1 hg0) | (go_at_call 19; (with_reducible refine (HMC.out).mono ?_); rintro e w9 ⟨rfl, hb⟩; have T9 := Am (blk_below (blk_put (cs := #[.slice A6 d.length c6, .slice A3 m1.length c3]) (cs' := #[.slice A6 d.length c6, .slice A7 (m1.length + 1) c7]) T7.out 1 (.slice A7 (m1.length + 1) c7) rfl) hb); have Z9 := Am (blk_below Z8.out hb); have S9 := Am (Kd.S_below S8.out hb); have RS9 := Am (Kd.R_below RS8.out hb); have B9 := Am (below_step B8.out hb); have ht90 := (bc T9.out 0).trans (show _ = some (Value.slice A6 d.length c6) from rfl); have ht91 := (bc T9.out 1).trans (show _ = some (Value.slice A7 (m1.length + 1) c7) from rfl); have hz0 := (bc Z9.out 0).trans (show _ = some (Value.slice none 0 0) from rfl); have hz1 := (bc Z9.out 1).trans (show _ = some (Value.slice none 0 0) from rfl); have fz0 : w9.frozen? ⟨w.heap.size + 1, 0, none⟩ = false := Lib.frozen_of_heap Z9.out 0; have fz1 : w9.frozen? ⟨w.heap.size + 1, 1, none⟩ = false := Lib.frozen_of_heap Z9.out 1; clear hb))
         refine bodyPost_ret (results_ct rfl _ _ (w.heap.size + 1) 25 #[.slice A6 d.length c6, .slice A7 (m1.length + 1) c7] (0, 0) _ rfl (blk_put (cs := #[.slice A6 d.length c6, .slice none 0 0]) (blk_put (cs := #[.slice none 0 0, .slice none 0 0]) Z9.out 0 _ rfl) 1 _ rfl) Try.underlying25 rfl (by kernel_rfl)) rfl ?_
         exact ⟨_, _, (congrArg (fun z_ : Int => Ending.returned (Value.tuple #[Value.agg #[.slice A6 d.length c6, .slice A7 (m1.length + 1) c7], .int .i64 z_])) e9), Kd.R_set (Kd.R_set RS9.out Z9.out (by decide) 0 _) (blk_put (cs := #[.slice none 0 0, .slice none 0 0]) Z9.out 0 _ rfl) (by decide) 1 _, Kd.S_mono (Kd.S_set (Kd.S_set S9.out Z9.out (by decide) 0 _) (blk_put (cs := #[.slice none 0 0, .slice none 0 0]) Z9.out 0 _ rfl) (by decide) 1 _) (fun _ _ => trivial), (B9.out.setCell (p := ⟨w.heap.size + 1, 0, none⟩) (by simp) _).setCell (p := ⟨w.heap.size + 1, 1, none⟩) (by simp) _⟩
       ·
        rw [if_neg hlen] at h
        cases h
      ·
       rw [if_neg hneg] at h
       have hnb : decide (at_ < 0) = false := decide_eq_false hneg
       clear hneg
       unfold stEnd at h
       replace h := ob h
       obtain ⟨u, hu, h⟩ := h
       have HU := Am hu
       clear hu
       cases u with
       | false =>
        rw [if_neg Bool.false_ne_true] at h
        simp only [Option.some.injEq, Prod.mk.injEq] at h
        obtain ⟨rfl, rfl, rfl⟩ := h
        go_wp2_with (first | (go_at_call 26; (with_reducible refine HIX.out.mono ?_); rintro e w3 ⟨rfl, hb⟩; have T3 := Am (blk_below hT.out hb); have Z3 := Am (blk_below hZ.out hb); have S3 := Am (Kd.S_below hSm.out hb); have R3 := Am (Kd.R_below hRt.out hb); have RS3 := Am (Kd.R_below hRs.out hb); have B3 := Am (below_step hBl.out hb); have ht0 := (bc T3.out 0).trans (show _ = some (Value.slice A6 d.length c6) from rfl); have ht1 := (bc T3.out 1).trans (show _ = some (Value.slice A3 m1.length c3) from rfl); have hg0 := (bc (blk_below hG.out hb) 0).trans (show _ = some (Value.slice A5 st.length c5) from rfl); clear hb) | (go_at_call 19; (with_reducible refine (mayOf rfl HU.out RS3.out S3.out).mono ?_); rintro e w9 ⟨rfl, hb⟩; have T9 := Am (blk_below T3.out hb); have Z9 := Am (blk_below Z3.out hb); have S9 := Am (Kd.S_below S3.out hb); have RS9 := Am (Kd.R_below RS3.out hb); have B9 := Am (below_step B3.out hb); have ht90 := (bc T9.out 0).trans (show _ = some (Value.slice A6 d.length c6) from rfl); have ht91 := (bc T9.out 1).trans (show _ = some (Value.slice A3 m1.length c3) from rfl); have hz0 := (bc Z9.out 0).trans (show _ = some (Value.slice none 0 0) from rfl); have hz1 := (bc Z9.out 1).trans (show _ = some (Value.slice none 0 0) from rfl); have fz0 : w9.frozen? ⟨w.heap.size + 1, 0, none⟩ = false := Lib.frozen_of_heap Z9.out 0; have fz1 : w9.frozen? ⟨w.heap.size + 1, 1, none⟩ = false := Lib.frozen_of_heap Z9.out 1; clear hb))
        refine bodyPost_ret (results_ct rfl _ _ (w.heap.size + 1) 25 #[.slice none 0 0, .slice none 0 0] (0, 0) _ rfl (blk_put (cs := #[.slice none 0 0, .slice none 0 0]) (blk_put (cs := #[.slice none 0 0, .slice none 0 0]) Z9.out 0 _ rfl) 1 _ rfl) Try.underlying25 rfl (by kernel_rfl)) rfl ?_
        exact ⟨_, _, rfl, Kd.R_nil _ _ _ _ _, Kd.S_nil _ _ _ _ _, (B9.out.setCell (p := ⟨w.heap.size + 1, 0, none⟩) (by simp) _).setCell (p := ⟨w.heap.size + 1, 1, none⟩) (by simp) _⟩
       | true =>
        replace h := (if_pos rfl).symm.trans h
        simp only [Option.some.injEq, Prod.mk.injEq] at h
        obtain ⟨rfl, rfl, rfl⟩ := h
        go_wp2_with (first | (go_at_call 26; (with_reducible refine HIX.out.mono ?_); rintro e w3 ⟨rfl, hb⟩; have T3 := Am (blk_below hT.out hb); have Z3 := Am (blk_below hZ.out hb); have S3 := Am (Kd.S_below hSm.out hb); have R3 := Am (Kd.R_below hRt.out hb); have RS3 := Am (Kd.R_below hRs.out hb); have B3 := Am (below_step hBl.out hb); have ht0 := (bc T3.out 0).trans (show _ = some (Value.slice A6 d.length c6) from rfl); have ht1 := (bc T3.out 1).trans (show _ = some (Value.slice A3 m1.length c3) from rfl); have hg0 := (bc (blk_below hG.out hb) 0).trans (show _ = some (Value.slice A5 st.length c5) from rfl); clear hb) | (go_at_call 19; (with_reducible refine (mayOf rfl HU.out RS3.out S3.out).mono ?_); rintro e w9 ⟨rfl, hb⟩; have T9 := Am (blk_below T3.out hb); have Z9 := Am (blk_below Z3.out hb); have S9 := Am (Kd.S_below S3.out hb); have RS9 := Am (Kd.R_below RS3.out hb); have B9 := Am (below_step B3.out hb); have ht90 := (bc T9.out 0).trans (show _ = some (Value.slice A6 d.length c6) from rfl); have ht91 := (bc T9.out 1).trans (show _ = some (Value.slice A3 m1.length c3) from rfl); have hz0 := (bc Z9.out 0).trans (show _ = some (Value.slice none 0 0) from rfl); have hz1 := (bc Z9.out 1).trans (show _ = some (Value.slice none 0 0) from rfl); have fz0 : w9.frozen? ⟨w.heap.size + 1, 0, none⟩ = false := Lib.frozen_of_heap Z9.out 0; have fz1 : w9.frozen? ⟨w.heap.size + 1, 1, none⟩ = false := Lib.frozen_of_heap Z9.out 1; clear hb))
        refine bodyPost_ret (results_ct rfl _ _ (w.heap.size + 1) 25 #[.slice A6 d.length c6, .slice A3 m1.length c3] (0, 0) _ rfl (blk_put (cs := #[.slice A6 d.length c6, .slice none 0 0]) (blk_put (cs := #[.slice none 0 0, .slice none 0 0]) Z9.out 0 _ rfl) 1 _ rfl) Try.underlying25 rfl (by kernel_rfl)) rfl ?_
        exact ⟨_, _, rfl, Kd.R_set (Kd.R_set RS9.out Z9.out (by decide) 0 _) (blk_put (cs := #[.slice none 0 0, .slice none 0 0]) Z9.out 0 _ rfl) (by decide) 1 _, Kd.S_mono (Kd.S_set (Kd.S_set S9.out Z9.out (by decide) 0 _) (blk_put (cs := #[.slice none 0 0, .slice none 0 0]) Z9.out 0 _ rfl) (by decide) 1 _) (fun _ _ => trivial), (B9.out.setCell (p := ⟨w.heap.size + 1, 0, none⟩) (by simp) _).setCell (p := ⟨w.heap.size + 1, 1, none⟩) (by simp) _⟩

end Go.Proofs.Ytijjfomnidckdaa.Q
