-- printed by a program of this session (NOTES: hprint); not the kit's print
import Derived.Test.YthechcflnkofgaaRows
import Derived.Test.YthechcflnkofgaaQx14
import Derived.Test.YthechcflnkofgaaPureEventTells
import Derived.WalkKit
import Derived.ProofKit
import Derived.OpenShut
import Derived.ShutString
import Derived.ChangeOld
import Derived.Below
import Derived.SizedLaws
import Derived.Test.YthechcflnkofgaaVSized
import Derived.Test.YthechcflnkofgaaVMore
import Derived.DataReads
import Derived.ChangeArms
import Derived.Deep.Slices
/- What reads as data of a type is told by one of the print's kinds: whole numbers, bools, strings, structs, slices, nested. For every memory. -/
namespace Go.Proofs.YthechcflnkofgaaW.RowK
open Go Go.RowKit Go.Proofs.YthechcflnkofgaaW.PrintWords
variable {P : Program} {W : World}

/-- What reads as data of the type t is told by the kind d, and is as 'good' says. -/
def Opens (P : Program) (W : World) (t : TypeId) {α : Type} (d : Kd α) (good : α → Prop) : Prop :=
  P.cellsOf t = d.sz ∧ ∀ (H : Type) (enc : TypeId × Value → H) (base : Nat) (sp : Nat → Bool) (held : Bool) (fuel : Nat) (cs : List Value) (y : DataW H × List MemPlace), DataW.trod enc P W base sp held fuel t cs = some y → ∃ x, d.K W x cs ∧ good x
theorem opens_int {t : TypeId} {k : IntKind} (ht : P.underlying t = some (.int k)) (hc : P.cellsOf t = 1) : Opens P W t (Kd.int k) (fun x => (Lit.int k x).wf = true) :=
  ⟨hc, fun _ _ _ _ _ _ _ _ h => by
    obtain ⟨n, rfl, _, hw⟩ := DataW.trod_int ht h
    exact ⟨n, rfl, hw⟩⟩
theorem opens_bool {t : TypeId} (ht : P.underlying t = some .bool) (hc : P.cellsOf t = 1) : Opens P W t Kd.bool (fun _ => True) :=
  ⟨hc, fun _ _ _ _ _ _ _ _ h => by
    obtain ⟨n, rfl, _⟩ := DataW.trod_bool ht h
    exact ⟨n, rfl, trivial⟩⟩
theorem opens_string {t : TypeId} (ht : P.underlying t = some .string) (hc : P.cellsOf t = 1) : Opens P W t Kd.string (fun s => s.size ≤ maxLen) :=
  ⟨hc, fun _ _ _ _ _ _ _ _ h => by
    obtain ⟨n, rfl, _, hw⟩ := DataW.trod_string ht h
    exact ⟨n, rfl, hw⟩⟩
/-- A list out of what there is at each place. -/
theorem list_of {α : Type} {Q : Nat → α → Prop} : ∀ (n : Nat), (∀ j, j < n → ∃ x, Q j x) → ∃ xs : List α, xs.length = n ∧ ∀ j x, xs[j]? = some x → Q j x
  | 0, _ => ⟨[], rfl, fun j x h => by simp at h⟩
  | n + 1, h => by
    obtain ⟨xs, hl, hx⟩ := list_of n (fun j hj => h j (by omega))
    obtain ⟨x, hq⟩ := h n (by omega)
    refine ⟨xs ++ [x], by simp [hl], fun j y hy => ?_⟩
    rcases Nat.lt_trichotomy j n with hj | hj | hj
    · rw [List.getElem?_append_left (by omega)] at hy
      exact hx j y hy
    · subst hj
      rw [List.getElem?_append_right (by omega), hl] at hy
      simp at hy
      rw [← hy]
      exact hq
    · rw [List.getElem?_eq_none (by simp; omega)] at hy
      cases hy
theorem opens_slice {t e : TypeId} {α : Type} {d : Kd α} {g : α → Prop} (ht : P.underlying t = some (.slice e)) (hc : P.cellsOf t = 1) (he : Opens P W e d g) : Opens P W t (Kd.slice e d) (fun xs => (∀ x ∈ xs, g x) ∧ xs.length ≤ maxLen) := by
  refine ⟨hc, fun H enc base sp held fuel cs y h => ?_⟩
  rcases Go.Deep.open_slice ht h with ⟨rfl, _⟩ | ⟨a, len, cap, m, n, D, Pl, rfl, hb, hl, hm, hmm, _, hx⟩
  · refine ⟨[], ⟨none, 0, rfl, Nat.le_refl _, rfl, by simp, fun h => absurd h (by simp)⟩, by simp, by simp⟩
  · have hle : len ≤ m := by rw [hmm]; split <;> omega
    obtain ⟨xs, hxl, hxq⟩ := list_of (Q := fun j x => g x ∧ ∃ c, c.length = d.sz ∧ d.K W x c ∧ ∀ i u, c[i]? = some u → W.cell? (a.add (j * d.sz + i)) = some u) len (fun j hj => by
      obtain ⟨cs', h1, h2⟩ := hx j (by omega)
      obtain ⟨x, hk, hg⟩ := he.2 _ _ _ _ _ _ _ _ h2
      obtain ⟨_, hlen, hcell⟩ := World.cells?_some h1
      rw [he.1] at hlen hcell
      refine ⟨x, hg, cs', hlen, hk, fun i u hu => ?_⟩
      have hi : i < d.sz := by
        rw [← hlen]
        exact (List.getElem?_eq_some_iff.1 hu).1
      rw [← hu, ← hcell i hi, Go.Deep.add_add])
    subst hxl
    refine ⟨xs, ⟨some a, cap, rfl, hl, rfl, ?_, fun _ => ⟨a, rfl, fun j p hp => (hxq j p hp).2⟩⟩, fun x hx => ?_, by omega⟩
    · have : maxLen ≤ 9223372036854775807 := by decide
      omega
    · obtain ⟨j, hj⟩ := List.getElem?_of_mem hx
      exact (hxq j x hj).1
/-- A struct's fields, from the cell o on. -/
def OpensF (P : Program) (W : World) (fs : List Field) (o : Nat) {α : Type} (d : Kd α) (good : α → Prop) : Prop :=
  ∀ (H : Type) (enc : TypeId × Value → H) (base : Nat) (sp : Nat → Bool) (held : Bool) (fuel : Nat) (cs : List Value), cs.length = o + d.sz →
    (∀ (i : Nat) (f : Field), fs[i]? = some f → ∃ y, DataW.trod enc P W base sp held fuel f.type ((cs.drop f.offset).take (P.cellsOf f.type)) = some y) → ∃ x, d.K W x (cs.drop o) ∧ good x
theorem opensF_one {f : Field} {o : Nat} {α : Type} {d : Kd α} {g : α → Prop} (h : Opens P W f.type d g) (ho : f.offset = o) : OpensF P W [f] o d g := by
  intro H enc base sp held fuel cs hl hf
  obtain ⟨y, hy⟩ := hf 0 f rfl
  rw [ho, List.take_of_length_le (by rw [List.length_drop, h.1]; omega)] at hy
  exact h.2 _ _ _ _ _ _ _ _ hy
theorem opensF_cons {f : Field} {fs : List Field} {o : Nat} {α β : Type} {a : Kd α} {b : Kd β} {g : α → Prop} {g2 : β → Prop} (h : Opens P W f.type a g) (ho : f.offset = o) (ht : OpensF P W fs (o + a.sz) b g2) :
    OpensF P W (f :: fs) o (Kd.pair a b) (fun x => g x.1 ∧ g2 x.2) := by
  intro H enc base sp held fuel cs hl hf
  have hl' : cs.length = o + (a.sz + b.sz) := hl
  obtain ⟨y, hy⟩ := hf 0 f rfl
  obtain ⟨x1, k1, g1⟩ := h.2 _ _ _ _ _ _ _ _ hy
  obtain ⟨x2, k2, g3⟩ := ht H enc base sp held fuel cs (by omega) (fun i f' hi => hf (i + 1) f' (by simpa using hi))
  rw [ho, h.1] at k1
  refine ⟨(x1, x2), ⟨(cs.drop o).take a.sz, cs.drop (o + a.sz), ?_, k1, k2⟩, g1, g3⟩
  rw [← List.drop_drop, List.take_append_drop]
theorem opens_struct {t : TypeId} {fs : Array Field} {α : Type} {d : Kd α} {g : α → Prop} (ht : P.underlying t = some (.struct fs)) (hc : P.cellsOf t = d.sz) (h : OpensF P W fs.toList 0 d g) : Opens P W t d g := by
  refine ⟨hc, fun H enc base sp held fuel cs y hy => ?_⟩
  obtain ⟨xs, n, _, rfl, hl, hlen, hf⟩ := DataW.trod_struct ht hy
  have := h H enc base sp held n cs (by rw [hl, hc, Nat.zero_add]) (fun i f hi => by
    rw [Array.getElem?_toList] at hi
    have h1 := hf i f hi
    have h2 : i < xs.length := by
      rw [hlen]
      exact (Array.getElem?_eq_some_iff.1 hi).1
    exact ⟨xs[i], by rw [h1, List.getElem?_eq_getElem h2]⟩)
  simpa using this
theorem opens_iso {t : TypeId} {α β : Type} {d : Kd α} {g : α → Prop} (f : β → α) (k : α → β) (hk : ∀ y, f (k y) = y) (h : Opens P W t d g) : Opens P W t (Kd.iso d f) (fun x => g (f x)) := by
  refine ⟨h.1, fun H enc base sp held fuel cs y hy => ?_⟩
  obtain ⟨x, hx, hg⟩ := h.2 _ _ _ _ _ _ _ _ hy
  refine ⟨k x, ?_, ?_⟩
  · show d.K W (f (k x)) cs
    rw [hk]
    exact hx
  · show g (f (k x))
    rw [hk]
    exact hg
end Go.Proofs.YthechcflnkofgaaW.RowK

namespace Go.Proofs.Ythechcflnkofgaa.eventTells
open Go.ChangeShapes Go.WideShapes Go.ChangeAt Go.RowKit Go.Proofs.Ythechcflnkofgaa.Q Go.Proofs.YthechcflnkofgaaW.PrintWords Go.Proofs.YthechcflnkofgaaW.PrintLast Go.Proofs.YthechcflnkofgaaW.PrintMore
open Go.ChangeMaps (open_string shut_string)
set_option linter.unusedVariables false
set_option linter.unusedSimpArgs false
theorem own : ownKnob Try.prog.godebug = none := by kernel_rfl
theorem laidOut : laidOutB Try.prog = true := by kernel_rfl
set_option maxRecDepth 100000 in
theorem lifted (os : Os) (started : os.Started) (H : Type) (enc : TypeId × Value → H) :
    ReturnsInHanded {} Try.checked os 3 .any (Rows.eventTellsSpec.pre6 enc Try.prog Try.f3 Rows.eventTellsRow.domain false) (Rows.eventTellsSpec.post enc Try.prog Try.f3 false true false false) := by
  refine returnsInHanded_of_change_sized (C := Try.checked) own started (by kernel_rfl) Try.func3
    (ChangeSpec.witness6 (enc := enc) (C := Try.checked) false ⟨#[], #[.agg #[.int .i64 0, .int .i64 0, .slice none 0 0, .string ByteArray.empty], .string ByteArray.empty, .int .i64 0], []⟩ 8 (by kernel_rfl) (by kernel_rfl) (by kernel_rfl) (by kernel_rfl)) ?_
  intro W base args ds gs before hval0 hW hcnd hsz0 _
  have hval : ∀ (j : Nat) t v, Try.f3.params[j]? = some t → args[j]? = some v → Value.okWide Try.prog W .any base t v := hval0
  have hW' := hW
  obtain ⟨p, q, hA0, hV, rfl, hfz, hnd⟩ := hW
  have hA : DataW.TrodAll enc Try.prog W 0 (fun _ => true) true Try.f3.params.toList args.toList ds p := hA0
  rw [Try.params3] at hA hval
  obtain ⟨v0, vs0, d0, ds0, p0, q0, hargs, rfl, rfl, h0, r0⟩ := trodAll_cons hA
  obtain ⟨v1, vs1, d1, ds1, p1, q1, rfl, rfl, rfl, h1, r1⟩ := trodAll_cons r0
  obtain ⟨v2, vs2, d2, ds2, p2, q2, rfl, rfl, rfl, h2, r2⟩ := trodAll_cons r1
  obtain ⟨rfl, rfl, rfl⟩ := trodAll_nil r2
  obtain rfl : args = #[v0, v1, v2] := by cases args; simp_all
  obtain ⟨rfl, rfl⟩ := trodVars_none hV
  have k0 := h0
  have lt0 : ∀ x ∈ p0, x.block < W.heap.size := by obtain ⟨m, hm⟩ := k0; exact DataW.trod_lt m _ _ _ hm
  obtain ⟨m0, f0⟩ := h0
  obtain ⟨y0, c0, g0⟩ := ((Go.Proofs.YthechcflnkofgaaW.RowK.opens_iso (fun x : S24 => (x.f0, x.f1, x.f2, x.f3)) (fun y => (⟨y.1, y.2.1, y.2.2.1, y.2.2.2⟩ : S24)) (fun _ => rfl) (Go.Proofs.YthechcflnkofgaaW.RowK.opens_struct Try.underlying24 (by kernel_rfl) (Go.Proofs.YthechcflnkofgaaW.RowK.opensF_cons (Go.Proofs.YthechcflnkofgaaW.RowK.opens_int Try.underlying3 (by kernel_rfl)) rfl (Go.Proofs.YthechcflnkofgaaW.RowK.opensF_cons (Go.Proofs.YthechcflnkofgaaW.RowK.opens_int Try.underlying3 (by kernel_rfl)) rfl (Go.Proofs.YthechcflnkofgaaW.RowK.opensF_cons (Go.Proofs.YthechcflnkofgaaW.RowK.opens_slice Try.underlying22 (by kernel_rfl) (Go.Proofs.YthechcflnkofgaaW.RowK.opens_int Try.underlying3 (by kernel_rfl))) rfl (Go.Proofs.YthechcflnkofgaaW.RowK.opensF_one (Go.Proofs.YthechcflnkofgaaW.RowK.opens_string Try.underlying9 (by kernel_rfl)) rfl))))))).2 _ _ _ _ _ _ _ _ f0
  obtain ⟨aa, rfl, _⟩ := okWide_struct Try.underlying24 (hval 0 24 v0 rfl rfl)
  obtain ⟨A0_2, c0_2, e0, hl0_2, hr0_2⟩ := k24_open c0
  simp only [Value.cells] at e0
  obtain rfl : aa = #[.int .i64 y0.f0, .int .i64 y0.f1, .slice A0_2 y0.f2.length c0_2, .string y0.f3] := by cases aa; simp_all
  have k1 := h1
  have lt1 : ∀ x ∈ p1, x.block < W.heap.size := by obtain ⟨m, hm⟩ := k1; exact DataW.trod_lt m _ _ _ hm
  obtain ⟨m1, f1⟩ := h1
  obtain ⟨y1, c1, g1⟩ := ((Go.Proofs.YthechcflnkofgaaW.RowK.opens_string Try.underlying9 (by kernel_rfl))).2 _ _ _ _ _ _ _ _ f1
  obtain ⟨aa, rfl⟩ := okWide_string Try.underlying9 (hval 1 9 v1 rfl rfl)
  have e1 : y1 = aa := by have e := c1; simp [Value.cells, Kd.int, Kd.bool, Kd.string, Kd.scalar] at e; exact e.symm
  subst e1
  have k2 := h2
  have lt2 : ∀ x ∈ p2, x.block < W.heap.size := by obtain ⟨m, hm⟩ := k2; exact DataW.trod_lt m _ _ _ hm
  obtain ⟨m2, f2⟩ := h2
  obtain ⟨y2, c2, g2⟩ := ((Go.Proofs.YthechcflnkofgaaW.RowK.opens_int Try.underlying3 (by kernel_rfl))).2 _ _ _ _ _ _ _ _ f2
  obtain ⟨aa, rfl⟩ := okWide_int Try.underlying3 (hval 2 3 v2 rfl rfl)
  have e2 : y2 = aa := by have e := c2; simp [Value.cells, Kd.int, Kd.bool, Kd.string, Kd.scalar] at e; exact e.symm
  subst e2
  clear hA0 hval0 hsz0
  obtain ⟨k, h⟩ := Pure.EventTells y0 y1 y2 g0 g1 g2
  refine (Q.shuttlecocklaw04_EventTells.calls k (y0.f0) (y0.f1) (fun k_ => k_ < W.heap.size) _ _ y0.f2 (y0.f3) _ _ true W (Kd.V_mk hl0_2 (Kd.C_F (Kd.heap_int .i64) hr0_2)) h).mono ?_
  rintro e W' ⟨rfl, bel0⟩
  have bel : Below W.heap.size W W' := bel0
  exact ⟨_, rfl, _, _, _, [], _, [], hW', trodAll_mk1 (shut_bool Try.underlying4 _), (trodAll_cons_mk (Below.trod laidOut (by kernel_rfl) (of_decide_eq_true (by kernel_rfl)) k0 bel lt0) (trodAll_cons_mk (Below.trod laidOut (by kernel_rfl) (of_decide_eq_true (by kernel_rfl)) k1 bel lt1) (trodAll_cons_mk (Below.trod laidOut (by kernel_rfl) (of_decide_eq_true (by kernel_rfl)) k2 bel lt2) trodAll_mk0))), rfl, bel.frame _, fun h => by cases h⟩
theorem over : Rows.eventTellsRow.holds Try.pinned (OpenSpec.ofChange Rows.eventTellsSpec) :=
  OpenClaim.holds_of_wide 3 Try.f3 rfl rfl rfl rfl rfl rfl rfl ⟨rfl, rfl, rfl, rfl, rfl⟩ rfl rfl rfl rfl rfl (by kernel_rfl) Try.func3 (by kernel_rfl)
    (of_decide_eq_true (by kernel_rfl)) (by unfold Func.isWrapper; first | (rw [if_pos (by decide +kernel)]; kernel_rfl) | (rw [if_neg (by decide +kernel)]; exact ⟨rfl, rfl⟩))
    (fun os started H enc _ => lifted os started H enc)
theorem proved : Rows.EventTellsSaid := over
#print axioms proved
end Go.Proofs.Ythechcflnkofgaa.eventTells
namespace Go.Proofs.Ythechcflnkofgaa
/-- The row, under a short name, for the claim. -/
theorem eventTells_holds : Rows.EventTellsSaid := eventTells.proved
end Go.Proofs.Ythechcflnkofgaa
