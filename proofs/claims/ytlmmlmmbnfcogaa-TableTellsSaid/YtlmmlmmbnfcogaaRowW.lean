/- What reads as data of a type, within the form's reach, is told by one of the print's kinds: whole numbers, bools, strings, structs, slices, nested. For every memory. -/
import Derived.Test.YtlmmlmmbnfcogaaVw
import Derived.WalkKit
import Derived.ProofKit
import Derived.DataReads
import Derived.ChangeArms
import Derived.Deep.Slices
import Derived.SizedLaws
import Derived.OpenShut
namespace Go.Proofs.YtlmmlmmbnfcogaaW.RowW
open Go Go.RowKit Go.Proofs.YtlmmlmmbnfcogaaW.PrintWords
variable {P : Program} {W : World}

/-- What reads as data of the type t, and is no larger than the reach, is told by the kind d, and is as 'good' says. -/
def Opens (P : Program) (W : World) (t : TypeId) {α : Type} (d : Kd α) (good : α → Prop) : Prop :=
  P.cellsOf t = d.sz ∧ ∀ (H : Type) (enc : TypeId × Value → H) (base : Nat) (sp : Nat → Bool) (held : Bool) (fuel : Nat) (cs : List Value) (y : DataW H × List MemPlace), DataW.trod enc P W base sp held fuel t cs = some y → (∀ n ∈ DataW.weights P t y.1, n ≤ reachBytes) → ∃ x, d.K W x cs ∧ good x
theorem opens_int {t : TypeId} {k : IntKind} (ht : P.underlying t = some (.int k)) (hc : P.cellsOf t = 1) : Opens P W t (Kd.int k) (fun x => (Lit.int k x).wf = true) :=
  ⟨hc, fun _ _ _ _ _ _ _ _ h _ => by
    obtain ⟨n, rfl, _, hw⟩ := DataW.trod_int ht h
    exact ⟨n, rfl, hw⟩⟩
theorem opens_bool {t : TypeId} (ht : P.underlying t = some .bool) (hc : P.cellsOf t = 1) : Opens P W t Kd.bool (fun _ => True) :=
  ⟨hc, fun _ _ _ _ _ _ _ _ h _ => by
    obtain ⟨n, rfl, _⟩ := DataW.trod_bool ht h
    exact ⟨n, rfl, trivial⟩⟩
theorem opens_string {t : TypeId} (ht : P.underlying t = some .string) (hc : P.cellsOf t = 1) : Opens P W t Kd.string (fun s => s.size ≤ 140737488351232) :=
  ⟨hc, fun _ _ _ _ _ _ _ _ h hw => by
    obtain ⟨n, rfl, hy, _⟩ := DataW.trod_string ht h
    refine ⟨n, rfl, ?_⟩
    have := hw n.data.toList.length (by rw [hy]; simp [DataW.weights])
    rw [Array.length_toList] at this
    exact this⟩
theorem mem_weightsAll {H : Type} {e : TypeId} {d : DataW H} : ∀ {ds : List (DataW H)}, d ∈ ds → ∀ n ∈ DataW.weights P e d, n ∈ DataW.weightsAll P e ds
  | [], h, _, _ => by simp at h
  | x :: r, h, n, hn => by
    simp only [DataW.weightsAll, List.mem_append]
    rcases List.mem_cons.1 h with rfl | h
    · exact Or.inl hn
    · exact Or.inr (mem_weightsAll h n hn)
/-- A list out of what there is at each place. -/
theorem list_of {α : Type} {Q : Nat → α → Prop} : ∀ (n : Nat), (∀ j, j < n → ∃ x, Q j x) → ∃ xs : List α, xs.length = n ∧ ∀ j x, xs[j]? = some x → Q j x
  | 0, _ => ⟨[], rfl, fun j x h => by simp at h⟩
  | n + 1, h => by
    obtain ⟨xs, hl, hx⟩ := list_of n (fun j hj => h j (by omega))
    obtain ⟨x, hq⟩ := h n (by omega)
    refine ⟨xs ++ [x], by simp [hl], fun j y hy => ?_⟩
    rcases Nat.lt_trichotomy j n with hj | hj | hj
    · rw [List.getElem?_append_left (by omega)] at hy
      exact hx j y hy
    · subst hj
      rw [List.getElem?_append_right (by omega), hl] at hy
      simp at hy
      rw [← hy]
      exact hq
    · rw [List.getElem?_eq_none (by simp; omega)] at hy
      cases hy
theorem opens_slice {t e : TypeId} {α : Type} {d : Kd α} {g : α → Prop} (ht : P.underlying t = some (.slice e)) (hc : P.cellsOf t = 1) (hby : 1 ≤ P.bytesOf e) (he : Opens P W e d g) : Opens P W t (Kd.slice e d) (fun xs => (∀ x ∈ xs, g x) ∧ xs.length ≤ 140737488351232) := by
  refine ⟨hc, fun H enc base sp held fuel cs y h hw => ?_⟩
  rcases Go.Deep.open_slice ht h with ⟨rfl, _⟩ | ⟨a, len, cap, m, n, D, Pl, rfl, hb, hl, hm, hmm, hy, hx⟩
  · refine ⟨[], ⟨none, 0, rfl, Nat.le_refl _, rfl, by simp, fun h => absurd h (by simp)⟩, by simp, by simp⟩
  · have hle : len ≤ m := by rw [hmm]; split <;> omega
    rw [hy] at hw
    simp only [DataW.weights, ht, List.mem_cons, List.mem_append] at hw
    have hlen : len ≤ 140737488351232 := by
      have h1 := hw _ (.inl rfl)
      rw [List.length_map, List.length_range] at h1
      have h2 : len * 1 ≤ (len + ((List.range (m - len)).map fun j => D (len + j)).length) * P.bytesOf e := Nat.mul_le_mul (by omega) hby
      have h3 : reachBytes = 140737488351232 := rfl
      omega
    obtain ⟨xs, hxl, hxq⟩ := list_of (Q := fun j x => g x ∧ ∃ c, c.length = d.sz ∧ d.K W x c ∧ ∀ i u, c[i]? = some u → W.cell? (a.add (j * d.sz + i)) = some u) len (fun j hj => by
      obtain ⟨cs', h1, h2⟩ := hx j (by omega)
      obtain ⟨x, hk, hg⟩ := he.2 _ _ _ _ _ _ _ _ h2 (fun q hq => hw q (.inr (.inl (mem_weightsAll (List.mem_map.2 ⟨j, List.mem_range.2 hj, rfl⟩) q hq))))
      obtain ⟨_, hlen, hcell⟩ := World.cells?_some h1
      rw [he.1] at hlen hcell
      refine ⟨x, hg, cs', hlen, hk, fun i u hu => ?_⟩
      have hi : i < d.sz := by
        rw [← hlen]
        exact (List.getElem?_eq_some_iff.1 hu).1
      rw [← hu, ← hcell i hi, Go.Deep.add_add])
    subst hxl
    refine ⟨xs, ⟨some a, cap, rfl, hl, rfl, ?_, fun _ => ⟨a, rfl, fun j p hp => (hxq j p hp).2⟩⟩, fun x hx => ?_, hlen⟩
    · omega
    · obtain ⟨j, hj⟩ := List.getElem?_of_mem hx
      exact (hxq j x hj).1
/-- A struct's fields, from the cell o on. -/
def OpensF (P : Program) (W : World) (fs : List Field) (o : Nat) {α : Type} (d : Kd α) (good : α → Prop) : Prop :=
  ∀ (H : Type) (enc : TypeId × Value → H) (base : Nat) (sp : Nat → Bool) (held : Bool) (fuel : Nat) (cs : List Value), cs.length = o + d.sz →
    (∀ (i : Nat) (f : Field), fs[i]? = some f → ∃ y, DataW.trod enc P W base sp held fuel f.type ((cs.drop f.offset).take (P.cellsOf f.type)) = some y ∧ ∀ n ∈ DataW.weights P f.type y.1, n ≤ reachBytes) → ∃ x, d.K W x (cs.drop o) ∧ good x
theorem opensF_one {f : Field} {o : Nat} {α : Type} {d : Kd α} {g : α → Prop} (h : Opens P W f.type d g) (ho : f.offset = o) : OpensF P W [f] o d g := by
  intro H enc base sp held fuel cs hl hf
  obtain ⟨y, hy, hw⟩ := hf 0 f rfl
  rw [ho, List.take_of_length_le (by rw [List.length_drop, h.1]; omega)] at hy
  exact h.2 _ _ _ _ _ _ _ _ hy hw
theorem opensF_cons {f : Field} {fs : List Field} {o : Nat} {α β : Type} {a : Kd α} {b : Kd β} {g : α → Prop} {g2 : β → Prop} (h : Opens P W f.type a g) (ho : f.offset = o) (ht : OpensF P W fs (o + a.sz) b g2) :
    OpensF P W (f :: fs) o (Kd.pair a b) (fun x => g x.1 ∧ g2 x.2) := by
  intro H enc base sp held fuel cs hl hf
  have hl' : cs.length = o + (a.sz + b.sz) := hl
  obtain ⟨y, hy, hw⟩ := hf 0 f rfl
  obtain ⟨x1, k1, g1⟩ := h.2 _ _ _ _ _ _ _ _ hy hw
  obtain ⟨x2, k2, g3⟩ := ht H enc base sp held fuel cs (by omega) (fun i f' hi => hf (i + 1) f' (by simpa using hi))
  rw [ho, h.1] at k1
  refine ⟨(x1, x2), ⟨(cs.drop o).take a.sz, cs.drop (o + a.sz), ?_, k1, k2⟩, g1, g3⟩
  rw [← List.drop_drop, List.take_append_drop]
theorem opens_struct {t : TypeId} {fs : Array Field} {α : Type} {d : Kd α} {g : α → Prop} (ht : P.underlying t = some (.struct fs)) (hc : P.cellsOf t = d.sz) (h : OpensF P W fs.toList 0 d g) : Opens P W t d g := by
  refine ⟨hc, fun H enc base sp held fuel cs y hy hw => ?_⟩
  obtain ⟨xs, n, _, rfl, hl, hlen, hf⟩ := DataW.trod_struct ht hy
  simp only [DataW.weights, ht] at hw
  have := h H enc base sp held n cs (by rw [hl, hc, Nat.zero_add]) (fun i f hi => by
    have hi0 := hi
    rw [Array.getElem?_toList] at hi
    have h1 := hf i f hi
    have h2 : i < xs.length := by
      rw [hlen]
      exact (Array.getElem?_eq_some_iff.1 hi).1
    exact ⟨xs[i], by rw [h1, List.getElem?_eq_getElem h2], fun q hq => hw q (DataW.weights_mem_each (j := i) (t := f.type) (d := xs[i].1) (by rw [List.getElem?_map, hi0]; rfl) (by rw [List.getElem?_map, List.getElem?_eq_getElem h2]; rfl) q hq)⟩)
  simpa using this
theorem opens_iso {t : TypeId} {α β : Type} {d : Kd α} {g : α → Prop} (f : β → α) (k : α → β) (hk : ∀ y, f (k y) = y) (h : Opens P W t d g) : Opens P W t (Kd.iso d f) (fun x => g (f x)) := by
  refine ⟨h.1, fun H enc base sp held fuel cs y hy hw => ?_⟩
  obtain ⟨x, hx, hg⟩ := h.2 _ _ _ _ _ _ _ _ hy hw
  refine ⟨k x, ?_, ?_⟩
  · show d.K W (f (k x)) cs
    rw [hk]
    exact hx
  · show g (f (k x))
    rw [hk]
    exact hg
theorem okWide_array {r : Reach} {base : Nat} {t : TypeId} {v : Value} {n : Nat} {e : TypeId} (ht : P.underlying t = some (.array n e)) (h : Value.okWide P W r base t v) : ∃ cs, v = .agg cs ∧ cs.size = P.cellsOf t ∧ True := by
  simp only [Value.okWide, ht] at h
  obtain ⟨cs, h1, h2, _⟩ := h
  exact ⟨cs, h1, h2, trivial⟩
/-- An array's elements, as a struct's fields. -/
theorem opens_array {t e : TypeId} {n : Nat} (fs : List Field) {α : Type} {d : Kd α} {g : α → Prop} (ht : P.underlying t = some (.array n e)) (hc : P.cellsOf t = d.sz) (hn : fs.length = n) (hfs : ∀ i f, fs[i]? = some f → f.type = e ∧ f.offset = i * P.cellsOf e) (h : OpensF P W fs 0 d g) : Opens P W t d g := by
  refine ⟨hc, fun H enc base sp held fuel cs y hy hw => ?_⟩
  obtain ⟨xs, m, _, rfl, hl, hlen, hf⟩ := DataW.trod_array ht hy
  simp only [DataW.weights, ht] at hw
  have := h H enc base sp held m cs (by rw [hl, hc, Nat.zero_add]) (fun i f hi => by
    obtain ⟨e1, e2⟩ := hfs i f hi
    have h2 : i < xs.length := by
      rw [hlen, ← hn]
      exact (List.getElem?_eq_some_iff.1 hi).1
    have h1 := hf i (by omega)
    exact ⟨xs[i], by rw [e1, e2, h1, List.getElem?_eq_getElem h2], fun q hq => hw q (mem_weightsAll (d := xs[i].1) (List.mem_map.2 ⟨xs[i], List.getElem_mem h2, rfl⟩) q (by rw [← e1]; exact hq))⟩)
  simpa using this
end Go.Proofs.YtlmmlmmbnfcogaaW.RowW
