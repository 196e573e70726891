/- A set kept as a map to bools that the call made: looked up and stored, by a predicate on keys. For every program. -/
import Derived.Maps.OwnOps
import Derived.Maps.Views
import Derived.Maps.AppendAt
import Derived.Below
import Derived.Deep.Draws
import Derived.WalkKit
import Derived.WalkSpells
namespace Go.Proofs.Ytlmmlmmbnfcogaa.MapB
open Go Go.RowKit Go.Maps Go.WideShapes

/-- Block b is a map to bools, of at most n entries: at the key l it holds true just where S l. -/
def SetAt (P : Program) (k e : TypeId) (w : World) (b n : Nat) (S : Lit → Bool) : Prop :=
  ∃ D : DataW Unit, w.ownsMap P k (plainElem P e) b n D ∧ IsMap D ∧ ∀ l, D.atKey l (.lit (.bool false)) = .lit (.bool (S l))

section
variable {P : Program} {k e t : TypeId} {w w1 : World} {b n : Nat} {S : Lit → Bool}
theorem SetAt.made (w : World) (P : Program) (k e : TypeId) : SetAt P k e (w.alloc (.map #[] 0)) w.heap.size 0 (fun _ => false) :=
  ⟨.map [], World.ownsMap_made w P k _, isMap_empty, fun _ => rfl⟩
theorem SetAt.below (h : SetAt P k e w b n S) (hb : Below w.heap.size w w1) : SetAt P k e w1 b n S := by
  obtain ⟨D, ho, r⟩ := h
  exact ⟨D, ho.kept ⟨hb.os, hb.tape, hb.output, hb.size, fun i hi _ => hb.block i hi⟩ (by simp : some b ≠ none), r⟩
theorem SetAt.kept (h : SetAt P k e w b n S) {row : Option Nat} (hg : w.grownBy w1 row) (hne : some b ≠ row) : SetAt P k e w1 b n S := by
  obtain ⟨D, ho, r⟩ := h
  exact ⟨D, ho.kept hg hne, r⟩
theorem SetAt.alloc (h : SetAt P k e w b n S) (o : Obj) : SetAt P k e (w.alloc o) b n S := by
  obtain ⟨D, ho, r⟩ := h
  exact ⟨D, ho.alloc o, r⟩
theorem SetAt.drew (h : SetAt P k e w b n S) : SetAt P k e w.drew b n S := h
theorem SetAt.drewN (h : SetAt P k e w b n S) (m : Nat) : SetAt P k e (w.drewN m) b n S := h
theorem SetAt.lt (h : SetAt P k e w b n S) : b < w.heap.size := by
  obtain ⟨D, ho, r⟩ := h
  exact ho.lt
theorem SetAt.congr (h : SetAt P k e w b n S) {S' : Lit → Bool} (hs : ∀ l, S l = S' l) : SetAt P k e w b n S' := by
  obtain ⟨D, ho, hm, hr⟩ := h
  exact ⟨D, ho, hm, fun l => by rw [hr l, hs l]⟩
theorem plainElem_bool_inv {H : Type} (he : P.underlying e = some .bool) {v : Value} {z : DataW H × List MemPlace} (h : plainElem P e v = some z) : ∃ a, v = .bool a ∧ z = (.lit (.bool a), []) := by
  unfold plainElem at h
  rw [he] at h
  cases v <;> simp at h
  exact ⟨_, rfl, h.symm⟩
/-- m[k]: an equation for the walk. -/
theorem SetAt.look (h : SetAt P k e w b n S) (K : Keyed P k) (ht : P.underlying t = some (.map k e)) (he : P.underlying e = some .bool) (hz : (zeroValue e).run P w = .ok (.bool false) w) {key : Value} {kl : Lit} (hkey : keyOf P k key = some kl) :
    (Instr.lookup t (.map (some b)) key false).run P w = .ok (.bool (S kl)) w := by
  obtain ⟨D, ho, hm, hr⟩ := h
  obtain ⟨v, ps, hrun, hv⟩ := ho.lookup K ht hz (plainElem_bool he false) hkey
  obtain ⟨a, rfl, ha⟩ := plainElem_bool_inv he hv
  rw [hr kl] at ha
  simp only [Prod.mk.injEq, DataW.lit.injEq, Lit.bool.injEq] at ha
  rw [hrun, ha.1]
theorem SetAt.store (h : SetAt P k e w b n S) (K : Keyed P k) (ht : P.underlying t = some (.map k e)) (he : P.underlying e = some .bool) (hn : n < maxLen) {key : Value} {kl : Lit} (hkey : keyOf P k key = some kl) (hkl : WideAt.IsKeyLit kl) (x : Bool) :
    ∃ w', (Instr.mapUpdate t (.map (some b)) key (.bool x)).run P w = .ok () w' ∧ SetAt P k e w' b (n + 1) (fun l => if l.sameKey kl then x else S l) ∧ w.grownBy w' (some b) := by
  obtain ⟨D, ho, hm, hr⟩ := h
  obtain ⟨w', hrun, ho', hg⟩ := ho.update K ht hn hkey (plainElem_bool he x)
  refine ⟨w', hrun, ⟨_, ho', hm.put kl _, fun l => ?_⟩, hg⟩
  cases hl : l.sameKey kl with
  | true =>
    obtain rfl := WideAt.sameKey_eq hl
    rw [atKey_put_same hm hkl]
    simp only [hl, if_true]
  | false =>
    rw [atKey_put_other (fun e => by rw [e, WideAt.sameKey_self hkl] at hl; cases hl), hr l]
    simp [hl]
end
/-- m[k] = true, at the operation. -/
theorem wp_store {P : Program} (w : World) {ops : Array Oper} {rest : List Oper} {o : Oper} {a : Act} {Q : Exit → Act → World → Prop}
    (hg : o.guard = none) (m x v : Operand) (t : TypeId) (hop : o.op = Op.mapUpdate t m x v) (k e : TypeId) (K : Keyed P k) (ht : P.underlying t = some (.map k e)) (he : P.underlying e = some .bool) (b n : Nat) (S : Lit → Bool)
    (hm : a.eval m = .map (some b)) (h : SetAt P k e w b n S) (hn : n < maxLen) (key : Value) (kl : Lit) (y : Bool) (hx : a.eval x = key) (hv : a.eval v = .bool y) (hkey : keyOf P k key = some kl) (hkl : WideAt.IsKeyLit kl)
    (hK : ∀ w', SetAt P k e w' b (n + 1) (fun l => if l.sameKey kl then y else S l) → w.grownBy w' (some b) → wpList P ops Q rest (a.put o.dst undef) w') :
    wpList P ops Q (o :: rest) a w := by
  refine wpList_plain hg fun K' hK' => ?_
  obtain ⟨w', hrun, r1, r2⟩ := h.store K ht he hn hkey hkl y
  unfold Oper.wp
  simp [execOp, hop, hm, hx, hv, hrun, Result.andThen]
  exact hK' _ _ (hK w' r1 r2)
end Go.Proofs.Ytlmmlmmbnfcogaa.MapB
