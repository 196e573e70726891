/- The program's table of kinds, laid once (sync.Once, a map of structs, a counter): what its functions do to a table of the call's own. For every program whose kinds are these. -/
import Derived.Test.YthhohplddgklgaaDoorProg
import Derived.Test.YthhohplddgklgaaDoorWMore
import Derived.Test.YthhohplddgklgaaDoorWLast
import Derived.Maps.OwnSet
import Derived.Maps.OwnOps
import Derived.Maps.Views
import Derived.Below
import Derived.Deep.Draws
import Derived.WalkKit
import Derived.WalkSpells
import Derived.Tactics
import Derived.Tactics2
import Derived.Defers
import Derived.Laws.Pointers
import Derived.Laws.LoneSync
import Derived.RegionTactic
import Derived.RegionCalls
import Derived.ChangeAlike
import Derived.KernelRfl
set_option linter.unusedVariables false
set_option linter.unusedSimpArgs false
namespace Go.Proofs.YthhohplddgklgaaDoor.Kind
open Go Go.RowKit Go.Maps Go.WideShapes Go.Proofs.YthhohplddgklgaaDoorW.PrintWords Go.Proofs.YthhohplddgklgaaDoorW.PrintLast Go.Proofs.YthhohplddgklgaaDoorW.PrintMore
/-! ### what the kinds are -/
def knownB (k : Int) : Bool := decide (1 ≤ k ∧ k ≤ 10)
def nameB (k : Int) : ByteArray :=
  if k = 1 then ⟨#[112, 114, 111, 99, 115, 116, 97, 114, 116]⟩ else if k = 2 then ⟨#[112, 114, 111, 99, 115, 116, 111, 112]⟩ else if k = 3 then ⟨#[99, 114, 101, 97, 116, 101]⟩ else if k = 4 then ⟨#[115, 116, 97, 114, 116]⟩ else if k = 5 then ⟨#[115, 116, 111, 112]⟩ else if k = 6 then ⟨#[98, 108, 111, 99, 107]⟩ else if k = 7 then ⟨#[117, 110, 98, 108, 111, 99, 107]⟩ else if k = 8 then ⟨#[101, 120, 105, 116]⟩ else if k = 9 then ⟨#[115, 121, 115, 101, 110, 116, 101, 114]⟩ else if k = 10 then ⟨#[115, 121, 115, 101, 120, 105, 116]⟩ else ⟨#[]⟩
def argsL (k : Int) : List Int := if k = 1 then [0, 2] else if k = 3 then [1, 4] else if k = 4 then [1, 2] else if k = 5 then [3, 4] else if k = 6 then [3, 4] else if k = 7 then [1, 2, 4] else if k = 9 then [4] else if k = 10 then [5, 2] else []
/-! ### sync.Once and its lock, one goroutine -/
theorem disable (w : World) : (callFunc 70 #[]).run Tryd.prog w = .ok (.value (.tuple #[])) w := run_call_mark0 Tryd.func70 (by kernel_rfl) (by kernel_rfl) (by kernel_rfl) .disable (by kernel_rfl) w
theorem enable (w : World) : (callFunc 72 #[]).run Tryd.prog w = .ok (.value (.tuple #[])) w := run_call_mark0 Tryd.func72 (by kernel_rfl) (by kernel_rfl) (by kernel_rfl) .enable (by kernel_rfl) w
theorem acquire (a : Addr) (w : World) : (callFunc 73 #[.pointer (some a)]).run Tryd.prog w = .ok (.value (.tuple #[])) w := run_call_marked Tryd.func73 (by kernel_rfl) (by kernel_rfl) (by kernel_rfl) .acquire (by kernel_rfl) a w
theorem releaseMerge (a : Addr) (w : World) : (callFunc 75 #[.pointer (some a)]).run Tryd.prog w = .ok (.value (.tuple #[])) w := run_call_marked Tryd.func75 (by kernel_rfl) (by kernel_rfl) (by kernel_rfl) .releaseMerge (by kernel_rfl) a w
set_option maxRecDepth 100000 in
set_option maxHeartbeats 1600000 in
theorem store_deferred (a : Addr) (x : Value) (u : FrameMode) (w : World) (hc : w.cell? a = some x) (hz : w.frozen? a = false) :
    CallsD Tryd.prog 51 #[.pointer (some a), .bool true] u w fun e u' w' => u' = u ∧ (e = .returned (.tuple #[]) ∧ w' = w.drew.setCell a (.int .u32 1)) := by
  have hc' : w.drew.cell? a = some x := by go_simp
  have hz' : w.drew.frozen? a = false := by go_simp
  have hst := run_call_store (P := Tryd.prog) Tryd.func61 (by kernel_rfl) (by kernel_rfl) (by kernel_rfl) (by kernel_rfl) (k := .u32) (y := 1) hc' hz'
  go_enter_d Tryd.func51, Tryd.ntmps51
  go_wp2
  go_region_calls
  all_goals (go_end0; exact ⟨rfl, rfl⟩)
set_option maxRecDepth 100000 in
set_option maxHeartbeats 1600000 in
theorem unlock_deferred (a : Addr) (u : FrameMode) (w : World) (hc : w.cell? a = some (.int .i32 1)) (hz : w.frozen? a = false) :
    CallsD Tryd.prog 50 #[.pointer (some a)] u w fun e u' w' => u' = u ∧ (e = .returned (.tuple #[]) ∧ w' = w.setCell a (.int .i32 0)) := by
  have hd := disable
  have he := enable
  have hr := releaseMerge
  have hadd := run_call_add (P := Tryd.prog) Tryd.func76 (by kernel_rfl) (by kernel_rfl) (by kernel_rfl) .i32 (by kernel_rfl) (y := -1) (s := 0) hc hz (by simp [go_sem]; rfl)
  have hcv := run_convert_to_unsafe (P := Tryd.prog) (src := 112) (dst := 116) Tryd.underlying112 Tryd.underlying116 (by kernel_rfl) hc
  go_enter_d Tryd.func50, Tryd.ntmps50
  go_wp2
  go_end0
  go_wp2
  go_end0
  exact ⟨rfl, rfl⟩
set_option maxRecDepth 100000 in
set_option maxHeartbeats 1600000 in
theorem lock_free (a : Addr) (w : World) (hc : w.cell? a = some (.int .i32 0)) (hz : w.frozen? a = false) :
    Calls Tryd.prog 49 #[.pointer (some a)] w fun e w' => e = .returned (.tuple #[]) ∧ w' = w.setCell a (.int .i32 1) := by
  have hd := disable
  have he := enable
  have ha := acquire
  have hcas := run_call_cas_hit (P := Tryd.prog) Tryd.func71 (by kernel_rfl) (by kernel_rfl) (by kernel_rfl) .i32 (by kernel_rfl) (y := 1) hc hz
  have hc' : (w.setCell a (.int .i32 1)).cell? a = some (.int .i32 1) := World.cell?_setCell_same w a _ hc
  have hcv := run_convert_to_unsafe (P := Tryd.prog) (src := 112) (dst := 116) Tryd.underlying112 Tryd.underlying116 (by kernel_rfl) hc'
  go_enter Tryd.func49, Tryd.ntmps49
  go_wp2
  first | go_end0 | (simp only [Exit.inBlock, Exit.then]; refine bodyPost_ret (results_none rfl _ _ _) rfl ?_) | refine bodyPost_ret (results_none rfl _ _ _) rfl ?_
  go_wp2
  go_end0
  exact ⟨rfl, rfl⟩
/-! ### the table: a map to structs, each with a name and a slice of whole numbers -/
def held (v : Value) : Option (DataW Value × List MemPlace) := some (.held v, [])
/-- What the table holds at a kind: its name, and its arguments' slice (in memory that no one writes). -/
def Spec (w : World) (v : Value) (k : Int) : Prop :=
  ∃ A : Option Addr, v = .agg #[.string (nameB k), .slice A (argsL k).length (argsL k).length] ∧
    ((argsL k = [] ∧ A = none) ∨ ∃ g, A = some ⟨g, 0, none⟩ ∧ w.heap[g]? = some (.cells ((argsL k).map (Value.int .i64)).toArray 3 (0, 0)))
/-- Rows of whole numbers stay. -/
def Ints (w w' : World) : Prop := ∀ (g : Nat) (cs : Array Value), w.heap[g]? = some (.cells cs 3 (0, 0)) → w'.heap[g]? = some (.cells cs 3 (0, 0))
theorem Spec.kept {w w' : World} {v : Value} {k : Int} (h : Spec w v k) (hi : Ints w w') : Spec w' v k := by
  obtain ⟨A, hv, h⟩ := h
  refine ⟨A, hv, h.imp_right ?_⟩
  rintro ⟨g, hA, hg⟩
  exact ⟨g, hA, hi _ _ hg⟩
theorem Ints.refl (w : World) : Ints w w := fun _ _ h => h
theorem Ints.trans {w w1 w2 : World} (h : Ints w w1) (h' : Ints w1 w2) : Ints w w2 := fun g cs hg => h' _ _ (h _ _ hg)
theorem Ints.below {w w' : World} (hb : Below w.heap.size w w') : Ints w w' := fun g cs h => blk_below h hb
theorem Ints.alloc (w : World) (o : Obj) : Ints w (w.alloc o) := fun g cs h => blk_alloc h o
theorem Ints.grown {w w' : World} {mb : Nat} {es : Array MapEntry} {c : Nat} (hm : w.heap[mb]? = some (.map es c)) (hg : w.grownBy w' (some mb)) : Ints w w' := fun g cs h => by
  refine blk_grown h hg ?_
  intro e
  cases e
  rw [h] at hm
  cases hm
theorem Ints.set {w : World} {b : Nat} {cs : Array Value} {t : TypeId} (hb : w.heap[b]? = some (.cells cs t (0, 0))) (ht : t ≠ 3) (i : Nat) (u : Value) : Ints w (w.setCell ⟨b, i, none⟩ u) :=
  fun g cs' h => blk_far h (blk_ne h hb (Ne.symm ht)) u
def Tab (w : World) (mb : Nat) (ks : List Int) : Prop :=
  ∃ D : DataW Value, w.ownsMap Tryd.prog 3 held mb ks.length D ∧ IsMap D ∧ (∀ i, Maps.has D (.int .i64 i) = decide (i ∈ ks)) ∧
    ∀ i ∈ ks, ∃ v, (∀ z, D.atKey (.int .i64 i) z = .held v) ∧ Spec w v i
theorem Tab.isMap {w : World} {mb : Nat} {ks : List Int} (h : Tab w mb ks) : ∃ es c, w.heap[mb]? = some (.map es c) := by
  obtain ⟨D, ⟨es, c, hb, _⟩, _⟩ := h
  exact ⟨es, c, hb⟩
theorem Tab.made (w : World) : Tab (w.alloc (.map #[] 0)) w.heap.size [] :=
  ⟨.map [], World.ownsMap_made w Tryd.prog 3 _, isMap_empty, fun i => by simp [Maps.has], fun i hi => by simp at hi⟩
theorem Tab.kept {w w' : World} {mb : Nat} {ks : List Int} (h : Tab w mb ks) (hi : Ints w w') (ho : ∀ D : DataW Value, w.ownsMap Tryd.prog 3 held mb ks.length D → w'.ownsMap Tryd.prog 3 held mb ks.length D) : Tab w' mb ks := by
  obtain ⟨D, h1, h2, h3, h4⟩ := h
  refine ⟨D, ho D h1, h2, h3, fun i hk => ?_⟩
  obtain ⟨v, hv, hs⟩ := h4 i hk
  exact ⟨v, hv, hs.kept hi⟩
theorem Tab.alloc {w : World} {mb : Nat} {ks : List Int} (h : Tab w mb ks) (o : Obj) : Tab (w.alloc o) mb ks := h.kept (Ints.alloc w o) (fun D hD => hD.alloc o)
theorem Tab.below {w w' : World} {mb : Nat} {ks : List Int} (h : Tab w mb ks) (hb : Below w.heap.size w w') : Tab w' mb ks :=
  h.kept (Ints.below hb) (fun D hD => hD.kept ⟨hb.os, hb.tape, hb.output, hb.size, fun i hi _ => hb.block i hi⟩ (by simp : some mb ≠ none))
theorem Tab.drew {w : World} {mb : Nat} {ks : List Int} (h : Tab w mb ks) : Tab w.drew mb ks := h
theorem Tab.set {w : World} {mb : Nat} {ks : List Int} (h : Tab w mb ks) {b : Nat} {cs : Array Value} {t : TypeId} (hb : w.heap[b]? = some (.cells cs t (0, 0))) (ht : t ≠ 3) (i : Nat) (u : Value) : Tab (w.setCell ⟨b, i, none⟩ u) mb ks :=
  h.kept (Ints.set hb ht i u) (fun D hD => hD.setCell (by
    intro e
    obtain ⟨es, c, h1, _⟩ := hD
    have e' : mb = b := e
    rw [e', hb] at h1
    cases h1) u)
theorem Tab.insert {w : World} {mb : Nat} {ks : List Int} (h : Tab w mb ks) (hl : ks.length < maxLen) {k : Int} (hk : k ∉ ks) (hwf : (Lit.int .i64 k).wf = true) {v : Value} (hv : Spec w v k) :
    ∃ w', (Instr.mapUpdate 58 (.map (some mb)) (.int .i64 k) v).run Tryd.prog w = .ok () w' ∧ Tab w' mb (k :: ks) ∧ w.grownBy w' (some mb) := by
  obtain ⟨es, c, hm⟩ := h.isMap
  obtain ⟨D, h1, h2, h3, h4⟩ := h
  have hkey : keyOf Tryd.prog 3 (.int .i64 k) = some (.int .i64 k) := by simp [keyOf, mapKey, Tryd.underlying3, hwf]
  obtain ⟨w', hrun, ho, hg⟩ := h1.update (Go.Maps.int_keyed Tryd.underlying3) Tryd.underlying58 hl hkey (show held v = some (.held v, []) from rfl)
  refine ⟨w', hrun, ⟨_, ho, h2.put _ _, fun i => ?_, fun i hi => ?_⟩, hg⟩
  · by_cases e : i = k
    · subst e
      rw [has_put_same (k := .int .i64 i) h2 trivial]
      simp
    · rw [has_put_other (fun e' => e (by injection e')), h3]
      simp [e]
  · by_cases e : i = k
    · subst e
      exact ⟨v, fun z => atKey_put_same (k := .int .i64 i) h2 trivial _ _, hv.kept (Ints.grown hm hg)⟩
    · obtain ⟨u, hu, hs⟩ := h4 i ((List.mem_cons.1 hi).resolve_left e)
      exact ⟨u, fun z => by rw [atKey_put_other (fun e' => e (by injection e'))]; exact hu z, hs.kept (Ints.grown hm hg)⟩
set_option maxRecDepth 100000 in
theorem zero_spec (w : World) : (zeroValue 36).run Tryd.prog w = .ok (.agg #[.string ByteArray.empty, .slice none 0 0]) w := by rfl
theorem spec_none {w : World} {k : Int} (h : ¬ (1 ≤ k ∧ k ≤ 10)) : Spec w (.agg #[.string ByteArray.empty, .slice none 0 0]) k := by
  have e1 : nameB k = ByteArray.empty := by simp only [nameB, if_neg (show ¬ k = 1 by omega), if_neg (show ¬ k = 2 by omega), if_neg (show ¬ k = 3 by omega), if_neg (show ¬ k = 4 by omega), if_neg (show ¬ k = 5 by omega), if_neg (show ¬ k = 6 by omega), if_neg (show ¬ k = 7 by omega), if_neg (show ¬ k = 8 by omega), if_neg (show ¬ k = 9 by omega), if_neg (show ¬ k = 10 by omega)]; rfl
  have e2 : argsL k = [] := by simp only [argsL, if_neg (show ¬ k = 1 by omega), if_neg (show ¬ k = 2 by omega), if_neg (show ¬ k = 3 by omega), if_neg (show ¬ k = 4 by omega), if_neg (show ¬ k = 5 by omega), if_neg (show ¬ k = 6 by omega), if_neg (show ¬ k = 7 by omega), if_neg (show ¬ k = 8 by omega), if_neg (show ¬ k = 9 by omega), if_neg (show ¬ k = 10 by omega)]
  exact ⟨none, by rw [e1, e2]; rfl, .inl ⟨e2, rfl⟩⟩
/-- The whole table. -/
def all : List Int := [10, 9, 8, 7, 6, 5, 4, 3, 2, 1]
theorem mem_all (k : Int) : k ∈ all ↔ 1 ≤ k ∧ k ≤ 10 := by
  simp only [all, List.mem_cons, List.mem_nil_iff, or_false]
  omega
theorem Tab.look {w : World} {mb : Nat} (h : Tab w mb all) {k : Int} (hwf : (Lit.int .i64 k).wf = true) :
    ∃ v, (Instr.lookup 58 (.map (some mb)) (.int .i64 k) true).run Tryd.prog w = .ok (.tuple #[v, .bool (knownB k)]) w ∧ Spec w v k := by
  obtain ⟨D, h1, h2, h3, h4⟩ := h
  have hkey : keyOf Tryd.prog 3 (.int .i64 k) = some (.int .i64 k) := by simp [keyOf, mapKey, Tryd.underlying3, hwf]
  obtain ⟨v, ps, hrun, hv⟩ := h1.look_ok (Go.Maps.int_keyed Tryd.underlying3) Tryd.underlying58 (zero_spec w) (show held _ = some (.held _, []) from rfl) hkey
  have e : Maps.has D (.int .i64 k) = knownB k := by
    rw [h3]
    exact decide_eq_decide.2 (mem_all k)
  rw [e] at hrun
  refine ⟨v, hrun, ?_⟩
  simp only [held, Option.some.injEq, Prod.mk.injEq] at hv
  by_cases hk : k ∈ all
  · obtain ⟨u, hu, hs⟩ := h4 k hk
    rw [hu] at hv
    have := hv.1
    injection this with this
    subst this
    exact hs
  · have hn : Maps.has D (.int .i64 k) = false := by rw [h3]; exact decide_eq_false hk
    rw [atKey_of_not_has hn] at hv
    have := hv.1
    injection this with this
    subst this
    exact spec_none (fun h => hk ((mem_all k).2 h))
/-! ### fill -/
/-- The table's struct at b, and the map that is being filled. -/
structure St (b mb : Nat) (cs : Array Value) (w0 w1 : World) (ks : List Int) : Prop where
  blk : w1.heap[b]? = some (.cells cs 63 (0, 0))
  below : Below w0.heap.size w0 w1
  tab : Tab w1 mb ks
theorem St.made {b : Nat} {cs : Array Value} {w0 : World} (hb : w0.heap[b]? = some (.cells cs 63 (0, 0))) : St b w0.heap.size cs w0 (w0.alloc (.map #[] 0)) [] :=
  ⟨blk_alloc hb _, below_alloc (Below.refl _ _) _, Tab.made w0⟩
theorem St.alloc {b mb : Nat} {cs : Array Value} {w0 w1 : World} {ks : List Int} (h : St b mb cs w0 w1 ks) (o : Obj) : St b mb cs w0 (w1.alloc o) ks :=
  ⟨blk_alloc h.blk _, below_alloc h.below _, h.tab.alloc o⟩
section
variable {P : Program} {ops : Array Oper} {rest : List Oper} {o : Oper} {a : Act} {Q : Exit → Act → World → Prop} {W : World}
theorem gate_insert {t : TypeId} {m x v : Operand} (_ho : o.op = .insert t m x v) (h : wpList P ops Q (o :: rest) a W) : wpList P ops Q (o :: rest) a W := h
end
section
variable {ops : Array Oper} {rest : List Oper} {o : Oper} {a : Act} {Q : Exit → Act → World → Prop}
/-- One entry of the literal, at the operation. -/
theorem wp_ins {b mb : Nat} {cs : Array Value} {w0 w1 : World} {ks : List Int} (hst : St b mb cs w0 w1 ks) (hmb : w0.heap.size ≤ mb) (hg : o.guard = none) (m x v : Operand) (hop : o.op = Op.insert 58 m x v) (k : Int) (u : Value)
    (hm : a.eval m = .map (some mb)) (hx : a.eval x = .int .i64 k) (hv : a.eval v = u) (hl : ks.length < maxLen) (hk : k ∉ ks) (hwf : (Lit.int .i64 k).wf = true) (hs : Spec w1 u k)
    (hK : ∀ w2, St b mb cs w0 w2 (k :: ks) → wpList Tryd.prog ops Q rest (a.put o.dst undef) w2) : wpList Tryd.prog ops Q (o :: rest) a w1 := by
  refine wpList_plain hg fun K' hK' => ?_
  obtain ⟨es, c, hmm⟩ := hst.tab.isMap
  obtain ⟨w', hrun, r1, r2⟩ := hst.tab.insert hl hk hwf hs
  unfold Oper.wp
  simp [execOp, hop, hm, hx, hv, hrun, Result.andThen]
  refine hK' _ _ (hK w' ⟨blk_grown hst.blk r2 ?_, ?_, r1⟩)
  · intro e
    cases e
    rw [hst.blk] at hmm
    cases hmm
  · have hlt := blk_lt hmm
    exact ⟨r2.os.trans hst.below.os, r2.tape.trans hst.below.tape, r2.output.trans hst.below.output, Nat.le_trans hst.below.size r2.size, fun i hi => (r2.block i (by omega) (by intro e; cases e; omega)).trans (hst.below.block i hi)⟩
end
theorem grown_set {w w1 : World} {b : Nat} (h : w.grownBy w1 (some b)) (i : Nat) (u : Value) : w.grownBy (w1.setCell ⟨b, i, none⟩ u) (some b) :=
  ⟨h.os, h.tape, h.output, by have := h.size; simpa [World.setCell] using this, fun j hj hne => (Below.heap_setCell w1 ⟨b, i, none⟩ u j (fun e => hne (by rw [show j = b from e]))).trans (h.block j hj hne)⟩
theorem grown_trans {w w1 w2 : World} {b : Nat} (h : w.grownBy w1 (some b)) (h' : w1.grownBy w2 (some b)) : w.grownBy w2 (some b) :=
  ⟨h'.os.trans h.os, h'.tape.trans h.tape, h'.output.trans h.output, Nat.le_trans h.size h'.size, fun j hj hne => (h'.block j (Nat.lt_of_lt_of_le hj h.size) hne).trans (h.block j hj hne)⟩
theorem grown_drew {w w1 : World} {b : Nat} (h : w.grownBy w1 (some b)) : w.grownBy w1.drew (some b) := ⟨h.os, h.tape, h.output, h.size, h.block⟩
theorem below_of {w w1 : World} {b base : Nat} (h : w.grownBy w1 (some b)) (hb : base ≤ b) (hl : base ≤ w.heap.size) : Below base w w1 :=
  ⟨h.os, h.tape, h.output, h.size, fun j hj => h.block j (by omega) (by intro e; cases e; omega)⟩
theorem alloc_size (w : World) (o : Obj) : (w.alloc o).heap.size = w.heap.size + 1 := by
  show (w.heap.push o).size = _
  simp
theorem blk_new' (w : World) (o : Obj) (g : Nat) (hg : w.heap.size = g) : (w.alloc o).heap[g]? = some o := by
  subst hg
  exact blk_new w o
set_option maxRecDepth 100000 in
set_option maxHeartbeats 8000000 in
theorem fill_calls (b : Nat) (w : World) (c0 c1 c2 c3 c4 : Value) (hb : w.heap[b]? = some (.cells #[c0, c1, c2, c3, c4] 63 (0, 0))) :
    Calls Tryd.prog 33 #[.pointer (some ⟨b, 0, none⟩)] w fun e w' => e = .returned (.tuple #[]) ∧ ∃ mb, w'.heap[b]? = some (.cells #[c0, c1, c2, .map (some mb), c4] 63 (0, 0)) ∧ w.heap.size ≤ mb ∧ Tab w' mb all ∧ w.grownBy w' (some b) := by
  have HS := Aside0.mk (St.made hb)
  clear hb
  have hmm := @run_makeMap Tryd.prog
  go_enter Tryd.func33, Tryd.ntmps33
  go_wp2_with (first | ((with_reducible refine gate_insert rfl ?_); refine wp_ins (b := b) (mb := w.heap.size) (w0 := w) (by first | exact HS.out | exact HS.out.alloc _) (Nat.le_refl _) rfl _ _ _ rfl _ _ rfl rfl rfl (by decide) (by decide) (by decide) (by first | exact ⟨none, rfl, .inl ⟨rfl, rfl⟩⟩ | exact ⟨_, rfl, .inr ⟨_, rfl, blk_new' _ _ _ (by first | rfl | exact alloc_size _ _)⟩⟩) ?_; intro w2 HS2; clear HS; (try clear hc3 hf3); have HS := Aside0.mk HS2; have hc3 := (blk_cell HS2.blk 3).trans (show _ = some c3 from rfl); have hf3 := blk_frozen HS2.blk 3; clear HS2))
  first | go_end0 | ((try simp only [Exit.inBlock, Exit.then]); refine bodyPost_ret (results_none rfl _ _ _) rfl ?_)
  refine ⟨rfl, w.heap.size, ?_, Nat.le_refl _, ?_, ?_⟩
  · simpa using blk_set HS.out.blk 3 (.map (some w.heap.size))
  · exact HS.out.tab.set HS.out.blk (by decide) _ _
  · exact grown_set (grown_of_below HS.out.below _) _ _
/-! ### once -/
/-- The table is filled. -/
def KDone (base : Nat) (w : World) (b : Nat) (n : Int) : Prop :=
  ∃ mb, w.heap[b]? = some (.cells #[.int .u32 1, .int .i32 0, .int .u32 0, .map (some mb), .int .i64 n] 63 (0, 0)) ∧ base ≤ mb ∧ Tab w mb all
/-- It is not filled yet. -/
def KNew (w : World) (b : Nat) (n : Int) : Prop :=
  w.heap[b]? = some (.cells #[.int .u32 0, .int .i32 0, .int .u32 0, .map none, .int .i64 n] 63 (0, 0))
set_option maxRecDepth 100000 in
set_option maxHeartbeats 3200000 in
theorem slow_calls (base b : Nat) (n : Int) (w : World) (hb : KNew w b n) (hl0 : base ≤ w.heap.size) :
    Calls Tryd.prog 40 #[.pointer (some ⟨b, 0, none⟩), .func (.func 33) #[.pointer (some ⟨b, 0, none⟩)] #[]] w fun e w' => e = .returned (.tuple #[]) ∧ KDone base w' b n ∧ w.grownBy w' (some b) := by
  unfold KNew at hb
  have h0 := (blk_cell hb 0).trans (show _ = some (Value.int .u32 0) from rfl)
  have h1 := (blk_cell hb 1).trans (show _ = some (Value.int .i32 0) from rfl)
  have f0 := blk_frozen hb 0
  have f1 := blk_frozen hb 1
  have B1 : (w.setCell ⟨b, 1, none⟩ (.int .i32 1)).heap[b]? = some (.cells #[.int .u32 0, .int .i32 1, .int .u32 0, .map none, .int .i64 n] 63 (0, 0)) := by simpa using blk_set hb 1 (.int .i32 1)
  have HB1 := Aside0.mk B1
  have HBe : Aside0 (w.grownBy (w.setCell ⟨b, 1, none⟩ (.int .i32 1)) (some b)) := ⟨grown_set (grown_of_below (Below.refl _ _) _) _ _⟩
  have HL : Aside0 (base ≤ (w.setCell ⟨b, 1, none⟩ (.int .i32 1)).heap.size) := ⟨Nat.le_trans hl0 HBe.out.size⟩
  have hl := run_call_load (P := Tryd.prog) Tryd.func48 (by kernel_rfl) (by kernel_rfl) (by kernel_rfl) .u32 (by kernel_rfl) (w := w.setCell ⟨b, 1, none⟩ (.int .i32 1)) (a := ⟨b, 0, none⟩) (x := 0) ((blk_cell B1 0).trans rfl)
  have hnot : ∀ (x : Bool) (w : World), (Op.unary .not (.bool x)).run Tryd.prog w = .ok (.bool (!x)) w := fun _ _ => rfl
  clear hb B1
  go_enter_defers Tryd.func40, Tryd.ntmps40
  go_wp2_with (first | (go_at_call 49; refine (lock_free ⟨b, 1, none⟩ _ (by go_simp) (by go_simp)).mono ?_; rintro e w' ⟨rfl, rfl⟩) | (go_at_call 33; refine (fill_calls b _ _ _ _ _ _ HB1.out).mono ?_; rintro e w' ⟨rfl, mb, hb2, hm2, ht2, hbe2⟩) | (go_at_call 39; go_in))
  refine leaves_cons (f := 51) (args := #[.pointer (some ⟨b, 0, none⟩), .bool true]) (by simp) (by simp [go_sem]) ?_
  refine (store_deferred ⟨b, 0, none⟩ (.int .u32 0) .returning _ ((blk_cell hb2 0).trans rfl) (blk_frozen hb2 0)).mono ?_
  rintro e u' w'' ⟨rfl, rfl, rfl⟩
  have hb2' : w'.drew.heap[b]? = _ := hb2
  have hb3 := blk_set hb2' 0 (.int .u32 1)
  refine leaves_cons (f := 50) (args := #[.pointer (some ⟨b, 1, none⟩)]) (by simp [settle]) (by simp [go_sem]) ?_
  refine (unlock_deferred ⟨b, 1, none⟩ _ _ ((blk_cell hb3 1).trans rfl) (blk_frozen hb3 1)).mono ?_
  rintro e u' w'' ⟨rfl, rfl, rfl⟩
  have hb4 := blk_set hb3 1 (.int .i32 0)
  simp [Leaves, settle, results, Tryd.results40]
  refine ⟨⟨mb, by simpa using hb4, Nat.le_trans HL.out hm2, (ht2.drew.set hb2' (by decide) _ _).set hb3 (by decide) _ _⟩, grown_set (grown_set (grown_drew (grown_trans HBe.out hbe2)) _ _) _ _⟩
set_option maxRecDepth 100000 in
set_option maxHeartbeats 3200000 in
theorem do_calls (base b : Nat) (n : Int) (w : World) (h : KNew w b n ∨ KDone base w b n) (hl0 : base ≤ w.heap.size) :
    Calls Tryd.prog 32 #[.pointer (some ⟨b, 0, none⟩), .func (.func 33) #[.pointer (some ⟨b, 0, none⟩)] #[]] w fun e w' => e = .returned (.tuple #[]) ∧ KDone base w' b n ∧ w.grownBy w' (some b) := by
  have hnot : ∀ (x : Bool) (w : World), (Op.unary .not (.bool x)).run Tryd.prog w = .ok (.bool (!x)) w := fun _ _ => rfl
  rcases h with h | h
  · have h0 := (blk_cell h 0).trans (show _ = some (Value.int .u32 0) from rfl)
    have hl := run_call_load (P := Tryd.prog) Tryd.func48 (by kernel_rfl) (by kernel_rfl) (by kernel_rfl) .u32 (by kernel_rfl) h0
    go_enter Tryd.func32, Tryd.ntmps32
    go_wp2_with (first | (go_at_call 40; refine (slow_calls base b n _ h hl0).mono ?_; rintro e w' ⟨rfl, hd, hb⟩) | (go_at_call 39; go_in))
    go_end0
    exact ⟨rfl, hd, hb⟩
  · obtain ⟨mb, hb, hm⟩ := h
    have h0 := (blk_cell hb 0).trans (show _ = some (Value.int .u32 1) from rfl)
    have hl := run_call_load (P := Tryd.prog) Tryd.func48 (by kernel_rfl) (by kernel_rfl) (by kernel_rfl) .u32 (by kernel_rfl) h0
    go_enter Tryd.func32, Tryd.ntmps32
    go_wp2_with (go_at_call 39; go_in)
    go_end0
    exact ⟨rfl, ⟨mb, hb, hm⟩, grown_of_below (Below.refl _ _) _⟩
/-! ### get -/
theorem KNew.alloc {w : World} {b : Nat} {n : Int} (h : KNew w b n) (o : Obj) : KNew (w.alloc o) b n := blk_alloc h o
theorem KDone.alloc {base : Nat} {w : World} {b : Nat} {n : Int} (h : KDone base w b n) (o : Obj) : KDone base (w.alloc o) b n := by
  obtain ⟨mb, hb, hm, ht⟩ := h
  exact ⟨mb, blk_alloc hb o, hm, ht.alloc o⟩
theorem KNew.below {w w' : World} {b : Nat} {n : Int} (h : KNew w b n) (hb : Below w.heap.size w w') : KNew w' b n := blk_below h hb
theorem KDone.below {base : Nat} {w w' : World} {b : Nat} {n : Int} (h : KDone base w b n) (hbe : Below w.heap.size w w') : KDone base w' b n := by
  obtain ⟨mb, hb, hm, ht⟩ := h
  exact ⟨mb, blk_below hb hbe, hm, ht.below hbe⟩
theorem KDone.set {base : Nat} {w : World} {b : Nat} {n : Int} (h : KDone base w b n) {g : Nat} {cs : Array Value} {t : TypeId} (hg : w.heap[g]? = some (.cells cs t (0, 0))) (ht : t ≠ 3) (hne : g ≠ b) (i : Nat) (u : Value) : KDone base (w.setCell ⟨g, i, none⟩ u) b n := by
  obtain ⟨mb, hb, hm, htb⟩ := h
  exact ⟨mb, blk_far hb (Ne.symm hne) u, hm, htb.set hg ht i u⟩
theorem grown_new {w w1 : World} {b g : Nat} (h : w.grownBy w1 (some b)) (hg : w.heap.size ≤ g) (i : Nat) (u : Value) : w.grownBy (w1.setCell ⟨g, i, none⟩ u) (some b) :=
  ⟨h.os, h.tape, h.output, by have := h.size; simpa [World.setCell] using this, fun j hj hne => (Below.heap_setCell w1 ⟨g, i, none⟩ u j (by show j ≠ g; omega)).trans (h.block j hj hne)⟩
set_option maxRecDepth 100000 in
set_option maxHeartbeats 3200000 in
theorem get_calls (base b : Nat) (n k : Int) (w : World) (h : KNew w b n ∨ KDone base w b n) (hl0 : base ≤ w.heap.size) (hlt : b < w.heap.size) (hwf : (Lit.int .i64 k).wf = true) :
    Calls Tryd.prog 24 #[.pointer (some ⟨b, 0, none⟩), .int .i64 k] w fun e w' => ∃ v, e = .returned (.tuple #[v, .bool (knownB k)]) ∧ Spec w' v k ∧ KDone base w' b n ∧ w.grownBy w' (some b) := by
  have HK : ∀ o, KNew (w.alloc o) b n ∨ KDone base (w.alloc o) b n := fun o => h.imp (fun h => h.alloc o) (fun h => h.alloc o)
  have HL : ∀ o, base ≤ (w.alloc o).heap.size := fun o => by rw [alloc_size]; omega
  have HB0 : ∀ o, w.grownBy (w.alloc o) (some b) := fun o => grown_of_below (below_alloc (Below.refl _ _) o) _
  have HN : Aside0 (w.heap.size ≠ b) := ⟨by omega⟩
  clear h
  go_enter Tryd.func24, Tryd.ntmps24
  go_wp2_with (go_at_call 32; refine (do_calls base b n _ (HK _) (HL _)).mono ?_; rintro e w1 ⟨rfl, hd, hb⟩; have HR := Aside0.mk (blk_grown (blk_new w _) hb (fun e => HN.out (by injection e))); have HBE := Aside0.mk (grown_trans (HB0 _) hb); have HD := Aside0.mk hd; obtain ⟨mb, hbk, hmb, htab⟩ := hd; obtain ⟨v, hlk, hsp⟩ := htab.look hwf; have HSP := Aside0.mk hsp; obtain ⟨A, rfl, hA⟩ := hsp; have hc3 := (blk_cell hbk 3).trans (show _ = some (Value.map (some mb)) from rfl); have hr0 : (w1.alloc (.cells #[.string (nameB k), .slice A (argsL k).length (argsL k).length] 36)).cell? ⟨w.heap.size, 0, none⟩ = some _ := (blk_cell (blk_alloc HR.out _) 0).trans rfl; have hr1 : ∀ u, ((w1.alloc (.cells #[.string (nameB k), .slice A (argsL k).length (argsL k).length] 36)).setCell ⟨w.heap.size, 0, none⟩ u).cell? ⟨w.heap.size, 1, none⟩ = some _ := fun u => (blk_cell (blk_set (blk_alloc HR.out _) 0 u) 1).trans (by simp; rfl); have hz := fun i => blk_frozen (blk_alloc HR.out (.cells #[.string (nameB k), .slice A (argsL k).length (argsL k).length] 36)) i; clear hb hbk hmb htab hA)
  have hb1 := blk_alloc HR.out (.cells #[.string (nameB k), .slice A (argsL k).length (argsL k).length] 36)
  have hb2 := blk_set hb1 0 (.string (nameB k))
  have hb3 := blk_set hb2 1 (.slice A (argsL k).length (argsL k).length)
  refine bodyPost_ret (results_ct rfl _ _ w.heap.size 36 #[.string (nameB k), .slice A (argsL k).length (argsL k).length] (0, 0) _ rfl (by simpa using hb3) Tryd.underlying36 rfl (by rfl)) rfl ?_
  exact ⟨_, rfl, HSP.out.kept (((Ints.alloc _ _).trans (Ints.set hb1 (by decide) _ _)).trans (Ints.set hb2 (by decide) _ _)), ((HD.out.alloc _).set hb1 (by decide) HN.out _ _).set hb2 (by decide) HN.out _ _, grown_new (grown_new (grown_trans HBE.out (grown_of_below (below_alloc (Below.refl _ _) _) _)) (Nat.le_refl _) _ _) (Nat.le_refl _) _ _⟩
/-! ### the methods -/
theorem new_calls (w : World) : Calls Tryd.prog 19 #[] w fun e w' => e = .returned (.pointer (some ⟨w.heap.size, 0, none⟩)) ∧ KNew w' w.heap.size 0 ∧ Below w.heap.size w w' ∧ w'.heap.size = w.heap.size + 1 := by
  go_enter Tryd.func19, Tryd.ntmps19
  go_wp2
  go_ret
  exact ⟨rfl, blk_new w _, below_alloc (Below.refl _ _) _, alloc_size _ _⟩
/-- One more. -/
def nx (n : Int) : Int := wrap64 (n + 1)
theorem KNew.cells {w : World} {b : Nat} {n : Int} (h : KNew w b n) : w.cell? ⟨b, 4, none⟩ = some (.int .i64 n) ∧ w.frozen? ⟨b, 4, none⟩ = false := ⟨(blk_cell h 4).trans rfl, blk_frozen h 4⟩
theorem KDone.cells {base : Nat} {w : World} {b : Nat} {n : Int} (h : KDone base w b n) : w.cell? ⟨b, 4, none⟩ = some (.int .i64 n) ∧ w.frozen? ⟨b, 4, none⟩ = false := by
  obtain ⟨mb, hb, _, _⟩ := h
  exact ⟨(blk_cell hb 4).trans rfl, blk_frozen hb 4⟩
theorem add_calls (base b : Nat) (n : Int) (w : World) (h : KNew w b n ∨ KDone base w b n) :
    Calls Tryd.prog 30 #[.pointer (some ⟨b, 4, none⟩), .int .i64 1] w fun e w' => e = .returned (.int .i64 (nx n)) ∧ (KNew w' b (nx n) ∨ KDone base w' b (nx n)) ∧ w.grownBy w' (some b) ∧ w'.heap.size = w.heap.size := by
  have hc : w.cell? ⟨b, 4, none⟩ = some (.int .i64 n) ∧ w.frozen? ⟨b, 4, none⟩ = false := h.elim KNew.cells KDone.cells
  have hadd := run_call_add (P := Tryd.prog) Tryd.func38 (by kernel_rfl) (by kernel_rfl) (by kernel_rfl) .i64 (by kernel_rfl) (y := 1) (s := nx n) hc.1 hc.2 (by simp [go_sem, nx, i64_w])
  go_enter Tryd.func30, Tryd.ntmps30
  go_wp2
  go_ret
  refine ⟨rfl, ?_, grown_set (grown_of_below (Below.refl _ _) _) _ _, by simp [World.setCell]⟩
  rcases h with h | h
  · exact .inl (by simpa [KNew] using blk_set h 4 (.int .i64 (nx n)))
  · obtain ⟨mb, hb, hm, ht⟩ := h
    exact .inr ⟨mb, by simpa using blk_set hb 4 (.int .i64 (nx n)), hm, ht.set hb (by decide) _ _⟩
set_option maxRecDepth 100000 in
set_option maxHeartbeats 3200000 in
theorem mknown_calls (base b : Nat) (n k : Int) (w : World) (h : KNew w b n ∨ KDone base w b n) (hl0 : base ≤ w.heap.size) (hlt : b < w.heap.size) (hwf : (Lit.int .i64 k).wf = true) :
    Calls Tryd.prog 20 #[.pointer (some ⟨b, 0, none⟩), .int .i64 k] w fun e w' => e = .returned (.bool (knownB k)) ∧ KDone base w' b (nx n) ∧ w.grownBy w' (some b) := by
  go_enter Tryd.func20, Tryd.ntmps20
  go_wp2_with (first | (go_at_call 30; refine (add_calls base b n w h).mono ?_; rintro e w1 ⟨rfl, h1, hg1, hs1⟩) | (go_at_call 24; refine (get_calls base b (nx n) k _ h1 (by omega) (by omega) hwf).mono ?_; rintro e w2 ⟨v, rfl, hsp, hd, hg2⟩; obtain ⟨A, rfl, hA⟩ := hsp))
  go_ret
  exact ⟨rfl, hd.alloc _, grown_trans (grown_trans hg1 hg2) (grown_of_below (below_alloc (Below.refl _ _) _) _)⟩
/-! ### the package's functions -/
set_option maxRecDepth 100000 in
set_option maxHeartbeats 3200000 in
theorem known_calls (k : Int) (w : World) (hwf : (Lit.int .i64 k).wf = true) : Calls Tryd.prog 13 #[.int .i64 k] w fun e w' => e = .returned (.bool (knownB k)) ∧ Below w.heap.size w w' := by
  go_enter Tryd.func13, Tryd.ntmps13
  go_wp2_with (first | (go_at_call 19; refine (new_calls w).mono ?_; rintro e w1 ⟨rfl, hk, hb1, hs1⟩) | (go_at_call 20; refine (mknown_calls w.heap.size w.heap.size 0 k w1 (.inl hk) (by omega) (by omega) hwf).mono ?_; rintro e w2 ⟨rfl, hd, hg⟩))
  go_ret
  exact ⟨rfl, hb1.trans (below_of hg (Nat.le_refl _) (by omega))⟩
/-! ### a kind's arguments -/
theorem C_of_blk (W : World) (b : Nat) (xs : List Int) (h : W.heap[b]? = some (.cells (xs.map (Value.int .i64)).toArray 3 (0, 0))) (hl : xs.length < 1000) : Kd.C (Kd.int .i64) W (some ⟨b, 0, none⟩) xs.length xs :=
  Kd.C_of_reads (d := (0 : Int)) (h1 := fun _ => rfl) ⟨rfl, by omega, fun _ => ⟨_, rfl, fun j hj => by
    rw [Go.Proofs.YthhohplddgklgaaDoorW.PrintWords.add_plain, blk_cell h j]
    simp [List.getElem?_eq_getElem hj, List.getD_eq_getElem?_getD]⟩⟩
theorem argsL_length (k : Int) : (argsL k).length ≤ 3 := by
  unfold argsL
  (repeat' split) <;> simp
theorem Spec.row {w : World} {k : Int} {A : Option Addr} {s : ByteArray} {n c : Nat} (h : Spec w (.agg #[.string s, .slice A n c]) k) : s = nameB k ∧ n = (argsL k).length ∧ c = (argsL k).length ∧ Kd.C (Kd.int .i64) w A (argsL k).length (argsL k) := by
  obtain ⟨A', e, h⟩ := h
  simp only [Value.agg.injEq, Array.mk.injEq, List.cons.injEq, Value.string.injEq, Value.slice.injEq, and_true] at e
  obtain ⟨rfl, rfl, rfl, rfl⟩ := e
  refine ⟨rfl, rfl, rfl, ?_⟩
  have hlen := argsL_length k
  rcases h with ⟨h, rfl⟩ | ⟨g, rfl, hg⟩
  · rw [h]
    exact ⟨rfl, by simp, fun hn => by simp at hn⟩
  · exact C_of_blk w g _ hg (by omega)
set_option maxHeartbeats 4000000 in
theorem clone_calls (A0 : Option Addr) (c0 : Nat) (l0 : List Int) (w : World) (hlen : l0.length < 1000) (hr0 : Kd.C (Kd.int .i64) w A0 l0.length l0) :
    Calls Tryd.prog 25 #[.slice A0 l0.length c0] w fun e w' => ∃ v0_ : Value, e = .returned v0_ ∧ Kd.R (Kd.int .i64) 3 w' w.heap.size (fun _ => True) v0_ l0 ∧ Below w.heap.size w w' := by
  have hinfo : (Tryd.prog.info? 3).map (fun i => (i.zero, i.size, i.bytes)) = some (some (.int .i64 0), 1, 8) := by kernel_rfl
  have HL := Aside0.mk hlen
  have HR := Aside0.mk hr0
  clear hlen hr0
  have HB := Aside0.mk (Below.refl w.heap.size w)
  cases A0 with
  | none =>
    have h0 : l0 = [] := by
      rcases Nat.eq_zero_or_pos l0.length with h | h
      · exact List.eq_nil_of_length_eq_zero h
      · obtain ⟨ad, e, _⟩ := HR.out.2.2 h
        cases e
    subst h0
    have hn : ∀ W : World, (binOp .eql 25 (.slice none 0 c0) (.slice none 0 0)).run Tryd.prog W = .ok (.bool true) W := fun W => Lib.run_eql_slice_nil W _ 3 none _ c0 0 0 Tryd.underlying25
    go_enter Tryd.func25, Tryd.ntmps25
    go_wp2
    go_ret
    exact ⟨_, rfl, Kd.R_nil _ _ _ _ _, HB.out⟩
  | some ad =>
    have hn : ∀ W : World, (binOp .eql 25 (.slice (some ad) l0.length c0) (.slice none 0 0)).run Tryd.prog W = .ok (.bool false) W := fun W => Lib.run_eql_slice_nil W _ 3 (some ad) _ c0 0 0 Tryd.underlying25
    go_enter Tryd.func25, Tryd.ntmps25
    have HO := Aside0.mk (show Kd.R (Kd.int .i64) 3 (w.alloc (.cells #[] 3)) w.heap.size (fun _ => True) (.slice (some ⟨w.heap.size, 0, none⟩) 0 0) [] from ⟨fun _ _ => trivial, OwnRow.lit w w.heap.size (ps := []) (Reps.none _ _) (Nat.le_refl _) (by simp)⟩)
    go_wp2_with (first | (at_builtin; refine Kd.R_append_rows (Kd.int .i64) (Rr := (Kd.int .i64).K (w.alloc (.cells #[] 3))) (w0 := w) w.heap.size rfl (.tmp 5) (.tmp 6) 25 3 _ 8 rfl Tryd.underlying25 hinfo rfl (by decide) (by omega) (.slice (some ⟨w.heap.size, 0, none⟩) 0 0) [] l0 (some ad) l0.length c0 (fun _ => True) (fun _ => False) rfl rfl HO.out (Kd.C_alloc HR.out _) (fun x cs hx => hx) (fun _ h => h.elim) (fun _ _ => trivial) (below_alloc HB.out _) (by simp) (by have := HL.out; simp; omega) ?_; intro v1 w1 hr1 hb1 hg1 hat1; have HR1 := Aside0.mk hr1; have HB1 := Aside0.mk hb1; clear hr1 hb1 hg1 hat1))
    go_ret
    exact ⟨_, rfl, by simpa using HR1.out, HB1.out⟩
set_option maxRecDepth 100000 in
set_option maxHeartbeats 3200000 in
theorem args_calls (k : Int) (w : World) (hwf : (Lit.int .i64 k).wf = true) :
    Calls Tryd.prog 11 #[.int .i64 k] w fun e w' => ∃ v0_ : Value, e = .returned v0_ ∧ Kd.R (Kd.int .i64) 3 w' w.heap.size (fun _ => True) v0_ (argsL k) ∧ Below w.heap.size w w' := by
  go_enter Tryd.func11, Tryd.ntmps11
  go_wp2_with (first | (go_at_call 19; refine (new_calls w).mono ?_; rintro e w1 ⟨rfl, hk, hb1, hs1⟩) | (go_at_call 24; refine (get_calls w.heap.size w.heap.size 0 k w1 (.inl hk) (by omega) (by omega) hwf).mono ?_; rintro e w2 ⟨v, rfl, hsp, hd, hg⟩; have HS := Aside0.mk hsp; obtain ⟨A, rfl, hA⟩ := hsp; have HB2 := Aside0.mk (hb1.trans (below_of hg (Nat.le_refl _) (by omega))); clear hA hd hg hb1 hk) | (go_at_call 25; refine (clone_calls A _ (argsL k) _ (Nat.lt_of_le_of_lt (argsL_length k) (by decide)) (Kd.C_alloc HS.out.row.2.2.2 _)).mono ?_; rintro e w3 ⟨v3, rfl, hr3, hb3⟩))
  go_ret
  have hB3 := below_alloc HB2.out (.cells #[.string (nameB k), .slice A (argsL k).length (argsL k).length] 36)
  exact ⟨_, rfl, Kd.R_lower hr3 hB3.size, below_step hB3 hb3⟩
end Go.Proofs.YthhohplddgklgaaDoor.Kind
