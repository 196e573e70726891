/- Words of my own beside the print's: a call through a function value; copy of elements of several cells; a call of the model's own entry. For every program. -/
import Derived.Test.YtlmmlmmbnfcogaaVw
import Derived.Laws.CopyRow
import Derived.Laws.CopyOwn
import Derived.Lib.AppendZerosOnto
import Derived.Lib.AppendZeros
import Derived.Lib.Overlaps
import Derived.Laws.Externs
import Derived.WalkKit
import Derived.ChangeKeysEq
set_option linter.unusedVariables false
namespace Go.Proofs.Ytlmmlmmbnfcogaa.Own
open Go Go.RowKit Go.Proofs.YtlmmlmmbnfcogaaW.PrintWords Go.Proofs.YtlmmlmmbnfcogaaW.PrintLast
section
variable {P : Program} {ops : Array Oper} {Q : Exit → Act → World → Prop}
/-- A call that panics, by its contract: in a region that draws. -/
theorem goesP_ {oi : Oper} {N : Option Tmp} {a : Act} {w : World} {K : Act → World → Prop} {f : FuncId} {fn : Func} {as : Array Operand} {ts : Array TypeId} (hf : P.funcs[f]? = some fn) (hname : (fn.name == "runtime.NumGoroutine") = false) (hb : fn.body.isSome = true) (args : Array Value)
    (hw : Region.wanted oi (yielded ops a.tmps) = true) (hop : oi.op = .call { callee := .value (.func f), args := as, argTypes := ts }) (hargs : as.map a.eval = args)
    (h : Calls P f args w fun e w' => ∃ c, e = .panicked c ∧ Q (.panic c) a w') : if Region.wanted oi (yielded ops a.tmps) = true then Oper.wp P oi a w K Q else K (a.put N undef) w := by
  rw [if_pos hw]
  have he := enters_ hf hname hb args w
  have hrun : (execOp a.eval oi).run P w = .ok (.enter f args) w := by
    unfold execOp
    simp [hop, resolve, Deferred.ofValue, invoke, Act.eval, hargs, he]
  unfold Oper.wp
  rw [hrun, Oper.upon_enter]
  refine h.mono fun e w'' hh => ?_
  obtain ⟨c, rfl, hk⟩ := hh
  exact hk
/-- A call through a function value, by its contract: in a region that draws. -/
theorem goesV_ {oi : Oper} {N : Option Tmp} {a : Act} {w : World} {K : Act → World → Prop} {f : FuncId} {fn : Func} {x : Operand} {as : Array Operand} {ts : Array TypeId} (hf : P.funcs[f]? = some fn) (hname : (fn.name == "runtime.NumGoroutine") = false) (hb : fn.body.isSome = true) (args cap : Array Value)
    (hw : Region.wanted oi (yielded ops a.tmps) = true) (hN : oi.dst = N) (hop : oi.op = .call { callee := .value x, args := as, argTypes := ts }) (hx : a.eval x = .func (.func f) #[] cap) (hargs : as.map a.eval ++ cap = args)
    (h : Calls P f args w fun e w' => ∃ v, e = .returned v ∧ K (a.put N v) w') : if Region.wanted oi (yielded ops a.tmps) = true then Oper.wp P oi a w K Q else K (a.put N undef) w := by
  refine call_ f args hw hN ?_ h
  have he := enters_ hf hname hb args w
  unfold execOp
  simp only [hop, resolve, hx, Deferred.ofValue, invoke]
  simp [hargs, he]
/-- The same in a plain region. -/
theorem goesVL_ {rest : List Oper} {oi : Oper} {a : Act} {w : World} (N : Option Tmp) (hd : oi.dst = N) (hg : oi.guard = none) {f : FuncId} {fn : Func} {x : Operand} {as : Array Operand} {ts : Array TypeId} (hf : P.funcs[f]? = some fn) (hname : (fn.name == "runtime.NumGoroutine") = false) (hb : fn.body.isSome = true) (args cap : Array Value)
    (hop : oi.op = .call { callee := .value x, args := as, argTypes := ts }) (hx : a.eval x = .func (.func f) #[] cap) (hargs : as.map a.eval ++ cap = args)
    (h : Calls P f args w fun e w' => ∃ v, e = .returned v ∧ wpList P ops Q rest (a.put N v) w') : wpList P ops Q (oi :: rest) a w := by
  refine wpList_plain hg fun K hK => ?_
  have he := enters_ hf hname hb args w
  have hrun : (execOp a.eval oi).run P w = .ok (.enter f args) w := by
    unfold execOp
    simp only [hop, resolve, hx, Deferred.ofValue, invoke]
    simp [hargs, he]
  unfold Oper.wp
  rw [hrun, Oper.upon_enter]
  refine h.mono fun e w'' hh => ?_
  obtain ⟨v, rfl, hk⟩ := hh
  subst hd
  exact hK _ _ hk
end
section
variable {P : Program}
/-- copy into a row that is known whole, elements of sz cells. -/
theorem run_copy_rowN (w : World) (dT sT ty elem : TypeId) (sz g o dLen dCap : Nat) (a : Addr) (sLen sCap : Nat) (cur : Array Value) (t : TypeId) (cs : List Value)
    (hu : P.underlying dT = some (.slice elem)) (hs : (P.info? elem).map (·.size) = some sz)
    (hg : w.heap[g]? = some (.cells cur t (0, 0))) (hn : cs.length = Nat.min sLen dLen * sz)
    (hsrc : ∀ j v, cs[j]? = some v → w.cell? (a.add j) = some v) (hfit : o + cs.length ≤ cur.size) (h1 : ∀ v ∈ cs, v.oneCell' = true) :
    (Builtin.copy_ #[dT, sT] ty #[.slice (some ⟨g, o, none⟩) dLen dCap, .slice (some a) sLen sCap]).run P w =
      .ok (goInt (Nat.min sLen dLen)) (w.setRow g (cur.toList.take o ++ cs ++ cur.toList.drop (o + cs.length)).toArray) := by
  have hl := run_loadCells_list (P := P) w a cs hsrc
  have hst := run_storeCells_at P g o t cs 0 cur w hg (by simpa using hfit) h1
  cases hq : P.info? elem with
  | none => simp [hq] at hs
  | some i =>
    have hi : i.size = sz := by simpa [hq] using hs
    simp [Builtin.copy_, run_underlying hu, Builtin.lenOf, Builtin.firstCells, sizeOf, typeInfo, hq, hi, ← hn, hl, hst]
theorem run_copy_own (w : World) (dT sT ty elem : TypeId) (sz g o dLen dCap : Nat) (a : Addr) (sLen sCap : Nat) (cur : List Value) (t : TypeId) (cs : List Value)
    (hu : P.underlying dT = some (.slice elem)) (hs : (P.info? elem).map (·.size) = some sz)
    (hg : w.heap[g]? = some (.cells cur.toArray t (0, 0))) (hn : cs.length = Nat.min sLen dLen * sz)
    (hsrc : ∀ j v, cs[j]? = some v → w.cell? (a.add j) = some v) (hfit : o + cs.length ≤ cur.length) (h1 : ∀ v ∈ cs, v.oneCell' = true) {w0 : World} {base : Nat} (hb : Below base w0 w) (hbg : base ≤ g) :
    ∃ w', (Builtin.copy_ #[dT, sT] ty #[.slice (some ⟨g, o, none⟩) dLen dCap, .slice (some a) sLen sCap]).run P w = .ok (goInt (Nat.min sLen dLen)) w' ∧
      w'.heap[g]? = some (.cells (cur.take o ++ cs ++ cur.drop (o + cs.length)).toArray t (0, 0)) ∧ Below base w0 w' ∧ ∀ k, k ≠ g → w'.heap[k]? = w.heap[k]? := by
  have hr := run_copy_rowN (P := P) w dT sT ty elem sz g o dLen dCap a sLen sCap cur.toArray t cs hu hs hg hn hsrc (by simpa using hfit) h1
  refine ⟨_, hr, ?_, below_setRow hb hbg _, fun k hk => setRow_other w g k _ hk⟩
  have := setRow_heap w g cur.toArray (cur.take o ++ cs ++ cur.drop (o + cs.length)).toArray t (0, 0) hg
  simpa using this
end
section
variable {P : Program} {ops : Array Oper} {rest : List Oper} {o : Oper} {a : Act} {Q : Exit → Act → World → Prop}
theorem wp_copy_run (w : World) {K : Act → World → Prop} (d s : Operand) (t t' : TypeId)
    (ho : o.op = .call { callee := .builtin .copy, args := #[d, s], argTypes := #[t, t'] }) (v u : Value) (hd : a.eval d = v) (hs : a.eval s = u) {v' : Value} {w' : World}
    (hr : (Builtin.copy_ #[t, t'] o.type #[v, u]).run P w = .ok v' w') (h : K (a.put o.dst v') w') : o.wp P a w K Q := by
  unfold Oper.wp execOp
  simp only [ho, resolve, invoke, builtin, Sem.run_bind, Sem.run_pure, Result.andThen_ok, List.map_toArray, List.map_cons, List.map_nil, hd, hs, hr]
  exact h
theorem wpList_copy_run (w : World) (hgd : o.guard = none) (d s : Operand) (t t' : TypeId)
    (ho : o.op = .call { callee := .builtin .copy, args := #[d, s], argTypes := #[t, t'] }) (v u : Value) (hd : a.eval d = v) (hs : a.eval s = u) {v' : Value} {w' : World}
    (hr : (Builtin.copy_ #[t, t'] o.type #[v, u]).run P w = .ok v' w') (h : wpList P ops Q rest (a.put o.dst v') w') : wpList P ops Q (o :: rest) a w :=
  wpList_plain hgd fun _ hK => wp_copy_run w d s t t' ho v u hd hs hr (hK _ _ h)
/-- As a step of a region that draws. -/
theorem step_copy_run {N : Option Tmp} {w : World} {K : Act → World → Prop} (hw : Region.wanted o (yielded ops a.tmps) = true) (hN : o.dst = N) (d s : Operand) (t t' : TypeId)
    (ho : o.op = .call { callee := .builtin .copy, args := #[d, s], argTypes := #[t, t'] }) (v u : Value) (hd : a.eval d = v) (hs : a.eval s = u) {v' : Value} {w' : World}
    (hr : (Builtin.copy_ #[t, t'] o.type #[v, u]).run P w = .ok v' w') (h : K (a.put N v') w') : if Region.wanted o (yielded ops a.tmps) = true then Oper.wp P o a w K Q else K (a.put N undef) w := by
  rw [if_pos hw]
  subst hN
  exact wp_copy_run w d s t t' ho v u hd hs hr h
end
/-! ### operations of a region that are left out, several at once -/
def anysT (T : Bool × List (List Nat × List Nat)) : List Bool → List Nat → List Bool → Bool
  | l, [], l' => l == l'
  | l, i :: r, l' => anyT T l (l.set i true) i && anysT T (l.set i true) r l'
def unw (ops : Array Oper) : List Nat → List (Option Tmp) → Act → Bool
  | [], [], _ => true
  | i :: r, N :: Ns, a => (match ops[i]? with
    | some o => (o.dst == N) && !Region.wanted o (yielded ops a.tmps)
    | none => false) && unw ops r Ns (a.put N undef)
  | _, _, _ => false
def putU : List (Option Tmp) → Act → Act
  | [], a => a
  | N :: Ns, a => putU Ns (a.put N undef)
section
variable {P : Program} {md : Region.Mode} {ops : Array Oper} {Q : Exit → Act → World → Prop} {S : World → Prop} {ds : List Nat} {T : Bool × List (List Nat × List Nat)}
theorem skips_ (hT : rtab md ops = T) : ∀ (is : List Nat) (Ns : List (Option Tmp)) (n m : Nat) (l l' : Array Bool) (a a' : Act) (w : World) (hm : m = n + is.length) (hc : anysT T l.toList is l'.toList = true)
    (hQ : ∀ c t a w, Q (.panic c) (a.put (some t) undef) w → Q (.panic c) a w) (hw : unw ops is Ns a = true) (ha : putU Ns a = a') (h : wpAnyLast P md ops Q S ds n l' a' w), wpAnyLast P md ops Q S ds m l a w
  | [], [], n, m, l, l', a, a', w, hm, hc, hQ, hw, ha, h => by
    have e1 : l = l' := by
      simp only [anysT, beq_iff_eq] at hc
      exact Array.toList_inj.1 hc
    subst e1
    subst ha
    subst hm
    exact h
  | [], _ :: _, _, _, _, _, _, _, _, _, _, _, hw, _, _ => by simp [unw] at hw
  | _ :: _, [], _, _, _, _, _, _, _, _, _, _, hw, _, _ => by simp [unw] at hw
  | i :: r, N :: Ns, n, m, l, l', a, a', w, hm, hc, hQ, hw, ha, h => by
    simp only [anysT, Bool.and_eq_true] at hc
    simp only [unw, Bool.and_eq_true] at hw
    cases ho : ops[i]? with
    | none => rw [ho] at hw; simp at hw
    | some oi =>
      rw [ho] at hw
      simp only [Bool.and_eq_true, beq_iff_eq, Bool.not_eq_true'] at hw
      obtain ⟨⟨hd, hwt⟩, hrest⟩ := hw
      have e : m = (n + r.length) + 1 := by rw [hm, List.length_cons]; omega
      rw [e]
      have hset : (l.setIfInBounds i true).toList = l.toList.set i true := by simp
      exact pure_ (i := i) (N := N) (v := undef) (l.setIfInBounds i true) ho hd (any_of hT (by rw [hset]; exact hc.1)) (fun c b W h => (match hd : oi.dst, h with | none, h => h | some t, h => hQ c t b W h)) (Or.inr ⟨hwt, rfl⟩) rfl
        (skips_ hT r Ns n (n + r.length) _ l' _ a' w rfl (by rw [hset]; exact hc.2) hQ hrest ha h)
end
/-! ### the two steps that a region that draws takes most, in few words -/
section
variable {P : Program} {md : Region.Mode} {ops : Array Oper} {Q : Exit → Act → World → Prop} {S : World → Prop} {ds : List Nat} {T : Bool × List (List Nat × List Nat)} {B : List Nat}
theorem pr_ (i : Nat) (N : Option Tmp) {oi : Oper} {v : Value} {fuel : Nat} {l : Array Bool} {a a' : Act} {w : World} (l' : Array Bool) (hT : Aside0 (rtab md ops = T))
    (hi : ops[i]? = some oi := by rfl) (hN : oi.dst = N := by rfl) (hc : anyT T l.toList l'.toList i = true := by kernel_rfl)
    (hQ : ∀ c a w, Q (.panic c) (a.put oi.dst v) w → Q (.panic c) a w := by exact fun _ _ _ h => h)
    (hw : Region.wanted oi (yielded ops a.tmps) = true := by rfl)
    (hy : ∀ w, (execOp a.eval oi).run P w = .ok (.value v) w := by (intro w'; go_simp; with_reducible rfl))
    (ha : a.put N v = a' := by (simp only [Act.put, List.setIfInBounds_toArray, List.set_cons_zero, List.set_cons_succ, i64_w, i32_w]; rfl))
    (h : wpAnyLast P md ops Q S ds fuel l' a' w) : wpAnyLast P md ops Q S ds (fuel + 1) l a w :=
  pure_ l' hi hN (any_of hT.out hc) hQ (Or.inl ⟨hw, hy⟩) ha h
theorem tk_ (i : Nat) (N : Option Tmp) {oi : Oper} {v : Value} {fuel : Nat} {l : Array Bool} {a a' : Act} {w : World} (l' : Array Bool) (hT : Aside0 (rtab md ops = T)) (hB : Aside0 (waitsOk T.2 B = true)) (hS : S w)
    (hi : ops[i]? = some oi := by rfl) (hN : oi.dst = N := by rfl) (hc : takeW T B ds l.toList l'.toList i = true := by kernel_rfl)
    (hQ : ∀ c a w, Q (.panic c) (a.put oi.dst v) w → Q (.panic c) a w := by exact fun _ _ _ h => h)
    (hw : Region.wanted oi (yielded ops a.tmps) = true := by rfl)
    (hy : ∀ w, S w → (execOp a.eval oi).run P w = .ok (.value v) w)
    (ha : a.put N v = a' := by (simp only [Act.put, List.setIfInBounds_toArray, List.set_cons_zero, List.set_cons_succ, i64_w, i32_w]; rfl))
    (h : wpAnyLast P md ops Q S ds fuel l' a' w) : wpAnyLast P md ops Q S ds (fuel + 1) l a w :=
  take_ l' hi hN (take_ofW hT.out hB.out hc) hQ (Or.inl ⟨hw, hy⟩) hS ha h
end
/-- '==' of arrays, item by item. -/
theorem eqi_cons {P : Program} {w : World} {d : Nat} {e : TypeId} {c : Nat} {xs ys : Array Value} {i : Nat} {is : List Nat} {a b : Value} {r s : Bool} (ha : (part e xs (i * c)).run P w = .ok a w) (hb : (part e ys (i * c)).run P w = .ok b w) (he : (Op.equalIn d e a b).run P w = .ok r w) (hr : (Op.eqItems d e c xs ys is).run P w = .ok s w) : (Op.eqItems d e c xs ys (i :: is)).run P w = .ok (r && s) w := by
  simp only [Op.eqItems, Sem.run_bind, ha, hb, he, Result.andThen_ok]
  cases r
  · simp
  · simpa using hr
theorem eqi_last {P : Program} {w : World} {d : Nat} {e : TypeId} {c : Nat} {xs ys : Array Value} {i : Nat} {a b : Value} {r : Bool} (ha : (part e xs (i * c)).run P w = .ok a w) (hb : (part e ys (i * c)).run P w = .ok b w) (he : (Op.equalIn d e a b).run P w = .ok r w) : (Op.eqItems d e c xs ys [i]).run P w = .ok r w := by
  have h := eqi_cons (is := []) (s := true) ha hb he (by simp [Op.eqItems])
  rwa [Bool.and_true] at h
end Go.Proofs.Ytlmmlmmbnfcogaa.Own
