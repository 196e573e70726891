/- Words of my own beside the print's: a call through a function value; copy of elements of several cells; a call of the model's own entry. For every program. -/
import Derived.Test.YtlmmlmmbnfcogaaVw
import Derived.Laws.CopyRow
import Derived.Laws.CopyOwn
import Derived.Lib.AppendZerosOnto
import Derived.Lib.AppendZeros
import Derived.Lib.Overlaps
import Derived.Laws.Externs
import Derived.WalkKit
import Derived.ChangeKeysEq
set_option linter.unusedVariables false
namespace Go.Proofs.Ytlmmlmmbnfcogaa.Own
open Go Go.RowKit Go.Proofs.YtlmmlmmbnfcogaaW.PrintWords Go.Proofs.YtlmmlmmbnfcogaaW.PrintLast
section
variable {P : Program} {ops : Array Oper} {Q : Exit → Act → World → Prop}
/-- A call that panics, by its contract: in a region that draws. -/
theorem goesP_ {oi : Oper} {N : Option Tmp} {a : Act} {w : World} {K : Act → World → Prop} {f : FuncId} {fn : Func} {as : Array Operand} {ts : Array TypeId} (hf : P.funcs[f]? = some fn) (hname : (fn.name == "runtime.NumGoroutine") = false) (hb : fn.body.isSome = true) (args : Array Value)
    (hw : Region.wanted oi (yielded ops a.tmps) = true) (hop : oi.op = .call { callee := .value (.func f), args := as, argTypes := ts }) (hargs : as.map a.eval = args)
    (h : Calls P f args w fun e w' => ∃ c, e = .panicked c ∧ Q (.panic c) a w') : if Region.wanted oi (yielded ops a.tmps) = true then Oper.wp P oi a w K Q else K (a.put N undef) w := by
  rw [if_pos hw]
  have he := enters_ hf hname hb args w
  have hrun : (execOp a.eval oi).run P w = .ok (.enter f args) w := by
    unfold execOp
    simp [hop, resolve, Deferred.ofValue, invoke, Act.eval, hargs, he]
  unfold Oper.wp
  rw [hrun, Oper.upon_enter]
  refine h.mono fun e w'' hh => ?_
  obtain ⟨c, rfl, hk⟩ := hh
  exact hk
end
section
variable {P : Program}
end
section
variable {P : Program} {ops : Array Oper} {rest : List Oper} {o : Oper} {a : Act} {Q : Exit → Act → World → Prop}
end
/-! ### operations of a region that are left out, several at once -/
def anysT (T : Bool × List (List Nat × List Nat)) : List Bool → List Nat → List Bool → Bool
  | l, [], l' => l == l'
  | l, i :: r, l' => anyT T l (l.set i true) i && anysT T (l.set i true) r l'
def unw (ops : Array Oper) : List Nat → List (Option Tmp) → Act → Bool
  | [], [], _ => true
  | i :: r, N :: Ns, a => (match ops[i]? with
    | some o => (o.dst == N) && !Region.wanted o (yielded ops a.tmps)
    | none => false) && unw ops r Ns (a.put N undef)
  | _, _, _ => false
def putU : List (Option Tmp) → Act → Act
  | [], a => a
  | N :: Ns, a => putU Ns (a.put N undef)
section
variable {P : Program} {md : Region.Mode} {ops : Array Oper} {Q : Exit → Act → World → Prop} {S : World → Prop} {ds : List Nat} {T : Bool × List (List Nat × List Nat)}
theorem skips_ (hT : rtab md ops = T) : ∀ (is : List Nat) (Ns : List (Option Tmp)) (n m : Nat) (l l' : Array Bool) (a a' : Act) (w : World) (hm : m = n + is.length) (hc : anysT T l.toList is l'.toList = true)
    (hQ : ∀ c t a w, Q (.panic c) (a.put (some t) undef) w → Q (.panic c) a w) (hw : unw ops is Ns a = true) (ha : putU Ns a = a') (h : wpAnyLast P md ops Q S ds n l' a' w), wpAnyLast P md ops Q S ds m l a w
  | [], [], n, m, l, l', a, a', w, hm, hc, hQ, hw, ha, h => by
    have e1 : l = l' := by
      simp only [anysT, beq_iff_eq] at hc
      exact Array.toList_inj.1 hc
    subst e1
    subst ha
    subst hm
    exact h
  | [], _ :: _, _, _, _, _, _, _, _, _, _, _, hw, _, _ => by simp [unw] at hw
  | _ :: _, [], _, _, _, _, _, _, _, _, _, _, hw, _, _ => by simp [unw] at hw
  | i :: r, N :: Ns, n, m, l, l', a, a', w, hm, hc, hQ, hw, ha, h => by
    simp only [anysT, Bool.and_eq_true] at hc
    simp only [unw, Bool.and_eq_true] at hw
    cases ho : ops[i]? with
    | none => rw [ho] at hw; simp at hw
    | some oi =>
      rw [ho] at hw
      simp only [Bool.and_eq_true, beq_iff_eq, Bool.not_eq_true'] at hw
      obtain ⟨⟨hd, hwt⟩, hrest⟩ := hw
      have e : m = (n + r.length) + 1 := by rw [hm, List.length_cons]; omega
      rw [e]
      have hset : (l.setIfInBounds i true).toList = l.toList.set i true := by simp
      exact pure_ (i := i) (N := N) (v := undef) (l.setIfInBounds i true) ho hd (any_of hT (by rw [hset]; exact hc.1)) (fun c b W h => (match hd : oi.dst, h with | none, h => h | some t, h => hQ c t b W h)) (Or.inr ⟨hwt, rfl⟩) rfl
        (skips_ hT r Ns n (n + r.length) _ l' _ a' w rfl (by rw [hset]; exact hc.2) hQ hrest ha h)
end
/-! ### the two steps that a region that draws takes most, in few words -/
section
variable {P : Program} {md : Region.Mode} {ops : Array Oper} {Q : Exit → Act → World → Prop} {S : World → Prop} {ds : List Nat} {T : Bool × List (List Nat × List Nat)} {B : List Nat}
theorem pr_ (i : Nat) (N : Option Tmp) {oi : Oper} {v : Value} {fuel : Nat} {l : Array Bool} {a a' : Act} {w : World} (l' : Array Bool) (hT : Aside0 (rtab md ops = T))
    (hi : ops[i]? = some oi := by rfl) (hN : oi.dst = N := by rfl) (hc : anyT T l.toList l'.toList i = true := by kernel_rfl)
    (hQ : ∀ c a w, Q (.panic c) (a.put oi.dst v) w → Q (.panic c) a w := by exact fun _ _ _ h => h)
    (hw : Region.wanted oi (yielded ops a.tmps) = true := by rfl)
    (hy : ∀ w, (execOp a.eval oi).run P w = .ok (.value v) w := by (intro w'; go_simp; with_reducible rfl))
    (ha : a.put N v = a' := by (simp only [Act.put, List.setIfInBounds_toArray, List.set_cons_zero, List.set_cons_succ, i64_w, i32_w]; rfl))
    (h : wpAnyLast P md ops Q S ds fuel l' a' w) : wpAnyLast P md ops Q S ds (fuel + 1) l a w :=
  pure_ l' hi hN (any_of hT.out hc) hQ (Or.inl ⟨hw, hy⟩) ha h
theorem tk_ (i : Nat) (N : Option Tmp) {oi : Oper} {v : Value} {fuel : Nat} {l : Array Bool} {a a' : Act} {w : World} (l' : Array Bool) (hT : Aside0 (rtab md ops = T)) (hB : Aside0 (waitsOk T.2 B = true)) (hS : S w)
    (hi : ops[i]? = some oi := by rfl) (hN : oi.dst = N := by rfl) (hc : takeW T B ds l.toList l'.toList i = true := by kernel_rfl)
    (hQ : ∀ c a w, Q (.panic c) (a.put oi.dst v) w → Q (.panic c) a w := by exact fun _ _ _ h => h)
    (hw : Region.wanted oi (yielded ops a.tmps) = true := by rfl)
    (hy : ∀ w, S w → (execOp a.eval oi).run P w = .ok (.value v) w)
    (ha : a.put N v = a' := by (simp only [Act.put, List.setIfInBounds_toArray, List.set_cons_zero, List.set_cons_succ, i64_w, i32_w]; rfl))
    (h : wpAnyLast P md ops Q S ds fuel l' a' w) : wpAnyLast P md ops Q S ds (fuel + 1) l a w :=
  take_ l' hi hN (take_ofW hT.out hB.out hc) hQ (Or.inl ⟨hw, hy⟩) hS ha h
end
/-- '==' of arrays, item by item. -/
theorem eqi_cons {P : Program} {w : World} {d : Nat} {e : TypeId} {c : Nat} {xs ys : Array Value} {i : Nat} {is : List Nat} {a b : Value} {r s : Bool} (ha : (part e xs (i * c)).run P w = .ok a w) (hb : (part e ys (i * c)).run P w = .ok b w) (he : (Op.equalIn d e a b).run P w = .ok r w) (hr : (Op.eqItems d e c xs ys is).run P w = .ok s w) : (Op.eqItems d e c xs ys (i :: is)).run P w = .ok (r && s) w := by
  simp only [Op.eqItems, Sem.run_bind, ha, hb, he, Result.andThen_ok]
  cases r
  · simp
  · simpa using hr
theorem eqi_last {P : Program} {w : World} {d : Nat} {e : TypeId} {c : Nat} {xs ys : Array Value} {i : Nat} {a b : Value} {r : Bool} (ha : (part e xs (i * c)).run P w = .ok a w) (hb : (part e ys (i * c)).run P w = .ok b w) (he : (Op.equalIn d e a b).run P w = .ok r w) : (Op.eqItems d e c xs ys [i]).run P w = .ok r w := by
  have h := eqi_cons (is := []) (s := true) ha hb he (by simp [Op.eqItems])
  rwa [Bool.and_true] at h
end Go.Proofs.Ytlmmlmmbnfcogaa.Own
