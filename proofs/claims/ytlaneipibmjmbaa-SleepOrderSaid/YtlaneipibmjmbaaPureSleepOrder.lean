/- Timers put in any order are the same; who is due up to a time, and then up to a later one, is, one behind the other, who is due up to the later one; none is due too early, none is left. For every input. -/
import Derived.Test.YtlaneipibmjmbaaQx10
import Derived.Test.YtlaneipibmjmbaaSleepP
set_option linter.unusedVariables false
set_option linter.unusedSimpArgs false
namespace Go.Proofs.Ytlaneipibmjmbaa.Pure
open Go Go.RowKit Go.Proofs.Ytlaneipibmjmbaa.Q Go.Proofs.YtlaneipibmjmbaaW.PrintWords Go.Proofs.YtlaneipibmjmbaaW.PrintLast Evs
theorem insAt_perm (l : List S24) (t : S24) (i : Nat) : (insAt l t i).Perm (t :: l) := by
  unfold insAt
  have := @List.perm_middle S24 t (l.take i) (l.drop i)
  rwa [List.take_append_drop] at this
theorem may_unique {x y : List S24} (hx : MayL x) (hy : MayL y) (h : x.Perm y) : x = y :=
  List.Perm.eq_of_pairwise (le := fun a b => aheadT a b = true) (fun a b _ _ h1 h2 => (ahead_asymm h1 h2).elim) hx.2.1 hy.2.1 h
theorem may_filter {x : List S24} (h : MayL x) (p : S24 → Bool) : MayL (x.filter p) :=
  ⟨fun t ht => h.1 t ((List.mem_filter.1 ht).1), h.2.1.filter _, h.2.2.filter _⟩
theorem wf_perm {x y : List S24} (h : x.Perm y) (hy : wfT y = true) : wfT x = true :=
  List.all_eq_true.2 (fun t ht => List.all_eq_true.1 hy t (h.mem_iff.1 ht))
theorem wf_filter {x : List S24} (h : wfT x = true) (p : S24 → Bool) : wfT (x.filter p) = true :=
  List.all_eq_true.2 (fun t ht => List.all_eq_true.1 h t ((List.mem_filter.1 ht).1))
theorem due_two {a b : Int} (hab : a ≤ b) : ∀ {x : List S24}, x.Pairwise (fun p q => aheadT p q = true) → x.filter (isDue b) = x.filter (isDue a) ++ (x.filter (fun t => !isDue a t)).filter (isDue b)
  | [], _ => rfl
  | t :: r, h => by
    rw [List.pairwise_cons] at h
    have ih := due_two hab h.2
    cases ha : isDue a t with
    | true =>
      have hb : isDue b t = true := by
        unfold isDue at *
        simp only [decide_eq_true_eq] at *
        omega
      simp only [List.filter_cons, ha, hb, if_true, Bool.not_true, Bool.false_eq_true, if_false, List.cons_append, ih]
    | false =>
      have hr : ∀ q ∈ r, isDue a q = false := fun q hq => by
        have h1 := (aheadT_iff t q).1 (h.1 q hq)
        unfold isDue at ha ⊢
        simp only [decide_eq_false_iff_not] at ha ⊢
        omega
      have e1 : r.filter (isDue a) = [] := List.filter_eq_nil_iff.2 (fun q hq => by rw [hr q hq]; simp)
      have e2 : r.filter (fun t => !isDue a t) = r := List.filter_eq_self.2 (fun q hq => by rw [hr q hq]; rfl)
      have e3 : (t :: r).filter (isDue a) = [] := by rw [List.filter_cons, if_neg (by rw [ha]; simp), e1]
      have e4 : (t :: r).filter (fun t => !isDue a t) = t :: r := by rw [List.filter_cons, if_pos (by rw [ha]; rfl), e2]
      rw [e3, e4, List.nil_append]
theorem rest_two {a b : Int} (hab : a ≤ b) (x : List S24) : (x.filter (fun t => !isDue a t)).filter (fun t => !isDue b t) = x.filter (fun t => !isDue b t) := by
  rw [List.filter_filter]
  apply List.filter_congr
  intro t _
  unfold isDue
  by_cases h : t.f0 ≤ b
  · simp [h]
  · simp [h, show ¬ t.f0 ≤ a by omega]
theorem len_two (p : S24 → Bool) : ∀ x : List S24, (x.filter p).length + (x.filter (fun t => !p t)).length = x.length
  | [] => rfl
  | t :: r => by
    have := len_two p r
    cases h : p t <;> simp [List.filter_cons, h] <;> omega
theorem dueL_may {x : List S24} (h : MayL x) (now : Int) : dueL x now = ((x.filter (isDue now)).map (·.f1), x.filter (fun t => !isDue now t)) := by
  unfold dueL
  rw [(may_iff x).2 h, if_pos rfl]
theorem SleepOrder : shuttlecocklaw11_SleepOrder.Pure := by
  intro l a b hl hwa hwb
  have hw : wfT l = true := List.all_eq_true.2 (fun x hx => (hl.1 x hx).2)
  refine Ev.rounds (g := fun k => shuttlecocklaw11_SleepOrder.f k l a b) ?_
  have out : Ev (fun k => shuttlecocklaw11_SleepOrder.j0 k l a b true) true := Ev.step (fun k => shuttlecocklaw11_SleepOrder.j0.eq_2 ..) (evYes rfl (Ev.bind ev_fixed (Ev.now _)))
  refine Ev.bind ev_fixed (evYes rfl ?_)
  by_cases c1 : (l.length : Int) > 60
  · exact evYes c1 out
  refine evNo c1 ?_
  by_cases c2 : a > b
  · rw [decide_eq_true c2]
    exact out
  rw [decide_eq_false c2]
  refine Ev.step (fun k => shuttlecocklaw11_SleepOrder.j0.eq_2 ..) (evNo (by simp) ?_)
  have hab : a ≤ b := by omega
  -- behind the putting
  have fin : ∀ x y : List S24, MayL x → x.Perm l → y = x → Ev (fun k => shuttlecocklaw11_SleepOrder.l0 k l a b x y (l.length : Int)) true := by
    intro x y hm hp hy
    subst hy
    have hlen : y.length = l.length := hp.length_eq
    have hwx : wfT y = true := wf_perm hp hw
    have hM2 := may_filter hm (fun t => !isDue a t)
    have hf1 := List.length_filter_le (isDue a) y
    have hf2 := List.length_filter_le (fun t => !isDue a t) y
    have hf3 := List.length_filter_le (fun t => !isDue b t) (y.filter (fun t => !isDue a t))
    have hf4 := List.length_filter_le (isDue b) (y.filter (fun t => !isDue a t))
    have hf5 := List.length_filter_le (isDue b) y
    refine Ev.step (fun k => shuttlecocklaw11_SleepOrder.l0.eq_2 ..) (evNo (by omega) ?_)
    refine Ev.bind (ev_Due hwx (by omega) a) ?_
    rw [dueL_may hm]
    refine Ev.bind (ev_Due (wf_filter hwx _) (by omega) b) ?_
    rw [dueL_may hM2]
    refine Ev.bind (ev_Due hwx (by omega) b) ?_
    rw [dueL_may hm]
    simp only
    have key : ∀ (d i : Nat), i + d = ((y.filter (fun t => !isDue a t)).filter (fun t => !isDue b t)).length →
        Ev (fun k => shuttlecocklaw11_SleepOrder.l1 k l b y y ((y.filter (isDue a)).map (·.f1)) (((y.filter (fun t => !isDue a t)).filter (isDue b)).map (·.f1)) ((y.filter (fun t => !isDue a t)).filter (fun t => !isDue b t)) ((y.filter (isDue b)).map (·.f1)) (y.filter (fun t => !isDue b t)) i) true := by
      intro d
      induction d with
      | zero =>
        intro i hi
        refine Ev.step (fun k => shuttlecocklaw11_SleepOrder.l1.eq_2 ..) (evNo (by omega) ?_)
        refine Ev.bind (ev_Same (by omega)) (evYes rfl (evYes (by omega) ?_))
        refine Ev.bind (evC rfl) (evYes (by simp only [List.length_nil, List.length_map]; omega) ?_)
        refine Ev.bind (evC rfl) (evYes (by simp only [List.nil_append, List.length_map]; omega) ?_)
        rw [List.nil_append, ← List.map_append, ← due_two hab hm.2.1, rest_two hab]
        refine Ev.bind (ev_Ints (by rw [List.length_map]; omega)) (evYes rfl ?_)
        refine Ev.bind (ev_Same (by rw [rest_two hab] at hf3; omega)) (evYes rfl ?_)
        have h2 := len_two (isDue b) y
        rw [List.length_map, wrap_in (by omega) (by omega)]
        have e : (((y.filter (isDue b)).length : Int) + ((y.filter (fun t => !isDue b t)).length : Int)) = (l.length : Int) := by omega
        rw [e]
        simpa using Ev.now (α := Bool) true
      | succ d ih =>
        intro i hi
        refine Ev.step (fun k => shuttlecocklaw11_SleepOrder.l1.eq_2 ..) (evYes (by omega) (evYes (by omega) (evNo ?_ ?_)))
        · rw [rdT_at _ i (by omega)]
          have := List.getElem_mem (show i < ((y.filter (fun t => !isDue a t)).filter (fun t => !isDue b t)).length by omega)
          have h3 := (List.mem_filter.1 this).2
          unfold isDue at h3
          rw [Bool.not_eq_true'] at h3
          exact of_decide_eq_false h3
        · rw [wrap_in (by omega) (by omega)]
          exact ih (i + 1) (by omega)
    exact key _ 0 (Nat.zero_add _)
  have step : ∀ {x : List S24} {t : S24}, (Lit.int .i64 t.f1).wf = true → wfT x = true → x.length < 8796093022207 → ∃ o r, sleep_Put.f x t.f0 t.f1 = some (o, r) ∧ (r = true → MayL o ∧ o.Perm (t :: x)) := by
    intro x t ht hx hlx
    refine ⟨(putR x (insAt x t (bsT x t))).1, (putR x (insAt x t (bsT x t))).2, put_f hx ht hlx, fun h => ?_⟩
    cases h1 : mayB x && mayB (insAt x t (bsT x t)) with
    | false =>
      unfold putR at h
      rw [h1] at h
      exact absurd h (by simp)
    | true =>
      have h2 := (Bool.and_eq_true _ _ ▸ h1 : mayB x = true ∧ mayB (insAt x t (bsT x t)) = true)
      have e : (putR x (insAt x t (bsT x t))).1 = insAt x t (bsT x t) := by
        unfold putR
        rw [h1]
        rfl
      rw [e]
      exact ⟨(may_iff _).1 h2.2, insAt_perm x t _⟩
  have loop : ∀ (d i : Nat) (x y : List S24), i + d = l.length → MayL x → MayL y → x.Perm (l.take i) → y.Perm (l.drop (l.length - i)) → Ev (fun k => shuttlecocklaw11_SleepOrder.l0 k l a b x y i) true := by
    intro d
    induction d with
    | zero =>
      intro i x y hi hx hy px py
      obtain rfl : i = l.length := by omega
      rw [List.take_length] at px
      rw [Nat.sub_self, List.drop_zero] at py
      exact fin x y hx px (may_unique hy hx (py.trans px.symm))
    | succ d ih =>
      intro i x y hi hx hy px py
      have hil : i < l.length := by omega
      have lx : x.length = i := by rw [px.length_eq, List.length_take]; omega
      have ly : y.length = i := by rw [py.length_eq, List.length_drop]; omega
      have hwm : ∀ m (hm : m < l.length), (Lit.int .i64 l[m].f1).wf = true := fun m hm => (hl.1 _ (List.getElem_mem hm)).2
      have hwx : wfT x = true := wf_perm px (List.all_eq_true.2 (fun t ht => List.all_eq_true.1 hw t (List.mem_of_mem_take ht)))
      have hwy : wfT y = true := wf_perm py (List.all_eq_true.2 (fun t ht => List.all_eq_true.1 hw t (List.mem_of_mem_drop ht)))
      refine Ev.step (fun k => shuttlecocklaw11_SleepOrder.l0.eq_2 ..) (evYes (by omega) (evYes (by omega) ?_))
      rw [rdT_at l i hil, wrap_in (a := (l.length : Int) - 1) (by omega) (by omega), wrap_in (a := (l.length : Int) - 1 - i) (by omega) (by omega), show (l.length : Int) - 1 - (i : Int) = ((l.length - 1 - i : Nat) : Int) by omega]
      obtain ⟨o, r, ho, hro⟩ := step (x := x) (t := l[i]) (hwm i hil) hwx (by omega)
      refine Ev.bind (evC ho) (evYes (by omega) (evYes (by omega) ?_))
      rw [rdT_at l (l.length - 1 - i) (by omega)]
      obtain ⟨o2, r2, ho2, hro2⟩ := step (x := y) (t := l[l.length - 1 - i]) (hwm _ (by omega)) hwy (by omega)
      refine Ev.bind (evC ho2) ?_
      cases r with
      | false => exact evNo (by simp) (Ev.now _)
      | true =>
        refine evYes rfl ?_
        cases r2 with
        | false => exact evNo (by simp) (Ev.now _)
        | true =>
          refine evYes rfl ?_
          rw [wrap_in (by omega) (by omega)]
          obtain ⟨m1, p1⟩ := hro rfl
          obtain ⟨m2, p2⟩ := hro2 rfl
          refine ih (i + 1) o o2 (by omega) m1 m2 ?_ ?_
          · rw [List.take_succ_eq_append_getElem hil]
            exact (p1.trans (px.cons _)).trans (List.perm_append_singleton _ _).symm
          · rw [show l.length - (i + 1) = l.length - 1 - i by omega, List.drop_eq_getElem_cons (show l.length - 1 - i < l.length by omega), show l.length - 1 - i + 1 = l.length - i by omega]
            exact p2.trans (py.cons _)
  exact loop l.length 0 [] [] (by omega) ⟨by simp, by simp, by simp⟩ ⟨by simp, by simp, by simp⟩ (by simp) (by simp)
end Go.Proofs.Ytlaneipibmjmbaa.Pure
