/- The timers' layer in plain lists: what may be, where a timer is put, who is due; both texts tell the same. Plain. -/
import Derived.Test.YtlaneipibmjmbaaQx3
import Derived.Test.YtlaneipibmjmbaaQx5
import Derived.Test.YtlaneipibmjmbaaQx6
import Derived.Test.YtlaneipibmjmbaaQx7
import Derived.Test.YtlaneipibmjmbaaQx8
import Derived.Test.YtlaneipibmjmbaaQx9
import Derived.Test.YtlaneipibmjmbaaQx4
import Derived.Test.YtlaneipibmjmbaaEvs
namespace Go.Proofs.Ytlaneipibmjmbaa.Q
open Go Go.RowKit Go.Proofs.YtlaneipibmjmbaaW.PrintWords Go.Proofs.YtlaneipibmjmbaaW.PrintLast Go.Proofs.YtlaneipibmjmbaaW.PrintMore Evs
set_option linter.unusedVariables false
set_option linter.unusedSimpArgs false
abbrev rdT (l : List S24) (i : Int) : S24 := rd_T24 l i
def MayL (l : List S24) : Prop := (∀ t ∈ l, 0 ≤ t.f0 ∧ t.f0 < 4611686018427387904 ∧ 1 ≤ t.f1) ∧ l.Pairwise (fun a b => aheadT a b = true) ∧ l.Pairwise (fun a b => a.f1 ≠ b.f1)
def mayB (l : List S24) : Bool := mayPre l l.length
theorem rdT_at (l : List S24) (i : Nat) (h : i < l.length) : rd_T24 l (i : Int) = l[i] := by
  unfold rd_T24
  simp [List.getD_eq_getElem?_getD, h]
theorem mayOk_iff (l : List S24) (i : Nat) (h : i < l.length) : mayOk l i = true ↔ (0 ≤ l[i].f0 ∧ l[i].f0 < 4611686018427387904 ∧ 1 ≤ l[i].f1) ∧ (∀ m (hm : m < i), l[m].f1 ≠ l[i].f1) ∧ (∀ (h0 : 0 < i), aheadT l[i - 1] l[i] = true) := by
  unfold mayOk
  rw [rdT_at l i h]
  simp only [Bool.and_eq_true, decide_eq_true_eq, Bool.not_eq_true', List.any_eq_false, Bool.or_eq_true]
  constructor
  · rintro ⟨⟨⟨⟨a, b⟩, c⟩, d⟩, e⟩
    refine ⟨⟨a, b, c⟩, fun m hm => ?_, fun h0 => ?_⟩
    · have := d l[m] (by rw [List.mem_take_iff_getElem]; exact ⟨m, by omega, rfl⟩)
      simpa using this
    · rcases e with e | e
      · omega
      · rwa [show ((i : Int) - 1) = ((i - 1 : Nat) : Int) by omega, rdT_at l (i - 1) (by omega)] at e
  · rintro ⟨⟨a, b, c⟩, d, e⟩
    refine ⟨⟨⟨⟨a, b⟩, c⟩, fun x hx => ?_⟩, ?_⟩
    · rw [List.mem_take_iff_getElem] at hx
      obtain ⟨m, hm, rfl⟩ := hx
      simpa using d m (by omega)
    · by_cases h0 : i = 0
      · exact .inl h0
      · refine .inr ?_
        rw [show ((i : Int) - 1) = ((i - 1 : Nat) : Int) by omega, rdT_at l (i - 1) (by omega)]
        exact e (by omega)
theorem may_iff (l : List S24) : mayB l = true ↔ MayL l := by
  unfold mayB
  constructor
  · intro h
    have hk := fun i (hi : i < l.length) => (mayOk_iff l i hi).1 (mayPre_ok _ h i hi)
    refine ⟨fun t ht => ?_, ?_, ?_⟩
    · obtain ⟨i, hi, rfl⟩ := List.mem_iff_getElem.1 ht
      exact (hk i hi).1
    · rw [List.pairwise_iff_getElem]
      intro i j hi hj hij
      obtain ⟨d, rfl⟩ : ∃ d, j = i + d + 1 := ⟨j - i - 1, by omega⟩
      have := may_sorted h d i hj
      rwa [rdT_at l i hi, rdT_at l (i + d + 1) hj] at this
    · rw [List.pairwise_iff_getElem]
      intro i j hi hj hij
      exact (hk j hj).2.1 i hij
  · rintro ⟨h1, h2, h3⟩
    rw [List.pairwise_iff_getElem] at h2 h3
    refine mayPre_of _ fun i hi => (mayOk_iff l i hi).2 ⟨h1 _ (List.getElem_mem hi), fun m hm => h3 m i (by omega) hi hm, fun h0 => h2 (i - 1) i (by omega) hi (by omega)⟩
theorem mayB_false {l : List S24} (h : ¬ MayL l) : mayB l = false := by
  cases hm : mayB l with
  | false => rfl
  | true => exact absurd ((may_iff l).1 hm) h
/-! ### the document's May -/
theorem rMay_bad {l : List S24} {i : Nat} (hi : i < l.length) (h : mayOk l i = false) : mayB l = false := mayPre_false h _ hi
theorem ahead_f (a b : S24) : shuttlecockref11_ahead.f a.f0 a.f1 b.f0 b.f1 = some (aheadT a b) := by
  unfold shuttlecockref11_ahead.f aheadT
  by_cases h1 : a.f0 < b.f0
  · simp [h1]
  · by_cases h2 : a.f0 = b.f0
    · simp [h2]
    · simp [h1, h2]
theorem fits_f (n : Int) : shuttlecockref04_Fits.f n = some (decide (0 ≤ n) && decide (n < 4611686018427387904)) := by
  unfold shuttlecockref04_Fits.f
  by_cases h1 : n ≥ 0
  · have : 0 ≤ n := h1
    simp [h1, this]
  · have : ¬ 0 ≤ n := h1
    simp [h1, this]
section
variable {l : List S24} (hl : l.length < 4611686018427387904)
include hl
theorem rMay_l1_no {r : Bool} {i : Nat} (hi : i < l.length) (hno : ∀ m (hm : m < i), l[m].f1 ≠ l[i].f1) (hn : Ev (fun k => shuttlecockref11_May.l0 k l ((i + 1 : Nat) : Int)) r) : ∀ (d j : Nat), j + d = i → Ev (fun k => shuttlecockref11_May.l1 k l i j) r
  | 0, j, hj => by
    refine Ev.step (fun k => shuttlecockref11_May.l1.eq_2 ..) ?_
    refine evNo (by omega) ?_
    rw [wrap_in (by omega) (by omega)]
    exact hn
  | d + 1, j, hj => by
    refine Ev.step (fun k => shuttlecockref11_May.l1.eq_2 ..) ?_
    refine evYes (by omega) (evYes (by omega) (evYes (by omega) (evYes (by omega) (evYes (by omega) (evNo ?_ ?_)))))
    · rw [rdT_at l j (by omega), rdT_at l i hi]
      exact hno j (by omega)
    · rw [wrap_in (by omega) (by omega)]
      exact rMay_l1_no hi hno hn d (j + 1) (by omega)
theorem rMay_l1_yes {i : Nat} (hi : i < l.length) : ∀ (d j : Nat), j + d = i → (∃ m, j ≤ m ∧ ∃ hm : m < i, l[m].f1 = l[i].f1) → Ev (fun k => shuttlecockref11_May.l1 k l i j) false
  | 0, j, hj, h => by
    obtain ⟨m, h1, h2, _⟩ := h
    omega
  | d + 1, j, hj, h => by
    refine Ev.step (fun k => shuttlecockref11_May.l1.eq_2 ..) ?_
    refine evYes (by omega) (evYes (by omega) (evYes (by omega) (evYes (by omega) (evYes (by omega) ?_))))
    by_cases c : l[j].f1 = l[i].f1
    · exact evYes (by rw [rdT_at l j (by omega), rdT_at l i hi]; exact c) (Ev.now _)
    · refine evNo (by rw [rdT_at l j (by omega), rdT_at l i hi]; exact c) ?_
      rw [wrap_in (by omega) (by omega)]
      refine rMay_l1_yes hi d (j + 1) (by omega) ?_
      obtain ⟨m, h1, h2, h3⟩ := h
      refine ⟨m, ?_, h2, h3⟩
      rcases Nat.lt_or_ge j m with h4 | h4
      · exact h4
      · obtain rfl : m = j := by omega
        exact absurd h3 c
theorem rMay_l0 : ∀ (d i : Nat), i + d = l.length → mayPre l i = true → Ev (fun k => shuttlecockref11_May.l0 k l i) (mayB l)
  | 0, i, hj, hm => by
    refine Ev.step (fun k => shuttlecockref11_May.l0.eq_2 ..) ?_
    refine evNo (by omega) ?_
    obtain rfl : i = l.length := by omega
    unfold mayB
    rw [hm]
    exact Ev.now _
  | d + 1, i, hj, hm => by
    have hi : i < l.length := by omega
    have hok := mayOk_iff l i hi
    refine Ev.step (fun k => shuttlecockref11_May.l0.eq_2 ..) ?_
    refine evYes (by omega) (evYes (by omega) ?_)
    refine Ev.bind (evC (fits_f _)) ?_
    rw [rdT_at l i hi]
    have bad : mayOk l i = false → Ev (fun k => shuttlecockref11_May.j1 k l i true) (mayB l) := fun hb => by
      rw [rMay_bad hi hb]
      exact Ev.step (fun k => shuttlecockref11_May.j1.eq_2 ..) (evYes rfl (Ev.now _))
    have no : ¬ ((0 ≤ l[i].f0 ∧ l[i].f0 < 4611686018427387904 ∧ 1 ≤ l[i].f1) ∧ (∀ m (hm : m < i), l[m].f1 ≠ l[i].f1) ∧ (∀ (h0 : 0 < i), aheadT l[i - 1] l[i] = true)) → mayOk l i = false := fun hn => by
      cases hq : mayOk l i with
      | false => rfl
      | true => exact absurd (hok.1 hq) hn
    have rest : (0 ≤ l[i].f0 ∧ l[i].f0 < 4611686018427387904 ∧ 1 ≤ l[i].f1) → (∀ (h0 : 0 < i), aheadT l[i - 1] l[i] = true) → Ev (fun k => shuttlecockref11_May.j1 k l i false) (mayB l) := fun hf ha => by
      refine Ev.step (fun k => shuttlecockref11_May.j1.eq_2 ..) (evNo (by simp) ?_)
      by_cases c : ∃ m, ∃ hm : m < i, l[m].f1 = l[i].f1
      · obtain ⟨m, hm', h3⟩ := c
        rw [rMay_bad hi (no (fun h => h.2.1 m hm' h3))]
        exact rMay_l1_yes hl hi i 0 (by omega) ⟨m, by omega, hm', h3⟩
      · have hno : ∀ m (hm : m < i), l[m].f1 ≠ l[i].f1 := fun m hm' h3 => c ⟨m, hm', h3⟩
        refine rMay_l1_no hl hi hno (rMay_l0 d (i + 1) (by omega) ?_) i 0 (by omega)
        unfold mayPre
        rw [hm, hok.2 ⟨hf, hno, ha⟩]
        rfl
    by_cases c1 : 0 ≤ l[i].f0 ∧ l[i].f0 < 4611686018427387904
    · refine evYes (by simp [c1]) ?_
      by_cases c2 : l[i].f1 < 1
      · exact evYes c2 (bad (no (fun h => by have := h.1.2.2; omega)))
      · refine evNo c2 ?_
        by_cases c3 : (i : Int) > 0
        · refine evYes c3 ?_
          rw [wrap_in (by omega) (by omega), show ((i : Int) - 1) = ((i - 1 : Nat) : Int) by omega]
          refine evYes (by omega) (evYes (by omega) ?_)
          rw [rdT_at l (i - 1) (by omega)]
          refine Ev.bind (evC (ahead_f _ _)) ?_
          cases hq : aheadT l[i - 1] l[i] with
          | true => exact rest ⟨c1.1, c1.2, by omega⟩ (fun _ => hq)
          | false => exact bad (no (fun h => by rw [h.2.2 (by omega)] at hq; cases hq))
        · exact evNo c3 (rest ⟨c1.1, c1.2, by omega⟩ (fun h0 => by omega))
    · refine evNo (by simpa using c1) ?_
      exact bad (no (fun h => c1 ⟨h.1.1, h.1.2.1⟩))
theorem ev_rMay : Ev (fun k => shuttlecockref11_May.f k l) (mayB l) := rMay_l0 hl l.length 0 (by omega) rfl
end
/-! ### put -/
theorem ahead_asymm {a b : S24} (h : aheadT a b = true) (k : aheadT b a = true) : False := by
  rw [aheadT_iff] at h k
  omega
theorem ahead_same {a b : S24} (h : aheadT a b = false) (k : aheadT b a = false) : a.f1 = b.f1 := by
  have h' : ¬ (a.f0 < b.f0 ∨ a.f0 = b.f0 ∧ a.f1 < b.f1) := fun q => by rw [(aheadT_iff a b).2 q] at h; cases h
  have k' : ¬ (b.f0 < a.f0 ∨ b.f0 = a.f0 ∧ b.f1 < a.f1) := fun q => by rw [(aheadT_iff b a).2 q] at k; cases k
  omega
def insAt (l : List S24) (t : S24) (i : Nat) : List S24 := l.take i ++ t :: l.drop i
def putR (l o : List S24) : List S24 × Bool := if mayB l && mayB o then (o, true) else ([], false)
theorem insAt_len (l : List S24) (t : S24) (i : Nat) (h : i ≤ l.length) : (insAt l t i).length = l.length + 1 := by
  simp [insAt]
  omega
theorem put_f {l : List S24} {t : S24} (h : wfT l = true) (ht : (Lit.int .i64 t.f1).wf = true) (hl : l.length < 8796093022207) : sleep_Put.f l t.f0 t.f1 = some (putR l (insAt l t (bsT l t))) := by
  unfold sleep_Put.f putR
  rw [if_pos ⟨h, ht, hl⟩]
  show (if mayB l = true then (if mayB (insT l t) = true then some (insT l t, true) else some ([], false)) else some ([], false)) = some (if mayB l && mayB (insT l t) then (insT l t, true) else ([], false))
  cases mayB l <;> cases mayB (insT l t) <;> rfl
theorem insAt_dup {l : List S24} {t : S24} (m i : Nat) (hi : i < l.length) (h : l[i].f1 = t.f1) : mayB (insAt l t m) = false := by
  refine mayB_false fun hm => ?_
  have h3 := hm.2.2
  unfold insAt at h3
  rw [List.pairwise_append, List.pairwise_cons] at h3
  rcases Nat.lt_or_ge i m with h1 | h1
  · exact h3.2.2 l[i] (by rw [List.mem_take_iff_getElem]; exact ⟨i, by omega, rfl⟩) t List.mem_cons_self h
  · exact h3.2.1.1 l[i] (by rw [List.mem_drop_iff_getElem]; exact ⟨i - m, by omega, by congr 1; omega⟩) h.symm
theorem bsT_spec (l : List S24) (t : S24) : (∀ k (hk : k < l.length), k < bsT l t → aheadT l[k] t = true) ∧ (∀ h : bsT l t < l.length, aheadT l[bsT l t] t = false) := by
  unfold bsT
  induction l with
  | nil => exact ⟨fun k hk => absurd hk (by simp), fun h => absurd h (by simp)⟩
  | cons x r ih =>
    cases hx : aheadT x t with
    | false =>
      refine ⟨fun k hk h => ?_, fun h => ?_⟩
      · simp [List.takeWhile_cons, hx] at h
      · simp [List.takeWhile_cons, hx]
    | true =>
      refine ⟨fun k hk h => ?_, fun h => ?_⟩
      · cases k with
        | zero => simpa using hx
        | succ k => exact ih.1 k (by simpa using hk) (by simpa [List.takeWhile_cons, hx] using h)
      · simp only [List.takeWhile_cons, hx, if_true, List.length_cons] at h ⊢
        exact ih.2 (by omega)
theorem put_same {l : List S24} {t : S24} {j : Nat} (hj : j ≤ l.length) (h1 : ∀ k (hk : k < l.length), k < j → aheadT t l[k] = false) (h2 : ∀ h : j < l.length, aheadT t l[j] = true) : putR l (insAt l t j) = putR l (insAt l t (bsT l t)) := by
  cases hm : mayB l with
  | false => simp [putR, hm]
  | true =>
    obtain ⟨g1, g2⟩ := bsT_spec l t
    have hb := bsT_le l t
    rcases Nat.lt_trichotomy j (bsT l t) with c | c | c
    · exact (ahead_asymm (g1 j (by omega) c) (h2 (by omega))).elim
    · rw [c]
    · have e := ahead_same (g2 (by omega)) (h1 _ (by omega) c)
      simp [putR, insAt_dup j _ (by omega) e, insAt_dup (bsT l t) _ (by omega) e]
section
variable {l : List S24} (hl : l.length < 4611686018427387904)
include hl
theorem rPut_j1 {o : List S24} (ho : o.length < 4611686018427387904) : Ev (fun k => shuttlecockref11_Put.j1 k l o) (putR l o) := by
  refine Ev.step (fun k => shuttlecockref11_Put.j1.eq_2 ..) ?_
  refine Ev.bind (ev_rMay hl) ?_
  unfold putR
  cases mayB l with
  | false => exact evNo (by simp) (Ev.now _)
  | true =>
    refine evYes rfl (Ev.bind (ev_rMay ho) ?_)
    cases mayB o with
    | false => exact evNo (by simp) (Ev.now _)
    | true => exact evYes rfl (Ev.now _)
theorem rPut_laid (t : S24) : ∀ (d i : Nat) (o : List S24), i + d = l.length → o.length + d < 8796093022208 → Ev (fun k => shuttlecockref11_Put.l0 k l o true i t.f0 t.f1) (putR l (o ++ l.drop i))
  | 0, i, o, hi, ho => by
    refine Ev.step (fun k => shuttlecockref11_Put.l0.eq_2 ..) (evNo (by omega) (evYes rfl ?_))
    rw [List.drop_of_length_le (by omega), List.append_nil]
    exact rPut_j1 hl (by omega)
  | d + 1, i, o, hi, ho => by
    refine Ev.step (fun k => shuttlecockref11_Put.l0.eq_2 ..) (evYes (by omega) (evYes rfl (evYes (by omega) (evYes (by omega) ?_))))
    rw [rdT_at l i (by omega), wrap_in (by omega) (by omega)]
    have := rPut_laid t d (i + 1) (o ++ [l[i]]) (by omega) (by simp; omega)
    rwa [List.append_assoc, List.singleton_append, ← List.drop_eq_getElem_cons (by omega)] at this
theorem rPut_un (t : S24) (hb : l.length + 1 < 8796093022208) : ∀ (d i : Nat), i + d = l.length → (∀ k (hk : k < l.length), k < i → aheadT t l[k] = false) →
    ∃ j, j ≤ l.length ∧ (∀ k (hk : k < l.length), k < j → aheadT t l[k] = false) ∧ (∀ h : j < l.length, aheadT t l[j] = true) ∧ Ev (fun k => shuttlecockref11_Put.l0 k l (l.take i) false i t.f0 t.f1) (putR l (insAt l t j))
  | 0, i, hi, h => by
    refine ⟨i, by omega, h, fun h => by omega, ?_⟩
    refine Ev.step (fun k => shuttlecockref11_Put.l0.eq_2 ..) (evNo (by omega) (evNo (by simp) (evYes (by simp; omega) ?_)))
    have e : insAt l t i = l.take i ++ [(⟨t.f0, t.f1⟩ : S24)] := by
      unfold insAt
      rw [List.drop_of_length_le (by omega)]
    rw [e]
    exact rPut_j1 hl (by simp; omega)
  | d + 1, i, hi, h => by
    have hil : i < l.length := by omega
    cases hq : aheadT t l[i] with
    | true =>
      refine ⟨i, by omega, h, fun _ => hq, ?_⟩
      refine Ev.step (fun k => shuttlecockref11_Put.l0.eq_2 ..) (evYes (by omega) (evNo (by simp) (evYes (by omega) ?_)))
      rw [rdT_at l i hil]
      refine Ev.bind (evC (ahead_f t l[i])) ?_
      rw [hq]
      refine evYes rfl (evYes (by simp; omega) (Ev.bind (evC rfl) (evYes (by simp; omega) ?_)))
      rw [wrap_in (by omega) (by omega)]
      have := rPut_laid hl t d (i + 1) (l.take i ++ [(⟨t.f0, t.f1⟩ : S24)] ++ [(⟨l[i].f0, l[i].f1⟩ : S24)]) (by omega) (by simp; omega)
      have e : l.take i ++ [(⟨t.f0, t.f1⟩ : S24)] ++ [(⟨l[i].f0, l[i].f1⟩ : S24)] ++ l.drop (i + 1) = insAt l t i := by
        unfold insAt
        rw [List.drop_eq_getElem_cons hil]
        simp only [List.append_assoc, List.singleton_append]
        rfl
      rwa [e] at this
    | false =>
      obtain ⟨j, hj, h1, h2, he⟩ := rPut_un t hb d (i + 1) (by omega) (fun k hk hki => by
        rcases Nat.lt_or_ge k i with c | c
        · exact h k hk c
        · obtain rfl : k = i := by omega
          exact hq)
      refine ⟨j, hj, h1, h2, ?_⟩
      refine Ev.step (fun k => shuttlecockref11_Put.l0.eq_2 ..) (evYes (by omega) (evNo (by simp) (evYes (by omega) ?_)))
      rw [rdT_at l i hil]
      refine Ev.bind (evC (ahead_f t l[i])) ?_
      rw [hq]
      refine evNo (by simp) (evYes (by simp; omega) ?_)
      rw [wrap_in (by omega) (by omega)]
      rwa [List.take_succ_eq_append_getElem hil] at he
theorem ev_rPut (t : S24) (hb : l.length + 1 < 8796093022208) : Ev (fun k => shuttlecockref11_Put.f k l t.f0 t.f1) (putR l (insAt l t (bsT l t))) := by
  obtain ⟨j, hj, h1, h2, he⟩ := rPut_un hl t hb l.length 0 (by omega) (fun k hk h => by omega)
  rw [← put_same hj h1 h2]
  exact he
end
/-! ### due, next -/
def isDue (now : Int) (t : S24) : Bool := decide (t.f0 ≤ now)
def dueL (l : List S24) (now : Int) : List Int × List S24 := if mayB l then ((l.filter (isDue now)).map (·.f1), l.filter (fun t => !isDue now t)) else ([], [])
theorem sorted_due {now : Int} : ∀ {l : List S24}, l.Pairwise (fun a b => aheadT a b = true) → l.takeWhile (isDue now) = l.filter (isDue now) ∧ l.dropWhile (isDue now) = l.filter (fun t => !isDue now t)
  | [], _ => ⟨rfl, rfl⟩
  | t :: r, h => by
    rw [List.pairwise_cons] at h
    have ih := sorted_due (now := now) h.2
    cases hd : isDue now t with
    | true => simp [List.takeWhile_cons, List.dropWhile_cons, List.filter_cons, hd, ih.1, ih.2]
    | false =>
      have hr : ∀ x ∈ r, isDue now x = false := fun x hx => by
        have h1 := (aheadT_iff t x).1 (h.1 x hx)
        unfold isDue at hd ⊢
        simp only [decide_eq_false_iff_not] at hd ⊢
        omega
      have e1 : r.filter (isDue now) = [] := List.filter_eq_nil_iff.2 (fun x hx => by rw [hr x hx]; simp)
      have e2 : r.filter (fun t => !isDue now t) = r := List.filter_eq_self.2 (fun x hx => by rw [hr x hx]; rfl)
      simp [List.takeWhile_cons, List.dropWhile_cons, List.filter_cons, hd, e1, e2]
theorem due_l0 (now : Int) : ∀ (m : List S24) (acc : List Int), acc.length + m.length < 8796093022207 → Ev (fun k => sleep_Due.l0 k m now acc) (acc ++ (m.takeWhile (isDue now)).map (·.f1), m.dropWhile (isDue now))
  | [], acc, h => by
    refine Ev.step (fun k => sleep_Due.l0.eq_2 ..) (evNo (by simp) (Ev.bind (evC (a := []) (by unfold slices_Clone_api_Timer.f; rw [if_pos (by simp)])) ?_))
    simpa using Ev.now _
  | t :: r, acc, h => by
    have e : rd_T24 (t :: r) 0 = t := rfl
    simp only [List.length_cons] at h
    refine Ev.step (fun k => sleep_Due.l0.eq_2 ..) (evYes (by simp only [List.length_cons]; omega) (evYes (by simp only [List.length_cons]; omega) ?_))
    rw [e]
    by_cases c : t.f0 ≤ now
    · have hd : isDue now t = true := decide_eq_true c
      refine evYes c (evYes (by omega) (evYes (by simp; omega) ?_))
      have := due_l0 now r (acc ++ [t.f1]) (by simp; omega)
      simpa [List.takeWhile_cons, List.dropWhile_cons, hd] using this
    · have hd : isDue now t = false := decide_eq_false c
      refine evNo c (Ev.bind (evC (a := t :: r) (by unfold slices_Clone_api_Timer.f; rw [if_pos (by simp; omega)])) ?_)
      simpa [List.takeWhile_cons, List.dropWhile_cons, hd] using Ev.now _
theorem may_f {l : List S24} (h : wfT l = true) : sleep_May.f l = some (mayB l) := by
  unfold sleep_May.f
  rw [if_pos h]
  rfl
theorem ev_Due {l : List S24} (h : wfT l = true) (hl : l.length < 8796093022207) (now : Int) : Ev (fun k => sleep_Due.f k l now) (dueL l now) := by
  refine Ev.bind (evC (may_f h)) ?_
  unfold dueL
  cases hm : mayB l with
  | false => exact evNo (by simp) (Ev.now _)
  | true =>
    have hs := sorted_due (now := now) ((may_iff l).1 hm).2.1
    refine evYes rfl ?_
    have := due_l0 now l [] (by simpa using hl)
    rw [hs.1, hs.2] at this
    simpa using this
theorem rDue_l0 {l : List S24} (hl : l.length < 8796093022207) (now : Int) (hm : mayB l = true) : ∀ (d i : Nat), i + d = l.length → Ev (fun k => shuttlecockref11_Due.l0 k l now (((l.take i).filter (isDue now)).map (·.f1)) ((l.take i).filter (fun t => !isDue now t)) i) (dueL l now)
  | 0, i, hi => by
    refine Ev.step (fun k => shuttlecockref11_Due.l0.eq_2 ..) (evNo (by omega) ?_)
    refine Ev.step (fun k => shuttlecockref11_Due.j1.eq_2 ..) (evNo (by simp) ?_)
    unfold dueL
    rw [hm, List.take_of_length_le (by omega)]
    exact Ev.now _
  | d + 1, i, hi => by
    have hil : i < l.length := by omega
    have f1 : (((l.take i).filter (isDue now)).map (·.f1)).length < 17592186044416 := by
      have := List.length_filter_le (isDue now) (l.take i)
      simp only [List.length_map, List.length_take] at this ⊢
      omega
    have f2 : ((l.take i).filter (fun t => !isDue now t)).length < 8796093022208 := by
      have := List.length_filter_le (fun t => !isDue now t) (l.take i)
      simp only [List.length_take] at this ⊢
      omega
    have ih := rDue_l0 hl now hm d (i + 1) (by omega)
    rw [List.take_succ_eq_append_getElem hil, List.filter_append, List.filter_append, List.map_append] at ih
    refine Ev.step (fun k => shuttlecockref11_Due.l0.eq_2 ..) (evYes (by omega) (Ev.bind (ev_rMay (by omega)) ?_))
    rw [hm]
    refine Ev.step (fun k => shuttlecockref11_Due.j1.eq_2 ..) (evYes rfl (evYes (by omega) (evYes (by omega) ?_)))
    rw [rdT_at l i hil, wrap_in (by omega) (by omega)]
    by_cases c : l[i].f0 ≤ now
    · have hd : isDue now l[i] = true := decide_eq_true c
      refine evYes c (evYes f1 ?_)
      simpa [List.filter_cons, hd] using ih
    · have hd : isDue now l[i] = false := decide_eq_false c
      refine evNo c (evYes f2 ?_)
      simpa [List.filter_cons, hd] using ih
theorem ev_rDue {l : List S24} (hl : l.length < 8796093022207) (now : Int) : Ev (fun k => shuttlecockref11_Due.f k l now) (dueL l now) := by
  cases hm : mayB l with
  | true => exact rDue_l0 hl now hm l.length 0 (by omega)
  | false =>
    unfold dueL
    rw [hm]
    cases l with
    | nil => exact Ev.step (fun k => shuttlecockref11_Due.l0.eq_2 ..) (evNo (by simp) (Ev.step (fun k => shuttlecockref11_Due.j1.eq_2 ..) (evNo (by simp) (Ev.now _))))
    | cons t r =>
      refine Ev.step (fun k => shuttlecockref11_Due.l0.eq_2 ..) (evYes (by simp only [List.length_cons]; omega) (Ev.bind (ev_rMay (by omega)) ?_))
      rw [hm]
      exact Ev.step (fun k => shuttlecockref11_Due.j1.eq_2 ..) (evNo (by simp) (Ev.now _))
def nextL (l : List S24) : Int := if l.length = 0 then -1 else if mayB l then (rdT l 0).f0 else -1
theorem next_f {l : List S24} (h : wfT l = true) : sleep_Next.f l = some (nextL l) := by
  unfold sleep_Next.f nextL
  rw [may_f h]
  by_cases c : l.length = 0
  · rw [if_pos (by omega), if_pos c]
  · rw [if_neg (by omega), if_neg c]
    simp only [Option.bind_some]
    cases mayB l with
    | false => simp
    | true =>
      rw [if_pos rfl, if_pos rfl, if_pos (by omega)]
theorem ev_rNext {l : List S24} (hl : l.length < 8796093022207) : Ev (fun k => shuttlecockref11_Next.f k l) (nextL l) := by
  unfold nextL
  by_cases c : l.length = 0
  · rw [if_pos c]
    exact evYes (by omega) (Ev.now _)
  · rw [if_neg c]
    refine evNo (by omega) (Ev.bind (ev_rMay (by omega)) ?_)
    cases mayB l with
    | false => exact evNo (by simp) (Ev.now _)
    | true => exact evYes rfl (evYes (by omega) (Ev.now _))
theorem ev_Same {l : List S24} (hl : l.length < 4611686018427387904) : Ev (fun k => shuttlecockref11_Same.f k l l) true := by
  refine evYes rfl ?_
  have key : ∀ (d i : Nat), i + d = l.length → Ev (fun k => shuttlecockref11_Same.l0 k l l i) true := by
    intro d
    induction d with
    | zero => exact fun i hi => Ev.step (fun k => shuttlecockref11_Same.l0.eq_2 ..) (evNo (by omega) (Ev.now _))
    | succ d ih =>
      intro i hi
      refine Ev.step (fun k => shuttlecockref11_Same.l0.eq_2 ..) (evYes (by omega) (evYes (by omega) (evYes (by omega) (evNo (by simp) ?_))))
      rw [wrap_in (by omega) (by omega)]
      exact ih (i + 1) (by omega)
  exact key l.length 0 (by omega)
theorem ev_Ints {l : List Int} (hl : l.length < 4611686018427387904) : Ev (fun k => shuttlecockref01_Ints.f k l l) true := by
  refine evYes rfl ?_
  have key : ∀ (d i : Nat), i + d = l.length → Ev (fun k => shuttlecockref01_Ints.l0 k l l i) true := by
    intro d
    induction d with
    | zero => exact fun i hi => Ev.step (fun k => shuttlecockref01_Ints.l0.eq_2 ..) (evNo (by omega) (Ev.now _))
    | succ d ih =>
      intro i hi
      refine Ev.step (fun k => shuttlecockref01_Ints.l0.eq_2 ..) (evYes (by omega) (evYes (by omega) (evYes (by omega) (evYes rfl ?_))))
      rw [wrap_in (by omega) (by omega)]
      exact ih (i + 1) (by omega)
  exact key l.length 0 (by omega)
theorem ev_fixed : Ev (fun k => shuttlecocklaw11_fixed.f k) true := Ev.of shuttlecocklaw11_fixed.mono (k := 30) (by decide +kernel)
end Go.Proofs.Ytlaneipibmjmbaa.Q
