/- A snap's bytes, by plain lists; what the printed functions of snap come to. For every input within the machine's sizes. -/
import Derived.Test.YthfdhoegboeaeaaQx5
import Derived.Test.YthfdhoegboeaeaaQx6
import Derived.Test.YthfdhoegboeaeaaQx7
import Derived.Test.YthfdhoegboeaeaaWireN
import Derived.Test.YthfdhoegboeaeaaWire2
import Derived.Test.YthfdhoegboeaeaaSnapA
set_option linter.unusedVariables false
set_option linter.unusedSectionVars false
set_option linter.unusedSimpArgs false
namespace Go.Proofs.Ythfdhoegboeaeaa.SnapB
open Go Go.RowKit Go.Proofs.Ythfdhoegboeaeaa.Q Go.Proofs.YthfdhoegboeaeaaW.PrintWords Go.Proofs.YthfdhoegboeaeaaW.PrintLast Go.Proofs.YthfdhoegboeaeaaW.PrintMore ShCore SnapA

/-! ### read -/
def dPs (s : List UInt8) : Nat → Rd → List PS × Rd
  | 0, r => ([], r)
  | n + 1, r => (⟨(rdNum s r).1, (rdNum s (rdNum s r).2).1⟩ :: (dPs s n (rdNum s (rdNum s r).2).2).1, (dPs s n (rdNum s (rdNum s r).2).2).2)
def r4 (s : List UInt8) (r : Rd) : Rd := (rdNum s (rdNum s (rdNum s (rdNum s r).2).2).2).2
def dGs (s : List UInt8) : Nat → Rd → List GS × Rd
  | 0, r => ([], r)
  | n + 1, r => (⟨(rdNum s r).1, (rdNum s (rdNum s r).2).1, (rdNum s (rdNum s (rdNum s r).2).2).1, (rdNum s (rdNum s (rdNum s (rdNum s r).2).2).2).1⟩ :: (dGs s n (r4 s r)).1, (dGs s n (r4 s r)).2)
abbrev Res := Int × List PS × List GS × Int
def bad (e : Int) : Res := (0, [], [], e)
def decG (s : List UInt8) (a : Int) (ps : List PS) (g : List GS) (r : Rd) : Res :=
  if r.e = 0 then (if rdDone s r = true then (if mayAll a ps g = true then (a, ps, g, 0) else bad 80) else bad 80) else bad r.e
def decM (s : List UInt8) (a : Int) (ps : List PS) (m : Int × Rd) : Res := if m.1 > 1000 then bad 80 else decG s a ps (dGs s m.1.toNat m.2).1 (dGs s m.1.toNat m.2).2
def decN (s : List UInt8) (a : Int) (n : Int × Rd) : Res := if n.1 > 64 then bad 80 else decM s a (dPs s n.1.toNat n.2).1 (rdNum s (dPs s n.1.toNat n.2).2)
def decL (s : List UInt8) : Res := decN s (rdNum s ⟨0, 0, 0⟩).1 (rdNum s (rdNum s ⟨0, 0, 0⟩).2)
theorem may_f (a : Int) (ps : List PS) (gs : List GS) : snap_May.f a ps gs = some (mayAll a ps gs) := rfl
theorem nxt {i : Nat} (h : i ≤ 1000000) : wrap64 ((i : Int) + 1) = ((i + 1 : Nat) : Int) := by
  unfold wrap64
  omega
section
variable (s : ByteArray) (hs : s.size < 4611686018427387904)
include hs
theorem l1_ev (t : Int) (ps : List PS) (M : Nat) (hM : M ≤ 1000) : ∀ (d i : Nat) (r : Rd) (acc : List GS), i + d = M → acc.length ≤ i →
    Ev (fun k => snap_Decode.l1 k (M : Int) (i : Int) s r.a r.e r.f t ps acc) (decG (lst s) t ps (acc ++ (dGs (lst s) d r).1) (dGs (lst s) d r).2)
  | 0, i, r, acc, hi, ha => by
    refine Ev.step (fun k => snap_Decode.l1.eq_2 ..) ?_
    refine evNo (by omega) ?_
    simp only [wire_Reader_Err.f, Option.bind_some, dGs, List.append_nil]
    unfold decG
    by_cases c : r.e = 0
    · simp only [if_pos c]
      rw [wire_Reader_Done.eq s r]
      simp only [Option.bind_some, may_f]
      cases rdDone (lst s) r with
      | false => exact Ev.now _
      | true => cases mayAll t ps acc <;> exact Ev.now _
    · simp only [if_neg c]
      exact Ev.now _
  | d + 1, i, r, acc, hi, ha => by
    refine Ev.step (fun k => snap_Decode.l1.eq_2 ..) ?_
    refine evYes (by omega) ?_
    refine Ev.bind (wire_Reader_Num.ev s r hs) ?_
    refine Ev.bind (wire_Reader_Num.ev s _ hs) ?_
    refine Ev.bind (wire_Reader_Num.ev s _ hs) ?_
    refine Ev.bind (wire_Reader_Num.ev s _ hs) ?_
    refine evYes (by omega) ?_
    rw [nxt (by omega)]
    have h := l1_ev t ps M hM d (i + 1) (r4 (lst s) r) (acc ++ [⟨(rdNum (lst s) r).1, (rdNum (lst s) (rdNum (lst s) r).2).1, (rdNum (lst s) (rdNum (lst s) (rdNum (lst s) r).2).2).1, (rdNum (lst s) (rdNum (lst s) (rdNum (lst s) (rdNum (lst s) r).2).2).2).1⟩]) (by omega) (by simp; omega)
    simp only [List.append_assoc, List.singleton_append] at h
    exact h
theorem l0_ev (t : Int) (M : Nat) (hM : M ≤ 64) : ∀ (d i : Nat) (r : Rd) (acc : List PS), i + d = M → acc.length ≤ i →
    Ev (fun k => snap_Decode.l0 k (M : Int) (i : Int) s r.a r.e r.f t acc) (decM (lst s) t (acc ++ (dPs (lst s) d r).1) (rdNum (lst s) (dPs (lst s) d r).2))
  | 0, i, r, acc, hi, ha => by
    refine Ev.step (fun k => snap_Decode.l0.eq_2 ..) ?_
    refine evNo (by omega) ?_
    refine Ev.bind (wire_Reader_Num.ev s r hs) ?_
    simp only [dPs, List.append_nil]
    have hn := rdNum_nonneg (lst s) r
    unfold decM
    by_cases c : (rdNum (lst s) r).1 > 1000
    · rw [if_pos c]
      exact evYes c (Ev.now _)
    · rw [if_neg c]
      refine evNo c ?_
      have h := l1_ev s hs t acc (rdNum (lst s) r).1.toNat (by omega) (rdNum (lst s) r).1.toNat 0 (rdNum (lst s) r).2 [] (by omega) (by simp)
      rw [Int.toNat_of_nonneg hn.1] at h
      exact h
  | d + 1, i, r, acc, hi, ha => by
    refine Ev.step (fun k => snap_Decode.l0.eq_2 ..) ?_
    refine evYes (by omega) ?_
    refine Ev.bind (wire_Reader_Num.ev s r hs) ?_
    refine Ev.bind (wire_Reader_Num.ev s _ hs) ?_
    refine evYes (by omega) ?_
    rw [nxt (by omega)]
    have h := l0_ev t M hM d (i + 1) (rdNum (lst s) (rdNum (lst s) r).2).2 (acc ++ [⟨(rdNum (lst s) r).1, (rdNum (lst s) (rdNum (lst s) r).2).1⟩]) (by omega) (by simp; omega)
    simp only [List.append_assoc, List.singleton_append] at h
    exact h
theorem Decode.ev : Ev (fun k => snap_Decode.f k s) (decL (lst s)) := by
  unfold snap_Decode.f wire_New.f
  simp only [Option.bind_some]
  refine Ev.bind (wire_Reader_Num.ev s ⟨0, 0, 0⟩ hs) ?_
  refine Ev.bind (wire_Reader_Num.ev s _ hs) ?_
  unfold decL decN
  have hn := rdNum_nonneg (lst s) (rdNum (lst s) ⟨0, 0, 0⟩).2
  by_cases c : (rdNum (lst s) (rdNum (lst s) ⟨0, 0, 0⟩).2).1 > 64
  · rw [if_pos c]
    exact evYes c (Ev.now _)
  · rw [if_neg c]
    refine evNo c ?_
    have h := l0_ev s hs (rdNum (lst s) ⟨0, 0, 0⟩).1 (rdNum (lst s) (rdNum (lst s) ⟨0, 0, 0⟩).2).1.toNat (by omega) (rdNum (lst s) (rdNum (lst s) ⟨0, 0, 0⟩).2).1.toNat 0 (rdNum (lst s) (rdNum (lst s) ⟨0, 0, 0⟩).2).2 [] (by omega) (by simp)
    rw [Int.toNat_of_nonneg hn.1] at h
    exact h
end
/-! ### written -/
def numsS (a : Int) (ps : List PS) (gs : List GS) : List Int := (rowsS a ps gs).flatten
def encB (a : Int) (ps : List PS) (gs : List GS) : List UInt8 := (numsS a ps gs).flatMap put
theorem put_fit {n : Int} (h : Fit n) : put n ≠ [] := by
  obtain ⟨m, rfl⟩ := Int.eq_ofNat_of_zero_le h.1
  exact put_len_nat m (by have := h.2; omega)
theorem small_fit {n : Int} (h0 : 0 ≤ n) (h1 : n ≤ 1000000) : put n ≠ [] := put_fit ⟨h0, by omega⟩
theorem rows_fit {a : Int} {ps : List PS} {gs : List GS} (h : SnapOk a ps gs) : ∀ l ∈ rowsS a ps gs, l.length ≤ 4 ∧ ∀ n ∈ l, put n ≠ [] := by
  obtain ⟨ha, hp, hg, h1, h2⟩ := h
  intro l hl
  simp only [rowsS, rowsP, rowsG, List.mem_cons, List.mem_append, List.mem_map] at hl
  rcases hl with rfl | ⟨p, hp1, rfl⟩ | rfl | ⟨g, hg1, rfl⟩
  · refine ⟨by simp, fun n hn => ?_⟩
    simp only [List.mem_cons, List.not_mem_nil, or_false] at hn
    rcases hn with rfl | rfl
    · exact put_fit ha
    · exact small_fit (by omega) (by omega)
  · refine ⟨by simp, fun n hn => ?_⟩
    simp only [List.mem_cons, List.not_mem_nil, or_false] at hn
    have := h1.1 p hp1
    rcases hn with rfl | rfl
    · exact put_fit this.1
    · exact put_fit this.2
  · refine ⟨by simp, fun n hn => ?_⟩
    simp only [List.mem_cons, List.not_mem_nil, or_false] at hn
    subst hn
    exact small_fit (by omega) (by omega)
  · refine ⟨by simp, fun n hn => ?_⟩
    simp only [List.mem_cons, List.not_mem_nil, or_false] at hn
    obtain ⟨⟨f0, f2, f3⟩, _, hst⟩ := h2.1 g hg1
    rcases hn with rfl | rfl | rfl | rfl
    · exact put_fit f0
    · rcases hst with ⟨h | h, _⟩ | ⟨_, ⟨h, _⟩ | ⟨h, _⟩⟩ <;> (rw [h]; exact small_fit (by omega) (by omega))
    · exact put_fit f2
    · exact put_fit f3
theorem nums_fit {a : Int} {ps : List PS} {gs : List GS} (h : SnapOk a ps gs) : ∀ n ∈ numsS a ps gs, put n ≠ [] := by
  intro n hn
  obtain ⟨l, hl, hn⟩ := List.mem_flatten.1 hn
  exact (rows_fit h l hl).2 n hn
theorem numsL_fit {l : List Int} (h : ∀ n ∈ l, put n ≠ []) : numsL l = l.flatMap put := by
  unfold numsL
  rw [numsO_all l h]
  rfl
theorem flat_len (l : List Int) : (l.flatMap put).length ≤ 9 * l.length := by
  have := off_len put l 9 (fun n _ => put_len n) l.length
  rwa [off_all] at this
theorem encL_ev : ∀ (rs : List (List Int)) (acc : List UInt8), (∀ l ∈ rs, l.length ≤ 4 ∧ ∀ n ∈ l, put n ≠ []) → acc.length + 36 * rs.length ≤ 1000000 → Ev (fun k => encL (wire_Nums.f k) (arr acc) rs) (arr (acc ++ rs.flatten.flatMap put))
  | [], acc, h, hl => by
    simp only [encL, List.flatten_nil, List.flatMap_nil, List.append_nil]
    exact Ev.now _
  | l :: rs, acc, h, hl => by
    obtain ⟨h1, h2⟩ := h l List.mem_cons_self
    unfold encL
    refine Ev.bind (wire_Nums.ev l (by omega)) ?_
    rw [numsL_fit h2]
    have h3 := flat_len l
    simp only [List.length_cons] at hl
    refine evYes (by rw [size_arr, size_arr]; omega) ?_
    rw [arr_append]
    have := encL_ev rs (acc ++ l.flatMap put) (fun x hx => h x (List.mem_cons_of_mem _ hx)) (by rw [List.length_append]; omega)
    simpa [List.flatMap_append] using this
theorem rows_len (a : Int) (ps : List PS) (gs : List GS) : (rowsS a ps gs).length = 2 + ps.length + gs.length := by
  simp [rowsS, rowsP, rowsG]
  omega
def encL' (a : Int) (ps : List PS) (gs : List GS) : List UInt8 := if mayAll a ps gs = true then encB a ps gs else []
theorem Encode.ev (a : Int) (ps : List PS) (gs : List GS) : Ev (fun k => snap_Encode.f k a ps gs) (arr (encL' a ps gs)) := by
  unfold snap_Encode.f encL'
  by_cases c : mayAll a ps gs = true
  · rw [if_pos c]
    have ho := (may_iff a ps gs).1 c
    refine evYes c ?_
    have := encL_ev (rowsS a ps gs) [] (rows_fit ho) (by rw [rows_len]; have := ho.2.1; have := ho.2.2.1; simp; omega)
    rw [List.nil_append] at this
    exact this
  · rw [if_neg c]
    exact evNo c (Ev.now _)
/-! ### the same? -/
instance : DecidableEq PS := fun a b => decidable_of_iff (a.f0 = b.f0 ∧ a.f1 = b.f1) (by cases a; cases b; simp)
instance : DecidableEq GS := fun a b => decidable_of_iff (a.f0 = b.f0 ∧ a.f1 = b.f1 ∧ a.f2 = b.f2 ∧ a.f3 = b.f3) (by cases a; cases b; simp)
theorem Same.l1_ev (a b : Int) (p q : List PS) (l m : List GS) (hl : l.length = m.length) (hm : l.length ≤ 1000000) : ∀ (d i : Nat), i + d = l.length → Ev (fun k => shuttlecockref08_Same.l1 k (i : Int) a p l b q m) (decide (l.drop i = m.drop i))
  | 0, i, hi => by
    refine Ev.step (fun k => shuttlecockref08_Same.l1.eq_2 ..) ?_
    refine evNo (by omega) ?_
    rw [List.drop_eq_nil_of_le (by omega), List.drop_eq_nil_of_le (by omega)]
    exact Ev.now _
  | d + 1, i, hi => by
    have h1 : i < l.length := by omega
    have h2 : i < m.length := by omega
    refine Ev.step (fun k => shuttlecockref08_Same.l1.eq_2 ..) ?_
    refine evYes (by omega) (evYes (by omega) (evYes (by omega) ?_))
    rw [rdG h1, rdG h2, List.drop_eq_getElem_cons h1, List.drop_eq_getElem_cons h2, nxt (by omega)]
    by_cases c : l[i] = m[i]
    · rw [c]
      refine evNo (by simp) ?_
      have := Same.l1_ev a b p q l m hl hm d (i + 1) (by omega)
      have e : decide (m[i] :: l.drop (i + 1) = m[i] :: m.drop (i + 1)) = decide (l.drop (i + 1) = m.drop (i + 1)) := by simp only [List.cons.injEq, true_and]
      rw [e]
      exact this
    · refine evYes ?_ ?_
      · generalize l[i] = x at c
        generalize m[i] = y at c
        obtain ⟨x0, x1, x2, x3⟩ := x
        obtain ⟨y0, y1, y2, y3⟩ := y
        simp only [S36.mk.injEq] at c
        simp only [Bool.or_eq_true, Bool.not_eq_true', beq_eq_false_iff_ne]
        omega
      · simp only [List.cons.injEq, c, false_and, decide_false]
        exact Ev.now _
theorem Same.l0_ev (a b : Int) (p q : List PS) (l m : List GS) (hp : p.length = q.length) (hq : p.length ≤ 1000000) (hl : l.length = m.length) (hm : l.length ≤ 1000000) : ∀ (d i : Nat), i + d = p.length → Ev (fun k => shuttlecockref08_Same.l0 k (i : Int) a p l b q m) (decide (p.drop i = q.drop i ∧ l = m))
  | 0, i, hi => by
    refine Ev.step (fun k => shuttlecockref08_Same.l0.eq_2 ..) ?_
    refine evNo (by omega) ?_
    rw [List.drop_eq_nil_of_le (by omega), List.drop_eq_nil_of_le (by omega)]
    have := Same.l1_ev a b p q l m hl hm l.length 0 (by omega)
    simpa using this
  | d + 1, i, hi => by
    have h1 : i < p.length := by omega
    have h2 : i < q.length := by omega
    refine Ev.step (fun k => shuttlecockref08_Same.l0.eq_2 ..) ?_
    refine evYes (by omega) (evYes (by omega) (evYes (by omega) ?_))
    rw [rdP h1, rdP h2, List.drop_eq_getElem_cons h1, List.drop_eq_getElem_cons h2, nxt (by omega)]
    by_cases c : p[i] = q[i]
    · rw [c]
      refine evNo (by simp) ?_
      have := Same.l0_ev a b p q l m hp hq hl hm d (i + 1) (by omega)
      have e : decide (q[i] :: p.drop (i + 1) = q[i] :: q.drop (i + 1) ∧ l = m) = decide (p.drop (i + 1) = q.drop (i + 1) ∧ l = m) := by simp only [List.cons.injEq, true_and]
      rw [e]
      exact this
    · refine evYes ?_ ?_
      · generalize p[i] = x at c
        generalize q[i] = y at c
        obtain ⟨x0, x1⟩ := x
        obtain ⟨y0, y1⟩ := y
        simp only [S46.mk.injEq] at c
        simp only [Bool.or_eq_true, Bool.not_eq_true', beq_eq_false_iff_ne]
        omega
      · simp only [List.cons.injEq, c, false_and, decide_false]
        exact Ev.now _
theorem Same.ev (a b : Int) (p q : List PS) (l m : List GS) (hq : p.length ≤ 1000000) (hm : l.length ≤ 1000000) : Ev (fun k => shuttlecockref08_Same.f k a p l b q m) (decide (a = b ∧ p = q ∧ l = m)) := by
  unfold shuttlecockref08_Same.f
  by_cases c : a = b
  · refine evYes c ?_
    by_cases c1 : p.length = q.length
    · refine evYes (by omega) ?_
      by_cases c2 : l.length = m.length
      · have e : ((l.length : Int) != (m.length : Int)) = false := by simp [c2]
        rw [e]
        refine Ev.step (fun k => shuttlecockref08_Same.j0.eq_2 ..) ?_
        refine evNo (by simp) ?_
        have := Same.l0_ev a b p q l m c1 hq c2 hm p.length 0 (by omega)
        simpa [c] using this
      · have e : ((l.length : Int) != (m.length : Int)) = true := by simp; omega
        rw [e, decide_eq_false (by rintro ⟨_, _, h⟩; exact c2 (congrArg List.length h))]
        refine Ev.step (fun k => shuttlecockref08_Same.j0.eq_2 ..) ?_
        exact evYes rfl (Ev.now _)
    · refine evNo (by omega) ?_
      rw [decide_eq_false (by rintro ⟨_, h, _⟩; exact c1 (congrArg List.length h))]
      refine Ev.step (fun k => shuttlecockref08_Same.j0.eq_2 ..) ?_
      exact evYes rfl (Ev.now _)
  · refine evNo c ?_
    rw [decide_eq_false (by rintro ⟨h, _⟩; exact c h)]
    refine Ev.step (fun k => shuttlecockref08_Same.j0.eq_2 ..) ?_
    exact evYes rfl (Ev.now _)
end Go.Proofs.Ythfdhoegboeaeaa.SnapB
