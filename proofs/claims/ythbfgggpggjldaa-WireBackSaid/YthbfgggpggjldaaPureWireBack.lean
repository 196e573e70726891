/- What wire wrote is read, one behind the other, and then the reader is done; cut off it is too short. For every input. -/
import Derived.Test.YthbfgggpggjldaaQx6
import Derived.Test.YthbfgggpggjldaaWireP
import Derived.Test.YthbfgggpggjldaaWire2
namespace Go.Proofs.Ythbfgggpggjldaa.Pure
open Go Go.RowKit Go.Proofs.Ythbfgggpggjldaa.Q Go.Proofs.YthbfgggpggjldaaW.PrintWords Go.Proofs.YthbfgggpggjldaaW.PrintLast Go.Proofs.YthbfgggpggjldaaW.PrintMore ShCore

theorem rTextA (s : List UInt8) (a e f : Int) {l : List UInt8} {a' e' f' : Int} (hs : (arr s).size < 4611686018427387904) (h : Rd.ok s ⟨a, e, f⟩) (hr : rdText s ⟨a, e, f⟩ = (l, ⟨a', e', f'⟩)) : Ev (fun k => wire_Reader_Text.f k (arr s) a e f) (arr l, arr s, a', e', f') :=
  rText' (arr s) a e f hs (by rw [lst_arr]; exact h) (by rw [lst_arr]; exact hr)
theorem rNumA (s : List UInt8) (a e f : Int) {n : Int} {a' e' f' : Int} (hs : (arr s).size < 4611686018427387904) (hr : rdNum s ⟨a, e, f⟩ = (n, ⟨a', e', f'⟩)) : Ev (fun k => wire_Reader_Num.f k (arr s) a e f) (n, arr s, a', e', f') :=
  rNum (arr s) a e f hs (by rw [lst_arr]; exact hr)
def tx (b : ByteArray) : List UInt8 := text (lst b)
theorem tx_len {x0 : List ByteArray} (h : ∀ t ∈ x0, t.size ≤ 1000) : ∀ x ∈ x0, (tx x).length ≤ 1009 := fun x hx => by
  have h1 := text_len (lst x)
  have h2 := h x hx
  rw [lst_length] at h1
  unfold tx
  omega
theorem rd_some {l : List Int} {i : Nat} (h : i < l.length) : l[i]? = some (rd l i) := by simp [rd, h]
theorem rdOf_some {l : List ByteArray} {i : Nat} (h : i < l.length) : l[i]? = some (rdOf ByteArray.empty l i) := by simp [rdOf, h]
section
variable (x0 : List ByteArray) (x1 : List Int) (x2 : Int) (h0 : x0.length ≤ 50) (h1 : x1.length ≤ 100) (hp : ∀ n ∈ x1, put n ≠ []) (hx2 : x2 < 9223372036854775808)
def whole : List UInt8 := x1.flatMap put ++ x0.flatMap tx
theorem nums_off (i : Nat) : (off put x1 i).length ≤ 9 * i := off_len put x1 9 (fun n _ => put_len n) i
include h0 h1 in
theorem whole_len (ht : ∀ t ∈ x0, t.size ≤ 1000) : (whole x0 x1).length ≤ 60000 := by
  have a := nums_off x1 x1.length
  have b := off_len tx x0 1009 (tx_len ht) x0.length
  rw [off_all] at a b
  unfold whole
  rw [List.length_append]
  omega
/-! ### the cut one -/
include h0 h1 in
theorem back4 (ht : ∀ t ∈ x0, t.size ≤ 1000) (cut : Nat) (hc : cut < (whole x0 x1).length) (hx : x2 = cut) (d : Nat) : ∀ (i : Nat) (a e f : Int), i + d = x0.length → cutInv ((x1.flatMap put).length + (off tx x0 i).length) cut ⟨a, e, f⟩ → Rd.ok ((whole x0 x1).take cut) ⟨a, e, f⟩ →
    Ev (fun k => shuttlecocklaw02_WireBack.l4 k x0 x2 (i : Int) (arr ((whole x0 x1).take cut)) a e f) true := by
  have hwl := whole_len x0 x1 h0 h1 ht
  have hs : (arr ((whole x0 x1).take cut)).size < 4611686018427387904 := by rw [size_arr, List.length_take]; omega
  induction d with
  | zero =>
    intro i a e f hi inv ok
    refine Ev.step (fun k => shuttlecocklaw02_WireBack.l4.eq_2 ..) ?_
    refine evNo (by omega) ?_
    have hw : (whole x0 x1).length = (x1.flatMap put).length + (off tx x0 i).length := by
      obtain rfl : i = x0.length := by omega
      rw [off_all]
      unfold whole
      rw [List.length_append]
    obtain ⟨he, hf⟩ := cutInv_end inv (by omega)
    simp only at he hf
    subst he
    have hd : wire_Reader_Done.f (arr ((whole x0 x1).take cut)) a 10 f = some (false, arr ((whole x0 x1).take cut), a, 10, f) := rDone _ _ _ _ (by simp [rdDone])
    simp only [wire_Reader_Err.f, Option.bind_some, if_true, hd, Bool.not_false]
    exact evYes (by omega) (Ev.now _)
  | succ d ih =>
    intro i a e f hi inv ok
    refine Ev.step (fun k => shuttlecocklaw02_WireBack.l4.eq_2 ..) ?_
    refine evYes (by omega) ?_
    have hg := rdOf_some (show i < x0.length by omega)
    have hm : rdOf ByteArray.empty x0 (i : Int) ∈ x0 := List.mem_of_getElem? hg
    have hsp : whole x0 x1 = (x1.flatMap put ++ off tx x0 i) ++ text (lst (rdOf ByteArray.empty x0 (i : Int))) ++ (x0.drop (i + 1)).flatMap tx := by
      unfold whole
      rw [off_split tx x0 i _ hg]
      simp [tx]
    have hc1 := rdText_cut (lst (rdOf ByteArray.empty x0 (i : Int))) (by rw [lst_length]; have := ht _ hm; omega) (x1.flatMap put ++ off tx x0 i) ((x0.drop (i + 1)).flatMap tx) cut ⟨a, e, f⟩ (by rw [List.length_append]; exact inv)
    rw [← hsp] at hc1
    have hk := rdText_ok ok
    generalize hr : rdText ((whole x0 x1).take cut) ⟨a, e, f⟩ = q at hc1 hk
    obtain ⟨l, a', e', f'⟩ := q
    refine Ev.bind (rTextA _ a e f hs ok hr) ?_
    have a4 : (i : Int) + 1 = ((i + 1 : Nat) : Int) ∧ (i : Int) + 1 < 9223372036854775808 := by omega
    simp only [wrap64_nat' a4.1 a4.2]
    refine ih (i + 1) a' e' f' (by omega) ?_ hk
    rw [off_succ tx x0 i _ hg, List.length_append]
    rw [List.length_append] at hc1
    simpa [tx, Nat.add_assoc] using hc1
include h0 h1 hp in
theorem back3 (ht : ∀ t ∈ x0, t.size ≤ 1000) (cut : Nat) (hc : cut < (whole x0 x1).length) (hx : x2 = cut) (d : Nat) : ∀ (i : Nat) (a e f : Int), i + d = x1.length → cutInv (off put x1 i).length cut ⟨a, e, f⟩ → Rd.ok ((whole x0 x1).take cut) ⟨a, e, f⟩ →
    Ev (fun k => shuttlecocklaw02_WireBack.l3 k x0 x1 x2 (i : Int) (arr ((whole x0 x1).take cut)) a e f) true := by
  have hwl := whole_len x0 x1 h0 h1 ht
  have hs : (arr ((whole x0 x1).take cut)).size < 4611686018427387904 := by rw [size_arr, List.length_take]; omega
  induction d with
  | zero =>
    intro i a e f hi inv ok
    refine Ev.step (fun k => shuttlecocklaw02_WireBack.l3.eq_2 ..) ?_
    refine evNo (by omega) ?_
    obtain rfl : i = x1.length := by omega
    rw [off_all] at inv
    exact back4 x0 x1 x2 h0 h1 ht cut hc hx x0.length 0 a e f (by omega) (by rw [off_zero]; exact inv) ok
  | succ d ih =>
    intro i a e f hi inv ok
    refine Ev.step (fun k => shuttlecocklaw02_WireBack.l3.eq_2 ..) ?_
    refine evYes (by omega) ?_
    have hg := rd_some (show i < x1.length by omega)
    have hm : rd x1 (i : Int) ∈ x1 := List.mem_of_getElem? hg
    have hsp : whole x0 x1 = off put x1 i ++ put (rd x1 (i : Int)) ++ ((x1.drop (i + 1)).flatMap put ++ x0.flatMap tx) := by
      unfold whole
      rw [off_split put x1 i _ hg]
      simp
    have hc1 := rdNum_cut (hp _ hm) (off put x1 i) ((x1.drop (i + 1)).flatMap put ++ x0.flatMap tx) cut ⟨a, e, f⟩ inv
    rw [← hsp] at hc1
    have hk := rdNum_ok ok
    generalize hr : rdNum ((whole x0 x1).take cut) ⟨a, e, f⟩ = q at hc1 hk
    obtain ⟨l, a', e', f'⟩ := q
    refine Ev.bind (rNumA _ a e f hs hr) ?_
    have a4 : (i : Int) + 1 = ((i + 1 : Nat) : Int) ∧ (i : Int) + 1 < 9223372036854775808 := by omega
    simp only [wrap64_nat' a4.1 a4.2]
    refine ih (i + 1) a' e' f' (by omega) ?_ hk
    rw [off_succ put x1 i _ hg, List.length_append]
    exact hc1
theorem arr_cut (s : List UInt8) (c : Nat) : (arr s).extract 0 c = arr (s.take c) := lst_inj (by rw [lst_extract, lst_arr, lst_arr]; simp)
include h0 h1 hp in
theorem back5 (ht : ∀ t ∈ x0, t.size ≤ 1000) (b : Bool) (hb : x2 < 0 ∧ b = true ∨ 0 ≤ x2 ∧ b = decide (x2 ≥ ((arr (whole x0 x1)).size : Int))) : Ev (fun k => shuttlecocklaw02_WireBack.j4 k x0 x1 x2 (arr (whole x0 x1)) b) true := by
  refine Ev.step (fun k => shuttlecocklaw02_WireBack.j4.eq_2 ..) ?_
  by_cases c : b = true
  · exact evYes c (Ev.now _)
  · refine evNo c ?_
    rcases hb with ⟨_, h⟩ | ⟨hn, h⟩
    · exact absurd h c
    obtain ⟨cut, rfl⟩ := Int.eq_ofNat_of_zero_le hn
    have hc : cut < (whole x0 x1).length := by
      rw [h, size_arr] at c
      simp at c
      exact c
    refine evYes hn (evYes (by rw [size_arr]; omega) ?_)
    simp only [wire_New.f, Option.bind_some, Int.toNat_natCast, arr_cut]
    exact back3 x0 x1 _ h0 h1 hp ht cut hc rfl x1.length 0 0 0 0 (by omega) (.inl ⟨rfl, by simp [off_zero], by simp [off_zero]⟩) ⟨Int.le_refl _, by simp only; omega⟩
/-! ### the whole one -/
include h0 h1 hp in
theorem back2 (ht : ∀ t ∈ x0, t.size ≤ 1000) (d : Nat) : ∀ (i : Nat) (a : Int), i + d = x0.length → a = ((x1.flatMap put ++ off tx x0 i).length : Nat) →
    Ev (fun k => shuttlecocklaw02_WireBack.l2 k x0 x1 x2 (arr (whole x0 x1)) (i : Int) (arr (whole x0 x1)) a 0 0) true := by
  have hwl := whole_len x0 x1 h0 h1 ht
  have hs : (arr (whole x0 x1)).size < 4611686018427387904 := by rw [size_arr]; omega
  induction d with
  | zero =>
    intro i a hi ha
    refine Ev.step (fun k => shuttlecocklaw02_WireBack.l2.eq_2 ..) ?_
    refine evNo (by omega) ?_
    obtain rfl : i = x0.length := by omega
    rw [off_all] at ha
    have hd : wire_Reader_Done.f (arr (whole x0 x1)) a 0 0 = some (true, arr (whole x0 x1), a, 0, 0) := rDone _ _ _ _ (by rw [lst_arr, ha]; simp [rdDone, whole])
    simp only [hd, Option.bind_some]
    refine evYes trivial ?_
    by_cases c : x2 < 0
    · exact evYes c (back5 x0 x1 x2 h0 h1 hp ht true (.inl ⟨c, rfl⟩))
    · exact evNo c (back5 x0 x1 x2 h0 h1 hp ht _ (.inr ⟨by omega, rfl⟩))
  | succ d ih =>
    intro i a hi ha
    refine Ev.step (fun k => shuttlecocklaw02_WireBack.l2.eq_2 ..) ?_
    refine evYes (by omega) ?_
    have hg := rdOf_some (show i < x0.length by omega)
    have hm : rdOf ByteArray.empty x0 (i : Int) ∈ x0 := List.mem_of_getElem? hg
    have hsp : whole x0 x1 = (x1.flatMap put ++ off tx x0 i) ++ text (lst (rdOf ByteArray.empty x0 (i : Int))) ++ (x0.drop (i + 1)).flatMap tx := by
      unfold whole
      rw [off_split tx x0 i _ hg]
      simp [tx]
    have hr := rdText_at (lst (rdOf ByteArray.empty x0 (i : Int))) (by rw [lst_length]; have := ht _ hm; omega) (x1.flatMap put ++ off tx x0 i) ((x0.drop (i + 1)).flatMap tx) 0
    rw [← hsp, ← ha] at hr
    have ok : Rd.ok (whole x0 x1) ⟨a, 0, 0⟩ := by
      rw [ha]
      refine ⟨by simp only; omega, ?_⟩
      rw [hsp]
      simp only [List.length_append]
      omega
    refine Ev.bind (rTextA _ a 0 0 hs ok hr) ?_
    have a4 : (i : Int) + 1 = ((i + 1 : Nat) : Int) ∧ (i : Int) + 1 < 9223372036854775808 := by omega
    simp only [wrap64_nat' a4.1 a4.2, toList_lst, lst_arr]
    refine evYes (by omega) (evYes trivial ?_)
    refine ih (i + 1) _ (by omega) ?_
    rw [off_succ tx x0 i _ hg, ha]
    simp only [List.length_append, tx]
    omega
include h0 h1 hp in
theorem back1 (ht : ∀ t ∈ x0, t.size ≤ 1000) (d : Nat) : ∀ (i : Nat) (a : Int), i + d = x1.length → a = ((off put x1 i).length : Nat) →
    Ev (fun k => shuttlecocklaw02_WireBack.l1 k x0 x1 x2 (arr (whole x0 x1)) (i : Int) (arr (whole x0 x1)) a 0 0) true := by
  have hwl := whole_len x0 x1 h0 h1 ht
  have hs : (arr (whole x0 x1)).size < 4611686018427387904 := by rw [size_arr]; omega
  induction d with
  | zero =>
    intro i a hi ha
    refine Ev.step (fun k => shuttlecocklaw02_WireBack.l1.eq_2 ..) ?_
    refine evNo (by omega) ?_
    obtain rfl : i = x1.length := by omega
    rw [off_all] at ha
    exact back2 x0 x1 x2 h0 h1 hp ht x0.length 0 a (by omega) (by rw [off_zero, List.append_nil]; exact ha)
  | succ d ih =>
    intro i a hi ha
    refine Ev.step (fun k => shuttlecocklaw02_WireBack.l1.eq_2 ..) ?_
    refine evYes (by omega) ?_
    have hg := rd_some (show i < x1.length by omega)
    have hm : rd x1 (i : Int) ∈ x1 := List.mem_of_getElem? hg
    have hsp : whole x0 x1 = off put x1 i ++ put (rd x1 (i : Int)) ++ ((x1.drop (i + 1)).flatMap put ++ x0.flatMap tx) := by
      unfold whole
      rw [off_split put x1 i _ hg]
      simp
    have hr := rdNum_at (hp _ hm) (off put x1 i) ((x1.drop (i + 1)).flatMap put ++ x0.flatMap tx) 0
    rw [← hsp, ← ha] at hr
    refine Ev.bind (rNumA _ a 0 0 hs hr) ?_
    have a4 : (i : Int) + 1 = ((i + 1 : Nat) : Int) ∧ (i : Int) + 1 < 9223372036854775808 := by omega
    simp only [wrap64_nat' a4.1 a4.2]
    refine evYes (by omega) (evYes trivial ?_)
    refine ih (i + 1) _ (by omega) ?_
    rw [off_succ put x1 i _ hg, ha]
    simp only [List.length_append]
    omega
include h0 h1 hp in
theorem back0 (d : Nat) : ∀ (i : Nat), i + d = x0.length → (∀ j, j < i → ∀ t, x0[j]? = some t → t.size ≤ 1000) →
    Ev (fun k => shuttlecocklaw02_WireBack.l0 k x0 x1 x2 (arr (x1.flatMap put ++ off tx x0 i)) (i : Int)) true := by
  induction d with
  | zero =>
    intro i hi ht
    refine Ev.step (fun k => shuttlecocklaw02_WireBack.l0.eq_2 ..) ?_
    refine evNo (by omega) ?_
    obtain rfl : i = x0.length := by omega
    simp only [wire_New.f, Option.bind_some, off_all]
    refine back1 x0 x1 x2 h0 h1 hp (fun t h => ?_) x1.length 0 0 (by omega) (by simp [off_zero])
    obtain ⟨j, hj⟩ := List.getElem?_of_mem h
    exact ht j (List.getElem?_eq_some_iff.1 hj).1 t hj
  | succ d ih =>
    intro i hi ht
    refine Ev.step (fun k => shuttlecocklaw02_WireBack.l0.eq_2 ..) ?_
    refine evYes (by omega) (evYes (by omega) ?_)
    have hg := rdOf_some (show i < x0.length by omega)
    by_cases c : ((rdOf ByteArray.empty x0 (i : Int)).size : Int) > 1000
    · exact evYes c (Ev.now _)
    · refine evNo c ?_
      refine Ev.bind (wire_Text.ev _ (by omega)) ?_
      have ht' : ∀ j, j < i + 1 → ∀ t, x0[j]? = some t → t.size ≤ 1000 := fun j hj t h => by
        rcases Nat.lt_succ_iff_lt_or_eq.1 hj with hj | rfl
        · exact ht j hj t h
        · rw [hg] at h
          cases h
          omega
      have l1 : (off put x1 x1.length).length ≤ 9 * x1.length := nums_off x1 _
      rw [off_all] at l1
      have l2 : (off tx x0 i).length ≤ 1009 * i := by
        have h5 := off_len tx (x0.take i) 1009 (tx_len (fun t h => by
          obtain ⟨j, hj⟩ := List.getElem?_of_mem h
          rw [List.getElem?_take] at hj
          split at hj
          · exact ht j (by assumption) t hj
          · cases hj)) i
        unfold off at h5 ⊢
        rwa [List.take_take, Nat.min_self] at h5
      have l3 := text_len (lst (rdOf ByteArray.empty x0 (i : Int)))
      rw [lst_length] at l3
      refine evYes (by rw [size_arr, size_arr, List.length_append]; omega) ?_
      have a4 : (i : Int) + 1 = ((i + 1 : Nat) : Int) ∧ (i : Int) + 1 < 9223372036854775808 := by omega
      simp only [wrap64_nat' a4.1 a4.2, arr_append]
      have h2 := ih (i + 1) (by omega) ht'
      rw [off_succ tx x0 i _ hg, ← List.append_assoc] at h2
      exact h2
end
theorem WireBack : shuttlecocklaw02_WireBack.Pure := by
  intro l0 l1 a2
  intros
  refine Ev.rounds (g := fun k => shuttlecocklaw02_WireBack.f k l0 l1 a2) ?_
  have z : Ev (fun k => shuttlecocklaw02_WireBack.j0 k l0 l1 a2 true) true := by
    refine Ev.step (fun k => shuttlecocklaw02_WireBack.j0.eq_2 ..) ?_
    simp only [↓reduceIte, shuttlecocklaw02_fixed.f, Option.bind_some]
    exact Ev.now _
  have y : l0.length ≤ 50 → l1.length ≤ 100 → (∀ n ∈ l1, put n ≠ []) → Ev (fun k => shuttlecocklaw02_WireBack.j0 k l0 l1 a2 false) true := fun h0 h1 hp => by
    refine Ev.step (fun k => shuttlecocklaw02_WireBack.j0.eq_2 ..) ?_
    refine evNo (by simp) ?_
    refine Ev.bind (wire_Nums.ev l1 (by omega)) ?_
    rcases numsL_cases l1 with ⟨⟨n, hn, e⟩, _⟩ | ⟨_, e⟩
    · exact absurd e (hp n hn)
    · rw [e]
      have := back0 l0 l1 a2 h0 h1 hp l0.length 0 (by omega) (fun j hj => by omega)
      rw [off_zero, List.append_nil] at this
      exact this
  unfold shuttlecocklaw02_WireBack.f
  simp only [shuttlecocklaw02_fixed.f, Option.bind_some, ↓reduceIte]
  by_cases c1 : (l0.length : Int) > 50
  · exact evYes c1 z
  · refine evNo c1 ?_
    by_cases c2 : (l1.length : Int) > 100
    · exact evYes c2 z
    · refine evNo c2 ?_
      by_cases c3 : (l1.length : Int) > 0
      · refine evYes c3 ?_
        refine Ev.bind (wire_Nums.ev l1 (by omega)) ?_
        rcases numsL_cases l1 with ⟨_, e⟩ | ⟨hp, e⟩
        · simp only [e, toList_lst, lst_arr, BEq.rfl]
          exact z
        · have hne : numsL l1 ≠ [] := by
            rw [e]
            cases l1 with
            | nil => simp at c3
            | cons n l =>
              have := hp n List.mem_cons_self
              simp [this]
          simp only [toList_lst, lst_arr]
          rw [show (numsL l1 == []) = false by simpa using hne]
          exact y (by omega) (by omega) hp
      · refine evNo c3 ?_
        cases l1 with
        | nil => exact y (by omega) (by omega) (by simp)
        | cons n l => simp at c3
end Go.Proofs.Ythbfgggpggjldaa.Pure
