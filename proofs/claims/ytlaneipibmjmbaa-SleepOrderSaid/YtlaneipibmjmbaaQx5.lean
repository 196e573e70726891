-- printed by a program of this session (NOTES: hprint); not the kit's print
import Derived.Test.YtlaneipibmjmbaaQx0
import Derived.Test.YtlaneipibmjmbaaQx2
import Derived.Test.YtlaneipibmjmbaaQx3
import Derived.Test.YtlaneipibmjmbaaQx4
namespace Go.Proofs.Ytlaneipibmjmbaa.Q
open Go.RowKit Go.Proofs.YtlaneipibmjmbaaW.PrintWords Go.Proofs.YtlaneipibmjmbaaW.PrintLast Go.Proofs.YtlaneipibmjmbaaW.PrintMore
attribute [local go_sem] max2_int min2_int max_two min_two max_three min_three max_four min_four   -- for this text's walks alone
set_option linter.unusedVariables false
set_option linter.unusedSimpArgs false

/-! ### sleep_Put: function 8, by hand -/
def sleep_Put_slices_BinarySearchFunc_api_Timer.T5 : Bool × List (List Nat × List Nat) := (true, [([], []), ([], []), ([], []), ([1, 2], [1, 2]), ([3], [3]), ([], []), ([0, 4, 5], [0, 4, 5]), ([6], [6])])
def sleep_Put_slices_BinarySearchFunc_api_Timer.B5 : List Nat := [0, 0, 0, 6, 14, 0, 63, 127]
theorem sleep_Put_slices_BinarySearchFunc_api_Timer.tab5 : rtab .any (opsOf Try.f18 5) = sleep_Put_slices_BinarySearchFunc_api_Timer.T5 := by kernel_rfl
theorem sleep_Put_slices_BinarySearchFunc_api_Timer.bits5 : waitsOk sleep_Put_slices_BinarySearchFunc_api_Timer.T5.2 sleep_Put_slices_BinarySearchFunc_api_Timer.B5 = true := by kernel_rfl
def sleep_Put_slices_BinarySearchFunc_api_Timer.T8 : Bool × List (List Nat × List Nat) := (true, [([], []), ([], []), ([], []), ([1, 2], [1, 2]), ([3], [3]), ([4], [4]), ([4], [4]), ([4], [4]), ([6, 7, 4], [4, 6, 7]), ([8, 4], [4, 8]), ([4], [4]), ([5, 9, 10, 4, 4], [4, 5, 9, 10]), ([11, 4], [4, 11]), ([4, 12], [4, 12]), ([0, 11, 0], [0]), ([13, 14, 0, 1, 2, 3, 4, 5, 6, 7, 8, 9, 10, 11, 12, 13, 14], [13])])
def sleep_Put_slices_BinarySearchFunc_api_Timer.B8 : List Nat := [0, 0, 0, 6, 14, 30, 30, 30, 222, 478, 30, 2046, 4094, 8190, 4095, 32767]
theorem sleep_Put_slices_BinarySearchFunc_api_Timer.tab8 : rtab .any (opsOf Try.f18 8) = sleep_Put_slices_BinarySearchFunc_api_Timer.T8 := by kernel_rfl
theorem sleep_Put_slices_BinarySearchFunc_api_Timer.bits8 : waitsOk sleep_Put_slices_BinarySearchFunc_api_Timer.T8.2 sleep_Put_slices_BinarySearchFunc_api_Timer.B8 = true := by kernel_rfl
def sleep_Put_slices_Insert_api_Timer.T15 : Bool × List (List Nat × List Nat) := (true, [([], []), ([], []), ([], []), ([1, 2], [1, 2]), ([0, 3], [0, 3]), ([], []), ([], []), ([5, 6], [5, 6]), ([4, 7], [4, 7])])
def sleep_Put_slices_Insert_api_Timer.B15 : List Nat := [0, 0, 0, 6, 15, 0, 0, 96, 255]
theorem sleep_Put_slices_Insert_api_Timer.tab15 : rtab .any (opsOf Try.f20 15) = sleep_Put_slices_Insert_api_Timer.T15 := by kernel_rfl
theorem sleep_Put_slices_Insert_api_Timer.bits15 : waitsOk sleep_Put_slices_Insert_api_Timer.T15.2 sleep_Put_slices_Insert_api_Timer.B15 = true := by kernel_rfl
def sleep_Put_slices_Insert_api_Timer.T11 : Bool × List (List Nat × List Nat) := (true, [([], []), ([], []), ([], []), ([1, 2], [1, 2]), ([0, 3], [0, 3]), ([], []), ([], []), ([5, 6], [5, 6]), ([4, 7], [4, 7])])
def sleep_Put_slices_Insert_api_Timer.B11 : List Nat := [0, 0, 0, 6, 15, 0, 0, 96, 255]
theorem sleep_Put_slices_Insert_api_Timer.tab11 : rtab .any (opsOf Try.f20 11) = sleep_Put_slices_Insert_api_Timer.T11 := by kernel_rfl
theorem sleep_Put_slices_Insert_api_Timer.bits11 : waitsOk sleep_Put_slices_Insert_api_Timer.T11.2 sleep_Put_slices_Insert_api_Timer.B11 = true := by kernel_rfl
/-! #### timers as cells -/
def flatT (l : List S24) : List Value := l.flatMap fun t => [.int .i64 t.f0, .int .i64 t.f1]
theorem flatT_length (l : List S24) : (flatT l).length = l.length * 2 := by
  induction l with
  | nil => rfl
  | cons t r ih => simp [flatT] at ih ⊢; omega
theorem flatT_append (l m : List S24) : flatT (l ++ m) = flatT l ++ flatT m := by simp [flatT]
theorem flatT_take (l : List S24) (i : Nat) (h : i ≤ l.length) : (flatT l).take (i * 2) = flatT (l.take i) := by
  have e : flatT l = flatT (l.take i) ++ flatT (l.drop i) := by rw [← flatT_append, List.take_append_drop]
  rw [e, List.take_left' (by rw [flatT_length, List.length_take]; omega)]
theorem flatT_drop (l : List S24) (i : Nat) (h : i ≤ l.length) : (flatT l).drop (i * 2) = flatT (l.drop i) := by
  have e : flatT l = flatT (l.take i) ++ flatT (l.drop i) := by rw [← flatT_append, List.take_append_drop]
  rw [e, List.drop_left' (by rw [flatT_length, List.length_take]; omega)]
theorem flatT_one (l : List S24) : ∀ u ∈ flatT l, u.oneCell' = true := by
  intro u hu
  simp only [flatT, List.mem_flatMap, List.mem_cons, List.not_mem_nil, or_false] at hu
  obtain ⟨t, _, rfl | rfl⟩ := hu <;> rfl
theorem reps_flat {R : S24 → List Value → Prop} (hR : ∀ x : S24, R x [.int .i64 x.f0, .int .i64 x.f1]) : ∀ (l acc : List S24) (cs : List Value), Reps R 2 acc cs → Reps R 2 (acc ++ l) (cs ++ flatT l)
  | [], acc, cs, h => by simpa [flatT] using h
  | t :: r, acc, cs, h => by
    have := reps_flat hR r (acc ++ [t]) (cs ++ [.int .i64 t.f0, .int .i64 t.f1]) (h.snoc (hR t) rfl)
    simpa [flatT] using this
theorem flat_reps {R : S24 → List Value → Prop} (hR : ∀ (x : S24) c, R x c → c = [.int .i64 x.f0, .int .i64 x.f1]) : ∀ (l : List S24) (cs : List Value), Reps R 2 l cs → cs = flatT l
  | [], cs, h => by
    have := h.1
    simpa [flatT] using this
  | t :: r, cs, h => by
    have h1 := hR t _ (h.2 0 t rfl)
    have h2 := flat_reps hR r (cs.drop 2) ⟨by rw [List.length_drop, h.1, List.length_cons]; omega, fun j p hj => by
      have := h.2 (j + 1) p (by simpa using hj)
      rwa [List.drop_drop, show 2 + j * 2 = (j + 1) * 2 by omega]⟩
    simp only [Nat.zero_mul, List.drop_zero] at h1
    rw [← List.take_append_drop 2 cs, h1, h2]
    simp [flatT]
theorem own_of_RT {w : World} {base : Nat} {ok : Nat → Prop} {v : Value} {l : List S24} (h : Kd.R k24 24 w base ok v l) : w.ownsRow base 24 2 v l.length (flatT l) := by
  obtain ⟨_, inner, ho, hr⟩ := h
  rwa [← flat_reps (fun x c hc => k24_openM hc) l inner hr]
theorem RT_of_own {w : World} {base : Nat} {v : Value} {l : List S24} (h : w.ownsRow base 24 2 v l.length (flatT l)) : Kd.R k24 24 w base (fun _ => True) v l :=
  ⟨fun _ _ => trivial, flatT l, h, reps_flat (fun x => k24_mkM _ _ _ x) l [] [] (Reps.none _ _)⟩
/-! #### the place of a timer -/
theorem aheadT_iff (a b : S24) : aheadT a b = true ↔ a.f0 < b.f0 ∨ a.f0 = b.f0 ∧ a.f1 < b.f1 := by
  unfold aheadT
  simp
theorem aheadT_trans {a b c : S24} (h : aheadT a b = true) (k : aheadT b c = true) : aheadT a c = true := by
  rw [aheadT_iff] at *
  omega
theorem cmpT_lt (p t : S24) : decide (cmpT p.f0 p.f1 t.f0 t.f1 < 0) = aheadT p t := by
  have h := cmpT_ahead p t
  by_cases h1 : cmpT p.f0 p.f1 t.f0 t.f1 < 0
  · have h2 : ¬ (0 ≤ cmpT p.f0 p.f1 t.f0 t.f1) := by omega
    rw [decide_eq_false h2] at h
    rw [decide_eq_true h1]
    revert h
    cases aheadT p t <;> simp
  · have h2 : 0 ≤ cmpT p.f0 p.f1 t.f0 t.f1 := by omega
    rw [decide_eq_true h2] at h
    rw [decide_eq_false h1]
    revert h
    cases aheadT p t <;> simp
theorem mayPre_ok {l : List S24} : ∀ n, mayPre l n = true → ∀ i, i < n → mayOk l i = true
  | 0, _, i, hi => absurd hi (by omega)
  | n + 1, h, i, hi => by
    unfold mayPre at h
    rw [Bool.and_eq_true] at h
    rcases Nat.lt_or_ge i n with h1 | h1
    · exact mayPre_ok n h.1 i h1
    · obtain rfl : i = n := by omega
      exact h.2
theorem mayPre_of {l : List S24} : ∀ n, (∀ i, i < n → mayOk l i = true) → mayPre l n = true
  | 0, _ => rfl
  | n + 1, h => by
    unfold mayPre
    rw [mayPre_of n (fun i hi => h i (by omega)), h n (by omega)]
    rfl
theorem may_step {l : List S24} (h : mayPre l l.length = true) (i : Nat) (hi : i + 1 < l.length) : aheadT (rd_T24 l i) (rd_T24 l ((i + 1 : Nat) : Int)) = true := by
  have := mayPre_ok _ h (i + 1) hi
  unfold mayOk at this
  simp only [Bool.and_eq_true, Bool.or_eq_true, decide_eq_true_eq] at this
  rcases this.2 with h1 | h1
  · omega
  · rwa [show (((i + 1 : Nat) : Int) - 1) = (i : Int) by omega] at h1
theorem may_sorted {l : List S24} (h : mayPre l l.length = true) : ∀ (d i : Nat), i + d + 1 < l.length → aheadT (rd_T24 l i) (rd_T24 l ((i + d + 1 : Nat) : Int)) = true
  | 0, i, hi => may_step h i hi
  | d + 1, i, hi => aheadT_trans (may_sorted h d i (by omega)) (by have := may_step h (i + d + 1) (by omega); exact this)
/-- How many stand ahead of t. -/
def bsT (l : List S24) (t : S24) : Nat := (l.takeWhile fun x => aheadT x t).length
theorem bsT_of {l : List S24} {t : S24} {i : Nat} (hi : i ≤ l.length) (h1 : ∀ k : Nat, k < i → aheadT (rd_T24 l k) t = true) (h2 : i < l.length → aheadT (rd_T24 l i) t = false) : bsT l t = i := by
  unfold bsT
  induction l generalizing i with
  | nil => simp at hi ⊢; exact hi.symm
  | cons x r ih =>
    cases i with
    | zero =>
      have := h2 (by simp)
      have e : rd_T24 (x :: r) ((0 : Nat) : Int) = x := rfl
      rw [e] at this
      simp [List.takeWhile_cons, this]
    | succ i =>
      have h0 := h1 0 (by omega)
      have e : rd_T24 (x :: r) ((0 : Nat) : Int) = x := rfl
      rw [e] at h0
      simp only [List.takeWhile_cons, h0, if_true, List.length_cons]
      rw [ih (i := i) (by simpa using hi) (fun k hk => ?_) (fun hk => ?_)]
      · have := h1 (k + 1) (by omega)
        simpa [rd_T24] using this
      · have := h2 (by simpa using hk)
        simpa [rd_T24] using this
theorem bsT_le (l : List S24) (t : S24) : bsT l t ≤ l.length := by
  unfold bsT
  have := (List.takeWhile_prefix (fun x => aheadT x t) (l := l)).length_le
  exact this
def insT (l : List S24) (t : S24) : List S24 := l.take (bsT l t) ++ t :: l.drop (bsT l t)
/-- A number's place in the middle. -/
theorem mid_ (i j : Int) (h0 : 0 ≤ i) (h : i < j) (hj : j ≤ 9223372036854775807) : i ≤ (i + j) / 2 ∧ (i + j) / 2 < j := by omega
def AnyBool (n : Int) (w0 : World) (e : Ending) (w' : World) : Prop := ∃ b : Bool, e = .returned (.tuple #[.int .i64 n, .bool b]) ∧ Below w0.heap.size w0 w'
/-- What was looked for lies in its block. -/
def BsAt (w0 w : World) (g : Nat) (a b : Int) : Prop := Below w0.heap.size w0 w ∧ w.heap[g]? = some (.cells #[.int .i64 a, .int .i64 b] 24 (0, 0))
section
variable {w0 w w1 : World} {g : Nat} {a b : Int}
theorem BsAt.below (h : BsAt w0 w g a b) (hb : Below w.heap.size w w1) : BsAt w0 w1 g a b := ⟨below_step h.1 hb, blk_below h.2 hb⟩
theorem BsAt.drew (h : BsAt w0 w g a b) : BsAt w0 w.drew g a b := h.below (below_drew1 (Below.refl _ _))
theorem BsAt.c0 (h : BsAt w0 w g a b) : w.cell? ⟨g, 0, none⟩ = some (.int .i64 a) := (blk_cell h.2 0).trans rfl
theorem BsAt.c1 (h : BsAt w0 w g a b) : w.cell? ⟨g, 1, none⟩ = some (.int .i64 b) := (blk_cell h.2 1).trans rfl
theorem BsAt.cmp (h : BsAt w0 w g a b) (p q : Int) : Calls Try.prog 19 #[.agg #[.int .i64 p, .int .i64 q], .agg #[.int .i64 a, .int .i64 b]] w fun e w' => e = .returned (.int .i64 (cmpT p q a b)) ∧ BsAt w0 w' g a b :=
  (sleep_compare.calls 9 p q a b _ w (sleep_compare.at_ p q a b)).mono fun e w' ⟨he, hb⟩ => ⟨he, h.below hb⟩
end
def BsInv (l : List S24) (t : S24) (i j : Int) : Prop :=
  0 ≤ i ∧ i ≤ j ∧ j ≤ l.length ∧ (∀ k : Nat, (k : Int) < i → aheadT (rd_T24 l k) t = true) ∧ (∀ k : Nat, j ≤ (k : Int) → k < l.length → aheadT (rd_T24 l k) t = false)
theorem BsInv.up {l : List S24} {t : S24} {i j h : Int} (hm : mayPre l l.length = true) (hv : BsInv l t i j) (h0 : i ≤ h) (h1 : h < j) (ha : aheadT (rd_T24 l h) t = true) : BsInv l t (h + 1) j := by
  obtain ⟨a1, a2, a3, a4, a5⟩ := hv
  refine ⟨by omega, by omega, a3, fun k hk => ?_, a5⟩
  by_cases e : (k : Int) = h
  · rwa [e]
  · obtain ⟨d, hd⟩ : ∃ d : Nat, h = ((k + d + 1 : Nat) : Int) := ⟨(h - k - 1).toNat, by omega⟩
    rw [hd] at ha
    exact aheadT_trans (may_sorted hm d k (by omega)) ha
theorem BsInv.down {l : List S24} {t : S24} {i j h : Int} (hm : mayPre l l.length = true) (hv : BsInv l t i j) (h0 : i ≤ h) (h1 : h < j) (ha : aheadT (rd_T24 l h) t = false) : BsInv l t i h := by
  obtain ⟨a1, a2, a3, a4, a5⟩ := hv
  refine ⟨a1, h0, by omega, a4, fun k hk hk2 => ?_⟩
  by_cases e : (k : Int) = h
  · rwa [e]
  · obtain ⟨d, hd⟩ : ∃ d : Nat, k = h.toNat + d + 1 := ⟨k - h.toNat - 1, by omega⟩
    cases hq : aheadT (rd_T24 l k) t with
    | false => rfl
    | true =>
      have h2 := may_sorted hm d h.toNat (by omega)
      rw [← hd, show ((h.toNat : Nat) : Int) = h by omega] at h2
      rw [aheadT_trans h2 hq] at ha
      cases ha
theorem BsInv.done {l : List S24} {t : S24} {i : Int} (hv : BsInv l t i i) : ((bsT l t : Nat) : Int) = i := by
  obtain ⟨a1, a2, a3, a4, a5⟩ := hv
  have := bsT_of (l := l) (t := t) (i := i.toNat) (by omega) (fun k hk => a4 k (by omega)) (fun hk => by have := a5 i.toNat (by omega) hk; rwa [show ((i.toNat : Nat) : Int) = i by omega] at this ⊢)
  omega
set_option maxHeartbeats 4000000 in
set_option maxRecDepth 100000 in
theorem bsearch_calls (A0 : Option Addr) (c0 : Nat) (l0 : List S24) (a b : Int) (w : World) (hr0 : Kd.C k24 w A0 l0.length l0) (hl : l0.length < 8796093022208) (hm : mayPre l0 l0.length = true) :
    Calls Try.prog 18 #[.slice A0 l0.length c0, .agg #[.int .i64 a, .int .i64 b], .func (.func 19) #[] #[]] w (AnyBool (bsT l0 ⟨a, b⟩) w) := by
  have HR := Aside0.mk hr0
  have HM := Aside0.mk hm
  have HL := Aside0.mk hl
  clear hr0 hm hl
  go_enter Try.func18, Try.ntmps18
  go_wp2
  go_loopg [9, 10] (l0.length + 1) (fun kq v9 v10 w' => ∃ i j : Int, v9 = .int .i64 i ∧ v10 = .int .i64 j ∧ Aside0 (BsInv l0 ⟨a, b⟩ i j ∧ j - i < (kq : Int)) ∧ Aside0 (BsAt w w' w.heap.size a b))
  case atStart => exact ⟨0, l0.length, rfl, rfl, ⟨⟨by omega, by omega, by omega, fun k hk => by omega, fun k hk hk2 => by omega⟩, by omega⟩, ⟨below_alloc (Below.refl _ _) _, blk_new _ _⟩⟩
  case round =>
    obtain ⟨i, j, rfl, rfl, HA, HS⟩ := hrel
    cases gk with
    | zero => exact absurd HA.out.2 (by have := HA.out.1.2.1; omega)
    | succ k1 =>
    by_cases d1 : i < j
    · have d1b : decide (i < j) = true := decide_eq_true d1
      have hmid := mid_ i j HA.out.1.1 d1 (by have := HA.out.1.2.2.1; have := HL.out; omega)
      have hs0 : 0 ≤ i + j := by have := HA.out.1.1; omega
      have hs1 : i + j < 9223372036854775808 := by have := HA.out.1.2.2.1; have := HL.out; omega
      go_wp2
      generalize (i + j) / 2 = h at hmid ⊢
      have hh0 : 0 ≤ h := by have := HA.out.1.1; omega
      have hh1 : h < (l0.length : Int) := by have := HA.out.1.2.2.1; omega
      obtain ⟨ad, ea, hy0, hy1⟩ := at_T24 HR.out h hh0 hh1
      cases ea
      generalize hp : (rd_T24 l0 h).f0 = p at hy0
      generalize hq : (rd_T24 l0 h).f1 = q at hy1
      have HPQ := Aside0.mk (show (rd_T24 l0 h) = ⟨p, q⟩ by rw [← hp, ← hq])
      clear hp hq
      have HY := Aside0.mk (And.intro hy0 hy1)
      clear hy0 hy1
      have HH := Aside0.mk (And.intro hmid (And.intro hh0 (And.intro hh1 (And.intro hs0 hs1))))
      clear hmid hs0 hs1 d1
      replace hh0 := eq_true hh0
      replace hh1 := eq_true hh1
      have hcl := cmpT_lt ⟨p, q⟩ ⟨a, b⟩
      simp only at hcl
      cases b6 : aheadT ⟨p, q⟩ ⟨a, b⟩ with
      | true =>
        rw [b6] at hcl
        have HV := Aside0.mk (HA.out.1.up HM.out HH.out.1.1 HH.out.1.2 (by rw [HPQ.out]; exact b6))
        refine start_ (n := 8) (S := fun w' => w'.cell? ⟨w.heap.size, 0, none⟩ = some (.int .i64 a) ∧ w'.cell? ⟨w.heap.size, 1, none⟩ = some (.int .i64 b) ∧ w'.cell? (ad.add (h.toNat * 2)) = some (.int .i64 p) ∧ w'.cell? ⟨(ad.add (h.toNat * 2)).block, (ad.add (h.toNat * 2)).off + 1, none⟩ = some (.int .i64 q) ∧ BsAt w w' w.heap.size a b) (ds := []) #[false, false, false, false, false, false, false, false] (by kernel_rfl) rfl rfl ⟨HS.out.drew.c0, HS.out.drew.c1, (HS.out.drew.1.cell (World.block_lt_of_cell? w _ HY.out.1)).trans HY.out.1, (HS.out.drew.1.cell (World.block_lt_of_cell? w _ HY.out.2)).trans HY.out.2, HS.out.drew⟩ (fun hHeld => ?_)
        refine with_tabW sleep_Put_slices_BinarySearchFunc_api_Timer.tab5 sleep_Put_slices_BinarySearchFunc_api_Timer.bits5 (fun HT_ HW_ => ?_)
        refine pure_ (i := 0) (N := some 24) (v := ?_) (a' := ?_) #[true, false, false, false, false, false, false, false] rfl rfl (any_of HT_.out (by kernel_rfl)) (fun _ _ _ h => h) (Or.inl ⟨by rfl, ?_⟩) ?_ ?_
        rotate_left
        · intro w'
          go_simp
          with_reducible rfl
        rotate_left
        · simp only [Act.put, List.setIfInBounds_toArray, List.set_cons_zero, List.set_cons_succ, i64_w, i32_w]
          rfl
        refine pure_ (i := 1) (N := some 25) (v := ?_) (a' := ?_) #[true, true, false, false, false, false, false, false] rfl rfl (any_of HT_.out (by kernel_rfl)) (fun _ _ _ h => h) (Or.inl ⟨by rfl, ?_⟩) ?_ ?_
        rotate_left
        · intro w'
          go_simp
          with_reducible rfl
        rotate_left
        · simp only [Act.put, List.setIfInBounds_toArray, List.set_cons_zero, List.set_cons_succ, i64_w, i32_w]
          rfl
        refine pure_ (i := 2) (N := some 26) (v := ?_) (a' := ?_) #[true, true, true, false, false, false, false, false] rfl rfl (any_of HT_.out (by kernel_rfl)) (fun _ _ _ h => h) (Or.inl ⟨by rfl, ?_⟩) ?_ ?_
        rotate_left
        · intro w'
          go_simp
          with_reducible rfl
        rotate_left
        · simp only [Act.put, List.setIfInBounds_toArray, List.set_cons_zero, List.set_cons_succ, i64_w, i32_w]
          rfl
        refine pure_ (i := 3) (N := some 27) (v := ?_) (a' := ?_) #[true, true, true, true, false, false, false, false] rfl rfl (any_of HT_.out (by kernel_rfl)) (fun _ _ _ h => h) (Or.inl ⟨by rfl, ?_⟩) ?_ ?_
        rotate_left
        · intro w'
          go_simp
          with_reducible rfl
        rotate_left
        · simp only [Act.put, List.setIfInBounds_toArray, List.set_cons_zero, List.set_cons_succ, i64_w, i32_w]
          rfl
        refine take_ (i := 4) (N := some 28) (v := ?_) (a' := ?_) #[true, true, true, true, true, false, false, false] rfl rfl (take_ofW HT_.out HW_.out (by kernel_rfl)) (fun _ _ _ h => h) (Or.inl ⟨by rfl, ?_⟩) hHeld ?_ ?_
        rotate_left
        · rintro w' ⟨s0, s1, s2, s3, s4⟩
          go_simp
          with_reducible rfl
        rotate_left
        · simp only [Act.put, List.setIfInBounds_toArray, List.set_cons_zero, List.set_cons_succ, i64_w, i32_w]
          rfl
        refine take_ (i := 5) (N := some 29) (v := ?_) (a' := ?_) #[true, true, true, true, true, true, false, false] rfl rfl (take_ofW HT_.out HW_.out (by kernel_rfl)) (fun _ _ _ h => h) (Or.inl ⟨by rfl, ?_⟩) hHeld ?_ ?_
        rotate_left
        · rintro w' ⟨s0, s1, s2, s3, s4⟩
          go_simp
          with_reducible rfl
        rotate_left
        · simp only [Act.put, List.setIfInBounds_toArray, List.set_cons_zero, List.set_cons_succ, i64_w, i32_w]
          rfl
        refine one_ (i := 6) (N := some 30) #[true, true, true, true, true, true, true, false] rfl rfl (one_of HT_.out (by kernel_rfl)) (by decide) (fun K hK => ?_)
        refine Own.goesV_ Try.func19 (by kernel_rfl) rfl (#[.agg #[.int .i64 p, .int .i64 q], .agg #[.int .i64 a, .int .i64 b]]) (#[]) (by rfl) rfl rfl rfl (by simp only [List.map_toArray, List.map_cons, List.map_nil, List.append_toArray, List.cons_append, List.nil_append]; rfl) ?_
        with_reducible refine (BsAt.cmp hHeld.2.2.2.2 p q).mono ?_
        rintro e w4 ⟨rfl, HJ⟩
        refine ⟨_, rfl, ?_⟩
        refine hK.out _ _ ⟨HJ.c0, HJ.c1, (HJ.1.cell (World.block_lt_of_cell? w _ HY.out.1)).trans HY.out.1, (HJ.1.cell (World.block_lt_of_cell? w _ HY.out.2)).trans HY.out.2, HJ⟩ (fun hHeld => ?_)
        clear hK K
        refine norm_ (a' := ?_) ?_ ?_
        rotate_left
        · show Act.put _ (some 30) _ = _
          simp only [Act.put, List.setIfInBounds_toArray, List.set_cons_zero, List.set_cons_succ, i64_w, i32_w]
          rfl
        refine pure_ (i := 7) (N := some 31) (v := ?_) (a' := ?_) #[true, true, true, true, true, true, true, true] rfl rfl (any_of HT_.out (by kernel_rfl)) (fun _ _ _ h => h) (Or.inl ⟨by rfl, ?_⟩) ?_ ?_
        rotate_left
        · intro w'
          go_simp
          with_reducible rfl
        rotate_left
        · simp only [Act.put, List.setIfInBounds_toArray, List.set_cons_zero, List.set_cons_succ, i64_w, i32_w]
          rfl
        refine done_ (done_of HT_.out (by kernel_rfl)) ?_
        have HS2 := Aside0.mk hHeld.2.2.2.2
        clear hHeld
        have hw1 : 0 ≤ h + 1 := by have := HH.out.2.1; omega
        have hw2 : h + 1 < 9223372036854775808 := by have := HH.out.2.2.1; have := HL.out; omega
        go_wp2
        go_roundg k1
        case rel => exact ⟨h + 1, j, rfl, rfl, ⟨HV.out, by have := HA.out.2; have := HH.out.1; omega⟩, HS2⟩
        case measure => exact Nat.lt_succ_self _
      | false =>
        rw [b6] at hcl
        have HV := Aside0.mk (HA.out.1.down HM.out HH.out.1.1 HH.out.1.2 (by rw [HPQ.out]; exact b6))
        refine start_ (n := 8) (S := fun w' => w'.cell? ⟨w.heap.size, 0, none⟩ = some (.int .i64 a) ∧ w'.cell? ⟨w.heap.size, 1, none⟩ = some (.int .i64 b) ∧ w'.cell? (ad.add (h.toNat * 2)) = some (.int .i64 p) ∧ w'.cell? ⟨(ad.add (h.toNat * 2)).block, (ad.add (h.toNat * 2)).off + 1, none⟩ = some (.int .i64 q) ∧ BsAt w w' w.heap.size a b) (ds := []) #[false, false, false, false, false, false, false, false] (by kernel_rfl) rfl rfl ⟨HS.out.drew.c0, HS.out.drew.c1, (HS.out.drew.1.cell (World.block_lt_of_cell? w _ HY.out.1)).trans HY.out.1, (HS.out.drew.1.cell (World.block_lt_of_cell? w _ HY.out.2)).trans HY.out.2, HS.out.drew⟩ (fun hHeld => ?_)
        refine with_tabW sleep_Put_slices_BinarySearchFunc_api_Timer.tab5 sleep_Put_slices_BinarySearchFunc_api_Timer.bits5 (fun HT_ HW_ => ?_)
        refine pure_ (i := 0) (N := some 24) (v := ?_) (a' := ?_) #[true, false, false, false, false, false, false, false] rfl rfl (any_of HT_.out (by kernel_rfl)) (fun _ _ _ h => h) (Or.inl ⟨by rfl, ?_⟩) ?_ ?_
        rotate_left
        · intro w'
          go_simp
          with_reducible rfl
        rotate_left
        · simp only [Act.put, List.setIfInBounds_toArray, List.set_cons_zero, List.set_cons_succ, i64_w, i32_w]
          rfl
        refine pure_ (i := 1) (N := some 25) (v := ?_) (a' := ?_) #[true, true, false, false, false, false, false, false] rfl rfl (any_of HT_.out (by kernel_rfl)) (fun _ _ _ h => h) (Or.inl ⟨by rfl, ?_⟩) ?_ ?_
        rotate_left
        · intro w'
          go_simp
          with_reducible rfl
        rotate_left
        · simp only [Act.put, List.setIfInBounds_toArray, List.set_cons_zero, List.set_cons_succ, i64_w, i32_w]
          rfl
        refine pure_ (i := 2) (N := some 26) (v := ?_) (a' := ?_) #[true, true, true, false, false, false, false, false] rfl rfl (any_of HT_.out (by kernel_rfl)) (fun _ _ _ h => h) (Or.inl ⟨by rfl, ?_⟩) ?_ ?_
        rotate_left
        · intro w'
          go_simp
          with_reducible rfl
        rotate_left
        · simp only [Act.put, List.setIfInBounds_toArray, List.set_cons_zero, List.set_cons_succ, i64_w, i32_w]
          rfl
        refine pure_ (i := 3) (N := some 27) (v := ?_) (a' := ?_) #[true, true, true, true, false, false, false, false] rfl rfl (any_of HT_.out (by kernel_rfl)) (fun _ _ _ h => h) (Or.inl ⟨by rfl, ?_⟩) ?_ ?_
        rotate_left
        · intro w'
          go_simp
          with_reducible rfl
        rotate_left
        · simp only [Act.put, List.setIfInBounds_toArray, List.set_cons_zero, List.set_cons_succ, i64_w, i32_w]
          rfl
        refine take_ (i := 4) (N := some 28) (v := ?_) (a' := ?_) #[true, true, true, true, true, false, false, false] rfl rfl (take_ofW HT_.out HW_.out (by kernel_rfl)) (fun _ _ _ h => h) (Or.inl ⟨by rfl, ?_⟩) hHeld ?_ ?_
        rotate_left
        · rintro w' ⟨s0, s1, s2, s3, s4⟩
          go_simp
          with_reducible rfl
        rotate_left
        · simp only [Act.put, List.setIfInBounds_toArray, List.set_cons_zero, List.set_cons_succ, i64_w, i32_w]
          rfl
        refine take_ (i := 5) (N := some 29) (v := ?_) (a' := ?_) #[true, true, true, true, true, true, false, false] rfl rfl (take_ofW HT_.out HW_.out (by kernel_rfl)) (fun _ _ _ h => h) (Or.inl ⟨by rfl, ?_⟩) hHeld ?_ ?_
        rotate_left
        · rintro w' ⟨s0, s1, s2, s3, s4⟩
          go_simp
          with_reducible rfl
        rotate_left
        · simp only [Act.put, List.setIfInBounds_toArray, List.set_cons_zero, List.set_cons_succ, i64_w, i32_w]
          rfl
        refine one_ (i := 6) (N := some 30) #[true, true, true, true, true, true, true, false] rfl rfl (one_of HT_.out (by kernel_rfl)) (by decide) (fun K hK => ?_)
        refine Own.goesV_ Try.func19 (by kernel_rfl) rfl (#[.agg #[.int .i64 p, .int .i64 q], .agg #[.int .i64 a, .int .i64 b]]) (#[]) (by rfl) rfl rfl rfl (by simp only [List.map_toArray, List.map_cons, List.map_nil, List.append_toArray, List.cons_append, List.nil_append]; rfl) ?_
        with_reducible refine (BsAt.cmp hHeld.2.2.2.2 p q).mono ?_
        rintro e w4 ⟨rfl, HJ⟩
        refine ⟨_, rfl, ?_⟩
        refine hK.out _ _ ⟨HJ.c0, HJ.c1, (HJ.1.cell (World.block_lt_of_cell? w _ HY.out.1)).trans HY.out.1, (HJ.1.cell (World.block_lt_of_cell? w _ HY.out.2)).trans HY.out.2, HJ⟩ (fun hHeld => ?_)
        clear hK K
        refine norm_ (a' := ?_) ?_ ?_
        rotate_left
        · show Act.put _ (some 30) _ = _
          simp only [Act.put, List.setIfInBounds_toArray, List.set_cons_zero, List.set_cons_succ, i64_w, i32_w]
          rfl
        refine pure_ (i := 7) (N := some 31) (v := ?_) (a' := ?_) #[true, true, true, true, true, true, true, true] rfl rfl (any_of HT_.out (by kernel_rfl)) (fun _ _ _ h => h) (Or.inl ⟨by rfl, ?_⟩) ?_ ?_
        rotate_left
        · intro w'
          go_simp
          with_reducible rfl
        rotate_left
        · simp only [Act.put, List.setIfInBounds_toArray, List.set_cons_zero, List.set_cons_succ, i64_w, i32_w]
          rfl
        refine done_ (done_of HT_.out (by kernel_rfl)) ?_
        have HS2 := Aside0.mk hHeld.2.2.2.2
        clear hHeld
        go_wp2
        go_roundg k1
        case rel => exact ⟨i, h, rfl, rfl, ⟨HV.out, by have := HA.out.2; have := HH.out.1; omega⟩, HS2⟩
        case measure => exact Nat.lt_succ_self _
    · have d1b : decide (i < j) = false := decide_eq_false d1
      obtain rfl : i = j := by have := HA.out.1.2.1; omega
      clear d1
      have HD := Aside0.mk HA.out.1.done
      go_wp2
      by_cases d2 : i < (l0.length : Int)
      · have d2b : decide (i < (l0.length : Int)) = true := decide_eq_true d2
        have hh0 : 0 ≤ i := HA.out.1.1
        obtain ⟨h, rfl⟩ : ∃ h, i = h := ⟨_, rfl⟩
        obtain ⟨ad, ea, hy0, hy1⟩ := at_T24 HR.out i hh0 d2
        cases ea
        generalize hp : (rd_T24 l0 i).f0 = p at hy0
        generalize hq : (rd_T24 l0 i).f1 = q at hy1
        have HPQ := Aside0.mk (show (rd_T24 l0 i) = ⟨p, q⟩ by rw [← hp, ← hq])
        clear hp hq
        have HY := Aside0.mk (And.intro hy0 hy1)
        clear hy0 hy1
        replace hh0 := eq_true hh0
        replace d2 := eq_true d2
        cases b7 : decide (cmpT p q a b = 0) with
        | true =>
          have b7b : (cmpT p q a b == 0) = true := by rw [← b7]; rfl
          refine start_ (n := 16) (S := fun w' => w'.cell? ⟨w.heap.size, 0, none⟩ = some (.int .i64 a) ∧ w'.cell? ⟨w.heap.size, 1, none⟩ = some (.int .i64 b) ∧ w'.cell? (ad.add (i.toNat * 2)) = some (.int .i64 p) ∧ w'.cell? ⟨(ad.add (i.toNat * 2)).block, (ad.add (i.toNat * 2)).off + 1, none⟩ = some (.int .i64 q) ∧ BsAt w w' w.heap.size a b) (ds := []) #[false, false, false, false, false, false, false, false, false, false, false, false, false, false, false, false] (by kernel_rfl) rfl rfl ⟨HS.out.drew.c0, HS.out.drew.c1, (HS.out.drew.1.cell (World.block_lt_of_cell? w _ HY.out.1)).trans HY.out.1, (HS.out.drew.1.cell (World.block_lt_of_cell? w _ HY.out.2)).trans HY.out.2, HS.out.drew⟩ (fun hHeld => ?_)
          refine with_tabW sleep_Put_slices_BinarySearchFunc_api_Timer.tab8 sleep_Put_slices_BinarySearchFunc_api_Timer.bits8 (fun HT_ HW_ => ?_)
          refine pure_ (i := 0) (N := some 35) (v := ?_) (a' := ?_) #[true, false, false, false, false, false, false, false, false, false, false, false, false, false, false, false] rfl rfl (any_of HT_.out (by kernel_rfl)) (fun _ _ _ h => h) (Or.inl ⟨by rfl, ?_⟩) ?_ ?_
          rotate_left
          · intro w'
            go_simp
            with_reducible rfl
          rotate_left
          · simp only [Act.put, List.setIfInBounds_toArray, List.set_cons_zero, List.set_cons_succ, i64_w, i32_w]
            rfl
          refine pure_ (i := 1) (N := some 36) (v := ?_) (a' := ?_) #[true, true, false, false, false, false, false, false, false, false, false, false, false, false, false, false] rfl rfl (any_of HT_.out (by kernel_rfl)) (fun _ _ _ h => h) (Or.inl ⟨by rfl, ?_⟩) ?_ ?_
          rotate_left
          · intro w'
            go_simp
            with_reducible rfl
          rotate_left
          · simp only [Act.put, List.setIfInBounds_toArray, List.set_cons_zero, List.set_cons_succ, i64_w, i32_w]
            rfl
          refine pure_ (i := 2) (N := some 37) (v := ?_) (a' := ?_) #[true, true, true, false, false, false, false, false, false, false, false, false, false, false, false, false] rfl rfl (any_of HT_.out (by kernel_rfl)) (fun _ _ _ h => h) (Or.inl ⟨by rfl, ?_⟩) ?_ ?_
          rotate_left
          · intro w'
            go_simp
            with_reducible rfl
          rotate_left
          · simp only [Act.put, List.setIfInBounds_toArray, List.set_cons_zero, List.set_cons_succ, i64_w, i32_w]
            rfl
          refine pure_ (i := 3) (N := some 38) (v := ?_) (a' := ?_) #[true, true, true, true, false, false, false, false, false, false, false, false, false, false, false, false] rfl rfl (any_of HT_.out (by kernel_rfl)) (fun _ _ _ h => h) (Or.inl ⟨by rfl, ?_⟩) ?_ ?_
          rotate_left
          · intro w'
            go_simp
            with_reducible rfl
          rotate_left
          · simp only [Act.put, List.setIfInBounds_toArray, List.set_cons_zero, List.set_cons_succ, i64_w, i32_w]
            rfl
          refine pure_ (i := 4) (N := some 39) (v := ?_) (a' := ?_) #[true, true, true, true, true, false, false, false, false, false, false, false, false, false, false, false] rfl rfl (any_of HT_.out (by kernel_rfl)) (fun _ _ _ h => h) (Or.inl ⟨by rfl, ?_⟩) ?_ ?_
          rotate_left
          · intro w'
            go_simp
            with_reducible rfl
          rotate_left
          · simp only [Act.put, List.setIfInBounds_toArray, List.set_cons_zero, List.set_cons_succ, i64_w, i32_w]
            rfl
          refine pure_ (i := 5) (N := some 40) (v := ?_) (a' := ?_) #[true, true, true, true, true, true, false, false, false, false, false, false, false, false, false, false] rfl rfl (any_of HT_.out (by kernel_rfl)) (fun _ _ _ h => h) (Or.inl ⟨by rfl, ?_⟩) ?_ ?_
          rotate_left
          · intro w'
            go_simp
            with_reducible rfl
          rotate_left
          · simp only [Act.put, List.setIfInBounds_toArray, List.set_cons_zero, List.set_cons_succ, i64_w, i32_w]
            rfl
          refine pure_ (i := 6) (N := some 41) (v := ?_) (a' := ?_) #[true, true, true, true, true, true, true, false, false, false, false, false, false, false, false, false] rfl rfl (any_of HT_.out (by kernel_rfl)) (fun _ _ _ h => h) (Or.inl ⟨by rfl, ?_⟩) ?_ ?_
          rotate_left
          · intro w'
            go_simp
            with_reducible rfl
          rotate_left
          · simp only [Act.put, List.setIfInBounds_toArray, List.set_cons_zero, List.set_cons_succ, i64_w, i32_w]
            rfl
          refine pure_ (i := 7) (N := some 42) (v := ?_) (a' := ?_) #[true, true, true, true, true, true, true, true, false, false, false, false, false, false, false, false] rfl rfl (any_of HT_.out (by kernel_rfl)) (fun _ _ _ h => h) (Or.inl ⟨by rfl, ?_⟩) ?_ ?_
          rotate_left
          · intro w'
            go_simp
            with_reducible rfl
          rotate_left
          · simp only [Act.put, List.setIfInBounds_toArray, List.set_cons_zero, List.set_cons_succ, i64_w, i32_w]
            rfl
          refine pure_ (i := 8) (N := some 43) (v := ?_) (a' := ?_) #[true, true, true, true, true, true, true, true, true, false, false, false, false, false, false, false] rfl rfl (any_of HT_.out (by kernel_rfl)) (fun _ _ _ h => h) (Or.inl ⟨by rfl, ?_⟩) ?_ ?_
          rotate_left
          · intro w'
            go_simp
            with_reducible rfl
          rotate_left
          · simp only [Act.put, List.setIfInBounds_toArray, List.set_cons_zero, List.set_cons_succ, i64_w, i32_w]
            rfl
          refine take_ (i := 9) (N := some 44) (v := ?_) (a' := ?_) #[true, true, true, true, true, true, true, true, true, true, false, false, false, false, false, false] rfl rfl (take_ofW HT_.out HW_.out (by kernel_rfl)) (fun _ _ _ h => h) (Or.inl ⟨by rfl, ?_⟩) hHeld ?_ ?_
          rotate_left
          · rintro w' ⟨s0, s1, s2, s3, s4⟩
            go_simp
            with_reducible rfl
          rotate_left
          · simp only [Act.put, List.setIfInBounds_toArray, List.set_cons_zero, List.set_cons_succ, i64_w, i32_w]
            rfl
          refine take_ (i := 10) (N := some 45) (v := ?_) (a' := ?_) #[true, true, true, true, true, true, true, true, true, true, true, false, false, false, false, false] rfl rfl (take_ofW HT_.out HW_.out (by kernel_rfl)) (fun _ _ _ h => h) (Or.inl ⟨by rfl, ?_⟩) hHeld ?_ ?_
          rotate_left
          · rintro w' ⟨s0, s1, s2, s3, s4⟩
            go_simp
            with_reducible rfl
          rotate_left
          · simp only [Act.put, List.setIfInBounds_toArray, List.set_cons_zero, List.set_cons_succ, i64_w, i32_w]
            rfl
          refine one_ (i := 11) (N := some 46) #[true, true, true, true, true, true, true, true, true, true, true, true, false, false, false, false] rfl rfl (one_of HT_.out (by kernel_rfl)) (by decide) (fun K hK => ?_)
          refine Own.goesV_ Try.func19 (by kernel_rfl) rfl (#[.agg #[.int .i64 p, .int .i64 q], .agg #[.int .i64 a, .int .i64 b]]) (#[]) (by rfl) rfl rfl rfl (by simp only [List.map_toArray, List.map_cons, List.map_nil, List.append_toArray, List.cons_append, List.nil_append]; rfl) ?_
          with_reducible refine (BsAt.cmp hHeld.2.2.2.2 p q).mono ?_
          rintro e w4 ⟨rfl, HJ⟩
          refine ⟨_, rfl, ?_⟩
          refine hK.out _ _ ⟨HJ.c0, HJ.c1, (HJ.1.cell (World.block_lt_of_cell? w _ HY.out.1)).trans HY.out.1, (HJ.1.cell (World.block_lt_of_cell? w _ HY.out.2)).trans HY.out.2, HJ⟩ (fun hHeld => ?_)
          clear hK K
          refine norm_ (a' := ?_) ?_ ?_
          rotate_left
          · show Act.put _ (some 46) _ = _
            simp only [Act.put, List.setIfInBounds_toArray, List.set_cons_zero, List.set_cons_succ, i64_w, i32_w]
            rfl
          refine pure_ (i := 12) (N := some 47) (v := ?_) (a' := ?_) #[true, true, true, true, true, true, true, true, true, true, true, true, true, false, false, false] rfl rfl (any_of HT_.out (by kernel_rfl)) (fun _ _ _ h => h) (Or.inl ⟨by rfl, ?_⟩) ?_ ?_
          rotate_left
          · intro w'
            go_simp
            with_reducible rfl
          rotate_left
          · simp only [Act.put, List.setIfInBounds_toArray, List.set_cons_zero, List.set_cons_succ, i64_w, i32_w]
            rfl
          refine pure_ (i := 13) (N := some 48) (v := ?_) (a' := ?_) #[true, true, true, true, true, true, true, true, true, true, true, true, true, true, false, false] rfl rfl (any_of HT_.out (by kernel_rfl)) (fun _ _ _ h => h) (Or.inl ⟨by rfl, ?_⟩) ?_ ?_
          rotate_left
          · intro w'
            go_simp
            with_reducible rfl
          rotate_left
          · simp only [Act.put, List.setIfInBounds_toArray, List.set_cons_zero, List.set_cons_succ, i64_w, i32_w]
            rfl
          refine pure_ (i := 14) (N := some 6) (v := ?_) (a' := ?_) #[true, true, true, true, true, true, true, true, true, true, true, true, true, true, true, false] rfl rfl (any_of HT_.out (by kernel_rfl)) (fun _ _ _ h => h) (Or.inl ⟨by rfl, ?_⟩) ?_ ?_
          rotate_left
          · intro w'
            go_simp
            with_reducible rfl
          rotate_left
          · simp only [Act.put, List.setIfInBounds_toArray, List.set_cons_zero, List.set_cons_succ, i64_w, i32_w]
            rfl
          refine pure_ (i := 15) (N := some 7) (v := ?_) (a' := ?_) #[true, true, true, true, true, true, true, true, true, true, true, true, true, true, true, true] rfl rfl (any_of HT_.out (by kernel_rfl)) (fun _ _ _ h => h) (Or.inl ⟨by rfl, ?_⟩) ?_ ?_
          rotate_left
          · intro w'
            go_simp
            with_reducible rfl
          rotate_left
          · simp only [Act.put, List.setIfInBounds_toArray, List.set_cons_zero, List.set_cons_succ, i64_w, i32_w]
            rfl
          refine done_ (done_of HT_.out (by kernel_rfl)) ?_
          have HS2 := Aside0.mk hHeld.2.2.2.2
          clear hHeld
          go_wp2
          go_ret2
          exact ⟨_, by rw [HD.out]; rfl, HS2.out.1⟩
        | false =>
          have b7b : (cmpT p q a b == 0) = false := by rw [← b7]; rfl
          refine start_ (n := 16) (S := fun w' => w'.cell? ⟨w.heap.size, 0, none⟩ = some (.int .i64 a) ∧ w'.cell? ⟨w.heap.size, 1, none⟩ = some (.int .i64 b) ∧ w'.cell? (ad.add (i.toNat * 2)) = some (.int .i64 p) ∧ w'.cell? ⟨(ad.add (i.toNat * 2)).block, (ad.add (i.toNat * 2)).off + 1, none⟩ = some (.int .i64 q) ∧ BsAt w w' w.heap.size a b) (ds := []) #[false, false, false, false, false, false, false, false, false, false, false, false, false, false, false, false] (by kernel_rfl) rfl rfl ⟨HS.out.drew.c0, HS.out.drew.c1, (HS.out.drew.1.cell (World.block_lt_of_cell? w _ HY.out.1)).trans HY.out.1, (HS.out.drew.1.cell (World.block_lt_of_cell? w _ HY.out.2)).trans HY.out.2, HS.out.drew⟩ (fun hHeld => ?_)
          refine with_tabW sleep_Put_slices_BinarySearchFunc_api_Timer.tab8 sleep_Put_slices_BinarySearchFunc_api_Timer.bits8 (fun HT_ HW_ => ?_)
          refine pure_ (i := 0) (N := some 35) (v := ?_) (a' := ?_) #[true, false, false, false, false, false, false, false, false, false, false, false, false, false, false, false] rfl rfl (any_of HT_.out (by kernel_rfl)) (fun _ _ _ h => h) (Or.inl ⟨by rfl, ?_⟩) ?_ ?_
          rotate_left
          · intro w'
            go_simp
            with_reducible rfl
          rotate_left
          · simp only [Act.put, List.setIfInBounds_toArray, List.set_cons_zero, List.set_cons_succ, i64_w, i32_w]
            rfl
          refine pure_ (i := 1) (N := some 36) (v := ?_) (a' := ?_) #[true, true, false, false, false, false, false, false, false, false, false, false, false, false, false, false] rfl rfl (any_of HT_.out (by kernel_rfl)) (fun _ _ _ h => h) (Or.inl ⟨by rfl, ?_⟩) ?_ ?_
          rotate_left
          · intro w'
            go_simp
            with_reducible rfl
          rotate_left
          · simp only [Act.put, List.setIfInBounds_toArray, List.set_cons_zero, List.set_cons_succ, i64_w, i32_w]
            rfl
          refine pure_ (i := 2) (N := some 37) (v := ?_) (a' := ?_) #[true, true, true, false, false, false, false, false, false, false, false, false, false, false, false, false] rfl rfl (any_of HT_.out (by kernel_rfl)) (fun _ _ _ h => h) (Or.inl ⟨by rfl, ?_⟩) ?_ ?_
          rotate_left
          · intro w'
            go_simp
            with_reducible rfl
          rotate_left
          · simp only [Act.put, List.setIfInBounds_toArray, List.set_cons_zero, List.set_cons_succ, i64_w, i32_w]
            rfl
          refine pure_ (i := 3) (N := some 38) (v := ?_) (a' := ?_) #[true, true, true, true, false, false, false, false, false, false, false, false, false, false, false, false] rfl rfl (any_of HT_.out (by kernel_rfl)) (fun _ _ _ h => h) (Or.inl ⟨by rfl, ?_⟩) ?_ ?_
          rotate_left
          · intro w'
            go_simp
            with_reducible rfl
          rotate_left
          · simp only [Act.put, List.setIfInBounds_toArray, List.set_cons_zero, List.set_cons_succ, i64_w, i32_w]
            rfl
          refine pure_ (i := 4) (N := some 39) (v := ?_) (a' := ?_) #[true, true, true, true, true, false, false, false, false, false, false, false, false, false, false, false] rfl rfl (any_of HT_.out (by kernel_rfl)) (fun _ _ _ h => h) (Or.inl ⟨by rfl, ?_⟩) ?_ ?_
          rotate_left
          · intro w'
            go_simp
            with_reducible rfl
          rotate_left
          · simp only [Act.put, List.setIfInBounds_toArray, List.set_cons_zero, List.set_cons_succ, i64_w, i32_w]
            rfl
          refine pure_ (i := 5) (N := some 40) (v := ?_) (a' := ?_) #[true, true, true, true, true, true, false, false, false, false, false, false, false, false, false, false] rfl rfl (any_of HT_.out (by kernel_rfl)) (fun _ _ _ h => h) (Or.inl ⟨by rfl, ?_⟩) ?_ ?_
          rotate_left
          · intro w'
            go_simp
            with_reducible rfl
          rotate_left
          · simp only [Act.put, List.setIfInBounds_toArray, List.set_cons_zero, List.set_cons_succ, i64_w, i32_w]
            rfl
          refine pure_ (i := 6) (N := some 41) (v := ?_) (a' := ?_) #[true, true, true, true, true, true, true, false, false, false, false, false, false, false, false, false] rfl rfl (any_of HT_.out (by kernel_rfl)) (fun _ _ _ h => h) (Or.inl ⟨by rfl, ?_⟩) ?_ ?_
          rotate_left
          · intro w'
            go_simp
            with_reducible rfl
          rotate_left
          · simp only [Act.put, List.setIfInBounds_toArray, List.set_cons_zero, List.set_cons_succ, i64_w, i32_w]
            rfl
          refine pure_ (i := 7) (N := some 42) (v := ?_) (a' := ?_) #[true, true, true, true, true, true, true, true, false, false, false, false, false, false, false, false] rfl rfl (any_of HT_.out (by kernel_rfl)) (fun _ _ _ h => h) (Or.inl ⟨by rfl, ?_⟩) ?_ ?_
          rotate_left
          · intro w'
            go_simp
            with_reducible rfl
          rotate_left
          · simp only [Act.put, List.setIfInBounds_toArray, List.set_cons_zero, List.set_cons_succ, i64_w, i32_w]
            rfl
          refine pure_ (i := 8) (N := some 43) (v := ?_) (a' := ?_) #[true, true, true, true, true, true, true, true, true, false, false, false, false, false, false, false] rfl rfl (any_of HT_.out (by kernel_rfl)) (fun _ _ _ h => h) (Or.inl ⟨by rfl, ?_⟩) ?_ ?_
          rotate_left
          · intro w'
            go_simp
            with_reducible rfl
          rotate_left
          · simp only [Act.put, List.setIfInBounds_toArray, List.set_cons_zero, List.set_cons_succ, i64_w, i32_w]
            rfl
          refine take_ (i := 9) (N := some 44) (v := ?_) (a' := ?_) #[true, true, true, true, true, true, true, true, true, true, false, false, false, false, false, false] rfl rfl (take_ofW HT_.out HW_.out (by kernel_rfl)) (fun _ _ _ h => h) (Or.inl ⟨by rfl, ?_⟩) hHeld ?_ ?_
          rotate_left
          · rintro w' ⟨s0, s1, s2, s3, s4⟩
            go_simp
            with_reducible rfl
          rotate_left
          · simp only [Act.put, List.setIfInBounds_toArray, List.set_cons_zero, List.set_cons_succ, i64_w, i32_w]
            rfl
          refine take_ (i := 10) (N := some 45) (v := ?_) (a' := ?_) #[true, true, true, true, true, true, true, true, true, true, true, false, false, false, false, false] rfl rfl (take_ofW HT_.out HW_.out (by kernel_rfl)) (fun _ _ _ h => h) (Or.inl ⟨by rfl, ?_⟩) hHeld ?_ ?_
          rotate_left
          · rintro w' ⟨s0, s1, s2, s3, s4⟩
            go_simp
            with_reducible rfl
          rotate_left
          · simp only [Act.put, List.setIfInBounds_toArray, List.set_cons_zero, List.set_cons_succ, i64_w, i32_w]
            rfl
          refine one_ (i := 11) (N := some 46) #[true, true, true, true, true, true, true, true, true, true, true, true, false, false, false, false] rfl rfl (one_of HT_.out (by kernel_rfl)) (by decide) (fun K hK => ?_)
          refine Own.goesV_ Try.func19 (by kernel_rfl) rfl (#[.agg #[.int .i64 p, .int .i64 q], .agg #[.int .i64 a, .int .i64 b]]) (#[]) (by rfl) rfl rfl rfl (by simp only [List.map_toArray, List.map_cons, List.map_nil, List.append_toArray, List.cons_append, List.nil_append]; rfl) ?_
          with_reducible refine (BsAt.cmp hHeld.2.2.2.2 p q).mono ?_
          rintro e w4 ⟨rfl, HJ⟩
          refine ⟨_, rfl, ?_⟩
          refine hK.out _ _ ⟨HJ.c0, HJ.c1, (HJ.1.cell (World.block_lt_of_cell? w _ HY.out.1)).trans HY.out.1, (HJ.1.cell (World.block_lt_of_cell? w _ HY.out.2)).trans HY.out.2, HJ⟩ (fun hHeld => ?_)
          clear hK K
          refine norm_ (a' := ?_) ?_ ?_
          rotate_left
          · show Act.put _ (some 46) _ = _
            simp only [Act.put, List.setIfInBounds_toArray, List.set_cons_zero, List.set_cons_succ, i64_w, i32_w]
            rfl
          refine pure_ (i := 12) (N := some 47) (v := ?_) (a' := ?_) #[true, true, true, true, true, true, true, true, true, true, true, true, true, false, false, false] rfl rfl (any_of HT_.out (by kernel_rfl)) (fun _ _ _ h => h) (Or.inl ⟨by rfl, ?_⟩) ?_ ?_
          rotate_left
          · intro w'
            go_simp
            with_reducible rfl
          rotate_left
          · simp only [Act.put, List.setIfInBounds_toArray, List.set_cons_zero, List.set_cons_succ, i64_w, i32_w]
            rfl
          refine pure_ (i := 13) (N := some 48) (v := ?_) (a' := ?_) #[true, true, true, true, true, true, true, true, true, true, true, true, true, true, false, false] rfl rfl (any_of HT_.out (by kernel_rfl)) (fun _ _ _ h => h) (Or.inl ⟨by rfl, ?_⟩) ?_ ?_
          rotate_left
          · intro w'
            go_simp
            with_reducible rfl
          rotate_left
          · simp only [Act.put, List.setIfInBounds_toArray, List.set_cons_zero, List.set_cons_succ, i64_w, i32_w]
            rfl
          refine pure_ (i := 14) (N := some 6) (v := ?_) (a' := ?_) #[true, true, true, true, true, true, true, true, true, true, true, true, true, true, true, false] rfl rfl (any_of HT_.out (by kernel_rfl)) (fun _ _ _ h => h) (Or.inl ⟨by rfl, ?_⟩) ?_ ?_
          rotate_left
          · intro w'
            go_simp
            with_reducible rfl
          rotate_left
          · simp only [Act.put, List.setIfInBounds_toArray, List.set_cons_zero, List.set_cons_succ, i64_w, i32_w]
            rfl
          refine pure_ (i := 15) (N := some 7) (v := ?_) (a' := ?_) #[true, true, true, true, true, true, true, true, true, true, true, true, true, true, true, true] rfl rfl (any_of HT_.out (by kernel_rfl)) (fun _ _ _ h => h) (Or.inl ⟨by rfl, ?_⟩) ?_ ?_
          rotate_left
          · intro w'
            go_simp
            with_reducible rfl
          rotate_left
          · simp only [Act.put, List.setIfInBounds_toArray, List.set_cons_zero, List.set_cons_succ, i64_w, i32_w]
            rfl
          refine done_ (done_of HT_.out (by kernel_rfl)) ?_
          have HS2 := Aside0.mk hHeld.2.2.2.2
          clear hHeld
          go_wp2
          go_ret2
          exact ⟨_, by rw [HD.out]; rfl, HS2.out.1⟩
      · have d2b : decide (i < (l0.length : Int)) = false := decide_eq_false d2
        clear d2
        refine start_ (n := 16) (S := fun w' => BsAt w w' w.heap.size a b) (ds := []) #[false, false, false, false, false, false, false, false, false, false, false, false, false, false, false, false] (by kernel_rfl) rfl rfl (HS.out.drew) (fun hHeld => ?_)
        refine with_tabW sleep_Put_slices_BinarySearchFunc_api_Timer.tab8 sleep_Put_slices_BinarySearchFunc_api_Timer.bits8 (fun HT_ HW_ => ?_)
        refine pure_ (i := 0) (N := some 35) (v := ?_) (a' := ?_) #[true, false, false, false, false, false, false, false, false, false, false, false, false, false, false, false] rfl rfl (any_of HT_.out (by kernel_rfl)) (fun _ _ _ h => h) (Or.inl ⟨by rfl, ?_⟩) ?_ ?_
        rotate_left
        · intro w'
          go_simp
          with_reducible rfl
        rotate_left
        · simp only [Act.put, List.setIfInBounds_toArray, List.set_cons_zero, List.set_cons_succ, i64_w, i32_w]
          rfl
        refine pure_ (i := 1) (N := some 36) (v := ?_) (a' := ?_) #[true, true, false, false, false, false, false, false, false, false, false, false, false, false, false, false] rfl rfl (any_of HT_.out (by kernel_rfl)) (fun _ _ _ h => h) (Or.inl ⟨by rfl, ?_⟩) ?_ ?_
        rotate_left
        · intro w'
          go_simp
          with_reducible rfl
        rotate_left
        · simp only [Act.put, List.setIfInBounds_toArray, List.set_cons_zero, List.set_cons_succ, i64_w, i32_w]
          rfl
        refine pure_ (i := 2) (N := some 37) (v := ?_) (a' := ?_) #[true, true, true, false, false, false, false, false, false, false, false, false, false, false, false, false] rfl rfl (any_of HT_.out (by kernel_rfl)) (fun _ _ _ h => h) (Or.inl ⟨by rfl, ?_⟩) ?_ ?_
        rotate_left
        · intro w'
          go_simp
          with_reducible rfl
        rotate_left
        · simp only [Act.put, List.setIfInBounds_toArray, List.set_cons_zero, List.set_cons_succ, i64_w, i32_w]
          rfl
        refine pure_ (i := 3) (N := some 38) (v := ?_) (a' := ?_) #[true, true, true, true, false, false, false, false, false, false, false, false, false, false, false, false] rfl rfl (any_of HT_.out (by kernel_rfl)) (fun _ _ _ h => h) (Or.inl ⟨by rfl, ?_⟩) ?_ ?_
        rotate_left
        · intro w'
          go_simp
          with_reducible rfl
        rotate_left
        · simp only [Act.put, List.setIfInBounds_toArray, List.set_cons_zero, List.set_cons_succ, i64_w, i32_w]
          rfl
        refine pure_ (i := 4) (N := some 39) (v := ?_) (a' := ?_) #[true, true, true, true, true, false, false, false, false, false, false, false, false, false, false, false] rfl rfl (any_of HT_.out (by kernel_rfl)) (fun _ _ _ h => h) (Or.inl ⟨by rfl, ?_⟩) ?_ ?_
        rotate_left
        · intro w'
          go_simp
          with_reducible rfl
        rotate_left
        · simp only [Act.put, List.setIfInBounds_toArray, List.set_cons_zero, List.set_cons_succ, i64_w, i32_w]
          rfl
        refine pure_ (i := 5) (N := some 40) (v := undef) (a' := ?_) #[true, true, true, true, true, true, false, false, false, false, false, false, false, false, false, false] rfl rfl (any_of HT_.out (by kernel_rfl)) (fun _ _ _ h => h) (Or.inr ⟨by rfl, rfl⟩) ?_ ?_
        rotate_left
        · simp only [Act.put, List.setIfInBounds_toArray, List.set_cons_zero, List.set_cons_succ, i64_w, i32_w]
          rfl
        refine pure_ (i := 6) (N := some 41) (v := undef) (a' := ?_) #[true, true, true, true, true, true, true, false, false, false, false, false, false, false, false, false] rfl rfl (any_of HT_.out (by kernel_rfl)) (fun _ _ _ h => h) (Or.inr ⟨by rfl, rfl⟩) ?_ ?_
        rotate_left
        · simp only [Act.put, List.setIfInBounds_toArray, List.set_cons_zero, List.set_cons_succ, i64_w, i32_w]
          rfl
        refine pure_ (i := 7) (N := some 42) (v := undef) (a' := ?_) #[true, true, true, true, true, true, true, true, false, false, false, false, false, false, false, false] rfl rfl (any_of HT_.out (by kernel_rfl)) (fun _ _ _ h => h) (Or.inr ⟨by rfl, rfl⟩) ?_ ?_
        rotate_left
        · simp only [Act.put, List.setIfInBounds_toArray, List.set_cons_zero, List.set_cons_succ, i64_w, i32_w]
          rfl
        refine pure_ (i := 8) (N := some 43) (v := undef) (a' := ?_) #[true, true, true, true, true, true, true, true, true, false, false, false, false, false, false, false] rfl rfl (any_of HT_.out (by kernel_rfl)) (fun _ _ _ h => h) (Or.inr ⟨by rfl, rfl⟩) ?_ ?_
        rotate_left
        · simp only [Act.put, List.setIfInBounds_toArray, List.set_cons_zero, List.set_cons_succ, i64_w, i32_w]
          rfl
        refine pure_ (i := 9) (N := some 44) (v := undef) (a' := ?_) #[true, true, true, true, true, true, true, true, true, true, false, false, false, false, false, false] rfl rfl (any_of HT_.out (by kernel_rfl)) (fun _ _ _ h => h) (Or.inr ⟨by rfl, rfl⟩) ?_ ?_
        rotate_left
        · simp only [Act.put, List.setIfInBounds_toArray, List.set_cons_zero, List.set_cons_succ, i64_w, i32_w]
          rfl
        refine pure_ (i := 10) (N := some 45) (v := undef) (a' := ?_) #[true, true, true, true, true, true, true, true, true, true, true, false, false, false, false, false] rfl rfl (any_of HT_.out (by kernel_rfl)) (fun _ _ _ h => h) (Or.inr ⟨by rfl, rfl⟩) ?_ ?_
        rotate_left
        · simp only [Act.put, List.setIfInBounds_toArray, List.set_cons_zero, List.set_cons_succ, i64_w, i32_w]
          rfl
        refine pure_ (i := 11) (N := some 46) (v := undef) (a' := ?_) #[true, true, true, true, true, true, true, true, true, true, true, true, false, false, false, false] rfl rfl (any_of HT_.out (by kernel_rfl)) (fun _ _ _ h => h) (Or.inr ⟨by rfl, rfl⟩) ?_ ?_
        rotate_left
        · simp only [Act.put, List.setIfInBounds_toArray, List.set_cons_zero, List.set_cons_succ, i64_w, i32_w]
          rfl
        refine pure_ (i := 12) (N := some 47) (v := undef) (a' := ?_) #[true, true, true, true, true, true, true, true, true, true, true, true, true, false, false, false] rfl rfl (any_of HT_.out (by kernel_rfl)) (fun _ _ _ h => h) (Or.inr ⟨by rfl, rfl⟩) ?_ ?_
        rotate_left
        · simp only [Act.put, List.setIfInBounds_toArray, List.set_cons_zero, List.set_cons_succ, i64_w, i32_w]
          rfl
        refine pure_ (i := 13) (N := some 48) (v := ?_) (a' := ?_) #[true, true, true, true, true, true, true, true, true, true, true, true, true, true, false, false] rfl rfl (any_of HT_.out (by kernel_rfl)) (fun _ _ _ h => h) (Or.inl ⟨by rfl, ?_⟩) ?_ ?_
        rotate_left
        · intro w'
          go_simp
          with_reducible rfl
        rotate_left
        · simp only [Act.put, List.setIfInBounds_toArray, List.set_cons_zero, List.set_cons_succ, i64_w, i32_w]
          rfl
        refine pure_ (i := 14) (N := some 6) (v := ?_) (a' := ?_) #[true, true, true, true, true, true, true, true, true, true, true, true, true, true, true, false] rfl rfl (any_of HT_.out (by kernel_rfl)) (fun _ _ _ h => h) (Or.inl ⟨by rfl, ?_⟩) ?_ ?_
        rotate_left
        · intro w'
          go_simp
          with_reducible rfl
        rotate_left
        · simp only [Act.put, List.setIfInBounds_toArray, List.set_cons_zero, List.set_cons_succ, i64_w, i32_w]
          rfl
        refine pure_ (i := 15) (N := some 7) (v := ?_) (a' := ?_) #[true, true, true, true, true, true, true, true, true, true, true, true, true, true, true, true] rfl rfl (any_of HT_.out (by kernel_rfl)) (fun _ _ _ h => h) (Or.inl ⟨by rfl, ?_⟩) ?_ ?_
        rotate_left
        · intro w'
          go_simp
          with_reducible rfl
        rotate_left
        · simp only [Act.put, List.setIfInBounds_toArray, List.set_cons_zero, List.set_cons_succ, i64_w, i32_w]
          rfl
        refine done_ (done_of HT_.out (by kernel_rfl)) ?_
        have HS2 := Aside0.mk hHeld
        clear hHeld
        go_wp2
        go_ret2
        exact ⟨_, by rw [HD.out]; rfl, HS2.out.1⟩
/-! #### slices.Insert of one timer into a row of the call's own -/
def InsPost (w0 : World) (r : List S24) (e : Ending) (w' : World) : Prop := ∃ v', e = .returned v' ∧ w'.ownsRow w0.heap.size 24 2 v' r.length (flatT r) ∧ Below w0.heap.size w0 w'
theorem C_oneT {W : World} {g : Nat} {a b : Int} (hg : W.heap[g]? = some (.cells #[.int .i64 a, .int .i64 b] 24 (0, 0))) : Kd.C k24 W (some ⟨g, 0, none⟩) 1 [(⟨a, b⟩ : S24)] := by
  refine ⟨rfl, by omega, fun _ => ⟨_, rfl, fun j p hj => ?_⟩⟩
  cases j with
  | succ j => simp at hj
  | zero =>
    obtain rfl : (⟨a, b⟩ : S24) = p := by simpa using hj
    refine ⟨_, rfl, k24_mk W ⟨a, b⟩, fun i u hu => ?_⟩
    rw [add_plain, blk_cell hg]
    simpa using hu
set_option maxHeartbeats 4000000 in
set_option maxRecDepth 100000 in
theorem insert_end (w0 W : World) (A : Option Addr) (c g : Nat) (l : List S24) (a b : Int) (hl : l.length < 8796093022207) (hR : W.ownsRow w0.heap.size 24 2 (.slice A l.length c) l.length (flatT l)) (hB : Below w0.heap.size w0 W)
    (hg : W.heap[g]? = some (.cells #[.int .i64 a, .int .i64 b] 24 (0, 0))) :
    Calls Try.prog 20 #[.slice A l.length c, .int .i64 (l.length : Int), .slice (some ⟨g, 0, none⟩) 1 1] W (InsPost w0 (l ++ [⟨a, b⟩])) := by
  have HR := Aside0.mk hR
  have HB := Aside0.mk hB
  have HG := Aside0.mk hg
  have HL := Aside0.mk hl
  have hlc : l.length ≤ c := own_le hR
  have hcm : c ≤ 9223372036854775807 := by
    rcases hR.2 with ⟨h, h2⟩ | ⟨g', cap, cur, h, _, _, _, hm, _⟩
    · injection h
      omega
    · injection h
      simp only [maxLen] at hm
      omega
  have hA : (∃ g', A = some ⟨g', 0, none⟩) ∨ (A = none ∧ l = [] ∧ c = 0) := by
    rcases hR.2 with ⟨h, h2⟩ | ⟨g', cap, cur, h, _, _, _, hm, _⟩
    · injection h with h3 h4 h5
      exact .inr ⟨h3, List.eq_nil_of_length_eq_zero h2, h5⟩
    · injection h with h3
      exact .inl ⟨g', h3⟩
  clear hR hB hg hl
  rcases hA with ⟨g', rfl⟩ | ⟨rfl, rfl, rfl⟩
  all_goals
    go_enter Try.func20, Try.ntmps20
    go_wp2_with (first | (at_builtin; go_loud (refine Kd.R_append_rows k24 (Rr := k24.K W) (w0 := w0) w0.heap.size rfl (.tmp 23) (.tmp 24) 22 24 _ 16 rfl Try.underlying22 info24 rfl (by decide) (by omega) _ _ [⟨a, b⟩] (some ⟨g, 0, none⟩) 1 1 (fun _ => True) (fun _ => False) rfl rfl (RT_of_own HR.out) (C_oneT HG.out) (fun x cs hx => tmKM _ _ _ x cs hx) (fun _ h => h.elim) (fun _ _ => trivial) HB.out HB.out.size (by have := HL.out; first | omega | (simp; done) | (simp; omega)) ?_); intro v1 w1 hr1 hb1 hg1 hat1; have HR1 := Aside0.mk (own_of_RT hr1); have HB1 := Aside0.mk hb1; clear hr1 hb1 hg1 hat1))
    all_goals (go_ret; exact ⟨_, rfl, HR1.out, HB1.out⟩)
theorem insert_room_list (cur : List Value) (l : List S24) (i : Nat) (t : S24) (hi : i ≤ l.length) (hc : cur.take (l.length * 2) = flatT l) (hn : (l.length + 1) * 2 ≤ cur.length) :
    let r1 := cur.take ((i + 1) * 2) ++ flatT (l.drop i) ++ cur.drop ((i + 1) * 2 + (flatT (l.drop i)).length)
    let r2 := r1.take (i * 2) ++ [Value.int .i64 t.f0, Value.int .i64 t.f1] ++ r1.drop (i * 2 + 2)
    r1.length = cur.length ∧ r2.length = cur.length ∧ r2.take ((l.length + 1) * 2) = flatT (l.take i ++ t :: l.drop i) := by
  intro r1 r2
  have hd : (flatT (l.drop i)).length = (l.length - i) * 2 := by rw [flatT_length, List.length_drop]
  have h1 : r1.length = cur.length := by
    show (cur.take ((i + 1) * 2) ++ flatT (l.drop i) ++ cur.drop ((i + 1) * 2 + (flatT (l.drop i)).length)).length = _
    rw [List.length_append, List.length_append, List.length_take, List.length_drop, hd]
    omega
  have h2 : r2.length = cur.length := by
    show (r1.take (i * 2) ++ [Value.int .i64 t.f0, Value.int .i64 t.f1] ++ r1.drop (i * 2 + 2)).length = _
    rw [List.length_append, List.length_append, List.length_take, List.length_drop, h1]
    simp
    omega
  refine ⟨h1, h2, ?_⟩
  have e1 : r1.take (i * 2) = flatT (l.take i) := by
    show (cur.take ((i + 1) * 2) ++ flatT (l.drop i) ++ cur.drop ((i + 1) * 2 + (flatT (l.drop i)).length)).take (i * 2) = _
    rw [List.append_assoc, List.take_append_of_le_length (by rw [List.length_take]; omega), List.take_take, Nat.min_eq_left (by omega), ← flatT_take l i hi, ← hc, List.take_take, Nat.min_eq_left (by omega)]
  have e2 : r1.drop (i * 2 + 2) = flatT (l.drop i) ++ cur.drop ((i + 1) * 2 + (flatT (l.drop i)).length) := by
    show (cur.take ((i + 1) * 2) ++ flatT (l.drop i) ++ cur.drop ((i + 1) * 2 + (flatT (l.drop i)).length)).drop (i * 2 + 2) = _
    rw [List.append_assoc, List.drop_left' (by rw [List.length_take]; omega)]
  show (r1.take (i * 2) ++ [Value.int .i64 t.f0, Value.int .i64 t.f1] ++ r1.drop (i * 2 + 2)).take ((l.length + 1) * 2) = _
  rw [e1, e2, ← List.append_assoc, show flatT (l.take i) ++ [Value.int .i64 t.f0, Value.int .i64 t.f1] ++ flatT (l.drop i) = flatT (l.take i ++ t :: l.drop i) by rw [flatT_append]; simp [flatT], List.take_left' (by rw [flatT_length]; simp; omega)]
set_option maxHeartbeats 4000000 in
set_option maxRecDepth 100000 in
theorem insert_room (w0 W : World) (g0 c g i : Nat) (cur : List Value) (l : List S24) (a b : Int) (hl : l.length < 8796093022207) (hi : i < l.length) (hc : l.length + 1 ≤ c) (hcm : c ≤ 9223372036854775807)
    (hb : w0.heap.size ≤ g0) (hg0 : W.heap[g0]? = some (.cells cur.toArray 24 (0, 0))) (hcs : cur.length = c * 2) (hcur : cur.take (l.length * 2) = flatT l) (hB : Below w0.heap.size w0 W)
    (hg : W.heap[g]? = some (.cells #[.int .i64 a, .int .i64 b] 24 (0, 0))) (hne : g ≠ g0) :
    Calls Try.prog 20 #[.slice (some ⟨g0, 0, none⟩) l.length c, .int .i64 (i : Int), .slice (some ⟨g, 0, none⟩) 1 1] W (InsPost w0 (l.take i ++ ⟨a, b⟩ :: l.drop i)) := by
  have HC := Aside0.mk (And.intro hg0 (And.intro hcs (And.intro hcur hne)))
  have HB := Aside0.mk hB
  have HG := Aside0.mk hg
  have HL := Aside0.mk hl
  have hi1 : (i : Int) ≤ (l.length : Int) := by omega
  have hi2 : ¬ ((i : Int) = (l.length : Int)) := by omega
  have hi3 : ¬ ((c : Int) < (l.length : Int) + 1) := by omega
  have hi4 : (l.length : Int) + 1 ≤ (c : Int) := by omega
  have hov : ∀ lb cb, (callFunc 26 #[.slice (some ⟨g, 0, none⟩) 1 1, .slice (some ⟨g0, (i + 1) * 2, none⟩) lb cb]).run Try.prog W = .ok (.value (.bool false)) W := fun lb cb => by
    rw [run_callFunc_extern Try.func26 (by kernel_rfl) (by kernel_rfl) (by kernel_rfl) (e := Extern.SlicesOverlaps.overlaps #[22, 22] #[4]) (by kernel_rfl),
      Lib.run_overlaps_apart W 22 4 24 Try.underlying22 2 (fun w => by kernel_rfl) ⟨g, 0, none⟩ ⟨g0, (i + 1) * 2, none⟩ 1 1 lb cb hne 24 24 2 (c * 2) (by simp [World.shape?, HG.out]) (by simp [World.shape?, HC.out.1, HC.out.2.1]) (by omega) (by simp [World.frozen?, HG.out]) (by simp [World.frozen?, HG.out])]
    rfl
  have hlist := insert_room_list cur l i ⟨a, b⟩ (by omega) hcur (by omega)
  have hdl : (flatT (l.drop i)).length = (l.length - i) * 2 := by rw [flatT_length, List.length_drop]
  obtain ⟨W2, hc1, hg2, hB2, hk2⟩ := Own.run_copy_own (P := Try.prog) W.drew 22 22 3 24 2 g0 ((i + 1) * 2) (l.length - i) (c - (i + 1)) ⟨g0, i * 2, none⟩ (l.length + 1 - i) (c - i) cur 24 (flatT (l.drop i)) Try.underlying22 (by kernel_rfl) hg0 (by rw [hdl, show Nat.min (l.length + 1 - i) (l.length - i) = l.length - i by simp only [Nat.min_def]; split <;> omega])
    (fun j v hj => by
      rw [← flatT_drop l i (by omega), ← hcur, List.getElem?_drop, List.getElem?_take] at hj
      split at hj
      · show W.cell? _ = _
        rw [Addr.add_lit, blk_cell hg0]
        simpa using hj
      · cases hj) (by rw [hdl]; omega) (flatT_one _) (below_drew hB) hb
  have hg3 : W2.heap[g]? = some (.cells #[.int .i64 a, .int .i64 b] 24 (0, 0)) := (hk2 g hne).trans hg
  obtain ⟨W3, hc2, hg4, hB4, hk4⟩ := Own.run_copy_own (P := Try.prog) W2 22 22 3 24 2 g0 (i * 2) (l.length + 1 - i) (c - i) ⟨g, 0, none⟩ 1 1 _ 24 [.int .i64 a, .int .i64 b] Try.underlying22 (by kernel_rfl) hg2 (by rw [show Nat.min 1 (l.length + 1 - i) = 1 by simp only [Nat.min_def]; split <;> omega]; rfl)
    (fun j v hj => by
      rw [Addr.add_lit, Nat.zero_add, blk_cell hg3]
      simpa using hj) (by have := hlist.1; simp only [List.length_cons, List.length_nil]; rw [this]; omega) (by intro u hu; simp only [List.mem_cons, List.not_mem_nil, or_false] at hu; rcases hu with rfl | rfl <;> rfl) hB2 hb
  have HO := Aside0.mk (show W3.ownsRow w0.heap.size 24 2 (.slice (some ⟨g0, 0, none⟩) (l.length + 1) c) (l.take i ++ ⟨a, b⟩ :: l.drop i).length (flatT (l.take i ++ ⟨a, b⟩ :: l.drop i)) by
    have hn : (l.take i ++ (⟨a, b⟩ : S24) :: l.drop i).length = l.length + 1 := by simp; omega
    rw [hn]
    refine ⟨by rw [flatT_length, hn], .inr ⟨g0, c, _, rfl, hb, hg4, hc, by simpa [maxLen] using hcm, ?_, ?_⟩⟩
    · have := hlist.2.1
      simp only at this
      simpa [hcs] using this
    · have := hlist.2.2
      simp only at this
      simpa using this)
  have HB4 := Aside0.mk hB4
  have HC1 := Aside0.mk hc1
  have HC2 := Aside0.mk hc2
  clear hc1 hg2 hB2 hk2 hg3 hc2 hg4 hB4 hk4 hlist hdl
  clear hB hg hg0 hcs hcur hne
  go_enter Try.func20, Try.ntmps20
  go_wp2_with (simp only [hov])
  have s2 : (0 : Int) ≤ (i : Int) + 1 := by omega
  have s3 : (i : Int) + 1 ≤ (l.length : Int) + 1 := by omega
  have s4 : ((i : Int) + 1).toNat = i + 1 := by omega
  have s5 : ¬ (c = i + 1) := by omega
  have s6 : (i : Int) ≤ (l.length : Int) + 1 := by omega
  have s7 : ¬ (c = i) := by omega
  have s8 : l.length + 1 - (i + 1) = l.length - i := by omega
  have s1 : wrap64 ((i : Int) + 1) = (i : Int) + 1 := by unfold wrap64; omega
  refine start_ (n := 9) (S := fun w' => True) (ds := []) #[false, false, false, false, false, false, false, false, false] (by kernel_rfl) rfl rfl trivial (fun hHeld => ?_)
  refine with_tabW sleep_Put_slices_Insert_api_Timer.tab15 sleep_Put_slices_Insert_api_Timer.bits15 (fun HT_ HW_ => ?_)
  refine pure_ (i := 0) (N := some 69) (v := ?_) (a' := ?_) #[true, false, false, false, false, false, false, false, false] rfl rfl (any_of HT_.out (by kernel_rfl)) (fun _ _ _ h => h) (Or.inl ⟨by rfl, ?_⟩) ?_ ?_
  rotate_left
  · intro w'
    go_simp
    with_reducible rfl
  rotate_left
  · simp only [Act.put, List.setIfInBounds_toArray, List.set_cons_zero, List.set_cons_succ, i64_w, i32_w]
    rfl
  refine pure_ (i := 1) (N := some 70) (v := ?_) (a' := ?_) #[true, true, false, false, false, false, false, false, false] rfl rfl (any_of HT_.out (by kernel_rfl)) (fun _ _ _ h => h) (Or.inl ⟨by rfl, ?_⟩) ?_ ?_
  rotate_left
  · intro w'
    go_simp
    with_reducible rfl
  rotate_left
  · simp only [Act.put, List.setIfInBounds_toArray, List.set_cons_zero, List.set_cons_succ, i64_w, i32_w]
    rfl
  refine pure_ (i := 2) (N := some 71) (v := ?_) (a' := ?_) #[true, true, true, false, false, false, false, false, false] rfl rfl (any_of HT_.out (by kernel_rfl)) (fun _ _ _ h => h) (Or.inl ⟨by rfl, ?_⟩) ?_ ?_
  rotate_left
  · intro w'
    go_simp
    with_reducible rfl
  rotate_left
  · simp only [Act.put, List.setIfInBounds_toArray, List.set_cons_zero, List.set_cons_succ, i64_w, i32_w]
    rfl
  refine pure_ (i := 3) (N := some 72) (v := ?_) (a' := ?_) #[true, true, true, true, false, false, false, false, false] rfl rfl (any_of HT_.out (by kernel_rfl)) (fun _ _ _ h => h) (Or.inl ⟨by rfl, ?_⟩) ?_ ?_
  rotate_left
  · intro w'
    go_simp
    with_reducible rfl
  rotate_left
  · simp only [Act.put, List.setIfInBounds_toArray, List.set_cons_zero, List.set_cons_succ, i64_w, i32_w]
    rfl
  refine pure_ (i := 4) (N := some 73) (v := ?_) (a' := ?_) #[true, true, true, true, true, false, false, false, false] rfl rfl (any_of HT_.out (by kernel_rfl)) (fun _ _ _ h => h) (Or.inl ⟨by rfl, ?_⟩) ?_ ?_
  rotate_left
  · intro w'
    go_simp
    with_reducible rfl
  rotate_left
  · simp only [Act.put, List.setIfInBounds_toArray, List.set_cons_zero, List.set_cons_succ, i64_w, i32_w]
    rfl
  refine pure_ (i := 5) (N := some 74) (v := ?_) (a' := ?_) #[true, true, true, true, true, true, false, false, false] rfl rfl (any_of HT_.out (by kernel_rfl)) (fun _ _ _ h => h) (Or.inl ⟨by rfl, ?_⟩) ?_ ?_
  rotate_left
  · intro w'
    go_simp
    with_reducible rfl
  rotate_left
  · simp only [Act.put, List.setIfInBounds_toArray, List.set_cons_zero, List.set_cons_succ, i64_w, i32_w]
    rfl
  refine pure_ (i := 6) (N := some 75) (v := ?_) (a' := ?_) #[true, true, true, true, true, true, true, false, false] rfl rfl (any_of HT_.out (by kernel_rfl)) (fun _ _ _ h => h) (Or.inl ⟨by rfl, ?_⟩) ?_ ?_
  rotate_left
  · intro w'
    go_simp
    with_reducible rfl
  rotate_left
  · simp only [Act.put, List.setIfInBounds_toArray, List.set_cons_zero, List.set_cons_succ, i64_w, i32_w]
    rfl
  refine pure_ (i := 7) (N := some 76) (v := ?_) (a' := ?_) #[true, true, true, true, true, true, true, true, false] rfl rfl (any_of HT_.out (by kernel_rfl)) (fun _ _ _ h => h) (Or.inl ⟨by rfl, ?_⟩) ?_ ?_
  rotate_left
  · intro w'
    go_simp
    with_reducible rfl
  rotate_left
  · simp only [Act.put, List.setIfInBounds_toArray, List.set_cons_zero, List.set_cons_succ, i64_w, i32_w]
    rfl
  refine one_ (i := 8) (N := some 77) #[true, true, true, true, true, true, true, true, true] rfl rfl (one_of HT_.out (by kernel_rfl)) (by decide) (fun K hK => ?_)
  refine Own.step_copy_run (by rfl) rfl (.tmp 73) (.tmp 76) 22 22 rfl _ _ rfl rfl HC1.out ?_
  refine hK.out _ _ trivial (fun hHeld => ?_)
  clear hK K
  refine norm_ (a' := ?_) ?_ ?_
  rotate_left
  · show Act.put _ (some 77) _ = _
    simp only [Act.put, List.setIfInBounds_toArray, List.set_cons_zero, List.set_cons_succ, i64_w, i32_w]
    rfl
  refine done_ (done_of HT_.out (by kernel_rfl)) ?_
  clear hHeld s1 s8
  go_wp2_with ((with_reducible refine gate_builtin (b := .copy) (xs := #[.tmp 80, .tmp 81]) rfl ?_); refine Own.wpList_copy_run _ rfl (.tmp 80) (.tmp 81) 22 22 rfl _ _ rfl rfl HC2.out ?_)

  go_ret
  exact ⟨_, rfl, HO.out, HB4.out⟩
theorem insert_grow_list (row : List Value) (l : List S24) (i : Nat) (t : S24) (hi : i ≤ l.length) (hc : row.take (i * 2) = flatT (l.take i)) (hn : (l.length + 1) * 2 ≤ row.length) :
    let r1 := row.take (i * 2) ++ [.int .i64 t.f0, .int .i64 t.f1] ++ row.drop (i * 2 + 2)
    let r2 := r1.take ((i + 1) * 2) ++ flatT (l.drop i) ++ r1.drop ((i + 1) * 2 + (flatT (l.drop i)).length)
    r1.length = row.length ∧ r2.length = row.length ∧ r2.take ((l.length + 1) * 2) = flatT (l.take i ++ t :: l.drop i) := by
  intro r1 r2
  have hd : (flatT (l.drop i)).length = (l.length - i) * 2 := by rw [flatT_length, List.length_drop]
  have h1 : r1.length = row.length := by
    show (row.take (i * 2) ++ [Value.int .i64 t.f0, Value.int .i64 t.f1] ++ row.drop (i * 2 + 2)).length = _
    rw [List.length_append, List.length_append, List.length_take, List.length_drop]
    simp
    omega
  have h2 : r2.length = row.length := by
    show (r1.take ((i + 1) * 2) ++ flatT (l.drop i) ++ r1.drop ((i + 1) * 2 + (flatT (l.drop i)).length)).length = _
    rw [List.length_append, List.length_append, List.length_take, List.length_drop, h1, hd]
    omega
  refine ⟨h1, h2, ?_⟩
  have e1 : r1.take ((i + 1) * 2) = flatT (l.take i) ++ [Value.int .i64 t.f0, Value.int .i64 t.f1] := by
    show (row.take (i * 2) ++ [Value.int .i64 t.f0, Value.int .i64 t.f1] ++ row.drop (i * 2 + 2)).take ((i + 1) * 2) = _
    rw [List.take_left' (by rw [List.length_append, List.length_take]; simp; omega), hc]
  show (r1.take ((i + 1) * 2) ++ flatT (l.drop i) ++ r1.drop ((i + 1) * 2 + (flatT (l.drop i)).length)).take ((l.length + 1) * 2) = _
  rw [e1, show flatT (l.take i) ++ [Value.int .i64 t.f0, Value.int .i64 t.f1] ++ flatT (l.drop i) = flatT (l.take i ++ t :: l.drop i) by rw [flatT_append]; simp [flatT], List.take_left' (by rw [flatT_length]; simp; omega)]
set_option maxHeartbeats 4000000 in
set_option maxRecDepth 100000 in
theorem insert_grow (w0 W : World) (g0 g i : Nat) (cur : List Value) (l : List S24) (a b : Int) (hl : l.length < 8796093022207) (hi : i < l.length)
    (hb : w0.heap.size ≤ g0) (hg0 : W.heap[g0]? = some (.cells cur.toArray 24 (0, 0))) (hcs : cur.length = l.length * 2) (hcur : cur.take (l.length * 2) = flatT l) (hB : Below w0.heap.size w0 W)
    (hg : W.heap[g]? = some (.cells #[.int .i64 a, .int .i64 b] 24 (0, 0))) :
    Calls Try.prog 20 #[.slice (some ⟨g0, 0, none⟩) l.length l.length, .int .i64 (i : Int), .slice (some ⟨g, 0, none⟩) 1 1] W (InsPost w0 (l.take i ++ ⟨a, b⟩ :: l.drop i)) := by
  have hi1 : (i : Int) ≤ (l.length : Int) := by omega
  have hi2 : ¬ ((i : Int) = (l.length : Int)) := by omega
  have hi3 : (l.length : Int) < (l.length : Int) + 1 := by omega
  have hdl : (flatT (l.drop i)).length = (l.length - i) * 2 := by rw [flatT_length, List.length_drop]
  obtain ⟨i0, hi0, hzz⟩ := Option.map_eq_some_iff.1 info24
  simp only [Prod.mk.injEq] at hzz
  obtain ⟨hz0, hz1, hz2⟩ := hzz
  have hik : i + (l.length + 1 - i) = l.length + 1 := by omega
  have hcl : cur = flatT l := by rw [← hcur, List.take_of_length_le (by omega)]
  have hold : (Builtin.firstCells i0.size i (.slice (some ⟨g0, 0, none⟩) i l.length)).run Try.prog W.drew = .ok (flatT (l.take i)).toArray W.drew := by
    rw [hz1]
    exact run_firstCells_some W.drew 2 i ⟨g0, 0, none⟩ i l.length (flatT (l.take i)) (by rw [flatT_length, List.length_take]; omega) (fun j v hj => by
      show W.cell? _ = _
      rw [Addr.add_lit, blk_cell hg0, Nat.zero_add, hcl]
      rw [← flatT_take l i (by omega), List.getElem?_take] at hj
      split at hj
      · simpa using hj
      · cases hj)
  obtain ⟨G, hG⟩ : ∃ G, G = grownCap W (l.length + 1) l.length 24 := ⟨_, rfl⟩
  obtain ⟨ROW, hROW⟩ : ∃ ROW : List Value, ROW = flatT (l.take i) ++ (Builtin.zeroCells (Value.agg #[.int .i64 0, .int .i64 0]).cells (l.length + 1 - i)).toList ++ (Builtin.zeroCells (Value.agg #[.int .i64 0, .int .i64 0]).cells (G - (l.length + 1))).toList := ⟨_, rfl⟩
  have hrz : ∀ ty, (Builtin.append_ #[22, 3] ty #[.slice (some ⟨g0, 0, none⟩) i l.length, .int .i64 ((l.length : Int) + 1 - (i : Int))]).run Try.prog W =
      .ok (.slice (some ⟨W.heap.size, 0, none⟩) (l.length + 1) G) (W.drew.alloc (.cells ROW.toArray 24)) := fun ty => by
    have h := Lib.run_append_grow_zeros W 22 3 ty 24 i0 _ .i64 .i64 Try.underlying22 Try.underlying3 hi0 hz0 (some ⟨g0, 0, none⟩) i l.length (flatT (l.take i)) hold (l.length + 1 - i) (by omega) (by omega) (by omega) (by omega) (by rw [hz2]; omega) (by rw [hz2, hik]; exact growslice_fits (by omega) (by omega))
    rw [hik, ← hG] at h
    rw [show ((l.length : Int) + 1 - (i : Int)) = ((l.length + 1 - i : Nat) : Int) by omega, h, hROW]
    congr 3
    apply Array.ext'
    simp [List.append_assoc]
  have hGn : l.length + 1 ≤ G := by rw [hG]; exact grownCap_ge W _ _ _
  have hG63 : G ≤ 9223372036854775807 := by
    have := grownCap_le_maxLen W (l.length + 1) l.length 24 (by unfold maxLen; omega)
    rw [← hG] at this
    unfold maxLen at this
    omega
  have hRl : ROW.length = G * 2 := by
    have z1 : (Value.agg #[.int .i64 0, .int .i64 0]).cells.size = 2 := rfl
    simp only [hROW, List.length_append, flatT_length, List.length_take, Array.length_toList, size_zeroCells, z1]
    omega
  have hRt : ROW.take (i * 2) = flatT (l.take i) := by
    rw [hROW, List.append_assoc, List.take_left' (by rw [flatT_length, List.length_take]; omega)]
  have hlist := insert_grow_list ROW l i ⟨a, b⟩ (by omega) hRt (by omega)
  have hgl : g < W.heap.size := blk_lt hg
  have hg0l : g0 < W.heap.size := blk_lt hg0
  have hB1 : Below w0.heap.size w0 (W.drew.alloc (.cells ROW.toArray 24)) := (below_drew hB).alloc hB.size _
  have hn1 : (W.drew.alloc (.cells ROW.toArray 24)).heap[W.heap.size]? = some (.cells ROW.toArray 24 (0, 0)) := blk_new W.drew _
  have hg1 : (W.drew.alloc (.cells ROW.toArray 24)).heap[g]? = some (.cells #[.int .i64 a, .int .i64 b] 24 (0, 0)) := blk_alloc (w := W.drew) hg _
  have hg01 : (W.drew.alloc (.cells ROW.toArray 24)).heap[g0]? = some (.cells cur.toArray 24 (0, 0)) := blk_alloc (w := W.drew) hg0 _
  obtain ⟨W2, hc1, hg2, hB2, hk2⟩ := Own.run_copy_own (P := Try.prog) (W.drew.alloc (.cells ROW.toArray 24)) 22 22 3 24 2 W.heap.size (i * 2) (l.length + 1 - i) (G - i) ⟨g, 0, none⟩ 1 1 ROW 24 [.int .i64 a, .int .i64 b] Try.underlying22 (by kernel_rfl) hn1 (by rw [show Nat.min 1 (l.length + 1 - i) = 1 by simp only [Nat.min_def]; split <;> omega]; rfl)
    (fun j v hj => by
      rw [Addr.add_lit, Nat.zero_add, blk_cell hg1]
      simpa using hj) (by simp only [List.length_cons, List.length_nil]; omega) (by intro u hu; simp only [List.mem_cons, List.not_mem_nil, or_false] at hu; rcases hu with rfl | rfl <;> rfl) hB1 hB.size
  have hg02 : W2.drew.heap[g0]? = some (.cells cur.toArray 24 (0, 0)) := (hk2 g0 (by omega)).trans hg01
  obtain ⟨W3, hc2, hg3, hB3, hk3⟩ := Own.run_copy_own (P := Try.prog) W2.drew 22 22 3 24 2 W.heap.size ((i + 1) * 2) (l.length - i) (G - (i + 1)) ⟨g0, i * 2, none⟩ (l.length - i) (l.length - i) _ 24 (flatT (l.drop i)) Try.underlying22 (by kernel_rfl) hg2 (by rw [hdl, show Nat.min (l.length - i) (l.length - i) = l.length - i by simp only [Nat.min_def]; split <;> omega])
    (fun j v hj => by
      rw [← flatT_drop l i (by omega), List.getElem?_drop] at hj
      rw [Addr.add_lit, blk_cell hg02, hcl]
      simpa using hj) (by have := hlist.1; simp only [List.length_cons, List.length_nil] at this ⊢; rw [this, hdl]; omega) (flatT_one _) (below_drew hB2) hB.size
  have HO := Aside0.mk (show W3.ownsRow w0.heap.size 24 2 (.slice (some ⟨W.heap.size, 0, none⟩) (l.length + 1) G) (l.take i ++ ⟨a, b⟩ :: l.drop i).length (flatT (l.take i ++ ⟨a, b⟩ :: l.drop i)) by
    have hn : (l.take i ++ (⟨a, b⟩ : S24) :: l.drop i).length = l.length + 1 := by simp; omega
    rw [hn]
    refine ⟨by rw [flatT_length, hn], .inr ⟨W.heap.size, G, _, rfl, hB.size, hg3, hGn, by simpa [maxLen] using hG63, ?_, ?_⟩⟩
    · have := hlist.2.1
      simp only at this
      simpa [hRl] using this
    · have := hlist.2.2
      simp only at this
      simpa using this)
  have HB3 := Aside0.mk hB3
  have HRZ := Aside0.mk hrz
  have HC1 := Aside0.mk hc1
  have HC2 := Aside0.mk hc2
  have HL := Aside0.mk (And.intro hl (And.intro hGn hG63))
  have HN := Aside0.mk (And.intro hi1 (And.intro hi2 hi3))
  clear hc1 hg2 hB2 hk2 hg02 hc2 hg3 hB3 hk3 hlist hdl hrz hROW hG hRl hRt hgl hg0l hB1 hn1 hg1 hg01 hold hcl hik hz0 hz1 hz2 hi0
  clear hB hg hg0 hcs hcur hb
  have t1 : ¬ (G = i) := by omega
  have t2 : (0 : Int) ≤ (l.length : Int) + 1 - (i : Int) := by omega
  have t3 : l.length + 1 - (i + 1) = l.length - i := by omega
  go_enter Try.func20, Try.ntmps20
  go_wp2_with (first
    | (at_builtin; refine Lib.wpList_append_run _ rfl (.tmp 34) (.tmp 39) _ _ rfl _ _ rfl rfl _ _ (HRZ.out _) ?_)
    | ((with_reducible refine gate_builtin (b := .copy) (xs := #[.tmp 43, .tmp 44]) rfl ?_); refine Own.wpList_copy_run _ rfl (.tmp 43) (.tmp 44) 22 22 rfl _ _ rfl rfl HC1.out ?_))
  go_frame
  have s2 : (0 : Int) ≤ (i : Int) + 1 := by omega
  have s3 : (i : Int) + 1 ≤ (l.length : Int) + 1 := by omega
  have s4 : ((i : Int) + 1).toNat = i + 1 := by omega
  have s5 : ¬ (G = i + 1) := by omega
  have s6 : ¬ (l.length = i) := by omega
  have s7 : (i : Int) ≤ (l.length : Int) := HN.out.1
  have s1 : wrap64 ((i : Int) + 1) = (i : Int) + 1 := by unfold wrap64; omega
  refine start_ (n := 9) (S := fun w' => True) (ds := []) #[false, false, false, false, false, false, false, false, false] (by kernel_rfl) rfl rfl trivial (fun hHeld => ?_)
  refine with_tabW sleep_Put_slices_Insert_api_Timer.tab11 sleep_Put_slices_Insert_api_Timer.bits11 (fun HT_ HW_ => ?_)
  refine pure_ (i := 0) (N := some 46) (v := ?_) (a' := ?_) #[true, false, false, false, false, false, false, false, false] rfl rfl (any_of HT_.out (by kernel_rfl)) (fun _ _ _ h => h) (Or.inl ⟨by rfl, ?_⟩) ?_ ?_
  rotate_left
  · intro w'
    go_simp
    with_reducible rfl
  rotate_left
  · simp only [Act.put, List.setIfInBounds_toArray, List.set_cons_zero, List.set_cons_succ, i64_w, i32_w]
    rfl
  refine pure_ (i := 1) (N := some 47) (v := ?_) (a' := ?_) #[true, true, false, false, false, false, false, false, false] rfl rfl (any_of HT_.out (by kernel_rfl)) (fun _ _ _ h => h) (Or.inl ⟨by rfl, ?_⟩) ?_ ?_
  rotate_left
  · intro w'
    go_simp
    with_reducible rfl
  rotate_left
  · simp only [Act.put, List.setIfInBounds_toArray, List.set_cons_zero, List.set_cons_succ, i64_w, i32_w]
    rfl
  refine pure_ (i := 2) (N := some 48) (v := ?_) (a' := ?_) #[true, true, true, false, false, false, false, false, false] rfl rfl (any_of HT_.out (by kernel_rfl)) (fun _ _ _ h => h) (Or.inl ⟨by rfl, ?_⟩) ?_ ?_
  rotate_left
  · intro w'
    go_simp
    with_reducible rfl
  rotate_left
  · simp only [Act.put, List.setIfInBounds_toArray, List.set_cons_zero, List.set_cons_succ, i64_w, i32_w]
    rfl
  refine pure_ (i := 3) (N := some 49) (v := ?_) (a' := ?_) #[true, true, true, true, false, false, false, false, false] rfl rfl (any_of HT_.out (by kernel_rfl)) (fun _ _ _ h => h) (Or.inl ⟨by rfl, ?_⟩) ?_ ?_
  rotate_left
  · intro w'
    go_simp
    with_reducible rfl
  rotate_left
  · simp only [Act.put, List.setIfInBounds_toArray, List.set_cons_zero, List.set_cons_succ, i64_w, i32_w]
    rfl
  refine pure_ (i := 4) (N := some 50) (v := ?_) (a' := ?_) #[true, true, true, true, true, false, false, false, false] rfl rfl (any_of HT_.out (by kernel_rfl)) (fun _ _ _ h => h) (Or.inl ⟨by rfl, ?_⟩) ?_ ?_
  rotate_left
  · intro w'
    go_simp
    with_reducible rfl
  rotate_left
  · simp only [Act.put, List.setIfInBounds_toArray, List.set_cons_zero, List.set_cons_succ, i64_w, i32_w]
    rfl
  refine pure_ (i := 5) (N := some 51) (v := ?_) (a' := ?_) #[true, true, true, true, true, true, false, false, false] rfl rfl (any_of HT_.out (by kernel_rfl)) (fun _ _ _ h => h) (Or.inl ⟨by rfl, ?_⟩) ?_ ?_
  rotate_left
  · intro w'
    go_simp
    with_reducible rfl
  rotate_left
  · simp only [Act.put, List.setIfInBounds_toArray, List.set_cons_zero, List.set_cons_succ, i64_w, i32_w]
    rfl
  refine pure_ (i := 6) (N := some 52) (v := ?_) (a' := ?_) #[true, true, true, true, true, true, true, false, false] rfl rfl (any_of HT_.out (by kernel_rfl)) (fun _ _ _ h => h) (Or.inl ⟨by rfl, ?_⟩) ?_ ?_
  rotate_left
  · intro w'
    go_simp
    with_reducible rfl
  rotate_left
  · simp only [Act.put, List.setIfInBounds_toArray, List.set_cons_zero, List.set_cons_succ, i64_w, i32_w]
    rfl
  refine pure_ (i := 7) (N := some 53) (v := ?_) (a' := ?_) #[true, true, true, true, true, true, true, true, false] rfl rfl (any_of HT_.out (by kernel_rfl)) (fun _ _ _ h => h) (Or.inl ⟨by rfl, ?_⟩) ?_ ?_
  rotate_left
  · intro w'
    go_simp
    with_reducible rfl
  rotate_left
  · simp only [Act.put, List.setIfInBounds_toArray, List.set_cons_zero, List.set_cons_succ, i64_w, i32_w]
    rfl
  refine one_ (i := 8) (N := some 54) #[true, true, true, true, true, true, true, true, true] rfl rfl (one_of HT_.out (by kernel_rfl)) (by decide) (fun K hK => ?_)
  refine Own.step_copy_run (by rfl) rfl (.tmp 50) (.tmp 53) 22 22 rfl _ _ rfl rfl HC2.out ?_
  refine hK.out _ _ trivial (fun hHeld => ?_)
  clear hK K
  refine norm_ (a' := ?_) ?_ ?_
  rotate_left
  · show Act.put _ (some 54) _ = _
    simp only [Act.put, List.setIfInBounds_toArray, List.set_cons_zero, List.set_cons_succ, i64_w, i32_w]
    rfl
  refine done_ (done_of HT_.out (by kernel_rfl)) ?_
  clear hHeld s1 t3
  go_wp2
  go_ret
  exact ⟨_, rfl, HO.out, HB3.out⟩
theorem insert_calls (w0 W : World) (v : Value) (l : List S24) (i g : Nat) (a b : Int) (hl : l.length < 8796093022207) (hi : i ≤ l.length) (hR : W.ownsRow w0.heap.size 24 2 v l.length (flatT l)) (hB : Below w0.heap.size w0 W)
    (hg : W.heap[g]? = some (.cells #[.int .i64 a, .int .i64 b] 24 (0, 0))) (hne : v.ownBlock ≠ some g) :
    Calls Try.prog 20 #[v, .int .i64 (i : Int), .slice (some ⟨g, 0, none⟩) 1 1] W (InsPost w0 (l.take i ++ ⟨a, b⟩ :: l.drop i)) := by
  by_cases hin : i = l.length
  · subst hin
    obtain ⟨A, c, rfl⟩ := own_slice hR
    rw [List.take_length, List.drop_length]
    exact insert_end w0 W A c g l a b (by omega) hR hB hg
  · rcases hR.2 with ⟨_, h0⟩ | ⟨g0, cap, cur, rfl, hb, hg0, hnc, hcm, hcs, hcur⟩
    · omega
    · have hg0' : W.heap[g0]? = some (.cells cur.toList.toArray 24 (0, 0)) := by simpa using hg0
      have hne' : g ≠ g0 := fun e => hne (by rw [e]; rfl)
      by_cases hr : l.length + 1 ≤ cap
      · exact insert_room w0 W g0 cap g i cur.toList l a b hl (by omega) hr (by simpa [maxLen] using hcm) hb hg0' (by simpa using hcs) hcur hB hg hne'
      · obtain rfl : cap = l.length := by omega
        exact insert_grow w0 W g0 g i cur.toList l a b hl (by omega) hb hg0' (by simpa using hcs) hcur hB hg
/-! #### Put -/
def PutAt (w0 w : World) (g : Nat) (a b : Int) : Prop := BsAt w0 w g a b
theorem PutAt.all {w0 w : World} {g : Nat} {a b : Int} (h : PutAt w0 w g a b) : w.cell? ⟨g, 0, none⟩ = some (.int .i64 a) ∧ w.cell? ⟨g, 1, none⟩ = some (.int .i64 b) ∧ PutAt w0 w g a b := ⟨BsAt.c0 h, BsAt.c1 h, h⟩
theorem PutAt.below {w0 w w1 : World} {g : Nat} {a b : Int} (h : PutAt w0 w g a b) (hb : Below w.heap.size w w1) : PutAt w0 w1 g a b := BsAt.below h hb
theorem PutAt.alloc {w0 w : World} {g : Nat} {a b : Int} (h : PutAt w0 w g a b) (o : Obj) : PutAt w0 (w.alloc o) g a b := BsAt.below h (below_alloc (Below.refl _ _) _)
/-- The copy that was made, ahead of the insertion. -/
def ClonePost (w0 W : World) (g : Nat) (a b : Int) (l : List S24) (e : Ending) (w' : World) : Prop := ∃ v, e = .returned v ∧ w'.ownsRow W.heap.size 24 2 v l.length (flatT l) ∧ PutAt w0 W g a b ∧ PutAt w0 w' g a b ∧ Below W.heap.size W w'
theorem PutAt.clone {w0 W : World} {g : Nat} {a b : Int} (h : PutAt w0 W g a b) (A : Option Addr) (c : Nat) (l : List S24) (hC : Kd.C k24 w0 A l.length l) (hc : l.length ≤ c) (hl : l.length < 8796093022207) :
    Calls Try.prog 21 #[.slice A l.length c] W (ClonePost w0 W g a b l) :=
  (slices_Clone_api_Timer.calls A c l l W (Kd.C_below hC h.1) hc (by unfold slices_Clone_api_Timer.f; rw [if_pos (by omega)])).mono fun e w' ⟨v, he, hr, hb⟩ => ⟨v, he, own_of_RT hr, h, h.below hb, hb⟩
theorem own_lower {w : World} {m m' : Nat} {v : Value} {l : List S24} (h : w.ownsRow m 24 2 v l.length (flatT l)) (hm : m' ≤ m) : w.ownsRow m' 24 2 v l.length (flatT l) := own_weaken h hm
def sleep_Put.f (l : List S24) (a b : Int) : Option (List S24 × Bool) :=
  if wfT l = true ∧ (Lit.int .i64 b).wf = true ∧ l.length < 8796093022207 then
    (if mayPre l l.length = true then (if mayPre (insT l ⟨a, b⟩) (insT l ⟨a, b⟩).length = true then some (insT l ⟨a, b⟩, true) else some ([], false)) else some ([], false)) else none
theorem insT_length (l : List S24) (t : S24) : (insT l t).length = l.length + 1 := by
  have := bsT_le l t
  simp [insT]
  omega
theorem wfT_ins {l : List S24} {t : S24} {i : Nat} (h : wfT l = true) (ht : (Lit.int .i64 t.f1).wf = true) : wfT (l.take i ++ t :: l.drop i) = true := by
  unfold wfT at *
  rw [List.all_eq_true] at h ⊢
  intro x hx
  rcases List.mem_append.1 hx with hx | hx
  · exact h x (List.mem_of_mem_take hx)
  · rcases List.mem_cons.1 hx with rfl | hx
    · exact ht
    · exact h x (List.mem_of_mem_drop hx)
theorem wfT_insT {l : List S24} {t : S24} (h : wfT l = true) (ht : (Lit.int .i64 t.f1).wf = true) : wfT (insT l t) = true := by
  unfold wfT insT at *
  rw [List.all_eq_true] at h ⊢
  intro x hx
  rcases List.mem_append.1 hx with hx | hx
  · exact h x (List.mem_of_mem_take hx)
  · rcases List.mem_cons.1 hx with rfl | hx
    · exact ht
    · exact h x (List.mem_of_mem_drop hx)
def InsPost2 (w0 : World) (g : Nat) (a b : Int) (r : List S24) (e : Ending) (w' : World) : Prop := ∃ v', e = .returned v' ∧ w'.ownsRow w0.heap.size 24 2 v' r.length (flatT r) ∧ PutAt w0 w' g a b
/-- The copy first, then the box of what is put in. -/
theorem PutAt.insA {w0 W w3 : World} {g i : Nat} {a b : Int} {v : Value} {l : List S24} (h : PutAt w0 W g a b) (hc : w3.ownsRow W.heap.size 24 2 v l.length (flatT l)) (hb : Below W.heap.size W w3) (hl : l.length < 8796093022207) (hi : i ≤ l.length) :
    Calls Try.prog 20 #[v, .int .i64 (i : Int), .slice (some ⟨w3.heap.size, 0, none⟩) 1 1] (w3.alloc (.cells #[.int .i64 a, .int .i64 b] 24)) (InsPost2 w0 g a b (l.take i ++ ⟨a, b⟩ :: l.drop i)) :=
  (insert_calls W (w3.alloc (.cells #[.int .i64 a, .int .i64 b] 24)) v l i w3.heap.size a b hl hi (pw_own_below hc (below_alloc (Below.refl _ _) _)) (below_alloc hb _) (blk_new _ _) (fun e => by have := own_lt hc _ e; omega)).mono
    fun e w' ⟨v', he, ho, hb'⟩ => ⟨v', he, own_weaken ho h.1.size, h.below hb'⟩
/-- The box first. -/
theorem PutAt.insB {w0 W w3 : World} {g g1 i : Nat} {a b : Int} {v : Value} {l : List S24} (h : PutAt w0 W g a b)
    (hc : w3.ownsRow W.heap.size 24 2 v l.length (flatT l)) (hb : Below W.heap.size W w3) (hg1 : W.heap[g1]? = some (.cells #[.int .i64 a, .int .i64 b] 24 (0, 0))) (hl : l.length < 8796093022207) (hi : i ≤ l.length) :
    Calls Try.prog 20 #[v, .int .i64 (i : Int), .slice (some ⟨g1, 0, none⟩) 1 1] w3 (InsPost2 w0 g a b (l.take i ++ ⟨a, b⟩ :: l.drop i)) := by
  have hne : v.ownBlock ≠ some g1 := fun e => by
    have h1 := own_base hc _ e
    have h2 := blk_lt hg1
    omega
  exact (insert_calls W w3 v l i g1 a b hl hi hc hb (blk_below hg1 hb) hne).mono
    fun e w' ⟨v', he, ho, hb'⟩ => ⟨v', he, own_weaken ho h.1.size, h.below hb'⟩
set_option maxHeartbeats 4000000 in
set_option maxRecDepth 100000 in
theorem sleep_Put.calls (A0 : Option Addr) (c0 : Nat) (l0 : List S24) (a1_0 a1_1 : Int) (r1 : List S24) (r2 : Bool) (w : World) (hr0 : Kd.C k24 w A0 l0.length l0) (hc0 : l0.length ≤ c0) (h : sleep_Put.f l0 a1_0 a1_1 = some (r1, r2)) :
    Calls Try.prog 8 #[.slice A0 l0.length c0, .agg #[.int .i64 a1_0, .int .i64 a1_1]] w fun e w' => ∃ v0_ : Value, e = .returned (.tuple #[v0_, .bool r2]) ∧ Kd.R k24 24 w' w.heap.size (fun _ => True) v0_ r1 ∧ Below w.heap.size w w' := by
  unfold sleep_Put.f at h
  by_cases hp : wfT l0 = true ∧ (Lit.int .i64 a1_1).wf = true ∧ l0.length < 8796093022207
  case neg => rw [if_neg hp] at h; cases h
  rw [if_pos hp] at h
  have HP := Aside0.mk hp
  have HR := Aside0.mk hr0
  have HC := Aside0.mk hc0
  have HB := Aside0.mk (Below.refl w.heap.size w)
  clear hr0 hc0 hp
  have hmay : ∀ W, Below w.heap.size w W → Calls Try.prog 12 #[.slice A0 l0.length c0] W fun e w' => e = .returned (.bool (mayPre l0 l0.length)) ∧ Below W.heap.size W w' := fun W hb =>
    sleep_May.calls A0 c0 l0 _ W (Kd.C_below HR.out hb) HC.out (by unfold sleep_May.f; rw [if_pos HP.out.1])
  have HMAY := Aside0.mk hmay
  clear hmay
  cases hm : mayPre l0 l0.length with
  | false =>
    rw [hm, if_neg (by simp)] at h
    obtain ⟨rfl, rfl⟩ := Prod.mk.inj (Option.some.inj h)
    clear h
    rw [hm] at HMAY
    clear hm
    go_enter Try.func8, Try.ntmps8
    go_wp2_with (first | (go_at_call 12; (with_reducible refine (HMAY.out _ (below_alloc HB.out _)).mono ?_); rintro e w1 ⟨rfl, hb⟩; have HB1 := Aside0.mk (below_step (below_alloc HB.out _) hb); clear hb))
    go_ret2
    exact ⟨_, rfl, Kd.R_nil _ _ _ _ _, HB1.out⟩
  | true =>
    rw [hm, if_pos rfl] at h
    rw [hm] at HMAY
    have HM := Aside0.mk hm
    clear hm
    have H := Aside0.mk h
    clear h
    go_enter Try.func8, Try.ntmps8
    go_wp2_with (first | (go_at_call 12; (with_reducible refine (HMAY.out _ (below_alloc HB.out _)).mono ?_); rintro e w1 ⟨rfl, hb⟩; have HT := Aside0.mk (show PutAt w w1 w.heap.size a1_0 a1_1 from BsAt.below ⟨below_alloc HB.out _, blk_new _ _⟩ hb); clear hb; have x0 := (PutAt.all HT.out).1; have x1 := (PutAt.all HT.out).2.1) | (go_at_call 18; (refine (bsearch_calls A0 c0 l0 a1_0 a1_1 _ (Kd.C_below HR.out HT.out.1) (by have := HP.out.2.2; omega) HM.out).mono ?_); rintro e w2 ⟨bb, rfl, hb⟩; have HT2 := Aside0.mk (HT.out.below hb); clear hb x0 x1))
    have HI := Aside0.mk (bsT_le l0 ⟨a1_0, a1_1⟩)
    have HN := Aside0.mk (show bsT l0 ⟨a1_0, a1_1⟩ = bsT l0 ⟨a1_0, a1_1⟩ from rfl)
    unfold insT at H
    generalize bsT l0 ⟨a1_0, a1_1⟩ = i at HI H ⊢
    have HT3 := Aside0.mk (BsAt.drew HT2.out)
    have hgn : Aside0 (∀ o : Obj, ((w2.alloc o).drew).heap[w2.heap.size]? = some o) := ⟨fun o => blk_new w2 o⟩
    go_region_held3 (fun w' => w'.cell? ⟨w.heap.size, 0, none⟩ = some (.int .i64 a1_0) ∧ w'.cell? ⟨w.heap.size, 1, none⟩ = some (.int .i64 a1_1) ∧ PutAt w w' w.heap.size a1_0 a1_1)
      (first | exact PutAt.all (by assumption) | exact PutAt.all HT3.out | exact PutAt.all (PutAt.alloc (And.right (And.right (by assumption))) _))
      (first | (go_at_call 21; (refine (PutAt.clone (w0 := w) (g := w.heap.size) (a := a1_0) (b := a1_1) (And.right (And.right (by assumption))) A0 c0 l0 HR.out HC.out (by have := HP.out.2.2; omega)).mono ?_); rintro e w3 ⟨v3, rfl, hcl, hpw, HJ, hb3⟩) | (go_at_call 20; (first | (with_reducible refine (PutAt.insA hpw hcl hb3 HP.out.2.2 HI.out).mono ?_) | (with_reducible refine (PutAt.insB hpw hcl hb3 (hgn.out _) HP.out.2.2 HI.out).mono ?_)); rintro e w4 ⟨v4, rfl, ho4, HJ4⟩))
    all_goals
      clear hpw hcl hb3 HJ
      have HB4 := Aside0.mk HJ4.1
      have HF4 := Aside0.mk (show wfT (l0.take i ++ (⟨a1_0, a1_1⟩ : S24) :: l0.drop i) = true from wfT_ins HP.out.1 HP.out.2.1)
      generalize l0.take i ++ (⟨a1_0, a1_1⟩ : S24) :: l0.drop i = o at ho4 H HF4
      obtain ⟨A4, c4, rfl, hc4, hr4⟩ := Kd.R_reads (RT_of_own ho4)
      have HO4 := Aside0.mk (RT_of_own ho4)
      have HR4 := Aside0.mk hr4
      have HC4 := Aside0.mk hc4
      clear ho4 hr4 hc4 HJ4
      cases hq : mayPre o o.length with
      | true =>
        have HMQ := Aside0.mk (sleep_May.calls A4 c4 o true w4 HR4.out HC4.out (by unfold sleep_May.f; rw [if_pos HF4.out, hq]))
        have H2 := H.out
        rw [hq, if_pos rfl] at H2
        obtain ⟨rfl, rfl⟩ := Prod.mk.inj (Option.some.inj H2)
        clear H H2 hq
        go_wp2_with (first | (go_at_call 12; (with_reducible refine (HMQ.out).mono ?_); rintro e w5 ⟨rfl, hb⟩; have HB5 := Aside0.mk (below_step HB4.out hb); have HO5 := Aside0.mk (Kd.R_below HO4.out hb); clear hb))
        go_ret2
        exact ⟨_, rfl, HO5.out, HB5.out⟩
      | false =>
        have HMQ := Aside0.mk (sleep_May.calls A4 c4 o false w4 HR4.out HC4.out (by unfold sleep_May.f; rw [if_pos HF4.out, hq]))
        have H2 := H.out
        rw [hq, if_neg (by simp)] at H2
        obtain ⟨rfl, rfl⟩ := Prod.mk.inj (Option.some.inj H2)
        clear H H2 hq
        go_wp2_with (first | (go_at_call 12; (with_reducible refine (HMQ.out).mono ?_); rintro e w5 ⟨rfl, hb⟩; have HB5 := Aside0.mk (below_step HB4.out hb); clear hb))
        go_ret2
        exact ⟨_, rfl, Kd.R_nil _ _ _ _ _, HB5.out⟩

end Go.Proofs.Ytlaneipibmjmbaa.Q
