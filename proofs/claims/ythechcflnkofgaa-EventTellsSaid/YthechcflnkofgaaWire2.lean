/- What was written is read, one behind the other; cut off it is too short. Plain lists and numbers alone. -/
import Derived.Test.YthechcflnkofgaaWire
namespace ShCore
open Go Go.RowKit Go.Proofs.YthechcflnkofgaaW.PrintWords Go.Proofs.YthechcflnkofgaaW.PrintMore

/-! ### pieces, one behind the other -/
def off {α : Type} (f : α → List UInt8) (l : List α) (i : Nat) : List UInt8 := (l.take i).flatMap f
theorem off_zero {α : Type} (f : α → List UInt8) (l : List α) : off f l 0 = [] := by simp [off]
theorem off_all {α : Type} (f : α → List UInt8) (l : List α) : off f l l.length = l.flatMap f := by simp [off]
theorem off_succ {α : Type} (f : α → List UInt8) (l : List α) (i : Nat) (x : α) (h : l[i]? = some x) : off f l (i + 1) = off f l i ++ f x := by
  unfold off
  rw [List.take_add_one, h, List.flatMap_append]
  simp
theorem off_split {α : Type} (f : α → List UInt8) (l : List α) (i : Nat) (x : α) (h : l[i]? = some x) : l.flatMap f = off f l i ++ f x ++ (l.drop (i + 1)).flatMap f := by
  rw [← off_succ f l i x h]
  unfold off
  rw [← List.flatMap_append, List.take_append_drop]
theorem off_len {α : Type} (f : α → List UInt8) (l : List α) (m : Nat) (h : ∀ x ∈ l, (f x).length ≤ m) (i : Nat) : (off f l i).length ≤ m * i := by
  unfold off
  induction i generalizing l with
  | zero => simp
  | succ i ih =>
    cases l with
    | nil => simp
    | cons x l =>
      rw [List.take_succ_cons, List.flatMap_cons, List.length_append]
      have h1 := h x List.mem_cons_self
      have h2 := ih l (fun y hy => h y (List.mem_cons_of_mem _ hy))
      rw [Nat.mul_add]
      omega
theorem numsO_all : ∀ (l : List Int), (∀ n ∈ l, put n ≠ []) → numsO l = some (l.flatMap put)
  | [], _ => by simp [numsO]
  | n :: l, h => by
    rw [numsO, if_neg (h n List.mem_cons_self), numsO_all l (fun x hx => h x (List.mem_cons_of_mem _ hx))]
    simp
theorem numsO_none : ∀ (l : List Int) (n : Int), n ∈ l → put n = [] → numsO l = none
  | m :: l, n, h, e => by
    rw [numsO]
    split
    · rfl
    · rename_i hm
      rcases List.mem_cons.1 h with rfl | h
      · exact absurd e hm
      · rw [numsO_none l n h e]
        rfl
theorem numsL_cases (l : List Int) : (∃ n ∈ l, put n = []) ∧ numsL l = [] ∨ (∀ n ∈ l, put n ≠ []) ∧ numsL l = l.flatMap put := by
  by_cases h : ∃ n ∈ l, put n = []
  · obtain ⟨n, hn, e⟩ := h
    exact .inl ⟨⟨n, hn, e⟩, by unfold numsL; rw [numsO_none l n hn e]; rfl⟩
  · have h' : ∀ n ∈ l, put n ≠ [] := fun n hn e => h ⟨n, hn, e⟩
    exact .inr ⟨h', by unfold numsL; rw [numsO_all l h']; rfl⟩
/-! ### read where it stands -/
theorem rdNum_at {n : Int} (hn : put n ≠ []) (pre rest : List UInt8) (f : Int) : rdNum (pre ++ put n ++ rest) ⟨pre.length, 0, f⟩ = (n, ⟨(pre.length : Int) + ((put n).length : Int), 0, f⟩) := by
  unfold rdNum
  simp only [takeL_put hn pre rest, if_true]
theorem put_len_nat (n : Nat) (h : n < 4611686018427387904) : put (n : Int) ≠ [] := by
  rw [put_nat n h]
  exact putF_ne 8 n
theorem rdText_at (t : List UInt8) (ht : t.length < 4611686018427387904) (pre rest : List UInt8) (f : Int) : rdText (pre ++ text t ++ rest) ⟨pre.length, 0, f⟩ = (t, ⟨(pre.length : Int) + ((text t).length : Int), 0, f⟩) := by
  have hp := put_len_nat t.length ht
  have e : pre ++ text t ++ rest = pre ++ put (t.length : Int) ++ (t ++ rest) := by simp [text]
  unfold rdText
  simp only [if_true]
  rw [e, rdNum_at hp]
  simp only [if_true, rdTake0]
  rw [if_neg (by omega), if_neg (by simp only [List.length_append]; omega)]
  have e2 : ((pre.length : Int) + ((put (t.length : Int)).length : Int)).toNat = (pre ++ put (t.length : Int)).length := by rw [List.length_append]; omega
  rw [e2, List.drop_left]
  simp only [Int.toNat_natCast, List.take_left]
  refine Prod.ext rfl ?_
  simp only [Rd.mk.injEq, and_self, and_true]
  unfold text
  rw [List.length_append]
  omega
/-! ### cut off -/
def cutInv (pos cut : Nat) (r : Rd) : Prop := (r.e = 0 ∧ r.a = pos ∧ pos ≤ cut) ∨ (r.e = 10 ∧ r.f ≤ cut)
theorem take_in (pre x rest : List UInt8) (cut : Nat) (h : pre.length + x.length ≤ cut) : (pre ++ x ++ rest).take cut = pre ++ x ++ rest.take (cut - (pre.length + x.length)) := by
  rw [List.take_append, List.take_of_length_le (by rw [List.length_append]; exact h), List.length_append]
theorem take_out (pre x rest : List UInt8) (cut : Nat) (h0 : pre.length ≤ cut) (h : cut ≤ pre.length + x.length) : (pre ++ x ++ rest).take cut = pre ++ x.take (cut - pre.length) := by
  rw [List.take_append_of_le_length (by rw [List.length_append]; exact h), List.take_append, List.take_of_length_le h0]
theorem takeL_cut {n : Int} (hn : put n ≠ []) (pre : List UInt8) (c : Nat) (h : c < (put n).length) : takeL (pre ++ (put n).take c) pre.length = (0, 0, 10) := by
  obtain ⟨m, rfl, hm, e⟩ := put_ok hn
  rw [e] at h ⊢
  unfold takeL
  rw [if_neg (by rw [List.length_append]; omega), Int.toNat_natCast, List.drop_left, tkh_cut m c h]
  rfl
theorem rdNum_cut0 {n : Int} (hn : put n ≠ []) (pre rest : List UInt8) (cut : Nat) (f : Int) (h0 : pre.length ≤ cut) (h : cut < pre.length + (put n).length) :
    rdNum ((pre ++ put n ++ rest).take cut) ⟨pre.length, 0, f⟩ = (0, ⟨pre.length, 10, pre.length⟩) := by
  rw [take_out _ _ _ _ h0 (by omega)]
  unfold rdNum
  simp only [takeL_cut hn pre (cut - pre.length) (by omega), if_true]
  rfl
theorem rdNum_cut {n : Int} (hn : put n ≠ []) (pre rest : List UInt8) (cut : Nat) (r : Rd) (h : cutInv pre.length cut r) : cutInv (pre.length + (put n).length) cut (rdNum ((pre ++ put n ++ rest).take cut) r).2 := by
  obtain ⟨a, e, f⟩ := r
  rcases h with ⟨he, ha, hp⟩ | ⟨he, hf⟩
  · simp only at he ha
    subst he ha
    by_cases c : pre.length + (put n).length ≤ cut
    · rw [take_in _ _ _ _ c, rdNum_at hn]
      exact .inl ⟨rfl, by simp, c⟩
    · rw [rdNum_cut0 hn pre rest cut f hp (by omega)]
      exact .inr ⟨rfl, by simp only; omega⟩
  · simp only at he
    subst he
    exact .inr ⟨rfl, hf⟩
theorem rdText_cut (t : List UInt8) (ht : t.length < 4611686018427387904) (pre rest : List UInt8) (cut : Nat) (r : Rd) (h : cutInv pre.length cut r) : cutInv (pre.length + (text t).length) cut (rdText ((pre ++ text t ++ rest).take cut) r).2 := by
  obtain ⟨a, e, f⟩ := r
  rcases h with ⟨he, ha, hp⟩ | ⟨he, hf⟩
  · simp only at he ha
    subst he ha
    have hn := put_len_nat t.length ht
    by_cases c : pre.length + (text t).length ≤ cut
    · rw [take_in _ _ _ _ c, rdText_at t ht]
      exact .inl ⟨rfl, by simp, c⟩
    · have e : pre ++ text t ++ rest = pre ++ put (t.length : Int) ++ (t ++ rest) := by simp [text]
      have hl : (text t).length = (put (t.length : Int)).length + t.length := by unfold text; rw [List.length_append]
      rw [e]
      by_cases c2 : pre.length + (put (t.length : Int)).length ≤ cut
      · have hs : ((pre ++ put (t.length : Int) ++ (t ++ rest)).take cut).length ≤ cut := by rw [List.length_take]; omega
        rw [take_in _ _ _ _ c2] at hs ⊢
        unfold rdText
        simp only [if_true]
        rw [rdNum_at hn]
        simp only [if_true, rdTake0]
        rw [if_neg (by omega), if_pos (by omega)]
        exact .inr ⟨rfl, by simp only; omega⟩
      · unfold rdText
        simp only [if_true]
        rw [rdNum_cut0 hn pre (t ++ rest) cut f hp (by omega)]
        rw [if_neg (by simp)]
        exact .inr ⟨rfl, by simp only; omega⟩
  · simp only at he
    subst he
    exact .inr ⟨rfl, hf⟩
theorem cutInv_end {pos cut : Nat} {r : Rd} (h : cutInv pos cut r) (hc : cut < pos) : r.e = 10 ∧ r.f ≤ cut := by
  rcases h with ⟨_, _, h⟩ | h
  · omega
  · exact h
end ShCore
