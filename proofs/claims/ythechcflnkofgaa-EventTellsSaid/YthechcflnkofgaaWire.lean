/- A reader of a text, as plain functions of lists of bytes; texts and numbers, one behind the other. No condition: plain lists and numbers alone, no program in sight. -/
import Derived.Test.YthechcflnkofgaaVint
namespace ShCore
open Go Go.RowKit Go.Proofs.YthechcflnkofgaaW.PrintWords Go.Proofs.YthechcflnkofgaaW.PrintMore

/-- A reader's place, its error, where the call with the error began. -/
structure Rd where
  a : Int
  e : Int
  f : Int
deriving DecidableEq
def rdTake0 (s : List UInt8) (r : Rd) (n b : Int) : List UInt8 × Rd :=
  if n < 0 then ([], ⟨b, 1, b⟩) else if n > s.length - r.a then ([], ⟨b, 10, b⟩) else ((s.drop r.a.toNat).take n.toNat, ⟨r.a + n, r.e, r.f⟩)
def rdTake (s : List UInt8) (r : Rd) (n : Int) : List UInt8 × Rd := if r.e = 0 then rdTake0 s r n r.a else ([], r)
def rdByte (s : List UInt8) (r : Rd) : Int × Rd := match (rdTake s r 1).1 with
  | [] => (0, (rdTake s r 1).2)
  | c :: _ => (c.toNat, (rdTake s r 1).2)
def rdNum (s : List UInt8) (r : Rd) : Int × Rd :=
  if r.e = 0 then (if (takeL s r.a).2.2 = 0 then ((takeL s r.a).1, ⟨(takeL s r.a).2.1, r.e, r.f⟩) else (0, ⟨r.a, (takeL s r.a).2.2, r.a⟩)) else (0, r)
def rdText (s : List UInt8) (r : Rd) : List UInt8 × Rd :=
  if r.e = 0 then (if (rdNum s r).2.e = 0 then rdTake0 s (rdNum s r).2 (rdNum s r).1 r.a else ([], (rdNum s r).2)) else ([], r)
def rdDone (s : List UInt8) (r : Rd) : Bool := r.e == 0 && r.a == (s.length : Int)
def Rd.ok (s : List UInt8) (r : Rd) : Prop := 0 ≤ r.a ∧ r.a ≤ s.length
theorem rdTake0_ok {s : List UInt8} {r : Rd} (h : r.ok s) (n b : Int) (hb : 0 ≤ b ∧ b ≤ s.length) : (rdTake0 s r n b).2.ok s := by
  unfold rdTake0 Rd.ok at *
  split
  · exact hb
  · split
    · exact hb
    · simp only; omega
theorem rdTake_ok {s : List UInt8} {r : Rd} (h : r.ok s) (n : Int) : (rdTake s r n).2.ok s := by
  unfold rdTake
  split
  · exact rdTake0_ok h n r.a h
  · exact h
theorem rdByte_ok {s : List UInt8} {r : Rd} (h : r.ok s) : (rdByte s r).2.ok s := by
  unfold rdByte
  split <;> exact rdTake_ok h 1
theorem takeL_le (l : List UInt8) (p : Int) (h : (takeL l p).2.2 = 0) : 0 ≤ (takeL l p).2.1 ∧ (takeL l p).2.1 ≤ l.length := by
  obtain ⟨h0, u, e, h1, h9, hl, _⟩ := takeL_back l p h
  omega
theorem rdNum_ok {s : List UInt8} {r : Rd} (h : r.ok s) : (rdNum s r).2.ok s := by
  unfold rdNum
  split
  · split
    · rename_i h1
      exact takeL_le s r.a h1
    · exact h
  · exact h
theorem rdText_ok {s : List UInt8} {r : Rd} (h : r.ok s) : (rdText s r).2.ok s := by
  unfold rdText
  split
  · split
    · exact rdTake0_ok (rdNum_ok h) _ _ h
    · exact rdNum_ok h
  · exact h
theorem takeL_nonneg (l : List UInt8) (p : Int) : 0 ≤ (takeL l p).1 ∧ (takeL l p).1 < 4611686018427387904 := by
  unfold takeL
  split
  · simp
  · split
    · rename_i h
      have := (tkh_back _ h).2.2.1
      simp only
      omega
    · simp
theorem rdNum_nonneg (s : List UInt8) (r : Rd) : 0 ≤ (rdNum s r).1 ∧ (rdNum s r).1 < 4611686018427387904 := by
  unfold rdNum
  split
  · split
    · exact takeL_nonneg s r.a
    · simp
  · simp

theorem succ_big (n : Nat) (h : n ≤ 1000000000000) : (n : Int) + 1 < 9223372036854775808 := by omega
theorem wrap_succ (n : Nat) (h : n ≤ 1000000000000) : wrap64 ((n : Int) + 1) = (n : Int) + 1 := wrap64_of (by omega) (by omega)
theorem stuck_take (s : List UInt8) (h : s.length ≤ 1000000000000) (n : Nat) (hn : s.length = n) : rdTake s ⟨0, 0, 0⟩ ((n : Int) + 1) = ([], ⟨0, 10, 0⟩) := by
  simp only [rdTake, rdTake0, if_true]
  rw [if_neg (by omega), if_pos (by omega)]

/-! ### numbers and texts, one behind the other -/
/-- The bytes of numbers; none, if one of them may not be. -/
def numsO : List Int → Option (List UInt8)
  | [] => some []
  | n :: l => if put n = [] then none else (numsO l).map (put n ++ ·)
def numsL (l : List Int) : List UInt8 := (numsO l).getD []
def text (s : List UInt8) : List UInt8 := put s.length ++ s
theorem nums_len : ∀ (l : List Int) (b : List UInt8), numsO l = some b → b.length ≤ 9 * l.length
  | [], b, h => by simp [numsO] at h; subst h; simp
  | n :: l, b, h => by
    simp only [numsO] at h
    split at h
    · cases h
    · obtain ⟨c, hc, rfl⟩ := Option.map_eq_some_iff.1 h
      have := nums_len l c hc
      have := put_len n
      simp
      omega
theorem text_len (s : List UInt8) : (text s).length ≤ s.length + 9 := by
  have := put_len s.length
  unfold text
  rw [List.length_append]
  omega
def header : List UInt8 := [83, 72, 84, 76, 1]
def headL (s : List UInt8) : Int × Int := if header <+: s then (5, 0) else if s <+: header then (0, 10) else (0, 20)
end ShCore
