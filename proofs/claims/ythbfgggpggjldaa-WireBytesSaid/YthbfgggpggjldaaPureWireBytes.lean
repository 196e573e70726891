/- Read byte by byte a text is its bytes. For every input. -/
import Derived.Test.YthbfgggpggjldaaQx8
import Derived.Test.YthbfgggpggjldaaWireP
namespace Go.Proofs.Ythbfgggpggjldaa.Pure
open Go Go.RowKit Go.Proofs.Ythbfgggpggjldaa.Q Go.Proofs.YthbfgggpggjldaaW.PrintWords Go.Proofs.YthbfgggpggjldaaW.PrintLast Go.Proofs.YthbfgggpggjldaaW.PrintMore ShCore

theorem rdByte_at (s : List UInt8) (i : Nat) (c : UInt8) (l : List UInt8) (h : s.drop i = c :: l) (hi : i < s.length) : rdByte s ⟨i, 0, 0⟩ = ((c.toNat : Int), (⟨i + 1, 0, 0⟩ : Rd)) := by
  have e : rdTake s ⟨i, 0, 0⟩ 1 = ([c], (⟨i + 1, 0, 0⟩ : Rd)) := by
    simp only [rdTake, rdTake0, if_true]
    rw [if_neg (by omega), if_neg (by omega), Int.toNat_natCast, h]
    rfl
  unfold rdByte
  rw [e]
theorem bytes0 (s : ByteArray) (hs : s.size ≤ 1000) (d : Nat) : ∀ i : Nat, i + d = s.size → Ev (fun k => shuttlecocklaw02_WireBytes.l0 k s (i : Int) s (i : Int) 0 0) true := by
  have hl := lst_length s
  induction d with
  | zero =>
    intro i hi
    refine Ev.step (fun k => shuttlecocklaw02_WireBytes.l0.eq_2 ..) ?_
    refine evNo (by omega) ?_
    have hd : wire_Reader_Done.f s (i : Int) 0 0 = some (true, s, (i : Int), 0, 0) := rDone _ _ _ _ (by simp [rdDone, hl]; omega)
    simp only [hd, Option.bind_some]
    exact Ev.now _
  | succ d ih =>
    intro i hi
    refine Ev.step (fun k => shuttlecocklaw02_WireBytes.l0.eq_2 ..) ?_
    refine evYes (by omega) ?_
    obtain ⟨c, hd, hb⟩ := drop_bt s i (by omega)
    have hr := rByte s (i : Int) 0 0 (by omega) ⟨by simp only; omega, by simp only; omega⟩ (rdByte_at (lst s) i c _ hd (by omega))
    have hc := u8_lt c
    have h2 := ih (i + 1) (by omega)
    have a4 : (i : Int) + 1 = ((i + 1 : Nat) : Int) ∧ (i : Int) + 1 < 9223372036854775808 := by omega
    simp only [wire_Reader_At.f, Option.bind_some, if_true, hr, hb, wrap64_of (show -9223372036854775808 ≤ (c.toNat : Int) by omega) (show (c.toNat : Int) < 9223372036854775808 by omega), wrap64_nat' a4.1 a4.2]
    refine evYes (by omega) ?_
    exact h2
theorem WireBytes : shuttlecocklaw02_WireBytes.Pure := by
  intro s _
  refine Ev.rounds (g := fun k => shuttlecocklaw02_WireBytes.f k s) ?_
  unfold shuttlecocklaw02_WireBytes.f
  simp only [shuttlecocklaw02_fixed.f, Option.bind_some, ↓reduceIte]
  refine Ev.step (fun k => shuttlecocklaw02_WireBytes.j0.eq_2 ..) ?_
  by_cases c : (s.size : Int) > 1000
  · simp only [decide_eq_true c, if_true, shuttlecocklaw02_fixed.f, Option.bind_some]
    exact Ev.now _
  · refine evNo (by simpa using c) ?_
    simp only [wire_New.f, Option.bind_some]
    exact bytes0 s (by omega) s.size 0 (by omega)
end Go.Proofs.Ythbfgggpggjldaa.Pure
