/- What a reader of any text answers to any calls is as the document says: both readers are walked side by side. For every input. -/
import Derived.Test.YthbfgggpggjldaaQx1
import Derived.Test.YthbfgggpggjldaaQx2
import Derived.Test.YthbfgggpggjldaaQx4
import Derived.Test.YthbfgggpggjldaaRefP
namespace Go.Proofs.Ythbfgggpggjldaa.Q
open Go Go.RowKit Go.Proofs.YthbfgggpggjldaaW.PrintWords Go.Proofs.YthbfgggpggjldaaW.PrintLast Go.Proofs.YthbfgggpggjldaaW.PrintMore ShCore

set_option linter.unusedVariables false
/-- Both readers, of one text, each at its own block; what lay below lies there still. -/
def Two (w0 w' : World) (g1 g2 : Nat) (s : ByteArray) (r q : Rd) : Prop := IsS50 w0 w' g1 s r.a r.e r.f ∧ IsS29 w0 w' g2 s q.a q.e q.f ∧ Below w0.heap.size w0 w' ∧ g1 ≠ g2
section
variable {w0 w w1 : World} {g1 g2 : Nat} {s : ByteArray} {r q : Rd}
theorem Two.below (h : Two w0 w g1 g2 s r q) (hb : Below w.heap.size w w1) : Two w0 w1 g1 g2 s r q := ⟨h.1.below hb, h.2.1.below hb, below_step h.2.2.1 hb, h.2.2.2⟩
theorem Two.drew (h : Two w0 w g1 g2 s r q) : Two w0 w.drew g1 g2 s r q := h.below (below_drew1 (Below.refl _ _))
theorem Two.a1 (h : Two w0 w g1 g2 s r q) {a e f : Int} (hi : IsS50 w0 w1 g1 s a e f) (hb : Below w0.heap.size w0 w1) (hk : KeepBut w w1 g1 none) : Two w0 w1 g1 g2 s ⟨a, e, f⟩ q :=
  ⟨hi, h.2.1.kept (S := fun k => k = g1) ⟨hk.1, fun i hi hn => hk.2 i hi hn (by simp)⟩ (fun e => h.2.2.2 e.symm), hb, h.2.2.2⟩
theorem Two.b1 (h : Two w0 w g1 g2 s r q) {a e f : Int} (hi : IsS29 w0 w1 g2 s a e f) (hb : Below w0.heap.size w0 w1) (hk : KeepBut w w1 g2 none) : Two w0 w1 g1 g2 s r ⟨a, e, f⟩ :=
  ⟨h.1.kept (S := fun k => k = g2) ⟨hk.1, fun i hi hn => hk.2 i hi hn (by simp)⟩ h.2.2.2, hi, hb, h.2.2.2⟩
variable (hs : s.size < 4611686018427387904)
include hs
theorem Two.aNum (h : Two w0 w g1 g2 s r q) : Calls Try.prog 11 #[.pointer (some ⟨g1, 0, none⟩)] w fun e w' => e = .returned (.int .i64 (rdNum (lst s) r).1) ∧ Two w0 w' g1 g2 s (rdNum (lst s) r).2 q := by
  obtain ⟨k, hk⟩ := rNum s r.a r.e r.f hs (n := (rdNum (lst s) r).1) (a' := (rdNum (lst s) r).2.a) (e' := (rdNum (lst s) r).2.e) (f' := (rdNum (lst s) r).2.f) rfl
  exact (wire_Reader_Num.calls k g1 _ _ _ _ _ _ _ _ _ w0 w h.1 h.2.2.1 (hk k (Nat.le_refl _))).mono fun e w' ⟨he, hi, hb, hk⟩ => ⟨he, h.a1 hi hb hk⟩
theorem Two.bNum (h : Two w0 w g1 g2 s r q) : Calls Try.prog 12 #[.pointer (some ⟨g2, 0, none⟩)] w fun e w' => e = .returned (.int .i64 (rdNum (lst s) q).1) ∧ Two w0 w' g1 g2 s r (rdNum (lst s) q).2 := by
  obtain ⟨k, hk⟩ := refNum s q.a q.e q.f hs (n := (rdNum (lst s) q).1) (a' := (rdNum (lst s) q).2.a) (e' := (rdNum (lst s) q).2.e) (f' := (rdNum (lst s) q).2.f) rfl
  exact (shuttlecockref02_Reader_Num.calls k g2 _ _ _ _ _ _ _ _ _ w0 w h.2.1 h.2.2.1 (hk k (Nat.le_refl _))).mono fun e w' ⟨he, hi, hb, hk⟩ => ⟨he, h.b1 hi hb hk⟩
theorem Two.aByte (h : Two w0 w g1 g2 s r q) (ho : r.ok (lst s)) : Calls Try.prog 13 #[.pointer (some ⟨g1, 0, none⟩)] w fun e w' => e = .returned (.int .i64 (rdByte (lst s) r).1) ∧ Two w0 w' g1 g2 s (rdByte (lst s) r).2 q := by
  have hk := rByte s r.a r.e r.f hs ho (n := (rdByte (lst s) r).1) (a' := (rdByte (lst s) r).2.a) (e' := (rdByte (lst s) r).2.e) (f' := (rdByte (lst s) r).2.f) rfl
  exact (wire_Reader_Byte.calls g1 _ _ _ _ _ _ _ _ _ w0 w h.1 h.2.2.1 hk).mono fun e w' ⟨he, hi, hb, hk⟩ => ⟨he, h.a1 hi hb hk⟩
theorem Two.bByte (h : Two w0 w g1 g2 s r q) (ho : q.ok (lst s)) : Calls Try.prog 14 #[.pointer (some ⟨g2, 0, none⟩)] w fun e w' => e = .returned (.int .i64 (rdByte (lst s) q).1) ∧ Two w0 w' g1 g2 s r (rdByte (lst s) q).2 := by
  have hk := refByte s q.a q.e q.f hs ho (n := (rdByte (lst s) q).1) (a' := (rdByte (lst s) q).2.a) (e' := (rdByte (lst s) q).2.e) (f' := (rdByte (lst s) q).2.f) rfl
  exact (shuttlecockref02_Reader_Byte.calls g2 _ _ _ _ _ _ _ _ _ w0 w h.2.1 h.2.2.1 hk).mono fun e w' ⟨he, hi, hb, hk⟩ => ⟨he, h.b1 hi hb hk⟩
theorem Two.aText (h : Two w0 w g1 g2 s r q) (ho : r.ok (lst s)) : Calls Try.prog 15 #[.pointer (some ⟨g1, 0, none⟩)] w fun e w' => e = .returned (.string (arr (rdText (lst s) r).1)) ∧ Two w0 w' g1 g2 s (rdText (lst s) r).2 q := by
  obtain ⟨k, hk⟩ := rText' s r.a r.e r.f hs ho (l := (rdText (lst s) r).1) (a' := (rdText (lst s) r).2.a) (e' := (rdText (lst s) r).2.e) (f' := (rdText (lst s) r).2.f) rfl
  exact (wire_Reader_Text.calls k g1 _ _ _ _ _ _ _ _ _ w0 w h.1 h.2.2.1 (hk k (Nat.le_refl _))).mono fun e w' ⟨he, hi, hb, hk⟩ => ⟨he, h.a1 hi hb hk⟩
theorem Two.bText (h : Two w0 w g1 g2 s r q) (ho : q.ok (lst s)) (hv : rdInv q) : Calls Try.prog 16 #[.pointer (some ⟨g2, 0, none⟩)] w fun e w' => e = .returned (.string (arr (rdText (lst s) q).1)) ∧ Two w0 w' g1 g2 s r (rdText (lst s) q).2 := by
  obtain ⟨k, hk⟩ := refText s q.a q.e q.f hs ho hv (l := (rdText (lst s) q).1) (a' := (rdText (lst s) q).2.a) (e' := (rdText (lst s) q).2.e) (f' := (rdText (lst s) q).2.f) rfl
  exact (shuttlecockref02_Reader_Text.calls k g2 _ _ _ _ _ _ _ _ _ w0 w h.2.1 h.2.2.1 (hk k (Nat.le_refl _))).mono fun e w' ⟨he, hi, hb, hk⟩ => ⟨he, h.b1 hi hb hk⟩
theorem Two.aTake (h : Two w0 w g1 g2 s r q) (ho : r.ok (lst s)) (n : Int) (hn : n < 9223372036854775808) : Calls Try.prog 17 #[.pointer (some ⟨g1, 0, none⟩), .int .i64 n] w fun e w' => e = .returned (.string (arr (rdTake (lst s) r n).1)) ∧ Two w0 w' g1 g2 s (rdTake (lst s) r n).2 q := by
  have hk := rTake s r.a r.e r.f n hs ho hn (l := (rdTake (lst s) r n).1) (a' := (rdTake (lst s) r n).2.a) (e' := (rdTake (lst s) r n).2.e) (f' := (rdTake (lst s) r n).2.f) rfl
  exact (wire_Reader_Take.calls g1 _ _ _ _ _ _ _ _ _ _ w0 w h.1 h.2.2.1 hk).mono fun e w' ⟨he, hi, hb, hk⟩ => ⟨he, h.a1 hi hb hk⟩
theorem Two.bTake (h : Two w0 w g1 g2 s r q) (ho : q.ok (lst s)) (n : Int) (hn : n < 9223372036854775808) : Calls Try.prog 18 #[.pointer (some ⟨g2, 0, none⟩), .int .i64 n] w fun e w' => e = .returned (.string (arr (rdTake (lst s) q n).1)) ∧ Two w0 w' g1 g2 s r (rdTake (lst s) q n).2 := by
  have hk := refTake s q.a q.e q.f n hs ho hn (l := (rdTake (lst s) q n).1) (a' := (rdTake (lst s) q n).2.a) (e' := (rdTake (lst s) q n).2.e) (f' := (rdTake (lst s) q n).2.f) rfl
  exact (shuttlecockref02_Reader_Take.calls g2 _ _ _ _ _ _ _ _ _ _ w0 w h.2.1 h.2.2.1 hk).mono fun e w' ⟨he, hi, hb, hk⟩ => ⟨he, h.b1 hi hb hk⟩
omit hs
theorem Two.aErr (h : Two w0 w g1 g2 s r q) : Calls Try.prog 19 #[.pointer (some ⟨g1, 0, none⟩)] w fun e w' => e = .returned (.tuple #[.int .i64 r.e, .int .i64 r.f]) ∧ Two w0 w' g1 g2 s r q :=
  (wire_Reader_Err.calls g1 _ _ _ _ _ _ _ _ _ _ w0 w h.1 h.2.2.1 rfl).mono fun e w' ⟨he, hi, hb, hk⟩ => ⟨he, h.a1 hi hb hk⟩
theorem Two.aAt (h : Two w0 w g1 g2 s r q) : Calls Try.prog 20 #[.pointer (some ⟨g1, 0, none⟩)] w fun e w' => e = .returned (.int .i64 r.a) ∧ Two w0 w' g1 g2 s r q :=
  (wire_Reader_At.calls g1 _ _ _ _ _ _ _ _ _ w0 w h.1 h.2.2.1 rfl).mono fun e w' ⟨he, hi, hb, hk⟩ => ⟨he, h.a1 hi hb hk⟩
theorem Two.aDone (h : Two w0 w g1 g2 s r q) : Calls Try.prog 21 #[.pointer (some ⟨g1, 0, none⟩)] w fun e w' => e = .returned (.bool (rdDone (lst s) r)) ∧ Two w0 w' g1 g2 s r q :=
  (wire_Reader_Done.calls g1 _ _ _ _ _ _ _ _ _ w0 w h.1 h.2.2.1 (rDone s r.a r.e r.f rfl)).mono fun e w' ⟨he, hi, hb, hk⟩ => ⟨he, h.a1 hi hb hk⟩
theorem Two.bDone (h : Two w0 w g1 g2 s r q) : Calls Try.prog 22 #[.pointer (some ⟨g2, 0, none⟩)] w fun e w' => e = .returned (.bool (rdDone (lst s) q)) ∧ Two w0 w' g1 g2 s r q :=
  (shuttlecockref02_Reader_Done.calls g2 _ _ _ _ _ _ _ _ _ w0 w h.2.1 h.2.2.1 (refDone s q.a q.e q.f rfl)).mono fun e w' ⟨he, hi, hb, hk⟩ => ⟨he, h.b1 hi hb hk⟩
end
theorem Two.cells {w0 w : World} {g1 g2 : Nat} {s : ByteArray} {r : Rd} {a e f : Int} (h : Two w0 w g1 g2 s r ⟨a, e, f⟩) :
    w.cell? ⟨g2, 1, none⟩ = some (.int .i64 a) ∧ w.cell? ⟨g2, 2, none⟩ = some (.int .i64 e) ∧ w.cell? ⟨g2, 3, none⟩ = some (.int .i64 f) :=
  ⟨cellS29_1 h.2.1.1, cellS29_2 h.2.1.1, cellS29_3 h.2.1.1⟩
section
variable (w0 : World) (g1 g2 : Nat) (s : ByteArray) (r : Rd) (hs : s.size < 4611686018427387904) (ho : r.ok (lst s)) (hv : rdInv r)
/-- One call of both: the same answer, the same state behind it. -/
def Both (F G : FuncId) (xs : List Value) (v : Value) (r' : Rd) : Prop :=
  (∀ w, Two w0 w g1 g2 s r r → Calls Try.prog F ⟨.pointer (some ⟨g1, 0, none⟩) :: xs⟩ w fun e w' => e = .returned v ∧ Two w0 w' g1 g2 s r' r) ∧
  (∀ w, Two w0 w g1 g2 s r' r → Calls Try.prog G ⟨.pointer (some ⟨g2, 0, none⟩) :: xs⟩ w fun e w' => e = .returned v ∧ Two w0 w' g1 g2 s r' r')
include hs ho hv
theorem both_num : ∃ n a e f, Rd.ok (lst s) ⟨a, e, f⟩ ∧ rdInv ⟨a, e, f⟩ ∧ Both w0 g1 g2 s r 11 12 [] (.int .i64 n) ⟨a, e, f⟩ :=
  ⟨(rdNum (lst s) r).1, (rdNum (lst s) r).2.a, (rdNum (lst s) r).2.e, (rdNum (lst s) r).2.f, rdNum_ok ho, rdInv_num hv, fun w h => h.aNum hs, fun w h => h.bNum hs⟩
theorem both_byte : ∃ n a e f, Rd.ok (lst s) ⟨a, e, f⟩ ∧ rdInv ⟨a, e, f⟩ ∧ Both w0 g1 g2 s r 13 14 [] (.int .i64 n) ⟨a, e, f⟩ :=
  ⟨(rdByte (lst s) r).1, (rdByte (lst s) r).2.a, (rdByte (lst s) r).2.e, (rdByte (lst s) r).2.f, rdByte_ok ho, rdInv_byte hv, fun w h => h.aByte hs ho, fun w h => h.bByte hs ho⟩
theorem both_text : ∃ n a e f, Rd.ok (lst s) ⟨a, e, f⟩ ∧ rdInv ⟨a, e, f⟩ ∧ Both w0 g1 g2 s r 15 16 [] (.string n) ⟨a, e, f⟩ :=
  ⟨arr (rdText (lst s) r).1, (rdText (lst s) r).2.a, (rdText (lst s) r).2.e, (rdText (lst s) r).2.f, rdText_ok ho, rdInv_text hv, fun w h => h.aText hs ho, fun w h => h.bText hs ho hv⟩
theorem both_take (n : Int) (hn : n < 9223372036854775808) : ∃ x a e f, Rd.ok (lst s) ⟨a, e, f⟩ ∧ rdInv ⟨a, e, f⟩ ∧ Both w0 g1 g2 s r 17 18 [.int .i64 n] (.string x) ⟨a, e, f⟩ :=
  ⟨arr (rdTake (lst s) r n).1, (rdTake (lst s) r n).2.a, (rdTake (lst s) r n).2.e, (rdTake (lst s) r n).2.f, rdTake_ok ho n, rdInv_take hv n, fun w h => h.aTake hs ho n hn, fun w h => h.bTake hs ho n hn⟩
end
theorem fixedB {w0 w : World} (h : Below w0.heap.size w0 w) : Calls Try.prog 9 #[] w fun e w' => e = .returned (.bool true) ∧ Below w0.heap.size w0 w' :=
  (shuttlecocklaw02_fixed.calls true w rfl).mono fun _ _ ⟨he, hb⟩ => ⟨he, below_step h hb⟩
theorem newB {w0 w : World} (a0 : ByteArray) (h : Below w0.heap.size w0 w) : Calls Try.prog 10 #[.string a0] w fun e w' => ∃ g : Nat, e = .returned (.pointer (some ⟨g, 0, none⟩)) ∧ IsS50 w0 w' g a0 0 0 0 ∧ Below w0.heap.size w0 w' :=
  (wire_New.calls a0 a0 0 0 0 w0 w h rfl).mono fun _ _ ⟨g, he, hi, hb, _⟩ => ⟨g, he, hi, hb⟩
theorem Two.start {w0 w : World} {g : Nat} {s : ByteArray} (hi : IsS50 w0 w g s 0 0 0) (hb : Below w0.heap.size w0 w) :
    Two w0 (w.alloc (.cells #[.string s, .int .i64 0, .int .i64 0, .int .i64 0] 29)) g w.heap.size s ⟨0, 0, 0⟩ ⟨0, 0, 0⟩ :=
  ⟨hi.alloc _, IsS29.new w0 w s 0 0 0 hb, below_alloc hb _, fun e => by have := hi.lt; omega⟩
set_option maxHeartbeats 4000000 in
set_option maxRecDepth 100000 in
theorem shuttlecocklaw02_WireReads.big (a0 : ByteArray) (A1 : Option Addr) (c1 : Nat) (l1 : List S31) (w : World) (h : (a0.size : Int) > 5000 ∨ ¬ (a0.size : Int) > 5000 ∧ (l1.length : Int) > 100) :
    Calls Try.prog 3 #[.string a0, .slice A1 l1.length c1] w fun e w' => e = .returned (.bool true) ∧ Below w.heap.size w w' := by
  have HB := Aside0.mk (Below.refl w.heap.size w)
  rcases h with h | ⟨h, h2⟩
  · have c1b := decide_eq_true h
    clear h
    go_enter Try.func3, Try.ntmps3
    go_wp2_with (go_at_call 9; (with_reducible refine (fixedB HB.out).mono ?_); rintro e w1 ⟨rfl, hb⟩; clear HB; have HB := Aside0.mk hb; clear hb)
    go_ret
    exact ⟨rfl, HB.out⟩
  · have c1b := decide_eq_false h
    have c2b := decide_eq_true h2
    clear h h2
    go_enter Try.func3, Try.ntmps3
    go_wp2_with (go_at_call 9; (with_reducible refine (fixedB HB.out).mono ?_); rintro e w1 ⟨rfl, hb⟩; clear HB; have HB := Aside0.mk hb; clear hb)
    go_ret
    exact ⟨rfl, HB.out⟩
set_option maxHeartbeats 8000000 in
set_option maxRecDepth 100000 in
theorem shuttlecocklaw02_WireReads.walk (a0 : ByteArray) (A1 : Option Addr) (c1 : Nat) (l1 : List S31) (w : World) (hr1 : Kd.C k31 w A1 l1.length l1) (hw : ∀ x ∈ l1, (Lit.int .i64 x.f1).wf = true) (h : ¬ (a0.size : Int) > 5000) (h2 : ¬ (l1.length : Int) > 100) :
    Calls Try.prog 3 #[.string a0, .slice A1 l1.length c1] w fun e w' => e = .returned (.bool true) ∧ Below w.heap.size w w' := by
  have HB := Aside0.mk (Below.refl w.heap.size w)
  have HR := Aside0.mk hr1
  have HW := Aside0.mk hw
  clear hr1 hw
  have hsz : a0.size < 4611686018427387904 := by omega
  have hln : l1.length ≤ 100 := by omega
  have HZ := Aside0.mk hsz
  have HL := Aside0.mk hln
  have c1b := decide_eq_false h
  have c2b := decide_eq_false h2
  clear h h2 hsz hln
  go_enter Try.func3, Try.ntmps3
  go_wp2_with (first | (go_at_call 9; (with_reducible refine (fixedB HB.out).mono ?_); rintro e w1 ⟨rfl, hb⟩; clear HB; have HB := Aside0.mk hb; clear hb) | (go_at_call 10; (with_reducible refine (newB a0 HB.out).mono ?_); rintro e w2 ⟨g1, rfl, hi, hb⟩; clear HB; have HT := Two.start hi hb; clear hi hb))
  go_loopg [7] (l1.length + 1) (fun kq v7 w' => ∃ (x9 : Int) (a e f : Int), v7 = .int .i64 x9 ∧ Aside0 (0 ≤ x9 ∧ (l1.length : Int) + 1 ≤ x9 + kq) ∧ Two w w' g1 w2.heap.size a0 ⟨a, e, f⟩ ⟨a, e, f⟩ ∧ Aside0 (Rd.ok (lst a0) ⟨a, e, f⟩ ∧ rdInv ⟨a, e, f⟩))
  case atStart => exact ⟨0, 0, 0, 0, rfl, ⟨by omega, by omega⟩, HT, ⟨⟨by simp, by simp⟩, .inl rfl⟩⟩
  case round =>
    clear HT
    obtain ⟨x9, a, e, f, rfl, HA, HT, HO⟩ := hrel
    have HG := Aside0.mk (show g1 ≠ w2.heap.size from HT.2.2.2)
    by_cases d1 : x9 < (l1.length : Int)
    · have d0 := HA.out.1
      cases gk with
      | zero => exact absurd HA.out.2 (by simp only [Int.natCast_zero]; omega)
      | succ k1 =>
      have HA' : Aside0 (0 ≤ wrap64 (x9 + 1) ∧ (l1.length : Int) + 1 ≤ wrap64 (x9 + 1) + k1) := ⟨by
        have q1 := HA.out.2
        have q2 := HL.out
        rw [wrap64_of (show -9223372036854775808 ≤ x9 + 1 by omega) (show x9 + 1 < 9223372036854775808 by omega)]
        omega⟩
      clear HA
      have d1b : decide (x9 < (l1.length : Int)) = true := decide_eq_true d1
      obtain ⟨ad, ea, hx0, hx1⟩ := at_T31 HR.out x9 d0 d1
      have hN : (Lit.int .i64 (rd_T31 l1 x9).f1).wf = true := HW.out _ (by
        have q : x9.toNat < l1.length := by omega
        unfold rd_T31
        rw [List.getD_eq_getElem?_getD, List.getElem?_eq_getElem q]
        exact List.getElem_mem q)
      have hN2 : (rd_T31 l1 x9).f1 < 9223372036854775808 := by
        have q := hN
        simp [Lit.wf, IntKind.signed, IntKind.bits] at q
        omega
      clear hN
      generalize (rd_T31 l1 x9).f0 = D at hx0
      generalize (rd_T31 l1 x9).f1 = N at hx1 hN2
      have HX0 := Aside0.mk hx0
      have HX1 := Aside0.mk hx1
      have HN := Aside0.mk hN2
      cases ea
      replace hx0 := (HT.2.2.1.cell (World.block_lt_of_cell? w _ hx0)).trans hx0
      replace hx1 := (HT.2.2.1.cell (World.block_lt_of_cell? w _ hx1)).trans hx1
      clear hN2
      have p1 := eq_true d0
      have q1 := eq_true d1
      clear d0 d1
      by_cases e0 : D = 0
      · subst e0
        obtain ⟨n, a', e', f', ho, hv, BA, BB⟩ := both_num w g1 w2.heap.size a0 ⟨a, e, f⟩ HZ.out HO.out.1 HO.out.2
        have HO' := Aside0.mk (And.intro ho hv)
        have HBA := Aside0.mk BA
        have HBB := Aside0.mk BB
        clear ho hv BA BB HO
        go_wp2_with (first | (go_at_call 11; (with_reducible refine (HBA.out _ HT).mono ?_); rintro e_ w3 ⟨rfl, HT1⟩; skip) | (go_at_call 12; (with_reducible refine (HBB.out _ HT1).mono ?_); rintro e_ w4 ⟨rfl, HT2⟩) | (go_at_call 19; (with_reducible refine (Two.aErr HT2).mono ?_); rintro e_ w5 ⟨rfl, HT3⟩))
        have HT4 := HT3.drew
        clear HT HT1 HT2
        go_region_held3 (fun w' => w'.cell? ⟨w2.heap.size, 1, none⟩ = some (.int .i64 a') ∧ w'.cell? ⟨w2.heap.size, 2, none⟩ = some (.int .i64 e') ∧ w'.cell? ⟨w2.heap.size, 3, none⟩ = some (.int .i64 f') ∧ Two w w' g1 w2.heap.size a0 ⟨a', e', f'⟩ ⟨a', e', f'⟩)
          (first | exact ⟨HJ.cells.1, HJ.cells.2.1, HJ.cells.2.2, HJ⟩ | exact ⟨HT4.cells.1, HT4.cells.2.1, HT4.cells.2.2, HT4⟩)
          (first | (go_at_call 20; (with_reducible refine (Two.aAt (r := ⟨a', e', f'⟩) (q := ⟨a', e', f'⟩) (w0 := w) (by assumption)).mono ?_); rintro e_ w6 ⟨rfl, HJ⟩) | (go_at_call 21; (with_reducible refine (Two.aDone (r := ⟨a', e', f'⟩) (q := ⟨a', e', f'⟩) (w0 := w) (by assumption)).mono ?_); rintro e_ w7 ⟨rfl, HJ⟩) | (go_at_call 22; (with_reducible refine (Two.bDone (r := ⟨a', e', f'⟩) (q := ⟨a', e', f'⟩) (w0 := w) (by assumption)).mono ?_); rintro e_ w8 ⟨rfl, HJ⟩))
        go_wp2
        go_roundg k1
        case rel => exact ⟨_, a', e', f', rfl, HA', HJ, HO'⟩
        case measure => exact Nat.lt_succ_self _
      · have e0b : (D == 0) = false := beq_eq_false_iff_ne.2 e0
        clear e0
        by_cases e1 : D = 1
        · subst e1
          obtain ⟨n, a', e', f', ho, hv, BA, BB⟩ := both_byte w g1 w2.heap.size a0 ⟨a, e, f⟩ HZ.out HO.out.1 HO.out.2
          have HO' := Aside0.mk (And.intro ho hv)
          have HBA := Aside0.mk BA
          have HBB := Aside0.mk BB
          clear ho hv BA BB HO
          go_wp2_with (first | (go_at_call 13; (with_reducible refine (HBA.out _ HT).mono ?_); rintro e_ w3 ⟨rfl, HT1⟩; skip) | (go_at_call 14; (with_reducible refine (HBB.out _ HT1).mono ?_); rintro e_ w4 ⟨rfl, HT2⟩) | (go_at_call 19; (with_reducible refine (Two.aErr HT2).mono ?_); rintro e_ w5 ⟨rfl, HT3⟩))
          have HT4 := HT3.drew
          clear HT HT1 HT2
          go_region_held3 (fun w' => w'.cell? ⟨w2.heap.size, 1, none⟩ = some (.int .i64 a') ∧ w'.cell? ⟨w2.heap.size, 2, none⟩ = some (.int .i64 e') ∧ w'.cell? ⟨w2.heap.size, 3, none⟩ = some (.int .i64 f') ∧ Two w w' g1 w2.heap.size a0 ⟨a', e', f'⟩ ⟨a', e', f'⟩)
            (first | exact ⟨HJ.cells.1, HJ.cells.2.1, HJ.cells.2.2, HJ⟩ | exact ⟨HT4.cells.1, HT4.cells.2.1, HT4.cells.2.2, HT4⟩)
            (first | (go_at_call 20; (with_reducible refine (Two.aAt (r := ⟨a', e', f'⟩) (q := ⟨a', e', f'⟩) (w0 := w) (by assumption)).mono ?_); rintro e_ w6 ⟨rfl, HJ⟩) | (go_at_call 21; (with_reducible refine (Two.aDone (r := ⟨a', e', f'⟩) (q := ⟨a', e', f'⟩) (w0 := w) (by assumption)).mono ?_); rintro e_ w7 ⟨rfl, HJ⟩) | (go_at_call 22; (with_reducible refine (Two.bDone (r := ⟨a', e', f'⟩) (q := ⟨a', e', f'⟩) (w0 := w) (by assumption)).mono ?_); rintro e_ w8 ⟨rfl, HJ⟩))
          go_wp2
          go_roundg k1
          case rel => exact ⟨_, a', e', f', rfl, HA', HJ, HO'⟩
          case measure => exact Nat.lt_succ_self _
        · have e1b : (D == 1) = false := beq_eq_false_iff_ne.2 e1
          clear e1
          by_cases e2 : D = 2
          · subst e2
            obtain ⟨n, a', e', f', ho, hv, BA, BB⟩ := both_text w g1 w2.heap.size a0 ⟨a, e, f⟩ HZ.out HO.out.1 HO.out.2
            have HO' := Aside0.mk (And.intro ho hv)
            have HBA := Aside0.mk BA
            have HBB := Aside0.mk BB
            clear ho hv BA BB HO
            go_wp2_with (first | (go_at_call 15; (with_reducible refine (HBA.out _ HT).mono ?_); rintro e_ w3 ⟨rfl, HT1⟩; skip) | (go_at_call 16; (with_reducible refine (HBB.out _ HT1).mono ?_); rintro e_ w4 ⟨rfl, HT2⟩) | (go_at_call 19; (with_reducible refine (Two.aErr HT2).mono ?_); rintro e_ w5 ⟨rfl, HT3⟩))
            have HT4 := HT3.drew
            clear HT HT1 HT2
            go_region_held3 (fun w' => w'.cell? ⟨w2.heap.size, 1, none⟩ = some (.int .i64 a') ∧ w'.cell? ⟨w2.heap.size, 2, none⟩ = some (.int .i64 e') ∧ w'.cell? ⟨w2.heap.size, 3, none⟩ = some (.int .i64 f') ∧ Two w w' g1 w2.heap.size a0 ⟨a', e', f'⟩ ⟨a', e', f'⟩)
              (first | exact ⟨HJ.cells.1, HJ.cells.2.1, HJ.cells.2.2, HJ⟩ | exact ⟨HT4.cells.1, HT4.cells.2.1, HT4.cells.2.2, HT4⟩)
              (first | (go_at_call 20; (with_reducible refine (Two.aAt (r := ⟨a', e', f'⟩) (q := ⟨a', e', f'⟩) (w0 := w) (by assumption)).mono ?_); rintro e_ w6 ⟨rfl, HJ⟩) | (go_at_call 21; (with_reducible refine (Two.aDone (r := ⟨a', e', f'⟩) (q := ⟨a', e', f'⟩) (w0 := w) (by assumption)).mono ?_); rintro e_ w7 ⟨rfl, HJ⟩) | (go_at_call 22; (with_reducible refine (Two.bDone (r := ⟨a', e', f'⟩) (q := ⟨a', e', f'⟩) (w0 := w) (by assumption)).mono ?_); rintro e_ w8 ⟨rfl, HJ⟩))
            go_wp2
            go_roundg k1
            case rel => exact ⟨_, a', e', f', rfl, HA', HJ, HO'⟩
            case measure => exact Nat.lt_succ_self _
          · have e2b : (D == 2) = false := beq_eq_false_iff_ne.2 e2
            clear e2
            obtain ⟨n, a', e', f', ho, hv, BA, BB⟩ := both_take w g1 w2.heap.size a0 ⟨a, e, f⟩ HZ.out HO.out.1 HO.out.2 N HN.out
            have HO' := Aside0.mk (And.intro ho hv)
            have HBA := Aside0.mk BA
            have HBB := Aside0.mk BB
            clear ho hv BA BB HO
            go_wp2_with (first | (go_at_call 17; (with_reducible refine (HBA.out _ HT).mono ?_); rintro e_ w3 ⟨rfl, HT1⟩; have hx1 := (HT1.2.2.1.cell (World.block_lt_of_cell? w _ HX1.out)).trans HX1.out; skip) | (go_at_call 18; (with_reducible refine (HBB.out _ HT1).mono ?_); rintro e_ w4 ⟨rfl, HT2⟩) | (go_at_call 19; (with_reducible refine (Two.aErr HT2).mono ?_); rintro e_ w5 ⟨rfl, HT3⟩))
            have HT4 := HT3.drew
            clear HT HT1 HT2
            go_region_held3 (fun w' => w'.cell? ⟨w2.heap.size, 1, none⟩ = some (.int .i64 a') ∧ w'.cell? ⟨w2.heap.size, 2, none⟩ = some (.int .i64 e') ∧ w'.cell? ⟨w2.heap.size, 3, none⟩ = some (.int .i64 f') ∧ Two w w' g1 w2.heap.size a0 ⟨a', e', f'⟩ ⟨a', e', f'⟩)
              (first | exact ⟨HJ.cells.1, HJ.cells.2.1, HJ.cells.2.2, HJ⟩ | exact ⟨HT4.cells.1, HT4.cells.2.1, HT4.cells.2.2, HT4⟩)
              (first | (go_at_call 20; (with_reducible refine (Two.aAt (r := ⟨a', e', f'⟩) (q := ⟨a', e', f'⟩) (w0 := w) (by assumption)).mono ?_); rintro e_ w6 ⟨rfl, HJ⟩) | (go_at_call 21; (with_reducible refine (Two.aDone (r := ⟨a', e', f'⟩) (q := ⟨a', e', f'⟩) (w0 := w) (by assumption)).mono ?_); rintro e_ w7 ⟨rfl, HJ⟩) | (go_at_call 22; (with_reducible refine (Two.bDone (r := ⟨a', e', f'⟩) (q := ⟨a', e', f'⟩) (w0 := w) (by assumption)).mono ?_); rintro e_ w8 ⟨rfl, HJ⟩))
            go_wp2
            go_roundg k1
            case rel => exact ⟨_, a', e', f', rfl, HA', HJ, HO'⟩
            case measure => exact Nat.lt_succ_self _
    · have d1b : decide (x9 < (l1.length : Int)) = false := decide_eq_false d1
      clear d1
      have HB := Aside0.mk HT.2.2.1
      go_wp2
      go_ret
      exact ⟨rfl, HB.out⟩
def shuttlecocklaw02_WireReads.f (a0 : ByteArray) (l1 : List S31) : Option Bool := if ∀ x ∈ l1, (Lit.int .i64 x.f1).wf = true then some true else none
theorem shuttlecocklaw02_WireReads.calls (a0 : ByteArray) (A1 : Option Addr) (c1 : Nat) (l1 : List S31) (r : Bool) (w : World) (hr1 : Kd.C k31 w A1 l1.length l1) (hc1 : l1.length ≤ c1) (h : shuttlecocklaw02_WireReads.f a0 l1 = some r) :
    Calls Try.prog 3 #[.string a0, .slice A1 l1.length c1] w fun e w' => e = .returned (.bool r) ∧ Below w.heap.size w w' := by
  unfold shuttlecocklaw02_WireReads.f at h
  split at h
  · rename_i hw
    obtain rfl := Option.some.inj h
    by_cases h1 : (a0.size : Int) > 5000
    · exact shuttlecocklaw02_WireReads.big a0 A1 c1 l1 w (.inl h1)
    · by_cases h2 : (l1.length : Int) > 100
      · exact shuttlecocklaw02_WireReads.big a0 A1 c1 l1 w (.inr ⟨h1, h2⟩)
      · exact shuttlecocklaw02_WireReads.walk a0 A1 c1 l1 w hr1 hw h1 h2
  · cases h
def shuttlecocklaw02_WireReads.Pure : Prop := ∀ (y0 : ByteArray) (y1 : List S31), y0.size ≤ maxLen → ((∀ e2 ∈ y1, ((Lit.int .i64 e2.f0).wf = true ∧ (Lit.int .i64 e2.f1).wf = true)) ∧ y1.length ≤ maxLen) → shuttlecocklaw02_WireReads.f y0 y1 = some true
end Go.Proofs.Ythbfgggpggjldaa.Q
namespace Go.Proofs.Ythbfgggpggjldaa.Pure
open Go.Proofs.Ythbfgggpggjldaa.Q
theorem WireReads : shuttlecocklaw02_WireReads.Pure := by
  intro y0 y1 _ h
  unfold shuttlecocklaw02_WireReads.f
  rw [if_pos (fun x hx => (h.1 x hx).2)]
end Go.Proofs.Ythbfgggpggjldaa.Pure
