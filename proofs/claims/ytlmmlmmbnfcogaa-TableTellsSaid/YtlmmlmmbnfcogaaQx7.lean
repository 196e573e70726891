-- printed by a program of this session (NOTES: hprint); not the kit's print
-- minified3
-- minified2
-- minified
-- halved
import Derived.Test.YtlmmlmmbnfcogaaAl
import Derived.Test.YtlmmlmmbnfcogaaQx0
import Derived.Test.YtlmmlmmbnfcogaaQx5
import Derived.Test.YtlmmlmmbnfcogaaQx6
namespace Go.Proofs.Ytlmmlmmbnfcogaa.Q
open Go.RowKit Go.Proofs.YtlmmlmmbnfcogaaW.PrintWords Go.Proofs.YtlmmlmmbnfcogaaW.PrintLast Go.Proofs.YtlmmlmmbnfcogaaW.PrintMore
attribute [local go_sem] max2_int min2_int max_two min_two max_three min_three max_four min_four   -- for this text's walks alone
set_option linter.unusedVariables false
set_option linter.unusedSimpArgs false

def q7_0 : Array Bool := let o := true; let z := false; #[z,z,z,z,z,z,z,z,z,z,z,z]
def q7_1 : Array Bool := let o := true; let z := false; #[o,z,z,z,z,z,z,z,z,z,z,z]
def q7_2 : Array Bool := let o := true; let z := false; #[o,z,z,o,z,z,z,z,z,z,z,z]
def q7_3 : Array Bool := let o := true; let z := false; #[o,z,z,o,z,o,z,z,z,z,z,z]
def q7_4 : Array Bool := let o := true; let z := false; #[o,z,z,o,z,o,o,z,z,z,z,z]
def q7_5 : Array Bool := let o := true; let z := false; #[o,z,z,o,o,o,o,z,z,z,z,z]
def q7_6 : Array Bool := let o := true; let z := false; #[o,z,z,o,o,o,o,o,z,z,z,z]
def q7_7 : Array Bool := let o := true; let z := false; #[o,z,z,o,o,o,o,o,o,z,z,z]
def q7_8 : Array Bool := let o := true; let z := false; #[o,o,z,o,o,o,o,o,o,z,z,z]
def q7_9 : Array Bool := let o := true; let z := false; #[o,o,o,o,o,o,o,o,o,z,z,z]
def q7_10 : Array Bool := let o := true; let z := false; #[o,o,o,o,o,o,o,o,o,o,z,z]
def q7_11 : Array Bool := let o := true; let z := false; #[o,o,o,o,o,o,o,o,o,o,o,z]
def q7_12 : Array Bool := let o := true; let z := false; #[o,o,o,o,o,o,o,o,o,o,o,o]
def q7_13 : Array Bool := let o := true; let z := false; #[z,z,z,z,z,z,z,z,z,z,z]
def q7_14 : Array Bool := let o := true; let z := false; #[z,o,z,z,z,z,z,z,z,z,z]
def q7_15 : Array Bool := let o := true; let z := false; #[z,o,z,z,z,o,z,z,z,z,z]
def q7_16 : Array Bool := let o := true; let z := false; #[o,o,z,z,z,o,z,z,z,z,z]
def q7_17 : Array Bool := let o := true; let z := false; #[o,o,o,z,z,o,z,z,z,z,z]
def q7_18 : Array Bool := let o := true; let z := false; #[o,o,o,o,z,o,z,z,z,z,z]
def q7_19 : Array Bool := let o := true; let z := false; #[o,o,o,o,z,o,o,z,z,z,z]
def q7_20 : Array Bool := let o := true; let z := false; #[o,o,o,o,z,o,o,o,z,z,z]
def q7_21 : Array Bool := let o := true; let z := false; #[o,o,o,o,o,o,o,o,z,z,z]
def q7_22 : Array Bool := let o := true; let z := false; #[o,o,o,o,o,o,o,o,o,z,z]
def q7_23 : Array Bool := let o := true; let z := false; #[o,o,o,o,o,o,o,o,o,o,z]
def q7_24 : Array Bool := let o := true; let z := false; #[o,o,o,o,o,o,o,o,o,o,o]
/-! ### table_Order: function 13, by hand -/
def table_Order.T8 : Bool × List (List Nat × List Nat) := (true, [([], []), ([0], [0]), ([1], [1]), ([], []), ([3], [3]), ([], []), ([5], [5]), ([4, 6], [4, 6]), ([7], [7]), ([8, 2], [8]), ([2, 9], [2, 9]), ([10, 9], [10])])
def table_Order.B8 : List Nat := [0, 1, 3, 0, 8, 0, 32, 120, 248, 511, 1023, 2047]
theorem table_Order.tab8 : rtab .any (opsOf Try.f13 8) = table_Order.T8 := by kernel_rfl
theorem table_Order.bits8 : waitsOk table_Order.T8.2 table_Order.B8 = true := by kernel_rfl
/-- A piece that is written: numbers; a number and a text; one that is out of reach. -/
inductive Pc where
 | n (l : List Int)
 | s (i : Int) (t : ByteArray)
 | bad
def pcF (k : Nat) : Pc → Option ByteArray
 | .n l => wire_Nums.f k l
 | .s i t => (wire_Nums.f k [i]).bind fun a => (wire_Text.f k t).bind fun b => if a.size + b.size ≤ 9223372036854775807 then some (a ++ b) else none
 | .bad => none
theorem pcF_mono (k : Nat) : ∀ p, LeO (pcF k p) (pcF (k + 1) p)
 | .n l => wire_Nums.mono l k
 | .s i t => LeO.bind (wire_Nums.mono _ k) (fun _ => LeO.bind (wire_Text.mono _ k) (fun _ => LeO.refl _))
 | .bad => LeO.refl _
/-- Pieces, one behind the other. -/
def encK (k : Nat) : ByteArray → List Pc → Option ByteArray
 | acc, [] => some acc
 | acc, p :: r => (pcF k p).bind fun t => if acc.size + t.size ≤ 140737488355328 then encK k (acc ++ t) r else none
theorem encK_mono (k : Nat) : ∀ (rs : List Pc) (acc : ByteArray), LeO (encK k acc rs) (encK (k + 1) acc rs)
 | [], acc => LeO.refl _
 | p :: r, acc => by
  unfold encK
  exact LeO.bind (pcF_mono k p) (fun t => LeO.ite (encK_mono k r _) (LeO.refl _))
theorem encK_step {k : Nat} {acc : ByteArray} {p : Pc} {rs : List Pc} {r : ByteArray} (h : encK k acc (p :: rs) = some r) : ∃ t, pcF k p = some t ∧ acc.size + t.size ≤ 140737488355328 ∧ encK k (acc ++ t) rs = some r := by
 unfold encK at h
 obtain ⟨t, h1, h2⟩ := Option.bind_eq_some_iff.1 h
 by_cases c : acc.size + t.size ≤ 140737488355328
 ·
  rw [if_pos c] at h2; exact ⟨t, h1, c, h2⟩
 ·
  rw [if_neg c] at h2; cases h2
def nameP (ss : List ByteArray) (i : Int) : Pc := if 1 ≤ i ∧ i ≤ ss.length then .s i (rdOf ByteArray.empty ss (i - 1)) else .bad
def rowF (l : List S70) : List Pc := l.map fun f => .n [f.f0, f.f1]
def stackP (zs : List (List S70)) (i : Int) : List Pc := if 1 ≤ i ∧ i ≤ zs.length then .n [i, ((rd_stk zs (i - 1)).length : Int)] :: rowF (rd_stk zs (i - 1)) else [.bad]
def ordP (ss : List ByteArray) (zs : List (List S70)) (l1 l2 : List Int) : List Pc := .n [(l1.length : Int)] :: (l1.map (nameP ss) ++ (.n [(l2.length : Int)] :: l2.flatMap (stackP zs)))
def table_Order.f (k : Nat) (l0_0 : List ByteArray) (l0_1 : List (List S70)) (l1 l2 : List Int) : Option ByteArray :=
 (intern_May.f k l0_0 l0_1).bind fun m => if m = true then ((table_each.f k l1 (l0_0.length : Int)).bind fun e1 => if e1 = true then ((table_each.f k l2 (l0_1.length : Int)).bind fun e2 => if e2 = true then encK k (⟨#[]⟩ : ByteArray) (ordP l0_0 l0_1 l1 l2) else some (⟨#[]⟩ : ByteArray)) else some (⟨#[]⟩ : ByteArray)) else some (⟨#[]⟩ : ByteArray)
theorem table_Order.mono : ∀ a0 a1 a2 a3 k, LeO (table_Order.f k a0 a1 a2 a3) (table_Order.f (k + 1) a0 a1 a2 a3) := fun a0 a1 a2 a3 k => by
 unfold table_Order.f
 exact LeO.bind (intern_May.mono _ _ k) (fun _ => LeO.ite (LeO.bind (table_each.mono _ _ k) (fun _ => LeO.ite (LeO.bind (table_each.mono _ _ k) (fun _ => LeO.ite (encK_mono k _ _) (LeO.refl _))) (LeO.refl _))) (LeO.refl _))
theorem map_drop1 {α β : Type} (f : α → β) (l : List α) (d : α) {x : Int} (h0 : 0 ≤ x) (h1 : x < (l.length : Int)) : (l.drop x.toNat).map f = f (l.getD x.toNat d) :: (l.drop (x.toNat + 1)).map f := by
 have hx : x.toNat < l.length := by omega
 rw [List.drop_eq_getElem_cons hx, List.getD_eq_getElem?_getD, List.getElem?_eq_getElem hx]
 rfl
theorem rowF_drop {l : List S70} {x : Int} (h0 : 0 ≤ x) (h1 : x < (l.length : Int)) : rowF (l.drop x.toNat) = .n [(rd_T70 l x).f0, (rd_T70 l x).f1] :: rowF (l.drop (x.toNat + 1)) := by
 have hx : x.toNat < l.length := by omega
 unfold rd_T70 rowF
 rw [List.drop_eq_getElem_cons hx, List.getD_eq_getElem?_getD, List.getElem?_eq_getElem hx]
 rfl
theorem flat_drop1 {α β : Type} (f : α → List β) (l : List α) (d : α) {x : Int} (h0 : 0 ≤ x) (h1 : x < (l.length : Int)) : (l.drop x.toNat).flatMap f = f (l.getD x.toNat d) ++ (l.drop (x.toNat + 1)).flatMap f := by
 have hx : x.toNat < l.length := by omega
 rw [List.drop_eq_getElem_cons hx, List.getD_eq_getElem?_getD, List.getElem?_eq_getElem hx]
 rfl
theorem lit_C (w : World) (xs : List Int) (t : TypeId) (hl : xs.length ≤ 9223372036854775807) : Kd.C (Kd.int .i64) (w.alloc (.cells (xs.map (Value.int .i64)).toArray t)) (some ⟨w.heap.size, 0, none⟩) xs.length xs := by
 refine ⟨rfl, hl, fun hn => ⟨_, rfl, fun j p hj => ⟨[.int .i64 p], rfl, rfl, fun i u hu => ?_⟩⟩⟩
 obtain ⟨hl, hp⟩ := List.getElem?_eq_some_iff.1 hj
 cases i with
 | succ i => simp at hu
 | zero =>
  have e : (⟨w.heap.size, 0, none⟩ : Addr).add (j * (Kd.int .i64).sz + 0) = ⟨w.heap.size, j, none⟩ := by
   show (⟨w.heap.size, 0, none⟩ : Addr).add (j * 1 + 0) = _
   simp [Addr.add]
   exact fun h => h.symm
  have hu2 : u = .int .i64 p := by simpa using hu.symm
  rw [e, hu2]
  refine (bc (blk_new w _) j).trans ?_
  simp [hj]
theorem alloc_size (w : World) (o : Obj) : (w.alloc o).heap.size = w.heap.size + 1 := by
 show (w.heap.push o).size = _
 simp
theorem nums_lit (k : Nat) (W : World) (xs : List Int) (t0 : TypeId) (hl : xs.length ≤ 9223372036854775807) (g : Nat) (hg : W.heap.size = g) {t : ByteArray} (h : wire_Nums.f k xs = some t) : Calls Try.prog 29 #[.slice (some ⟨g, 0, none⟩) xs.length xs.length] (W.alloc (.cells (xs.map (Value.int .i64)).toArray t0)) fun e w' => e = .returned (.string t) ∧ Below W.heap.size W w' := by
 subst hg
 refine (wire_Nums.calls k _ _ xs t _ (lit_C W xs _ hl) (Nat.le_refl _) h).mono fun e w' ⟨he, hb⟩ => ⟨he, below_step (bl (Below.refl _ _) _) hb⟩
theorem nums_lit1 (k : Nat) (W : World) (a : Int) (g : Nat) (hg : W.heap.size = g) {t : ByteArray} (h : wire_Nums.f k [a] = some t) : Calls Try.prog 29 #[.slice (some ⟨g, 0, none⟩) 1 1] (W.alloc (.cells #[.int .i64 a] 3)) fun e w' => e = .returned (.string t) ∧ Below W.heap.size W w' := nums_lit k W [a] _ (by simp) g hg h
theorem nums_lit2 (k : Nat) (W : World) (a b : Int) (t0 : TypeId) (g : Nat) (hg : W.heap.size = g) {t : ByteArray} (h : wire_Nums.f k [a, b] = some t) : Calls Try.prog 29 #[.slice (some ⟨g, 0, none⟩) 2 2] (W.alloc (.cells #[.int .i64 a, .int .i64 b] t0)) fun e w' => e = .returned (.string t) ∧ Below W.heap.size W w' := nums_lit k W [a, b] _ (by simp) g hg h
theorem NumsAt.box {w w' : World} {acc : ByteArray} {g : Nat} {o : Obj} (h : NumsAt w acc w') (hb : w.heap[g]? = some o) : w'.heap[g]? = some o := (h.2.block g (blk_lt hb)).trans hb
theorem nx_enc (x : Int) (n : Nat) (h : x < (n : Int)) (h0 : 0 ≤ x) (hn : n ≤ 9223372036854775807) : wrap64 (x + 1) = x + 1 := by
 unfold wrap64
 omega
set_option maxHeartbeats 8000000 in
set_option maxRecDepth 100000 in
theorem table_Order.calls (k : Nat) (A0_0 : Option Addr) (c0_0 : Nat) (l0_0 : List ByteArray) (A0_1 : Option Addr) (c0_1 : Nat) (l0_1 : List (List S70)) (A1 : Option Addr) (c1 : Nat) (l1 : List Int) (A2 : Option Addr) (c2 : Nat) (l2 : List Int) (r : ByteArray) (w : World) (hr0_0 : Kd.C Kd.string w A0_0 l0_0.length l0_0) (hc0_0 : l0_0.length ≤ c0_0) (hr0_1 : Kd.C (Kd.slice 70 k70) w A0_1 l0_1.length l0_1) (hc0_1 : l0_1.length ≤ c0_1) (hr1 : Kd.C (Kd.int .i64) w A1 l1.length l1) (hc1 : l1.length ≤ c1) (hr2 : Kd.C (Kd.int .i64) w A2 l2.length l2) (hc2 : l2.length ≤ c2) (h : table_Order.f k l0_0 l0_1 l1 l2 = some r) :
  Calls Try.prog 13 #[.agg #[.slice A0_0 l0_0.length c0_0, .slice A0_1 l0_1.length c0_1], .slice A1 l1.length c1, .slice A2 l2.length c2] w fun e w' => e = .returned (.string r) ∧ Below w.heap.size w w' := by
 have hml1 := hr1.2.1
 have hml2 := hr2.2.1
 have hml3 := hr0_0.2.1
 have hml4 := hr0_1.2.1
 have HR0 := Am hr0_0
 have HR1 := Am hr0_1
 have HN1 := Am hr1
 have HN2 := Am hr2
 have BX := Am (blk_new w (.cells #[.slice A0_0 l0_0.length c0_0, .slice A0_1 l0_1.length c0_1] 25))
 have HA0 := Am (bl (Below.refl w.heap.size w) (.cells #[.slice A0_0 l0_0.length c0_0, .slice A0_1 l0_1.length c0_1] 25))
 obtain ⟨m, hm, h⟩ := ob h
 have HMAY := Am (fun W (hb : Below w.heap.size w W) => intern_May.calls k A0_0 c0_0 l0_0 A0_1 c0_1 l0_1 m W (Kd.C_below hr0_0 hb) hc0_0 (Kd.C_below hr0_1 hb) hc0_1 hm)
 have HE1 := fun e1 h1 => Am (fun W (hb : Below w.heap.size w W) => table_each.calls k A1 c1 l1 (l0_0.length : Int) e1 W (Kd.C_below hr1 hb) hc1 h1)
 have HE2 := fun e2 h2 => Am (fun W (hb : Below w.heap.size w W) => table_each.calls k A2 c2 l2 (l0_1.length : Int) e2 W (Kd.C_below hr2 hb) hc2 h2)
 clear hr0_0 hr0_1 hr1 hr2 hc0_0 hc0_1 hc1 hc2 hm
 cases m with
 | false =>
  simp only [Bool.false_eq_true, if_false, Option.some.injEq] at h
  subst h
  clear HE1 HE2
  go_enter Try.func13, Try.ntmps13
  go_wp2_with (first | (go_at_call 22; (with_reducible refine (HMAY.out _ HA0.out).mono ?_); rintro e w1 ⟨rfl, hb⟩; have HB1 := Am (below_step HA0.out hb); clear hb))
  go_ret
  exact ⟨rfl, HB1.out⟩
 | true =>
  simp only [if_true] at h
  obtain ⟨e1, h1, h⟩ := ob h
  replace HE1 := HE1 e1 h1
  clear h1
  cases e1 with
  | false =>
   simp only [Bool.false_eq_true, if_false, Option.some.injEq] at h
   subst h
   clear HE2
   go_enter Try.func13, Try.ntmps13
   go_wp2_with (first | (go_at_call 22; (with_reducible refine (HMAY.out _ HA0.out).mono ?_); rintro e w1 ⟨rfl, hb⟩; have HB1 := Am (below_step HA0.out hb); have BX1 := Am (blk_below BX.out hb); clear hb; have hq0 := (bc BX1.out 0).trans (show _ = some (Value.slice A0_0 l0_0.length c0_0) from rfl)) | (go_at_call 27; (with_reducible refine (HE1.out _ HB1.out).mono ?_); rintro e w2 ⟨rfl, hb⟩; have HB2 := Am (below_step HB1.out hb); clear hb))
   go_ret
   exact ⟨rfl, HB2.out⟩
  | true =>
   simp only [if_true] at h
   obtain ⟨e2, h2, h⟩ := ob h
   replace HE2 := HE2 e2 h2
   clear h2
   cases e2 with
   | false =>
    simp only [Bool.false_eq_true, if_false, Option.some.injEq] at h
    subst h
    go_enter Try.func13, Try.ntmps13
    go_wp2_with (first | (go_at_call 22; (with_reducible refine (HMAY.out _ HA0.out).mono ?_); rintro e w1 ⟨rfl, hb⟩; have HB1 := Am (below_step HA0.out hb); have BX1 := Am (blk_below BX.out hb); clear hb; have hq0 := (bc BX1.out 0).trans (show _ = some (Value.slice A0_0 l0_0.length c0_0) from rfl)) | (go_at_call 27; (with_reducible refine (HE1.out _ HB1.out).mono ?_); rintro e w2 ⟨rfl, hb⟩; have HB2 := Am (below_step HB1.out hb); have BX2 := Am (blk_below BX1.out hb); clear hb hq0; have hq1 := (bc BX2.out 1).trans (show _ = some (Value.slice A0_1 l0_1.length c0_1) from rfl)) | (go_at_call 27; (with_reducible refine (HE2.out _ HB2.out).mono ?_); rintro e w3 ⟨rfl, hb⟩; have HB3 := Am (below_step HB2.out hb); clear hb))
    go_ret
    exact ⟨rfl, HB3.out⟩
   | true =>
    simp only [if_true] at h
    unfold ordP at h
    obtain ⟨t0, ht0, hs0, h⟩ := encK_step h
    have HT0 := Am (show wire_Nums.f k [(l1.length : Int)] = some t0 from ht0)
    have HS0 := Am (show (Lib.strCells (⟨#[]⟩ : ByteArray)).length + t0.size ≤ 140737488355328 by rw [Lib.strCells_length]; exact hs0)
    have H' := Am h
    clear h ht0 hs0
    go_enter Try.func13, Try.ntmps13
    go_wp2_with (first | (go_at_call 22; (with_reducible refine (HMAY.out _ HA0.out).mono ?_); rintro e w1 ⟨rfl, hb⟩; have HB1 := Am (below_step HA0.out hb); have BX1 := Am (blk_below BX.out hb); clear hb; have hq0 := (bc BX1.out 0).trans (show _ = some (Value.slice A0_0 l0_0.length c0_0) from rfl)) | (go_at_call 27; (with_reducible refine (HE1.out _ HB1.out).mono ?_); rintro e w2 ⟨rfl, hb⟩; have HB2 := Am (below_step HB1.out hb); have BX2 := Am (blk_below BX1.out hb); clear hb hq0; have hq1 := (bc BX2.out 1).trans (show _ = some (Value.slice A0_1 l0_1.length c0_1) from rfl)) | (go_at_call 27; (with_reducible refine (HE2.out _ HB2.out).mono ?_); rintro e w3 ⟨rfl, hb⟩; have HB3 := Am (below_step HB2.out hb); have BX3 := Am (blk_below BX2.out hb); clear hb hq1; have HM0 := Am (NumsAt.start w3)) | (go_at_call 29; (refine (nums_lit1 k _ (l1.length : Int) _ (by first | rfl | exact alloc_size _ _) HT0.out).mono ?_); rintro e w4 ⟨rfl, hb⟩; have HM1 := Am (NumsAt.below HM0.out hb); clear hb) | (go_at_call 28; (refine (Go.Proofs.Ytlmmlmmbnfcogaa.Bld.writeString w3.heap.size w3.heap.size _ t0 _ HM1.out.1 HS0.out (below_size HM1.out.2)).mono ?_); rintro e w5 ⟨rfl, hk, hb⟩; have HM2 := Am (NumsAt.put HM1.out hk hb); clear hk hb))
    go_loopg [41] (l1.length + 1) (fun kq v41 w' => ∃ (x : Int) (acc : ByteArray), v41 = .int .i64 x ∧ Aside0 (0 ≤ x ∧ x ≤ l1.length ∧ (kq : Int) + x = l1.length + 1) ∧ Aside0 (encK k acc ((l1.drop x.toNat).map (nameP l0_0) ++ (.n [(l2.length : Int)] :: l2.flatMap (stackP l0_1))) = some r) ∧ Aside0 (NumsAt w3 acc w'))
    case atStart => exact ⟨0, _, rfl, ⟨by omega, by omega, by omega⟩, H', HM2⟩
    case round =>
     clear H' HM2 HM1 HM0 HMAY HE1 HE2 HT0 HS0
     obtain ⟨x, acc, rfl, HA, HE, HM⟩ := hrel
     cases gk with
     | zero => exact absurd HA.out.2.2 (by have := HA.out.2.1; omega)
     | succ k1 =>
     by_cases d1 : x < (l1.length : Int)
     ·
      have d1b : decide (x < (l1.length : Int)) = true := decide_eq_true d1
      have d0 := HA.out.1
      have he := HE.out
      rw [map_drop1 (nameP l0_0) l1 0 d0 d1, List.cons_append] at he
      obtain ⟨t1, ht1, hs1, he⟩ := encK_step he
      replace ht1 : pcF k (nameP l0_0 (rd l1 x)) = some t1 := ht1
      have HS1 := Am (show (Lib.strCells acc).length + t1.size ≤ 140737488355328 by rw [Lib.strCells_length]; exact hs1)
      have HE' := Am he
      clear he HE hs1
      obtain ⟨ad1, ea1, hx1⟩ := Kd.at_int HN1.out x d0 d1
      cases ea1
      replace hx1 := ((below_step HB3.out HM.out.2).cell (World.block_lt_of_cell? w _ hx1)).trans hx1
      have p1 := eq_true d0
      have q1 := eq_true d1
      have HD := Am (And.intro d0 d1)
      clear d0 d1
      generalize rd l1 x = i at hx1 ht1
      unfold nameP at ht1
      by_cases ci : 1 ≤ i ∧ i ≤ (l0_0.length : Int)
      ·
       rw [if_pos ci] at ht1
       obtain ⟨a, hta, ht1⟩ := ob ht1
       obtain ⟨b, htb, ht1⟩ := ob ht1
       have HTa := Am hta
       by_cases cs : a.size + b.size ≤ 9223372036854775807
       ·
        rw [if_pos cs] at ht1
        obtain rfl := Option.some.inj ht1
        have cs0 := eq_true cs
        have cs1 : decide (a.size + b.size ≤ 9223372036854775807) = true := decide_eq_true cs
        have cs2 : (9223372036854775807 < a.size + b.size) = False := eq_false (Nat.not_lt.2 cs)
        clear hta ht1 cs
        obtain ⟨j, hj⟩ : ∃ j, j = i - 1 := ⟨_, rfl⟩
        have hw1 : wrap64 (i - 1) = j := by rw [hj]; unfold wrap64; omega
        have hw2 : IntKind.i64.wrap (i - 1) = j := (i64_w _).trans hw1
        rw [← hj] at htb
        have pj : 0 ≤ j := by omega
        have qj : j < (l0_0.length : Int) := by omega
        obtain ⟨ad, ea, hx⟩ := Kd.at_string HR0.out j pj qj
        cases ea
        generalize rdOf ByteArray.empty l0_0 j = s at hx htb
        have HTb := Am htb
        have HSt := Am (fun W (hb : Below w3.heap.size w3 W) => ((below_step HB3.out hb).cell (World.block_lt_of_cell? w _ hx)).trans hx)
        replace pj := eq_true pj
        replace qj := eq_true qj
        clear hx htb hj ci
        go_wp2
        have HMd := Am (NumsAt.below HM.out (below_drew (Below.refl _ _)))
        refine start_ (n := 12) (S := fun w' => w'.cell? ⟨w.heap.size, 0, none⟩ = some (.slice (some ad) l0_0.length c0_0) ∧ w'.cell? (ad.add j.toNat) = some (.string s)) (ds := []) q7_0 (by kernel_rfl) rfl rfl ⟨(bc (NumsAt.box HMd.out BX3.out) 0).trans rfl, HSt.out _ HMd.out.2⟩ (fun hHeld => ?_)
        refine with_tabW table_Order.tab8 table_Order.bits8 (fun HT_ HW_ => ?_)
        generalize wr.drew = wd at HMd hHeld ⊢
        refine Own.pr_ 0 (some 45) q7_1 HT_ (h := ?_)
        refine Own.pr_ 3 (some 48) q7_2 HT_ (h := ?_)
        refine Own.pr_ 5 (some 50) q7_3 HT_ (h := ?_)
        refine Own.pr_ 6 (some 51) q7_4 HT_ (h := ?_)
        refine Own.tk_ 4 (some 49) q7_5 HT_ HW_ hHeld (hy := by rintro w' ⟨s0, s1⟩; go_simp; with_reducible rfl) (h := ?_)
        refine Own.pr_ 7 (some 52) q7_6 HT_ (h := ?_)
        refine Own.tk_ 8 (some 53) q7_7 HT_ HW_ hHeld (hy := by rintro w' ⟨s0, s1⟩; go_simp; with_reducible rfl) (h := ?_)
        refine one_ (i := 1) (N := some 46) q7_8 rfl rfl (one_of HT_.out (by kernel_rfl)) (by decide) (fun K hK => ?_)
        refine value_ (w1 := ?_) (v := ?_) (by rfl) rfl ?_ ?_
        rotate_left 2
        ·
         go_simp
         constructor
         ·
          rfl
         ·
          rfl
        have HMa := Am (NumsAt.below HMd.out (bl (Below.refl _ _) (.cells #[.int .i64 i] 3)))
        refine hK.out _ _ ⟨(bc (NumsAt.box HMa.out BX3.out) 0).trans rfl, HSt.out _ HMa.out.2⟩ (fun hHeld => ?_)
        clear hK K
        refine norm_ (a' := ?_) ?_ ?_
        rotate_left
        ·
         show Act.put _ (some 46) _ = _
         simp only [Act.put, sI, sZ, sS, i64_w, i32_w]
         rfl
        refine one_ (i := 2) (N := some 47) q7_9 rfl rfl (one_of HT_.out (by kernel_rfl)) (by decide) (fun K hK => ?_)
        refine goes_ Try.func29 (by kernel_rfl) rfl #[.slice (some ⟨wd.heap.size, 0, none⟩) 1 1] (by rfl) rfl rfl (by (try simp only [List.map_toArray, List.map_cons, List.map_nil]); first | done | rfl | (simp only [List.length_drop, List.length_take]; rfl)) ?_
        with_reducible refine (nums_lit1 k wd i _ rfl HTa.out).mono ?_
        rintro e w5 ⟨rfl, hb5⟩
        refine ⟨_, rfl, ?_⟩
        have HMb := Am (NumsAt.below HMd.out hb5)
        refine hK.out _ _ ⟨(bc (NumsAt.box HMb.out BX3.out) 0).trans rfl, HSt.out _ HMb.out.2⟩ (fun hHeld => ?_)
        clear hK K
        refine norm_ (a' := ?_) ?_ ?_
        rotate_left
        ·
         show Act.put _ (some 47) _ = _
         simp only [Act.put, sI, sZ, sS, i64_w, i32_w]
         rfl
        refine one_ (i := 9) (N := some 54) q7_10 rfl rfl (one_of HT_.out (by kernel_rfl)) (by decide) (fun K hK => ?_)
        refine goes_ Try.func30 (by kernel_rfl) rfl #[.string s] (by rfl) rfl rfl (by (try simp only [List.map_toArray, List.map_cons, List.map_nil]); first | done | rfl | (simp only [List.length_drop, List.length_take]; rfl)) ?_
        with_reducible refine (wire_Text.calls k s b _ HTb.out).mono ?_
        rintro e w6 ⟨rfl, hb6⟩
        refine ⟨_, rfl, ?_⟩
        have HMc := Am (NumsAt.below HMb.out hb6)
        have HMc1 := Am HMc.out.1
        have HMc2 := Am (below_size HMc.out.2)
        refine hK.out _ _ ⟨(bc (NumsAt.box HMc.out BX3.out) 0).trans rfl, HSt.out _ HMc.out.2⟩ (fun hHeld => ?_)
        clear hK K
        refine norm_ (a' := ?_) ?_ ?_
        rotate_left
        ·
         show Act.put _ (some 54) _ = _
         simp only [Act.put, sI, sZ, sS, i64_w, i32_w]
         rfl
        refine Own.pr_ 10 (some 55) q7_11 HT_ (h := ?_)
        refine one_ (i := 11) (N := some 56) q7_12 rfl rfl (one_of HT_.out (by kernel_rfl)) (by decide) (fun K hK => ?_)
        refine goes_ Try.func28 (by kernel_rfl) rfl #[.pointer (some ⟨w3.heap.size, 0, none⟩), .string (a ++ b)] (by rfl) rfl rfl (by (try simp only [List.map_toArray, List.map_cons, List.map_nil]); first | done | rfl | (simp only [List.length_drop, List.length_take]; rfl)) ?_
        with_reducible refine (Go.Proofs.Ytlmmlmmbnfcogaa.Bld.writeString w3.heap.size w3.heap.size _ (a ++ b) _ HMc1.out HS1.out HMc2.out).mono ?_
        rintro e w7 ⟨rfl, hk7, hb7⟩
        refine ⟨_, rfl, ?_⟩
        have HMe := Am (NumsAt.put HMc.out hk7 hb7)
        refine hK.out _ _ ⟨(bc (NumsAt.box HMe.out BX3.out) 0).trans rfl, HSt.out _ HMe.out.2⟩ (fun hHeld => ?_)
        clear hK K
        refine norm_ (a' := ?_) ?_ ?_
        rotate_left
        ·
         show Act.put _ (some 56) _ = _
         simp only [Act.put, sI, sZ, sS, i64_w, i32_w]
         rfl
        refine done_ (done_of HT_.out (by kernel_rfl)) ?_
        clear hHeld hb5 hb6 hk7 hb7
        go_wp2
        go_roundg k1
        case rel =>
         have e1 : wrap64 (x + 1) = x + 1 := nx_enc x l1.length HD.out.2 HA.out.1 hml1
         have e2 : (x + 1).toNat = x.toNat + 1 := by have := HA.out.1; omega
         exact ⟨_, _, rfl, ⟨by have := HA.out; rw [e1]; omega, by have := HD.out; rw [e1]; omega, by have := HA.out; rw [e1]; omega⟩, ⟨by rw [e1, e2]; exact HE'.out⟩, HMe⟩
        case measure => exact Nat.lt_succ_self _
       ·
        rw [if_neg cs] at ht1; cases ht1
      ·
       rw [if_neg ci] at ht1; cases ht1
     ·
      have d1b : decide (x < (l1.length : Int)) = false := decide_eq_false d1
      have he := HE.out
      rw [show l1.drop x.toNat = [] from List.drop_eq_nil_of_le (by omega)] at he
      obtain ⟨t1, ht1, hs1, he⟩ := encK_step (show encK k acc (.n [(l2.length : Int)] :: l2.flatMap (stackP l0_1)) = some r from he)
      have HS1 := Am (show (Lib.strCells acc).length + t1.size ≤ 140737488355328 by rw [Lib.strCells_length]; exact hs1)
      have HE' := Am he
      have HT1 := Am (show wire_Nums.f k [(l2.length : Int)] = some t1 from ht1)
      clear he HE hs1 ht1 d1
      go_wp2_with (first | (go_at_call 29; (refine (nums_lit1 k _ (l2.length : Int) _ (by first | rfl | exact alloc_size _ _) HT1.out).mono ?_); rintro e w4 ⟨rfl, hb⟩; have HM1 := Am (NumsAt.below HM.out hb); clear hb) | (go_at_call 28; (refine (Go.Proofs.Ytlmmlmmbnfcogaa.Bld.writeString w3.heap.size w3.heap.size _ t1 _ HM1.out.1 HS1.out (below_size HM1.out.2)).mono ?_); rintro e w5 ⟨rfl, hk, hb⟩; have HM2 := Am (NumsAt.put HM1.out hk hb); clear hk hb))
      go_loopg [65] (l2.length + 1) (fun kq v65 w' => ∃ (x : Int) (acc : ByteArray), v65 = .int .i64 x ∧ Aside0 (0 ≤ x ∧ x ≤ l2.length ∧ (kq : Int) + x = l2.length + 1) ∧ Aside0 (encK k acc ((l2.drop x.toNat).flatMap (stackP l0_1)) = some r) ∧ Aside0 (NumsAt w3 acc w'))
      case atStart => exact ⟨0, _, rfl, ⟨by omega, by omega, by omega⟩, HE', HM2⟩
      case round =>
       clear HE' HM2 HM1 HM HA HT1 HS1
       obtain ⟨x, acc, rfl, HA, HE, HM⟩ := hrel
       cases gk with
       | zero => exact absurd HA.out.2.2 (by have := HA.out.2.1; omega)
       | succ k1 =>
       by_cases d1 : x < (l2.length : Int)
       ·
        have d1b : decide (x < (l2.length : Int)) = true := decide_eq_true d1
        have d0 := HA.out.1
        have he := HE.out
        rw [flat_drop1 (stackP l0_1) l2 0 d0 d1] at he
        replace he : encK k acc (stackP l0_1 (rd l2 x) ++ (l2.drop (x.toNat + 1)).flatMap (stackP l0_1)) = some r := he
        obtain ⟨ad1, ea1, hx1⟩ := Kd.at_int HN2.out x d0 d1
        cases ea1
        replace hx1 := ((below_step HB3.out HM.out.2).cell (World.block_lt_of_cell? w _ hx1)).trans hx1
        have p1 := eq_true d0
        have q1 := eq_true d1
        have HD := Am (And.intro d0 d1)
        clear d0 d1 HE
        generalize rd l2 x = i at hx1 he
        unfold stackP at he
        by_cases ci : 1 ≤ i ∧ i ≤ (l0_1.length : Int)
        ·
         rw [if_pos ci, List.cons_append] at he
         obtain ⟨t1, ht1, hs1, he⟩ := encK_step he
         obtain ⟨j, hj⟩ : ∃ j, j = i - 1 := ⟨_, rfl⟩
         have hw1 : wrap64 (i - 1) = j := by rw [hj]; unfold wrap64; omega
         have hw2 : IntKind.i64.wrap (i - 1) = j := (i64_w _).trans hw1
         rw [← hj] at ht1 he
         have pj : 0 ≤ j := by omega
         have qj : j < (l0_1.length : Int) := by omega
         obtain ⟨ad, A3, c3, ea, hx, hl3, hC3⟩ := at_stk HR1.out j pj qj
         cases ea
         replace hx := ((below_step HB3.out HM.out.2).cell (World.block_lt_of_cell? w _ hx)).trans hx
         generalize rd_stk l0_1 j = l at hx hl3 hC3 ht1 he
         have hml5 := hC3.2.1
         have HC3 := Am hC3
         have HT1 := Am (show wire_Nums.f k [i, (l.length : Int)] = some t1 from ht1)
         have HS1 := Am (show (Lib.strCells acc).length + t1.size ≤ 140737488355328 by rw [Lib.strCells_length]; exact hs1)
         have HE' : Aside0 (encK k (acc ++ t1) (rowF l ++ (l2.drop (x.toNat + 1)).flatMap (stackP l0_1)) = some r) := ⟨he⟩
         replace pj := eq_true pj
         replace qj := eq_true qj
         clear hj ci he ht1 hs1 hC3 hl3
         have hq1 := (bc (NumsAt.box HM.out BX3.out) 1).trans (show _ = some (Value.slice (some ad) l0_1.length c0_1) from rfl)
         go_wp2_with (first | (go_at_call 29; (refine (nums_lit2 k _ i (l.length : Int) _ _ (by first | rfl | exact alloc_size _ _) HT1.out).mono ?_); rintro e w4 ⟨rfl, hb⟩; have HM1 := Am (NumsAt.below HM.out hb); clear hb) | (go_at_call 28; (refine (Go.Proofs.Ytlmmlmmbnfcogaa.Bld.writeString w3.heap.size w3.heap.size _ t1 _ HM1.out.1 HS1.out (below_size HM1.out.2)).mono ?_); rintro e w5 ⟨rfl, hk, hb⟩; have HM2 := Am (NumsAt.put HM1.out hk hb); clear hk hb))
         go_loopg [83] (l.length + 1) (fun kq v83 w' => ∃ (y : Int) (acc : ByteArray), v83 = .int .i64 y ∧ Aside0 (0 ≤ y ∧ y ≤ l.length ∧ (kq : Int) + y = l.length + 1) ∧ Aside0 (encK k acc (rowF (l.drop y.toNat) ++ (l2.drop (x.toNat + 1)).flatMap (stackP l0_1)) = some r) ∧ Aside0 (NumsAt w3 acc w'))
         case atStart => exact ⟨0, _, rfl, ⟨by omega, by omega, by omega⟩, HE', HM2⟩
         case round =>
          replace HC3 := Am (fun W (hb : Below w3.heap.size w3 W) => Kd.C_below HC3.out (below_step HB3.out hb))
          clear HE' HM2 HM1 HM HT1 HS1 hx hx1 hq1 hw1 hw2 pj qj p1 q1
          obtain ⟨y, acc, rfl, HY, HE, HM⟩ := hrel
          cases gk with
          | zero => exact absurd HY.out.2.2 (by have := HY.out.2.1; omega)
          | succ k2 =>
          by_cases d1 : y < (l.length : Int)
          ·
           have d1b : decide (y < (l.length : Int)) = true := decide_eq_true d1
           have d0 := HY.out.1
           have he := HE.out
           rw [rowF_drop d0 d1, List.cons_append] at he
           obtain ⟨t1, ht1, hs1, he⟩ := encK_step he
           obtain ⟨ad3, ea3, hy0, hy1⟩ := at_T70 (HC3.out _ HM.out.2) y d0 d1
           cases ea3
           have p1 := eq_true d0
           have q1 := eq_true d1
           have HDy := Am (And.intro d0 d1)
           clear d0 d1 HE
           generalize (rd_T70 l y).f0 = a at hy0 ht1
           generalize (rd_T70 l y).f1 = b at hy1 ht1
           have HT1 := Am (show wire_Nums.f k [a, b] = some t1 from ht1)
           have HS1 := Am (show (Lib.strCells acc).length + t1.size ≤ 140737488355328 by rw [Lib.strCells_length]; exact hs1)
           have HE' := Am he
           clear he ht1 hs1
           go_wp2_with (first | (go_at_call 29; (refine (nums_lit2 k _ a b _ _ (by first | rfl | exact alloc_size _ _) HT1.out).mono ?_); rintro e w4 ⟨rfl, hb⟩; have HM1 := Am (NumsAt.below HM.out hb); clear hb) | (go_at_call 28; (refine (Go.Proofs.Ytlmmlmmbnfcogaa.Bld.writeString w3.heap.size w3.heap.size _ t1 _ HM1.out.1 HS1.out (below_size HM1.out.2)).mono ?_); rintro e w5 ⟨rfl, hk, hb⟩; have HM2 := Am (NumsAt.put HM1.out hk hb); clear hk hb))
           go_roundg k2
           case rel =>
            have e1 : wrap64 (y + 1) = y + 1 := nx_enc y l.length HDy.out.2 HY.out.1 hml5
            have e2 : (y + 1).toNat = y.toNat + 1 := by have := HY.out.1; omega
            exact ⟨_, _, rfl, ⟨by have := HY.out; rw [e1]; omega, by have := HDy.out; rw [e1]; omega, by have := HY.out; rw [e1]; omega⟩, ⟨by rw [e1, e2]; exact HE'.out⟩, HM2⟩
           case measure => exact Nat.lt_succ_self _
          ·
           have d1b : decide (y < (l.length : Int)) = false := decide_eq_false d1
           have he := HE.out
           rw [show l.drop y.toNat = [] from List.drop_eq_nil_of_le (by omega)] at he
           have HE' : Aside0 (encK k acc ((l2.drop (x.toNat + 1)).flatMap (stackP l0_1)) = some r) := ⟨he⟩
           clear he HE d1
           go_wp2
           go_roundg k1
           case rel =>
            have e1 : wrap64 (x + 1) = x + 1 := nx_enc x l2.length HD.out.2 HA.out.1 hml2
            have e2 : (x + 1).toNat = x.toNat + 1 := by have := HA.out.1; omega
            exact ⟨_, _, rfl, ⟨by have := HA.out; rw [e1]; omega, by have := HD.out; rw [e1]; omega, by have := HA.out; rw [e1]; omega⟩, ⟨by rw [e1, e2]; exact HE'.out⟩, HM⟩
           case measure => exact Nat.lt_succ_self _
        ·
         rw [if_neg ci] at he
         obtain ⟨t1, ht1, -, -⟩ := encK_step (show encK k acc (.bad :: (l2.drop (x.toNat + 1)).flatMap (stackP l0_1)) = some r from he)
         cases ht1
       ·
        have d1b : decide (x < (l2.length : Int)) = false := decide_eq_false d1
        have he := HE.out
        rw [show l2.drop x.toNat = [] from List.drop_eq_nil_of_le (by omega)] at he
        obtain rfl := Option.some.inj (show some acc = some r from he)
        clear he HE d1
        have HN' : Lib.IsBuilder 63 5 w3.heap.size w3.heap.size (Lib.byteCells acc.data.toList) _ := HM.out.1
        go_wp2_with (go_at_call 31; (refine (Go.Proofs.Ytlmmlmmbnfcogaa.Bld.string_any w3.heap.size w3.heap.size acc.data.toList _ HN' (below_size HM.out.2)).mono ?_); rintro e w4 ⟨rfl, hb⟩; have HB4 := below_step HB3.out (HM.out.2.trans hb); clear hb)
        go_ret
        exact ⟨rfl, HB4⟩

/-! ### table_rising: function 25 -/
def table_rising.l0 : Nat → List Int → Int → Int → Option (List Int)
 | 0, _, _, _ => none
 | k + 1, x3, x5, x6 => if x6 < x5 then (if x3.length < 17592186044416 then (table_rising.l0 k (x3 ++ [wrap64 (x6 + 1)]) x5 (wrap64 (x6 + 1))) else (none)) else (some x3)
def table_rising.f (k : Nat) (a0 : Int) : Option (List Int) := table_rising.l0 k ([] : List Int) a0 0
theorem table_rising.mono_l : ∀ k, (∀ y0 y1 y2, LeO (table_rising.l0 k y0 y1 y2) (table_rising.l0 (k + 1) y0 y1 y2))
 | 0 => fun _ _ _ r h => by simp [table_rising.l0] at h
 | k + 1 => by
  have ih0 := table_rising.mono_l k
  ·
   intro y0 y1 y2
   unfold table_rising.l0
   repeat' first
   | (with_reducible exact ih0 _ _ _)
   | (with_reducible exact LeO.refl _)
   | (with_reducible exact LeO.none _)
   | (with_reducible refine LeO.ite ?_ ?_)
   | (with_reducible refine LeO.bind ?_ (fun _ => ?_))
   | exact LeO.none _
   | refine LeO.ite ?_ ?_
   | refine LeO.bind ?_ (fun _ => ?_)
theorem table_rising.mono : ∀ a0 k, LeO (table_rising.f k a0) (table_rising.f (k + 1) a0) := by
 intro a0 k
 have ih0 := table_rising.mono_l k
 unfold table_rising.f
 repeat' first
   | (with_reducible exact ih0 _ _ _)
   | (with_reducible exact LeO.refl _)
   | (with_reducible exact LeO.none _)
   | (with_reducible refine LeO.ite ?_ ?_)
   | (with_reducible refine LeO.bind ?_ (fun _ => ?_))
   | exact LeO.none _
   | refine LeO.ite ?_ ?_
   | refine LeO.bind ?_ (fun _ => ?_)
set_option maxHeartbeats 8000000 in
set_option maxRecDepth 100000 in
theorem table_rising.calls (k : Nat) (a0 : Int) (r : List Int) (w : World) (h : table_rising.f k a0 = some r) :
  Calls Try.prog 25 #[.int .i64 a0] w fun e w' => ∃ v0_ : Value, e = .returned (v0_) ∧ Kd.R (Kd.int .i64) 3 w' w.heap.size (fun _ => True) v0_ r ∧ Below w.heap.size w w' := by
 have HB := Am (Below.refl w.heap.size w)
 have H : (table_rising.l0 k ([] : List Int) a0 0) = some r := h
 clear h
 have H' := Am H
 clear H
 go_enter Try.func25, Try.ntmps25
 go_wp2
 go_loopg [3, 6] k (fun kq v3 v6 w' => ∃ (x3_1 : List Int) (x6_1 : Int), v6 = .int .i64 x6_1 ∧ Aside0 (table_rising.l0 kq x3_1 a0 x6_1 = some r) ∧ Aside0 (kq ≤ k) ∧ Aside0 (Kd.R (Kd.int .i64) 3 w' w.heap.size (fun _ => True) v3 x3_1) ∧ Aside0 (Below w.heap.size w w'))
 case atStart => exact ⟨(([] : List Int)), (0), (by first | rfl | (simp; done) | (simp [*]; done) | (simp; generalize ByteArray.toList _ = l_; cases l_ <;> rfl)), H', ⟨Nat.le_refl _⟩, ⟨by first | exact Kd.R_nil _ _ _ _ _ | exact Kd.N_nil _ _ _ _ _ | exact Kd.V_nil _ _ _ _ _ | exact Kd.Q_nil _ _ _ _ _ | exact Kd.S_nil _ _ _ _ _⟩, ⟨z3⟩⟩
 case round =>
  clear H'
  obtain ⟨x3_1, x6_1, rfl, HA, HK1, HO_3, HB⟩ := hrel
  cases gk with
  | zero => exact absurd HA.out (by simp [table_rising.l0])
  | succ k1 =>
   have H := HA.out
   clear HA
   simp only [table_rising.l0] at H
   by_cases c2 : x6_1 < a0
   ·
    rw [if_pos c2] at H
    have c2b0 : decide (x6_1 < a0) = true := decide_eq_true c2
    clear c2
    by_cases c3 : x3_1.length < 17592186044416
    ·
     rw [if_pos c3] at H
     have LMc3 := Am c3
     clear c3
     obtain ⟨y158, hy158⟩ : ∃ y_ : List Int, y_ = (x3_1 ++ [wrap64 (x6_1 + 1)]) := ⟨_, rfl⟩
     replace H : (table_rising.l0 k1 y158 a0 (wrap64 (x6_1 + 1))) = some r := by first | (rw [hy158]; with_reducible exact H) | (have H2_ := (Option.bind_some _ _).symm.trans H; rw [hy158]; with_reducible exact H2_) | (have H2_ := (Option.bind_some _ _).symm.trans H; with_reducible exact H2_) | with_reducible exact H | (rw [hy158]; exact H) | exact H
     have Ny158 := Am hy158
     clear hy158
     have H' := Am H
     clear H
     go_wp2_with (first | ((with_reducible refine gate_builtin (b := .append) (xs := #[.tmp 9, .tmp 12]) rfl ?_); at_builtin; refine Kd.R_append (Kd.int .i64) (w0 := w) w.heap.size rfl (.tmp 9) (.tmp 12) 26 3 (.int .i64 0) 8 rfl Try.underlying26 info3 rfl (by decide) (by omega) u3 x3_1 (wrap64 (x6_1 + 1)) [.int .i64 (wrap64 (x6_1 + 1))] (fun _ => True) (fun _ => False) rfl rfl ?aP (fun _ hk => hk.elim) ?aF ?aO ?aB ?aS ?aL ?_; (case aP => exact rfl); (case aB => exact (z3)); (case aF => exact (fun _ _ => trivial)); (case aO => exact (by (with_reducible repeat (first | apply Kd.R_alloc | apply Kd.R_drewN | apply Kd.R_drew)); exact HO_3.out)); (case aS => exact (below_size (z3))); (case aL => have := LMc3.out; omega); intro v159 w4 ho hb hg hat; rw [← Ny158.out] at ho; have n0_ := Am (hb); have n1_ := Am (ho); clear HB; clear HO_3; have HB := n0_; have HO160 := n1_; clear n0_ n1_; clear ho hb hg hat))
     go_roundg k1
     case measure => have := HK1.out; omega
     case rel => exact ⟨(y158), (wrap64 (x6_1 + 1)), (by first | rfl | (simp; done) | (simp [*]; done) | (simp; generalize ByteArray.toList _ = l_; cases l_ <;> rfl)), H', ⟨by have := HK1.out; omega⟩, ⟨by (with_reducible repeat (first | apply Kd.R_alloc | apply Kd.R_drewN | apply Kd.R_drew)); exact HO160.out⟩, ⟨z3⟩⟩
    ·
     rw [if_neg c3] at H
     exact absurd H (by simp)
   ·
    rw [if_neg c2] at H
    have c2b0 : decide (x6_1 < a0) = false := decide_eq_false c2
    clear c2
    obtain rfl := Option.some.inj H
    go_wp2
    go_ret
    exact ⟨_, y0, by (with_reducible repeat (first | apply Kd.R_alloc | apply Kd.R_drewN | apply Kd.R_drew)); exact HO_3.out, z3⟩

/-! ### table_Encode: function 11 -/
def table_Encode.f (k : Nat) (l0_0 : List ByteArray) (l0_1 : List (List (S70))) : Option (ByteArray) := (table_rising.f k (l0_0.length : Int)).bind fun t162 => ((table_rising.f k (l0_1.length : Int)).bind fun t165 => ((table_Order.f k l0_0 l0_1 t162 t165).bind fun t168 => (some t168)))
theorem table_Encode.mono : ∀ a0 a1 k, LeO (table_Encode.f k a0 a1) (table_Encode.f (k + 1) a0 a1) := by
 intro a0 a1 k
 unfold table_Encode.f
 repeat' first
   | (with_reducible exact table_Order.mono _ _ _ _ _)
   | (with_reducible exact table_rising.mono _ _)
   | (with_reducible exact LeO.refl _)
   | (with_reducible exact LeO.none _)
   | (with_reducible refine LeO.ite ?_ ?_)
   | (with_reducible refine LeO.bind ?_ (fun _ => ?_))
   | exact LeO.none _
   | refine LeO.ite ?_ ?_
   | refine LeO.bind ?_ (fun _ => ?_)
def table_Encode.T1 : Bool × List (List Nat × List Nat) := (true, [([], []), ([], []), ([1], [1]), ([2], [2]), ([3], [3]), ([], []), ([5], [5]), ([6], [6]), ([7, 4], [7]), ([0, 4, 8, 8], [0, 4, 8]), ([9, 9, 0, 1, 2, 3, 4, 5, 6, 7, 8, 9], [9])])
def table_Encode.B1 : List Nat := [0, 0, 2, 6, 14, 0, 32, 96, 254, 511, 1023]
theorem table_Encode.tab1 : rtab .any (opsOf Try.f11 1) = table_Encode.T1 := by kernel_rfl
theorem table_Encode.bits1 : waitsOk table_Encode.T1.2 table_Encode.B1 = true := by kernel_rfl
set_option maxHeartbeats 8000000 in
set_option maxRecDepth 100000 in
theorem table_Encode.calls (k : Nat) (A0_0 : Option Addr) (c0_0 : Nat) (l0_0 : List ByteArray) (A0_1 : Option Addr) (c0_1 : Nat) (l0_1 : List (List (S70))) (r : ByteArray) (w : World) (hr0_0 : Kd.C Kd.string w A0_0 l0_0.length l0_0) (hc0_0 : l0_0.length ≤ c0_0) (hr0_1 : Kd.C (Kd.slice 70 k70) w A0_1 l0_1.length l0_1) (hc0_1 : l0_1.length ≤ c0_1) (h : table_Encode.f k l0_0 l0_1 = some r) :
  Calls Try.prog 11 #[.agg #[.slice A0_0 l0_0.length c0_0, .slice A0_1 l0_1.length c0_1]] w fun e w' => e = .returned (.string r) ∧ Below w.heap.size w w' := by
 have hu25 := Try.underlying25
 have HR0_0 := Am hr0_0
 have HC0_0 := Am hc0_0
 clear hr0_0 hc0_0
 have HR0_1 := Am hr0_1
 have HC0_1 := Am hc0_1
 clear hr0_1 hc0_1
 have HB := Am (Below.refl w.heap.size w)
 have H : ((table_rising.f k (l0_0.length : Int)).bind fun t162 => ((table_rising.f k (l0_1.length : Int)).bind fun t165 => ((table_Order.f k l0_0 l0_1 t162 t165).bind fun t168 => (some t168)))) = some r := h
 clear h
 replace H := ob H
 obtain ⟨t162, A20, H⟩ := H
 (try dsimp only at H)
 have A2 := Am A20
 clear A20
 replace H := ob H
 obtain ⟨t165, A30, H⟩ := H
 (try dsimp only at H)
 have A3 := Am A30
 clear A30
 replace H := ob H
 obtain ⟨t168, A40, H⟩ := H
 (try dsimp only at H)
 have A4 := Am A40
 clear A40
 obtain rfl := Option.some.inj H
 go_enter Try.func11, Try.ntmps11
 try go_wp2_with (first | ((with_reducible refine gate_dst (N := 1) rfl ?_); refine box_event ?hg (N := 1) ?hd (cs := #[.slice A0_0 l0_0.length c0_0, .slice A0_1 l0_1.length c0_1]) (t := 25) ?hr ?_; (case hd => rfl); (case hg => rfl); (case hr => first | (go_simp; done) | (go_simp; rfl)); intro gb161 hg w5 hbox hb; have BK161 := Am (hbox); have GW161 := Am ((by rw [hg]; exact (below_size (z3)) : w.heap.size ≤ gb161)); have GE161 := GW161; replace HB := Am (below_step (z3) hb); clear hb hbox hg))
 replace BK161 := Am (bd BK161.out)
 replace HB := Am (b1 HB.out)
 refine start_ (n := 11) (S := fun w' => w'.cell? ⟨gb161, 0, none⟩ = some (.slice A0_0 l0_0.length c0_0) ∧ w'.cell? ⟨gb161, 1, none⟩ = some (.slice A0_1 l0_1.length c0_1)) (ds := []) q7_13 (by kernel_rfl) rfl rfl ⟨(bc BK161.out 0).trans rfl, (bc BK161.out 1).trans rfl⟩ (fun hHeld => ?_); refine with_tabW table_Encode.tab1 table_Encode.bits1 (fun HT_ HW_ => ?_)
 generalize w5.drew = w6 at BK161 HB hHeld ⊢
 refine Own.pr_ 1 (some 4) q7_14 HT_ (h := ?_)
 refine Own.pr_ 5 (some 8) q7_15 HT_ (h := ?_)
 refine Own.tk_ 0 (some 3) q7_16 HT_ HW_ hHeld (hy := by rintro w' ⟨s0, s1⟩; go_simp; with_reducible rfl) (h := ?_)
 refine Own.tk_ 2 (some 5) q7_17 HT_ HW_ hHeld (hy := by rintro w' ⟨s0, s1⟩; go_simp; with_reducible rfl) (h := ?_)
 refine Own.pr_ 3 (some 6) q7_18 HT_ (h := ?_)
 refine Own.tk_ 6 (some 9) q7_19 HT_ HW_ hHeld (hy := by rintro w' ⟨s0, s1⟩; go_simp; with_reducible rfl) (h := ?_)
 refine Own.pr_ 7 (some 10) q7_20 HT_ (h := ?_)
 refine one_ (i := 4) (N := some 7) q7_21 rfl rfl (one_of HT_.out (by kernel_rfl)) (by decide) (fun K hK => ?_)
 refine goes_ Try.func25 (by kernel_rfl) rfl #[.int .i64 (l0_0.length : Int)] (by rfl) rfl rfl (by (try simp only [List.map_toArray, List.map_cons, List.map_nil]); first | done | rfl | (simp only [List.length_drop, List.length_take]; rfl)) ?_
 with_reducible refine (table_rising.calls k (l0_0.length : Int) t162 _ A2.out).mono ?_
 rintro e w7 ⟨v163, rfl, ho0, hb⟩
 refine ⟨_, rfl, ?_⟩
 have HO164 := Am (Kd.R_lower ho0 (below_size (z19)))
 replace BK161 := Am (blk_below (g := gb161) (o := .cells #[.slice A0_0 l0_0.length c0_0, .slice A0_1 l0_1.length c0_1] 25 (0, 0)) (by (with_reducible repeat (first|apply bn|apply bd|apply ba)); exact BK161.out) hb)
 replace HB := Am (below_step (z19) hb)
 (try clear hb)
 (try clear hb2)
 (try clear hk)
 (try clear hi)
 (try clear ho0)
 refine hK.out _ _ ⟨(bc BK161.out 0).trans rfl, (bc BK161.out 1).trans rfl⟩ (fun hHeld => ?_)
 clear hK K
 refine norm_ (a' := ?_) ?_ ?_
 rotate_left
 ·
  show Act.put _ (some 7) _ = _
  simp only [Act.put, sI, sZ, sS, i64_w, i32_w]
  rfl
 refine one_ (i := 8) (N := some 11) q7_22 rfl rfl (one_of HT_.out (by kernel_rfl)) (by decide) (fun K hK => ?_)
 refine goes_ Try.func25 (by kernel_rfl) rfl #[.int .i64 (l0_1.length : Int)] (by rfl) rfl rfl (by (try simp only [List.map_toArray, List.map_cons, List.map_nil]); first | done | rfl | (simp only [List.length_drop, List.length_take]; rfl)) ?_
 with_reducible refine (table_rising.calls k (l0_1.length : Int) t165 _ A3.out).mono ?_
 rintro e w8 ⟨v166, rfl, ho0, hb⟩
 refine ⟨_, rfl, ?_⟩
 have HO167 := Am (Kd.R_lower (Kd.R_new' ho0 (Kd.R_lt (by (with_reducible repeat (first | apply Kd.R_alloc | apply Kd.R_drewN | apply Kd.R_drew)); exact HO164.out))) (below_size (z19)))
 replace HO164 := Am (Kd.R_elder' (by (with_reducible repeat (first | apply Kd.R_alloc | apply Kd.R_drewN | apply Kd.R_drew)); exact HO164.out) (Kd.R_base ho0) hb)
 replace BK161 := Am (blk_below (g := gb161) (o := .cells #[.slice A0_0 l0_0.length c0_0, .slice A0_1 l0_1.length c0_1] 25 (0, 0)) (by (with_reducible repeat (first|apply bn|apply bd|apply ba)); exact BK161.out) hb)
 replace HB := Am (below_step (z19) hb)
 (try clear hb)
 (try clear hb2)
 (try clear hk)
 (try clear hi)
 (try clear ho0)
 obtain ⟨Ao9, co9, eo9⟩ := Kd.R_slice HO164.out
 (first | subst eo9 | (injection eo9 with f1_ f2_ f3_; have f4_ := f1_.symm; have f5_ := f3_.symm; clear f1_ f2_ f3_; subst f4_; subst f5_))
 obtain ⟨Ao10, co10, eo10⟩ := Kd.R_slice HO167.out
 (first | subst eo10 | (injection eo10 with f1_ f2_ f3_; have f4_ := f1_.symm; have f5_ := f3_.symm; clear f1_ f2_ f3_; subst f4_; subst f5_))
 refine hK.out _ _ ⟨(bc BK161.out 0).trans rfl, (bc BK161.out 1).trans rfl⟩ (fun hHeld => ?_)
 clear hK K
 refine norm_ (a' := ?_) ?_ ?_
 rotate_left
 ·
  show Act.put _ (some 11) _ = _
  simp only [Act.put, sI, sZ, sS, i64_w, i32_w]
  rfl
 refine one_ (i := 9) (N := some 12) q7_23 rfl rfl (one_of HT_.out (by kernel_rfl)) (by decide) (fun K hK => ?_)
 refine goes_ Try.func13 (by kernel_rfl) rfl #[.agg #[.slice A0_0 l0_0.length c0_0, .slice A0_1 l0_1.length c0_1], .slice Ao9 t162.length co9, .slice Ao10 t165.length co10] (by rfl) rfl rfl (by (try simp only [List.map_toArray, List.map_cons, List.map_nil]); first | done | rfl | (simp only [List.length_drop, List.length_take]; rfl)) ?_
 with_reducible refine (table_Order.calls k _ _ l0_0 _ _ l0_1 _ _ t162 _ _ t165 t168 _ ?side1 ?side2 ?side3 ?side4 ?side5 ?side6 ?side7 ?side8 A4.out).mono ?_
 (case side1 => repeat (first | exact (Kd.C_below HR0_0.out HB.out) | (with_reducible refine Kd.C_alloc ?_ _) | (with_reducible refine Kd.C_drewN ?_ _) | (with_reducible refine Kd.C_drew ?_)))
 (case side2 => exact HC0_0.out)
 (case side3 => repeat (first | exact (Kd.C_below HR0_1.out HB.out) | (with_reducible refine Kd.C_alloc ?_ _) | (with_reducible refine Kd.C_drewN ?_ _) | (with_reducible refine Kd.C_drew ?_)))
 (case side4 => exact HC0_1.out)
 (case side5 => repeat (first | exact (Kd.R_reads' HO164.out).2.2 | (with_reducible refine Kd.C_alloc ?_ _) | (with_reducible refine Kd.C_drewN ?_ _) | (with_reducible refine Kd.C_drew ?_)))
 (case side6 => exact (Kd.R_reads' HO164.out).2.1)
 (case side7 => repeat (first | exact (Kd.R_reads' HO167.out).2.2 | (with_reducible refine Kd.C_alloc ?_ _) | (with_reducible refine Kd.C_drewN ?_ _) | (with_reducible refine Kd.C_drew ?_)))
 (case side8 => exact (Kd.R_reads' HO167.out).2.1)
 rintro e w11 ⟨rfl, hb⟩
 refine ⟨_, rfl, ?_⟩
 replace HO164 := Am (Kd.R_below (by (with_reducible repeat (first | apply Kd.R_alloc | apply Kd.R_drewN | apply Kd.R_drew)); exact HO164.out) hb)
 replace HO167 := Am (Kd.R_below (by (with_reducible repeat (first | apply Kd.R_alloc | apply Kd.R_drewN | apply Kd.R_drew)); exact HO167.out) hb)
 replace BK161 := Am (blk_below (g := gb161) (o := .cells #[.slice A0_0 l0_0.length c0_0, .slice A0_1 l0_1.length c0_1] 25 (0, 0)) (by (with_reducible repeat (first|apply bn|apply bd|apply ba)); exact BK161.out) hb)
 replace HB := Am (below_step (z19) hb)
 (try clear hb)
 (try clear hb2)
 (try clear hk)
 (try clear hi)
 refine hK.out _ _ ⟨(bc BK161.out 0).trans rfl, (bc BK161.out 1).trans rfl⟩ (fun hHeld => ?_)
 clear hK K
 refine norm_ (a' := ?_) ?_ ?_
 rotate_left
 ·
  show Act.put _ (some 12) _ = _
  simp only [Act.put, sI, sZ, sS, i64_w, i32_w]
  rfl
 refine Own.pr_ 10 (some 2) q7_24 HT_ (h := ?_)
 refine done_ (done_of HT_.out (by kernel_rfl)) ?_
 try go_wp2
 go_ret
 exact ⟨y0, z19⟩

end Go.Proofs.Ytlmmlmmbnfcogaa.Q
