-- printed by a program of this session (NOTES: hprint); not the kit's print
-- minified3
-- minified2
-- minified
-- halved
import Derived.Test.YtijjfomnidckdaaOg
import Derived.Test.YtijjfomnidckdaaAl
import Derived.Test.YtijjfomnidckdaaQx0
import Derived.Test.YtijjfomnidckdaaQx3
namespace Go.Proofs.Ytijjfomnidckdaa.Q
open Go.RowKit Go.Proofs.YtijjfomnidckdaaW.PrintWords Go.Proofs.YtijjfomnidckdaaW.PrintLast Go.Proofs.YtijjfomnidckdaaW.PrintMore
attribute [local go_sem] max2_int min2_int max_two min_two max_three min_three max_four min_four   -- for this text's walks alone
set_option linter.unusedVariables false
set_option linter.unusedSimpArgs false

def q4_0 : Array Bool := let o := true; let z := false; #[z,z,z,z,z,z,z,z]
def q4_1 : Array Bool := let o := true; let z := false; #[o,z,z,z,z,z,z,z]
def q4_2 : Array Bool := let o := true; let z := false; #[o,z,o,z,z,z,z,z]
def q4_3 : Array Bool := let o := true; let z := false; #[o,o,o,z,z,z,z,z]
def q4_4 : Array Bool := let o := true; let z := false; #[o,o,o,o,z,z,z,z]
def q4_5 : Array Bool := let o := true; let z := false; #[o,o,o,o,o,z,z,z]
def q4_6 : Array Bool := let o := true; let z := false; #[o,o,o,o,o,o,z,z]
def q4_7 : Array Bool := let o := true; let z := false; #[o,o,o,o,o,o,o,z]
def q4_8 : Array Bool := let o := true; let z := false; #[o,o,o,o,o,o,o,o]
/-! ### intern_May: function 19, by hand -/
/-! #### sets of texts -/
def hasS (ks : List ByteArray) (s : ByteArray) : Bool := ks.any fun x => x.data.toList == s.data.toList
theorem hasS_lit (ks : List ByteArray) (s : ByteArray) : (ks.any fun x => (Lit.string x.data.toList).sameKey (.string s.data.toList)) = hasS ks s := rfl
theorem zero_boolS (w : World) : (zeroValue 4).run Try.prog w = .ok (.bool false) w := by kernel_rfl
theorem key_str (s : ByteArray) (h : s.size ≤ 9223372036854775807) : keyOf Try.prog 9 (.string s) = some (.string s.data.toList) := Go.WideMaps.keyOf_string_mk Try.underlying9 (by unfold maxLen; omega)
/-- A set of texts in a block that the call made. -/
def StrSet (w0 w : World) (b n : Nat) (ks : List ByteArray) : Prop := Go.Proofs.Ytijjfomnidckdaa.MapB.SetAt Try.prog 9 4 w b n (fun l => ks.any fun x => (Lit.string x.data.toList).sameKey l) ∧ Below w0.heap.size w0 w ∧ w0.heap.size ≤ b
theorem StrSet.start {w0 w : World} (hb : Below w0.heap.size w0 w) : StrSet w0 (w.alloc (.map #[] 0)) w.heap.size 0 [] :=
 ⟨Go.Proofs.Ytijjfomnidckdaa.MapB.SetAt.made w _ _ _, bl hb _, hb.size⟩
theorem StrSet.startS {w : World} {o : Obj} (hb : Below w.heap.size w (w.alloc o)) : StrSet w ((w.alloc o).alloc (.map #[] 0)) (w.heap.size + 1) 0 [] := by
 have h := StrSet.start hb
 rwa [show (w.alloc o).heap.size = w.heap.size + 1 by show (w.heap.push o).size = _; simp] at h
theorem StrSet.below {w0 w w1 : World} {b n : Nat} {ks : List ByteArray} (h : StrSet w0 w b n ks) (hb : Below w.heap.size w w1) : StrSet w0 w1 b n ks := ⟨h.1.below hb, below_step h.2.1 hb, h.2.2⟩
theorem StrSet.look {w0 w : World} {b n : Nat} {ks : List ByteArray} (h : StrSet w0 w b n ks) (s : ByteArray) (hs : s.size ≤ 9223372036854775807) : (Instr.lookup 55 (.map (some b)) (.string s) false).run Try.prog w = .ok (.bool (hasS ks s)) w :=
 h.1.look (Go.Maps.string_keyed Try.underlying9) Try.underlying55 Try.underlying4 (zero_boolS w) (key_str s hs)
theorem sameKey_str (l : Lit) (s : List UInt8) : (Lit.string s).sameKey l = l.sameKey (.string s) := by
 cases l with
 | string q => exact Bool.eq_iff_iff.2 ⟨fun h => beq_iff_eq.2 (beq_iff_eq.1 h).symm, fun h => beq_iff_eq.2 (beq_iff_eq.1 h).symm⟩
 | _ => rfl
theorem StrSet.put {w0 w w1 : World} {b n n' : Nat} {ks : List ByteArray} {s : ByteArray} (h : StrSet w0 w b n ks) (hs : Go.Proofs.Ytijjfomnidckdaa.MapB.SetAt Try.prog 9 4 w1 b n' (fun l => if l.sameKey (.string s.data.toList) then true else ks.any fun x => (Lit.string x.data.toList).sameKey l)) (hg : w.grownBy w1 (some b)) : StrSet w0 w1 b n' (ks ++ [s]) :=
 ⟨hs.congr (fun l => by simp only [List.any_append, List.any_cons, List.any_nil, Bool.or_false, sameKey_str]; cases l.sameKey (.string s.data.toList) <;> simp), h.2.1.grown hg h.2.1.size (fun k hk => by cases hk; exact h.2.2), h.2.2⟩
/-! #### what may be -/
def sOk (l : List ByteArray) (i : Nat) : Bool := !((rdOf ByteArray.empty l i).toList == ([] : List UInt8)) && !decide ((1000 : Int) < ((rdOf ByteArray.empty l i).size : Int)) && !hasS (l.take i) (rdOf ByteArray.empty l i)
def sPre (l : List ByteArray) : Nat → Bool
 | 0 => true
 | n + 1 => sPre l n && sOk l n
theorem sPre_false {l : List ByteArray} {i : Nat} (h : sOk l i = false) : ∀ n, i < n → sPre l n = false
 | 0, hn => absurd hn (by omega)
 | n + 1, hn => by
  unfold sPre
  rcases Nat.lt_or_ge i n with h1 | h1
  ·
   rw [sPre_false h n h1]; rfl
  ·
   obtain rfl : i = n := by omega
   rw [h, Bool.and_false]
def rd_stk (xs : List (List S50)) (i : Int) : List S50 := xs.getD i.toNat ([] : List S50)
theorem at_stk {w : World} {A : Option Addr} {n : Nat} {xs : List (List S50)} (h : Kd.C (Kd.slice 50 k50) w A n xs) (i : Int) (h0 : 0 ≤ i) (h1 : i < n) : ∃ ad A0 c0, A = some ad ∧ w.cell? (ad.add i.toNat) = some (.slice A0 (rd_stk xs i).length c0) ∧ (rd_stk xs i).length ≤ c0 ∧ k50.C w A0 (rd_stk xs i).length (rd_stk xs i) := by
 obtain ⟨ad, c, e, _, hK, hc0⟩ := Kd.C_get h ([] : List S50) i h0 h1
 have hc : ∀ j u, c[j]? = some u → w.cell? (ad.add (i.toNat * 1 + j)) = some u := hc0
 obtain ⟨A0, c0, rfl, l0, g0⟩ := hK
 exact ⟨ad, A0, c0, e, by have hq := hc 0 _ rfl; rwa [Nat.mul_one, Nat.add_zero] at hq, l0, g0⟩
def intern_May.l1 : Nat → Int → List (List S50) → List ByteArray → Int → Option Bool
 | 0, _, _, _, _ => none
 | k + 1, m, l, ks, x => if x < (l.length : Int) then (if framesB (rd_stk l x) m = true then ((intern_key.f k (rd_stk l x)).bind fun s => if s.size ≤ 9223372036854775807 then (if hasS ks s = true then some false else intern_May.l1 k m l (ks ++ [s]) (x + 1)) else none) else some false) else some true
def intern_May.f (k : Nat) (l0_0 : List ByteArray) (l0_1 : List (List S50)) : Option Bool := if 10000 < l0_0.length then some false else if 10000 < l0_1.length then some false else if sPre l0_0 l0_0.length = true then intern_May.l1 k (l0_0.length : Int) l0_1 [] 0 else some false
theorem intern_May.mono_l : ∀ k, ∀ y0 y1 y2 y3, LeO (intern_May.l1 k y0 y1 y2 y3) (intern_May.l1 (k + 1) y0 y1 y2 y3)
 | 0 => fun _ _ _ _ r h => by simp [intern_May.l1] at h
 | k + 1 => fun y0 y1 y2 y3 => by
  have ih := intern_May.mono_l k
  unfold intern_May.l1
  exact LeO.ite (LeO.ite (LeO.bind (intern_key.mono _ _) (fun _ => LeO.ite (LeO.ite (LeO.refl _) (ih _ _ _ _)) (LeO.refl _))) (LeO.refl _)) (LeO.refl _)
theorem intern_May.mono : ∀ a0 a1 k, LeO (intern_May.f k a0 a1) (intern_May.f (k + 1) a0 a1) := fun a0 a1 k => by
 unfold intern_May.f
 exact LeO.ite (LeO.refl _) (LeO.ite (LeO.refl _) (LeO.ite (intern_May.mono_l k _ _ _ _) (LeO.refl _)))
theorem nx_may (x : Int) (n : Nat) (h : x < (n : Int)) (h0 : 0 ≤ x) (hn : n ≤ 9223372036854775807) : wrap64 (x + 1) = x + 1 := by
 unfold wrap64
 omega
/-- The table in its box, and what lay below. -/
def MayAt (w : World) (c : Array Value) (w' : World) : Prop := w'.heap[w.heap.size]? = some (.cells c 25 (0, 0)) ∧ Below w.heap.size w w'
theorem MayAt.below {w w1 w2 : World} {c : Array Value} (h : MayAt w c w1) (hb : Below w1.heap.size w1 w2) : MayAt w c w2 := ⟨blk_below h.1 hb, below_step h.2 hb⟩
theorem MayAt.b {w w1 : World} {c : Array Value} (h : MayAt w c w1) : Below w.heap.size w w1 := h.2
theorem MayAt.e {w w1 : World} {c : Array Value} (h : MayAt w c w1) (i : Nat) {v : Value} (hv : c[i]? = some v) : w1.cell? ⟨w.heap.size, i, none⟩ = some v := (bc h.1 i).trans hv
theorem MayAt.put {w w1 w2 : World} {c : Array Value} {b : Nat} (h : MayAt w c w1) (hg : w1.grownBy w2 (some b)) (hb : w.heap.size < b) : MayAt w c w2 :=
 ⟨by
  have hlt : w.heap.size < w1.heap.size := by
   rcases Nat.lt_or_ge w.heap.size w1.heap.size with h' | h'
   ·
    exact h'
   ·
    have := h.1; simp [Array.getElem?_eq_none h'] at this
  rw [hg.block _ hlt (by simp; omega)]
  exact h.1, h.2.grown hg h.2.size (fun k hk => by cases hk; omega)⟩
set_option maxHeartbeats 8000000 in
set_option maxRecDepth 100000 in
theorem intern_May.calls (k : Nat) (A0_0 : Option Addr) (c0_0 : Nat) (l0_0 : List ByteArray) (A0_1 : Option Addr) (c0_1 : Nat) (l0_1 : List (List S50)) (r : Bool) (w : World) (hr0_0 : Kd.C Kd.string w A0_0 l0_0.length l0_0) (hc0_0 : l0_0.length ≤ c0_0) (hr0_1 : Kd.C (Kd.slice 50 k50) w A0_1 l0_1.length l0_1) (hc0_1 : l0_1.length ≤ c0_1) (h : intern_May.f k l0_0 l0_1 = some r) :
  Calls Try.prog 19 #[.agg #[.slice A0_0 l0_0.length c0_0, .slice A0_1 l0_1.length c0_1]] w fun e w' => e = .returned (.bool r) ∧ Below w.heap.size w w' := by
 have hml := hr0_0.2.1
 have hml1 := hr0_1.2.1
 have HR0 := Am hr0_0
 have HR1 := Am hr0_1
 clear hr0_0 hr0_1 hc0_0 hc0_1
 have hmm := @run_makeMap Try.prog
 have HM0 : Aside0 (MayAt w #[.slice A0_0 l0_0.length c0_0, .slice A0_1 l0_1.length c0_1] (w.alloc (.cells #[.slice A0_0 l0_0.length c0_0, .slice A0_1 l0_1.length c0_1] 25))) := ⟨⟨blk_new w _, bl (Below.refl _ _) _⟩⟩
 unfold intern_May.f at h
 by_cases n0 : 10000 < l0_0.length
 ·
  rw [if_pos n0] at h
  obtain rfl := Option.some.inj h
  have n0b : decide ((10000 : Int) < (l0_0.length : Int)) = true := decide_eq_true (by omega)
  clear h n0
  go_enter Try.func19, Try.ntmps19
  go_wp2
  go_ret
  exact ⟨rfl, HM0.out.2⟩
 rw [if_neg n0] at h
 have n0b : decide ((10000 : Int) < (l0_0.length : Int)) = false := decide_eq_false (by omega)
 by_cases n1 : 10000 < l0_1.length
 ·
  rw [if_pos n1] at h
  obtain rfl := Option.some.inj h
  have n1b : decide ((10000 : Int) < (l0_1.length : Int)) = true := decide_eq_true (by omega)
  clear h n1 n0
  go_enter Try.func19, Try.ntmps19
  go_wp2
  go_ret
  exact ⟨rfl, HM0.out.2⟩
 rw [if_neg n1] at h
 have n1b : decide ((10000 : Int) < (l0_1.length : Int)) = false := decide_eq_false (by omega)
 have H := Am h
 have HN01 := Am (And.intro n0 n1)
 clear h n0 n1
 go_enter Try.func19, Try.ntmps19
 go_wp2
 go_loopg [23] (l0_0.length + 1) (fun kq v23 w' => ∃ x : Int, v23 = .int .i64 x ∧ Aside0 (0 ≤ x ∧ x ≤ l0_0.length ∧ (kq : Int) + x = l0_0.length + 1 ∧ sPre l0_0 x.toNat = true) ∧ Aside0 (∃ n : Nat, (n : Int) ≤ x ∧ StrSet w w' (w.heap.size + 1) n (l0_0.take x.toNat)) ∧ Aside0 (MayAt w #[.slice A0_0 l0_0.length c0_0, .slice A0_1 l0_1.length c0_1] w'))
 case atStart => exact ⟨0, rfl, ⟨by omega, by omega, by omega, rfl⟩, ⟨0, by omega, StrSet.startS (w := w) HM0.out.2⟩, ⟨HM0.out.below (bl (Below.refl _ _) _)⟩⟩
 case round =>
  obtain ⟨x, rfl, HA, HS, HT⟩ := hrel
  obtain ⟨n, hn, hset⟩ := HS.out
  have HN := Am hn
  have HS := Am hset
  clear hn hset
  cases gk with
  | zero => exact absurd HA.out.2.2.1 (by have := HA.out.2.1; omega)
  | succ k1 =>
  by_cases d1 : x < (l0_0.length : Int)
  ·
   have d1b : decide (x < (l0_0.length : Int)) = true := decide_eq_true d1
   have d0 := HA.out.1
   obtain ⟨ad, ea, hx⟩ := Kd.at_string HR0.out x d0 d1
   cases ea
   replace hx := (HS.out.2.1.cell (World.block_lt_of_cell? w _ hx)).trans hx
   have p1 := eq_true d0
   have q1 := eq_true d1
   have HD := Am (And.intro d0 (And.intro d1 (show x.toNat < l0_0.length by omega)))
   clear d0 d1
   generalize hs : rdOf ByteArray.empty l0_0 x = s at hx
   have HSS := Am hs
   clear hs
   have HOK := Am (show sOk l0_0 x.toNat = (!(s.toList == ([] : List UInt8)) && !decide ((1000 : Int) < (s.size : Int)) && !hasS (l0_0.take x.toNat) s) by
    unfold sOk
    rw [show ((x.toNat : Nat) : Int) = x by have := HA.out.1; omega, HSS.out])
   have HNO := Am (show sOk l0_0 x.toNat = false → r = false from fun e => by
    have h := H.out
    rw [if_neg (by rw [sPre_false e l0_0.length HD.out.2.2]; exact Bool.false_ne_true)] at h
    exact (Option.some.inj h).symm)
   by_cases e1 : s.toList = ([] : List UInt8)
   ·
    have e1b : (s.toList == ([] : List UInt8)) = true := beq_iff_eq.mpr e1
    have e1c : s.toList.isEmpty = true := by rw [e1]; rfl
    have HX := Am (HNO.out (by rw [HOK.out, e1b]; rfl))
    go_wp2
    go_ret
    exact ⟨by first | (rw [HX.out]; done) | (rw [HX.out]; rfl), HT.out.2⟩
   ·
    have e1b : (s.toList == ([] : List UInt8)) = false := beq_eq_false_iff_ne.mpr e1
    have e1c : s.toList.isEmpty = false := by rw [← Bool.not_eq_true, List.isEmpty_iff]; exact e1
    have HE1 := Am e1b
    clear e1
    by_cases e2 : (1000 : Int) < (s.size : Int)
    ·
     have e2b : decide ((1000 : Int) < (s.size : Int)) = true := decide_eq_true e2
     have HX := Am (HNO.out (by rw [HOK.out, e2b]; simp))
     clear e2
     go_wp2
     go_ret
     exact ⟨by first | (rw [HX.out]; done) | (rw [HX.out]; rfl), HT.out.2⟩
    ·
     have e2b : decide ((1000 : Int) < (s.size : Int)) = false := decide_eq_false e2
     have HZ := Am (show s.size ≤ 9223372036854775807 by omega)
     have HE2 := Am e2b
     clear e2
     cases hp : hasS (l0_0.take x.toNat) s with
     | true =>
      have HX := Am (HNO.out (by rw [HOK.out, hp]; simp))
      have hlk := HS.out.look s HZ.out
      rw [hp] at hlk
      clear hp
      go_wp2
      go_ret
      exact ⟨by first | (rw [HX.out]; done) | (rw [HX.out]; rfl), HT.out.2⟩
     | false =>
      have HP := Am hp
      have hlk := HS.out.look s HZ.out
      rw [hp] at hlk
      clear hp
      have HNX := Am (show sPre l0_0 (x.toNat + 1) = true by
       unfold sPre
       rw [HA.out.2.2.2, HOK.out, HE1.out, HE2.out, HP.out]
       rfl)
      have HTK := Am (show l0_0.take (x.toNat + 1) = l0_0.take x.toNat ++ [s] by
       have hx : x.toNat < l0_0.length := HD.out.2.2
       rw [List.take_succ_eq_append_getElem hx]
       have e := HSS.out
       unfold rdOf at e
       rw [List.getD_eq_getElem?_getD, List.getElem?_eq_getElem hx] at e
       exact congrArg (fun z => l0_0.take x.toNat ++ [z]) e)
      have HL := Am (show n < maxLen by have := HD.out; have := HN.out; have := hml; unfold maxLen; omega)
      have HK := Am (key_str s HZ.out)
      go_wp2_with (first | (at_mapUpdate; refine Go.Proofs.Ytijjfomnidckdaa.MapB.wp_store _ rfl _ _ _ 55 rfl 9 4 (Go.Maps.string_keyed Try.underlying9) Try.underlying55 Try.underlying4 (w.heap.size + 1) n _ rfl HS.out.1 HL.out (.string s) (.string s.data.toList) true rfl rfl HK.out trivial ?_; intro w5 hset hgrow; have HS' := Am (HS.out.put hset hgrow); have HT' := Am (HT.out.put hgrow (by omega)); clear hset hgrow))
      go_roundg k1
      case rel => exact ⟨_, rfl, ⟨by have := HA.out; rw [nx_may x l0_0.length HD.out.2.1 HA.out.1 hml]; omega, by have := HD.out; rw [nx_may x l0_0.length HD.out.2.1 HA.out.1 hml]; omega, by have := HA.out; rw [nx_may x l0_0.length HD.out.2.1 HA.out.1 hml]; omega, by rw [nx_may x l0_0.length HD.out.2.1 HA.out.1 hml, show (x + 1).toNat = x.toNat + 1 by have := HA.out.1; omega]; exact HNX.out⟩, ⟨n + 1, by rw [nx_may x l0_0.length HD.out.2.1 HA.out.1 hml]; have := HN.out; omega, by rw [nx_may x l0_0.length HD.out.2.1 HA.out.1 hml, show (x + 1).toNat = x.toNat + 1 by have := HA.out.1; omega, HTK.out]; exact HS'.out⟩, HT'⟩
      case measure => exact Nat.lt_succ_self _
  ·
   have d1b : decide (x < (l0_0.length : Int)) = false := decide_eq_false d1
   have e0 : x.toNat = l0_0.length := by have := HA.out.2.1; omega
   have e1 : sPre l0_0 l0_0.length = true := by
    have := HA.out.2.2.2
    rwa [e0] at this
   have H2 := H.out
   rw [if_pos e1] at H2
   have H := Am H2
   clear H2 e0 e1 d1
   have hw1 := HT.out.e 1 rfl
   have HBM := Am (show w.heap.size < wr.heap.size by
    rcases Nat.lt_or_ge w.heap.size wr.heap.size with h' | h'
    ·
     exact h'
    ·
     have := HT.out.1; simp [Array.getElem?_eq_none h'] at this)
   have HW1 : Aside0 ((wr.alloc (.map #[] 0)).cell? ⟨w.heap.size, 1, none⟩ = some (.slice A0_1 l0_1.length c0_1)) := ⟨(HT.out.below (bl (Below.refl _ _) _)).e 1 rfl⟩
   have hw2 := HW1.out
   go_wp2
   go_loopg [46] k (fun kq v46 w' => ∃ (x : Int) (acc : List ByteArray), v46 = .int .i64 x ∧ Aside0 (0 ≤ x ∧ x ≤ l0_1.length) ∧ Aside0 (intern_May.l1 kq (l0_0.length : Int) l0_1 acc x = some r) ∧ Aside0 (∃ n : Nat, (n : Int) ≤ x ∧ StrSet w w' wr.heap.size n acc) ∧ Aside0 (MayAt w #[.slice A0_0 l0_0.length c0_0, .slice A0_1 l0_1.length c0_1] w'))
   case atStart => exact ⟨0, [], rfl, ⟨by omega, by omega⟩, H, ⟨0, by omega, StrSet.start HT.out.2⟩, ⟨HT.out.below (bl (Below.refl _ _) _)⟩⟩
   case round =>
    clear HA HS HT HN hw1 hw2 HW1 H d1b
    obtain ⟨x, acc, rfl, HA, HH, HS, HT⟩ := hrel
    obtain ⟨n, hn, hset⟩ := HS.out
    have HN := Am hn
    have HS := Am hset
    clear hn hset
    cases gk with
    | zero => exact absurd HH.out (by simp [intern_May.l1])
    | succ k2 =>
    have H := HH.out
    clear HH
    simp only [intern_May.l1] at H
    by_cases d1 : x < (l0_1.length : Int)
    ·
     rw [if_pos d1] at H
     have d1b : decide (x < (l0_1.length : Int)) = true := decide_eq_true d1
     have d0 := HA.out.1
     obtain ⟨ad, A2, c2, ea, hx, hl2, hC2⟩ := at_stk HR1.out x d0 d1
     cases ea
     replace hx := (HS.out.2.1.cell (World.block_lt_of_cell? w _ hx)).trans hx
     have p1 := eq_true d0
     have q1 := eq_true d1
     have HD := Am (And.intro d0 d1)
     clear d0 d1
     generalize rd_stk l0_1 x = l at hx hl2 hC2 H
     have HC2 := Am hC2
     have HL2 := Am hl2
     clear hC2 hl2
     have HFR := Am (fun (W : World) (hW : Below w.heap.size w W) => intern_frames.calls A2 c2 l (l0_0.length : Int) (framesB l (l0_0.length : Int)) W (Kd.C_below HC2.out hW) HL2.out rfl)
     have hw0 := HT.out.e 0 rfl
     cases hf : framesB l (l0_0.length : Int) with
     | false =>
      rw [hf] at H HFR
      clear hf
      have H' := Am (Option.some.inj ((if_neg Bool.false_ne_true).symm.trans H))
      clear H
      go_wp2_with (first | (go_at_call 30; (with_reducible refine (HFR.out _ (MayAt.b HT.out)).mono ?_); rintro e w1 ⟨rfl, hb⟩; have HT1 := Am (HT.out.below hb); clear hb))
      go_ret
      exact ⟨by first | (rw [← H'.out]; done) | (rw [← H'.out]; rfl), HT1.out.2⟩
     | true =>
      rw [hf] at H HFR
      clear hf
      replace H := (if_pos rfl).symm.trans H
      replace H := ob H
      obtain ⟨s, A40, H⟩ := H
      have A4 := Am A40
      clear A40
      by_cases hz : s.size ≤ 9223372036854775807
      ·
       rw [if_pos hz] at H
       have HZ := Am hz
       clear hz
       have HKY := Am (fun (W : World) (hW : Below w.heap.size w W) => intern_key.calls k2 A2 c2 l s W (Kd.C_below HC2.out hW) HL2.out A4.out)
       cases hp : hasS acc s with
       | true =>
        rw [hp] at H
        have HP := Am hp
        clear hp
        have H' := Am (Option.some.inj ((if_pos rfl).symm.trans H))
        clear H
        go_wp2_with (first | (go_at_call 30; (with_reducible refine (HFR.out _ (MayAt.b HT.out)).mono ?_); rintro e w1 ⟨rfl, hb⟩; have HT1 := Am (HT.out.below hb); have HS1 := Am (HS.out.below hb); clear hb) | (go_at_call 31; (with_reducible refine (HKY.out _ (MayAt.b HT1.out)).mono ?_); rintro e w2 ⟨rfl, hb⟩; have HT2 := Am (HT1.out.below hb); have HS2 := Am (HS1.out.below hb); have hlk := HS2.out.look s HZ.out; rw [HP.out] at hlk; clear hb))
        go_ret
        exact ⟨by first | (rw [← H'.out]; done) | (rw [← H'.out]; rfl), HT2.out.2⟩
       | false =>
        rw [hp] at H
        have HP := Am hp
        clear hp
        have H' := Am ((if_neg Bool.false_ne_true).symm.trans H)
        clear H
        have HL := Am (show n < maxLen by have := HD.out; have := HN.out; have := hml1; unfold maxLen; omega)
        have HK := Am (key_str s HZ.out)
        go_wp2_with (first | (go_at_call 30; (with_reducible refine (HFR.out _ (MayAt.b HT.out)).mono ?_); rintro e w1 ⟨rfl, hb⟩; have HT1 := Am (HT.out.below hb); have HS1 := Am (HS.out.below hb); clear hb) | (go_at_call 31; (with_reducible refine (HKY.out _ (MayAt.b HT1.out)).mono ?_); rintro e w2 ⟨rfl, hb⟩; have HT2 := Am (HT1.out.below hb); have HS2 := Am (HS1.out.below hb); have hlk := HS2.out.look s HZ.out; rw [HP.out] at hlk; clear hb) | (go_at_call 31; (with_reducible refine (HKY.out _ (MayAt.b HT2.out)).mono ?_); rintro e w3 ⟨rfl, hb⟩; have HT3 := Am (HT2.out.below hb); have HS3 := Am (HS2.out.below hb); clear hb) | (at_mapUpdate; refine Go.Proofs.Ytijjfomnidckdaa.MapB.wp_store _ rfl _ _ _ 55 rfl 9 4 (Go.Maps.string_keyed Try.underlying9) Try.underlying55 Try.underlying4 _ n _ rfl HS3.out.1 HL.out (.string s) (.string s.data.toList) true rfl rfl HK.out trivial ?_; intro w5 hset hgrow; have HS' := Am (HS3.out.put hset hgrow); have HT' := Am (HT3.out.put hgrow HBM.out); clear hset hgrow))
        go_roundg k2
        case rel => exact ⟨_, _, rfl, ⟨by have := HA.out; rw [nx_may x l0_1.length HD.out.2 HA.out.1 hml1]; omega, by have := HD.out; rw [nx_may x l0_1.length HD.out.2 HA.out.1 hml1]; omega⟩, by rw [nx_may x l0_1.length HD.out.2 HA.out.1 hml1]; exact H', ⟨n + 1, by rw [nx_may x l0_1.length HD.out.2 HA.out.1 hml1]; have := HN.out; omega, HS'.out⟩, HT'⟩
        case measure => exact Nat.lt_succ_self _
      ·
       rw [if_neg hz] at H
       cases H
    ·
     rw [if_neg d1] at H
     have d1b : decide (x < (l0_1.length : Int)) = false := decide_eq_false d1
     have H' := Am (Option.some.inj H)
     clear d1 H
     go_wp2
     go_ret
     exact ⟨by first | (rw [← H'.out]; done) | (rw [← H'.out]; rfl), HT.out.2⟩

/-! ### slices_Clone_string_string: function 35, by hand -/
def slices_Clone_string_string.f (l0 : List ByteArray) : Option (List ByteArray) := if l0.length < 8796093022208 then some l0 else none
theorem strKM (W : World) (base : Nat) (ok : Nat → Prop) (x : ByteArray) (cs : List Value) (h : Kd.string.K W x cs) : Kd.string.M W base ok x cs := by
 exact h
set_option maxHeartbeats 4000000 in
theorem slices_Clone_string_string.calls (A0 : Option Addr) (c0 : Nat) (l0 r : List ByteArray) (w : World) (hr0 : Kd.C Kd.string w A0 l0.length l0) (hc0 : l0.length ≤ c0) (h : slices_Clone_string_string.f l0 = some r) :
  Calls Try.prog 35 #[.slice A0 l0.length c0] w fun e w' => ∃ v0_ : Value, e = .returned v0_ ∧ Kd.R Kd.string 9 w' w.heap.size (fun _ => True) v0_ r ∧ Below w.heap.size w w' := by
 unfold slices_Clone_string_string.f at h
 split at h
 case isFalse => cases h
 rename_i hlen
 obtain rfl := Option.some.inj h
 clear h
 have HL := Am hlen
 have HR := Am hr0
 clear hlen hr0 hc0
 have HB := Am (Below.refl w.heap.size w)
 cases A0 with
 | none =>
  have h0 : l0 = [] := by
   rcases Nat.eq_zero_or_pos l0.length with h | h
   ·
    exact List.eq_nil_of_length_eq_zero h
   ·
    obtain ⟨ad, e, _⟩ := HR.out.2.2 h
    cases e
  subst h0
  have hn : ∀ W : World, (binOp .eql 22 (.slice none 0 c0) (.slice none 0 0)).run Try.prog W = .ok (.bool true) W := fun W => Lib.run_eql_slice_nil W _ 9 none _ c0 0 0 Try.underlying22
  go_enter Try.func35, Try.ntmps35
  go_wp2
  go_ret
  exact ⟨_, rfl, Kd.R_nil _ _ _ _ _, HB.out⟩
 | some ad =>
  have hn : ∀ W : World, (binOp .eql 22 (.slice (some ad) l0.length c0) (.slice none 0 0)).run Try.prog W = .ok (.bool false) W := fun W => Lib.run_eql_slice_nil W _ 9 (some ad) _ c0 0 0 Try.underlying22
  go_enter Try.func35, Try.ntmps35
  have HO := Am (show Kd.R Kd.string 9 (w.alloc (.cells #[] 9)) w.heap.size (fun _ => True) (.slice (some ⟨w.heap.size, 0, none⟩) 0 0) [] from ⟨fun _ _ => trivial, OwnRow.lit w w.heap.size (ps := []) (Reps.none _ _) (Nat.le_refl _) (by simp)⟩)
  go_wp2_with (first | (at_builtin; refine Kd.R_append_rows Kd.string (Rr := Kd.string.K (w.alloc (.cells #[] 9))) (w0 := w) w.heap.size rfl (.tmp 5) (.tmp 6) 22 9 _ 16 rfl Try.underlying22 info9 rfl (by decide) (by omega) (.slice (some ⟨w.heap.size, 0, none⟩) 0 0) [] l0 (some ad) l0.length c0 (fun _ => True) (fun _ => False) rfl rfl HO.out (Kd.C_alloc HR.out _) (fun x cs hx => strKM _ _ _ x cs hx) (fun _ h => h.elim) (fun _ _ => trivial) (bl HB.out _) (by simp) (by have := HL.out; simp; omega) ?_; intro v1 w1 hr1 hb1 hg1 hat1; have HR1 := Am hr1; have HB1 := Am hb1; clear hr1 hb1 hg1 hat1))
  go_ret
  exact ⟨_, rfl, by simpa using HR1.out, HB1.out⟩

/-! ### slices_Clone_2_int_2_int: function 36, by hand -/
theorem infC : (Try.prog.info? 50).map (fun i => (i.zero, i.size, i.bytes)) = some (some (.agg #[(.int .i64 0), (.int .i64 0)]), 2, 16) := by kernel_rfl
def slices_Clone_2_int_2_int.f (l0 : List S50) : Option (List S50) := if l0.length < 8796093022208 then some l0 else none
theorem frKM (W : World) (base : Nat) (ok : Nat → Prop) (x : S50) (cs : List Value) (h : k50.K W x cs) : k50.M W base ok x cs := by
 obtain rfl := k50_open h
 exact k50_mkM W base ok x
set_option maxHeartbeats 4000000 in
theorem slices_Clone_2_int_2_int.calls (A0 : Option Addr) (c0 : Nat) (l0 r : List S50) (w : World) (hr0 : Kd.C k50 w A0 l0.length l0) (hc0 : l0.length ≤ c0) (h : slices_Clone_2_int_2_int.f l0 = some r) :
  Calls Try.prog 36 #[.slice A0 l0.length c0] w fun e w' => ∃ v0_ : Value, e = .returned v0_ ∧ Kd.R k50 50 w' w.heap.size (fun _ => True) v0_ r ∧ Below w.heap.size w w' := by
 unfold slices_Clone_2_int_2_int.f at h
 split at h
 case isFalse => cases h
 rename_i hlen
 obtain rfl := Option.some.inj h
 clear h
 have HL := Am hlen
 have HR := Am hr0
 clear hlen hr0 hc0
 have HB := Am (Below.refl w.heap.size w)
 cases A0 with
 | none =>
  have h0 : l0 = [] := by
   rcases Nat.eq_zero_or_pos l0.length with h | h
   ·
    exact List.eq_nil_of_length_eq_zero h
   ·
    obtain ⟨ad, e, _⟩ := HR.out.2.2 h
    cases e
  subst h0
  have hn : ∀ W : World, (binOp .eql 46 (.slice none 0 c0) (.slice none 0 0)).run Try.prog W = .ok (.bool true) W := fun W => Lib.run_eql_slice_nil W _ 50 none _ c0 0 0 Try.underlying46
  go_enter Try.func36, Try.ntmps36
  go_wp2
  go_ret
  exact ⟨_, rfl, Kd.R_nil _ _ _ _ _, HB.out⟩
 | some ad =>
  have hn : ∀ W : World, (binOp .eql 46 (.slice (some ad) l0.length c0) (.slice none 0 0)).run Try.prog W = .ok (.bool false) W := fun W => Lib.run_eql_slice_nil W _ 50 (some ad) _ c0 0 0 Try.underlying46
  go_enter Try.func36, Try.ntmps36
  have HO := Am (show Kd.R k50 50 (w.alloc (.cells #[] 50)) w.heap.size (fun _ => True) (.slice (some ⟨w.heap.size, 0, none⟩) 0 0) [] from ⟨fun _ _ => trivial, OwnRow.lit w w.heap.size (ps := []) (Reps.none _ _) (Nat.le_refl _) (by simp)⟩)
  go_wp2_with (first | (at_builtin; refine Kd.R_append_rows k50 (Rr := k50.K (w.alloc (.cells #[] 50))) (w0 := w) w.heap.size rfl (.tmp 5) (.tmp 6) 46 50 _ 16 rfl Try.underlying46 infC rfl (by decide) (by omega) (.slice (some ⟨w.heap.size, 0, none⟩) 0 0) [] l0 (some ad) l0.length c0 (fun _ => True) (fun _ => False) rfl rfl HO.out (Kd.C_alloc HR.out _) (fun x cs hx => frKM _ _ _ x cs hx) (fun _ h => h.elim) (fun _ _ => trivial) (bl HB.out _) (by simp) (by have := HL.out; simp; omega) ?_; intro v1 w1 hr1 hb1 hg1 hat1; have HR1 := Am hr1; have HB1 := Am hb1; clear hr1 hb1 hg1 hat1))
  go_ret
  exact ⟨_, rfl, by simpa using HR1.out, HB1.out⟩

/-! ### intern_copied: function 23 -/
def intern_copied.l0 : Nat → List (List (S50)) → Int → Int → List ByteArray → List (List (S50)) → Option (List ByteArray × (List (List (S50))))
 | 0, _, _, _, _, _ => none
 | k + 1, x11, x12, x13, x117000, x117001 => if x13 < x12 then (if 0 ≤ x13 then (if x13 < (x11.length : Int) then ((slices_Clone_2_int_2_int.f (rd_L2 x11 x13)).bind fun t118 => (if x117001.length < 5864062014805 then (intern_copied.l0 k x11 x12 (wrap64 (x13 + 1)) x117000 (x117001 ++ [t118])) else (none))) else (none)) else (none)) else (some (x117000, x117001))
def intern_copied.f (k : Nat) (l0_0 : List ByteArray) (l0_1 : List (List (S50))) : Option (List ByteArray × (List (List (S50)))) := (slices_Clone_string_string.f l0_0).bind fun t113 => (intern_copied.l0 k l0_1 (l0_1.length : Int) 0 t113 ([] : List (List (S50))))
theorem intern_copied.mono_l : ∀ k, (∀ y0 y1 y2 y3 y4, LeO (intern_copied.l0 k y0 y1 y2 y3 y4) (intern_copied.l0 (k + 1) y0 y1 y2 y3 y4))
 | 0 => fun _ _ _ _ _ r h => by simp [intern_copied.l0] at h
 | k + 1 => by
  have ih0 := intern_copied.mono_l k
  ·
   intro y0 y1 y2 y3 y4
   unfold intern_copied.l0
   repeat' first
   | (with_reducible exact ih0 _ _ _ _ _)
   | (with_reducible exact LeO.refl _)
   | (with_reducible exact LeO.none _)
   | (with_reducible refine LeO.ite ?_ ?_)
   | (with_reducible refine LeO.bind ?_ (fun _ => ?_))
   | exact LeO.none _
   | refine LeO.ite ?_ ?_
   | refine LeO.bind ?_ (fun _ => ?_)
theorem intern_copied.mono : ∀ a0 a1 k, LeO (intern_copied.f k a0 a1) (intern_copied.f (k + 1) a0 a1) := by
 intro a0 a1 k
 have ih0 := intern_copied.mono_l k
 unfold intern_copied.f
 repeat' first
   | (with_reducible exact ih0 _ _ _ _ _)
   | (with_reducible exact LeO.refl _)
   | (with_reducible exact LeO.none _)
   | (with_reducible refine LeO.ite ?_ ?_)
   | (with_reducible refine LeO.bind ?_ (fun _ => ?_))
   | exact LeO.none _
   | refine LeO.ite ?_ ?_
   | refine LeO.bind ?_ (fun _ => ?_)
def intern_copied.T5 : Bool × List (List Nat × List Nat) := (true, [([], []), ([0], [0]), ([], []), ([2], [2]), ([3], [3]), ([1, 4, 3], [1, 4]), ([0, 1, 2, 3, 4, 5], []), ([6, 5, 5, 0, 1, 2, 3, 4, 5], [5, 6])])
def intern_copied.B5 : List Nat := [0, 1, 0, 4, 12, 31, 63, 127]
theorem intern_copied.tab5 : rtab .any (opsOf Try.f23 5) = intern_copied.T5 := by kernel_rfl
theorem intern_copied.bits5 : waitsOk intern_copied.T5.2 intern_copied.B5 = true := by kernel_rfl
set_option maxHeartbeats 8000000 in
set_option maxRecDepth 100000 in
theorem intern_copied.calls (k : Nat) (A0_0 : Option Addr) (c0_0 : Nat) (l0_0 : List ByteArray) (A0_1 : Option Addr) (c0_1 : Nat) (l0_1 : List (List (S50))) (r1 : List ByteArray) (r2 : List (List (S50))) (w : World) (hr0_0 : Kd.C Kd.string w A0_0 l0_0.length l0_0) (hc0_0 : l0_0.length ≤ c0_0) (hr0_1 : Kd.C (Kd.slice 50 k50) w A0_1 l0_1.length l0_1) (hc0_1 : l0_1.length ≤ c0_1) (h : intern_copied.f k l0_0 l0_1 = some (r1, r2)) :
  Calls Try.prog 23 #[.agg #[.slice A0_0 l0_0.length c0_0, .slice A0_1 l0_1.length c0_1]] w fun e w' => ∃ v0_ v1_ : Value, e = .returned (.agg #[v0_, v1_]) ∧ Kd.R Kd.string 9 w' w.heap.size (fun _ => True) v0_ r1 ∧ Kd.S (Kd.slice 50 k50) 46 w' w.heap.size (fun _ => True) v1_ r2 ∧ Below w.heap.size w w' := by
 have hu25 := Try.underlying25
 have HR0_0 := Am hr0_0
 have HC0_0 := Am hc0_0
 clear hr0_0 hc0_0
 have HR0_1 := Am hr0_1
 have HC0_1 := Am hc0_1
 clear hr0_1 hc0_1
 have HB := Am (Below.refl w.heap.size w)
 have H : ((slices_Clone_string_string.f l0_0).bind fun t113 => (intern_copied.l0 k l0_1 (l0_1.length : Int) 0 t113 ([] : List (List (S50))))) = some (r1, r2) := h
 clear h
 replace H := ob H
 obtain ⟨t113, A20, H⟩ := H
 (try dsimp only at H)
 have A2 := Am A20
 clear A20
 have H' := Am H
 clear H
 go_enter Try.func23, Try.ntmps23
 go_wp2_with (first | ((with_reducible refine gate_dst (N := 1) rfl ?_); refine box_event ?hg (N := 1) ?hd (cs := #[.slice A0_0 l0_0.length c0_0, .slice A0_1 l0_1.length c0_1]) (t := 25) ?hr ?_; (case hd => rfl); (case hg => rfl); (case hr => first | (go_simp; done) | (go_simp; rfl)); intro gb111 hg w3 hbox hb; have BK111 := Am (hbox); have GW111 := Am ((by rw [hg]; exact (below_size (by repeat (first | (with_reducible first | exact HB.out | apply bl | apply pN | apply b1) | exact HB.out | exact HBo.out))) : w.heap.size ≤ gb111)); have GE111 := GW111; replace HB := Am (below_step (by repeat (first | (with_reducible first | exact HB.out | apply bl | apply pN | apply b1) | exact HB.out | exact HBo.out)) hb); clear hb hbox hg) | ((with_reducible refine gate_dst (N := 2) rfl ?_); refine box_event ?hg (N := 2) ?hd (cs := #[.slice none 0 0, .slice none 0 0]) (t := 25) ?hr ?_; (case hd => rfl); (case hg => rfl); (case hr => first | (go_simp; done) | (go_simp; rfl)); intro gb112 hg w4 hbox hb; have BK112 := Am (hbox); have GW112 := Am ((by rw [hg]; exact (below_size (by repeat (first | (with_reducible first | exact HB.out | apply bl | apply pN | apply b1 | refine bs ?_ GE111.out) | exact HB.out | exact HBo.out))) : w.heap.size ≤ gb112)); have GE112 := GW112; have NB111_112 := Am ((by rw [hg]; exact Nat.ne_of_lt (blk_lt (g := gb111) (o := .cells #[.slice A0_0 l0_0.length c0_0, .slice A0_1 l0_1.length c0_1] 25 (0, 0)) (by (with_reducible repeat (first|apply bn|apply bd|apply ba)); exact BK111.out)) : gb111 ≠ gb112)); have NB112_111 := Am NB111_112.out.symm; replace BK111 := Am (blk_below (g := gb111) (o := .cells #[.slice A0_0 l0_0.length c0_0, .slice A0_1 l0_1.length c0_1] 25 (0, 0)) (by (with_reducible repeat (first|apply bn|apply bd|apply ba)); exact BK111.out) hb); replace HB := Am (below_step (by repeat (first | (with_reducible first | exact HB.out | apply bl | apply pN | apply b1 | refine bs ?_ GE111.out) | exact HB.out | exact HBo.out)) hb); clear hb hbox hg; have hnb5 := NB111_112.out; have hnc5 := NB112_111.out; have hcz6_0 := Own.bc2 BK111.out 0; have hcz6_1 := Own.bc2 BK111.out 1; have hfz6_0 := bf BK111.out 0; have hfz6_1 := bf BK111.out 1) | ((with_reducible refine gate_callee (f := 35) rfl ?_); refine Own.gL_ (some 8) Try.func35 (#[.slice A0_0 l0_0.length c0_0]) (h := ?_); (with_reducible refine (slices_Clone_string_string.calls _ _ l0_0 t113 _ ?side1 ?side2 A2.out).mono ?_); (case side1 => repeat (first | exact (Kd.C_below HR0_0.out HB.out) | (with_reducible refine Kd.C_alloc ?_ _) | (with_reducible refine Kd.C_drewN ?_ _) | (with_reducible refine Kd.C_drew ?_))); (case side2 => exact HC0_0.out); rintro e w7 ⟨v114, rfl, ho0, hb⟩; refine ⟨_, rfl, ?_⟩; have HO115 := Am (Kd.R_lower ho0 (below_size (by repeat (first | (with_reducible first | exact HB.out | apply bl | apply pN | apply b1 | refine bs ?_ GE111.out | refine bs ?_ GE112.out) | exact HB.out | exact HBo.out)))); replace BK111 := Am (blk_below (g := gb111) (o := .cells #[.slice A0_0 l0_0.length c0_0, .slice A0_1 l0_1.length c0_1] 25 (0, 0)) (by (with_reducible repeat (first|apply bn|apply bd|apply ba)); exact BK111.out) hb); replace BK112 := Am (blk_below (g := gb112) (o := .cells #[.slice none 0 0, .slice none 0 0] 25 (0, 0)) (by (with_reducible repeat (first|apply bn|apply bd|apply ba)); exact BK112.out) hb); replace HB := Am (below_step (by repeat (first | (with_reducible first | exact HB.out | apply bl | apply pN | apply b1 | refine bs ?_ GE111.out | refine bs ?_ GE112.out) | exact HB.out | exact HBo.out)) hb); (try clear hb); (try clear hb2); (try clear hk); (try clear hi); (try clear ho0); obtain ⟨Ao8, co8, eo8⟩ := Kd.R_slice HO115.out; subst eo8) | ((with_reducible refine gate_dst (N := 3) rfl ?_); refine box_event ?hg (N := 3) ?hd (cs := #[.slice none 0 0, .slice none 0 0]) (t := 25) ?hr ?_; (case hd => rfl); (case hg => rfl); (case hr => first | (go_simp; done) | (go_simp; rfl)); intro gb116 hg w9 hbox hb; have BK116 := Am (hbox); have GW116 := Am ((by rw [hg]; exact (below_size (by repeat (first | (with_reducible first | exact HB.out | apply bl | apply pN | apply b1 | refine bs ?_ GE111.out | refine bs ?_ GE112.out) | exact HB.out | exact HBo.out))) : w.heap.size ≤ gb116)); have GE116 := GW116; have NB111_116 := Am ((by rw [hg]; exact Nat.ne_of_lt (blk_lt (g := gb111) (o := .cells #[.slice A0_0 l0_0.length c0_0, .slice A0_1 l0_1.length c0_1] 25 (0, 0)) (by (with_reducible repeat (first|apply bn|apply bd|apply ba)); exact BK111.out)) : gb111 ≠ gb116)); have NB116_111 := Am NB111_116.out.symm; have NB112_116 := Am ((by rw [hg]; exact Nat.ne_of_lt (blk_lt (g := gb112) (o := .cells #[.slice none 0 0, .slice none 0 0] 25 (0, 0)) (by (with_reducible repeat (first|apply bn|apply bd|apply ba)); exact BK112.out)) : gb112 ≠ gb116)); have NB116_112 := Am NB112_116.out.symm; replace HO115 := Am (Kd.R_below (by (with_reducible repeat (first | apply Kd.R_alloc | apply Kd.R_drewN | apply Kd.R_drew)); exact HO115.out) hb); replace BK111 := Am (blk_below (g := gb111) (o := .cells #[.slice A0_0 l0_0.length c0_0, .slice A0_1 l0_1.length c0_1] 25 (0, 0)) (by (with_reducible repeat (first|apply bn|apply bd|apply ba)); exact BK111.out) hb); replace BK112 := Am (blk_below (g := gb112) (o := .cells #[.slice none 0 0, .slice none 0 0] 25 (0, 0)) (by (with_reducible repeat (first|apply bn|apply bd|apply ba)); exact BK112.out) hb); replace HB := Am (below_step (by repeat (first | (with_reducible first | exact HB.out | apply bl | apply pN | apply b1 | refine bs ?_ GE111.out | refine bs ?_ GE112.out) | exact HB.out | exact HBo.out)) hb); clear hb hbox hg; have hnb10 := NB116_111.out; have hnc10 := NB111_116.out; have hnb11 := NB116_112.out; have hnc11 := NB112_116.out; have hcz12_0 := Own.bc2 BK116.out 0; have hcz12_1 := Own.bc2 BK116.out 1; have hfz12_0 := bf BK116.out 0; have hfz12_1 := bf BK116.out 1; have hcz13_0 := Own.bc2 BK111.out 0; have hcz13_1 := Own.bc2 BK111.out 1; have hfz13_0 := bf BK111.out 0; have hfz13_1 := bf BK111.out 1))
 go_loopg [13] k (fun kq v13 w' => ∃ (x13_1 : Int) (x117001_1 : List (List (S50))) (u117001 : Value), v13 = .int .i64 x13_1 ∧ Aside0 (intern_copied.l0 kq l0_1 (l0_1.length : Int) x13_1 t113 x117001_1 = some (r1, r2)) ∧ Aside0 (kq ≤ k) ∧ Aside0 (Kd.R Kd.string 9 w' w.heap.size (fun _ => True) (.slice Ao8 t113.length co8) t113) ∧ Aside0 (Kd.S (Kd.slice 50 k50) 46 w' w.heap.size (fun _ => True) u117001 x117001_1) ∧ Aside0 (w'.heap[gb111]? = some (.cells #[(.slice A0_0 l0_0.length c0_0), (.slice A0_1 l0_1.length c0_1)] 25 (0, 0))) ∧ Aside0 (w'.heap[gb112]? = some (.cells #[(.slice none 0 0), (.slice none 0 0)] 25 (0, 0))) ∧ Aside0 (w'.heap[gb116]? = some (.cells #[(.slice Ao8 t113.length co8), u117001] 25 (0, 0))) ∧ Aside0 (Below w.heap.size w w'))
 case atStart => exact ⟨(0), (([] : List (List (S50)))), (.slice none 0 0), (by first | rfl | (simp; done) | (simp [*]; done)), H', ⟨Nat.le_refl _⟩, ⟨by (with_reducible repeat (first | apply Kd.R_alloc | apply Kd.R_drewN | apply Kd.R_drew)); exact Kd.R_mono (Kd.R_far (p := ⟨gb116, 1, none⟩) (Kd.R_far (p := ⟨gb116, 0, none⟩) (Kd.R_types HO115.out BK116.out (by decide)) (fun _ hk => hk.2) (.slice Ao8 t113.length co8)) (fun _ hk => hk.2) (.slice none 0 0)) (fun _ hk => trivial)⟩, ⟨by first | exact Kd.S_nil _ _ _ _ _ | exact Kd.N_nil _ _ _ _ _ | exact Kd.V_nil _ _ _ _ _ | exact Kd.Q_nil _ _ _ _ _ | exact Kd.R_nil _ _ _ _ _⟩, ⟨by (with_reducible repeat (first|apply bn|apply bd|apply ba)); refine blk_far ?_ NB111_116.out _; (with_reducible repeat (first|apply bn|apply bd|apply ba)); refine blk_far ?_ NB111_116.out _; (with_reducible repeat (first|apply bn|apply bd|apply ba)); exact BK111.out⟩, ⟨by (with_reducible repeat (first|apply bn|apply bd|apply ba)); refine blk_far ?_ NB112_116.out _; (with_reducible repeat (first|apply bn|apply bd|apply ba)); refine blk_far ?_ NB112_116.out _; (with_reducible repeat (first|apply bn|apply bd|apply ba)); exact BK112.out⟩, ⟨by (with_reducible repeat (first|apply bn|apply bd|apply ba)); refine blk_put (cs := #[.slice Ao8 t113.length co8, .slice none 0 0]) ?_ 1 _ rfl; (with_reducible repeat (first|apply bn|apply bd|apply ba)); refine blk_put (cs := #[.slice none 0 0, .slice none 0 0]) ?_ 0 _ rfl; (with_reducible repeat (first|apply bn|apply bd|apply ba)); exact BK116.out⟩, ⟨by repeat (first | (with_reducible first | exact HB.out | apply bl | apply pN | apply b1 | refine bs ?_ GE111.out | refine bs ?_ GE112.out | refine bs ?_ GE116.out) | exact HB.out | exact HBo.out)⟩⟩
 case round =>
  clear H'
  try clear c1
  try clear c2
  try clear p2
  try clear c3
  try clear c5
  try clear c10
  try clear c11
  try clear hcz12_0
  try clear hcz12_1
  try clear hcz13_0
  try clear hcz13_1
  try clear hcz6_0
  try clear hcz6_1
  try clear hfz12_0
  try clear hfz12_1
  try clear hfz13_0
  try clear hfz13_1
  try clear hfz6_0
  try clear hfz6_1
  obtain ⟨x13_1, x117001_1, u117001, rfl, HA, HK1, HO_117000, HO_117001, BK111, BK112, BK116, HB⟩ := hrel
  cases gk with
  | zero => exact absurd HA.out (by simp [intern_copied.l0])
  | succ k1 =>
   have H := HA.out
   clear HA
   simp only [intern_copied.l0] at H
   by_cases c14 : x13_1 < (l0_1.length : Int)
   ·
    rw [if_pos c14] at H
    have c14b0 : decide (x13_1 < (l0_1.length : Int)) = true := decide_eq_true c14
    clear c14
    by_cases c15 : 0 ≤ x13_1
    ·
     rw [if_pos c15] at H
     have c15b0 : decide (0 ≤ x13_1) = true := decide_eq_true c15
     clear c15
     by_cases c16 : x13_1 < (l0_1.length : Int)
     ·
      rw [if_pos c16] at H
      have c16b0 : decide (x13_1 < (l0_1.length : Int)) = true := decide_eq_true c16
      clear c16
      replace H := ob H
      obtain ⟨t118, A170, H⟩ := H
      (try dsimp only at H)
      have A17 := Am A170
      clear A170
      by_cases c18 : x117001_1.length < 5864062014805
      ·
       rw [if_pos c18] at H
       have LMc18 := Am c18
       clear c18
       obtain ⟨y121, hy121⟩ : ∃ y_ : List (List (S50)), y_ = (x117001_1 ++ [t118]) := ⟨_, rfl⟩
       replace H : (intern_copied.l0 k1 l0_1 (l0_1.length : Int) (wrap64 (x13_1 + 1)) t113 y121) = some (r1, r2) := by first | (rw [hy121]; with_reducible exact H) | (have H2_ := (Option.bind_some _ _).symm.trans H; rw [hy121]; with_reducible exact H2_) | (have H2_ := (Option.bind_some _ _).symm.trans H; with_reducible exact H2_) | with_reducible exact H | (rw [hy121]; exact H) | exact H
       have Ny121 := Am hy121
       clear hy121
       have H' := Am H
       clear H
       have p117 : 0 ≤ (x13_1 : Int) := of_decide_eq_true (by first | (with_reducible assumption) | assumption)
       have q117 : x13_1 < (l0_1.length : Int) := of_decide_eq_true (by first | (with_reducible assumption) | assumption)
       obtain ⟨ad117, A117_0, c117_0, e117, hx117_0, hl117_0, hi117_0⟩ := at_L2 HR0_1.out x13_1 p117 q117
       cases e117
       replace hx117_0 := (HB.out.cell (World.block_lt_of_cell? w _ hx117_0)).trans hx117_0
       have HR117_0 := Am hi117_0
       have HC117_0 := Am hl117_0
       clear hi117_0 hl117_0
       replace p117 := eq_true p117
       replace q117 := eq_true q117
       try go_wp2
       replace HO_117000 := Am (Kd.R_drew HO_117000.out)
       replace HO_117001 := Am (Kd.S_drew HO_117001.out)
       replace BK111 := Am (bd BK111.out)
       replace BK112 := Am (bd BK112.out)
       replace BK116 := Am (bd BK116.out)
       replace HB := Am (b1 HB.out)
       refine start_ (n := 8) (S := fun w' => w'.cell? ⟨gb116, 0, none⟩ = some (.slice Ao8 t113.length co8) ∧ w'.cell? ⟨gb116, 1, none⟩ = some (u117001)) (ds := [7]) q4_0 (by kernel_rfl) rfl rfl ⟨(bc BK116.out 0).trans rfl, (bc BK116.out 1).trans rfl⟩ (fun hHeld => ?_); refine with_tabW intern_copied.tab5 intern_copied.bits5 (fun HT_ HW_ => ?_)
       generalize wr.drew = w19 at HO_117000 HO_117001 BK111 BK112 BK116 HB hHeld ⊢
       refine Own.pr_ 0 (some 17) q4_1 HT_ (h := ?_)
       refine Own.pr_ 2 (some 19) q4_2 HT_ (h := ?_)
       refine Own.tk_ 1 (some 18) q4_3 HT_ HW_ hHeld (hy := by rintro w' ⟨s0, s1⟩; go_simp; with_reducible rfl) (h := ?_)
       refine one_ (i := 3) (N := some 20) q4_4 rfl rfl (one_of HT_.out (by kernel_rfl)) (by decide) (fun K hK => ?_)
       refine goes_ Try.func36 (by kernel_rfl) rfl #[.slice A117_0 (rd_L2 l0_1 x13_1).length c117_0] (by rfl) rfl rfl (by (try simp only [List.map_toArray, List.map_cons, List.map_nil]); first | done | rfl | (simp only [List.length_drop, List.length_take]; rfl)) ?_
       with_reducible refine (slices_Clone_2_int_2_int.calls _ _ (rd_L2 l0_1 x13_1) t118 _ ?side1 ?side2 A17.out).mono ?_
       (case side1 => repeat (first | exact (Kd.C_below HR117_0.out HB.out) | (with_reducible refine Kd.C_alloc ?_ _) | (with_reducible refine Kd.C_drewN ?_ _) | (with_reducible refine Kd.C_drew ?_)))
       (case side2 => exact HC117_0.out)
       rintro e w20 ⟨v119, rfl, ho0, hb⟩
       refine ⟨_, rfl, ?_⟩
       have HO120 := Am (Kd.R_lower ho0 (below_size (by repeat (first | (with_reducible first | exact HB.out | apply bl | apply pN | apply b1 | refine bs ?_ GE111.out | refine bs ?_ GE112.out | refine bs ?_ GE116.out) | exact HB.out | exact HBo.out))))
       replace HO_117000 := Am (Kd.R_below (by (with_reducible repeat (first | apply Kd.R_alloc | apply Kd.R_drewN | apply Kd.R_drew)); exact HO_117000.out) hb)
       replace HO_117001 := Am (Kd.S_elder' (by (with_reducible repeat (first | apply Kd.S_alloc | apply Kd.S_drewN | apply Kd.S_drew)); exact HO_117001.out) (Kd.R_base ho0) hb)
       replace BK111 := Am (blk_below (g := gb111) (o := .cells #[.slice A0_0 l0_0.length c0_0, .slice (some ad117) l0_1.length c0_1] 25 (0, 0)) (by (with_reducible repeat (first|apply bn|apply bd|apply ba)); exact BK111.out) hb)
       replace BK112 := Am (blk_below (g := gb112) (o := .cells #[.slice none 0 0, .slice none 0 0] 25 (0, 0)) (by (with_reducible repeat (first|apply bn|apply bd|apply ba)); exact BK112.out) hb)
       replace BK116 := Am (blk_below (g := gb116) (o := .cells #[.slice Ao8 t113.length co8, u117001] 25 (0, 0)) (by (with_reducible repeat (first|apply bn|apply bd|apply ba)); exact BK116.out) hb)
       replace HB := Am (below_step (by repeat (first | (with_reducible first | exact HB.out | apply bl | apply pN | apply b1 | refine bs ?_ GE111.out | refine bs ?_ GE112.out | refine bs ?_ GE116.out) | exact HB.out | exact HBo.out)) hb)
       (try clear hb)
       (try clear hb2)
       (try clear hk)
       (try clear hi)
       (try clear ho0)
       obtain ⟨Ao22, co22, eo22⟩ := Kd.R_slice HO120.out
       (first | subst eo22 | (injection eo22 with f1_ f2_ f3_; have f4_ := f1_.symm; have f5_ := f3_.symm; clear f1_ f2_ f3_; subst f4_; subst f5_))
       refine hK.out _ _ ⟨(bc BK116.out 0).trans rfl, (bc BK116.out 1).trans rfl⟩ (fun hHeld => ?_)
       clear hK K
       refine norm_ (a' := ?_) ?_ ?_
       rotate_left
       ·
        show Act.put _ (some 20) _ = _
        simp only [Act.put, sI, sZ, sS, i64_w, i32_w]
        rfl
       refine one_ (i := 4) (N := some 21) q4_5 rfl rfl (one_of HT_.out (by kernel_rfl)) (by decide) (fun K hK => ?_)
       refine value_ (w1 := ?_) (v := ?_) (by rfl) rfl ?_ ?_
       rotate_left 2
       ·
        go_simp
        constructor
        ·
         rfl
        ·
         rfl
       refine hK.out _ _ ⟨(bc (ba BK116.out _) 0).trans rfl, (bc (ba BK116.out _) 1).trans rfl⟩ (fun hHeld => ?_)
       clear hK K
       refine norm_ (a' := ?_) ?_ ?_
       rotate_left
       ·
        show Act.put _ (some 21) _ = _
        simp only [Act.put, sI, sZ, sS, i64_w, i32_w]
        rfl
       refine one_ (i := 5) (N := some 22) q4_6 rfl rfl (one_of HT_.out (by kernel_rfl)) (by decide) (fun K hK => ?_)
       refine Kd.S_append_step (Kd.slice 50 k50) (w0 := w) w.heap.size (by rfl) (.tmp 18) (.tmp 21) 23 46 (.slice none 0 0) 24 rfl Try.underlying23 info46 rfl (by decide) (by omega) u117001 x117001_1 t118 [.slice Ao22 t118.length co22] (fun _ => True) (fun k_ => some k_ = (.slice Ao22 t118.length co22 : Value).ownBlock) rfl rfl ?aP (fun k_ hk_ => ((Kd.R_mono (ok' := fun k_ => ((fun _ => True)) k_ ∧ some k_ ≠ (u117001 : Value).ownBlock) (Kd.R_apart' (HO120.out) (Kd.S_typed HO_117001.out) (by decide)) (fun k_ hk => ⟨trivial, hk.2⟩))).1 k_ hk_.symm) ?aF ?aO ?aB ?aS ?aL ?_
       (case aP => exact Kd.M_row (Kd.R_mono (Kd.R_tight rfl (Kd.R_mono (ok' := fun k_ => ((fun _ => True)) k_ ∧ some k_ ≠ (u117001 : Value).ownBlock) (Kd.R_apart' (HO120.out) (Kd.S_typed HO_117001.out) (by decide)) (fun k_ hk => ⟨trivial, hk.2⟩))) (fun _ h_ => h_)))
       (case aB => exact (by repeat (first | (with_reducible first | exact HB.out | apply bl | apply pN | apply b1 | refine bs ?_ GE111.out | refine bs ?_ GE112.out | refine bs ?_ GE116.out) | exact HB.out | exact HBo.out)))
       (case aF => exact (fun _ _ => trivial))
       (case aO => exact (by (with_reducible repeat (first | apply Kd.S_alloc | apply Kd.S_drewN | apply Kd.S_drew)); exact Kd.S_mono HO_117001.out (fun k_ hk => ⟨trivial, fun e_ => hk.2 e_⟩)))
       (case aS => exact (below_size (by repeat (first | (with_reducible first | exact HB.out | apply bl | apply pN | apply b1 | refine bs ?_ GE111.out | refine bs ?_ GE112.out | refine bs ?_ GE116.out) | exact HB.out | exact HBo.out))))
       (case aL => have := LMc18.out; omega)
       intro v122 w21 ho hb hg hat
       rw [← Ny121.out] at ho
       have n0_ := Am (Kd.R_over' (by (with_reducible repeat (first | apply Kd.R_alloc | apply Kd.R_drewN | apply Kd.R_drew)); exact HO_117000.out) (Kd.S_typed (by (with_reducible repeat (first | apply Kd.S_alloc | apply Kd.S_drewN | apply Kd.S_drew)); exact HO_117001.out)) (by decide) hg)
       have n1_ := Am (blk_grown (g := gb111) (o := .cells #[.slice A0_0 l0_0.length c0_0, .slice (some ad117) l0_1.length c0_1] 25 (0, 0)) (by (with_reducible repeat (first|apply bn|apply bd|apply ba)); exact BK111.out) hg (Kd.S_ne HO_117001.out BK111.out (by decide)))
       have n2_ := Am (blk_grown (g := gb112) (o := .cells #[.slice none 0 0, .slice none 0 0] 25 (0, 0)) (by (with_reducible repeat (first|apply bn|apply bd|apply ba)); exact BK112.out) hg (Kd.S_ne HO_117001.out BK112.out (by decide)))
       have n3_ := Am (blk_grown (g := gb116) (o := .cells #[.slice Ao8 t113.length co8, u117001] 25 (0, 0)) (by (with_reducible repeat (first|apply bn|apply bd|apply ba)); exact BK116.out) hg (Kd.S_ne HO_117001.out BK116.out (by decide)))
       have n4_ := Am (hb)
       have n5_ := Am (ho)
       clear HO_117000
       clear BK111
       clear BK112
       clear BK116
       clear HB
       clear HO_117001
       clear HO120
       have HO_117000 := n0_
       have BK111 := n1_
       have BK112 := n2_
       have BK116 := n3_
       have HB := n4_
       have HO123 := n5_
       clear n0_ n1_ n2_ n3_ n4_ n5_
       clear ho hb hg hat
       obtain ⟨Ao23, co23, eo23⟩ := Kd.S_slice HO123.out
       (first | subst eo23 | (injection eo23 with f1_ f2_ f3_; have f4_ := f1_.symm; have f5_ := f3_.symm; clear f1_ f2_ f3_; subst f4_; subst f5_))
       refine hK.out _ _ ⟨(bc BK116.out 0).trans rfl, (bc BK116.out 1).trans rfl⟩ (fun hHeld => ?_)
       clear hK K
       refine norm_ (a' := ?_) ?_ ?_
       rotate_left
       ·
        show Act.put _ (some 22) _ = _
        simp only [Act.put, sI, sZ, sS, i64_w, i32_w]
        rfl
       refine Own.pr_ 6 (some 23) q4_7 HT_ (h := ?_)
       refine last_ (i := 7) (N := none) q4_8 rfl rfl (one_of HT_.out (by kernel_rfl)) (by decide) (fun K hK => ?_)
       have hs24 : w21.cell? ⟨gb116, 1, none⟩ = some (u117001) := (bc BK116.out 1).trans rfl
       have hfs24 := bf BK116.out 1
       have hns24_0 := NB111_116.out
       have hns24_1 := NB112_116.out
       have hms24_0 := NB116_111.out
       have hms24_1 := NB116_112.out
       refine skip_ (w1 := ?_) (by rfl) rfl ?_ ?_
       rotate_left
       ·
        go_simp
        rfl
       refine hK.out _ _ ?_
       clear hK K
       refine done_ (done_of HT_.out (by kernel_rfl)) ?_
       try go_wp2
       go_roundg k1
       case measure => have := HK1.out; omega
       case rel => exact ⟨(wrap64 (x13_1 + 1)), (y121), (.slice Ao23 y121.length co23), (by first | rfl | (simp; done) | (simp [*]; done)), H', ⟨by have := HK1.out; omega⟩, ⟨by (with_reducible repeat (first | apply Kd.R_alloc | apply Kd.R_drewN | apply Kd.R_drew)); exact Kd.R_mono (Kd.R_far (p := ⟨gb116, 1, none⟩) (Kd.R_types HO_117000.out BK116.out (by decide)) (fun _ hk => hk.2) (.slice Ao23 y121.length co23)) (fun _ hk => trivial)⟩, ⟨by (with_reducible repeat (first | apply Kd.S_alloc | apply Kd.S_drewN | apply Kd.S_drew)); exact Kd.S_mono (Kd.S_far (p := ⟨gb116, 1, none⟩) (Kd.S_types HO123.out BK116.out (by decide)) (fun _ hk => hk.2) (.slice Ao23 y121.length co23)) (fun _ hk => trivial)⟩, ⟨by (with_reducible repeat (first|apply bn|apply bd|apply ba)); refine blk_far ?_ NB111_116.out _; (with_reducible repeat (first|apply bn|apply bd|apply ba)); exact BK111.out⟩, ⟨by (with_reducible repeat (first|apply bn|apply bd|apply ba)); refine blk_far ?_ NB112_116.out _; (with_reducible repeat (first|apply bn|apply bd|apply ba)); exact BK112.out⟩, ⟨by (with_reducible repeat (first|apply bn|apply bd|apply ba)); refine blk_put (cs := #[.slice Ao8 t113.length co8, u117001]) ?_ 1 _ rfl; (with_reducible repeat (first|apply bn|apply bd|apply ba)); exact BK116.out⟩, ⟨by repeat (first | (with_reducible first | exact HB.out | apply bl | apply pN | apply b1 | refine bs ?_ GE111.out | refine bs ?_ GE112.out | refine bs ?_ GE116.out) | exact HB.out | exact HBo.out)⟩⟩
      ·
       rw [if_neg c18] at H
       exact absurd H (by simp)
     ·
      rw [if_neg c16] at H
      exact absurd H (by simp)
    ·
     rw [if_neg c15] at H
     exact absurd H (by simp)
   ·
    rw [if_neg c14] at H
    have c14b0 : decide (x13_1 < (l0_1.length : Int)) = false := decide_eq_false c14
    clear c14
    simp only [Option.some.injEq, Prod.mk.injEq] at H
    obtain ⟨rfl, rfl⟩ := H
    have hnb25 := NB116_111.out
    have hnc25 := NB111_116.out
    have hnb26 := NB116_112.out
    have hnc26 := NB112_116.out
    have hcz27_0 := Own.bc2 BK116.out 0
    have hcz27_1 := Own.bc2 BK116.out 1
    have hfz27_0 := bf BK116.out 0
    have hfz27_1 := bf BK116.out 1
    have hnb28 := NB112_111.out
    have hnc28 := NB111_112.out
    have hcz29_0 := Own.bc2 BK112.out 0
    have hcz29_1 := Own.bc2 BK112.out 1
    have hfz29_0 := bf BK112.out 0
    have hfz29_1 := bf BK112.out 1
    obtain ⟨Ao30, co30, eo30⟩ := Kd.S_slice HO_117001.out
    subst eo30
    go_wp2
    refine bodyPost_ret (results_cell_row rfl _ _ gb112 25 #[.slice Ao8 t113.length co8, .slice Ao30 x117001_1.length co30] (0, 0) _ rfl (by (with_reducible repeat (first|apply bn|apply bd|apply ba)); refine blk_put (cs := #[.slice Ao8 t113.length co8, .slice none 0 0]) ?_ 1 _ rfl; (with_reducible repeat (first|apply bn|apply bd|apply ba)); refine blk_put (cs := #[.slice none 0 0, .slice none 0 0]) ?_ 0 _ rfl; (with_reducible repeat (first|apply bn|apply bd|apply ba)); exact BK112.out) Try.underlying25 rfl (by kernel_rfl)) rfl ?_
    exact ⟨_, _, by first | rfl | (simp <;> rfl) | (simp [*] <;> rfl) | (simp [Aid.ne_nil, Aid.eq_nil]; done), by (with_reducible repeat (first | apply Kd.R_alloc | apply Kd.R_drewN | apply Kd.R_drew)); exact Kd.R_mono (Kd.R_far (p := ⟨gb112, 1, none⟩) (Kd.R_far (p := ⟨gb112, 0, none⟩) (Kd.R_types HO_117000.out BK112.out (by decide)) (fun _ hk => hk.2) (.slice Ao8 t113.length co8)) (fun _ hk => hk.2) (.slice Ao30 x117001_1.length co30)) (fun _ hk => trivial), by (with_reducible repeat (first | apply Kd.S_alloc | apply Kd.S_drewN | apply Kd.S_drew)); exact Kd.S_mono (Kd.S_far (p := ⟨gb112, 1, none⟩) (Kd.S_far (p := ⟨gb112, 0, none⟩) (Kd.S_types HO_117001.out BK112.out (by decide)) (fun _ hk => hk.2) (.slice Ao8 t113.length co8)) (fun _ hk => hk.2) (.slice Ao30 x117001_1.length co30)) (fun _ hk => trivial), by repeat (first | (with_reducible first | exact HB.out | apply bl | apply pN | apply b1 | refine bs ?_ GE111.out | refine bs ?_ GE112.out | refine bs ?_ GE116.out) | exact HB.out | exact HBo.out)⟩

/-! ### slices_Index_string_string: function 37 -/
def slices_Index_string_string.l0 : Nat → List ByteArray → ByteArray → Int → Int → Option (Int)
 | 0, _, _, _, _ => none
 | k + 1, x0, x1, x7, x8 => if x8 < x7 then (if 0 ≤ x8 then (if x8 < (x0.length : Int) then (if x1.toList = (rdOf ByteArray.empty x0 x8).toList then (some x8) else (slices_Index_string_string.l0 k x0 x1 x7 (wrap64 (x8 + 1)))) else (none)) else (none)) else (some (-1))
def slices_Index_string_string.f (k : Nat) (l0 : List ByteArray) (a1 : ByteArray) : Option (Int) := slices_Index_string_string.l0 k l0 a1 (l0.length : Int) 0
theorem slices_Index_string_string.mono_l : ∀ k, (∀ y0 y1 y2 y3, LeO (slices_Index_string_string.l0 k y0 y1 y2 y3) (slices_Index_string_string.l0 (k + 1) y0 y1 y2 y3))
 | 0 => fun _ _ _ _ r h => by simp [slices_Index_string_string.l0] at h
 | k + 1 => by
  have ih0 := slices_Index_string_string.mono_l k
  ·
   intro y0 y1 y2 y3
   unfold slices_Index_string_string.l0
   repeat' first
   | (with_reducible exact ih0 _ _ _ _)
   | (with_reducible exact LeO.refl _)
   | (with_reducible exact LeO.none _)
   | (with_reducible refine LeO.ite ?_ ?_)
   | (with_reducible refine LeO.bind ?_ (fun _ => ?_))
   | exact LeO.none _
   | refine LeO.ite ?_ ?_
   | refine LeO.bind ?_ (fun _ => ?_)
theorem slices_Index_string_string.mono : ∀ a0 a1 k, LeO (slices_Index_string_string.f k a0 a1) (slices_Index_string_string.f (k + 1) a0 a1) := by
 intro a0 a1 k
 have ih0 := slices_Index_string_string.mono_l k
 unfold slices_Index_string_string.f
 repeat' first
   | (with_reducible exact ih0 _ _ _ _)
   | (with_reducible exact LeO.refl _)
   | (with_reducible exact LeO.none _)
   | (with_reducible refine LeO.ite ?_ ?_)
   | (with_reducible refine LeO.bind ?_ (fun _ => ?_))
   | exact LeO.none _
   | refine LeO.ite ?_ ?_
   | refine LeO.bind ?_ (fun _ => ?_)
set_option maxHeartbeats 8000000 in
set_option maxRecDepth 100000 in
theorem slices_Index_string_string.calls (k : Nat) (A0 : Option Addr) (c0 : Nat) (l0 : List ByteArray) (a1 : ByteArray) (r : Int) (w : World) (hr0 : Kd.C Kd.string w A0 l0.length l0) (hc0 : l0.length ≤ c0) (h : slices_Index_string_string.f k l0 a1 = some r) :
  Calls Try.prog 37 #[.slice A0 l0.length c0, .string a1] w fun e w' => e = .returned (.int .i64 r) ∧ Drawn0 w w' := by
 have HR0 := Am hr0
 have HC0 := Am hc0
 clear hr0 hc0
 have H : (slices_Index_string_string.l0 k l0 a1 (l0.length : Int) 0) = some r := h
 clear h
 have H' := Am H
 clear H
 go_enter Try.func37, Try.ntmps37
 go_wp2
 go_loopg [8] k (fun kq v8 w' => ∃ (x8_1 : Int), v8 = .int .i64 x8_1 ∧ Aside0 (slices_Index_string_string.l0 kq l0 a1 (l0.length : Int) x8_1 = some r) ∧ Aside0 (kq ≤ k) ∧ Drawn0 w w')
 case atStart => exact ⟨(0), (by first | rfl | (simp; done) | (simp [*]; done)), H', ⟨Nat.le_refl _⟩, by repeat (first | exact Drawn0.refl _ | apply Drawn0.step)⟩
 case round =>
  clear H'
  try clear p2
  obtain ⟨x8_1, rfl, HA, HK1, ⟨m1, rfl⟩⟩ := hrel
  cases gk with
  | zero => exact absurd HA.out (by simp [slices_Index_string_string.l0])
  | succ k1 =>
   have H := HA.out
   clear HA
   simp only [slices_Index_string_string.l0] at H
   by_cases c3 : x8_1 < (l0.length : Int)
   ·
    rw [if_pos c3] at H
    have c3b0 : decide (x8_1 < (l0.length : Int)) = true := decide_eq_true c3
    clear c3
    by_cases c4 : 0 ≤ x8_1
    ·
     rw [if_pos c4] at H
     have c4b0 : decide (0 ≤ x8_1) = true := decide_eq_true c4
     clear c4
     by_cases c5 : x8_1 < (l0.length : Int)
     ·
      rw [if_pos c5] at H
      have c5b0 : decide (x8_1 < (l0.length : Int)) = true := decide_eq_true c5
      clear c5
      by_cases c6 : a1.toList = (rdOf ByteArray.empty l0 x8_1).toList
      ·
       rw [if_pos c6] at H
       have c6b0 : (a1.toList == (rdOf ByteArray.empty l0 x8_1).toList) = true := beq_iff_eq.mpr c6
       have c6b1 : (a1.toList != (rdOf ByteArray.empty l0 x8_1).toList) = false := bne_eq_false_iff_eq.mpr c6
       clear c6
       obtain rfl := Option.some.inj H
       have p124 : 0 ≤ (x8_1 : Int) := of_decide_eq_true (by first | (with_reducible assumption) | assumption)
       have q124 : x8_1 < (l0.length : Int) := of_decide_eq_true (by first | (with_reducible assumption) | assumption)
       obtain ⟨ad124, e124, hx124_0⟩ := Kd.at_string HR0.out x8_1 p124 q124
       cases e124
       replace p124 := eq_true p124
       replace q124 := eq_true q124
       go_wp2
       go_ret
       exact ⟨by first | rfl | (simp; done) | (simp [*]; done), by repeat (first | exact Drawn0.refl _ | apply Drawn0.step)⟩
      ·
       rw [if_neg c6] at H
       have c6b0 : (a1.toList == (rdOf ByteArray.empty l0 x8_1).toList) = false := beq_eq_false_iff_ne.mpr c6
       have c6b1 : (a1.toList != (rdOf ByteArray.empty l0 x8_1).toList) = true := bne_iff_ne.mpr c6
       have H' := Am H
       clear H
       have p124 : 0 ≤ (x8_1 : Int) := of_decide_eq_true (by first | (with_reducible assumption) | assumption)
       have q124 : x8_1 < (l0.length : Int) := of_decide_eq_true (by first | (with_reducible assumption) | assumption)
       obtain ⟨ad124, e124, hx124_0⟩ := Kd.at_string HR0.out x8_1 p124 q124
       cases e124
       replace p124 := eq_true p124
       replace q124 := eq_true q124
       go_wp2
       go_roundg k1
       case measure => have := HK1.out; omega
       case rel => exact ⟨(wrap64 (x8_1 + 1)), (by first | rfl | (simp; done) | (simp [*]; done)), H', ⟨by have := HK1.out; omega⟩, by repeat (first | exact Drawn0.refl _ | apply Drawn0.step)⟩
     ·
      rw [if_neg c5] at H
      exact absurd H (by simp)
    ·
     rw [if_neg c4] at H
     exact absurd H (by simp)
   ·
    rw [if_neg c3] at H
    have c3b0 : decide (x8_1 < (l0.length : Int)) = false := decide_eq_false c3
    clear c3
    obtain rfl := Option.some.inj H
    go_wp2
    go_ret
    exact ⟨by first | rfl | (simp; done) | (simp [*]; done), by repeat (first | exact Drawn0.refl _ | apply Drawn0.step)⟩

end Go.Proofs.Ytijjfomnidckdaa.Q
