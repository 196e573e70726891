-- printed by a program of this session (NOTES: hprint); not the kit's print
-- minified
-- halved
import Derived.Test.YthfdhoegboeaeaaAl
import Derived.Test.YthfdhoegboeaeaaQx0
namespace Go.Proofs.Ythfdhoegboeaeaa.Q
open Go.RowKit Go.Proofs.YthfdhoegboeaeaaW.PrintWords Go.Proofs.YthfdhoegboeaeaaW.PrintLast Go.Proofs.YthfdhoegboeaeaaW.PrintMore
attribute [local go_sem] max2_int min2_int max_two min_two max_three min_three max_four min_four   -- for this text's walks alone
set_option linter.unusedVariables false
set_option linter.unusedSimpArgs false

/-! ### shuttlecockref08_Small: function 8 -/
def shuttlecockref08_Small.f (a0_0 : Int) (l0_1 : List (S46)) (l0_2 : List (S36)) : Option (Bool) := if (l0_1.length : Int) ≤ 70 then (some (decide ((l0_2.length : Int) ≤ 100))) else (some false)
set_option maxHeartbeats 8000000 in
set_option maxRecDepth 100000 in
theorem shuttlecockref08_Small.calls (a0_0 : Int) (A0_1 : Option Addr) (c0_1 : Nat) (l0_1 : List (S46)) (A0_2 : Option Addr) (c0_2 : Nat) (l0_2 : List (S36)) (r : Bool) (w : World) (hr0_1 : Kd.C k46 w A0_1 l0_1.length l0_1) (hc0_1 : l0_1.length ≤ c0_1) (hr0_2 : Kd.C k36 w A0_2 l0_2.length l0_2) (hc0_2 : l0_2.length ≤ c0_2) (h : shuttlecockref08_Small.f a0_0 l0_1 l0_2 = some r) :
  Calls Try.prog 8 #[.agg #[.int .i64 a0_0, .slice A0_1 l0_1.length c0_1, .slice A0_2 l0_2.length c0_2]] w fun e w' => e = .returned (.bool r) ∧ Below w.heap.size w w' := by
 have hu25 := Try.underlying25
 have HR0_1 := Am hr0_1
 have HC0_1 := Am hc0_1
 clear hr0_1 hc0_1
 have HR0_2 := Am hr0_2
 have HC0_2 := Am hc0_2
 clear hr0_2 hc0_2
 have HB := Am (Below.refl w.heap.size w)
 have H : (if (l0_1.length : Int) ≤ 70 then (some (decide ((l0_2.length : Int) ≤ 100))) else (some false)) = some r := h
 clear h
 by_cases c2 : (l0_1.length : Int) ≤ 70
 ·
  rw [if_pos c2] at H
  have c2b0 : decide ((l0_1.length : Int) ≤ 70) = true := decide_eq_true c2
  have c2b1 : decide (l0_1.length ≤ 70) = true := decide_eq_true (by omega)
  clear c2
  obtain rfl := Option.some.inj H
  go_enter Try.func8, Try.ntmps8
  go_wp2_with (first | ((with_reducible refine gate_dst (N := 1) rfl ?_); (try (refine gate_guard (by rfl) ?_; dsimp only)); refine box_event ?hg (N := 1) ?hd (cs := #[.int .i64 a0_0, .slice A0_1 l0_1.length c0_1, .slice A0_2 l0_2.length c0_2]) (t := 25) ?hr ?_; (case hd => rfl); (case hg => rfl); (case hr => first | (go_simp; done) | (go_simp; rfl)); intro gb101 hg w3 hbox hb; have n0_ := Am (below_step (by repeat (first | (with_reducible first | exact HB.out | apply bl | apply pN | apply b1) | exact HB.out | exact HBo.out)) hb); have n1_ := Am (hbox); have n2_ := Am ((by rw [hg]; exact (below_size (by repeat (first | (with_reducible first | exact HB.out | apply bl | apply pN | apply b1) | exact HB.out | exact HBo.out))) : w.heap.size ≤ gb101)); have n3_ := Am ((by rw [hg]; exact (below_size (by repeat (first | (with_reducible first | exact HB.out | apply bl | apply pN | apply b1) | exact HB.out | exact HBo.out))) : w.heap.size ≤ gb101)); clear HB; have HB := n0_; have BK101 := n1_; have GW101 := n2_; have GE101 := n3_; clear n0_ n1_ n2_ n3_; clear hb hbox hg; have hcz4_0 : w3.cell? ⟨gb101, 0, none⟩ = some (.int .i64 a0_0) := (bc BK101.out 0).trans rfl; have hcz4_1 : w3.cell? ⟨gb101, 1, none⟩ = some (.slice A0_1 l0_1.length c0_1) := (bc BK101.out 1).trans rfl; have hcz4_2 : w3.cell? ⟨gb101, 2, none⟩ = some (.slice A0_2 l0_2.length c0_2) := (bc BK101.out 2).trans rfl; have hfz4_0 := bf BK101.out 0; have hfz4_1 := bf BK101.out 1; have hfz4_2 := bf BK101.out 2))
  go_ret
  exact ⟨by first | rfl | (simp [errW_none, errW_some] <;> rfl) | (simp [*, errW_none, errW_some] <;> rfl) | (simp [Aid.ne_nil, Aid.eq_nil, errW_none, errW_some]; done), by repeat (first | (with_reducible first | exact HB.out | apply bl | apply pN | apply b1 | refine bs ?_ GE101.out) | exact HB.out | exact HBo.out)⟩
 ·
  rw [if_neg c2] at H
  have c2b0 : decide ((l0_1.length : Int) ≤ 70) = false := decide_eq_false c2
  have c2b1 : decide (l0_1.length ≤ 70) = false := decide_eq_false (by omega)
  clear c2
  obtain rfl := Option.some.inj H
  go_enter Try.func8, Try.ntmps8
  go_wp2_with (first | ((with_reducible refine gate_dst (N := 1) rfl ?_); (try (refine gate_guard (by rfl) ?_; dsimp only)); refine box_event ?hg (N := 1) ?hd (cs := #[.int .i64 a0_0, .slice A0_1 l0_1.length c0_1, .slice A0_2 l0_2.length c0_2]) (t := 25) ?hr ?_; (case hd => rfl); (case hg => rfl); (case hr => first | (go_simp; done) | (go_simp; rfl)); intro gb101 hg w5 hbox hb; have n0_ := Am (below_step (by repeat (first | (with_reducible first | exact HB.out | apply bl | apply pN | apply b1) | exact HB.out | exact HBo.out)) hb); have n1_ := Am (hbox); have n2_ := Am ((by rw [hg]; exact (below_size (by repeat (first | (with_reducible first | exact HB.out | apply bl | apply pN | apply b1) | exact HB.out | exact HBo.out))) : w.heap.size ≤ gb101)); have n3_ := Am ((by rw [hg]; exact (below_size (by repeat (first | (with_reducible first | exact HB.out | apply bl | apply pN | apply b1) | exact HB.out | exact HBo.out))) : w.heap.size ≤ gb101)); clear HB; have HB := n0_; have BK101 := n1_; have GW101 := n2_; have GE101 := n3_; clear n0_ n1_ n2_ n3_; clear hb hbox hg; have hcz6_0 : w5.cell? ⟨gb101, 0, none⟩ = some (.int .i64 a0_0) := (bc BK101.out 0).trans rfl; have hcz6_1 : w5.cell? ⟨gb101, 1, none⟩ = some (.slice A0_1 l0_1.length c0_1) := (bc BK101.out 1).trans rfl; have hcz6_2 : w5.cell? ⟨gb101, 2, none⟩ = some (.slice A0_2 l0_2.length c0_2) := (bc BK101.out 2).trans rfl; have hfz6_0 := bf BK101.out 0; have hfz6_1 := bf BK101.out 1; have hfz6_2 := bf BK101.out 2))
  go_ret
  exact ⟨by first | rfl | (simp [errW_none, errW_some] <;> rfl) | (simp [*, errW_none, errW_some] <;> rfl) | (simp [Aid.ne_nil, Aid.eq_nil, errW_none, errW_some]; done), by repeat (first | (with_reducible first | exact HB.out | apply bl | apply pN | apply b1 | refine bs ?_ GE101.out) | exact HB.out | exact HBo.out)⟩

/-! ### snap_fit: function 25, by hand -/
/-- Is a number none that fits? -/
def outN (a : Int) : Bool := decide (a < 0) || decide (4611686018427387904 ≤ a)
def snap_fit.f (l0 : List Int) : Option (Bool) := some (!l0.any outN)
set_option maxHeartbeats 2000000 in
set_option maxRecDepth 100000 in
theorem outN.calls (a : Int) (w : World) : Calls Try.prog 38 #[.int .i64 a] w fun e w' => e = .returned (.bool (outN a)) ∧ Below w.heap.size w w' := by
 unfold outN
 by_cases h : a < 0
 ·
  have hb : decide (a < 0) = true := decide_eq_true h
  rw [hb]
  clear h
  go_enter Try.func38, Try.ntmps38
  go_wp2
  go_ret
  exact ⟨rfl, by repeat (first | exact Below.refl _ _ | apply b1)⟩
 ·
  have hb : decide (a < 0) = false := decide_eq_false h
  rw [hb]
  clear h
  go_enter Try.func38, Try.ntmps38
  go_wp2
  go_ret
  exact ⟨by simp, by repeat (first | exact Below.refl _ _ | apply b1)⟩
theorem any_take_outN {l : List Int} {x : Int} (h0 : 0 ≤ x) (h1 : x < (l.length : Int)) : (l.take (x.toNat + 1)).any outN = ((l.take x.toNat).any outN || outN (rd l x)) := by
 have hx : x.toNat < l.length := by omega
 unfold rd
 rw [List.take_succ_eq_append_getElem hx, List.any_append, List.getD_eq_getElem?_getD, List.getElem?_eq_getElem hx]
 simp
theorem any_outN_of {l : List Int} {x : Int} (h0 : 0 ≤ x) (h1 : x < (l.length : Int)) (h : outN (rd l x) = true) : l.any outN = true := by
 have hx : x.toNat < l.length := by omega
 unfold rd at h
 rw [List.getD_eq_getElem?_getD, List.getElem?_eq_getElem hx] at h
 exact List.any_eq_true.2 ⟨_, List.getElem_mem hx, h⟩
theorem nx_fit (x : Int) (n : Nat) (h : x < (n : Int)) (h0 : 0 ≤ x) (hn : n ≤ 9223372036854775807) : wrap64 (x + 1) = x + 1 := by
 unfold wrap64
 omega
set_option maxHeartbeats 4000000 in
set_option maxRecDepth 100000 in
theorem IndexFunc.calls (A0 : Option Addr) (c0 : Nat) (l0 : List Int) (w : World) (hr0 : Kd.C (Kd.int .i64) w A0 l0.length l0) (hc0 : l0.length ≤ c0) :
  Calls Try.prog 43 #[.slice A0 l0.length c0, .func (.func 38) #[] #[]] w fun e w' => ∃ i : Int, e = .returned (.int .i64 i) ∧ decide (0 ≤ i) = l0.any outN ∧ Below w.heap.size w w' := by
 have hml := hr0.2.1
 have HR := Am hr0
 clear hr0 hc0
 go_enter Try.func43, Try.ntmps43
 go_wp2
 go_loopg [8] (l0.length + 1) (fun kq v8 w' => ∃ x : Int, v8 = .int .i64 x ∧ Aside0 (0 ≤ x ∧ x ≤ l0.length ∧ (kq : Int) + x = l0.length + 1 ∧ (l0.take x.toNat).any outN = false) ∧ Aside0 (Below w.heap.size w w'))
 case atStart => exact ⟨0, rfl, ⟨by omega, by omega, by omega, rfl⟩, ⟨by repeat (first | exact Below.refl _ _ | apply b1)⟩⟩
 case round =>
  obtain ⟨x, rfl, HA, HB⟩ := hrel
  cases gk with
  | zero => exact absurd HA.out.2.2.1 (by have := HA.out.2.1; omega)
  | succ k1 =>
  by_cases d1 : x < (l0.length : Int)
  ·
   have d1b : decide (x < (l0.length : Int)) = true := decide_eq_true d1
   have d0 := HA.out.1
   obtain ⟨ad, ea, hx⟩ := Kd.at_int HR.out x d0 d1
   cases ea
   replace hx := (HB.out.cell (World.block_lt_of_cell? w _ hx)).trans hx
   have p1 := eq_true d0
   have q1 := eq_true d1
   have HD := Am (And.intro d0 d1)
   clear d0 d1
   have HC := fun W => outN.calls (rd l0 x) W
   cases ho : outN (rd l0 x) with
   | true =>
    rw [ho] at HC
    have HO := Am ho
    have HCC := Am HC
    clear ho HC
    go_wp2_with (first | (go_at_call 38; (with_reducible refine (HCC.out _).mono ?_); rintro e w1 ⟨rfl, hb⟩; have HB1 := Am (below_step HB.out hb); clear hb))
    go_ret
    exact ⟨x, rfl, by rw [any_outN_of HD.out.1 HD.out.2 HO.out]; exact decide_eq_true HD.out.1, HB1.out⟩
   | false =>
    rw [ho] at HC
    have HO := Am ho
    have HCC := Am HC
    clear ho HC
    go_wp2_with (first | (go_at_call 38; (with_reducible refine (HCC.out _).mono ?_); rintro e w1 ⟨rfl, hb⟩; have HB1 := Am (below_step HB.out hb); clear hb))
    go_roundg k1
    case rel => exact ⟨_, rfl, ⟨by have := HA.out; rw [nx_fit x l0.length HD.out.2 HA.out.1 hml]; omega, by have := HD.out; rw [nx_fit x l0.length HD.out.2 HA.out.1 hml]; omega, by have := HA.out; rw [nx_fit x l0.length HD.out.2 HA.out.1 hml]; omega, by rw [nx_fit x l0.length HD.out.2 HA.out.1 hml, show (x + 1).toNat = x.toNat + 1 by have := HA.out.1; omega, any_take_outN HD.out.1 HD.out.2, HA.out.2.2.2, HO.out]; rfl⟩, HB1⟩
    case measure => exact Nat.lt_succ_self _
  ·
   have d1b : decide (x < (l0.length : Int)) = false := decide_eq_false d1
   have HX := Am d1
   clear d1
   go_wp2
   go_ret
   have e1 : l0.any outN = false := by
    have := HA.out.2.2.2
    rwa [show x.toNat = l0.length by have := HX.out; have := HA.out.2.1; omega, List.take_length] at this
   exact ⟨_, rfl, by rw [e1]; rfl, HB.out⟩
set_option maxHeartbeats 2000000 in
set_option maxRecDepth 100000 in
theorem ContainsFunc.calls (A0 : Option Addr) (c0 : Nat) (l0 : List Int) (w : World) (hr0 : Kd.C (Kd.int .i64) w A0 l0.length l0) (hc0 : l0.length ≤ c0) :
  Calls Try.prog 37 #[.slice A0 l0.length c0, .func (.func 38) #[] #[]] w fun e w' => e = .returned (.bool (l0.any outN)) ∧ Below w.heap.size w w' := by
 have H := Am (IndexFunc.calls A0 c0 l0 w hr0 hc0)
 clear hr0 hc0
 go_enter Try.func37, Try.ntmps37
 go_wp2_with (first | (go_at_call 43; (with_reducible refine H.out.mono ?_); rintro e w1 ⟨i, rfl, hi, hb⟩; have HB1 := Am hb; have HI := Am hi; clear hb hi))
 go_ret
 exact ⟨by first | rfl | (rw [← HI.out]; rfl), HB1.out⟩
set_option maxHeartbeats 2000000 in
set_option maxRecDepth 100000 in
theorem snap_fit.calls (A0 : Option Addr) (c0 : Nat) (l0 : List Int) (r : Bool) (w : World) (hr0 : Kd.C (Kd.int .i64) w A0 l0.length l0) (hc0 : l0.length ≤ c0) (h : snap_fit.f l0 = some r) :
  Calls Try.prog 25 #[.slice A0 l0.length c0] w fun e w' => e = .returned (.bool r) ∧ Below w.heap.size w w' := by
 obtain rfl := Option.some.inj h
 have H := Am (ContainsFunc.calls A0 c0 l0 w hr0 hc0)
 clear hr0 hc0 h
 go_enter Try.func25, Try.ntmps25
 go_wp2_with (first | (go_at_call 37; (with_reducible refine H.out.mono ?_); rintro e w1 ⟨rfl, hb⟩; have HB1 := Am hb; clear hb))
 go_ret
 exact ⟨by simp, HB1.out⟩

/-! ### snap_May: function 12, by hand -/
/-! #### numbers that lie side by side -/
theorem lit_C (w : World) (xs : List Int) (t : TypeId) (hl : xs.length ≤ 9223372036854775807) : Kd.C (Kd.int .i64) (w.alloc (.cells (xs.map (Value.int .i64)).toArray t)) (some ⟨w.heap.size, 0, none⟩) xs.length xs := by
 refine ⟨rfl, hl, fun hn => ⟨_, rfl, fun j p hj => ⟨[.int .i64 p], rfl, rfl, fun i u hu => ?_⟩⟩⟩
 obtain ⟨hl, hp⟩ := List.getElem?_eq_some_iff.1 hj
 cases i with
 | succ i => simp at hu
 | zero =>
  have e : (⟨w.heap.size, 0, none⟩ : Addr).add (j * (Kd.int .i64).sz + 0) = ⟨w.heap.size, j, none⟩ := by
   show (⟨w.heap.size, 0, none⟩ : Addr).add (j * 1 + 0) = _
   simp [Addr.add]
   exact fun h => h.symm
  have hu2 : u = .int .i64 p := by simpa using hu.symm
  rw [e, hu2]
  refine (bc (blk_new w _) j).trans ?_
  simp [hj]
def fits (l : List Int) : Bool := !l.any outN
theorem fit_lit (w : World) (xs : List Int) (hl : xs.length ≤ 9223372036854775807) : Calls Try.prog 25 #[.slice (some ⟨w.heap.size, 0, none⟩) xs.length xs.length] (w.alloc (.cells (xs.map (Value.int .i64)).toArray 3)) fun e w' => e = .returned (.bool (fits xs)) ∧ Below w.heap.size w w' := by
 refine (snap_fit.calls _ _ xs (fits xs) _ (lit_C w xs _ hl) (Nat.le_refl _) rfl).mono fun e w' ⟨he, hb⟩ => ⟨he, below_step (bl (Below.refl _ _) _) hb⟩
theorem alloc_size (w : World) (o : Obj) : (w.alloc o).heap.size = w.heap.size + 1 := by
 show (w.heap.push o).size = _
 simp
theorem fit_lit1 (w : World) (a : Int) (g : Nat) (hg : w.heap.size = g) : Calls Try.prog 25 #[.slice (some ⟨g, 0, none⟩) 1 1] (w.alloc (.cells #[.int .i64 a] 3)) fun e w' => e = .returned (.bool (fits [a])) ∧ Below w.heap.size w w' := by subst hg; exact fit_lit w [a] (by simp)
theorem fit_lit2 (w : World) (a b : Int) (g : Nat) (hg : w.heap.size = g) : Calls Try.prog 25 #[.slice (some ⟨g, 0, none⟩) 2 2] (w.alloc (.cells #[.int .i64 a, .int .i64 b] 3)) fun e w' => e = .returned (.bool (fits [a, b])) ∧ Below w.heap.size w w' := by subst hg; exact fit_lit w [a, b] (by simp)
theorem fit_lit3 (w : World) (a b c : Int) (g : Nat) (hg : w.heap.size = g) : Calls Try.prog 25 #[.slice (some ⟨g, 0, none⟩) 3 3] (w.alloc (.cells #[.int .i64 a, .int .i64 b, .int .i64 c] 3)) fun e w' => e = .returned (.bool (fits [a, b, c])) ∧ Below w.heap.size w w' := by subst hg; exact fit_lit w [a, b, c] (by simp)
theorem fits_wf {l : List Int} (h : fits l = true) {a : Int} (ha : a ∈ l) : (Lit.int .i64 a).wf = true ∧ 0 ≤ a ∧ a < 4611686018427387904 := by
 unfold fits at h
 have h1 : outN a = false := by
  cases e : outN a with
  | false => rfl
  | true => rw [List.any_eq_true.2 ⟨a, ha, e⟩] at h; cases h
 unfold outN at h1
 simp only [Bool.or_eq_false_iff, decide_eq_false_iff_not] at h1
 refine ⟨?_, by omega, by omega⟩
 simp only [Lit.wf, Bool.and_eq_true, decide_eq_true_eq]
 exact ⟨(by omega : (-9223372036854775808 : Int) ≤ a), (by omega : a ≤ 9223372036854775807)⟩
/-! #### the Ps -/
/-- Has an M, at this key, one of these Ps? -/
def hasP (l : List S46) (k : Lit) : Bool := l.any fun q => decide (0 < q.f0) && (Lit.int .i64 q.f0).sameKey k
def hOk (l : List S46) (i : Nat) : Bool := fits [(rd_T46 l i).f0, (rd_T46 l i).f1] && !hasP (l.take i) (.int .i64 (rd_T46 l i).f0)
def hPre (l : List S46) : Nat → Bool
 | 0 => true
 | n + 1 => hPre l n && hOk l n
theorem hPre_false {l : List S46} {i : Nat} (h : hOk l i = false) : ∀ n, i < n → hPre l n = false
 | 0, hn => absurd hn (by omega)
 | n + 1, hn => by
  unfold hPre
  rcases Nat.lt_or_ge i n with h1 | h1
  ·
   rw [hPre_false h n h1]; rfl
  ·
   obtain rfl : i = n := by omega
   rw [h, Bool.and_false]
theorem hasP_succ {l : List S46} {i : Nat} (h : i < l.length) (k : Lit) : hasP (l.take (i + 1)) k = (hasP (l.take i) k || (decide (0 < (rd_T46 l i).f0) && (Lit.int .i64 (rd_T46 l i).f0).sameKey k)) := by
 unfold hasP rd_T46
 rw [List.take_succ_eq_append_getElem h, List.any_append, Int.toNat_natCast, List.getD_eq_getElem?_getD, List.getElem?_eq_getElem h]
 simp
theorem key_int (c : Int) (hw : (Lit.int .i64 c).wf = true) : keyOf Try.prog 3 (.int .i64 c) = some (.int .i64 c) := Go.Maps.keyOf_int_mk Try.underlying3 hw
theorem zero_bool (w : World) : (zeroValue 4).run Try.prog w = .ok (.bool false) w := by kernel_rfl
/-- A set of numbers in a block that the call made. -/
def NumSet (w0 w : World) (b n : Nat) (S : Lit → Bool) : Prop := Go.Proofs.Ythfdhoegboeaeaa.MapB.SetAt Try.prog 3 4 w b n S ∧ Below w0.heap.size w0 w ∧ w0.heap.size ≤ b
theorem NumSet.start {w0 w : World} (hb : Below w0.heap.size w0 w) : NumSet w0 (w.alloc (.map #[] 0)) w.heap.size 0 (fun _ => false) :=
 ⟨Go.Proofs.Ythfdhoegboeaeaa.MapB.SetAt.made w _ _ _, bl hb _, hb.size⟩
theorem NumSet.congr {w0 w : World} {b n : Nat} {S S' : Lit → Bool} (h : NumSet w0 w b n S) (hs : ∀ k, S k = S' k) : NumSet w0 w b n S' := ⟨h.1.congr hs, h.2.1, h.2.2⟩
theorem NumSet.below {w0 w w1 : World} {b n : Nat} {S : Lit → Bool} (h : NumSet w0 w b n S) (hb : Below w.heap.size w w1) : NumSet w0 w1 b n S := ⟨h.1.below hb, below_step h.2.1 hb, h.2.2⟩
theorem NumSet.look {w0 w : World} {b n : Nat} {S : Lit → Bool} (h : NumSet w0 w b n S) (c : Int) (hw : (Lit.int .i64 c).wf = true) : (Instr.lookup 52 (.map (some b)) (.int .i64 c) false).run Try.prog w = .ok (.bool (S (.int .i64 c))) w :=
 h.1.look (Go.Maps.int_keyed Try.underlying3) Try.underlying52 Try.underlying4 (zero_bool w) (key_int c hw)
theorem NumSet.put {w0 w w1 : World} {b n n' : Nat} {S S' : Lit → Bool} (h : NumSet w0 w b n S) (hs : Go.Proofs.Ythfdhoegboeaeaa.MapB.SetAt Try.prog 3 4 w1 b n' S') (hg : w.grownBy w1 (some b)) : NumSet w0 w1 b n' S' :=
 ⟨hs, h.2.1.grown hg h.2.1.size (fun k hk => by cases hk; exact h.2.2), h.2.2⟩
theorem sameKey_int (a c : Int) : (Lit.int .i64 a).sameKey (.int .i64 c) = decide (a = c) := by
 simp [Lit.sameKey]
theorem sameKey_flip (k : Lit) (c : Int) : k.sameKey (.int .i64 c) = (Lit.int .i64 c).sameKey k := by
 cases k <;> simp [Lit.sameKey]
 rename_i q a
 by_cases e : q = .i64 <;> by_cases e2 : a = c
 all_goals (first | (subst e; subst e2; simp) | (subst e; simp [e2, Ne.symm e2]) | simp [e, Ne.symm e] | skip)
theorem nx_snap (x : Int) (n : Nat) (h : x < (n : Int)) (h0 : 0 ≤ x) (hn : n ≤ 9223372036854775807) : wrap64 (x + 1) = x + 1 := by
 unfold wrap64
 omega
set_option maxHeartbeats 8000000 in
set_option maxRecDepth 100000 in
theorem snap_holders.calls (A0 : Option Addr) (c0 : Nat) (l0 : List S46) (w : World) (hr0 : Kd.C k46 w A0 l0.length l0) :
  Calls Try.prog 24 #[.slice A0 l0.length c0] w fun e w' => ∃ m : Option Nat, e = .returned (.tuple #[.map m, .bool (hPre l0 l0.length)]) ∧ Below w.heap.size w w' ∧ (hPre l0 l0.length = true → ∃ b, m = some b ∧ ∃ n, NumSet w w' b n (hasP l0)) := by
 have hml := hr0.2.1
 have HR := Am hr0
 clear hr0
 have hmm := @run_makeMap Try.prog
 go_enter Try.func24, Try.ntmps24
 go_wp2
 go_loopg [10] (l0.length + 1) (fun kq v10 w' => ∃ x : Int, v10 = .int .i64 x ∧ Aside0 (0 ≤ x ∧ x ≤ l0.length ∧ (kq : Int) + x = l0.length + 1 ∧ hPre l0 x.toNat = true) ∧ Aside0 (∃ n : Nat, (n : Int) ≤ x ∧ NumSet w w' w.heap.size n (hasP (l0.take x.toNat))))
 case atStart => exact ⟨0, rfl, ⟨by omega, by omega, by omega, rfl⟩, ⟨0, by omega, (NumSet.start (Below.refl _ _)).congr (fun k => by simp [hasP])⟩⟩
 case round =>
  obtain ⟨x, rfl, HA, HS⟩ := hrel
  obtain ⟨n, hn, hset⟩ := HS.out
  have HN := Am hn
  have HS := Am hset
  clear hn hset
  cases gk with
  | zero => exact absurd HA.out.2.2.1 (by have := HA.out.2.1; omega)
  | succ k1 =>
  by_cases d1 : x < (l0.length : Int)
  ·
   have d1b : decide (x < (l0.length : Int)) = true := decide_eq_true d1
   have d0 := HA.out.1
   obtain ⟨ad, ea, hx0, hx1⟩ := at_T46 HR.out x d0 d1
   cases ea
   replace hx0 := (HS.out.2.1.cell (World.block_lt_of_cell? w _ hx0)).trans hx0
   replace hx1 := (HS.out.2.1.cell (World.block_lt_of_cell? w _ hx1)).trans hx1
   have p1 := eq_true d0
   have q1 := eq_true d1
   have HD := Am (And.intro d0 (And.intro d1 (show x.toNat < l0.length by omega)))
   clear d0 d1
   generalize ha : (rd_T46 l0 x).f0 = a at hx0
   generalize hg : (rd_T46 l0 x).f1 = c at hx1
   have HAA := Am (And.intro ha hg)
   clear ha hg
   have HOK := Am (show hOk l0 x.toNat = (fits [a, c] && !hasP (l0.take x.toNat) (.int .i64 a)) by
    unfold hOk
    rw [show ((x.toNat : Nat) : Int) = x by have := HA.out.1; omega, HAA.out.1, HAA.out.2])
   cases hf : fits [a, c] with
   | false =>
    have HF := Am hf
    have HC := Am (fun W g h => hf ▸ fit_lit2 W a c g h)
    clear hf
    have HX := Am (hPre_false (l := l0) (i := x.toNat) (by rw [HOK.out, HF.out]; rfl) l0.length HD.out.2.2)
    go_wp2_with (first | (go_at_call 25; (refine (HC.out _ _ (alloc_size _ _)).mono ?_); rintro e w1 ⟨rfl, hb⟩; have HM := Am (NumSet.below HS.out (below_step (bl (Below.refl _ _) _) hb)); clear hb))
    go_ret2
    exact ⟨none, by rw [HX.out]; rfl, HM.out.2.1, fun e => absurd (HX.out.symm.trans e) Bool.false_ne_true⟩
   | true =>
    have HF := Am hf
    have HC := Am (fun W g h => hf ▸ fit_lit2 W a c g h)
    have hw := fits_wf hf (a := a) (by simp)
    have HW := Am hw
    clear hf hw
    cases hp : hasP (l0.take x.toNat) (.int .i64 a) with
    | true =>
     have HP := Am hp
     clear hp
     have HX := Am (hPre_false (l := l0) (i := x.toNat) (by rw [HOK.out, HF.out, HP.out]; rfl) l0.length HD.out.2.2)
     go_wp2_with (first | (go_at_call 25; (refine (HC.out _ _ (alloc_size _ _)).mono ?_); rintro e w1 ⟨rfl, hb⟩; have HM := Am (NumSet.below HS.out (below_step (bl (Below.refl _ _) _) hb)); have h0 := (bc (blk_below (blk_new _ _) hb) 0).trans (show _ = some (Value.int .i64 a) from rfl); have hlk := (HM.out.look a HW.out.1); rw [HP.out] at hlk; clear hb))
     go_ret2
     exact ⟨none, by rw [HX.out]; rfl, HM.out.2.1, fun e => absurd (HX.out.symm.trans e) Bool.false_ne_true⟩
    | false =>
     have HP := Am hp
     clear hp
     have HNX := Am (show hPre l0 (x.toNat + 1) = true by
      unfold hPre
      rw [HA.out.2.2.2, HOK.out, HF.out, HP.out]
      rfl)
     have HSU := Am (hasP_succ (l := l0) HD.out.2.2)
     by_cases b1 : 0 < a
     ·
      have b1b : decide (0 < a) = true := decide_eq_true b1
      have HSE := Am (show ∀ k, hasP (l0.take (x.toNat + 1)) k = if k.sameKey (.int .i64 a) then true else hasP (l0.take x.toNat) k by
       intro k
       rw [HSU.out k, show ((x.toNat : Nat) : Int) = x by have := HA.out.1; omega, HAA.out.1, b1b, sameKey_flip k a]
       cases (Lit.int .i64 a).sameKey k <;> simp)
      clear b1
      have HL := Am (show n < maxLen by have := HD.out; have := HN.out; have := hml; unfold maxLen; omega)
      have HK := Am (key_int a HW.out.1)
      go_wp2_with (first | (go_at_call 25; (refine (HC.out _ _ (alloc_size _ _)).mono ?_); rintro e w1 ⟨rfl, hb⟩; have HM := Am (NumSet.below HS.out (below_step (bl (Below.refl _ _) _) hb)); have h0 := (bc (blk_below (blk_new _ _) hb) 0).trans (show _ = some (Value.int .i64 a) from rfl); have hlk := (HM.out.look a HW.out.1); rw [HP.out] at hlk; clear hb) | (at_mapUpdate; refine Go.Proofs.Ythfdhoegboeaeaa.MapB.wp_store _ rfl _ _ _ 52 rfl 3 4 (Go.Maps.int_keyed Try.underlying3) Try.underlying52 Try.underlying4 w.heap.size n (hasP (l0.take x.toNat)) rfl HM.out.1 HL.out (.int .i64 a) (.int .i64 a) true rfl rfl HK.out trivial ?_; intro w5 hset hgrow; have HS' := Am ((HM.out.put hset hgrow).congr (fun k => (HSE.out k).symm)); clear hset hgrow))
      go_roundg k1
      case rel => exact ⟨_, rfl, ⟨by have := HA.out; rw [nx_snap x l0.length HD.out.2.1 HA.out.1 hml]; omega, by have := HD.out; rw [nx_snap x l0.length HD.out.2.1 HA.out.1 hml]; omega, by have := HA.out; rw [nx_snap x l0.length HD.out.2.1 HA.out.1 hml]; omega, by rw [nx_snap x l0.length HD.out.2.1 HA.out.1 hml, show (x + 1).toNat = x.toNat + 1 by have := HA.out.1; omega]; exact HNX.out⟩, ⟨n + 1, by rw [nx_snap x l0.length HD.out.2.1 HA.out.1 hml]; have := HN.out; omega, by rw [nx_snap x l0.length HD.out.2.1 HA.out.1 hml, show (x + 1).toNat = x.toNat + 1 by have := HA.out.1; omega]; exact HS'.out⟩⟩
      case measure => exact Nat.lt_succ_self _
     ·
      have b1b : decide (0 < a) = false := decide_eq_false b1
      have HSE := Am (show ∀ k, hasP (l0.take (x.toNat + 1)) k = hasP (l0.take x.toNat) k by
       intro k
       rw [HSU.out k, show ((x.toNat : Nat) : Int) = x by have := HA.out.1; omega, HAA.out.1, b1b]
       simp)
      clear b1
      go_wp2_with (first | (go_at_call 25; (refine (HC.out _ _ (alloc_size _ _)).mono ?_); rintro e w1 ⟨rfl, hb⟩; have HM := Am (NumSet.below HS.out (below_step (bl (Below.refl _ _) _) hb)); have h0 := (bc (blk_below (blk_new _ _) hb) 0).trans (show _ = some (Value.int .i64 a) from rfl); have hlk := (HM.out.look a HW.out.1); rw [HP.out] at hlk; clear hb))
      go_roundg k1
      case rel => exact ⟨_, rfl, ⟨by have := HA.out; rw [nx_snap x l0.length HD.out.2.1 HA.out.1 hml]; omega, by have := HD.out; rw [nx_snap x l0.length HD.out.2.1 HA.out.1 hml]; omega, by have := HA.out; rw [nx_snap x l0.length HD.out.2.1 HA.out.1 hml]; omega, by rw [nx_snap x l0.length HD.out.2.1 HA.out.1 hml, show (x + 1).toNat = x.toNat + 1 by have := HA.out.1; omega]; exact HNX.out⟩, ⟨n, by rw [nx_snap x l0.length HD.out.2.1 HA.out.1 hml]; have := HN.out; omega, by rw [nx_snap x l0.length HD.out.2.1 HA.out.1 hml, show (x + 1).toNat = x.toNat + 1 by have := HA.out.1; omega]; exact HM.out.congr (fun k => (HSE.out k).symm)⟩⟩
      case measure => exact Nat.lt_succ_self _
  ·
   have d1b : decide (x < (l0.length : Int)) = false := decide_eq_false d1
   have HX := Am d1
   clear d1
   go_wp2
   go_ret2
   have e0 : x.toNat = l0.length := by have := HX.out; have := HA.out.2.1; omega
   have e1 : hPre l0 l0.length = true := by
    have := HA.out.2.2.2
    rwa [e0] at this
   exact ⟨some w.heap.size, by rw [e1]; rfl, HS.out.2.1, fun _ => ⟨_, rfl, n, by have := HS.out; rwa [e0, List.take_length] at this⟩⟩
/-! #### the Gs -/
def busyG (l : List S36) (k : Lit) : Bool := l.any fun q => (Lit.int .i64 q.f2).sameKey k
def lastG (l : List S36) (i : Nat) : Int := if i = 0 then 0 else (rd_T36 l ((i : Int) - 1)).f0
def stOk (ps : List S46) (pre : List S36) (s m : Int) : Bool :=
 if s = 1 ∨ s = 3 then m == 0 else if s = 2 then decide (0 < m) && hasP ps (.int .i64 m) && !busyG pre (.int .i64 m) else if s = 4 then decide (0 < m) && !hasP ps (.int .i64 m) && !busyG pre (.int .i64 m) else false
def gOk (ps : List S46) (l : List S36) (i : Nat) : Bool :=
 fits [(rd_T36 l i).f0, (rd_T36 l i).f2, (rd_T36 l i).f3] && !decide ((rd_T36 l i).f0 ≤ lastG l i) && stOk ps (l.take i) (rd_T36 l i).f1 (rd_T36 l i).f2
def gPre (ps : List S46) (l : List S36) : Nat → Bool
 | 0 => true
 | n + 1 => gPre ps l n && gOk ps l n
theorem gPre_false {ps : List S46} {l : List S36} {i : Nat} (h : gOk ps l i = false) : ∀ n, i < n → gPre ps l n = false
 | 0, hn => absurd hn (by omega)
 | n + 1, hn => by
  unfold gPre
  rcases Nat.lt_or_ge i n with h1 | h1
  ·
   rw [gPre_false h n h1]; rfl
  ·
   obtain rfl : i = n := by omega
   rw [h, Bool.and_false]
theorem busyG_succ {l : List S36} {i : Nat} (h : i < l.length) (k : Lit) : busyG (l.take (i + 1)) k = (busyG (l.take i) k || (Lit.int .i64 (rd_T36 l i).f2).sameKey k) := by
 unfold busyG rd_T36
 rw [List.take_succ_eq_append_getElem h, List.any_append, Int.toNat_natCast, List.getD_eq_getElem?_getD, List.getElem?_eq_getElem h]
 simp
/-- Both sets, in blocks of their own. -/
def TwoSets (w0 w : World) (b0 b1 : Nat) (S0 : Lit → Bool) (n : Nat) (S1 : Lit → Bool) : Prop := (∃ n0, NumSet w0 w b0 n0 S0) ∧ NumSet w0 w b1 n S1 ∧ b0 ≠ b1
section
variable {w0 w w1 : World} {b0 b1 n : Nat} {S0 S1 : Lit → Bool}
theorem NumSet.less {o : Obj} {b n : Nat} {S : Lit → Bool} (h : NumSet (w0.alloc o) w b n S) : NumSet w0 w b n S :=
 ⟨h.1, below_step (bl (Below.refl _ _) o) h.2.1, Nat.le_trans (by rw [alloc_size]; omega) h.2.2⟩
theorem TwoSets.start (h : ∃ n0, NumSet w0 w b0 n0 S0) : TwoSets w0 (w.alloc (.map #[] 0)) b0 w.heap.size S0 0 (fun _ => false) := by
 obtain ⟨n0, h⟩ := h
 exact ⟨⟨n0, h.below (bl (Below.refl _ _) _)⟩, NumSet.start h.2.1, Nat.ne_of_lt h.1.lt⟩
theorem TwoSets.below (h : TwoSets w0 w b0 b1 S0 n S1) (hb : Below w.heap.size w w1) : TwoSets w0 w1 b0 b1 S0 n S1 := by
 obtain ⟨⟨n0, h0⟩, h1, h2⟩ := h
 exact ⟨⟨n0, h0.below hb⟩, h1.below hb, h2⟩
theorem TwoSets.congr {S' : Lit → Bool} (h : TwoSets w0 w b0 b1 S0 n S1) (hs : ∀ k, S1 k = S' k) : TwoSets w0 w b0 b1 S0 n S' := ⟨h.1, h.2.1.congr hs, h.2.2⟩
theorem TwoSets.put {n' : Nat} {S' : Lit → Bool} (h : TwoSets w0 w b0 b1 S0 n S1) (hs : Go.Proofs.Ythfdhoegboeaeaa.MapB.SetAt Try.prog 3 4 w1 b1 n' S') (hg : w.grownBy w1 (some b1)) : TwoSets w0 w1 b0 b1 S0 n' S' := by
 obtain ⟨⟨n0, h0⟩, h1, h2⟩ := h
 exact ⟨⟨n0, h0.1.kept hg (by simpa using h2), (h1.put hs hg).2.1, h0.2.2⟩, h1.put hs hg, h2⟩
theorem TwoSets.look0 (h : TwoSets w0 w b0 b1 S0 n S1) (c : Int) (hw : (Lit.int .i64 c).wf = true) : (Instr.lookup 52 (.map (some b0)) (.int .i64 c) false).run Try.prog w = .ok (.bool (S0 (.int .i64 c))) w := by
 obtain ⟨⟨n0, h0⟩, h1, h2⟩ := h
 exact h0.look c hw
theorem TwoSets.look1 (h : TwoSets w0 w b0 b1 S0 n S1) (c : Int) (hw : (Lit.int .i64 c).wf = true) : (Instr.lookup 52 (.map (some b1)) (.int .i64 c) false).run Try.prog w = .ok (.bool (S1 (.int .i64 c))) w := h.2.1.look c hw
end
def mayAll (a : Int) (ps : List S46) (gs : List S36) : Bool := hPre ps ps.length && fits [a] && !decide (64 < (ps.length : Int)) && !decide (1000 < (gs.length : Int)) && gPre ps gs gs.length
def snap_May.f (a0_0 : Int) (l0_1 : List S46) (l0_2 : List S36) : Option (Bool) := some (mayAll a0_0 l0_1 l0_2)
set_option maxHeartbeats 16000000 in
set_option maxRecDepth 100000 in
theorem snap_May.calls (a0_0 : Int) (A0_1 : Option Addr) (c0_1 : Nat) (l0_1 : List S46) (A0_2 : Option Addr) (c0_2 : Nat) (l0_2 : List S36) (r : Bool) (w : World) (hr0_1 : Kd.C k46 w A0_1 l0_1.length l0_1) (hc0_1 : l0_1.length ≤ c0_1) (hr0_2 : Kd.C k36 w A0_2 l0_2.length l0_2) (hc0_2 : l0_2.length ≤ c0_2) (h : snap_May.f a0_0 l0_1 l0_2 = some r) :
  Calls Try.prog 12 #[.agg #[.int .i64 a0_0, .slice A0_1 l0_1.length c0_1, .slice A0_2 l0_2.length c0_2]] w fun e w' => e = .returned (.bool r) ∧ Below w.heap.size w w' := by
 obtain rfl := Option.some.inj h
 have hml := hr0_2.2.1
 have HR := Am hr0_2
 have HH := Am (fun o => snap_holders.calls A0_1 c0_1 l0_1 (w.alloc o) (Kd.C_alloc hr0_1 o))
 clear hr0_1 hr0_2 hc0_1 hc0_2 h
 have hmm := @run_makeMap Try.prog
 cases hp : hPre l0_1 l0_1.length with
 | false =>
  rw [hp] at HH
  have HX := Am (show mayAll a0_0 l0_1 l0_2 = false by unfold mayAll; rw [hp]; rfl)
  clear hp
  go_enter Try.func12, Try.ntmps12
  go_wp2_with (first | (go_at_call 24; (with_reducible refine (HH.out _).mono ?_); rintro e w1 ⟨m, rfl, hb, hp⟩; have BX := Am (blk_below (blk_new _ _) hb); have HB1 := Am (below_step (bl (Below.refl w.heap.size w) _) hb); have HP1 := Am hp; clear hb hp; have hq0 := (bc BX.out 0).trans (show _ = some (Value.int .i64 a0_0) from rfl); have hq1 := (bc BX.out 1).trans (show _ = some (Value.slice A0_1 l0_1.length c0_1) from rfl); have hq2 := (bc BX.out 2).trans (show _ = some (Value.slice A0_2 l0_2.length c0_2) from rfl)))
  go_ret
  exact ⟨by rw [HX.out]; rfl, HB1.out⟩
 | true =>
  rw [hp] at HH
  have HP := Am hp
  clear hp
  cases hf : fits [a0_0] with
  | false =>
   have HC := Am (fun W g h => hf ▸ fit_lit1 W a0_0 g h)
   have HX := Am (show mayAll a0_0 l0_1 l0_2 = false by unfold mayAll; rw [HP.out, hf]; rfl)
   clear hf
   go_enter Try.func12, Try.ntmps12
   go_wp2_with (first | (go_at_call 24; (with_reducible refine (HH.out _).mono ?_); rintro e w1 ⟨m, rfl, hb, hp⟩; have BX := Am (blk_below (blk_new _ _) hb); have HB1 := Am (below_step (bl (Below.refl w.heap.size w) _) hb); have HP1 := Am hp; clear hb hp; have hq0 := (bc BX.out 0).trans (show _ = some (Value.int .i64 a0_0) from rfl); have hq1 := (bc BX.out 1).trans (show _ = some (Value.slice A0_1 l0_1.length c0_1) from rfl); have hq2 := (bc BX.out 2).trans (show _ = some (Value.slice A0_2 l0_2.length c0_2) from rfl)) | (go_at_call 25; (refine (HC.out _ _ rfl).mono ?_); rintro e w2 ⟨rfl, hb⟩; have BX2 := Am (blk_below BX.out hb); have HB2 := Am (below_step HB1.out hb); have hq1 := (bc BX2.out 1).trans (show _ = some (Value.slice A0_1 l0_1.length c0_1) from rfl); have hq2 := (bc BX2.out 2).trans (show _ = some (Value.slice A0_2 l0_2.length c0_2) from rfl); clear hb))
   go_ret
   exact ⟨by rw [HX.out]; rfl, HB2.out⟩
  | true =>
   have HC := Am (fun W g h => hf ▸ fit_lit1 W a0_0 g h)
   have HF := Am hf
   clear hf
   by_cases n1 : 64 < (l0_1.length : Int)
   ·
    have n1b : decide (64 < (l0_1.length : Int)) = true := decide_eq_true n1
    have HX := Am (show mayAll a0_0 l0_1 l0_2 = false by unfold mayAll; rw [HP.out, HF.out, n1b]; rfl)
    clear n1
    go_enter Try.func12, Try.ntmps12
    go_wp2_with (first | (go_at_call 24; (with_reducible refine (HH.out _).mono ?_); rintro e w1 ⟨m, rfl, hb, hp⟩; have BX := Am (blk_below (blk_new _ _) hb); have HB1 := Am (below_step (bl (Below.refl w.heap.size w) _) hb); have HP1 := Am hp; clear hb hp; have hq0 := (bc BX.out 0).trans (show _ = some (Value.int .i64 a0_0) from rfl); have hq1 := (bc BX.out 1).trans (show _ = some (Value.slice A0_1 l0_1.length c0_1) from rfl); have hq2 := (bc BX.out 2).trans (show _ = some (Value.slice A0_2 l0_2.length c0_2) from rfl)) | (go_at_call 25; (refine (HC.out _ _ rfl).mono ?_); rintro e w2 ⟨rfl, hb⟩; have BX2 := Am (blk_below BX.out hb); have HB2 := Am (below_step HB1.out hb); have hq1 := (bc BX2.out 1).trans (show _ = some (Value.slice A0_1 l0_1.length c0_1) from rfl); have hq2 := (bc BX2.out 2).trans (show _ = some (Value.slice A0_2 l0_2.length c0_2) from rfl); clear hb))
    go_ret
    exact ⟨by rw [HX.out]; rfl, HB2.out⟩
   ·
    have n1b : decide (64 < (l0_1.length : Int)) = false := decide_eq_false n1
    clear n1
    by_cases n2 : 1000 < (l0_2.length : Int)
    ·
     have n2b : decide (1000 < (l0_2.length : Int)) = true := decide_eq_true n2
     have HX := Am (show mayAll a0_0 l0_1 l0_2 = false by unfold mayAll; rw [HP.out, HF.out, n1b, n2b]; rfl)
     clear n2
     go_enter Try.func12, Try.ntmps12
     go_wp2_with (first | (go_at_call 24; (with_reducible refine (HH.out _).mono ?_); rintro e w1 ⟨m, rfl, hb, hp⟩; have BX := Am (blk_below (blk_new _ _) hb); have HB1 := Am (below_step (bl (Below.refl w.heap.size w) _) hb); have HP1 := Am hp; clear hb hp; have hq0 := (bc BX.out 0).trans (show _ = some (Value.int .i64 a0_0) from rfl); have hq1 := (bc BX.out 1).trans (show _ = some (Value.slice A0_1 l0_1.length c0_1) from rfl); have hq2 := (bc BX.out 2).trans (show _ = some (Value.slice A0_2 l0_2.length c0_2) from rfl)) | (go_at_call 25; (refine (HC.out _ _ rfl).mono ?_); rintro e w2 ⟨rfl, hb⟩; have BX2 := Am (blk_below BX.out hb); have HB2 := Am (below_step HB1.out hb); have hq1 := (bc BX2.out 1).trans (show _ = some (Value.slice A0_1 l0_1.length c0_1) from rfl); have hq2 := (bc BX2.out 2).trans (show _ = some (Value.slice A0_2 l0_2.length c0_2) from rfl); clear hb))
     go_ret
     exact ⟨by rw [HX.out]; rfl, HB2.out⟩
    ·
     have n2b : decide (1000 < (l0_2.length : Int)) = false := decide_eq_false n2
     clear n2
     have HXX := Am (show mayAll a0_0 l0_1 l0_2 = gPre l0_1 l0_2 l0_2.length by unfold mayAll; rw [HP.out, HF.out, n1b, n2b]; rfl)
     go_enter Try.func12, Try.ntmps12
     go_wp2_with (first | (go_at_call 24; (with_reducible refine (HH.out _).mono ?_); rintro e w1 ⟨m, rfl, hb, hp⟩; have BX := Am (blk_below (blk_new _ _) hb); have HB1 := Am (below_step (bl (Below.refl w.heap.size w) _) hb); have HP1 := Am hp; clear hb hp; have hq0 := (bc BX.out 0).trans (show _ = some (Value.int .i64 a0_0) from rfl); have hq1 := (bc BX.out 1).trans (show _ = some (Value.slice A0_1 l0_1.length c0_1) from rfl); have hq2 := (bc BX.out 2).trans (show _ = some (Value.slice A0_2 l0_2.length c0_2) from rfl); obtain ⟨b0, rfl, HT1⟩ := HP1.out rfl; have HTT := Am HT1; clear HT1) | (go_at_call 25; (refine (HC.out _ _ rfl).mono ?_); rintro e w2 ⟨rfl, hb⟩; have BX2 := Am (blk_below BX.out hb); have HB2 := Am (below_step HB1.out hb); have hq1 := (bc BX2.out 1).trans (show _ = some (Value.slice A0_1 l0_1.length c0_1) from rfl); have hq2 := (bc BX2.out 2).trans (show _ = some (Value.slice A0_2 l0_2.length c0_2) from rfl); have hq3 := (bc (blk_below BX2.out (bl (Below.refl _ _) (.map #[] 0))) 2).trans (show _ = some (Value.slice A0_2 l0_2.length c0_2) from rfl); have HTW := Am (TwoSets.start (HTT.out.imp fun _ h => h.less.below hb)); clear hb))
     go_loopg [6, 40] (l0_2.length + 1) (fun kq v6 v40 w' => ∃ x : Int, v40 = .int .i64 x ∧ v6 = .int .i64 (lastG l0_2 x.toNat) ∧ Aside0 (0 ≤ x ∧ x ≤ l0_2.length ∧ (kq : Int) + x = l0_2.length + 1 ∧ gPre l0_1 l0_2 x.toNat = true) ∧ Aside0 (TwoSets w w' b0 w2.heap.size (hasP l0_1) x.toNat (busyG (l0_2.take x.toNat))))
     case atStart => exact ⟨0, rfl, rfl, ⟨by omega, by omega, by omega, rfl⟩, ⟨HTW.out.congr (fun k => by simp [busyG])⟩⟩
     case round =>
      obtain ⟨x, rfl, rfl, HA, HS⟩ := hrel
      cases gk with
      | zero => exact absurd HA.out.2.2.1 (by have := HA.out.2.1; omega)
      | succ k1 =>
      by_cases d1 : x < (l0_2.length : Int)
      ·
       have d1b : decide (x < (l0_2.length : Int)) = true := decide_eq_true d1
       have d0 := HA.out.1
       obtain ⟨ad, ea, hx0, hx1, hx2, hx3⟩ := at_T36 HR.out x d0 d1
       cases ea
       replace hx0 := (HS.out.2.1.2.1.cell (World.block_lt_of_cell? w _ hx0)).trans hx0
       replace hx1 := (HS.out.2.1.2.1.cell (World.block_lt_of_cell? w _ hx1)).trans hx1
       replace hx2 := (HS.out.2.1.2.1.cell (World.block_lt_of_cell? w _ hx2)).trans hx2
       replace hx3 := (HS.out.2.1.2.1.cell (World.block_lt_of_cell? w _ hx3)).trans hx3
       have p1 := eq_true d0
       have q1 := eq_true d1
       have HD := Am (And.intro d0 (And.intro d1 (show x.toNat < l0_2.length by omega)))
       clear d0 d1
       generalize ha : (rd_T36 l0_2 x).f0 = a at hx0
       generalize hs : (rd_T36 l0_2 x).f1 = s at hx1
       generalize hm : (rd_T36 l0_2 x).f2 = m at hx2
       generalize hq : (rd_T36 l0_2 x).f3 = q at hx3
       have HAA := Am (And.intro ha (And.intro hs (And.intro hm hq)))
       clear ha hs hm hq
       have HOK := Am (show gOk l0_1 l0_2 x.toNat = (fits [a, m, q] && !decide (a ≤ lastG l0_2 x.toNat) && stOk l0_1 (l0_2.take x.toNat) s m) by
        unfold gOk
        rw [show ((x.toNat : Nat) : Int) = x by have := HA.out.1; omega, HAA.out.1, HAA.out.2.1, HAA.out.2.2.1, HAA.out.2.2.2])
       have HLA := Am (show lastG l0_2 (x.toNat + 1) = a by
        unfold lastG
        rw [if_neg (Nat.succ_ne_zero _), show (((x.toNat + 1 : Nat)) : Int) - 1 = x by have := HA.out.1; omega, HAA.out.1])
       have HSE := Am (show ∀ k, busyG (l0_2.take (x.toNat + 1)) k = if k.sameKey (.int .i64 m) then true else busyG (l0_2.take x.toNat) k by
        intro k
        rw [busyG_succ HD.out.2.2 k, show ((x.toNat : Nat) : Int) = x by have := HA.out.1; omega, HAA.out.2.2.1, sameKey_flip k m]
        cases (Lit.int .i64 m).sameKey k <;> simp)
       generalize lastG l0_2 x.toNat = la at HOK ⊢
       cases hf : fits [a, m, q] with
       | false =>
        have HF := Am hf
        have HC3 := Am (fun W g h => hf ▸ fit_lit3 W a m q g h)
        clear hf
        have HX := Am (gPre_false (ps := l0_1) (l := l0_2) (i := x.toNat) (by rw [HOK.out]; rw [HF.out]; rfl) l0_2.length HD.out.2.2)
        go_wp2_with (first | (go_at_call 25; (refine (HC3.out _ _ (alloc_size _ _)).mono ?_); rintro e w3 ⟨rfl, hb⟩; have BX3 := Am (blk_below (blk_new _ _) hb); have HM := Am (HS.out.below (below_step (bl (Below.refl _ _) _) hb)); clear hb; have h0 := (bc BX3.out 0).trans (show _ = some (Value.int .i64 a) from rfl); have h1 := (bc BX3.out 1).trans (show _ = some (Value.int .i64 s) from rfl); have h2 := (bc BX3.out 2).trans (show _ = some (Value.int .i64 m) from rfl)))
        go_ret
        exact ⟨by rw [HXX.out, HX.out]; rfl, HM.out.2.1.2.1⟩
       | true =>
        have HF := Am hf
        have HC3 := Am (fun W g h => hf ▸ fit_lit3 W a m q g h)
        have HW := Am (fits_wf hf (a := m) (by simp))
        clear hf
        by_cases b1 : a ≤ la
        ·
         have b1b : decide (a ≤ la) = true := decide_eq_true b1
         clear b1
         have HX := Am (gPre_false (ps := l0_1) (l := l0_2) (i := x.toNat) (by rw [HOK.out]; rw [b1b]; simp) l0_2.length HD.out.2.2)
         go_wp2_with (first | (go_at_call 25; (refine (HC3.out _ _ (alloc_size _ _)).mono ?_); rintro e w3 ⟨rfl, hb⟩; have BX3 := Am (blk_below (blk_new _ _) hb); have HM := Am (HS.out.below (below_step (bl (Below.refl _ _) _) hb)); clear hb; have h0 := (bc BX3.out 0).trans (show _ = some (Value.int .i64 a) from rfl); have h1 := (bc BX3.out 1).trans (show _ = some (Value.int .i64 s) from rfl); have h2 := (bc BX3.out 2).trans (show _ = some (Value.int .i64 m) from rfl)))
         go_ret
         exact ⟨by rw [HXX.out, HX.out]; rfl, HM.out.2.1.2.1⟩
        ·
         have b1b : decide (a ≤ la) = false := decide_eq_false b1
         clear b1
         rw [HF.out, b1b] at HOK
         replace HOK := Am (HOK.out.trans (show _ = stOk l0_1 (l0_2.take x.toNat) s m by rfl))
         by_cases s1 : s = 1
         ·
          subst s1
          by_cases b2 : m = 0
          ·
           have b2b : (m == 0) = true := beq_iff_eq.mpr b2
           have HST := Am (show stOk l0_1 (l0_2.take x.toNat) 1 m = true by unfold stOk; simp [b2])
           clear b2
           have HNX := Am (show gPre l0_1 l0_2 (x.toNat + 1) = true by
            unfold gPre
            rw [HA.out.2.2.2, HOK.out]
            rw [HST.out]; rfl)
           have HL := Am (show x.toNat < maxLen by have := HD.out; have := hml; unfold maxLen; omega)
           have HK := Am (key_int m HW.out.1)
           go_wp2_with (first | (go_at_call 25; (refine (HC3.out _ _ (alloc_size _ _)).mono ?_); rintro e w3 ⟨rfl, hb⟩; have BX3 := Am (blk_below (blk_new _ _) hb); have HM := Am (HS.out.below (below_step (bl (Below.refl _ _) _) hb)); clear hb; have h0 := (bc BX3.out 0).trans (show _ = some (Value.int .i64 a) from rfl); have h1 := (bc BX3.out 1).trans (show _ = some (Value.int .i64 (1)) from rfl); have h2 := (bc BX3.out 2).trans (show _ = some (Value.int .i64 m) from rfl)) | (at_mapUpdate; refine Go.Proofs.Ythfdhoegboeaeaa.MapB.wp_store _ rfl _ _ _ 52 rfl 3 4 (Go.Maps.int_keyed Try.underlying3) Try.underlying52 Try.underlying4 w2.heap.size x.toNat (busyG (l0_2.take x.toNat)) rfl HM.out.2.1.1 HL.out (.int .i64 m) (.int .i64 m) true rfl rfl HK.out trivial ?_; intro w5 hset hgrow; have HS' := Am ((HM.out.put hset hgrow).congr (fun k => (HSE.out k).symm)); clear hset hgrow))
           go_roundg k1
           case rel =>
            have e1 : wrap64 (x + 1) = x + 1 := nx_snap x l0_2.length HD.out.2.1 HA.out.1 hml
            have e2 : (x + 1).toNat = x.toNat + 1 := by have := HA.out.1; omega
            exact ⟨_, rfl, by rw [e1, e2, HLA.out], ⟨by have := HA.out; rw [e1]; omega, by have := HD.out; rw [e1]; omega, by have := HA.out; rw [e1]; omega, by rw [e1, e2]; exact HNX.out⟩, ⟨by rw [e1, e2]; exact HS'.out⟩⟩
           case measure => exact Nat.lt_succ_self _
          ·
           have b2b : (m == 0) = false := beq_eq_false_iff_ne.mpr b2
           have HST := Am (show stOk l0_1 (l0_2.take x.toNat) 1 m = false by unfold stOk; simp [b2])
           clear b2
           have HX := Am (gPre_false (ps := l0_1) (l := l0_2) (i := x.toNat) (by rw [HOK.out]; rw [HST.out]) l0_2.length HD.out.2.2)
           go_wp2_with (first | (go_at_call 25; (refine (HC3.out _ _ (alloc_size _ _)).mono ?_); rintro e w3 ⟨rfl, hb⟩; have BX3 := Am (blk_below (blk_new _ _) hb); have HM := Am (HS.out.below (below_step (bl (Below.refl _ _) _) hb)); clear hb; have h0 := (bc BX3.out 0).trans (show _ = some (Value.int .i64 a) from rfl); have h1 := (bc BX3.out 1).trans (show _ = some (Value.int .i64 (1)) from rfl); have h2 := (bc BX3.out 2).trans (show _ = some (Value.int .i64 m) from rfl)))
           go_ret
           exact ⟨by rw [HXX.out, HX.out]; rfl, HM.out.2.1.2.1⟩
         ·
          have s1b : (s == 1) = false := beq_eq_false_iff_ne.mpr s1
          by_cases s3 : s = 3
          ·
           subst s3
           by_cases b2 : m = 0
           ·
            have b2b : (m == 0) = true := beq_iff_eq.mpr b2
            have HST := Am (show stOk l0_1 (l0_2.take x.toNat) 3 m = true by unfold stOk; simp [b2])
            clear b2
            have HNX := Am (show gPre l0_1 l0_2 (x.toNat + 1) = true by
             unfold gPre
             rw [HA.out.2.2.2, HOK.out]
             rw [HST.out]; rfl)
            have HL := Am (show x.toNat < maxLen by have := HD.out; have := hml; unfold maxLen; omega)
            have HK := Am (key_int m HW.out.1)
            go_wp2_with (first | (go_at_call 25; (refine (HC3.out _ _ (alloc_size _ _)).mono ?_); rintro e w3 ⟨rfl, hb⟩; have BX3 := Am (blk_below (blk_new _ _) hb); have HM := Am (HS.out.below (below_step (bl (Below.refl _ _) _) hb)); clear hb; have h0 := (bc BX3.out 0).trans (show _ = some (Value.int .i64 a) from rfl); have h1 := (bc BX3.out 1).trans (show _ = some (Value.int .i64 (3)) from rfl); have h2 := (bc BX3.out 2).trans (show _ = some (Value.int .i64 m) from rfl)) | (at_mapUpdate; refine Go.Proofs.Ythfdhoegboeaeaa.MapB.wp_store _ rfl _ _ _ 52 rfl 3 4 (Go.Maps.int_keyed Try.underlying3) Try.underlying52 Try.underlying4 w2.heap.size x.toNat (busyG (l0_2.take x.toNat)) rfl HM.out.2.1.1 HL.out (.int .i64 m) (.int .i64 m) true rfl rfl HK.out trivial ?_; intro w5 hset hgrow; have HS' := Am ((HM.out.put hset hgrow).congr (fun k => (HSE.out k).symm)); clear hset hgrow))
            go_roundg k1
            case rel =>
             have e1 : wrap64 (x + 1) = x + 1 := nx_snap x l0_2.length HD.out.2.1 HA.out.1 hml
             have e2 : (x + 1).toNat = x.toNat + 1 := by have := HA.out.1; omega
             exact ⟨_, rfl, by rw [e1, e2, HLA.out], ⟨by have := HA.out; rw [e1]; omega, by have := HD.out; rw [e1]; omega, by have := HA.out; rw [e1]; omega, by rw [e1, e2]; exact HNX.out⟩, ⟨by rw [e1, e2]; exact HS'.out⟩⟩
            case measure => exact Nat.lt_succ_self _
           ·
            have b2b : (m == 0) = false := beq_eq_false_iff_ne.mpr b2
            have HST := Am (show stOk l0_1 (l0_2.take x.toNat) 3 m = false by unfold stOk; simp [b2])
            clear b2
            have HX := Am (gPre_false (ps := l0_1) (l := l0_2) (i := x.toNat) (by rw [HOK.out]; rw [HST.out]) l0_2.length HD.out.2.2)
            go_wp2_with (first | (go_at_call 25; (refine (HC3.out _ _ (alloc_size _ _)).mono ?_); rintro e w3 ⟨rfl, hb⟩; have BX3 := Am (blk_below (blk_new _ _) hb); have HM := Am (HS.out.below (below_step (bl (Below.refl _ _) _) hb)); clear hb; have h0 := (bc BX3.out 0).trans (show _ = some (Value.int .i64 a) from rfl); have h1 := (bc BX3.out 1).trans (show _ = some (Value.int .i64 (3)) from rfl); have h2 := (bc BX3.out 2).trans (show _ = some (Value.int .i64 m) from rfl)))
            go_ret
            exact ⟨by rw [HXX.out, HX.out]; rfl, HM.out.2.1.2.1⟩
          ·
           have s3b : (s == 3) = false := beq_eq_false_iff_ne.mpr s3
           by_cases s2 : s = 2
           ·
            subst s2
            by_cases b2 : 0 < m
            ·
             have b2b : decide (0 < m) = true := decide_eq_true b2
             clear b2
             cases hp0 : hasP l0_1 (.int .i64 m) with
             | false =>
              have HP0 := Am hp0
              have HST := Am (show stOk l0_1 (l0_2.take x.toNat) 2 m = false by unfold stOk; simp [hp0])
              clear hp0
              have HX := Am (gPre_false (ps := l0_1) (l := l0_2) (i := x.toNat) (by rw [HOK.out]; rw [HST.out]) l0_2.length HD.out.2.2)
              go_wp2_with (first | (go_at_call 25; (refine (HC3.out _ _ (alloc_size _ _)).mono ?_); rintro e w3 ⟨rfl, hb⟩; have BX3 := Am (blk_below (blk_new _ _) hb); have HM := Am (HS.out.below (below_step (bl (Below.refl _ _) _) hb)); clear hb; have h0 := (bc BX3.out 0).trans (show _ = some (Value.int .i64 a) from rfl); have h1 := (bc BX3.out 1).trans (show _ = some (Value.int .i64 (2)) from rfl); have h2 := (bc BX3.out 2).trans (show _ = some (Value.int .i64 m) from rfl); have hlk0 := HM.out.look0 m HW.out.1; have hlk1 := HM.out.look1 m HW.out.1; rw [HP0.out] at hlk0))
              go_ret
              exact ⟨by rw [HXX.out, HX.out]; rfl, HM.out.2.1.2.1⟩
             | true =>
              have HP0 := Am hp0
              cases hp2 : busyG (l0_2.take x.toNat) (.int .i64 m) with
              | true =>
               have HP2 := Am hp2
               have HST := Am (show stOk l0_1 (l0_2.take x.toNat) 2 m = false by unfold stOk; simp [hp0, hp2])
               clear hp0 hp2
               have HX := Am (gPre_false (ps := l0_1) (l := l0_2) (i := x.toNat) (by rw [HOK.out]; rw [HST.out]) l0_2.length HD.out.2.2)
               go_wp2_with (first | (go_at_call 25; (refine (HC3.out _ _ (alloc_size _ _)).mono ?_); rintro e w3 ⟨rfl, hb⟩; have BX3 := Am (blk_below (blk_new _ _) hb); have HM := Am (HS.out.below (below_step (bl (Below.refl _ _) _) hb)); clear hb; have h0 := (bc BX3.out 0).trans (show _ = some (Value.int .i64 a) from rfl); have h1 := (bc BX3.out 1).trans (show _ = some (Value.int .i64 (2)) from rfl); have h2 := (bc BX3.out 2).trans (show _ = some (Value.int .i64 m) from rfl); have hlk0 := HM.out.look0 m HW.out.1; have hlk1 := HM.out.look1 m HW.out.1; rw [HP0.out] at hlk0; rw [HP2.out] at hlk1))
               go_ret
               exact ⟨by rw [HXX.out, HX.out]; rfl, HM.out.2.1.2.1⟩
              | false =>
               have HP2 := Am hp2
               have HST := Am (show stOk l0_1 (l0_2.take x.toNat) 2 m = true by unfold stOk; simp [hp0, hp2, b2b])
               clear hp0 hp2
               have HNX := Am (show gPre l0_1 l0_2 (x.toNat + 1) = true by
                unfold gPre
                rw [HA.out.2.2.2, HOK.out]
                rw [HST.out]; rfl)
               have HL := Am (show x.toNat < maxLen by have := HD.out; have := hml; unfold maxLen; omega)
               have HK := Am (key_int m HW.out.1)
               go_wp2_with (first | (go_at_call 25; (refine (HC3.out _ _ (alloc_size _ _)).mono ?_); rintro e w3 ⟨rfl, hb⟩; have BX3 := Am (blk_below (blk_new _ _) hb); have HM := Am (HS.out.below (below_step (bl (Below.refl _ _) _) hb)); clear hb; have h0 := (bc BX3.out 0).trans (show _ = some (Value.int .i64 a) from rfl); have h1 := (bc BX3.out 1).trans (show _ = some (Value.int .i64 (2)) from rfl); have h2 := (bc BX3.out 2).trans (show _ = some (Value.int .i64 m) from rfl); have hlk0 := HM.out.look0 m HW.out.1; have hlk1 := HM.out.look1 m HW.out.1; rw [HP0.out] at hlk0; rw [HP2.out] at hlk1) | (at_mapUpdate; refine Go.Proofs.Ythfdhoegboeaeaa.MapB.wp_store _ rfl _ _ _ 52 rfl 3 4 (Go.Maps.int_keyed Try.underlying3) Try.underlying52 Try.underlying4 w2.heap.size x.toNat (busyG (l0_2.take x.toNat)) rfl HM.out.2.1.1 HL.out (.int .i64 m) (.int .i64 m) true rfl rfl HK.out trivial ?_; intro w5 hset hgrow; have HS' := Am ((HM.out.put hset hgrow).congr (fun k => (HSE.out k).symm)); clear hset hgrow))
               go_roundg k1
               case rel =>
                have e1 : wrap64 (x + 1) = x + 1 := nx_snap x l0_2.length HD.out.2.1 HA.out.1 hml
                have e2 : (x + 1).toNat = x.toNat + 1 := by have := HA.out.1; omega
                exact ⟨_, rfl, by rw [e1, e2, HLA.out], ⟨by have := HA.out; rw [e1]; omega, by have := HD.out; rw [e1]; omega, by have := HA.out; rw [e1]; omega, by rw [e1, e2]; exact HNX.out⟩, ⟨by rw [e1, e2]; exact HS'.out⟩⟩
               case measure => exact Nat.lt_succ_self _
            ·
             have b2b : decide (0 < m) = false := decide_eq_false b2
             have HST := Am (show stOk l0_1 (l0_2.take x.toNat) 2 m = false by unfold stOk; simp; omega)
             clear b2
             have HX := Am (gPre_false (ps := l0_1) (l := l0_2) (i := x.toNat) (by rw [HOK.out]; rw [HST.out]) l0_2.length HD.out.2.2)
             go_wp2_with (first | (go_at_call 25; (refine (HC3.out _ _ (alloc_size _ _)).mono ?_); rintro e w3 ⟨rfl, hb⟩; have BX3 := Am (blk_below (blk_new _ _) hb); have HM := Am (HS.out.below (below_step (bl (Below.refl _ _) _) hb)); clear hb; have h0 := (bc BX3.out 0).trans (show _ = some (Value.int .i64 a) from rfl); have h1 := (bc BX3.out 1).trans (show _ = some (Value.int .i64 (2)) from rfl); have h2 := (bc BX3.out 2).trans (show _ = some (Value.int .i64 m) from rfl)))
             go_ret
             exact ⟨by rw [HXX.out, HX.out]; rfl, HM.out.2.1.2.1⟩
           ·
            have s2b : (s == 2) = false := beq_eq_false_iff_ne.mpr s2
            by_cases s4 : s = 4
            ·
             subst s4
             by_cases b2 : 0 < m
             ·
              have b2b : decide (0 < m) = true := decide_eq_true b2
              clear b2
              cases hp0 : hasP l0_1 (.int .i64 m) with
              | true =>
               have HP0 := Am hp0
               have HST := Am (show stOk l0_1 (l0_2.take x.toNat) 4 m = false by unfold stOk; simp [hp0])
               clear hp0
               have HX := Am (gPre_false (ps := l0_1) (l := l0_2) (i := x.toNat) (by rw [HOK.out]; rw [HST.out]) l0_2.length HD.out.2.2)
               go_wp2_with (first | (go_at_call 25; (refine (HC3.out _ _ (alloc_size _ _)).mono ?_); rintro e w3 ⟨rfl, hb⟩; have BX3 := Am (blk_below (blk_new _ _) hb); have HM := Am (HS.out.below (below_step (bl (Below.refl _ _) _) hb)); clear hb; have h0 := (bc BX3.out 0).trans (show _ = some (Value.int .i64 a) from rfl); have h1 := (bc BX3.out 1).trans (show _ = some (Value.int .i64 (4)) from rfl); have h2 := (bc BX3.out 2).trans (show _ = some (Value.int .i64 m) from rfl); have hlk0 := HM.out.look0 m HW.out.1; have hlk1 := HM.out.look1 m HW.out.1; rw [HP0.out] at hlk0))
               go_ret
               exact ⟨by rw [HXX.out, HX.out]; rfl, HM.out.2.1.2.1⟩
              | false =>
               have HP0 := Am hp0
               cases hp2 : busyG (l0_2.take x.toNat) (.int .i64 m) with
               | true =>
                have HP2 := Am hp2
                have HST := Am (show stOk l0_1 (l0_2.take x.toNat) 4 m = false by unfold stOk; simp [hp0, hp2])
                clear hp0 hp2
                have HX := Am (gPre_false (ps := l0_1) (l := l0_2) (i := x.toNat) (by rw [HOK.out]; rw [HST.out]) l0_2.length HD.out.2.2)
                go_wp2_with (first | (go_at_call 25; (refine (HC3.out _ _ (alloc_size _ _)).mono ?_); rintro e w3 ⟨rfl, hb⟩; have BX3 := Am (blk_below (blk_new _ _) hb); have HM := Am (HS.out.below (below_step (bl (Below.refl _ _) _) hb)); clear hb; have h0 := (bc BX3.out 0).trans (show _ = some (Value.int .i64 a) from rfl); have h1 := (bc BX3.out 1).trans (show _ = some (Value.int .i64 (4)) from rfl); have h2 := (bc BX3.out 2).trans (show _ = some (Value.int .i64 m) from rfl); have hlk0 := HM.out.look0 m HW.out.1; have hlk1 := HM.out.look1 m HW.out.1; rw [HP0.out] at hlk0; rw [HP2.out] at hlk1))
                go_ret
                exact ⟨by rw [HXX.out, HX.out]; rfl, HM.out.2.1.2.1⟩
               | false =>
                have HP2 := Am hp2
                have HST := Am (show stOk l0_1 (l0_2.take x.toNat) 4 m = true by unfold stOk; simp [hp0, hp2, b2b])
                clear hp0 hp2
                have HNX := Am (show gPre l0_1 l0_2 (x.toNat + 1) = true by
                 unfold gPre
                 rw [HA.out.2.2.2, HOK.out]
                 rw [HST.out]; rfl)
                have HL := Am (show x.toNat < maxLen by have := HD.out; have := hml; unfold maxLen; omega)
                have HK := Am (key_int m HW.out.1)
                go_wp2_with (first | (go_at_call 25; (refine (HC3.out _ _ (alloc_size _ _)).mono ?_); rintro e w3 ⟨rfl, hb⟩; have BX3 := Am (blk_below (blk_new _ _) hb); have HM := Am (HS.out.below (below_step (bl (Below.refl _ _) _) hb)); clear hb; have h0 := (bc BX3.out 0).trans (show _ = some (Value.int .i64 a) from rfl); have h1 := (bc BX3.out 1).trans (show _ = some (Value.int .i64 (4)) from rfl); have h2 := (bc BX3.out 2).trans (show _ = some (Value.int .i64 m) from rfl); have hlk0 := HM.out.look0 m HW.out.1; have hlk1 := HM.out.look1 m HW.out.1; rw [HP0.out] at hlk0; rw [HP2.out] at hlk1) | (at_mapUpdate; refine Go.Proofs.Ythfdhoegboeaeaa.MapB.wp_store _ rfl _ _ _ 52 rfl 3 4 (Go.Maps.int_keyed Try.underlying3) Try.underlying52 Try.underlying4 w2.heap.size x.toNat (busyG (l0_2.take x.toNat)) rfl HM.out.2.1.1 HL.out (.int .i64 m) (.int .i64 m) true rfl rfl HK.out trivial ?_; intro w5 hset hgrow; have HS' := Am ((HM.out.put hset hgrow).congr (fun k => (HSE.out k).symm)); clear hset hgrow))
                go_roundg k1
                case rel =>
                 have e1 : wrap64 (x + 1) = x + 1 := nx_snap x l0_2.length HD.out.2.1 HA.out.1 hml
                 have e2 : (x + 1).toNat = x.toNat + 1 := by have := HA.out.1; omega
                 exact ⟨_, rfl, by rw [e1, e2, HLA.out], ⟨by have := HA.out; rw [e1]; omega, by have := HD.out; rw [e1]; omega, by have := HA.out; rw [e1]; omega, by rw [e1, e2]; exact HNX.out⟩, ⟨by rw [e1, e2]; exact HS'.out⟩⟩
                case measure => exact Nat.lt_succ_self _
             ·
              have b2b : decide (0 < m) = false := decide_eq_false b2
              have HST := Am (show stOk l0_1 (l0_2.take x.toNat) 4 m = false by unfold stOk; simp; omega)
              clear b2
              have HX := Am (gPre_false (ps := l0_1) (l := l0_2) (i := x.toNat) (by rw [HOK.out]; rw [HST.out]) l0_2.length HD.out.2.2)
              go_wp2_with (first | (go_at_call 25; (refine (HC3.out _ _ (alloc_size _ _)).mono ?_); rintro e w3 ⟨rfl, hb⟩; have BX3 := Am (blk_below (blk_new _ _) hb); have HM := Am (HS.out.below (below_step (bl (Below.refl _ _) _) hb)); clear hb; have h0 := (bc BX3.out 0).trans (show _ = some (Value.int .i64 a) from rfl); have h1 := (bc BX3.out 1).trans (show _ = some (Value.int .i64 (4)) from rfl); have h2 := (bc BX3.out 2).trans (show _ = some (Value.int .i64 m) from rfl)))
              go_ret
              exact ⟨by rw [HXX.out, HX.out]; rfl, HM.out.2.1.2.1⟩
            ·
             have s4b : (s == 4) = false := beq_eq_false_iff_ne.mpr s4
             have HST := Am (show stOk l0_1 (l0_2.take x.toNat) s m = false by unfold stOk; simp [s1, s2, s3, s4])
             clear s1 s2 s3 s4
             have HX := Am (gPre_false (ps := l0_1) (l := l0_2) (i := x.toNat) (by rw [HOK.out]; rw [HST.out]) l0_2.length HD.out.2.2)
             go_wp2_with (first | (go_at_call 25; (refine (HC3.out _ _ (alloc_size _ _)).mono ?_); rintro e w3 ⟨rfl, hb⟩; have BX3 := Am (blk_below (blk_new _ _) hb); have HM := Am (HS.out.below (below_step (bl (Below.refl _ _) _) hb)); clear hb; have h0 := (bc BX3.out 0).trans (show _ = some (Value.int .i64 a) from rfl); have h1 := (bc BX3.out 1).trans (show _ = some (Value.int .i64 s) from rfl); have h2 := (bc BX3.out 2).trans (show _ = some (Value.int .i64 m) from rfl)))
             go_ret
             exact ⟨by rw [HXX.out, HX.out]; rfl, HM.out.2.1.2.1⟩
      ·
       have d1b : decide (x < (l0_2.length : Int)) = false := decide_eq_false d1
       have HX := Am d1
       clear d1
       go_wp2
       go_ret
       have e0 : x.toNat = l0_2.length := by have := HX.out; have := HA.out.2.1; omega
       have e1 : gPre l0_1 l0_2 l0_2.length = true := by
        have := HA.out.2.2.2
        rwa [e0] at this
       exact ⟨by rw [HXX.out, e1]; rfl, HS.out.2.1.2.1⟩

/-- A state of type 71 at block g of W; what its slices lead to came in by w0. -/
def IsS71 (w0 W : World) (g : Nat) (f0 : ByteArray) (f1 : Int) (f2 : Int) (f3 : Int) : Prop := W.heap[g]? = some (.cells #[.string f0, .int .i64 f1, .int .i64 f2, .int .i64 f3] 71 (0, 0)) ∧ w0.heap.size ≤ g
theorem IsS71.grown {w0 W : World} {g : Nat} {f0 : ByteArray} {f1 : Int} {f2 : Int} {f3 : Int} {W1 : World} {row : Option Nat} (h : IsS71 w0 W g f0 f1 f2 f3) (hw : W.grownBy W1 row) (hne : some g ≠ row) : IsS71 w0 W1 g f0 f1 f2 f3 := by
 obtain ⟨hb, hg⟩ := h
 exact ⟨blk_grown hb hw hne, hg⟩
theorem IsS71.own_neN {w0 W : World} {g : Nat} {f0 : ByteArray} {f1 : Int} {f2 : Int} {f3 : Int} {α : Type} {d : Kd α} {e : Nat} {base : Nat} {ok : Nat → Prop} {v : Value} {xs : List α} (h : IsS71 w0 W g f0 f1 f2 f3) (ho : Kd.N d e W base ok v xs) (ht : e ≠ 71) : some g ≠ v.ownBlock := by
 obtain ⟨hb, hg⟩ := h
 exact Kd.N_ne ho hb ht
theorem IsS71.fresh {w0 W : World} {g : Nat} {f0 : ByteArray} {f1 : Int} {f2 : Int} {f3 : Int} (h : IsS71 w0 W g f0 f1 f2 f3) : ∀ k, W.heap.size ≤ k → k ≠ g := by
 obtain ⟨hb, hg⟩ := h
 exact Kd.freshB hb
theorem IsS71.kept {w0 W : World} {g : Nat} {f0 : ByteArray} {f1 : Int} {f2 : Int} {f3 : Int} {W1 : World} {S : Nat → Prop} (h : IsS71 w0 W g f0 f1 f2 f3) (hk : Kept W W1 S) (hne : ¬ S g) : IsS71 w0 W1 g f0 f1 f2 f3 := by
 obtain ⟨hb, hg⟩ := h
 exact ⟨blk_kept hb hk hne, hg⟩
theorem IsS71.below {w0 W : World} {g : Nat} {f0 : ByteArray} {f1 : Int} {f2 : Int} {f3 : Int} {W1 : World} (h : IsS71 w0 W g f0 f1 f2 f3) (hw : Below W.heap.size W W1) : IsS71 w0 W1 g f0 f1 f2 f3 := h.grown (grown_of_below hw none) (by simp)
theorem IsS71.alloc {w0 W : World} {g : Nat} {f0 : ByteArray} {f1 : Int} {f2 : Int} {f3 : Int} (h : IsS71 w0 W g f0 f1 f2 f3) (o : Obj) : IsS71 w0 (W.alloc o) g f0 f1 f2 f3 := h.below (bl (Below.refl _ _) o)
theorem IsS71.drewN {w0 W : World} {g : Nat} {f0 : ByteArray} {f1 : Int} {f2 : Int} {f3 : Int} (h : IsS71 w0 W g f0 f1 f2 f3) (m : Nat) : IsS71 w0 (W.drewN m) g f0 f1 f2 f3 := h
theorem IsS71.drew {w0 W : World} {g : Nat} {f0 : ByteArray} {f1 : Int} {f2 : Int} {f3 : Int} (h : IsS71 w0 W g f0 f1 f2 f3) : IsS71 w0 W.drew g f0 f1 f2 f3 := h
theorem IsS71.at_ {w0 W : World} {g : Nat} {f0 : ByteArray} {f1 : Int} {f2 : Int} {f3 : Int} {w' : World} {m : Nat} (hq : W.drewN m = w') (h : IsS71 w0 W g f0 f1 f2 f3) : IsS71 w0 w' g f0 f1 f2 f3 := by subst hq; exact IsS71.drewN h m
theorem IsS71.apart {w0 W : World} {g : Nat} {f0 : ByteArray} {f1 : Int} {f2 : Int} {f3 : Int} {α : Type} {d : Kd α} {e : Nat} {base : Nat} {ok : Nat → Prop} {v : Value} {xs : List α} (h : IsS71 w0 W g f0 f1 f2 f3) (ho : d.R e W base ok v xs) (ht : ∀ q, q ∈ e :: d.E → q ≠ 71) : d.R e W base (fun k => ok k ∧ k ≠ g) v xs := by
 obtain ⟨hb, hg⟩ := h
 exact Kd.R_types ho hb ht
theorem IsS71.own_ne {w0 W : World} {g : Nat} {f0 : ByteArray} {f1 : Int} {f2 : Int} {f3 : Int} {α : Type} {d : Kd α} {e : Nat} {base : Nat} {ok : Nat → Prop} {v : Value} {xs : List α} (h : IsS71 w0 W g f0 f1 f2 f3) (ho : d.R e W base ok v xs) (ht : e ≠ 71) : some g ≠ v.ownBlock := by
 obtain ⟨hb, hg⟩ := h
 exact Kd.R_ne ho hb ht
theorem IsS71.apartQ {w0 W : World} {g : Nat} {f0 : ByteArray} {f1 : Int} {f2 : Int} {f3 : Int} {α : Type} {d : Kd α} {e : Nat} {base : Nat} {ok : Nat → Prop} {v : Value} {xs : List α} (h : IsS71 w0 W g f0 f1 f2 f3) (ho : d.Q e W base ok v xs) (ht : ∀ q, q ∈ e :: d.E → q ≠ 71) : d.Q e W base (fun k => ok k ∧ k ≠ g) v xs := by
 obtain ⟨hb, hg⟩ := h
 exact Kd.Q_types ho hb ht
theorem IsS71.own_neQ {w0 W : World} {g : Nat} {f0 : ByteArray} {f1 : Int} {f2 : Int} {f3 : Int} {α : Type} {d : Kd α} {e : Nat} {base : Nat} {ok : Nat → Prop} {v : Value} {xs : List α} (h : IsS71 w0 W g f0 f1 f2 f3) (ho : d.Q e W base ok v xs) (ht : e ≠ 71) : some g ≠ v.ownBlock := by
 obtain ⟨hb, hg⟩ := h
 exact Kd.Q_ne ho hb ht
theorem IsS71.apartS {w0 W : World} {g : Nat} {f0 : ByteArray} {f1 : Int} {f2 : Int} {f3 : Int} {α : Type} {d : Kd α} {e : Nat} {base : Nat} {ok : Nat → Prop} {v : Value} {xs : List α} (h : IsS71 w0 W g f0 f1 f2 f3) (ho : d.S e W base ok v xs) (ht : ∀ q, q ∈ e :: d.E → q ≠ 71) : d.S e W base (fun k => ok k ∧ k ≠ g) v xs := by
 obtain ⟨hb, hg⟩ := h
 exact Kd.S_types ho hb ht
theorem IsS71.own_neS {w0 W : World} {g : Nat} {f0 : ByteArray} {f1 : Int} {f2 : Int} {f3 : Int} {α : Type} {d : Kd α} {e : Nat} {base : Nat} {ok : Nat → Prop} {v : Value} {xs : List α} (h : IsS71 w0 W g f0 f1 f2 f3) (ho : d.S e W base ok v xs) (ht : e ≠ 71) : some g ≠ v.ownBlock := by
 obtain ⟨hb, hg⟩ := h
 exact Kd.S_ne ho hb ht
theorem IsS71.lt {w0 W : World} {g : Nat} {f0 : ByteArray} {f1 : Int} {f2 : Int} {f3 : Int} (h : IsS71 w0 W g f0 f1 f2 f3) : g < W.heap.size := by
 obtain ⟨hb, hg⟩ := h
 exact blk_lt hb
theorem IsS71.ge {w0 W : World} {g : Nat} {f0 : ByteArray} {f1 : Int} {f2 : Int} {f3 : Int} (h : IsS71 w0 W g f0 f1 f2 f3) : w0.heap.size ≤ g := by
 obtain ⟨hb, hg⟩ := h
 exact hg
theorem IsS71.ne_blk {w0 W : World} {g : Nat} {f0 : ByteArray} {f1 : Int} {f2 : Int} {f3 : Int} {a : Nat} {cs : Array Value} {t : TypeId} {fr : Nat × Nat} (h : IsS71 w0 W g f0 f1 f2 f3) (hb2 : W.heap[a]? = some (.cells cs t fr)) (ht : t ≠ 71) : g ≠ a := by
 obtain ⟨hb, hg⟩ := h
 rintro rfl
 rw [hb] at hb2
 injection hb2 with hb2
 injection hb2 with _ ht2
 exact ht ht2.symm
theorem IsS71.far {w0 W : World} {g : Nat} {f0 : ByteArray} {f1 : Int} {f2 : Int} {f3 : Int} {p : Addr} (h : IsS71 w0 W g f0 f1 f2 f3) (hne : g ≠ p.block) (u : Value) : IsS71 w0 (W.setCell p u) g f0 f1 f2 f3 := by
 obtain ⟨hb, hg⟩ := h
 exact ⟨blk_far hb hne u, hg⟩
theorem cellS71_0 {W : World} {g : Nat} {f0 : ByteArray} {f1 : Int} {f2 : Int} {f3 : Int} (h : W.heap[g]? = some (.cells #[.string f0, .int .i64 f1, .int .i64 f2, .int .i64 f3] 71 (0, 0))) : W.cell? ⟨g, 0, none⟩ = some (.string f0) := (bc h 0).trans rfl
theorem IsS71.set_0 {w0 W : World} {g : Nat} {f0 : ByteArray} {f1 : Int} {f2 : Int} {f3 : Int} (h : IsS71 w0 W g f0 f1 f2 f3) (x : ByteArray) : IsS71 w0 (W.setCell ⟨g, 0, none⟩ (.string x)) g x f1 f2 f3 := by
 obtain ⟨hb, hg⟩ := h
 exact ⟨by simpa using blk_set hb 0 (.string x), hg⟩
theorem cellS71_1 {W : World} {g : Nat} {f0 : ByteArray} {f1 : Int} {f2 : Int} {f3 : Int} (h : W.heap[g]? = some (.cells #[.string f0, .int .i64 f1, .int .i64 f2, .int .i64 f3] 71 (0, 0))) : W.cell? ⟨g, 1, none⟩ = some (.int .i64 f1) := (bc h 1).trans rfl
theorem IsS71.set_1 {w0 W : World} {g : Nat} {f0 : ByteArray} {f1 : Int} {f2 : Int} {f3 : Int} (h : IsS71 w0 W g f0 f1 f2 f3) (x : Int) : IsS71 w0 (W.setCell ⟨g, 1, none⟩ (.int .i64 x)) g f0 x f2 f3 := by
 obtain ⟨hb, hg⟩ := h
 exact ⟨by simpa using blk_set hb 1 (.int .i64 x), hg⟩
theorem cellS71_2 {W : World} {g : Nat} {f0 : ByteArray} {f1 : Int} {f2 : Int} {f3 : Int} (h : W.heap[g]? = some (.cells #[.string f0, .int .i64 f1, .int .i64 f2, .int .i64 f3] 71 (0, 0))) : W.cell? ⟨g, 2, none⟩ = some (.int .i64 f2) := (bc h 2).trans rfl
theorem IsS71.set_2 {w0 W : World} {g : Nat} {f0 : ByteArray} {f1 : Int} {f2 : Int} {f3 : Int} (h : IsS71 w0 W g f0 f1 f2 f3) (x : Int) : IsS71 w0 (W.setCell ⟨g, 2, none⟩ (.int .i64 x)) g f0 f1 x f3 := by
 obtain ⟨hb, hg⟩ := h
 exact ⟨by simpa using blk_set hb 2 (.int .i64 x), hg⟩
theorem cellS71_3 {W : World} {g : Nat} {f0 : ByteArray} {f1 : Int} {f2 : Int} {f3 : Int} (h : W.heap[g]? = some (.cells #[.string f0, .int .i64 f1, .int .i64 f2, .int .i64 f3] 71 (0, 0))) : W.cell? ⟨g, 3, none⟩ = some (.int .i64 f3) := (bc h 3).trans rfl
theorem IsS71.set_3 {w0 W : World} {g : Nat} {f0 : ByteArray} {f1 : Int} {f2 : Int} {f3 : Int} (h : IsS71 w0 W g f0 f1 f2 f3) (x : Int) : IsS71 w0 (W.setCell ⟨g, 3, none⟩ (.int .i64 x)) g f0 f1 f2 x := by
 obtain ⟨hb, hg⟩ := h
 exact ⟨by simpa using blk_set hb 3 (.int .i64 x), hg⟩
theorem IsS71.new (w0 W : World) (f0 : ByteArray) (f1 : Int) (f2 : Int) (f3 : Int) (hB : Below w0.heap.size w0 W) : IsS71 w0 (W.alloc (.cells #[.string f0, .int .i64 f1, .int .i64 f2, .int .i64 f3] 71)) W.heap.size f0 f1 f2 f3 := ⟨by simpa using heap_alloc_new W _, hB.size⟩

/-! ### wire_New: function 19 -/
def wire_New.f (a0 : ByteArray) : Option (ByteArray × Int × Int × Int) := some (a0, 0, 0, 0)
set_option maxHeartbeats 8000000 in
set_option maxRecDepth 100000 in
theorem wire_New.calls (a0 : ByteArray) (r1 : ByteArray) (r2 : Int) (r3 : Int) (r4 : Int) (w0 w : World) (hB : Below w0.heap.size w0 w) (h : wire_New.f a0 = some (r1, r2, r3, r4)) :
  Calls Try.prog 19 #[.string a0] w fun e w' => ∃ g_ : Nat, e = .returned (.pointer (some ⟨g_, 0, none⟩)) ∧ IsS71 w0 w' g_ r1 r2 r3 r4 ∧ Below w0.heap.size w0 w' ∧ Below w.heap.size w w' := by
 have hu71 := Try.underlying71
 have HBW := Am (Below.refl w.heap.size w)
 have HW0 := Am hB.size
 have HB := Am hB
 clear hB
 have H : (some (a0, 0, 0, 0)) = some (r1, r2, r3, r4) := h
 clear h
 simp only [Option.some.injEq, Prod.mk.injEq] at H
 obtain ⟨rfl, rfl, rfl, rfl⟩ := H
 go_enter Try.func19, Try.ntmps19
 go_wp2_with (first | ((with_reducible refine gate_dst (N := 5) rfl ?_); refine box_event ?hg (N := 5) ?hd (cs := #[.string a0, .int .i64 0, .int .i64 0, .int .i64 0]) (t := 71) ?hr ?_; (case hd => rfl); (case hg => rfl); (case hr => first | (go_simp; done) | (go_simp; rfl)); intro gb102 hg w2 hbox hb; have n0_ := Am (below_step HBW.out hb); have n1_ := Am (below_step (by repeat (first | (with_reducible first | exact HB.out | apply bl | apply pN | apply b1) | exact HB.out | exact HBo.out)) hb); have n2_ := Am (hbox); have n3_ := Am ((by rw [hg]; exact (below_size (by repeat (first | (with_reducible first | exact HBW.out | apply bl | apply pN | apply b1) | exact HBW.out))) : w.heap.size ≤ gb102)); have n4_ := Am ((Nat.le_trans HW0.out (by rw [hg]; exact (below_size (by repeat (first | (with_reducible first | exact HBW.out | apply bl | apply pN | apply b1) | exact HBW.out))) : w.heap.size ≤ gb102) : w0.heap.size ≤ gb102)); clear HBW; clear HB; have HBW := n0_; have HB := n1_; have BK102 := n2_; have GW102 := n3_; have GE102 := n4_; clear n0_ n1_ n2_ n3_ n4_; clear hb hbox hg))
 go_ret
 exact ⟨_, rfl, (show IsS71 w0 _ gb102 a0 0 0 0 from ⟨by (with_reducible repeat (first | refine bn ?_ _ | refine bd ?_ | refine ba ?_ _)); exact BK102.out, GE102.out⟩), by repeat (first | (with_reducible first | exact HB.out | apply bl | apply pN | apply b1 | refine bs ?_ GE102.out) | exact HB.out | exact HBo.out), by repeat (first | (with_reducible first | exact HBW.out | apply bl | apply pN | apply b1 | refine bs ?_ GW102.out) | exact HBW.out)⟩

/-! ### wire_Reader_ok: function 32 -/
def wire_Reader_ok.f (s0_0 : ByteArray) (s0_1 : Int) (s0_2 : Int) (s0_3 : Int) : Option (Bool × ByteArray × Int × Int × Int) := some ((s0_2 == 0), s0_0, s0_1, s0_2, s0_3)
set_option maxHeartbeats 8000000 in
set_option maxRecDepth 100000 in
theorem wire_Reader_ok.calls (g : Nat) (s0_0 : ByteArray) (s0_1 : Int) (s0_2 : Int) (s0_3 : Int) (r1 : Bool) (r2 : ByteArray) (r3 : Int) (r4 : Int) (r5 : Int) (w0 w : World) (hI : IsS71 w0 w g s0_0 s0_1 s0_2 s0_3) (hB : Below w0.heap.size w0 w) (h : wire_Reader_ok.f s0_0 s0_1 s0_2 s0_3 = some (r1, r2, r3, r4, r5)) :
  Calls Try.prog 32 #[.pointer (some ⟨g, 0, none⟩)] w fun e w' => e = .returned (.bool r1) ∧ IsS71 w0 w' g r2 r3 r4 r5 ∧ Below w0.heap.size w0 w' ∧ KeepBut w w' g none := by
 have HI0 := Am hI
 have HK := Am (KeepBut.refl w g none)
 have HL := Am hB.size
 clear hI
 have HW0 := Am hB.size
 have HB := Am hB
 clear hB
 have H : (some ((s0_2 == 0), s0_0, s0_1, s0_2, s0_3)) = some (r1, r2, r3, r4, r5) := h
 clear h
 simp only [Option.some.injEq, Prod.mk.injEq] at H
 obtain ⟨rfl, rfl, rfl, rfl, rfl⟩ := H
 obtain ⟨HGz2, hgz2⟩ := HI0.out
 have hcz2_0 := cellS71_0 HGz2
 have hcz2_1 := cellS71_1 HGz2
 have hcz2_2 := cellS71_2 HGz2
 have hcz2_3 := cellS71_3 HGz2
 have hfz2_0 := bf HGz2 0
 have hfz2_1 := bf HGz2 1
 have hfz2_2 := bf HGz2 2
 have hfz2_3 := bf HGz2 3
 clear HGz2 hgz2
 go_enter Try.func32, Try.ntmps32
 go_wp2
 go_ret
 exact ⟨by first | rfl | (simp [errW_none, errW_some] <;> rfl) | (simp [*, errW_none, errW_some] <;> rfl) | (simp [Aid.ne_nil, Aid.eq_nil, errW_none, errW_some]; done), by repeat (first | (with_reducible first | exact HI0.out | apply IsS71.alloc | apply IsS71.drewN | apply IsS71.drew | apply IsS71.set_0 | apply IsS71.set_1 | apply IsS71.set_2 | apply IsS71.set_3) | exact HI0.out), by repeat (first | (with_reducible first | exact HB.out | apply bl | apply pN | apply b1 | refine bs ?_ (IsS71.ge HI0.out)) | exact HB.out | exact HBo.out), by repeat (first | (with_reducible first | exact HK.out | apply KeepBut.set_ | apply keep_drewN | apply keep_drew | apply keep_alloc) | exact HK.out)⟩

end Go.Proofs.Ythfdhoegboeaeaa.Q
