/- Names of kinds, over the library's own text of numbers (strconv.Itoa, strconv.Atoi, strings.CutPrefix by the shelf's contracts). For every program whose kinds are these, where the library's tables stand. -/
import Derived.Test.YthhohplddgklgaaDoorKind
import Derived.Test.YthhohplddgklgaaDoorShelf
import Derived.Lib.ItoaLen
import Derived.Lib.AppendIntMem
set_option linter.unusedVariables false
set_option linter.unusedSimpArgs false
namespace Go.Proofs.YthhohplddgklgaaDoor.Kind
open Go Go.RowKit Go.Maps Go.WideShapes Go.Proofs.YthhohplddgklgaaDoorW.PrintWords Go.Proofs.YthhohplddgklgaaDoorW.PrintLast Go.Proofs.YthhohplddgklgaaDoorW.PrintMore
/-- An error's variable. -/
def IsErr (w : World) (g : Nat) : Prop := ∃ ev, w.cell? ⟨g, 0, none⟩ = some ev ∧ (ev = .nilIface ∨ ∃ te pe, ev = .iface te pe)
/-- What the library's variables hold. -/
def Vars (w : World) : Prop := Lib.TabIs Tryd.prog w "internal/strconv.uint64pow10" .u64 Lib.pow10Tab ∧ IsErr w 0 ∧ IsErr w 1
theorem tab_below {P : Program} {w w' : World} {nm : String} {k : IntKind} {zs : List Int} (h : Lib.TabIs P w nm k zs) (hb : Below w.heap.size w w') : Lib.TabIs P w' nm k zs := by
  unfold Lib.TabIs World.var? at *
  cases hg : P.globalNamed nm with
  | none => rw [hg] at h; cases h
  | some g =>
    rw [hg] at h
    simp only [Option.bind_some] at h ⊢
    cases ho : w.heap[g]? with
    | none => rw [ho] at h; cases h
    | some o =>
      rw [blk_below ho hb]
      rw [ho] at h
      exact h
theorem err_below {w w' : World} {g : Nat} (h : IsErr w g) (hb : Below w.heap.size w w') : IsErr w' g := by
  obtain ⟨ev, hc, he⟩ := h
  exact ⟨ev, (hb.cell (World.block_lt_of_cell? w _ hc)).trans hc, he⟩
theorem Vars.below {w w' : World} (h : Vars w) (hb : Below w.heap.size w w') : Vars w' := ⟨tab_below h.1 hb, err_below h.2.1 hb, err_below h.2.2 hb⟩
theorem wfb {k : Int} (h : (Lit.int .i64 k).wf = true) : -9223372036854775808 ≤ k ∧ k ≤ 9223372036854775807 := by
  simp only [Lit.wf, Bool.and_eq_true, decide_eq_true_eq] at h
  exact h
def expB (k : Int) : Bool := decide (128 ≤ k) && decide (k < 256)
def txt (l : List UInt8) : ByteArray := ⟨l.toArray⟩
theorem nameB_none {k : Int} (h : knownB k = false) : nameB k = (⟨#[]⟩ : ByteArray) := by
  have h2 := of_decide_eq_false h
  unfold nameB
  (repeat (rw [if_neg (by omega)]))
/-- A kind's name. -/
def nameF (k : Int) : ByteArray := if knownB k = true then nameB k else if expB k = true then (⟨#[101, 120, 112]⟩ : ByteArray) ++ txt (Lib.itoa k) else (⟨#[]⟩ : ByteArray)
theorem exp_calls (k : Int) (w : World) : Calls Tryd.prog 15 #[.int .i64 k] w fun e w' => e = .returned (.bool (expB k)) ∧ w' = w := by
  unfold expB
  by_cases h1 : 128 ≤ k
  · have h1b : decide (128 ≤ k) = true := decide_eq_true h1
    clear h1
    go_enter Tryd.func15, Tryd.ntmps15
    go_wp2
    go_ret
    exact ⟨by simp [h1b], rfl⟩
  · have h1b : decide (128 ≤ k) = false := decide_eq_false h1
    clear h1
    go_enter Tryd.func15, Tryd.ntmps15
    go_wp2
    go_ret
    exact ⟨by simp [h1b], rfl⟩
set_option maxRecDepth 100000 in
set_option maxHeartbeats 3200000 in
theorem mname_calls (w0 : World) (b : Nat) (n k : Int) (w : World) (h : KNew w b n ∨ KDone w0.heap.size w b n) (hb0 : w0.heap.size ≤ b) (hlt : b < w.heap.size) (hB : Below w0.heap.size w0 w) (hV : Vars w0) (hwf : (Lit.int .i64 k).wf = true) :
    Calls Tryd.prog 26 #[.pointer (some ⟨b, 0, none⟩), .int .i64 k] w fun e w' => e = .returned (.string (nameF k)) ∧ KDone w0.heap.size w' b n ∧ w.grownBy w' (some b) := by
  have HG := Aside0.mk (get_calls w0.heap.size b n k w h hB.size hlt hwf)
  have HV := Aside0.mk hV
  have HB := Aside0.mk hB
  have HB0 := Aside0.mk hb0
  have HW := Aside0.mk (wfb hwf)
  clear h hV hB hb0 hwf
  unfold nameF
  cases hk : knownB k with
  | true =>
    go_enter Tryd.func26, Tryd.ntmps26
    go_wp2_with (first | (go_at_call 24; refine HG.out.mono ?_; rintro e w1 ⟨v, rfl, hsp, hd, hg⟩; obtain ⟨A, rfl, hA⟩ := hsp; rw [hk]; have HD := Aside0.mk hd; have HGR := Aside0.mk hg; clear hd hg hA))
    go_ret
    all_goals exact ⟨rfl, HD.out.alloc _, grown_trans HGR.out (grown_of_below (below_alloc (Below.refl _ _) _) _)⟩
  | false =>
    cases he : expB k with
    | true =>
      have HIT := Aside0.mk (fun (W : World) (hW : Below w0.heap.size w0 W) => Tryd.strconv_Itoa k HW.out.1 HW.out.2 W (HV.out.below hW).1)
      have hsz : (Lib.itoa k).length ≤ 100 := Nat.le_trans (Lib.itoa_length_le k HW.out.1 HW.out.2) (by decide)
      generalize hl : Lib.itoa k = l at HIT hsz ⊢
      have hcat : (9223372036854775807 < 3 + l.length) = False := eq_false (by omega)
      go_enter Tryd.func26, Tryd.ntmps26
      go_wp2_with (first | (go_at_call 24; refine HG.out.mono ?_; rintro e w1 ⟨v, rfl, hsp, hd, hg⟩; obtain ⟨A, rfl, hA⟩ := hsp; rw [hk]; have HD := Aside0.mk hd; have HGR := Aside0.mk hg; clear hd hg hA) | (go_at_call 15; refine (exp_calls k _).mono ?_; rintro e w2 ⟨rfl, rfl⟩; rw [he]) | (go_at_call 29; refine (HIT.out _ (HB.out.trans (below_of (grown_trans HGR.out (grown_of_below (below_alloc (Below.refl _ _) _) _)) HB0.out HB.out.size))).mono ?_; rintro e w3 ⟨rfl, kk, os, rfl⟩))
      all_goals (go_ret; exact ⟨rfl, (HD.out.alloc _).below (Lib.below_grow _ _ (Nat.le_refl _) _ _), grown_trans (grown_trans HGR.out (grown_of_below (below_alloc (Below.refl _ _) _) _)) (grown_of_below (Lib.below_grow _ _ (Nat.le_refl _) _ _) _)⟩)
    | false =>
      go_enter Tryd.func26, Tryd.ntmps26
      go_wp2_with (first | (go_at_call 24; refine HG.out.mono ?_; rintro e w1 ⟨v, rfl, hsp, hd, hg⟩; obtain ⟨A, rfl, hA⟩ := hsp; rw [hk]; have HD := Aside0.mk hd; have HGR := Aside0.mk hg; clear hd hg hA) | (go_at_call 15; refine (exp_calls k _).mono ?_; rintro e w2 ⟨rfl, rfl⟩; rw [he]))
      all_goals (go_ret; exact ⟨by rw [nameB_none hk]; rfl, HD.out.alloc _, grown_trans HGR.out (grown_of_below (below_alloc (Below.refl _ _) _) _)⟩)
theorem KDone.lt {base : Nat} {w : World} {b : Nat} {n : Int} (h : KDone base w b n) : b < w.heap.size := by
  obtain ⟨mb, hb, _⟩ := h
  exact blk_lt hb
theorem KNew.lt {w : World} {b : Nat} {n : Int} (h : KNew w b n) : b < w.heap.size := blk_lt h
theorem Or.klt {base : Nat} {w : World} {b : Nat} {n : Int} (h : KNew w b n ∨ KDone base w b n) : b < w.heap.size := h.elim KNew.lt KDone.lt
set_option maxRecDepth 100000 in
set_option maxHeartbeats 3200000 in
/-- (*Kinds).Name, of a table. -/
theorem pname_calls (w0 : World) (b : Nat) (n k : Int) (w : World) (h : KNew w b n ∨ KDone w0.heap.size w b n) (hb0 : w0.heap.size ≤ b) (hB : Below w0.heap.size w0 w) (hV : Vars w0) (hwf : (Lit.int .i64 k).wf = true) :
    Calls Tryd.prog 21 #[.pointer (some ⟨b, 0, none⟩), .int .i64 k] w fun e w' => e = .returned (.string (nameF k)) ∧ KDone w0.heap.size w' b (nx n) ∧ w.grownBy w' (some b) := by
  go_enter Tryd.func21, Tryd.ntmps21
  go_wp2_with (first | (go_at_call 30; refine (add_calls w0.heap.size b n w h).mono ?_; rintro e w1 ⟨rfl, h1, hg1, hs1⟩) | (go_at_call 26; refine (mname_calls w0 b (nx n) k _ h1 hb0 (Or.klt h1) (hB.trans (below_of hg1 hb0 hB.size)) hV hwf).mono ?_; rintro e w2 ⟨rfl, hd, hg2⟩))
  go_ret
  exact ⟨rfl, hd, grown_trans hg1 hg2⟩
/-- (*Kinds).Asked, of a table. -/
theorem asked_calls (base b : Nat) (n : Int) (w : World) (h : KNew w b n ∨ KDone base w b n) :
    Calls Tryd.prog 22 #[.pointer (some ⟨b, 0, none⟩)] w fun e w' => e = .returned (.int .i64 (nx n)) ∧ (KNew w' b (nx n) ∨ KDone base w' b (nx n)) ∧ w.grownBy w' (some b) := by
  go_enter Tryd.func22, Tryd.ntmps22
  go_wp2_with (first | (go_at_call 30; refine (add_calls base b n w h).mono ?_; rintro e w1 ⟨rfl, h1, hg1, hs1⟩))
  go_ret
  exact ⟨rfl, h1, hg1⟩
/-! ### of no table -/
theorem none_known (k : Int) (w : World) : Calls Tryd.prog 20 #[.pointer none, .int .i64 k] w fun e w' => e = .returned (.bool false) ∧ w' = w := by
  go_enter Tryd.func20, Tryd.ntmps20
  go_wp2
  go_ret
  exact ⟨rfl, rfl⟩
theorem none_name (k : Int) (w : World) : Calls Tryd.prog 21 #[.pointer none, .int .i64 k] w fun e w' => e = .returned (.string (⟨#[]⟩ : ByteArray)) ∧ w' = w := by
  go_enter Tryd.func21, Tryd.ntmps21
  go_wp2
  go_ret
  exact ⟨rfl, rfl⟩
theorem none_asked (w : World) : Calls Tryd.prog 22 #[.pointer none] w fun e w' => e = .returned (.int .i64 0) ∧ w' = w := by
  go_enter Tryd.func22, Tryd.ntmps22
  go_wp2
  go_ret
  exact ⟨rfl, rfl⟩
/-! ### the package's functions -/
set_option maxRecDepth 100000 in
set_option maxHeartbeats 3200000 in
theorem name_calls (k : Int) (w : World) (hV : Vars w) (hwf : (Lit.int .i64 k).wf = true) : Calls Tryd.prog 8 #[.int .i64 k] w fun e w' => e = .returned (.string (nameF k)) ∧ Below w.heap.size w w' := by
  go_enter Tryd.func8, Tryd.ntmps8
  go_wp2_with (first | (go_at_call 19; refine (new_calls w).mono ?_; rintro e w1 ⟨rfl, hk, hb1, hs1⟩) | (go_at_call 21; refine (pname_calls w w.heap.size 0 k w1 (.inl hk) (Nat.le_refl _) hb1 hV hwf).mono ?_; rintro e w2 ⟨rfl, hd, hg⟩))
  go_ret
  exact ⟨rfl, hb1.trans (below_of hg (Nat.le_refl _) (by omega))⟩
/-! ### the kind of a name -/
/-- The first of the kinds from i on that is named so. -/
def fstK (s : ByteArray) : Nat → Int → Option Int
  | 0, _ => none
  | f + 1, i => if nameF i = s then some i else fstK s f (i + 1)
def cutE (s : ByteArray) : ByteArray := txt (Lib.trimPrefix s.data.toList [101, 120, 112])
def hasP (s : ByteArray) : Bool := Lib.hasPrefix s.data.toList [101, 120, 112]
/-- What a number's end tells: the kind, or 0. -/
def endK (s : ByteArray) : Int := match Lib.atoiAll (cutE s).data.toList with
  | .ok v => if Lib.hasPrefix s.data.toList [101, 120, 112] = true then (if expB v = true then (if txt (Lib.itoa v) = cutE s then v else 0) else 0) else 0
  | _ => 0
def ofF (s : ByteArray) : Int := match fstK s 10 1 with
  | some k => k
  | none => endK s
theorem wfm {k : Int} (h0 : -9223372036854775808 ≤ k) (h1 : k ≤ 9223372036854775807) : (Lit.int .i64 k).wf = true := by
  simp only [Lit.wf, Bool.and_eq_true, decide_eq_true_eq]
  exact ⟨h0, h1⟩
theorem cut_size (s : ByteArray) : (cutE s).size ≤ s.size := by
  have h := Lib.trimPrefix_le s.data.toList [101, 120, 112]
  rw [Array.length_toList] at h
  exact h
theorem endK_bad {s : ByteArray} (h : ∀ u, Lib.atoiAll (cutE s).data.toList ≠ .ok u) : endK s = 0 := by
  unfold endK
  rcases hA : Lib.atoiAll (cutE s).data.toList with u | _ | _
  · exact absurd hA (h u)
  · rfl
  · rfl
theorem atoi_calls (s : ByteArray) (hl : s.size ≤ 281474976710656) (w : World) (hV : Vars w) :
    Calls Tryd.prog 28 #[.string s] w fun e w' => (∃ v, Lib.atoiAll s.data.toList = .ok v ∧ e = .returned (.tuple #[.int .i64 v, .nilIface]) ∨ (∀ u, Lib.atoiAll s.data.toList ≠ .ok u) ∧ ∃ N t, e = .returned (.tuple #[.int .i64 v, .iface t (.pointer (some ⟨N, 0, none⟩))])) ∧ Below w.heap.size w w' := by
  rcases h : Lib.atoiAll s.data.toList with v | _ | _
  · refine (Tryd.strconv_Atoi_ok s (by omega) v h w).mono ?_
    rintro e w' ⟨rfl, hw⟩
    refine ⟨⟨v, .inl ⟨rfl, rfl⟩⟩, ?_⟩
    rcases hw with rfl | ⟨t, rfl⟩
    · exact Below.refl _ _
    · exact Lib.bytesWorld_below w _ _
  · obtain ⟨ev, hc, he⟩ := hV.2.1
    refine (Any.strconv_Atoi_syntax Tryd.laysC172 s hl h ev w hc he).mono ?_
    rintro e w' ⟨N, rfl, _, _, hb⟩
    exact ⟨⟨0, .inr ⟨(fun u e => by cases e), N, _, rfl⟩⟩, hb⟩
  · obtain ⟨ev, hc, he⟩ := hV.2.2
    refine (Tryd.strconv_Atoi_range s hl h ev w hc he).mono ?_
    rintro e w' ⟨N, rfl, _, _, hb⟩
    exact ⟨⟨_, .inr ⟨(fun u e => by cases e), N, _, rfl⟩⟩, hb⟩
theorem ba_ext {a b : ByteArray} (e : a.data.toList = b.data.toList) : a = b := by
  cases a; cases b; congr 1; exact Array.toList_inj.1 e
theorem cut_calls (s : ByteArray) (W : World) : Calls Tryd.prog 27 #[.string s, .string (⟨#[101, 120, 112]⟩ : ByteArray)] W fun e w' => e = .returned (.tuple #[.string (cutE s), .bool (hasP s)]) ∧ w' = W := Tryd.strings_CutPrefix s (⟨#[101, 120, 112]⟩ : ByteArray) W
theorem atoi_ok (s : ByteArray) (v : Int) (hl : s.size ≤ 281474976710656) (h : Lib.atoiAll s.data.toList = .ok v) (w : World) (hV : Vars w) :
    Calls Tryd.prog 28 #[.string s] w fun e w' => e = .returned (.tuple #[.int .i64 v, .nilIface]) ∧ Below w.heap.size w w' := by
  refine (atoi_calls s hl w hV).mono ?_
  rintro e w' ⟨⟨v', hv⟩, hb⟩
  rw [h] at hv
  rcases hv with ⟨h1, rfl⟩ | ⟨h1, _⟩
  · cases h1; exact ⟨rfl, hb⟩
  · exact absurd rfl (h1 v)
theorem atoi_bad (s : ByteArray) (hl : s.size ≤ 281474976710656) (h : ∀ u, Lib.atoiAll s.data.toList ≠ .ok u) (w : World) (hV : Vars w) :
    Calls Tryd.prog 28 #[.string s] w fun e w' => ∃ v N t, e = .returned (.tuple #[.int .i64 v, .iface t (.pointer (some ⟨N, 0, none⟩))]) ∧ Below w.heap.size w w' := by
  refine (atoi_calls s hl w hV).mono ?_
  rintro e w' ⟨⟨v', hv⟩, hb⟩
  rcases hv with ⟨h1, rfl⟩ | ⟨_, N, t, rfl⟩
  · exact absurd h1 (h v')
  · exact ⟨v', N, t, rfl, hb⟩
set_option maxRecDepth 100000 in
set_option maxHeartbeats 3200000 in
theorem of_calls (s : ByteArray) (hl : s.size ≤ 281474976710656) (w : World) (hV : Vars w) : Calls Tryd.prog 17 #[.string s] w fun e w' => e = .returned (.int .i64 (ofF s)) ∧ Below w.heap.size w w' := by
  have HV := Aside0.mk hV
  have HL := Aside0.mk hl
  clear hV hl
  go_enter Tryd.func17, Tryd.ntmps17
  go_wp2_with (go_at_call 19; refine (new_calls w).mono ?_; rintro e w1 ⟨rfl, hk, hb1, hs1⟩; have HK1 := Aside0.mk hk; have HB1 := Aside0.mk hb1; clear hk hb1 hs1)
  go_loopg [4] 11 (fun kq v4 w' => ∃ x : Int, v4 = .int .i64 x ∧ Aside0 (1 ≤ x ∧ x ≤ 11 ∧ (kq : Int) + x = 12 ∧ ofF s = (match fstK s (11 - x).toNat x with | some k => k | none => endK s)) ∧ Aside0 (KNew w' w.heap.size 0 ∨ KDone w.heap.size w' w.heap.size 0) ∧ Aside0 (Below w.heap.size w w'))
  case atStart => exact ⟨1, rfl, ⟨by omega, by omega, by omega, rfl⟩, ⟨.inl HK1.out⟩, HB1⟩
  case round =>
    clear HK1 HB1
    obtain ⟨x, rfl, HX, HK, HB⟩ := hrel
    cases gk with
    | zero => exact absurd HX.out.2.2.1 (by have := HX.out.2.1; omega)
    | succ k1 =>
    by_cases c1 : x < 11
    · have c1b : decide (x < 11) = true := decide_eq_true c1
      have hE := HX.out.2.2.2
      rw [show (11 - x).toNat = (10 - x).toNat + 1 by omega] at hE
      unfold fstK at hE
      have HC := Aside0.mk c1
      have HN := Aside0.mk (mname_calls w w.heap.size 0 x _ HK.out (Nat.le_refl _) (Or.klt HK.out) HB.out HV.out (wfm (by have := HX.out.1; omega) (by omega)))
      clear c1
      generalize nameF x = nm at hE HN
      by_cases c2 : nm = s
      · have c2b : (nm.toList == s.toList) = true := beq_iff_eq.mpr (by rw [c2])
        rw [if_pos c2] at hE
        have HE := Aside0.mk hE
        clear c2 hE
        go_wp2_with (go_at_call 26; refine HN.out.mono ?_; rintro e w2 ⟨rfl, hd, hg⟩; have HB2 := Aside0.mk (HB.out.trans (below_of hg (Nat.le_refl _) HB.out.size)); clear hd hg)
        go_ret
        exact ⟨by rw [HE.out]; rfl, HB2.out⟩
      · have c2b : (nm.toList == s.toList) = false := beq_eq_false_iff_ne.mpr (fun e => c2 (by rw [ByteArray.toList_eq, ByteArray.toList_eq] at e; cases nm; cases s; congr 1; exact Array.toList_inj.1 e))
        rw [if_neg c2] at hE
        have HE := Aside0.mk hE
        clear c2 hE
        have hnx : wrap64 (x + 1) = x + 1 := by have := HX.out; unfold wrap64; omega
        go_wp2_with (go_at_call 26; refine HN.out.mono ?_; rintro e w2 ⟨rfl, hd, hg⟩; have HB2 := Aside0.mk (HB.out.trans (below_of hg (Nat.le_refl _) HB.out.size)); have HD2 := Aside0.mk hd; clear hd hg)
        go_roundg k1
        case rel => exact ⟨x + 1, by rw [hnx], ⟨by have := HX.out; omega, by have := HC.out; omega, by have := HX.out; omega, by rw [HE.out, show (11 - (x + 1)).toNat = (10 - x).toNat by omega]⟩, ⟨.inr HD2.out⟩, HB2⟩
        case measure => exact Nat.lt_succ_self _
    · have c1b : decide (x < 11) = false := decide_eq_false c1
      have hE := HX.out.2.2.2
      obtain rfl : x = 11 := by have := HX.out.2.1; omega
      have hE : ofF s = endK s := hE
      have HE := Aside0.mk hE
      clear c1 hE
      have HCS := Aside0.mk (Nat.le_trans (cut_size s) HL.out)
      have HCP := Aside0.mk (cut_calls s)
      by_cases hok : ∃ v, Lib.atoiAll (cutE s).data.toList = .ok v
      · obtain ⟨v, hA⟩ := hok
        have HAT := Aside0.mk (fun (W : World) (hW : Below w.heap.size w W) => atoi_ok (cutE s) v HCS.out hA W (HV.out.below hW))
        have hvb := Lib.atoiAll_bounds hA
        have HIT := Aside0.mk (fun (W : World) (hW : Below w.heap.size w W) => Tryd.strconv_Itoa v hvb.1 hvb.2 W (HV.out.below hW).1)
        have HEN : endK s = if hasP s = true then (if expB v = true then (if txt (Lib.itoa v) = cutE s then v else 0) else 0) else 0 := by
          unfold endK
          rw [hA]
          rfl
        clear hA hvb
        cases hp : hasP s with
        | false =>
          rw [hp, if_neg Bool.false_ne_true] at HEN
          rw [hp] at HCP
          have HEN' := Aside0.mk HEN
          clear HEN hp
          go_wp2_with (first | (go_at_call 27; refine (HCP.out _).mono ?_; rintro e w2 ⟨rfl, rfl⟩) | (go_at_call 28; refine (HAT.out _ HB.out).mono ?_; rintro e w3 ⟨rfl, hb⟩; have HB3 := Aside0.mk (below_step HB.out hb); clear hb))
          go_ret
          exact ⟨by rw [HE.out, HEN'.out]; rfl, HB3.out⟩
        | true =>
          rw [hp, if_pos rfl] at HEN
          rw [hp] at HCP
          clear hp
          cases hx : expB v with
          | false =>
            rw [hx, if_neg Bool.false_ne_true] at HEN
            have HEN' := Aside0.mk HEN
            have HX2 := Aside0.mk (fun W => (hx ▸ exp_calls v W : Calls Tryd.prog 15 #[.int .i64 v] W fun e w' => e = .returned (.bool false) ∧ w' = W))
            clear HEN hx
            go_wp2_with (first | (go_at_call 27; refine (HCP.out _).mono ?_; rintro e w2 ⟨rfl, rfl⟩) | (go_at_call 28; refine (HAT.out _ HB.out).mono ?_; rintro e w3 ⟨rfl, hb⟩; have HB3 := Aside0.mk (below_step HB.out hb); clear hb) | (go_at_call 15; refine (HX2.out _).mono ?_; rintro e w4 ⟨rfl, rfl⟩))
            go_ret
            exact ⟨by rw [HE.out, HEN'.out]; rfl, HB3.out⟩
          | true =>
            rw [hx, if_pos rfl] at HEN
            have HX2 := Aside0.mk (fun W => (hx ▸ exp_calls v W : Calls Tryd.prog 15 #[.int .i64 v] W fun e w' => e = .returned (.bool true) ∧ w' = W))
            clear hx
            have HIT2 : Aside0 (∀ (W : World), Below w.heap.size w W → Calls Tryd.prog 29 #[.int .i64 v] W fun e w' => e = .returned (.string (txt (Lib.itoa v))) ∧ ∃ k os, w' = Go.Sort.grow (W.drewN k) os) := HIT
            clear HIT
            generalize txt (Lib.itoa v) = iv at HIT2 HEN
            by_cases he : iv = cutE s
            · rw [if_pos he] at HEN
              have heb : (iv.toList == (cutE s).toList) = true := beq_iff_eq.mpr (by rw [he])
              have HEN' := Aside0.mk HEN
              clear HEN he
              go_wp2_with (first | (go_at_call 27; refine (HCP.out _).mono ?_; rintro e w2 ⟨rfl, rfl⟩) | (go_at_call 28; refine (HAT.out _ HB.out).mono ?_; rintro e w3 ⟨rfl, hb⟩; have HB3 := Aside0.mk (below_step HB.out hb); clear hb) | (go_at_call 15; refine (HX2.out _).mono ?_; rintro e w4 ⟨rfl, rfl⟩) | (go_at_call 29; refine (HIT2.out _ HB3.out).mono ?_; rintro e w5 ⟨rfl, kk, os, rfl⟩))
              go_ret
              exact ⟨by rw [HE.out, HEN'.out]; rfl, below_step HB3.out (Lib.below_grow _ _ (Nat.le_refl _) _ _)⟩
            · rw [if_neg he] at HEN
              have heb : (iv.toList == (cutE s).toList) = false := beq_eq_false_iff_ne.mpr (fun e => he (by rw [ByteArray.toList_eq, ByteArray.toList_eq] at e; exact ba_ext e))
              have HEN' := Aside0.mk HEN
              clear HEN he
              go_wp2_with (first | (go_at_call 27; refine (HCP.out _).mono ?_; rintro e w2 ⟨rfl, rfl⟩) | (go_at_call 28; refine (HAT.out _ HB.out).mono ?_; rintro e w3 ⟨rfl, hb⟩; have HB3 := Aside0.mk (below_step HB.out hb); clear hb) | (go_at_call 15; refine (HX2.out _).mono ?_; rintro e w4 ⟨rfl, rfl⟩) | (go_at_call 29; refine (HIT2.out _ HB3.out).mono ?_; rintro e w5 ⟨rfl, kk, os, rfl⟩))
              go_ret
              exact ⟨by rw [HE.out, HEN'.out]; rfl, below_step HB3.out (Lib.below_grow _ _ (Nat.le_refl _) _ _)⟩
      · have hA : ∀ u, Lib.atoiAll (cutE s).data.toList ≠ .ok u := fun u e => hok ⟨u, e⟩
        clear hok
        have HAT := Aside0.mk (fun (W : World) (hW : Below w.heap.size w W) => atoi_bad (cutE s) HCS.out hA W (HV.out.below hW))
        have HEN' : Aside0 (endK s = 0) := ⟨endK_bad hA⟩
        clear hA
        cases hp : hasP s with
        | false =>
          rw [hp] at HCP
          clear hp
          go_wp2_with (first | (go_at_call 27; refine (HCP.out _).mono ?_; rintro e w2 ⟨rfl, rfl⟩) | (go_at_call 28; refine (HAT.out _ HB.out).mono ?_; rintro e w3 ⟨v, N, t, rfl, hb⟩; have HB3 := Aside0.mk (below_step HB.out hb); clear hb))
          go_ret
          exact ⟨by rw [HE.out, HEN'.out]; rfl, HB3.out⟩
        | true =>
          rw [hp] at HCP
          clear hp
          go_wp2_with (first | (go_at_call 27; refine (HCP.out _).mono ?_; rintro e w2 ⟨rfl, rfl⟩) | (go_at_call 28; refine (HAT.out _ HB.out).mono ?_; rintro e w3 ⟨v, N, t, rfl, hb⟩; have HB3 := Aside0.mk (below_step HB.out hb); clear hb))
          go_ret
          exact ⟨by rw [HE.out, HEN'.out]; rfl, HB3.out⟩
end Go.Proofs.YthhohplddgklgaaDoor.Kind
