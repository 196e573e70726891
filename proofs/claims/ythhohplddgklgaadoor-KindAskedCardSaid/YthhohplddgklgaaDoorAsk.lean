/- How often a table was asked is counted, call by call; and it tells, all along, what is told without one: the walk. For every input. -/
import Derived.Test.YthhohplddgklgaaDoorQx1
import Derived.Test.YthhohplddgklgaaDoorKB
namespace Go.Proofs.YthhohplddgklgaaDoor.Q
open Go Go.RowKit Go.Proofs.YthhohplddgklgaaDoorW.PrintWords Go.Proofs.YthhohplddgklgaaDoorW.PrintLast Go.Proofs.YthhohplddgklgaaDoorW.PrintMore ShCore
set_option linter.unusedVariables false
set_option linter.unusedSimpArgs false
open Kind (nameF knownB)
theorem nx_nat (n : Int) (h0 : 0 ≤ n) (h1 : n < 1000000) : Kind.nx n = n + 1 := by
  unfold Kind.nx wrap64
  omega
theorem w64_wf (x : Int) : (Lit.int .i64 (wrap64 x)).wf = true := by
  refine Kind.wfm ?_ ?_ <;> (unfold wrap64; omega)
theorem ref_name (a : Int) (W : World) : Calls Tryd.prog 9 #[.int .i64 a] W fun e w' => e = .returned (.string (nameF a)) ∧ Below W.heap.size W w' := by
  obtain ⟨K, hK⟩ := Ev.rounds (name_ev a)
  exact shuttlecockref03_Name.calls K a (nameF a) W hK
set_option maxRecDepth 100000 in
set_option maxHeartbeats 8000000 in
theorem asked_walk (n k : Int) (w : World) (hV : Kind.Vars w) (hn : (Lit.int .i64 n).wf = true) (hk : (Lit.int .i64 k).wf = true) :
    Calls Tryd.prog 5 #[.int .i64 n, .int .i64 k] w fun e w' => e = .returned (.bool true) ∧ Below w.heap.size w w' := by
  have HV := Aside0.mk hV
  have HK := Aside0.mk hk
  clear hV hk hn
  have HF := Aside0.mk (fun (W : World) (hW : Below w.heap.size w W) => shuttlecocklaw03_fixed.calls true W (HV.out.below hW) rfl)
  by_cases c1 : n < 0
  · have c1b : decide (n < 0) = true := decide_eq_true c1
    clear c1
    go_enter Tryd.func5, Tryd.ntmps5
    go_wp2_with (go_at_call 7; first | (with_reducible refine (HF.out _ HB1.out).mono ?_; rintro e w2 ⟨rfl, hb⟩; have HB2 := Aside0.mk (below_step HB1.out hb); clear hb) | (with_reducible refine (HF.out _ (Below.refl _ _)).mono ?_; rintro e w1 ⟨rfl, hb⟩; have HB1 := Aside0.mk hb; clear hb))
    go_ret
    exact ⟨rfl, HB2.out⟩
  have c1b : decide (n < 0) = false := decide_eq_false c1
  by_cases c2 : n > 100
  · have c2b : decide (n > 100) = true := decide_eq_true c2
    have c2c : decide (100 < n) = true := decide_eq_true c2
    clear c1 c2
    go_enter Tryd.func5, Tryd.ntmps5
    go_wp2_with (go_at_call 7; first | (with_reducible refine (HF.out _ HB1.out).mono ?_; rintro e w2 ⟨rfl, hb⟩; have HB2 := Aside0.mk (below_step HB1.out hb); clear hb) | (with_reducible refine (HF.out _ (Below.refl _ _)).mono ?_; rintro e w1 ⟨rfl, hb⟩; have HB1 := Aside0.mk hb; clear hb))
    go_ret
    exact ⟨rfl, HB2.out⟩
  have c2b : decide (n > 100) = false := decide_eq_false c2
  have c2c : decide (100 < n) = false := decide_eq_false c2
  have HN : Aside0 (0 ≤ n ∧ n ≤ 100) := ⟨by omega, by omega⟩
  clear c1 c2
  go_enter Tryd.func5, Tryd.ntmps5
  go_wp2_with (first | (go_at_call 7; with_reducible refine (HF.out _ (Below.refl _ _)).mono ?_; rintro e w1 ⟨rfl, hb⟩; have HB1 := Aside0.mk hb; clear hb) | (go_at_call 19; with_reducible refine (Kind.new_calls w1).mono ?_; rintro e w2 ⟨rfl, hk, hb, _⟩; have HB2 := Aside0.mk (below_step HB1.out hb); have HK2 := Aside0.mk hk; clear hk hb))
  have HBS : Aside0 (w.heap.size ≤ w1.heap.size) := ⟨HB1.out.size⟩
  clear c1b c2b c2c
  go_loopg [6] 200 (fun kq v6 w' => ∃ i : Int, v6 = .int .i64 i ∧ Aside0 (0 ≤ i ∧ i ≤ n ∧ (kq : Int) + i = 200) ∧ Aside0 (Kind.KNew w' w1.heap.size (3 * i) ∨ Kind.KDone w.heap.size w' w1.heap.size (3 * i)) ∧ Aside0 (Below w.heap.size w w'))
  case atStart => exact ⟨0, rfl, ⟨by omega, by have := HN.out; omega, by omega⟩, ⟨.inl HK2.out⟩, HB2⟩
  case round =>
    clear HK2 HB2
    obtain ⟨i, rfl, HI, HT, HB⟩ := hrel
    cases gk with
    | zero =>
      have a1 := HI.out.2.2
      have a2 := HI.out.2.1
      have a3 := HN.out.2
      exact absurd a1 (by omega)
    | succ k1 =>
    by_cases d1 : i < n
    · have d1b : decide (i < n) = true := decide_eq_true d1
      have HD := Aside0.mk d1
      clear d1
      have h1 : Kind.nx (3 * i) = 3 * i + 1 := nx_nat _ (by have := HI.out; omega) (by have := HI.out; have := HN.out; omega)
      have h2 : Kind.nx (3 * i + 1) = 3 * i + 2 := by rw [nx_nat (3 * i + 1) (by have := HI.out; omega) (by have := HI.out; have := HN.out; omega)]; omega
      have h3 : Kind.nx (3 * i + 2) = 3 * (i + 1) := by rw [nx_nat (3 * i + 2) (by have := HI.out; omega) (by have := HI.out; have := HN.out; omega)]; omega
      have HM := Aside0.mk (Kind.mknown_calls w.heap.size w1.heap.size (3 * i) k _ HT.out HB.out.size (Kind.Or.klt HT.out) HK.out)
      have HP := Aside0.mk (fun (c : Int) (W : World) (hd : Kind.KDone w.heap.size W w1.heap.size c) (hb : Below w.heap.size w W) => Kind.pname_calls w w1.heap.size c (wrap64 (k + i)) W (.inr hd) HBS.out hb HV.out (w64_wf _))
      have HQ := Aside0.mk (fun (W : World) (hb : Below w.heap.size w W) => Kind.name_calls (wrap64 (k + i)) W (HV.out.below hb) (w64_wf _))
      have HR := Aside0.mk (ref_name (wrap64 (k + i)))
      have HKN := Aside0.mk (fun W => Kind.known_calls k W HK.out)
      have hnx : wrap64 (i + 1) = i + 1 := by have := HI.out; have := HN.out; unfold wrap64; omega
      generalize nameF (wrap64 (k + i)) = nm at HP HQ HR
      rw [h1] at HM
      have H2 := Aside0.mk h2
      have H3 := Aside0.mk h3
      clear h1 h2 h3
      have hs : (nm.toList == nm.toList) = true := beq_self_eq_true _
      cases hkb : knownB k with
      | true =>
        rw [hkb] at HM HKN
        clear hkb
        go_wp2_with (first | (go_at_call 20; with_reducible refine HM.out.mono ?_; rintro e w3 ⟨rfl, hd, hg⟩; have HB3 := Aside0.mk (HB.out.trans (Kind.below_of hg HBS.out HB.out.size)); have HD3 := Aside0.mk hd; clear hd hg) | (go_at_call 13; with_reducible refine (HKN.out _).mono ?_; rintro e w4 ⟨rfl, hb⟩; have HB4 := Aside0.mk (below_step HB3.out hb); have HD4 := Aside0.mk (HD3.out.below hb); clear hb) | (go_at_call 21; first | (with_reducible refine (HP.out _ _ HD6.out HB6.out).mono ?_; rintro e w7 ⟨rfl, hd, hg⟩; have HB7 := Aside0.mk (HB6.out.trans (Kind.below_of hg HBS.out HB6.out.size)); have HD7 := Aside0.mk (H3.out ▸ hd); clear hd hg) | (with_reducible refine (HP.out _ _ HD4.out HB4.out).mono ?_; rintro e w5 ⟨rfl, hd, hg⟩; have HB5 := Aside0.mk (HB4.out.trans (Kind.below_of hg HBS.out HB4.out.size)); have HD5 := Aside0.mk (H2.out ▸ hd); clear hd hg)) | (go_at_call 8; with_reducible refine (HQ.out _ HB5.out).mono ?_; rintro e w6 ⟨rfl, hb⟩; have HB6 := Aside0.mk (below_step HB5.out hb); have HD6 := Aside0.mk (HD5.out.below hb); clear hb) | (go_at_call 9; with_reducible refine (HR.out _).mono ?_; rintro e w8 ⟨rfl, hb⟩; have HB8 := Aside0.mk (below_step HB7.out hb); have HD8 := Aside0.mk (HD7.out.below hb); clear hb))
        go_roundg k1
        case rel => exact ⟨i + 1, by rw [hnx], ⟨by have := HI.out; omega, by have := HD.out; omega, by have := HI.out; omega⟩, ⟨.inr HD8.out⟩, HB8⟩
        case measure => exact Nat.lt_succ_self _
      | false =>
        rw [hkb] at HM HKN
        clear hkb
        go_wp2_with (first | (go_at_call 20; with_reducible refine HM.out.mono ?_; rintro e w3 ⟨rfl, hd, hg⟩; have HB3 := Aside0.mk (HB.out.trans (Kind.below_of hg HBS.out HB.out.size)); have HD3 := Aside0.mk hd; clear hd hg) | (go_at_call 13; with_reducible refine (HKN.out _).mono ?_; rintro e w4 ⟨rfl, hb⟩; have HB4 := Aside0.mk (below_step HB3.out hb); have HD4 := Aside0.mk (HD3.out.below hb); clear hb) | (go_at_call 21; first | (with_reducible refine (HP.out _ _ HD6.out HB6.out).mono ?_; rintro e w7 ⟨rfl, hd, hg⟩; have HB7 := Aside0.mk (HB6.out.trans (Kind.below_of hg HBS.out HB6.out.size)); have HD7 := Aside0.mk (H3.out ▸ hd); clear hd hg) | (with_reducible refine (HP.out _ _ HD4.out HB4.out).mono ?_; rintro e w5 ⟨rfl, hd, hg⟩; have HB5 := Aside0.mk (HB4.out.trans (Kind.below_of hg HBS.out HB4.out.size)); have HD5 := Aside0.mk (H2.out ▸ hd); clear hd hg)) | (go_at_call 8; with_reducible refine (HQ.out _ HB5.out).mono ?_; rintro e w6 ⟨rfl, hb⟩; have HB6 := Aside0.mk (below_step HB5.out hb); have HD6 := Aside0.mk (HD5.out.below hb); clear hb) | (go_at_call 9; with_reducible refine (HR.out _).mono ?_; rintro e w8 ⟨rfl, hb⟩; have HB8 := Aside0.mk (below_step HB7.out hb); have HD8 := Aside0.mk (HD7.out.below hb); clear hb))
        go_roundg k1
        case rel => exact ⟨i + 1, by rw [hnx], ⟨by have := HI.out; omega, by have := HD.out; omega, by have := HI.out; omega⟩, ⟨.inr HD8.out⟩, HB8⟩
        case measure => exact Nat.lt_succ_self _
    · have d1b : decide (i < n) = false := decide_eq_false d1
      obtain rfl : i = n := by have := HI.out; omega
      clear d1
      have h1 : Kind.nx (3 * i) = 3 * i + 1 := nx_nat _ (by have := HN.out; omega) (by have := HN.out; omega)
      have h2 : Kind.nx (3 * i + 1) = 3 * i + 2 := by rw [nx_nat (3 * i + 1) (by have := HN.out; omega) (by have := HN.out; omega)]; omega
      have HA1 := Aside0.mk (Kind.asked_calls w.heap.size w1.heap.size (3 * i) _ HT.out)
      have HA2 := Aside0.mk (fun (W : World) (h : Kind.KNew W w1.heap.size (3 * i + 1) ∨ Kind.KDone w.heap.size W w1.heap.size (3 * i + 1)) => Kind.asked_calls w.heap.size w1.heap.size (3 * i + 1) W h)
      rw [h1] at HA1
      simp only [h2] at HA2
      have m1 : wrap64 (3 * i) = 3 * i := by have := HN.out; unfold wrap64; omega
      have m2 : wrap64 (3 * i + 1) = 3 * i + 1 := by have := HN.out; unfold wrap64; omega
      have m3 : wrap64 (3 * i + 2) = 3 * i + 2 := by have := HN.out; unfold wrap64; omega
      clear h1 h2
      go_wp2_with (go_at_call 22; first | (with_reducible refine (HA2.out _ HK3.out).mono ?_; rintro e w4 ⟨rfl, hk, hg⟩; have HB4 := Aside0.mk (HB3.out.trans (Kind.below_of hg HBS.out HB3.out.size)); clear hk hg) | (with_reducible refine HA1.out.mono ?_; rintro e w3 ⟨rfl, hk, hg⟩; have HB3 := Aside0.mk (HB.out.trans (Kind.below_of hg HBS.out HB.out.size)); have HK3 := Aside0.mk hk; clear hk hg))
      go_ret
      exact ⟨by first | rfl | simp [m1, m2, m3], HB4.out⟩
/-- The walk tells all: nothing is left to be shown beside it. -/
def shuttlecocklaw03_KindAsked.Pure : Prop := True
theorem shuttlecocklaw03_KindAsked.walk (P : shuttlecocklaw03_KindAsked.Pure) (a0 : Int) (a1 : Int) (w : World) (hV : Kind.Vars w) (w0 : (Lit.int .i64 a0).wf = true) (w1 : (Lit.int .i64 a1).wf = true) : Calls Tryd.prog 5 #[.int .i64 a0, .int .i64 a1] w fun e w' => e = .returned (.bool true) ∧ Below w.heap.size w w' := asked_walk a0 a1 w hV w0 w1
end Go.Proofs.YthhohplddgklgaaDoor.Q
