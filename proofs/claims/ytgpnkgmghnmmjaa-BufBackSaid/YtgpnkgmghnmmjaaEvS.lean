/- The document's events, read. For every input. -/
import Derived.Test.YtgpnkgmghnmmjaaQx15
import Derived.Test.YtgpnkgmghnmmjaaEvQ
import Derived.Test.YtgpnkgmghnmmjaaVintRT
set_option linter.unusedVariables false
set_option linter.unusedSimpArgs false
namespace Go.Proofs.Ytgpnkgmghnmmjaa.EvS
open Go Go.RowKit Go.Proofs.Ytgpnkgmghnmmjaa.Q Go.Proofs.YtgpnkgmghnmmjaaW.PrintWords Go.Proofs.YtgpnkgmghnmmjaaW.PrintLast Go.Proofs.YtgpnkgmghnmmjaaW.PrintMore ShCore EvA EvB EvC EvQ
/-! ### reading -/
theorem rTake (s : ByteArray) (q : Nat) (hs : s.size < 4611686018427387904) (hq : q ≤ (lst s).length) : Ev (fun k => shuttlecockref01_Take.f k s q) (if (tkh ((lst s).drop q)).2.2 = 0 then (((tkh ((lst s).drop q)).1 : Int), ((q + (tkh ((lst s).drop q)).2.1 : Nat) : Int), 0) else (0, 0, (((tkh ((lst s).drop q)).2.2 : Nat) : Int))) := by
  rw [← takeL_pos _ q hq]
  exact shuttlecockref01_Take.ev s q hs
theorem rDec0 (s : ByteArray) (hs : s.size < 4611686018427387904) (a d : Int) (n : Nat) (hn : n ≤ 1000) : ∀ (r i q : Nat) (acc : List Int), i + r = n → acc.length ≤ i → q ≤ (lst s).length →
    Ev (fun k => shuttlecockref04_Decode.l0 k s q (n : Int) i 0 0 ⟨#[]⟩ a d acc ⟨#[]⟩) (if (argsD r ((lst s).drop q)).2.2 = 0 then (a, d, acc ++ (argsD r ((lst s).drop q)).1, ⟨#[]⟩, ((q + (argsD r ((lst s).drop q)).2.1 : Nat) : Int), 0) else (0, 0, [], ⟨#[]⟩, 0, (((argsD r ((lst s).drop q)).2.2 : Nat) : Int)))
  | 0, i, q, acc, hi, hl, hq => by
    refine Ev.step (fun k => shuttlecockref04_Decode.l0.eq_2 ..) (evNo (by omega) (evC ?_))
    simp [argsD]
  | r + 1, i, q, acc, hi, hl, hq => by
    refine Ev.step (fun k => shuttlecockref04_Decode.l0.eq_2 ..) (evYes (by omega) (Ev.bind (rTake s q hs hq) ?_))
    unfold argsD
    by_cases h : (tkh ((lst s).drop q)).2.2 = 0
    · obtain ⟨b1, b2, b3, b4, b5, b6⟩ := tkh_back _ h
      rw [List.length_drop] at b4
      have ih := rDec0 s hs a d n hn r (i + 1) (q + (tkh ((lst s).drop q)).2.1) (acc ++ [((tkh ((lst s).drop q)).1 : Int)]) (by omega) (by simp; omega) (by omega)
      rw [← List.drop_drop] at ih
      rw [if_pos h, if_pos h]
      refine evYes rfl (evYes (by omega) ?_)
      rw [nxt (by omega)]
      by_cases h2 : (argsD r (((lst s).drop q).drop (tkh ((lst s).drop q)).2.1)).2.2 = 0
      · rw [if_pos h2] at ih
        rw [if_pos h2]
        simp only [if_true]
        simp only [List.append_assoc, List.singleton_append] at ih
        rw [show q + ((tkh ((lst s).drop q)).2.1 + (argsD r (((lst s).drop q).drop (tkh ((lst s).drop q)).2.1)).2.1) = q + (tkh ((lst s).drop q)).2.1 + (argsD r (((lst s).drop q).drop (tkh ((lst s).drop q)).2.1)).2.1 by omega]
        exact ih
      · rw [if_neg h2] at ih
        rw [if_neg h2]
        simp only
        rw [if_neg h2]
        exact ih
    · rw [if_neg h, if_neg h]
      simp only
      rw [if_neg h]
      exact evNo (by omega) (Ev.now _)
theorem rDecT (s : ByteArray) (hs : s.size < 4611686018427387904) (a d : Int) (q : Nat) (hq : q ≤ (lst s).length) :
    Ev (fun k => (shuttlecockref01_Take.f k s (q : Int)).bind fun bt322 => (if bt322.2.2 = 0 then (if bt322.1 > (wrap64 ((s.size : Int) - bt322.2.1)) then (some ((0 : Int), (0 : Int), ([] : List Int), (⟨#[]⟩ : ByteArray), (0 : Int), (10 : Int))) else (if 0 ≤ bt322.2.1 then (if bt322.2.1 ≤ (wrap64 (bt322.2.1 + bt322.1)) then (if (wrap64 (bt322.2.1 + bt322.1)) ≤ (s.size : Int) then (some (a, d, ([] : List Int), s.extract (bt322.2.1 : Int).toNat ((wrap64 (bt322.2.1 + bt322.1)) : Int).toNat, wrap64 (bt322.2.1 + bt322.1), 0)) else (none)) else (none)) else (none))) else (some (0, 0, ([] : List Int), (⟨#[]⟩ : ByteArray), 0, bt322.2.2))))
      (if (textD ((lst s).drop q)).2.2 = 0 then (a, d, [], arr (textD ((lst s).drop q)).1, ((q + (textD ((lst s).drop q)).2.1 : Nat) : Int), 0) else (0, 0, [], ⟨#[]⟩, 0, (((textD ((lst s).drop q)).2.2 : Nat) : Int))) := by
  have hl := lst_length s
  refine Ev.bind (rTake s q hs hq) ?_
  unfold textD
  by_cases h2 : (tkh ((lst s).drop q)).2.2 = 0
  · obtain ⟨d1, d2, d3, d4, d5, d6⟩ := tkh_back _ h2
    rw [if_pos h2, if_pos h2]
    generalize tkh ((lst s).drop q) = r at d3 d4 d5 d6
    obtain ⟨v, n, x⟩ := r
    simp only at d3 d4 d5 d6
    rw [List.length_drop, hl] at d4
    refine evYes rfl ?_
    simp only
    rw [List.drop_drop, List.length_drop, hl]
    have e2 : wrap64 ((s.size : Int) - ((q + n : Nat) : Int)) = ((s.size - (q + n) : Nat) : Int) := by
      rw [wrap64_of (by omega) (by omega)]
      omega
    rw [e2]
    by_cases h3 : v ≤ s.size - (q + n)
    · rw [if_pos h3]
      have e3 : wrap64 (((q + n : Nat) : Int) + (v : Int)) = ((q + n + v : Nat) : Int) := by
        rw [wrap64_of (by omega) (by omega)]
        omega
      rw [e3]
      refine evNo (by omega) (evYes (by omega) (evYes (by omega) (evYes (by omega) (evC ?_))))
      simp only [if_true, Int.toNat_natCast, Option.some.injEq, Prod.mk.injEq, true_and, and_true]
      refine ⟨?_, by omega⟩
      apply lst_inj
      rw [lst_extract, lst_arr, show q + n + v - (q + n) = v by omega]
    · rw [if_neg h3]
      exact evYes (by omega) (Ev.now _)
  · rw [if_neg h2, if_neg h2]
    simp only
    rw [if_neg h2]
    exact evNo (by omega) (Ev.now _)
theorem rDec1 (s : ByteArray) (hs : s.size < 4611686018427387904) (p : Nat) (c : UInt8) (u : List UInt8) (hc : (lst s).drop p = c :: u) (hk : Kind.knownB c.toNat = true ∨ expE c.toNat = true) :
    Ev (fun k => shuttlecockref04_Decode.j1 k s p false 0 0 ⟨#[]⟩ c.toNat 0 ⟨#[]⟩) (decT (lst s) p) := by
  have hl := lst_length s
  have hlen : (lst s).length = p + 1 + u.length := by
    have h1 := congrArg List.length hc
    rw [List.length_drop, List.length_cons] at h1
    omega
  have hd1 : (lst s).drop (p + 1) = u := by rw [← List.drop_drop, hc]; rfl
  have e1 : wrap64 ((p : Int) + 1) = ((p + 1 : Nat) : Int) := by rw [wrap64_of (by omega) (by omega)]; omega
  have ht1 := rTake s (p + 1) hs (by omega)
  rw [hd1] at ht1
  have hD : decT (lst s) p = if (decC c u).2.2 = 0 then ((decC c u).1.f0, (decC c u).1.f1, (decC c u).1.f2, (decC c u).1.f3, (p : Int) + (decC c u).2.1, 0) else (0, 0, [], ⟨#[]⟩, 0, (((decC c u).2.2 : Nat) : Int)) := by
    unfold decT
    rw [if_neg (by omega), Int.toNat_natCast, hc, decS_cons]
  rw [hD]
  refine Ev.step (fun k => shuttlecockref04_Decode.j1.eq_2 ..) (evNo (by simp) ?_)
  rw [e1]
  refine Ev.bind ht1 ?_
  unfold decC
  rw [if_pos hk]
  by_cases h : (tkh u).2.2 = 0
  · obtain ⟨b1, b2, b3, b4, b5, b6⟩ := tkh_back _ h
    rw [if_pos h, if_pos h]
    generalize tkh u = r at b3 b4 b5 b6
    obtain ⟨v, n, x⟩ := r
    simp only at b3 b4 b5 b6
    have hd2 : (lst s).drop (p + 1 + n) = u.drop n := by rw [← List.drop_drop, hd1]
    refine evYes rfl (Ev.bind (evC (rexp_f _)) ?_)
    by_cases hx : expE c.toNat = true
    · rw [if_pos hx]
      refine evYes hx ?_
      have h0 := rDecT s hs c.toNat v (p + 1 + n) (by omega)
      rw [hd2] at h0
      generalize textD (u.drop n) = w at h0
      obtain ⟨w1, w2, w3⟩ := w
      simp only at h0 ⊢
      by_cases h2 : w3 = 0
      · rw [if_pos h2] at h0
        rw [if_pos h2]
        simp only [if_true]
        rw [show p + 1 + n + w2 = p + (1 + n + w2) by omega] at h0
        exact h0
      · rw [if_neg h2] at h0
        rw [if_neg h2]
        simp only
        rw [if_neg h2]
        exact h0
    · rw [if_neg hx]
      refine evNo hx (Ev.bind (rArgs _) ?_)
      have ha3 := Kind.argsL_length c.toNat
      have h0 := rDec0 s hs c.toNat v (Kind.argsL c.toNat).length (by omega) (Kind.argsL c.toNat).length 0 (p + 1 + n) [] (by omega) (by simp) (by omega)
      rw [hd2] at h0
      generalize argsD (Kind.argsL c.toNat).length (u.drop n) = w at h0
      obtain ⟨w1, w2, w3⟩ := w
      simp only at h0 ⊢
      by_cases h2 : w3 = 0
      · rw [if_pos h2] at h0
        rw [if_pos h2]
        simp only [if_true]
        rw [List.nil_append, show p + 1 + n + w2 = p + (1 + n + w2) by omega] at h0
        exact h0
      · rw [if_neg h2] at h0
        rw [if_neg h2]
        simp only
        rw [if_neg h2]
        exact h0
  · rw [if_neg h, if_neg h]
    simp only
    rw [if_neg h]
    exact evNo (by omega) (Ev.now _)
theorem rDecode (s : ByteArray) (p : Int) (hs : s.size < 4611686018427387904) : Ev (fun k => shuttlecockref04_Decode.f k s p) (decT (lst s) p) := by
  unfold shuttlecockref04_Decode.f
  have hl := lst_length s
  by_cases c1 : p < 0
  · refine evYes c1 ?_
    unfold decT
    rw [if_pos (.inl c1)]
    exact Ev.step (fun k => shuttlecockref04_Decode.j0.eq_2 ..) (evYes rfl (Ev.now _))
  refine evNo c1 ?_
  by_cases c2 : p > (s.size : Int)
  · unfold decT
    rw [decide_eq_true c2, if_pos (.inr (by rw [hl]; exact c2))]
    exact Ev.step (fun k => shuttlecockref04_Decode.j0.eq_2 ..) (evYes rfl (Ev.now _))
  rw [decide_eq_false c2]
  obtain ⟨q, rfl⟩ : ∃ q : Nat, p = q := ⟨p.toNat, by omega⟩
  refine Ev.step (fun k => shuttlecockref04_Decode.j0.eq_2 ..) (evNo (by simp) ?_)
  by_cases c3 : (q : Int) = (s.size : Int)
  · refine evYes c3 (evC ?_)
    unfold decT
    rw [if_neg (by rw [hl]; omega), Int.toNat_natCast, List.drop_eq_nil_of_le (by rw [hl]; omega)]
    rfl
  refine evNo c3 (evYes (by omega) (evYes (by omega) ?_))
  obtain ⟨c, hc, hb⟩ := drop_bt s q (by omega)
  have hcl := u8_lt c
  have e1 : wrap64 (bt s (q : Int)) = (c.toNat : Int) := by rw [hb, wrap64_of (by omega) (by omega)]
  rw [e1]
  refine Ev.bind (evC (rknown_f _)) ?_
  by_cases hk : Kind.knownB c.toNat = true
  · exact evYes hk (rDec1 s hs q c _ hc (.inl hk))
  refine evNo hk (Ev.bind (evC (rexp_f _)) ?_)
  by_cases hx : expE c.toNat = true
  · rw [hx]
    exact rDec1 s hs q c _ hc (.inr hx)
  · have hx' : expE c.toNat = false := by simpa using hx
    rw [hx']
    refine Ev.step (fun k => shuttlecockref04_Decode.j1.eq_2 ..) (evYes rfl (evC ?_))
    have e0 : decC c ((lst s).drop (q + 1)) = (zE, 0, 30) := by
      unfold decC
      rw [if_neg (fun h => h.elim hk hx)]
    unfold decT
    rw [if_neg (by rw [hl]; omega), Int.toNat_natCast, hc, decS_cons, e0]
    rfl
end Go.Proofs.Ytgpnkgmghnmmjaa.EvS
