/- Batches that may be, one behind the other, are decoded as they were; what is decoded may be, and its bytes are those that stood there; cut off it is too short. -/
import Derived.Test.YtfcombimnmkoeaaQx17
import Derived.Test.YtfcombimnmkoeaaEv
set_option linter.unusedVariables false
set_option linter.unusedSimpArgs false
namespace Go.Proofs.Ytfcombimnmkoeaa.Pure
open Go Go.RowKit Go.Proofs.Ytfcombimnmkoeaa.Q Go.Proofs.YtfcombimnmkoeaaW.PrintWords Go.Proofs.YtfcombimnmkoeaaW.PrintLast Go.Proofs.YtfcombimnmkoeaaW.PrintMore ShCore EvA EvB EvC BatA BatM BatP BatC BatD
theorem decBT_enc (pre rest : List UInt8) (g st b : Int) (s : ByteArray) (h : mayBt g st b s.size = true) : decBT (pre ++ encB g st b (lst s) ++ rest) (pre.length : Int) = (g, st, b, s, ((pre.length + (encB g st b (lst s)).length : Nat) : Int), 0) := by
  unfold decBT
  rw [if_neg (by simp only [List.length_append]; omega), Int.toNat_natCast, List.append_assoc, List.drop_left, decB_enc g st b (lst s) rest (by rw [lst_length]; exact h)]
  simp
theorem decBT_cut (g st b : Int) (s : ByteArray) (h : mayBt g st b s.size = true) (c : Nat) (hc : c < (encB g st b (lst s)).length) : decBT ((encB g st b (lst s)).take c) 0 = (0, 0, 0, ⟨#[]⟩, 0, 10) := by
  unfold decBT
  rw [if_neg (by omega), show (0 : Int).toNat = 0 from rfl, List.drop_zero, decB_cut g st b (lst s) (by rw [lst_length]; exact h) c hc]
  simp
theorem BatchBack : shuttlecocklaw05_BatchBack.Pure := by
  rintro ⟨⟨g, st, b, s⟩, ⟨g2, st2, b2, s2⟩⟩ t cut h0 h1 h2
  simp only at h0
  have hl := lst_length s
  have hl2 := lst_length s2
  have hlt := lst_length t
  refine Ev.rounds (g := fun k => shuttlecocklaw05_BatchBack.f k g st b s g2 st2 b2 s2 t cut) ?_
  have out : Ev (fun k => shuttlecocklaw05_BatchBack.j0 k t cut true g st b s g2 st2 b2 s2) true :=
    Ev.step (fun k => shuttlecocklaw05_BatchBack.j0.eq_2 ..) (evYes rfl (Ev.bind ev_fixed05 (Ev.now _)))
  unfold shuttlecocklaw05_BatchBack.f
  refine Ev.bind ev_fixed05 (evYes rfl ?_)
  by_cases c0 : (s.size : Int) > 3000
  · exact evYes c0 out
  refine evNo c0 ?_
  by_cases c1 : (s2.size : Int) > 3000
  · exact evYes c1 out
  refine evNo c1 ?_
  by_cases c2 : (t.size : Int) > 5000
  · rw [decide_eq_true c2]
    exact out
  rw [decide_eq_false c2]
  have main : Ev (fun k => shuttlecocklaw05_BatchBack.j1 k cut false g st b s g2 st2 b2 s2) true := by
    have stop : Ev (fun k => shuttlecocklaw05_BatchBack.j2 k cut true g st b s g2 st2 b2 s2) true :=
      Ev.step (fun k => shuttlecocklaw05_BatchBack.j2.eq_2 ..) (evYes rfl (Ev.now _))
    refine Ev.step (fun k => shuttlecocklaw05_BatchBack.j1.eq_2 ..) (evNo (by simp) (Ev.bind (evC (bmay_f ..)) ?_))
    by_cases m1 : mayBt g st b s.size = true
    · refine evYes m1 (Ev.bind (evC (bmay_f ..)) ?_)
      by_cases m2 : mayBt g2 st2 b2 s2.size = true
      · rw [m2]
        have n1 := encB_len g st b (lst s)
        have n2 := encB_len g2 st2 b2 (lst s2)
        have d1 := decBT_enc [] (encB g2 st2 b2 (lst s2)) g st b s m1
        have d2 := decBT_enc (encB g st b (lst s)) [] g2 st2 b2 s2 m2
        rw [List.nil_append, List.length_nil, Nat.zero_add] at d1
        rw [List.append_nil] at d2
        have ha : ∀ (x : ByteArray), (arr (encB g st b (lst s)) ++ arr (encB g2 st2 b2 (lst s2))).size = (encB g st b (lst s)).length + (encB g2 st2 b2 (lst s2)).length := fun _ => by rw [size_append', size_arr, size_arr]
        have hla : lst (arr (encB g st b (lst s)) ++ arr (encB g2 st2 b2 (lst s2))) = encB g st b (lst s) ++ encB g2 st2 b2 (lst s2) := by rw [lst_append, lst_arr, lst_arr]
        have D1 := decEv (arr (encB g st b (lst s)) ++ arr (encB g2 st2 b2 (lst s2))) 0 (by rw [ha ⟨#[]⟩]; omega)
        have D2 := decEv (arr (encB g st b (lst s)) ++ arr (encB g2 st2 b2 (lst s2))) ((encB g st b (lst s)).length : Int) (by rw [ha ⟨#[]⟩]; omega)
        rw [hla] at D1 D2
        rw [show ((0 : Nat) : Int) = 0 from rfl] at d1
        rw [d1] at D1
        rw [d2] at D2
        refine Ev.step (fun k => shuttlecocklaw05_BatchBack.j2.eq_2 ..) (evNo (by simp) ?_)
        refine Ev.bind (encEv g st b s) (Ev.bind (encEv g2 st2 b2 s2) (evYes (by rw [size_arr, size_arr]; omega) (Ev.bind D1 (Ev.bind (encEv g2 st2 b2 s2) (evYes (by rw [size_arr, size_arr]; omega) (Ev.bind D2 ?_))))))
        have ew : wrap64 (((encB g st b (lst s)).length : Int) + ((arr (encB g2 st2 b2 (lst s2))).size : Int)) = (((encB g st b (lst s)).length + (encB g2 st2 b2 (lst s2)).length : Nat) : Int) := by
          rw [size_arr, wrap64_of (by omega) (by omega)]
          omega
        refine evYes rfl (evYes rfl (evNo (by simp) (evNo (by simp) (evYes (by rw [size_arr]) (Ev.bind (encEv g2 st2 b2 s2) ?_)))))
        simp only [ew, bne_self_eq_false]
        refine Ev.step (fun k => shuttlecocklaw05_BatchBack.j3.eq_2 ..) (evNo (by simp) ?_)
        by_cases k0 : cut < 0
        · exact evYes k0 (Ev.now _)
        refine evNo k0 ?_
        rw [size_arr]
        by_cases k1 : cut ≥ ((encB g st b (lst s)).length : Int)
        · exact evYes k1 (Ev.now _)
        refine evNo k1 (evYes (by omega) (evYes (by omega) ?_))
        have hx : lst ((arr (encB g st b (lst s))).extract 0 cut.toNat) = (encB g st b (lst s)).take cut.toNat := by
          rw [lst_extract, lst_arr, List.drop_zero, Nat.sub_zero]
        have D3 := decEv ((arr (encB g st b (lst s))).extract 0 cut.toNat) 0 (by
          rw [← lst_length, hx, List.length_take]
          omega)
        rw [hx, decBT_cut g st b s m1 cut.toNat (by omega)] at D3
        exact Ev.bind D3 (Ev.now _)
      · rw [Bool.not_eq_true] at m2
        rw [m2]
        exact stop
    · exact evNo m1 stop
  refine Ev.step (fun k => shuttlecocklaw05_BatchBack.j0.eq_2 ..) (evNo (by simp) (Ev.bind (decEv t 0 (by omega)) ?_))
  unfold decBT
  rw [if_neg (by omega), show (0 : Int).toNat = 0 from rfl, List.drop_zero]
  by_cases h0 : (decB (lst t)).2.2 = 0
  · obtain ⟨b1, b2, b3⟩ := decB_back _ h0
    rw [if_pos h0]
    rw [hlt] at b3
    refine evYes rfl (Ev.bind (evC (bmay_f ..)) (evYes (by rw [size_arr]; exact b1) (evNo (by simp only; omega) (Ev.bind (encEv ..) ?_))))
    have emn : mn ((0 : Int) + (((decB (lst t)).2.1 : Nat) : Int)) (t.size : Int) = (((decB (lst t)).2.1 : Nat) : Int) := by
      unfold mn
      split <;> omega
    simp only [emn]
    refine evYes (by omega) (evYes (by omega) ?_)
    rw [toList_lst, toList_lst, lst_arr, lst_arr, lst_extract, List.drop_zero, Int.toNat_natCast, Nat.sub_zero, b2]
    simp only [bne_self_eq_false]
    exact main
  · rw [if_neg h0]
    exact evNo (by simp only; omega) main
end Go.Proofs.Ytfcombimnmkoeaa.Pure
