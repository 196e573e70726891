/- Of what is sealed the events, and their times, are those that were put, in order, each at its time. -/
import Derived.Test.YtgpnkgmghnmmjaaQx17
import Derived.Test.YtgpnkgmghnmmjaaEv
import Derived.Test.YtgpnkgmghnmmjaaBatR
import Derived.Test.YtgpnkgmghnmmjaaEvD
set_option linter.unusedVariables false
set_option linter.unusedSimpArgs false
namespace Go.Proofs.Ytgpnkgmghnmmjaa.Pure
open Go Go.RowKit Go.Proofs.Ytgpnkgmghnmmjaa.Q Go.Proofs.YtgpnkgmghnmmjaaW.PrintWords Go.Proofs.YtgpnkgmghnmmjaaW.PrintLast Go.Proofs.YtgpnkgmghnmmjaaW.PrintMore ShCore EvA EvB EvC EvD EvQ EvS BatA BatM BatN BatP BatR BufA BufB
/-- A buffer behind the first i events of l, put at ts. -/
structure BufSt (l : List ES) (ts : List Int) (i : Nat) (b la : Int) (s : ByteArray) (E : List ES) : Prop where
  len : E.length = i
  body : lst s = E.flatMap encE
  ok : ∀ e ∈ E, okE e
  same : ∀ (j : Nat) (h : j < E.length) (h' : j < l.length), E[j] = ⟨l[j].f0, E[j].f1, l[j].f2, l[j].f3⟩
  size : (E.flatMap encE).length ≤ 400 * i
  none : E = [] → b = 0 ∧ la = 0
  some : E ≠ [] → 0 ≤ b ∧ b < 4611686018427387904 ∧ sums b E = ts.take i ∧ endT b E = la ∧ ∀ t ∈ ts.take i, t < 4611686018427387904
theorem flat_ne {E : List ES} (h : ∀ e ∈ E, okE e) (hn : E ≠ []) : E.flatMap encE ≠ [] := by
  cases E with
  | nil => exact absurd rfl hn
  | cons e E =>
    obtain ⟨c, u, hc⟩ := enc_ne (h e (by simp))
    rw [List.flatMap_cons, hc]
    simp
theorem sums_snoc (now : Int) (E : List ES) (e : ES) : sums now (E ++ [e]) = sums now E ++ [endT now E + e.f1] := by rw [sums_append]; rfl
theorem endT_snoc (now : Int) (E : List ES) (e : ES) : endT now (E ++ [e]) = endT now E + e.f1 := by rw [endT_append]; rfl
theorem same_snoc {l E : List ES} {e : ES} (h : ∀ (j : Nat) (h : j < E.length) (h' : j < l.length), E[j] = ⟨l[j].f0, E[j].f1, l[j].f2, l[j].f3⟩) (hi : E.length < l.length) (he : e = ⟨l[E.length].f0, e.f1, l[E.length].f2, l[E.length].f3⟩) :
    ∀ (j : Nat) (h : j < (E ++ [e]).length) (h' : j < l.length), (E ++ [e])[j] = ⟨l[j].f0, (E ++ [e])[j].f1, l[j].f2, l[j].f3⟩ := by
  intro j hj hj'
  by_cases c : j < E.length
  · have := h j c hj'
    rw [List.getElem_append_left c]
    exact this
  · rw [List.length_append, List.length_singleton] at hj
    obtain rfl : j = E.length := by omega
    rw [List.getElem_append_right (by omega)]
    simpa using he
section
variable {l : List ES} {ts : List Int} (h60 : l.length ≤ 60) (hsm : ∀ e ∈ l, e.f2.length ≤ 20 ∧ e.f3.size ≤ 300) (hwf : ∀ e ∈ l, (Lit.int .i64 e.f0).wf = true) (hts : ts.length = l.length) (m : Int) (hm : 1 ≤ m ∧ m ≤ 1000)
include h60 hsm hts
theorem back19_l1 {E : List ES} (hE : E.length = l.length) (hsame : ∀ (j : Nat) (h : j < E.length) (h' : j < l.length), E[j] = ⟨l[j].f0, E[j].f1, l[j].f2, l[j].f3⟩) : ∀ (d i : Nat), i + d = l.length → Ev (fun k => shuttlecocklaw19_BufBack.l1 k l E i) true
  | 0, i, hi => Ev.step (fun k => shuttlecocklaw19_BufBack.l1.eq_2 ..) (evNo (by omega) (Ev.now _))
  | d + 1, i, hi => by
    have h : i < l.length := by omega
    have h' : i < E.length := by omega
    have ih := back19_l1 hE hsame d (i + 1) (by omega)
    refine Ev.step (fun k => shuttlecocklaw19_BufBack.l1.eq_2 ..) (evYes (by omega) (evYes (by omega) (evYes (by omega) ?_)))
    have hs := hsame i h' h
    have h3 := hsm _ (List.getElem_mem h)
    rw [rdE h, rdE h', nxt (by omega)]
    exact Ev.bind (Same.refl ⟨l[i].f0, E[i].f1, l[i].f2, l[i].f3⟩ E[i] hs.symm (by simp only; omega)) (evYes rfl ih)
include hm
theorem back19_end {b la : Int} {s : ByteArray} {E : List ES} (hst : BufSt l ts l.length b la s E) : Ev (fun k => shuttlecocklaw19_BufBack.l0 k m ts l (l.length : Int) m b la s) true := by
  have hl := lst_length s
  have e1 : wrap64 (m + 1) = m + 1 := wrap64_of (by omega) (by omega)
  refine Ev.step (fun k => shuttlecocklaw19_BufBack.l0.eq_2 ..) (evNo (by omega) (Ev.bind (evC (seal_f ..)) ?_))
  by_cases hE : E = []
  · have h0 : l.length = 0 := by rw [← hst.len, hE]; rfl
    have hb : lst s = [] := by rw [hst.body, hE]; rfl
    refine evYes (by omega) (evC ?_)
    unfold sealB
    rw [if_neg (fun h => h.2.1 hb)]
    rfl
  · have h0 : 0 < l.length := by rw [← hst.len]; exact List.length_pos_iff.2 hE
    obtain ⟨s1, s2, s3, s4, s5⟩ := hst.some hE
    have hne : lst s ≠ [] := by rw [hst.body]; exact flat_ne hst.ok hE
    have hsz : s.size ≤ 65536 := by
      rw [← hl, hst.body]
      have := hst.size
      omega
    have hmay : mayBt 1 (wrap64 (m + 1)) b s.size = true := by rw [mayBt_iff, e1]; omega
    have hts2 : ts.take l.length = ts := List.take_of_length_le (by omega)
    rw [hts2] at s3 s5
    have hev : evsT 1 (wrap64 (m + 1)) b (lst s) = (E, ts, 0, 0) := by
      unfold evsT
      rw [hl, hmay, hst.body, evsD_enc E _ b 0 hst.ok (by rw [s3]; exact s5) (by rw [← hst.body, hl]; exact Nat.le_refl _), s3]
      rfl
    refine evNo (by omega) ?_
    have hseal : sealB m b la s 1 = (1, wrap64 (m + 1), b, s, m, 0, 0, ⟨#[]⟩, true) := by
      unfold sealB
      rw [if_pos ⟨hm.1, hne, hmay⟩]
    rw [hseal]
    refine Ev.bind (rEvents 1 (wrap64 (m + 1)) b s) ?_
    rw [hev]
    refine evYes rfl (evYes rfl (evYes (by simp only [hst.len]) (Ev.bind (Ints.ev ts ts (by omega)) (evYes (decide_eq_true rfl) (evNo (by rw [toList_lst]; simp [lst]) ?_)))))
    simp only [bne_self_eq_false]
    refine Ev.step (fun k => shuttlecocklaw19_BufBack.j2.eq_2 ..) (evNo (by simp) ?_)
    exact back19_l1 h60 hsm hts hst.len hst.same l.length 0 (by omega)
include hwf
theorem back19_l0 : ∀ (d i : Nat), i + d = l.length → ∀ (b la : Int) (s : ByteArray) (E : List ES), BufSt l ts i b la s E → Ev (fun k => shuttlecocklaw19_BufBack.l0 k m ts l i m b la s) true
  | 0, i, hi, b, la, s, E, hst => by
    obtain rfl : i = l.length := by omega
    exact back19_end h60 hsm hts m hm hst
  | d + 1, i, hi, b, la, s, E, hst => by
    have h : i < l.length := by omega
    have h' : i < ts.length := by omega
    have hmem := List.getElem_mem h
    have h3 := hsm _ hmem
    have hl := lst_length s
    have hsz : s.size ≤ 400 * i := by rw [← hl, hst.body]; exact hst.size
    refine Ev.step (fun k => shuttlecocklaw19_BufBack.l0.eq_2 ..) (evYes (by omega) (evYes (by omega) (evYes (by omega) ?_)))
    rw [rdE h, rdI h', nxt (by omega)]
    refine Ev.bind (putEv (hwf _ hmem) l[i].f1 l[i].f2 l[i].f3 (by omega) s (by omega) ts[i] m b la) ?_
    have htake : ts.take (i + 1) = ts.take i ++ [ts[i]] := by rw [List.take_succ_eq_append_getElem h']
    unfold putB
    by_cases hf : fitsE ts[i] = true
    · rw [if_pos hf]
      have hfi := (fitsE_iff _).1 hf
      by_cases hE : E = []
      · have hb : lst s = [] := by rw [hst.body, hE]; rfl
        have hi0 : i = 0 := by rw [← hst.len, hE]; rfl
        rw [if_pos hb]
        cases hme : mayE l[i].f0 0 l[i].f2 l[i].f3 with
        | false => exact evNo (by simp) (Ev.now _)
        | true =>
          simp only [if_true]
          refine back19_l0 d (i + 1) (by omega) ts[i] ts[i] _ [⟨l[i].f0, 0, l[i].f2, l[i].f3⟩] ?_
          have hle := enc_lenM (e := ⟨l[i].f0, 0, l[i].f2, l[i].f3⟩) hme
          simp only at hle
          subst hE
          refine ⟨by simp [hi0], by rw [lst_arr]; simp, ?_, ?_, by simp; omega, fun h => by simp at h, fun _ => ⟨hfi.1, hfi.2, ?_, by simp [endT], ?_⟩⟩
          · intro e he
            rw [List.mem_singleton] at he
            subst he
            exact ⟨hme, by simp only; omega⟩
          · have := same_snoc (l := l) (E := []) (e := ⟨l[i].f0, 0, l[i].f2, l[i].f3⟩) (by simp) (by simp; omega) (by simp [hi0])
            exact this
          · rw [htake]
            simp [sums, hi0]
          · rw [htake]
            simp [hi0]
            subst hi0
            exact hfi.2
      · obtain ⟨s1, s2, s3, s4, s5⟩ := hst.some hE
        have hne : lst s ≠ [] := by rw [hst.body]; exact flat_ne hst.ok hE
        rw [if_neg hne]
        by_cases hlt : ts[i] < la
        · rw [if_pos hlt]
          exact evNo (by simp) (Ev.now _)
        rw [if_neg hlt]
        have hla : b ≤ la := by rw [← s4]; exact endT_from E b hst.ok
        have ew : wrap64 (ts[i] - la) = ts[i] - la := wrap64_of (by omega) (by omega)
        rw [ew]
        cases hme : mayE l[i].f0 (ts[i] - la) l[i].f2 l[i].f3 with
        | false => exact evNo (by simp) (Ev.now _)
        | true =>
          simp only [if_true]
          have hle := enc_lenM (e := ⟨l[i].f0, ts[i] - la, l[i].f2, l[i].f3⟩) hme
          simp only at hle
          refine back19_l0 d (i + 1) (by omega) b ts[i] _ (E ++ [⟨l[i].f0, ts[i] - la, l[i].f2, l[i].f3⟩]) ?_
          have hlenE := hst.len
          refine ⟨by simp [hst.len], by rw [lst_append, lst_arr, hst.body, List.flatMap_append]; simp, ?_, ?_, ?_, fun h => by simp at h, fun _ => ⟨s1, s2, ?_, ?_, ?_⟩⟩
          · intro e he
            rw [List.mem_append, List.mem_singleton] at he
            rcases he with he | rfl
            · exact hst.ok e he
            · exact ⟨hme, by simp only; omega⟩
          · refine same_snoc hst.same (by omega) ?_
            simp only [hlenE]
          · have h7 := hst.size
            have e7 : ((E ++ [(⟨l[i].f0, ts[i] - la, l[i].f2, l[i].f3⟩ : ES)]).flatMap encE).length = (E.flatMap encE).length + (encE ⟨l[i].f0, ts[i] - la, l[i].f2, l[i].f3⟩).length := by simp
            rw [e7]
            omega
          · rw [htake, sums_snoc, s3, s4, show la + (ts[i] - la) = ts[i] by omega]
          · rw [endT_snoc, s4]
            exact (by omega : la + (ts[i] - la) = ts[i])
          · intro t ht
            rw [htake, List.mem_append, List.mem_singleton] at ht
            rcases ht with ht | rfl
            · exact s5 t ht
            · exact hfi.2
    · rw [if_neg hf]
      exact evNo (by simp) (Ev.now _)
end
theorem BufBack : shuttlecocklaw19_BufBack.Pure := by
  intro m ts l hm hts hl
  refine Ev.rounds (g := fun k => shuttlecocklaw19_BufBack.f k m ts l) ?_
  have out : Ev (fun k => shuttlecocklaw19_BufBack.j0 k m ts l true) true :=
    Ev.step (fun k => shuttlecocklaw19_BufBack.j0.eq_2 ..) (evYes rfl (Ev.bind ev_fixed19 (Ev.now _)))
  unfold shuttlecocklaw19_BufBack.f
  refine Ev.bind ev_fixed19 (evYes rfl ?_)
  by_cases c0 : m < 1
  · exact evYes c0 out
  refine evNo c0 ?_
  by_cases c1 : m > 1000
  · exact evYes c1 out
  refine evNo c1 (Ev.bind (Short.ev l (by omega)) ?_)
  cases hs : shortB l with
  | false => exact evNo (by simp) out
  | true =>
    refine evYes rfl ?_
    simp only [shortB, shortE, Bool.and_eq_true, List.all_eq_true, decide_eq_true_eq] at hs
    obtain ⟨hsm, h60⟩ := hs
    by_cases c : (ts.length : Int) = (l.length : Int)
    · rw [show ((ts.length : Int) != (l.length : Int)) = false by simpa using c]
      refine Ev.step (fun k => shuttlecocklaw19_BufBack.j0.eq_2 ..) (evNo (by simp) ?_)
      refine back19_l0 h60 hsm (fun e he => (hl.1 e he).1) (by omega) m (by omega) l.length 0 (by omega) 0 0 ⟨#[]⟩ [] ?_
      exact ⟨rfl, rfl, by simp, by simp, by simp, fun _ => ⟨rfl, rfl⟩, fun h => absurd rfl h⟩
    · rw [show ((ts.length : Int) != (l.length : Int)) = true by simpa using c]
      exact out
end Go.Proofs.Ytgpnkgmghnmmjaa.Pure
