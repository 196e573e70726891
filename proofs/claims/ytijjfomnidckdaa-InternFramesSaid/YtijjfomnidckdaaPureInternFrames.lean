/- A stack's functions have numbers of their own; a stack of one frame more is another one. For every input. -/
import Derived.Test.YtijjfomnidckdaaQx10
import Derived.Test.YtijjfomnidckdaaEv
namespace Go.Proofs.Ytijjfomnidckdaa.Pure
open Go Go.RowKit Go.Proofs.Ytijjfomnidckdaa.Q Go.Proofs.YtijjfomnidckdaaW.PrintWords Go.Proofs.YtijjfomnidckdaaW.PrintLast Go.Proofs.YtijjfomnidckdaaW.PrintMore ShCore
theorem told_app {d : List ByteArray} {x : T2} {f : T4} : ∀ (st : List T2) (fs : List T4), TellF d st fs → Names d x.f0 f.f0 ∧ x.f1 = f.f1 → TellF d (st ++ [x]) (fs ++ [f])
  | [], [], _, h => ⟨h, trivial⟩
  | _ :: st, _ :: fs, h, k => ⟨h.1, told_app st fs h.2 k⟩
theorem told_split {d : List ByteArray} : ∀ (pre : List T4) (f : T4) (r : List T4) (st : List T2), TellF d st (pre ++ f :: r) → ∃ x ∈ st, Names d x.f0 f.f0
  | [], _, _, x :: _, h => ⟨x, by simp, h.1.1⟩
  | _ :: pre, f, r, _ :: st, h => by
    obtain ⟨x, hx, hn⟩ := told_split pre f r st h.2
    exact ⟨x, by simp [hx], hn⟩
  | [], _, _, [], h => (h : False).elim
  | _ :: _, _, _, [], h => (h : False).elim
def more : T4 := ⟨(⟨#[109, 111, 114, 101]⟩ : ByteArray), 1⟩
theorem frames_l0 {d : List ByteArray} {m : List (List T2)} (h : MayP d m) (hd : d.length ≤ 9000) (hml : m.length ≤ 9000) {fs : List T4} (h20 : fs.length ≤ 20) {st : List T2} {j : Nat} (hj : m[j]? = some st) (ht : TellF d st fs) (s : ByteArray) (i0 : Int) : ∀ (rest pre : List T4), fs = pre ++ rest → Ev (fun k => shuttlecocklaw06_InternFrames.l0 k ((j : Int) + 1) (pre.length : Int) s fs i0 d m) true
  | f :: r, pre, e => by
    have hl : pre.length < fs.length := by rw [e]; simp
    refine Ev.step (fun k => shuttlecocklaw06_InternFrames.l0.eq_2 ..) (evYes (by omega) (evYes (by omega) ?_))
    have ex : rd_T45 fs (pre.length : Int) = f := by rw [e]; exact rd4_mid pre f r
    rw [ex]
    obtain ⟨x, hx, hn⟩ := told_split pre f r st (by rw [← e]; exact ht)
    have h1 := ((framesB_iff st _).1 (h.2.2.2.2.1 st (get_mem hj))).2 x hx
    have t1 := intern_String.ev d m f.f0
    rw [StrT_again h hn] at t1
    refine Ev.bind t1 (evNo (by show ¬ x.f0 < 1; omega) (Ev.bind (same_ev h) (evYes rfl ?_)))
    rw [w_snoc pre f (by omega)]
    exact frames_l0 h hd hml h20 hj ht s i0 r (pre ++ [f]) (by rw [e]; exact mid_snoc pre f r)
  | [], pre, e => by
    have hl : pre.length = fs.length := by rw [e]; simp
    refine Ev.step (fun k => shuttlecocklaw06_InternFrames.l0.eq_2 ..) (evNo (by omega) (Ev.bind (Ev.now _) (evYes (by show 0 + _ < _; omega) (Ev.bind (Ev.now _) (Ev.bind (Ev.now _) (evYes (by simp; omega) ?_))))))
    have t1 := intern_Stack.ev d m (([] : List T4) ++ fs ++ [more]) (by simp; omega)
    have hne : (([] : List T4) ++ fs ++ [more]).length ≠ 0 := by simp
    rw [StkT_eq h hne, List.nil_append] at t1
    -- the strings: those that were, and 'more'
    obtain ⟨p1, p2, p3⟩ := stB_pre (fs ++ [more]) d h.fair
    have hnew := stB_new (fs ++ [more]) d h.fair
    have hsz : ∀ t ∈ (stB (fs ++ [more]) d).1, t.size ≤ 1000 := by
      intro t ht2
      rcases hnew t ht2 with h1 | ⟨g, hg, rfl⟩
      · exact (h.2.2.1 t h1).2
      · rcases List.mem_append.1 hg with h2 | h2
        · obtain ⟨pre2, r2, e2⟩ := List.append_of_mem h2
          obtain ⟨x, hx, hn⟩ := told_split pre2 g r2 st (by rw [← e2]; exact ht)
          rcases hn with ⟨_, h3⟩ | ⟨q, _, hq⟩
          · omega
          · exact (h.2.2.1 g.f0 (get_mem hq)).2
        · rw [List.mem_singleton.1 h2]
          decide
    have hlen := (stB_len (fs ++ [more]) d).2.2
    rw [List.length_append, List.length_singleton] at hlen
    have hp1 : MayP (stB (fs ++ [more]) d).1 m := h.more p1 p2 hsz (by omega)
    -- the stack
    have htl := TellF.len _ _ p3
    rw [List.length_append, List.length_singleton] at htl
    have hst := (framesB_iff st _).1 (h.2.2.2.2.1 st (get_mem hj))
    have hgood : framesB (stB (fs ++ [more]) d).2 (stB (fs ++ [more]) d).1.length = true := by
      rw [framesB_iff]
      refine ⟨by omega, ?_⟩
      have hmore : ∃ y : T2, TellF (stB (fs ++ [more]) d).1 (st ++ [y]) (fs ++ [more]) ∧ y.f1 = 1 ∧ ∃ q : Nat, y.f0 = (q : Int) + 1 ∧ q < (stB (fs ++ [more]) d).1.length := by
        have hm2 : more ∈ fs ++ [more] := by simp
        obtain ⟨x, hx, hn⟩ := told_split fs more [] _ p3
        rcases hn with ⟨_, h3⟩ | ⟨q, e1, hq⟩
        · exact absurd h3 (by decide)
        · exact ⟨⟨x.f0, 1⟩, told_app st fs (TellF.mono p1 st fs ht) ⟨.inr ⟨q, e1, hq⟩, rfl⟩, rfl, q, e1, get_lt hq⟩
      obtain ⟨y, hy, y1, q, y0, hq⟩ := hmore
      have e1 := TellF.fn p2 _ _ _ p3 hy
      rw [e1]
      have hle := p1.length_le
      intro x hx
      rcases List.mem_append.1 hx with h1 | h1
      · have := hst.2 x h1
        omega
      · rw [List.mem_singleton.1 h1, y0, y1]
        omega
    obtain ⟨l, e1, hl1, hp, hor⟩ := stkN_cases m h.2.2.2.2.2 (stB (fs ++ [more]) d).2
    have hp2 : MayP (stB (fs ++ [more]) d).1 (stkN m (stB (fs ++ [more]) d).2).1 := by
      rcases hor with e2 | ⟨hnm, e2⟩
      · rw [e2]; exact hp1
      · rw [e2]
        refine ⟨hp1.1, by rw [List.length_append, List.length_singleton]; omega, hp1.2.2.1, hp1.2.2.2.1, fun a ha => ?_, ?_⟩
        · rcases List.mem_append.1 ha with h1 | h1
          · exact hp1.2.2.2.2.1 a h1
          · rw [List.mem_singleton.1 h1]; exact hgood
        · rw [List.nodup_append]
          exact ⟨h.2.2.2.2.2, by simp, fun a ha b hb => by rw [List.mem_singleton.1 hb]; rintro rfl; exact hnm ha⟩
    rw [endT_yes _ hp2, e1] at t1
    have hne2 : l ≠ j := by
      rintro rfl
      have e2 := Option.some.inj (hl1.symm.trans (pre_get hp hj))
      have := TellF.len st fs ht
      rw [e2] at htl
      omega
    refine Ev.bind t1 (evNo (by show ¬ ((l : Int) + 1 = (j : Int) + 1); omega) ?_)
    have e3 : decide ((l : Int) + 1 > 0) = true := decide_eq_true (by omega)
    show Ev (fun _ => some (decide ((l : Int) + 1 > 0))) true
    rw [e3]
    exact Ev.now _
theorem InternFrames : shuttlecocklaw06_InternFrames.Pure := by
  rintro ⟨d, m⟩ ⟨s, fs, i⟩ ⟨⟨_, hd⟩, hm, hml⟩ ⟨_, ⟨_, hfl⟩, _⟩
  simp only at hd hm hml hfl
  have hb : ∀ l ∈ m, l.length < 4611686018427387904 := fun l hl => by have := (hm l hl).2; omega
  refine Ev.rounds (g := fun k => shuttlecocklaw06_InternFrames.f k d m s fs i) ?_
  have out : Ev (fun k => shuttlecocklaw06_InternFrames.j0 k true d m s fs i) true := Ev.step (fun k => shuttlecocklaw06_InternFrames.j0.eq_2 ..) (evYes rfl (Ev.bind ev_fixed (Ev.now _)))
  obtain ⟨b1, hb1, hq1⟩ := shuttlecockref06_Small.ev d m (by omega) (by omega)
  obtain ⟨b2, hb2, hq2⟩ := shuttlecockref06_Few.ev fs (by omega)
  refine Ev.bind ev_fixed (evYes rfl (Ev.bind hb1 ?_))
  cases b1 with
  | false => exact evNo Bool.false_ne_true out
  | true =>
  refine evYes rfl (Ev.bind (shuttlecockref06_May.ev d m hb) ?_)
  cases hmc : mayC d m with
  | false => exact evNo Bool.false_ne_true out
  | true =>
  have hp := (mayC_iff d m).1 hmc
  refine evYes rfl (Ev.bind hb2 ?_)
  cases b2 with
  | false => exact evNo Bool.false_ne_true out
  | true =>
  refine evYes rfl ?_
  have hsm := hq1 rfl
  by_cases c1 : (fs.length : Int) > 20
  · rw [decide_eq_true c1]; exact out
  rw [decide_eq_false c1]
  refine Ev.step (fun k => shuttlecocklaw06_InternFrames.j0.eq_2 ..) (evNo (by simp) ?_)
  have t1 := intern_Stack.ev d m fs (by omega)
  rcases StkT_cases hp fs with ⟨h0, e⟩ | e | ⟨d3, m3, st, j, h0, e, hp3, hd3, hm3, hj, ht, hl3⟩
  · rw [e] at t1
    exact Ev.bind t1 (evYes rfl (Ev.now _))
  · rw [e] at t1
    exact Ev.bind t1 (evYes rfl (Ev.now _))
  have hm3l : m3.length ≤ m.length + 1 := by
    have e2 := StkT_eq hp h0
    rw [e] at e2
    have hne : endT (stB fs d).1 (stkN m (stB fs d).2).1 (stkN m (stB fs d).2).2 ≠ nil3 := by
      rw [← e2]
      intro e3
      have := congrArg (fun t : Tab => t.2.2) e3
      simp only [nil3] at this
      omega
    by_cases hq : MayP (stB fs d).1 (stkN m (stB fs d).2).1
    · rw [endT_yes _ hq] at e2
      have e4 : m3 = (stkN m (stB fs d).2).1 := congrArg (fun t : Tab => t.2.1) e2
      rw [e4]
      unfold stkN
      split <;> simp
    · exact absurd (endT_no _ hq) hne
  rw [e] at t1
  refine Ev.bind t1 (evNo (by show ¬ ((j : Int) + 1 = 0); omega) ?_)
  exact frames_l0 hp3 (by have := hsm.2.1; omega) (by have := hsm.2.2; omega) (by omega) hj ht s i fs [] rfl
end Go.Proofs.Ytijjfomnidckdaa.Pure
