/- The document's events: what may be, the bytes. For every input. -/
import Derived.Test.YtfcombimnmkoeaaQx7
import Derived.Test.YtfcombimnmkoeaaQx8
import Derived.Test.YtfcombimnmkoeaaEvQ
import Derived.Test.YtfcombimnmkoeaaRefW
set_option linter.unusedVariables false
set_option linter.unusedSimpArgs false
namespace Go.Proofs.Ytfcombimnmkoeaa.EvR
open Go Go.RowKit Go.Proofs.Ytfcombimnmkoeaa.Q Go.Proofs.YtfcombimnmkoeaaW.PrintWords Go.Proofs.YtfcombimnmkoeaaW.PrintLast Go.Proofs.YtfcombimnmkoeaaW.PrintMore ShCore EvA EvB EvC EvQ
theorem rMay0 (a d : Int) (l : List Int) (t : ByteArray) (hl : l.length ≤ 1000000000000) : ∀ (n i : Nat), i + n = l.length → Ev (fun k => shuttlecockref04_May.l0 k i a d l t) ((!(l.drop i).any outE) && (Kind.knownB a && (((l.length : Int) == ((Kind.argsL a).length : Int)) && (t.toList == ([] : List UInt8)))))
  | 0, i, hi => by
    refine Ev.step (fun k => shuttlecockref04_May.l0.eq_2 ..) (evNo (by omega) ?_)
    rw [List.drop_eq_nil_of_le (by omega)]
    refine Ev.bind (evC (rknown_f a)) ?_
    cases hk : Kind.knownB a with
    | false => exact evNo (by simp) (Ev.now _)
    | true =>
      refine evYes rfl (Ev.bind (rArgs a) ?_)
      by_cases c : (l.length : Int) = ((Kind.argsL a).length : Int)
      · refine evYes c (evC ?_)
        simp [c]
      · refine evNo c (evC ?_)
        have : ((l.length : Int) == ((Kind.argsL a).length : Int)) = false := by simpa using c
        rw [this]
        rfl
  | n + 1, i, hi => by
    have h : i < l.length := by omega
    have ih := rMay0 a d l t hl n (i + 1) (by omega)
    refine Ev.step (fun k => shuttlecockref04_May.l0.eq_2 ..) (evYes (by omega) (evYes (by omega) (Ev.bind (evC (rfits_f _)) ?_)))
    rw [List.drop_eq_getElem_cons h, List.any_cons, rdI h, nxt (by omega)]
    cases hf : fitsE l[i] with
    | false =>
      refine evNo (by simp) (evC ?_)
      simp [outE, hf]
    | true =>
      refine evYes rfl ?_
      have : outE l[i] = false := by simp [outE, hf]
      rw [this, Bool.false_or]
      exact ih
theorem rMay (a d : Int) (l : List Int) (t : ByteArray) (hl : l.length ≤ 1000000000000) : Ev (fun k => shuttlecockref04_May.f k a d l t) (mayE a d l t) := by
  unfold shuttlecockref04_May.f mayE
  refine Ev.bind (evC (rfits_f d)) ?_
  by_cases hd : fitsE d = true
  · rw [if_pos hd]
    refine evYes hd (Ev.bind (evC (rexp_f a)) ?_)
    by_cases hx : expE a = true
    · rw [if_pos hx]
      exact evYes hx (Ev.now _)
    · rw [if_neg hx]
      refine evNo hx ?_
      have h := rMay0 a d l t hl l.length 0 (by omega)
      rw [List.drop_zero] at h
      have e : (Kind.knownB a && (t.toList == ([] : List UInt8)) && ((l.length : Int) == ((Kind.argsL a).length : Int)) && !l.any outE) = ((!l.any outE) && (Kind.knownB a && (((l.length : Int) == ((Kind.argsL a).length : Int)) && (t.toList == ([] : List UInt8))))) := by
        cases Kind.knownB a <;> cases (t.toList == ([] : List UInt8)) <;> cases ((l.length : Int) == ((Kind.argsL a).length : Int)) <;> cases l.any outE <;> rfl
      rw [e]
      exact h
  · rw [if_neg hd]
    exact evNo hd (Ev.now _)
theorem rEncode (e : ES) (hl : e.f2.length ≤ 1000000) (ht : e.f3.size ≤ 1000000) : Ev (fun k => shuttlecockref04_Encode.f k e.f0 e.f1 e.f2 e.f3) (arr (encE e)) := by
  obtain ⟨a, d, l, t⟩ := e
  simp only at hl ht
  unfold shuttlecockref04_Encode.f encE
  refine Ev.bind (rMay a d l t (by omega)) ?_
  cases hm : mayE a d l t with
  | false => exact evNo (by simp) (evC (by simp [arr]))
  | true =>
    have hk := mayE_kind hm
    have hcs := ((mayE_iff ..).1 hm).2
    have hp9 := put_len d
    refine evYes rfl (Ev.bind (evC rfl) (Ev.bind (shuttlecockref01_Put.ev d) ?_))
    rw [head_byte hk]
    simp only [if_true]
    refine evYes (by rw [size_arr, size_arr, List.length_singleton]; omega) (Ev.bind (evC (rexp_f a)) ?_)
    by_cases hx : expE a = true
    · refine evYes hx ?_
      have h9 := text_len (lst t)
      rw [lst_length] at h9
      refine Ev.bind (rText t (by omega)) ?_
      refine evYes (by rw [size_append', size_arr, size_arr, size_arr, List.length_singleton]; omega) ?_
      refine evC ?_
      rw [arr_append, arr_append]
      unfold encL
      rw [if_pos hx]
      simp
    · refine evNo hx ?_
      have hall := (hcs.resolve_left (fun h => hx h.1)).2.2.2.2
      have h9 := nums_size l
      refine Ev.bind (rNums l (by omega)) ?_
      refine evYes (by rw [size_append', size_arr, size_arr, size_arr, List.length_singleton]; omega) ?_
      refine evC ?_
      rw [arr_append, arr_append, numsL_fit hall]
      unfold encL
      rw [if_neg hx]
      simp
end Go.Proofs.Ytfcombimnmkoeaa.EvR
