/- Events' bytes, one behind the other. For every input within the machine's sizes. -/
import Derived.Test.YtfcombimnmkoeaaQx9
import Derived.Test.YtfcombimnmkoeaaEvR
set_option linter.unusedVariables false
set_option linter.unusedSimpArgs false
namespace Go.Proofs.Ytfcombimnmkoeaa.BatH
open Go Go.RowKit Go.Proofs.Ytfcombimnmkoeaa.Q Go.Proofs.YtfcombimnmkoeaaW.PrintWords Go.Proofs.YtfcombimnmkoeaaW.PrintLast Go.Proofs.YtfcombimnmkoeaaW.PrintMore ShCore EvA EvB EvC EvQ EvR
theorem bytes0 (l : List ES) (hl : l.length ≤ 100000) (ha : ∀ e ∈ l, e.f2.length ≤ 100 ∧ e.f3.size ≤ 100000) : ∀ (d i : Nat), i + d = l.length → Ev (fun k => shuttlecockref04_Bytes.l0 k l (arr (off encE l i)) i) (arr (l.flatMap encE))
  | 0, i, hi => by
    refine Ev.step (fun k => shuttlecockref04_Bytes.l0.eq_2 ..) (evNo (by omega) (evC ?_))
    rw [show i = l.length by omega, off_all]
  | d + 1, i, hi => by
    have h : i < l.length := by omega
    have h3 := ha _ (List.getElem_mem h)
    have ih := bytes0 l hl ha d (i + 1) (by omega)
    have hoff := off_len encE l 200000 (fun e he => by have := enc_len e; have := ha e he; omega) i
    have he := enc_len l[i]
    refine Ev.step (fun k => shuttlecockref04_Bytes.l0.eq_2 ..) (evYes (by omega) (evYes (by omega) ?_))
    rw [rdE h]
    refine Ev.bind (rEncode l[i] (by omega) (by omega)) (evYes (by rw [size_arr, size_arr]; omega) ?_)
    rw [arr_append, ← off_succ encE l i l[i] (List.getElem?_eq_getElem h), nxt (by omega)]
    exact ih
theorem bytesEv (l : List ES) (hl : l.length ≤ 100000) (ha : ∀ e ∈ l, e.f2.length ≤ 100 ∧ e.f3.size ≤ 100000) : Ev (fun k => shuttlecockref04_Bytes.f k l) (arr (l.flatMap encE)) := by
  have := bytes0 l hl ha l.length 0 (by omega)
  rw [off_zero] at this
  exact this
end Go.Proofs.Ytfcombimnmkoeaa.BatH
