/- Short names for words that the printed texts use often (written by a program of this session: minify.py). -/
import Derived.Test.YtlmmlmmbnfcogaaOwn
namespace Go.Proofs.Ytlmmlmmbnfcogaa.Q
open Go Go.RowKit Go.Proofs.YtlmmlmmbnfcogaaW.PrintWords Go.Proofs.YtlmmlmmbnfcogaaW.PrintLast Go.Proofs.YtlmmlmmbnfcogaaW.PrintMore
abbrev sI := @List.setIfInBounds_toArray
abbrev sZ := @List.set_cons_zero
abbrev sS := @List.set_cons_succ
abbrev pN := @pw_below_drewN
abbrev bl := @below_alloc
abbrev bs := @below_set
abbrev ba := @blk_alloc
abbrev bn := @blk_drewN
abbrev bd := @blk_drew
abbrev b1 := @below_drew1
abbrev bc := @blk_cell
abbrev bf := @blk_frozen
theorem Am {p : Prop} (h : p) : Aside0 p := Aside0.mk h
theorem ob {α β : Type} {o : Option α} {f : α → Option β} {b : β} (h : o.bind f = some b) : ∃ a, o = some a ∧ f a = some b := Option.bind_eq_some_iff.mp h
end Go.Proofs.Ytlmmlmmbnfcogaa.Q
