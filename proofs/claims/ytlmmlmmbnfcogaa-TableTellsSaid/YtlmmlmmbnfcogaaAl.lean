/- Short names for words that the printed texts use often (written by a program of this session: minify.py). -/
import Derived.Test.YtlmmlmmbnfcogaaOwn
namespace Go.Proofs.Ytlmmlmmbnfcogaa.Q
open Go Go.RowKit Go.Proofs.YtlmmlmmbnfcogaaW.PrintWords Go.Proofs.YtlmmlmmbnfcogaaW.PrintLast Go.Proofs.YtlmmlmmbnfcogaaW.PrintMore
abbrev sI := @List.setIfInBounds_toArray
abbrev sZ := @List.set_cons_zero
abbrev sS := @List.set_cons_succ
abbrev pN := @pw_below_drewN
abbrev bl := @below_alloc
abbrev bs := @below_set
abbrev ba := @blk_alloc
abbrev bn := @blk_drewN
abbrev bd := @blk_drew
abbrev b1 := @below_drew1
abbrev bc := @blk_cell
abbrev bf := @blk_frozen
theorem Am {p : Prop} (h : p) : Aside0 p := Aside0.mk h
theorem ob {α β : Type} {o : Option α} {f : α → Option β} {b : β} (h : o.bind f = some b) : ∃ a, o = some a ∧ f a = some b := Option.bind_eq_some_iff.mp h
theorem z0 {p : Prop} (h : p := by repeat (first | (with_reducible first | exact HI0.out | apply IsS53.alloc | apply IsS53.drewN | apply IsS53.drew | apply IsS53.set_0 | apply IsS53.set_1 | apply IsS53.set_2 | apply IsS53.set_3) | exact HI0.out)) : p := h
theorem z1 {p : Prop} (h : p := by repeat (first | (with_reducible first | exact HK.out | apply KeepBut.set_ | apply keep_drewN | apply keep_drew | apply keep_alloc) | exact HK.out)) : p := h
theorem z2 {p : Prop} (h : p := by repeat (first | (with_reducible first | exact HB.out | apply bl | apply pN | apply b1 | refine bs ?_ (IsS53.ge HI0.out)) | exact HB.out | exact HBo.out)) : p := h
theorem z3 {p : Prop} (h : p := by repeat (first | (with_reducible first | exact HB.out | apply bl | apply pN | apply b1) | exact HB.out | exact HBo.out)) : p := h
theorem z4 {p : Prop} (h : p := by repeat (first | (with_reducible first | exact HI0.out | apply IsS77.alloc | apply IsS77.drewN | apply IsS77.drew | apply IsS77.set_0 | apply IsS77.set_1 | apply IsS77.set_2 | apply IsS77.set_3) | exact HI0.out)) : p := h
theorem z5 {p : Prop} (h : p := by repeat (first | (with_reducible first | exact HB.out | apply bl | apply pN | apply b1 | refine bs ?_ (IsS77.ge HI0.out)) | exact HB.out | exact HBo.out)) : p := h
theorem z6 {p : Prop} (h : p := by repeat (first | (with_reducible first | exact HI309.out | apply IsS53.alloc | apply IsS53.drewN | apply IsS53.drew | apply IsS53.set_0 | apply IsS53.set_1 | apply IsS53.set_2 | apply IsS53.set_3 | refine IsS53.far ?_ NB309_308.out _) | exact HI309.out)) : p := h
theorem z7 {p : Prop} (h : p := by repeat (first | (with_reducible first | exact HB.out | apply bl | apply pN | apply b1 | refine bs ?_ (IsS53.ge HI309.out) | refine bs ?_ GE308.out) | exact HB.out | exact HBo.out)) : p := h
theorem z8 {p : Prop} (h : p := by repeat (first | (with_reducible first | exact HB.out | apply bl | apply pN | apply b1 | refine bs ?_ GE339.out) | exact HB.out | exact HBo.out)) : p := h
theorem z9 {p : Prop} (h : p := by repeat (first | (with_reducible first | exact HB.out | apply bl | apply pN | apply b1 | refine bs ?_ GE191.out) | exact HB.out | exact HBo.out)) : p := h
theorem z10 {p : Prop} (h : p := by repeat (first | (with_reducible first | exact HB.out | apply bl | apply pN | apply b1 | refine bs ?_ GE386.out | refine bs ?_ GE387.out) | exact HB.out | exact HBo.out)) : p := h
theorem z11 {p : Prop} (h : p := by repeat (first | (with_reducible first | exact HB.out | apply bl | apply pN | apply b1 | refine bs ?_ GE308.out) | exact HB.out | exact HBo.out)) : p := h
theorem z12 {p : Prop} (h : p := by repeat (first | (with_reducible first | exact HB.out | apply bl | apply pN | apply b1 | refine bs ?_ GE386.out | refine bs ?_ GE387.out | refine bs ?_ GE398.out | refine bs ?_ GE407.out) | exact HB.out | exact HBo.out)) : p := h
theorem z13 {p : Prop} (h : p := by repeat (first | (with_reducible first | exact HB.out | apply bl | apply pN | apply b1 | refine bs ?_ GE171.out | refine bs ?_ GE172.out) | exact HB.out | exact HBo.out)) : p := h
theorem z14 {p : Prop} (h : p := by repeat (first | (with_reducible first | exact HB.out | apply bl | apply pN | apply b1 | refine bs ?_ GE178.out) | exact HB.out | exact HBo.out)) : p := h
theorem z15 {p : Prop} (h : p := by repeat (first | (with_reducible first | exact HB.out | apply bl | apply pN | apply b1 | refine bs ?_ GE101.out) | exact HB.out | exact HBo.out)) : p := h
theorem z16 {p : Prop} (h : p := by repeat (first | (with_reducible first | exact HB.out | apply bl | apply pN | apply b1 | refine bs ?_ (IsS53.ge HI309.out) | refine bs ?_ GE308.out | refine bs ?_ GE328.out) | exact HB.out | exact HBo.out)) : p := h
theorem z17 {p : Prop} (h : p := by repeat (first | (with_reducible first | exact HB.out | apply bl | apply pN | apply b1 | refine bs ?_ GE386.out | refine bs ?_ GE387.out | refine bs ?_ GE398.out) | exact HB.out | exact HBo.out)) : p := h
theorem z18 {p : Prop} (h : p := by repeat (first | (with_reducible first | exact HB.out | apply bl | apply pN | apply b1 | refine bs ?_ GE378.out) | exact HB.out | exact HBo.out)) : p := h
theorem z19 {p : Prop} (h : p := by repeat (first | (with_reducible first | exact HB.out | apply bl | apply pN | apply b1 | refine bs ?_ GE161.out) | exact HB.out | exact HBo.out)) : p := h
theorem z20 {p : Prop} (h : p := by repeat (first | (with_reducible first | exact HB.out | apply bl | apply pN | apply b1 | refine bs ?_ GE171.out) | exact HB.out | exact HBo.out)) : p := h
theorem z21 {p : Prop} (h : p := by repeat (first | (with_reducible first | exact HI309.out | apply IsS53.alloc | apply IsS53.drewN | apply IsS53.drew | apply IsS53.set_0 | apply IsS53.set_1 | apply IsS53.set_2 | apply IsS53.set_3 | refine IsS53.far ?_ NB309_308.out _ | refine IsS53.far ?_ NB309_328.out _) | exact HI309.out)) : p := h
theorem z22 {p : Prop} (h : p := by repeat (first | (with_reducible first | exact HB.out | apply bl | apply pN | apply b1 | refine bs ?_ GE386.out) | exact HB.out | exact HBo.out)) : p := h
theorem z23 {p : Prop} (h : p := by repeat (first | (with_reducible first | exact HBW.out | apply bl | apply pN | apply b1) | exact HBW.out)) : p := h
theorem y0 {p : Prop} (h : p := by first | rfl | (simp <;> rfl) | (simp [*] <;> rfl) | (simp [Aid.ne_nil, Aid.eq_nil]; done)) : p := h
theorem y1 {p : Prop} (h : p := by first | rfl | (simp [errW_none, errW_some] <;> rfl) | (simp [*, errW_none, errW_some] <;> rfl) | (simp [Aid.ne_nil, Aid.eq_nil, errW_none, errW_some]; done)) : p := h
theorem dz {p : Prop} [Decidable p] (h : decide p = true := by first | (with_reducible assumption) | assumption) : p := of_decide_eq_true h
end Go.Proofs.Ytlmmlmmbnfcogaa.Q
