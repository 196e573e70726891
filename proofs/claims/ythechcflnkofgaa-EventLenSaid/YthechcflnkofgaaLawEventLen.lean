-- printed by a program of this session (NOTES: hprint); not the kit's print
import Derived.Test.YthechcflnkofgaaRows
import Derived.Test.YthechcflnkofgaaQx9
import Derived.Test.YthechcflnkofgaaPureEventLen
import Derived.Test.YthechcflnkofgaaRowW
import Derived.WalkKit
import Derived.ProofKit
import Derived.OpenShut
import Derived.ShutString
import Derived.ChangeOld
import Derived.Below
import Derived.SizedLaws
import Derived.Test.YthechcflnkofgaaVSized
namespace Go.Proofs.Ythechcflnkofgaa.eventLen
open Go.ChangeShapes Go.WideShapes Go.ChangeAt Go.RowKit Go.Proofs.Ythechcflnkofgaa.Q Go.Proofs.YthechcflnkofgaaW.PrintWords Go.Proofs.YthechcflnkofgaaW.PrintLast Go.Proofs.YthechcflnkofgaaW.PrintMore
open Go.ChangeMaps (open_string shut_string)
set_option linter.unusedVariables false
set_option linter.unusedSimpArgs false
theorem own : ownKnob Try.prog.godebug = none := by kernel_rfl
theorem laidOut : laidOutB Try.prog = true := by kernel_rfl
set_option maxRecDepth 100000 in
theorem lifted (os : Os) (started : os.Started) (H : Type) (enc : TypeId × Value → H) :
    ReturnsInHanded {} Try.checked os 5 .any (Rows.eventLenSpec.pre6 enc Try.prog Try.f5 Rows.eventLenRow.domain false) (Rows.eventLenSpec.post enc Try.prog Try.f5 false true false false) := by
  refine returnsInHanded_of_change_sized (C := Try.checked) own started (by kernel_rfl) Try.func5
    (ChangeSpec.witness6 (enc := enc) (C := Try.checked) false ⟨#[], #[.agg #[.int .i64 0, .int .i64 0, .slice none 0 0, .string ByteArray.empty], .int .i64 0], []⟩ 8 (by kernel_rfl) (by kernel_rfl) (by kernel_rfl) (by kernel_rfl)) ?_
  intro W base args ds gs before hval0 hW hcnd hsz0 _
  have hsz : (DataW.weightsEach Try.prog (Try.f5.params.toList ++ Rows.eventLenSpec.plain.varTypes Try.prog) (ds ++ gs)).all (· ≤ reachBytes) = true := hsz0
  have hval : ∀ (j : Nat) t v, Try.f5.params[j]? = some t → args[j]? = some v → Value.okWide Try.prog W .any base t v := hval0
  have hW' := hW
  obtain ⟨p, q, hA0, hV, rfl, hfz, hnd⟩ := hW
  have hA : DataW.TrodAll enc Try.prog W 0 (fun _ => true) true Try.f5.params.toList args.toList ds p := hA0
  rw [Try.params5] at hA hval hsz
  obtain ⟨v0, vs0, d0, ds0, p0, q0, hargs, rfl, rfl, h0, r0⟩ := trodAll_cons hA
  obtain ⟨v1, vs1, d1, ds1, p1, q1, rfl, rfl, rfl, h1, r1⟩ := trodAll_cons r0
  obtain ⟨rfl, rfl, rfl⟩ := trodAll_nil r1
  obtain rfl : args = #[v0, v1] := by cases args; simp_all
  obtain ⟨rfl, rfl⟩ := trodVars_none hV
  have k0 := h0
  have lt0 : ∀ x ∈ p0, x.block < W.heap.size := by obtain ⟨m, hm⟩ := k0; exact DataW.trod_lt m _ _ _ hm
  obtain ⟨m0, f0⟩ := h0
  obtain ⟨y0, c0, g0⟩ := ((Go.Proofs.YthechcflnkofgaaW.RowW.opens_iso (fun x : S24 => (x.f0, x.f1, x.f2, x.f3)) (fun y => (⟨y.1, y.2.1, y.2.2.1, y.2.2.2⟩ : S24)) (fun _ => rfl) (Go.Proofs.YthechcflnkofgaaW.RowW.opens_struct Try.underlying24 (by kernel_rfl) (Go.Proofs.YthechcflnkofgaaW.RowW.opensF_cons (Go.Proofs.YthechcflnkofgaaW.RowW.opens_int Try.underlying3 (by kernel_rfl)) rfl (Go.Proofs.YthechcflnkofgaaW.RowW.opensF_cons (Go.Proofs.YthechcflnkofgaaW.RowW.opens_int Try.underlying3 (by kernel_rfl)) rfl (Go.Proofs.YthechcflnkofgaaW.RowW.opensF_cons (Go.Proofs.YthechcflnkofgaaW.RowW.opens_slice Try.underlying22 (by kernel_rfl) (of_decide_eq_true (by kernel_rfl)) (Go.Proofs.YthechcflnkofgaaW.RowW.opens_int Try.underlying3 (by kernel_rfl))) rfl (Go.Proofs.YthechcflnkofgaaW.RowW.opensF_one (Go.Proofs.YthechcflnkofgaaW.RowW.opens_string Try.underlying9 (by kernel_rfl)) rfl))))))).2 _ _ _ _ _ _ _ _ f0 (fun n_ hn_ => of_decide_eq_true (List.all_eq_true.1 hsz n_ (DataW.weights_mem_each (j := 0) (t := 24) (d := d0) rfl rfl n_ hn_)))
  obtain ⟨aa, rfl, _⟩ := okWide_struct Try.underlying24 (hval 0 24 v0 rfl rfl)
  obtain ⟨A0_2, c0_2, e0, hl0_2, hr0_2⟩ := k24_open c0
  simp only [Value.cells] at e0
  obtain rfl : aa = #[.int .i64 y0.f0, .int .i64 y0.f1, .slice A0_2 y0.f2.length c0_2, .string y0.f3] := by cases aa; simp_all
  have k1 := h1
  have lt1 : ∀ x ∈ p1, x.block < W.heap.size := by obtain ⟨m, hm⟩ := k1; exact DataW.trod_lt m _ _ _ hm
  obtain ⟨m1, f1⟩ := h1
  obtain ⟨y1, c1, g1⟩ := ((Go.Proofs.YthechcflnkofgaaW.RowW.opens_int Try.underlying3 (by kernel_rfl))).2 _ _ _ _ _ _ _ _ f1 (fun n_ hn_ => of_decide_eq_true (List.all_eq_true.1 hsz n_ (DataW.weights_mem_each (j := 1) (t := 3) (d := d1) rfl rfl n_ hn_)))
  obtain ⟨aa, rfl⟩ := okWide_int Try.underlying3 (hval 1 3 v1 rfl rfl)
  have e1 : y1 = aa := by have e := c1; simp [Value.cells, Kd.int, Kd.bool, Kd.string, Kd.scalar] at e; exact e.symm
  subst e1
  clear hA0 hval0 hsz0 hsz
  obtain ⟨k, h⟩ := Pure.EventLen y0 y1 g0 g1
  refine (Q.shuttlecocklaw04_EventLen.calls k (y0.f0) (y0.f1) (fun k_ => k_ < W.heap.size) _ _ y0.f2 (y0.f3) _ true W (Kd.V_mk hl0_2 (Kd.C_F (Kd.heap_int .i64) hr0_2)) h).mono ?_
  rintro e W' ⟨rfl, bel0⟩
  have bel : Below W.heap.size W W' := bel0
  exact ⟨_, rfl, _, _, _, [], _, [], hW', trodAll_mk1 (shut_bool Try.underlying4 _), (trodAll_cons_mk (Below.trod laidOut (by kernel_rfl) (of_decide_eq_true (by kernel_rfl)) k0 bel lt0) (trodAll_cons_mk (Below.trod laidOut (by kernel_rfl) (of_decide_eq_true (by kernel_rfl)) k1 bel lt1) trodAll_mk0)), rfl, bel.frame _, fun h => by cases h⟩
theorem over : Rows.eventLenRow.holds Try.pinned (OpenSpec.ofChange Rows.eventLenSpec) :=
  OpenClaim.holds_of_wide 5 Try.f5 rfl rfl rfl rfl rfl rfl rfl ⟨rfl, rfl, rfl, rfl, rfl⟩ rfl rfl rfl rfl rfl (by kernel_rfl) Try.func5 (by kernel_rfl)
    (of_decide_eq_true (by kernel_rfl)) (by unfold Func.isWrapper; first | (rw [if_pos (by decide +kernel)]; kernel_rfl) | (rw [if_neg (by decide +kernel)]; exact ⟨rfl, rfl⟩))
    (fun os started H enc _ => lifted os started H enc)
theorem proved : Rows.EventLenSaid := over
#print axioms proved
end Go.Proofs.Ythechcflnkofgaa.eventLen
namespace Go.Proofs.Ythechcflnkofgaa
/-- The row, under a short name, for the claim. -/
theorem eventLen_holds : Rows.EventLenSaid := eventLen.proved
end Go.Proofs.Ythechcflnkofgaa
