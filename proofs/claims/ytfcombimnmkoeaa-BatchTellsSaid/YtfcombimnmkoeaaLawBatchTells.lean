-- printed by a program of this session (NOTES: hprint); not the kit's print
import Derived.Test.YtfcombimnmkoeaaRows
import Derived.Test.YtfcombimnmkoeaaQx16
import Derived.Test.YtfcombimnmkoeaaPureBatchTells
import Derived.Test.YtfcombimnmkoeaaRowW
import Derived.WalkKit
import Derived.ProofKit
import Derived.OpenShut
import Derived.ShutString
import Derived.ChangeOld
import Derived.Below
import Derived.SizedLaws
import Derived.Test.YtfcombimnmkoeaaVSized
namespace Go.Proofs.Ytfcombimnmkoeaa.batchTells
open Go.ChangeShapes Go.WideShapes Go.ChangeAt Go.RowKit Go.Proofs.Ytfcombimnmkoeaa.Q Go.Proofs.YtfcombimnmkoeaaW.PrintWords Go.Proofs.YtfcombimnmkoeaaW.PrintLast Go.Proofs.YtfcombimnmkoeaaW.PrintMore
open Go.ChangeMaps (open_string shut_string)
set_option linter.unusedVariables false
set_option linter.unusedSimpArgs false
theorem own : ownKnob Try.prog.godebug = none := by kernel_rfl
theorem laidOut : laidOutB Try.prog = true := by kernel_rfl
set_option maxRecDepth 100000 in
theorem lifted (os : Os) (started : os.Started) (H : Type) (enc : TypeId × Value → H) :
    ReturnsInHanded {} Try.checked os 3 .any (Rows.batchTellsSpec.pre6 enc Try.prog Try.f3 Rows.batchTellsRow.domain false) (Rows.batchTellsSpec.post enc Try.prog Try.f3 false true false false) := by
  refine returnsInHanded_of_change_sized (C := Try.checked) own started (by kernel_rfl) Try.func3
    (ChangeSpec.witness6 (enc := enc) (C := Try.checked) false ⟨#[], #[.agg #[.int .i64 0, .int .i64 0, .int .i64 0, .string ByteArray.empty], .string ByteArray.empty, .int .i64 0], []⟩ 8 (by kernel_rfl) (by kernel_rfl) (by kernel_rfl) (by kernel_rfl)) ?_
  intro W base args ds gs before hval0 hW hcnd hsz0 _
  have hsz : (DataW.weightsEach Try.prog (Try.f3.params.toList ++ Rows.batchTellsSpec.plain.varTypes Try.prog) (ds ++ gs)).all (· ≤ reachBytes) = true := hsz0
  have hval : ∀ (j : Nat) t v, Try.f3.params[j]? = some t → args[j]? = some v → Value.okWide Try.prog W .any base t v := hval0
  have hW' := hW
  obtain ⟨p, q, hA0, hV, rfl, hfz, hnd⟩ := hW
  have hA : DataW.TrodAll enc Try.prog W 0 (fun _ => true) true Try.f3.params.toList args.toList ds p := hA0
  rw [Try.params3] at hA hval hsz
  obtain ⟨v0, vs0, d0, ds0, p0, q0, hargs, rfl, rfl, h0, r0⟩ := trodAll_cons hA
  obtain ⟨v1, vs1, d1, ds1, p1, q1, rfl, rfl, rfl, h1, r1⟩ := trodAll_cons r0
  obtain ⟨v2, vs2, d2, ds2, p2, q2, rfl, rfl, rfl, h2, r2⟩ := trodAll_cons r1
  obtain ⟨rfl, rfl, rfl⟩ := trodAll_nil r2
  obtain rfl : args = #[v0, v1, v2] := by cases args; simp_all
  obtain ⟨rfl, rfl⟩ := trodVars_none hV
  have k0 := h0
  have lt0 : ∀ x ∈ p0, x.block < W.heap.size := by obtain ⟨m, hm⟩ := k0; exact DataW.trod_lt m _ _ _ hm
  obtain ⟨m0, f0⟩ := h0
  obtain ⟨y0, c0, g0⟩ := ((Go.Proofs.YtfcombimnmkoeaaW.RowW.opens_iso (fun x : S23 => (x.f0, x.f1, x.f2, x.f3)) (fun y => (⟨y.1, y.2.1, y.2.2.1, y.2.2.2⟩ : S23)) (fun _ => rfl) (Go.Proofs.YtfcombimnmkoeaaW.RowW.opens_struct Try.underlying23 (by kernel_rfl) (Go.Proofs.YtfcombimnmkoeaaW.RowW.opensF_cons (Go.Proofs.YtfcombimnmkoeaaW.RowW.opens_int Try.underlying3 (by kernel_rfl)) rfl (Go.Proofs.YtfcombimnmkoeaaW.RowW.opensF_cons (Go.Proofs.YtfcombimnmkoeaaW.RowW.opens_int Try.underlying3 (by kernel_rfl)) rfl (Go.Proofs.YtfcombimnmkoeaaW.RowW.opensF_cons (Go.Proofs.YtfcombimnmkoeaaW.RowW.opens_int Try.underlying3 (by kernel_rfl)) rfl (Go.Proofs.YtfcombimnmkoeaaW.RowW.opensF_one (Go.Proofs.YtfcombimnmkoeaaW.RowW.opens_string Try.underlying9 (by kernel_rfl)) rfl))))))).2 _ _ _ _ _ _ _ _ f0 (fun n_ hn_ => of_decide_eq_true (List.all_eq_true.1 hsz n_ (DataW.weights_mem_each (j := 0) (t := 23) (d := d0) rfl rfl n_ hn_)))
  obtain ⟨aa, rfl, _⟩ := okWide_struct Try.underlying23 (hval 0 23 v0 rfl rfl)
  have e0 := k23_open c0
  simp only [Value.cells] at e0
  obtain rfl : aa = #[.int .i64 y0.f0, .int .i64 y0.f1, .int .i64 y0.f2, .string y0.f3] := by cases aa; simp_all
  have k1 := h1
  have lt1 : ∀ x ∈ p1, x.block < W.heap.size := by obtain ⟨m, hm⟩ := k1; exact DataW.trod_lt m _ _ _ hm
  obtain ⟨m1, f1⟩ := h1
  obtain ⟨y1, c1, g1⟩ := ((Go.Proofs.YtfcombimnmkoeaaW.RowW.opens_string Try.underlying9 (by kernel_rfl))).2 _ _ _ _ _ _ _ _ f1 (fun n_ hn_ => of_decide_eq_true (List.all_eq_true.1 hsz n_ (DataW.weights_mem_each (j := 1) (t := 9) (d := d1) rfl rfl n_ hn_)))
  obtain ⟨aa, rfl⟩ := okWide_string Try.underlying9 (hval 1 9 v1 rfl rfl)
  have e1 : y1 = aa := by have e := c1; simp [Value.cells, Kd.int, Kd.bool, Kd.string, Kd.scalar] at e; exact e.symm
  subst e1
  have k2 := h2
  have lt2 : ∀ x ∈ p2, x.block < W.heap.size := by obtain ⟨m, hm⟩ := k2; exact DataW.trod_lt m _ _ _ hm
  obtain ⟨m2, f2⟩ := h2
  obtain ⟨y2, c2, g2⟩ := ((Go.Proofs.YtfcombimnmkoeaaW.RowW.opens_int Try.underlying3 (by kernel_rfl))).2 _ _ _ _ _ _ _ _ f2 (fun n_ hn_ => of_decide_eq_true (List.all_eq_true.1 hsz n_ (DataW.weights_mem_each (j := 2) (t := 3) (d := d2) rfl rfl n_ hn_)))
  obtain ⟨aa, rfl⟩ := okWide_int Try.underlying3 (hval 2 3 v2 rfl rfl)
  have e2 : y2 = aa := by have e := c2; simp [Value.cells, Kd.int, Kd.bool, Kd.string, Kd.scalar] at e; exact e.symm
  subst e2
  clear hA0 hval0 hsz0 hsz
  obtain ⟨k, h⟩ := Pure.BatchTells y0 y1 y2 g0 g1 g2
  refine (Q.shuttlecocklaw05_BatchTells.calls k (y0.f0) (y0.f1) (y0.f2) (y0.f3) _ _ true W  h).mono ?_
  rintro e W' ⟨rfl, bel0⟩
  have bel : Below W.heap.size W W' := bel0
  exact ⟨_, rfl, _, _, _, [], _, [], hW', trodAll_mk1 (shut_bool Try.underlying4 _), (trodAll_cons_mk (Below.trod laidOut (by kernel_rfl) (of_decide_eq_true (by kernel_rfl)) k0 bel lt0) (trodAll_cons_mk (Below.trod laidOut (by kernel_rfl) (of_decide_eq_true (by kernel_rfl)) k1 bel lt1) (trodAll_cons_mk (Below.trod laidOut (by kernel_rfl) (of_decide_eq_true (by kernel_rfl)) k2 bel lt2) trodAll_mk0))), rfl, bel.frame _, fun h => by cases h⟩
theorem over : Rows.batchTellsRow.holds Try.pinned (OpenSpec.ofChange Rows.batchTellsSpec) :=
  OpenClaim.holds_of_wide 3 Try.f3 rfl rfl rfl rfl rfl rfl rfl ⟨rfl, rfl, rfl, rfl, rfl⟩ rfl rfl rfl rfl rfl (by kernel_rfl) Try.func3 (by kernel_rfl)
    (of_decide_eq_true (by kernel_rfl)) (by unfold Func.isWrapper; first | (rw [if_pos (by decide +kernel)]; kernel_rfl) | (rw [if_neg (by decide +kernel)]; exact ⟨rfl, rfl⟩))
    (fun os started H enc _ => lifted os started H enc)
theorem proved : Rows.BatchTellsSaid := over
#print axioms proved
end Go.Proofs.Ytfcombimnmkoeaa.batchTells
namespace Go.Proofs.Ytfcombimnmkoeaa
/-- The row, under a short name, for the claim. -/
theorem batchTells_holds : Rows.BatchTellsSaid := batchTells.proved
end Go.Proofs.Ytfcombimnmkoeaa
