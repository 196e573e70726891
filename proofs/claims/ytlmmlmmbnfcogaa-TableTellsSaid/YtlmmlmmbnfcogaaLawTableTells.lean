-- printed by a program of this session (NOTES: hprint); not the kit's print
import Derived.Test.YtlmmlmmbnfcogaaRows
import Derived.Test.YtlmmlmmbnfcogaaQx21
import Derived.Test.YtlmmlmmbnfcogaaPureTableTells
import Derived.Test.YtlmmlmmbnfcogaaRowW
import Derived.WalkKit
import Derived.ProofKit
import Derived.OpenShut
import Derived.ShutString
import Derived.ChangeOld
import Derived.Below
import Derived.SizedLaws
import Derived.Test.YtlmmlmmbnfcogaaVSized
namespace Go.Proofs.Ytlmmlmmbnfcogaa.tableTells
open Go.ChangeShapes Go.WideShapes Go.ChangeAt Go.RowKit Go.Proofs.Ytlmmlmmbnfcogaa.Q Go.Proofs.YtlmmlmmbnfcogaaW.PrintWords Go.Proofs.YtlmmlmmbnfcogaaW.PrintLast Go.Proofs.YtlmmlmmbnfcogaaW.PrintMore
open Go.ChangeMaps (open_string shut_string)
set_option linter.unusedVariables false
set_option linter.unusedSimpArgs false
theorem own : ownKnob Try.prog.godebug = none := by kernel_rfl
theorem laidOut : laidOutB Try.prog = true := by kernel_rfl
set_option maxRecDepth 100000 in
theorem lifted (os : Os) (started : os.Started) (H : Type) (enc : TypeId × Value → H) :
    ReturnsInHanded {} Try.checked os 3 .any (Rows.tableTellsSpec.pre6 enc Try.prog Try.f3 Rows.tableTellsRow.domain false) (Rows.tableTellsSpec.post enc Try.prog Try.f3 false true false false) := by
  refine returnsInHanded_of_change_sized (C := Try.checked) own started (by kernel_rfl) Try.func3
    (ChangeSpec.witness6 (enc := enc) (C := Try.checked) false ⟨#[], #[.agg #[.slice none 0 0, .slice none 0 0], .agg #[.slice none 0 0, .slice none 0 0], .string ByteArray.empty], []⟩ 8 (by kernel_rfl) (by kernel_rfl) (by kernel_rfl) (by kernel_rfl)) ?_
  intro W base args ds gs before hval0 hW hcnd hsz0 _
  have hsz : (DataW.weightsEach Try.prog (Try.f3.params.toList ++ Rows.tableTellsSpec.plain.varTypes Try.prog) (ds ++ gs)).all (· ≤ reachBytes) = true := hsz0
  have hval : ∀ (j : Nat) t v, Try.f3.params[j]? = some t → args[j]? = some v → Value.okWide Try.prog W .any base t v := hval0
  have hW' := hW
  obtain ⟨p, q, hA0, hV, rfl, hfz, hnd⟩ := hW
  have hA : DataW.TrodAll enc Try.prog W 0 (fun _ => true) true Try.f3.params.toList args.toList ds p := hA0
  rw [Try.params3] at hA hval hsz
  obtain ⟨v0, vs0, d0, ds0, p0, q0, hargs, rfl, rfl, h0, r0⟩ := trodAll_cons hA
  obtain ⟨v1, vs1, d1, ds1, p1, q1, rfl, rfl, rfl, h1, r1⟩ := trodAll_cons r0
  obtain ⟨v2, vs2, d2, ds2, p2, q2, rfl, rfl, rfl, h2, r2⟩ := trodAll_cons r1
  obtain ⟨rfl, rfl, rfl⟩ := trodAll_nil r2
  obtain rfl : args = #[v0, v1, v2] := by cases args; simp_all
  obtain ⟨rfl, rfl⟩ := trodVars_none hV
  have k0 := h0
  have lt0 : ∀ x ∈ p0, x.block < W.heap.size := by obtain ⟨m, hm⟩ := k0; exact DataW.trod_lt m _ _ _ hm
  obtain ⟨m0, f0⟩ := h0
  obtain ⟨y0, c0, g0⟩ := ((Go.Proofs.YtlmmlmmbnfcogaaW.RowW.opens_iso (fun x : S25 => (x.f0, x.f1)) (fun y => (⟨y.1, y.2⟩ : S25)) (fun _ => rfl) (Go.Proofs.YtlmmlmmbnfcogaaW.RowW.opens_struct Try.underlying25 (by kernel_rfl) (Go.Proofs.YtlmmlmmbnfcogaaW.RowW.opensF_cons (Go.Proofs.YtlmmlmmbnfcogaaW.RowW.opens_slice Try.underlying22 (by kernel_rfl) (of_decide_eq_true (by kernel_rfl)) (Go.Proofs.YtlmmlmmbnfcogaaW.RowW.opens_string Try.underlying9 (by kernel_rfl))) rfl (Go.Proofs.YtlmmlmmbnfcogaaW.RowW.opensF_one (Go.Proofs.YtlmmlmmbnfcogaaW.RowW.opens_slice Try.underlying23 (by kernel_rfl) (of_decide_eq_true (by kernel_rfl)) (Go.Proofs.YtlmmlmmbnfcogaaW.RowW.opens_slice Try.underlying42 (by kernel_rfl) (of_decide_eq_true (by kernel_rfl)) (Go.Proofs.YtlmmlmmbnfcogaaW.RowW.opens_iso (fun x : S70 => (x.f0, x.f1)) (fun y => (⟨y.1, y.2⟩ : S70)) (fun _ => rfl) (Go.Proofs.YtlmmlmmbnfcogaaW.RowW.opens_array [{ name := "", type := 3, offset := 0, embedded := false, tag := "", pkgPath := "", byteOffset := 0 }, { name := "", type := 3, offset := 1, embedded := false, tag := "", pkgPath := "", byteOffset := 0 }] Try.underlying70 (by kernel_rfl) rfl (by intro i_ f_ h_; rcases i_ with _ | _ | _ <;> simp at h_ <;> subst h_ <;> exact ⟨rfl, by kernel_rfl⟩) (Go.Proofs.YtlmmlmmbnfcogaaW.RowW.opensF_cons (Go.Proofs.YtlmmlmmbnfcogaaW.RowW.opens_int Try.underlying3 (by kernel_rfl)) rfl (Go.Proofs.YtlmmlmmbnfcogaaW.RowW.opensF_one (Go.Proofs.YtlmmlmmbnfcogaaW.RowW.opens_int Try.underlying3 (by kernel_rfl)) rfl)))))) rfl))))).2 _ _ _ _ _ _ _ _ f0 (fun n_ hn_ => of_decide_eq_true (List.all_eq_true.1 hsz n_ (DataW.weights_mem_each (j := 0) (t := 25) (d := d0) rfl rfl n_ hn_)))
  obtain ⟨aa, rfl, _⟩ := okWide_struct Try.underlying25 (hval 0 25 v0 rfl rfl)
  obtain ⟨A0_0, c0_0, A0_1, c0_1, e0, hl0_0, hr0_0, hl0_1, hr0_1⟩ := k25_open c0
  simp only [Value.cells] at e0
  obtain rfl : aa = #[.slice A0_0 y0.f0.length c0_0, .slice A0_1 y0.f1.length c0_1] := by cases aa; simp_all
  have k1 := h1
  have lt1 : ∀ x ∈ p1, x.block < W.heap.size := by obtain ⟨m, hm⟩ := k1; exact DataW.trod_lt m _ _ _ hm
  obtain ⟨m1, f1⟩ := h1
  obtain ⟨y1, c1, g1⟩ := ((Go.Proofs.YtlmmlmmbnfcogaaW.RowW.opens_iso (fun x : S28 => (x.f0, x.f1)) (fun y => (⟨y.1, y.2⟩ : S28)) (fun _ => rfl) (Go.Proofs.YtlmmlmmbnfcogaaW.RowW.opens_struct Try.underlying28 (by kernel_rfl) (Go.Proofs.YtlmmlmmbnfcogaaW.RowW.opensF_cons (Go.Proofs.YtlmmlmmbnfcogaaW.RowW.opens_slice Try.underlying26 (by kernel_rfl) (of_decide_eq_true (by kernel_rfl)) (Go.Proofs.YtlmmlmmbnfcogaaW.RowW.opens_int Try.underlying3 (by kernel_rfl))) rfl (Go.Proofs.YtlmmlmmbnfcogaaW.RowW.opensF_one (Go.Proofs.YtlmmlmmbnfcogaaW.RowW.opens_slice Try.underlying26 (by kernel_rfl) (of_decide_eq_true (by kernel_rfl)) (Go.Proofs.YtlmmlmmbnfcogaaW.RowW.opens_int Try.underlying3 (by kernel_rfl))) rfl))))).2 _ _ _ _ _ _ _ _ f1 (fun n_ hn_ => of_decide_eq_true (List.all_eq_true.1 hsz n_ (DataW.weights_mem_each (j := 1) (t := 28) (d := d1) rfl rfl n_ hn_)))
  obtain ⟨aa, rfl, _⟩ := okWide_struct Try.underlying28 (hval 1 28 v1 rfl rfl)
  obtain ⟨A1_0, c1_0, A1_1, c1_1, e1, hl1_0, hr1_0, hl1_1, hr1_1⟩ := k28_open c1
  simp only [Value.cells] at e1
  obtain rfl : aa = #[.slice A1_0 y1.f0.length c1_0, .slice A1_1 y1.f1.length c1_1] := by cases aa; simp_all
  have k2 := h2
  have lt2 : ∀ x ∈ p2, x.block < W.heap.size := by obtain ⟨m, hm⟩ := k2; exact DataW.trod_lt m _ _ _ hm
  obtain ⟨m2, f2⟩ := h2
  obtain ⟨y2, c2, g2⟩ := ((Go.Proofs.YtlmmlmmbnfcogaaW.RowW.opens_string Try.underlying9 (by kernel_rfl))).2 _ _ _ _ _ _ _ _ f2 (fun n_ hn_ => of_decide_eq_true (List.all_eq_true.1 hsz n_ (DataW.weights_mem_each (j := 2) (t := 9) (d := d2) rfl rfl n_ hn_)))
  obtain ⟨aa, rfl⟩ := okWide_string Try.underlying9 (hval 2 9 v2 rfl rfl)
  have e2 : y2 = aa := by have e := c2; simp [Value.cells, Kd.int, Kd.bool, Kd.string, Kd.scalar] at e; exact e.symm
  subst e2
  clear hA0 hval0 hsz0 hsz
  obtain ⟨k, h⟩ := Pure.TableTells y0 y1 y2 g0 g1 g2
  refine (Q.shuttlecocklaw07_TableTells.calls k _ _ y0.f0 _ _ y0.f1 _ _ y1.f0 _ _ y1.f1 _ true W hr0_0 hl0_0 hr0_1 hl0_1 hr1_0 hl1_0 hr1_1 hl1_1 h).mono ?_
  rintro e W' ⟨rfl, bel0⟩
  have bel : Below W.heap.size W W' := bel0
  exact ⟨_, rfl, _, _, _, [], _, [], hW', trodAll_mk1 (shut_bool Try.underlying4 _), (trodAll_cons_mk (Below.trod laidOut (by kernel_rfl) (of_decide_eq_true (by kernel_rfl)) k0 bel lt0) (trodAll_cons_mk (Below.trod laidOut (by kernel_rfl) (of_decide_eq_true (by kernel_rfl)) k1 bel lt1) (trodAll_cons_mk (Below.trod laidOut (by kernel_rfl) (of_decide_eq_true (by kernel_rfl)) k2 bel lt2) trodAll_mk0))), rfl, bel.frame _, fun h => by cases h⟩
theorem over : Rows.tableTellsRow.holds Try.pinned (OpenSpec.ofChange Rows.tableTellsSpec) :=
  OpenClaim.holds_of_wide 3 Try.f3 rfl rfl rfl rfl rfl rfl rfl ⟨rfl, rfl, rfl, rfl, rfl⟩ rfl rfl rfl rfl rfl (by kernel_rfl) Try.func3 (by kernel_rfl)
    (of_decide_eq_true (by kernel_rfl)) (by unfold Func.isWrapper; first | (rw [if_pos (by decide +kernel)]; kernel_rfl) | (rw [if_neg (by decide +kernel)]; exact ⟨rfl, rfl⟩))
    (fun os started H enc _ => lifted os started H enc)
theorem proved : Rows.TableTellsSaid := over
#print axioms proved
end Go.Proofs.Ytlmmlmmbnfcogaa.tableTells
namespace Go.Proofs.Ytlmmlmmbnfcogaa
/-- The row, under a short name, for the claim. -/
theorem tableTells_holds : Rows.TableTellsSaid := tableTells.proved
end Go.Proofs.Ytlmmlmmbnfcogaa
