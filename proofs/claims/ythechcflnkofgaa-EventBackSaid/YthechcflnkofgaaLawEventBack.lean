-- printed by a program of this session (NOTES: hprint); not the kit's print
import Derived.Test.YthechcflnkofgaaRows
import Derived.Test.YthechcflnkofgaaQx15
import Derived.Test.YthechcflnkofgaaPureEventBack
import Derived.Test.YthechcflnkofgaaRowK
import Derived.WalkKit
import Derived.ProofKit
import Derived.OpenShut
import Derived.ShutString
import Derived.ChangeOld
import Derived.Below
import Derived.SizedLaws
import Derived.Test.YthechcflnkofgaaVSized
namespace Go.Proofs.Ythechcflnkofgaa.eventBack
open Go.ChangeShapes Go.WideShapes Go.ChangeAt Go.RowKit Go.Proofs.Ythechcflnkofgaa.Q Go.Proofs.YthechcflnkofgaaW.PrintWords Go.Proofs.YthechcflnkofgaaW.PrintLast Go.Proofs.YthechcflnkofgaaW.PrintMore
open Go.ChangeMaps (open_string shut_string)
set_option linter.unusedVariables false
set_option linter.unusedSimpArgs false
theorem own : ownKnob Try.prog.godebug = none := by kernel_rfl
theorem laidOut : laidOutB Try.prog = true := by kernel_rfl
set_option maxRecDepth 100000 in
theorem lifted (os : Os) (started : os.Started) (H : Type) (enc : TypeId × Value → H) :
    ReturnsInHanded {} Try.checked os 4 .any (Rows.eventBackSpec.pre6 enc Try.prog Try.f4 Rows.eventBackRow.domain false) (Rows.eventBackSpec.post enc Try.prog Try.f4 false true false false) := by
  refine returnsInHanded_of_change_sized (C := Try.checked) own started (by kernel_rfl) Try.func4
    (ChangeSpec.witness6 (enc := enc) (C := Try.checked) false ⟨#[], #[.slice none 0 0, .int .i64 0, .string ByteArray.empty], []⟩ 8 (by kernel_rfl) (by kernel_rfl) (by kernel_rfl) (by kernel_rfl)) ?_
  intro W base args ds gs before hval0 hW hcnd hsz0 _
  have hval : ∀ (j : Nat) t v, Try.f4.params[j]? = some t → args[j]? = some v → Value.okWide Try.prog W .any base t v := hval0
  have hW' := hW
  obtain ⟨p, q, hA0, hV, rfl, hfz, hnd⟩ := hW
  have hA : DataW.TrodAll enc Try.prog W 0 (fun _ => true) true Try.f4.params.toList args.toList ds p := hA0
  rw [Try.params4] at hA hval
  obtain ⟨v0, vs0, d0, ds0, p0, q0, hargs, rfl, rfl, h0, r0⟩ := trodAll_cons hA
  obtain ⟨v1, vs1, d1, ds1, p1, q1, rfl, rfl, rfl, h1, r1⟩ := trodAll_cons r0
  obtain ⟨v2, vs2, d2, ds2, p2, q2, rfl, rfl, rfl, h2, r2⟩ := trodAll_cons r1
  obtain ⟨rfl, rfl, rfl⟩ := trodAll_nil r2
  obtain rfl : args = #[v0, v1, v2] := by cases args; simp_all
  obtain ⟨rfl, rfl⟩ := trodVars_none hV
  have k0 := h0
  have lt0 : ∀ x ∈ p0, x.block < W.heap.size := by obtain ⟨m, hm⟩ := k0; exact DataW.trod_lt m _ _ _ hm
  obtain ⟨m0, f0⟩ := h0
  obtain ⟨y0, c0, g0⟩ := ((Go.Proofs.YthechcflnkofgaaW.RowK.opens_slice Try.underlying26 (by kernel_rfl) (Go.Proofs.YthechcflnkofgaaW.RowK.opens_iso (fun x : S24 => (x.f0, x.f1, x.f2, x.f3)) (fun y => (⟨y.1, y.2.1, y.2.2.1, y.2.2.2⟩ : S24)) (fun _ => rfl) (Go.Proofs.YthechcflnkofgaaW.RowK.opens_struct Try.underlying24 (by kernel_rfl) (Go.Proofs.YthechcflnkofgaaW.RowK.opensF_cons (Go.Proofs.YthechcflnkofgaaW.RowK.opens_int Try.underlying3 (by kernel_rfl)) rfl (Go.Proofs.YthechcflnkofgaaW.RowK.opensF_cons (Go.Proofs.YthechcflnkofgaaW.RowK.opens_int Try.underlying3 (by kernel_rfl)) rfl (Go.Proofs.YthechcflnkofgaaW.RowK.opensF_cons (Go.Proofs.YthechcflnkofgaaW.RowK.opens_slice Try.underlying22 (by kernel_rfl) (Go.Proofs.YthechcflnkofgaaW.RowK.opens_int Try.underlying3 (by kernel_rfl))) rfl (Go.Proofs.YthechcflnkofgaaW.RowK.opensF_one (Go.Proofs.YthechcflnkofgaaW.RowK.opens_string Try.underlying9 (by kernel_rfl)) rfl)))))))).2 _ _ _ _ _ _ _ _ f0
  obtain ⟨aa, al, ac, rfl⟩ := okWide_slice Try.underlying26 (hval 0 26 v0 rfl rfl)
  obtain ⟨A0_0, c0_0, e0, hl0_0, hr0_0⟩ := c0
  simp only [Value.cells, List.cons.injEq, Value.slice.injEq, and_true] at e0
  obtain ⟨rfl, rfl, rfl⟩ := e0
  have k1 := h1
  have lt1 : ∀ x ∈ p1, x.block < W.heap.size := by obtain ⟨m, hm⟩ := k1; exact DataW.trod_lt m _ _ _ hm
  obtain ⟨m1, f1⟩ := h1
  obtain ⟨y1, c1, g1⟩ := ((Go.Proofs.YthechcflnkofgaaW.RowK.opens_int Try.underlying3 (by kernel_rfl))).2 _ _ _ _ _ _ _ _ f1
  obtain ⟨aa, rfl⟩ := okWide_int Try.underlying3 (hval 1 3 v1 rfl rfl)
  have e1 : y1 = aa := by have e := c1; simp [Value.cells, Kd.int, Kd.bool, Kd.string, Kd.scalar] at e; exact e.symm
  subst e1
  have k2 := h2
  have lt2 : ∀ x ∈ p2, x.block < W.heap.size := by obtain ⟨m, hm⟩ := k2; exact DataW.trod_lt m _ _ _ hm
  obtain ⟨m2, f2⟩ := h2
  obtain ⟨y2, c2, g2⟩ := ((Go.Proofs.YthechcflnkofgaaW.RowK.opens_string Try.underlying9 (by kernel_rfl))).2 _ _ _ _ _ _ _ _ f2
  obtain ⟨aa, rfl⟩ := okWide_string Try.underlying9 (hval 2 9 v2 rfl rfl)
  have e2 : y2 = aa := by have e := c2; simp [Value.cells, Kd.int, Kd.bool, Kd.string, Kd.scalar] at e; exact e.symm
  subst e2
  clear hA0 hval0 hsz0
  obtain ⟨k, h⟩ := Pure.EventBack y0 y1 y2 g0 g1 g2
  refine (Q.shuttlecocklaw04_EventBack.calls k _ _ y0 _ _ true W hr0_0 hl0_0 h).mono ?_
  rintro e W' ⟨rfl, bel0⟩
  have bel : Below W.heap.size W W' := bel0
  exact ⟨_, rfl, _, _, _, [], _, [], hW', trodAll_mk1 (shut_bool Try.underlying4 _), (trodAll_cons_mk (Below.trod laidOut (by kernel_rfl) (of_decide_eq_true (by kernel_rfl)) k0 bel lt0) (trodAll_cons_mk (Below.trod laidOut (by kernel_rfl) (of_decide_eq_true (by kernel_rfl)) k1 bel lt1) (trodAll_cons_mk (Below.trod laidOut (by kernel_rfl) (of_decide_eq_true (by kernel_rfl)) k2 bel lt2) trodAll_mk0))), rfl, bel.frame _, fun h => by cases h⟩
theorem over : Rows.eventBackRow.holds Try.pinned (OpenSpec.ofChange Rows.eventBackSpec) :=
  OpenClaim.holds_of_wide 4 Try.f4 rfl rfl rfl rfl rfl rfl rfl ⟨rfl, rfl, rfl, rfl, rfl⟩ rfl rfl rfl rfl rfl (by kernel_rfl) Try.func4 (by kernel_rfl)
    (of_decide_eq_true (by kernel_rfl)) (by unfold Func.isWrapper; first | (rw [if_pos (by decide +kernel)]; kernel_rfl) | (rw [if_neg (by decide +kernel)]; exact ⟨rfl, rfl⟩))
    (fun os started H enc _ => lifted os started H enc)
theorem proved : Rows.EventBackSaid := over
#print axioms proved
end Go.Proofs.Ythechcflnkofgaa.eventBack
namespace Go.Proofs.Ythechcflnkofgaa
/-- The row, under a short name, for the claim. -/
theorem eventBack_holds : Rows.EventBackSaid := eventBack.proved
end Go.Proofs.Ythechcflnkofgaa
