-- printed by a program of this session (NOTES: hprint); not the kit's print
import Derived.Test.YthbfgggpggjldaaRows
import Derived.Test.YthbfgggpggjldaaQx0
import Derived.Test.YthbfgggpggjldaaPureWireReads
import Derived.Test.YthbfgggpggjldaaRowK
import Derived.WalkKit
import Derived.ProofKit
import Derived.OpenShut
import Derived.ShutString
import Derived.ChangeOld
import Derived.Below
import Derived.SizedLaws
import Derived.Test.YthbfgggpggjldaaWSized
namespace Go.Proofs.Ythbfgggpggjldaa.wireReads
open Go.ChangeShapes Go.WideShapes Go.ChangeAt Go.RowKit Go.Proofs.Ythbfgggpggjldaa.Q Go.Proofs.YthbfgggpggjldaaW.PrintWords Go.Proofs.YthbfgggpggjldaaW.PrintLast Go.Proofs.YthbfgggpggjldaaW.PrintMore
open Go.ChangeMaps (open_string shut_string)
set_option linter.unusedVariables false
set_option linter.unusedSimpArgs false
theorem own : ownKnob Try.prog.godebug = none := by kernel_rfl
theorem laidOut : laidOutB Try.prog = true := by kernel_rfl
set_option maxRecDepth 100000 in
theorem lifted (os : Os) (started : os.Started) (H : Type) (enc : TypeId × Value → H) :
    ReturnsInHanded {} Try.checked os 3 .any (Rows.wireReadsSpec.pre6 enc Try.prog Try.f3 Rows.wireReadsRow.domain false) (Rows.wireReadsSpec.post enc Try.prog Try.f3 false true false false) := by
  refine returnsInHanded_of_change_sized (C := Try.checked) own started (by kernel_rfl) Try.func3
    (ChangeSpec.witness6 (enc := enc) (C := Try.checked) false ⟨#[], #[.string ByteArray.empty, .slice none 0 0], []⟩ 8 (by kernel_rfl) (by kernel_rfl) (by kernel_rfl) (by kernel_rfl)) ?_
  intro W base args ds gs before hval0 hW hcnd hsz0 _
  have hval : ∀ (j : Nat) t v, Try.f3.params[j]? = some t → args[j]? = some v → Value.okWide Try.prog W .any base t v := hval0
  have hW' := hW
  obtain ⟨p, q, hA0, hV, rfl, hfz, hnd⟩ := hW
  have hA : DataW.TrodAll enc Try.prog W 0 (fun _ => true) true Try.f3.params.toList args.toList ds p := hA0
  rw [Try.params3] at hA hval
  obtain ⟨v0, vs0, d0, ds0, p0, q0, hargs, rfl, rfl, h0, r0⟩ := trodAll_cons hA
  obtain ⟨v1, vs1, d1, ds1, p1, q1, rfl, rfl, rfl, h1, r1⟩ := trodAll_cons r0
  obtain ⟨rfl, rfl, rfl⟩ := trodAll_nil r1
  obtain rfl : args = #[v0, v1] := by cases args; simp_all
  obtain ⟨rfl, rfl⟩ := trodVars_none hV
  have k0 := h0
  have lt0 : ∀ x ∈ p0, x.block < W.heap.size := by obtain ⟨m, hm⟩ := k0; exact DataW.trod_lt m _ _ _ hm
  obtain ⟨m0, f0⟩ := h0
  obtain ⟨y0, c0, g0⟩ := ((Go.Proofs.YthbfgggpggjldaaW.RowK.opens_string Try.underlying9 (by kernel_rfl))).2 _ _ _ _ _ _ _ _ f0
  obtain ⟨aa, rfl⟩ := okWide_string Try.underlying9 (hval 0 9 v0 rfl rfl)
  have e0 : y0 = aa := by have e := c0; simp [Value.cells, Kd.int, Kd.bool, Kd.string, Kd.scalar] at e; exact e.symm
  subst e0
  have k1 := h1
  have lt1 : ∀ x ∈ p1, x.block < W.heap.size := by obtain ⟨m, hm⟩ := k1; exact DataW.trod_lt m _ _ _ hm
  obtain ⟨m1, f1⟩ := h1
  obtain ⟨y1, c1, g1⟩ := ((Go.Proofs.YthbfgggpggjldaaW.RowK.opens_slice Try.underlying22 (by kernel_rfl) (Go.Proofs.YthbfgggpggjldaaW.RowK.opens_iso (fun x : S31 => (x.f0, x.f1)) (fun y => (⟨y.1, y.2⟩ : S31)) (fun _ => rfl) (Go.Proofs.YthbfgggpggjldaaW.RowK.opens_struct Try.underlying31 (by kernel_rfl) (Go.Proofs.YthbfgggpggjldaaW.RowK.opensF_cons (Go.Proofs.YthbfgggpggjldaaW.RowK.opens_int Try.underlying3 (by kernel_rfl)) rfl (Go.Proofs.YthbfgggpggjldaaW.RowK.opensF_one (Go.Proofs.YthbfgggpggjldaaW.RowK.opens_int Try.underlying3 (by kernel_rfl)) rfl)))))).2 _ _ _ _ _ _ _ _ f1
  obtain ⟨aa, al, ac, rfl⟩ := okWide_slice Try.underlying22 (hval 1 22 v1 rfl rfl)
  obtain ⟨A1_0, c1_0, e1, hl1_0, hr1_0⟩ := c1
  simp only [Value.cells, List.cons.injEq, Value.slice.injEq, and_true] at e1
  obtain ⟨rfl, rfl, rfl⟩ := e1
  clear hA0 hval0 hsz0
  have h := Pure.WireReads y0 y1 g0 g1
  refine (Q.shuttlecocklaw02_WireReads.calls _ _ _ y1 true W hr1_0 hl1_0 h).mono ?_
  rintro e W' ⟨rfl, bel0⟩
  have bel : Below W.heap.size W W' := bel0
  exact ⟨_, rfl, _, _, _, [], _, [], hW', trodAll_mk1 (shut_bool Try.underlying4 _), (trodAll_cons_mk (Below.trod laidOut (by kernel_rfl) (of_decide_eq_true (by kernel_rfl)) k0 bel lt0) (trodAll_cons_mk (Below.trod laidOut (by kernel_rfl) (of_decide_eq_true (by kernel_rfl)) k1 bel lt1) trodAll_mk0)), rfl, bel.frame _, fun h => by cases h⟩
theorem over : Rows.wireReadsRow.holds Try.pinned (OpenSpec.ofChange Rows.wireReadsSpec) :=
  OpenClaim.holds_of_wide 3 Try.f3 rfl rfl rfl rfl rfl rfl rfl ⟨rfl, rfl, rfl, rfl, rfl⟩ rfl rfl rfl rfl rfl (by kernel_rfl) Try.func3 (by kernel_rfl)
    (of_decide_eq_true (by kernel_rfl)) (by unfold Func.isWrapper; first | (rw [if_pos (by decide +kernel)]; kernel_rfl) | (rw [if_neg (by decide +kernel)]; exact ⟨rfl, rfl⟩))
    (fun os started H enc _ => lifted os started H enc)
theorem proved : Rows.WireReadsSaid := over
#print axioms proved
end Go.Proofs.Ythbfgggpggjldaa.wireReads
namespace Go.Proofs.Ythbfgggpggjldaa
/-- The row, under a short name, for the claim. -/
theorem wireReads_holds : Rows.WireReadsSaid := wireReads.proved
end Go.Proofs.Ythbfgggpggjldaa
