-- printed by a program of this session (NOTES: hprint); not the kit's print
-- minified
-- halved
import Derived.Test.YtijjfomnidckdaaAl
import Derived.Test.YtijjfomnidckdaaQx0
import Derived.Test.YtijjfomnidckdaaQx2
namespace Go.Proofs.Ytijjfomnidckdaa.Q
open Go.RowKit Go.Proofs.YtijjfomnidckdaaW.PrintWords Go.Proofs.YtijjfomnidckdaaW.PrintLast Go.Proofs.YtijjfomnidckdaaW.PrintMore
attribute [local go_sem] max2_int min2_int max_two min_two max_three min_three max_four min_four   -- for this text's walks alone
set_option linter.unusedVariables false
set_option linter.unusedSimpArgs false

def q3_0 : Array Bool := let o := true; let z := false; #[z,z,z,z,z,z,z,z]
def q3_1 : Array Bool := let o := true; let z := false; #[o,z,z,z,z,z,z,z]
def q3_2 : Array Bool := let o := true; let z := false; #[o,z,o,z,z,z,z,z]
def q3_3 : Array Bool := let o := true; let z := false; #[o,o,o,z,z,z,z,z]
def q3_4 : Array Bool := let o := true; let z := false; #[o,o,o,o,z,z,z,z]
def q3_5 : Array Bool := let o := true; let z := false; #[o,o,o,o,o,z,z,z]
def q3_6 : Array Bool := let o := true; let z := false; #[o,o,o,o,o,o,z,z]
def q3_7 : Array Bool := let o := true; let z := false; #[o,o,o,o,o,o,o,z]
def q3_8 : Array Bool := let o := true; let z := false; #[o,o,o,o,o,o,o,o]
/-! ### intern_copied: function 23 -/
def intern_copied.l0 : Nat → List (List (S50)) → Int → Int → List ByteArray → List (List (S50)) → Option (List ByteArray × (List (List (S50))))
 | 0, _, _, _, _, _ => none
 | k + 1, x11, x12, x13, x113000, x113001 => if x13 < x12 then (if 0 ≤ x13 then (if x13 < (x11.length : Int) then ((slices_Clone_2_int_2_int.f (rd_L2 x11 x13)).bind fun t114 => (if x113001.length < 5864062014805 then (intern_copied.l0 k x11 x12 (wrap64 (x13 + 1)) x113000 (x113001 ++ [t114])) else (none))) else (none)) else (none)) else (some (x113000, x113001))
def intern_copied.f (k : Nat) (l0_0 : List ByteArray) (l0_1 : List (List (S50))) : Option (List ByteArray × (List (List (S50)))) := (slices_Clone_string_string.f l0_0).bind fun t109 => (intern_copied.l0 k l0_1 (l0_1.length : Int) 0 t109 ([] : List (List (S50))))
theorem intern_copied.mono_l : ∀ k, (∀ y0 y1 y2 y3 y4, LeO (intern_copied.l0 k y0 y1 y2 y3 y4) (intern_copied.l0 (k + 1) y0 y1 y2 y3 y4))
 | 0 => fun _ _ _ _ _ r h => by simp [intern_copied.l0] at h
 | k + 1 => by
  have ih0 := intern_copied.mono_l k
  ·
   intro y0 y1 y2 y3 y4
   unfold intern_copied.l0
   repeat' first
   | (with_reducible exact ih0 _ _ _ _ _)
   | (with_reducible exact LeO.refl _)
   | (with_reducible exact LeO.none _)
   | (with_reducible refine LeO.ite ?_ ?_)
   | (with_reducible refine LeO.bind ?_ (fun _ => ?_))
   | exact ih0 _ _ _ _ _
   | exact LeO.none _
   | refine LeO.ite ?_ ?_
   | refine LeO.bind ?_ (fun _ => ?_)
theorem intern_copied.mono : ∀ a0 a1 k, LeO (intern_copied.f k a0 a1) (intern_copied.f (k + 1) a0 a1) := by
 intro a0 a1 k
 have ih0 := intern_copied.mono_l k
 unfold intern_copied.f
 repeat' first
   | (with_reducible exact ih0 _ _ _ _ _)
   | (with_reducible exact LeO.refl _)
   | (with_reducible exact LeO.none _)
   | (with_reducible refine LeO.ite ?_ ?_)
   | (with_reducible refine LeO.bind ?_ (fun _ => ?_))
   | exact ih0 _ _ _ _ _
   | exact LeO.none _
   | refine LeO.ite ?_ ?_
   | refine LeO.bind ?_ (fun _ => ?_)
def intern_copied.T5 : Bool × List (List Nat × List Nat) := (true, [([], []), ([0], [0]), ([], []), ([2], [2]), ([3], [3]), ([1, 4, 3], [1, 4]), ([0, 1, 2, 3, 4, 5], []), ([6, 5, 5, 0, 1, 2, 3, 4, 5], [5, 6])])
def intern_copied.B5 : List Nat := [0, 1, 0, 4, 12, 31, 63, 127]
theorem intern_copied.tab5 : rtab .any (opsOf Try.f23 5) = intern_copied.T5 := by kernel_rfl
theorem intern_copied.bits5 : waitsOk intern_copied.T5.2 intern_copied.B5 = true := by kernel_rfl
set_option maxHeartbeats 8000000 in
set_option maxRecDepth 100000 in
theorem intern_copied.calls (k : Nat) (A0_0 : Option Addr) (c0_0 : Nat) (l0_0 : List ByteArray) (A0_1 : Option Addr) (c0_1 : Nat) (l0_1 : List (List (S50))) (r1 : List ByteArray) (r2 : List (List (S50))) (w : World) (hr0_0 : Kd.C Kd.string w A0_0 l0_0.length l0_0) (hc0_0 : l0_0.length ≤ c0_0) (hr0_1 : Kd.C (Kd.slice 50 k50) w A0_1 l0_1.length l0_1) (hc0_1 : l0_1.length ≤ c0_1) (h : intern_copied.f k l0_0 l0_1 = some (r1, r2)) :
  Calls Try.prog 23 #[.agg #[.slice A0_0 l0_0.length c0_0, .slice A0_1 l0_1.length c0_1]] w fun e w' => ∃ v0_ v1_ : Value, e = .returned (.agg #[v0_, v1_]) ∧ Kd.R Kd.string 9 w' w.heap.size (fun _ => True) v0_ r1 ∧ Kd.S (Kd.slice 50 k50) 46 w' w.heap.size (fun _ => True) v1_ r2 ∧ Below w.heap.size w w' := by
 have hu25 := Try.underlying25
 have HR0_0 := Am hr0_0
 have HC0_0 := Am hc0_0
 clear hr0_0 hc0_0
 have HR0_1 := Am hr0_1
 have HC0_1 := Am hc0_1
 clear hr0_1 hc0_1
 have HB := Am (Below.refl w.heap.size w)
 have H : ((slices_Clone_string_string.f l0_0).bind fun t109 => (intern_copied.l0 k l0_1 (l0_1.length : Int) 0 t109 ([] : List (List (S50))))) = some (r1, r2) := h
 clear h
 replace H := ob H
 obtain ⟨t109, A20, H⟩ := H
 replace H : (intern_copied.l0 k l0_1 (l0_1.length : Int) 0 t109 ([] : List (List (S50)))) = some (r1, r2) := H
 have A2 := Am A20
 clear A20
 have H' := Am H
 clear H
 go_enter Try.func23, Try.ntmps23
 go_wp2_with (first | ((with_reducible refine gate_dst (N := 1) rfl ?_); refine box_event ?hg (N := 1) ?hd (cs := #[.slice A0_0 l0_0.length c0_0, .slice A0_1 l0_1.length c0_1]) (t := 25) ?hr ?_; (case hd => rfl); (case hg => rfl); (case hr => first | (go_simp; done) | (go_simp; rfl)); intro gb107 hg w3 hbox hb; have n0_ := Am (below_step (by repeat (first | (with_reducible first | exact HB.out | apply bl | apply pN | apply b1) | exact HB.out | exact HBo.out)) hb); have n1_ := Am (hbox); have n2_ := Am ((by rw [hg]; exact (below_size (by repeat (first | (with_reducible first | exact HB.out | apply bl | apply pN | apply b1) | exact HB.out | exact HBo.out))) : w.heap.size ≤ gb107)); have n3_ := Am ((by rw [hg]; exact (below_size (by repeat (first | (with_reducible first | exact HB.out | apply bl | apply pN | apply b1) | exact HB.out | exact HBo.out))) : w.heap.size ≤ gb107)); clear HB; have HB := n0_; have BK107 := n1_; have GW107 := n2_; have GE107 := n3_; clear n0_ n1_ n2_ n3_; clear hb hbox hg) | ((with_reducible refine gate_dst (N := 2) rfl ?_); refine box_event ?hg (N := 2) ?hd (cs := #[.slice none 0 0, .slice none 0 0]) (t := 25) ?hr ?_; (case hd => rfl); (case hg => rfl); (case hr => first | (go_simp; done) | (go_simp; rfl)); intro gb108 hg w4 hbox hb; have n0_ := Am (blk_below (g := gb107) (o := .cells #[.slice A0_0 l0_0.length c0_0, .slice A0_1 l0_1.length c0_1] 25 (0, 0)) (by (with_reducible repeat (first | refine bn ?_ _ | refine bd ?_ | refine ba ?_ _)); exact BK107.out) hb); have n1_ := Am (below_step (by repeat (first | (with_reducible first | exact HB.out | apply bl | apply pN | apply b1 | refine bs ?_ GE107.out) | exact HB.out | exact HBo.out)) hb); have n2_ := Am (hbox); have n3_ := Am ((by rw [hg]; exact (below_size (by repeat (first | (with_reducible first | exact HB.out | apply bl | apply pN | apply b1 | refine bs ?_ GE107.out) | exact HB.out | exact HBo.out))) : w.heap.size ≤ gb108)); have n4_ := Am ((by rw [hg]; exact (below_size (by repeat (first | (with_reducible first | exact HB.out | apply bl | apply pN | apply b1 | refine bs ?_ GE107.out) | exact HB.out | exact HBo.out))) : w.heap.size ≤ gb108)); have n5_ := Am ((by rw [hg]; exact Nat.ne_of_lt (blk_lt (g := gb107) (o := .cells #[.slice A0_0 l0_0.length c0_0, .slice A0_1 l0_1.length c0_1] 25 (0, 0)) (by (with_reducible repeat (first | refine bn ?_ _ | refine bd ?_ | refine ba ?_ _)); exact BK107.out)) : gb107 ≠ gb108)); have n6_ := Am ((by rw [hg]; exact Nat.ne_of_gt (blk_lt (g := gb107) (o := .cells #[.slice A0_0 l0_0.length c0_0, .slice A0_1 l0_1.length c0_1] 25 (0, 0)) (by (with_reducible repeat (first | refine bn ?_ _ | refine bd ?_ | refine ba ?_ _)); exact BK107.out)) : gb108 ≠ gb107)); clear BK107; clear HB; have BK107 := n0_; have HB := n1_; have BK108 := n2_; have GW108 := n3_; have GE108 := n4_; have NB107_108 := n5_; have NB108_107 := n6_; clear n0_ n1_ n2_ n3_ n4_ n5_ n6_; clear hb hbox hg; have hnb5 := NB107_108.out; have hnc5 := NB108_107.out; have hcz6_0 : w4.cell? ⟨gb107, 0, none⟩ = some (.slice A0_0 l0_0.length c0_0) := (bc BK107.out 0).trans rfl; have hcz6_1 : w4.cell? ⟨gb107, 1, none⟩ = some (.slice A0_1 l0_1.length c0_1) := (bc BK107.out 1).trans rfl; have hfz6_0 := bf BK107.out 0; have hfz6_1 := bf BK107.out 1) | ((with_reducible refine gate_callee (f := 35) rfl ?_); refine goesL_ (some 8) rfl rfl Try.func35 (by kernel_rfl) rfl #[.slice A0_0 l0_0.length c0_0] rfl (by (try simp only [List.map_toArray, List.map_cons, List.map_nil]); first | done | rfl | (simp only [List.length_drop, List.length_take]; rfl)) ?_; (with_reducible refine (slices_Clone_string_string.calls _ _ l0_0 t109 _ ?side1 ?side2 A2.out).mono ?_); (case side1 => repeat (first | exact (Kd.C_below HR0_0.out HB.out) | (with_reducible refine Kd.C_alloc ?_ _) | (with_reducible refine Kd.C_drewN ?_ _) | (with_reducible refine Kd.C_drew ?_))); (case side2 => exact HC0_0.out); rintro e w7 ⟨v110, rfl, ho0, hb⟩; refine ⟨_, rfl, ?_⟩; have n0_ := Am (Kd.R_lower ho0 (below_size (by repeat (first | (with_reducible first | exact HB.out | apply bl | apply pN | apply b1 | refine bs ?_ GE107.out | refine bs ?_ GE108.out) | exact HB.out | exact HBo.out)))); have n1_ := Am (blk_below (g := gb107) (o := .cells #[.slice A0_0 l0_0.length c0_0, .slice A0_1 l0_1.length c0_1] 25 (0, 0)) (by (with_reducible repeat (first | refine bn ?_ _ | refine bd ?_ | refine ba ?_ _)); exact BK107.out) hb); have n2_ := Am (blk_below (g := gb108) (o := .cells #[.slice none 0 0, .slice none 0 0] 25 (0, 0)) (by (with_reducible repeat (first | refine bn ?_ _ | refine bd ?_ | refine ba ?_ _)); exact BK108.out) hb); have n3_ := Am (below_step (by repeat (first | (with_reducible first | exact HB.out | apply bl | apply pN | apply b1 | refine bs ?_ GE107.out | refine bs ?_ GE108.out) | exact HB.out | exact HBo.out)) hb); clear BK107; clear BK108; clear HB; have HO111 := n0_; have BK107 := n1_; have BK108 := n2_; have HB := n3_; clear n0_ n1_ n2_ n3_; (try clear hb); (try clear hb2); (try clear hk); (try clear hi); (try clear ho0); obtain ⟨Ao8, co8, eo8⟩ := Kd.R_slice HO111.out; subst eo8) | ((with_reducible refine gate_dst (N := 3) rfl ?_); refine box_event ?hg (N := 3) ?hd (cs := #[.slice none 0 0, .slice none 0 0]) (t := 25) ?hr ?_; (case hd => rfl); (case hg => rfl); (case hr => first | (go_simp; done) | (go_simp; rfl)); intro gb112 hg w9 hbox hb; have n0_ := Am (Kd.R_below (by (with_reducible repeat (first | apply Kd.R_alloc | apply Kd.R_drewN | apply Kd.R_drew)); exact HO111.out) hb); have n1_ := Am (blk_below (g := gb107) (o := .cells #[.slice A0_0 l0_0.length c0_0, .slice A0_1 l0_1.length c0_1] 25 (0, 0)) (by (with_reducible repeat (first | refine bn ?_ _ | refine bd ?_ | refine ba ?_ _)); exact BK107.out) hb); have n2_ := Am (blk_below (g := gb108) (o := .cells #[.slice none 0 0, .slice none 0 0] 25 (0, 0)) (by (with_reducible repeat (first | refine bn ?_ _ | refine bd ?_ | refine ba ?_ _)); exact BK108.out) hb); have n3_ := Am (below_step (by repeat (first | (with_reducible first | exact HB.out | apply bl | apply pN | apply b1 | refine bs ?_ GE107.out | refine bs ?_ GE108.out) | exact HB.out | exact HBo.out)) hb); have n4_ := Am (hbox); have n5_ := Am ((by rw [hg]; exact (below_size (by repeat (first | (with_reducible first | exact HB.out | apply bl | apply pN | apply b1 | refine bs ?_ GE107.out | refine bs ?_ GE108.out) | exact HB.out | exact HBo.out))) : w.heap.size ≤ gb112)); have n6_ := Am ((by rw [hg]; exact (below_size (by repeat (first | (with_reducible first | exact HB.out | apply bl | apply pN | apply b1 | refine bs ?_ GE107.out | refine bs ?_ GE108.out) | exact HB.out | exact HBo.out))) : w.heap.size ≤ gb112)); have n7_ := Am ((by rw [hg]; exact Nat.ne_of_lt (blk_lt (g := gb107) (o := .cells #[.slice A0_0 l0_0.length c0_0, .slice A0_1 l0_1.length c0_1] 25 (0, 0)) (by (with_reducible repeat (first | refine bn ?_ _ | refine bd ?_ | refine ba ?_ _)); exact BK107.out)) : gb107 ≠ gb112)); have n8_ := Am ((by rw [hg]; exact Nat.ne_of_gt (blk_lt (g := gb107) (o := .cells #[.slice A0_0 l0_0.length c0_0, .slice A0_1 l0_1.length c0_1] 25 (0, 0)) (by (with_reducible repeat (first | refine bn ?_ _ | refine bd ?_ | refine ba ?_ _)); exact BK107.out)) : gb112 ≠ gb107)); have n9_ := Am ((by rw [hg]; exact Nat.ne_of_lt (blk_lt (g := gb108) (o := .cells #[.slice none 0 0, .slice none 0 0] 25 (0, 0)) (by (with_reducible repeat (first | refine bn ?_ _ | refine bd ?_ | refine ba ?_ _)); exact BK108.out)) : gb108 ≠ gb112)); have n10_ := Am ((by rw [hg]; exact Nat.ne_of_gt (blk_lt (g := gb108) (o := .cells #[.slice none 0 0, .slice none 0 0] 25 (0, 0)) (by (with_reducible repeat (first | refine bn ?_ _ | refine bd ?_ | refine ba ?_ _)); exact BK108.out)) : gb112 ≠ gb108)); clear HO111; clear BK107; clear BK108; clear HB; have HO111 := n0_; have BK107 := n1_; have BK108 := n2_; have HB := n3_; have BK112 := n4_; have GW112 := n5_; have GE112 := n6_; have NB107_112 := n7_; have NB112_107 := n8_; have NB108_112 := n9_; have NB112_108 := n10_; clear n0_ n1_ n2_ n3_ n4_ n5_ n6_ n7_ n8_ n9_ n10_; clear hb hbox hg; have hnb10 := NB112_107.out; have hnc10 := NB107_112.out; have hnb11 := NB112_108.out; have hnc11 := NB108_112.out; have hcz12_0 : w9.cell? ⟨gb112, 0, none⟩ = some (.slice none 0 0) := (bc BK112.out 0).trans rfl; have hcz12_1 : w9.cell? ⟨gb112, 1, none⟩ = some (.slice none 0 0) := (bc BK112.out 1).trans rfl; have hfz12_0 := bf BK112.out 0; have hfz12_1 := bf BK112.out 1; have hcz13_0 : w9.cell? ⟨gb107, 0, none⟩ = some (.slice A0_0 l0_0.length c0_0) := (bc BK107.out 0).trans rfl; have hcz13_1 : w9.cell? ⟨gb107, 1, none⟩ = some (.slice A0_1 l0_1.length c0_1) := (bc BK107.out 1).trans rfl; have hfz13_0 := bf BK107.out 0; have hfz13_1 := bf BK107.out 1))
 go_loopg [13] k (fun kq v13 w' => ∃ (x13_1 : Int) (x113001_1 : List (List (S50))) (u113001 : Value), v13 = .int .i64 x13_1 ∧ Aside0 (intern_copied.l0 kq l0_1 (l0_1.length : Int) x13_1 t109 x113001_1 = some (r1, r2)) ∧ Aside0 (kq ≤ k) ∧ Aside0 (Kd.R Kd.string 9 w' w.heap.size (fun _ => True) (.slice Ao8 t109.length co8) t109) ∧ Aside0 (Kd.S (Kd.slice 50 k50) 46 w' w.heap.size (fun _ => True) u113001 x113001_1) ∧ Aside0 (w'.heap[gb107]? = some (.cells #[(.slice A0_0 l0_0.length c0_0), (.slice A0_1 l0_1.length c0_1)] 25 (0, 0))) ∧ Aside0 (w'.heap[gb108]? = some (.cells #[(.slice none 0 0), (.slice none 0 0)] 25 (0, 0))) ∧ Aside0 (w'.heap[gb112]? = some (.cells #[(.slice Ao8 t109.length co8), u113001] 25 (0, 0))) ∧ Aside0 (Below w.heap.size w w'))
 case atStart => exact ⟨(0), (([] : List (List (S50)))), (.slice none 0 0), (by first | rfl | (simp; done) | (simp [*]; done)), H', ⟨Nat.le_refl _⟩, ⟨by (with_reducible repeat (first | apply Kd.R_alloc | apply Kd.R_drewN | apply Kd.R_drew)); exact Kd.R_mono (Kd.R_far (p := ⟨gb112, 1, none⟩) (Kd.R_far (p := ⟨gb112, 0, none⟩) (Kd.R_types HO111.out BK112.out (by decide)) (fun _ hk => hk.2) (.slice Ao8 t109.length co8)) (fun _ hk => hk.2) (.slice none 0 0)) (fun _ hk => trivial)⟩, ⟨by first | exact Kd.S_nil _ _ _ _ _ | exact Kd.N_nil _ _ _ _ _ | exact Kd.V_nil _ _ _ _ _ | exact Kd.Q_nil _ _ _ _ _ | exact Kd.R_nil _ _ _ _ _⟩, ⟨by (with_reducible repeat (first | refine bn ?_ _ | refine bd ?_ | refine ba ?_ _)); refine blk_far ?_ NB107_112.out _; (with_reducible repeat (first | refine bn ?_ _ | refine bd ?_ | refine ba ?_ _)); refine blk_far ?_ NB107_112.out _; (with_reducible repeat (first | refine bn ?_ _ | refine bd ?_ | refine ba ?_ _)); exact BK107.out⟩, ⟨by (with_reducible repeat (first | refine bn ?_ _ | refine bd ?_ | refine ba ?_ _)); refine blk_far ?_ NB108_112.out _; (with_reducible repeat (first | refine bn ?_ _ | refine bd ?_ | refine ba ?_ _)); refine blk_far ?_ NB108_112.out _; (with_reducible repeat (first | refine bn ?_ _ | refine bd ?_ | refine ba ?_ _)); exact BK108.out⟩, ⟨by (with_reducible repeat (first | refine bn ?_ _ | refine bd ?_ | refine ba ?_ _)); refine blk_put (cs := #[.slice Ao8 t109.length co8, .slice none 0 0]) ?_ 1 _ rfl; (with_reducible repeat (first | refine bn ?_ _ | refine bd ?_ | refine ba ?_ _)); refine blk_put (cs := #[.slice none 0 0, .slice none 0 0]) ?_ 0 _ rfl; (with_reducible repeat (first | refine bn ?_ _ | refine bd ?_ | refine ba ?_ _)); exact BK112.out⟩, ⟨by repeat (first | (with_reducible first | exact HB.out | apply bl | apply pN | apply b1 | refine bs ?_ GE107.out | refine bs ?_ GE108.out | refine bs ?_ GE112.out) | exact HB.out | exact HBo.out)⟩⟩
 case round =>
  clear H'
  try clear c1
  try clear c2
  try clear p2
  try clear c3
  try clear c5
  try clear c10
  try clear c11
  try clear hcz12_0
  try clear hcz12_1
  try clear hcz13_0
  try clear hcz13_1
  try clear hcz6_0
  try clear hcz6_1
  try clear hfz12_0
  try clear hfz12_1
  try clear hfz13_0
  try clear hfz13_1
  try clear hfz6_0
  try clear hfz6_1
  obtain ⟨x13_1, x113001_1, u113001, rfl, HA, HK1, HO_113000, HO_113001, BK107, BK108, BK112, HB⟩ := hrel
  cases gk with
  | zero => exact absurd HA.out (by simp [intern_copied.l0])
  | succ k1 =>
   have H := HA.out
   clear HA
   simp only [intern_copied.l0] at H
   by_cases c14 : x13_1 < (l0_1.length : Int)
   ·
    rw [if_pos c14] at H
    have c14b0 : decide (x13_1 < (l0_1.length : Int)) = true := decide_eq_true c14
    clear c14
    by_cases c15 : 0 ≤ x13_1
    ·
     rw [if_pos c15] at H
     have c15b0 : decide (0 ≤ x13_1) = true := decide_eq_true c15
     clear c15
     by_cases c16 : x13_1 < (l0_1.length : Int)
     ·
      rw [if_pos c16] at H
      have c16b0 : decide (x13_1 < (l0_1.length : Int)) = true := decide_eq_true c16
      clear c16
      replace H := ob H
      obtain ⟨t114, A170, H⟩ := H
      replace H : (if x113001_1.length < 5864062014805 then (intern_copied.l0 k1 l0_1 (l0_1.length : Int) (wrap64 (x13_1 + 1)) t109 (x113001_1 ++ [t114])) else (none)) = some (r1, r2) := H
      have A17 := Am A170
      clear A170
      by_cases c18 : x113001_1.length < 5864062014805
      ·
       rw [if_pos c18] at H
       have LMc18 := Am c18
       clear c18
       obtain ⟨y117, hy117⟩ : ∃ y_ : List (List (S50)), y_ = (x113001_1 ++ [t114]) := ⟨_, rfl⟩
       replace H : (intern_copied.l0 k1 l0_1 (l0_1.length : Int) (wrap64 (x13_1 + 1)) t109 y117) = some (r1, r2) := by first | (rw [hy117]; with_reducible exact H) | (have H2_ := (Option.bind_some _ _).symm.trans H; rw [hy117]; with_reducible exact H2_) | (have H2_ := (Option.bind_some _ _).symm.trans H; with_reducible exact H2_) | with_reducible exact H | (rw [hy117]; exact H) | exact H
       have Ny117 := Am hy117
       clear hy117
       have H' := Am H
       clear H
       have p113 : 0 ≤ (x13_1 : Int) := of_decide_eq_true (by first | (with_reducible assumption) | assumption)
       have q113 : x13_1 < (l0_1.length : Int) := of_decide_eq_true (by first | (with_reducible assumption) | assumption)
       obtain ⟨ad113, A113_0, c113_0, e113, hx113_0, hl113_0, hi113_0⟩ := at_L2 HR0_1.out x13_1 p113 q113
       cases e113
       replace hx113_0 := (HB.out.cell (World.block_lt_of_cell? w _ hx113_0)).trans hx113_0
       have HR113_0 := Am hi113_0
       have HC113_0 := Am hl113_0
       clear hi113_0 hl113_0
       replace p113 := eq_true p113
       replace q113 := eq_true q113
       try go_wp2
       have n0_ := Am (Kd.R_drew HO_113000.out)
       have n1_ := Am (Kd.S_drew HO_113001.out)
       have n2_ := Am (bd BK107.out)
       have n3_ := Am (bd BK108.out)
       have n4_ := Am (bd BK112.out)
       have n5_ := Am (b1 HB.out)
       clear HO_113000
       clear HO_113001
       clear BK107
       clear BK108
       clear BK112
       clear HB
       have HO_113000 := n0_
       have HO_113001 := n1_
       have BK107 := n2_
       have BK108 := n3_
       have BK112 := n4_
       have HB := n5_
       clear n0_ n1_ n2_ n3_ n4_ n5_
       refine start_ (n := 8) (S := fun w' => w'.cell? ⟨gb112, 0, none⟩ = some (.slice Ao8 t109.length co8) ∧ w'.cell? ⟨gb112, 1, none⟩ = some (u113001)) (ds := [7]) q3_0 (by kernel_rfl) rfl rfl ⟨(bc BK112.out 0).trans rfl, (bc BK112.out 1).trans rfl⟩ (fun hHeld => ?_); refine with_tabW intern_copied.tab5 intern_copied.bits5 (fun HT_ HW_ => ?_)
       generalize wr.drew = w19 at HO_113000 HO_113001 BK107 BK108 BK112 HB hHeld ⊢
       refine Own.pr_ 0 (some 17) q3_1 HT_ (h := ?_)
       refine Own.pr_ 2 (some 19) q3_2 HT_ (h := ?_)
       refine Own.tk_ 1 (some 18) q3_3 HT_ HW_ hHeld (hy := by rintro w' ⟨s0, s1⟩; go_simp; with_reducible rfl) (h := ?_)
       refine one_ (i := 3) (N := some 20) q3_4 rfl rfl (one_of HT_.out (by kernel_rfl)) (by decide) (fun K hK => ?_)
       refine goes_ Try.func36 (by kernel_rfl) rfl #[.slice A113_0 (rd_L2 l0_1 x13_1).length c113_0] (by rfl) rfl rfl (by (try simp only [List.map_toArray, List.map_cons, List.map_nil]); first | done | rfl | (simp only [List.length_drop, List.length_take]; rfl)) ?_
       with_reducible refine (slices_Clone_2_int_2_int.calls _ _ (rd_L2 l0_1 x13_1) t114 _ ?side1 ?side2 A17.out).mono ?_
       (case side1 => repeat (first | exact (Kd.C_below HR113_0.out HB.out) | (with_reducible refine Kd.C_alloc ?_ _) | (with_reducible refine Kd.C_drewN ?_ _) | (with_reducible refine Kd.C_drew ?_)))
       (case side2 => exact HC113_0.out)
       rintro e w20 ⟨v115, rfl, ho0, hb⟩
       refine ⟨_, rfl, ?_⟩
       have n0_ := Am (Kd.R_below (by (with_reducible repeat (first | apply Kd.R_alloc | apply Kd.R_drewN | apply Kd.R_drew)); exact HO_113000.out) hb)
       have n1_ := Am (Kd.S_elder' (by (with_reducible repeat (first | apply Kd.S_alloc | apply Kd.S_drewN | apply Kd.S_drew)); exact HO_113001.out) (Kd.R_base ho0) hb)
       have n2_ := Am (Kd.R_lower ho0 (below_size (by repeat (first | (with_reducible first | exact HB.out | apply bl | apply pN | apply b1 | refine bs ?_ GE107.out | refine bs ?_ GE108.out | refine bs ?_ GE112.out) | exact HB.out | exact HBo.out))))
       have n3_ := Am (blk_below (g := gb107) (o := .cells #[.slice A0_0 l0_0.length c0_0, .slice (some ad113) l0_1.length c0_1] 25 (0, 0)) (by (with_reducible repeat (first | refine bn ?_ _ | refine bd ?_ | refine ba ?_ _)); exact BK107.out) hb)
       have n4_ := Am (blk_below (g := gb108) (o := .cells #[.slice none 0 0, .slice none 0 0] 25 (0, 0)) (by (with_reducible repeat (first | refine bn ?_ _ | refine bd ?_ | refine ba ?_ _)); exact BK108.out) hb)
       have n5_ := Am (blk_below (g := gb112) (o := .cells #[.slice Ao8 t109.length co8, u113001] 25 (0, 0)) (by (with_reducible repeat (first | refine bn ?_ _ | refine bd ?_ | refine ba ?_ _)); exact BK112.out) hb)
       have n6_ := Am (below_step (by repeat (first | (with_reducible first | exact HB.out | apply bl | apply pN | apply b1 | refine bs ?_ GE107.out | refine bs ?_ GE108.out | refine bs ?_ GE112.out) | exact HB.out | exact HBo.out)) hb)
       clear HO_113000
       clear HO_113001
       clear BK107
       clear BK108
       clear BK112
       clear HB
       have HO_113000 := n0_
       have HO_113001 := n1_
       have HO116 := n2_
       have BK107 := n3_
       have BK108 := n4_
       have BK112 := n5_
       have HB := n6_
       clear n0_ n1_ n2_ n3_ n4_ n5_ n6_
       (try clear hb)
       (try clear hb2)
       (try clear hk)
       (try clear hi)
       (try clear ho0)
       obtain ⟨Ao22, co22, eo22⟩ := Kd.R_slice HO116.out
       (first | subst eo22 | (injection eo22 with f1_ f2_ f3_; have f4_ := f1_.symm; have f5_ := f3_.symm; clear f1_ f2_ f3_; subst f4_; subst f5_))
       refine hK.out _ _ ⟨(bc BK112.out 0).trans rfl, (bc BK112.out 1).trans rfl⟩ (fun hHeld => ?_)
       clear hK K
       refine norm_ (a' := ?_) ?_ ?_
       rotate_left
       ·
        show Act.put _ (some 20) _ = _
        simp only [Act.put, sI, sZ, sS, i64_w, i32_w]
        rfl
       refine one_ (i := 4) (N := some 21) q3_5 rfl rfl (one_of HT_.out (by kernel_rfl)) (by decide) (fun K hK => ?_)
       refine value_ (w1 := ?_) (v := ?_) (by rfl) rfl ?_ ?_
       rotate_left 2
       ·
        go_simp
        constructor
        ·
         rfl
        ·
         rfl
       refine hK.out _ _ ⟨(bc (ba BK112.out _) 0).trans rfl, (bc (ba BK112.out _) 1).trans rfl⟩ (fun hHeld => ?_)
       clear hK K
       refine norm_ (a' := ?_) ?_ ?_
       rotate_left
       ·
        show Act.put _ (some 21) _ = _
        simp only [Act.put, sI, sZ, sS, i64_w, i32_w]
        rfl
       refine one_ (i := 5) (N := some 22) q3_6 rfl rfl (one_of HT_.out (by kernel_rfl)) (by decide) (fun K hK => ?_)
       refine Kd.S_append_step (Kd.slice 50 k50) (w0 := w) w.heap.size (by rfl) (.tmp 18) (.tmp 21) 23 46 (.slice none 0 0) 24 rfl Try.underlying23 info46 rfl (by decide) (by omega) u113001 x113001_1 t114 [.slice Ao22 t114.length co22] (fun _ => True) (fun k_ => some k_ = (.slice Ao22 t114.length co22 : Value).ownBlock) rfl rfl ?aP (fun k_ hk_ => ((Kd.R_mono (ok' := fun k_ => ((fun _ => True)) k_ ∧ some k_ ≠ (u113001 : Value).ownBlock) (Kd.R_apart' (HO116.out) (Kd.S_typed HO_113001.out) (by decide)) (fun k_ hk => ⟨trivial, hk.2⟩))).1 k_ hk_.symm) ?aF ?aO ?aB ?aS ?aL ?_
       (case aP => exact Kd.M_row (Kd.R_mono (Kd.R_tight rfl (Kd.R_mono (ok' := fun k_ => ((fun _ => True)) k_ ∧ some k_ ≠ (u113001 : Value).ownBlock) (Kd.R_apart' (HO116.out) (Kd.S_typed HO_113001.out) (by decide)) (fun k_ hk => ⟨trivial, hk.2⟩))) (fun _ h_ => h_)))
       (case aB => exact (by repeat (first | (with_reducible first | exact HB.out | apply bl | apply pN | apply b1 | refine bs ?_ GE107.out | refine bs ?_ GE108.out | refine bs ?_ GE112.out) | exact HB.out | exact HBo.out)))
       (case aF => exact (fun _ _ => trivial))
       (case aO => exact (by (with_reducible repeat (first | apply Kd.S_alloc | apply Kd.S_drewN | apply Kd.S_drew)); exact Kd.S_mono HO_113001.out (fun k_ hk => ⟨trivial, fun e_ => hk.2 e_⟩)))
       (case aS => exact (below_size (by repeat (first | (with_reducible first | exact HB.out | apply bl | apply pN | apply b1 | refine bs ?_ GE107.out | refine bs ?_ GE108.out | refine bs ?_ GE112.out) | exact HB.out | exact HBo.out))))
       (case aL => have := LMc18.out; omega)
       intro v118 w21 ho hb hg hat
       rw [← Ny117.out] at ho
       have n0_ := Am (Kd.R_over' (by (with_reducible repeat (first | apply Kd.R_alloc | apply Kd.R_drewN | apply Kd.R_drew)); exact HO_113000.out) (Kd.S_typed (by (with_reducible repeat (first | apply Kd.S_alloc | apply Kd.S_drewN | apply Kd.S_drew)); exact HO_113001.out)) (by decide) hg)
       have n1_ := Am (blk_grown (g := gb107) (o := .cells #[.slice A0_0 l0_0.length c0_0, .slice (some ad113) l0_1.length c0_1] 25 (0, 0)) (by (with_reducible repeat (first | refine bn ?_ _ | refine bd ?_ | refine ba ?_ _)); exact BK107.out) hg (Kd.S_ne HO_113001.out BK107.out (by decide)))
       have n2_ := Am (blk_grown (g := gb108) (o := .cells #[.slice none 0 0, .slice none 0 0] 25 (0, 0)) (by (with_reducible repeat (first | refine bn ?_ _ | refine bd ?_ | refine ba ?_ _)); exact BK108.out) hg (Kd.S_ne HO_113001.out BK108.out (by decide)))
       have n3_ := Am (blk_grown (g := gb112) (o := .cells #[.slice Ao8 t109.length co8, u113001] 25 (0, 0)) (by (with_reducible repeat (first | refine bn ?_ _ | refine bd ?_ | refine ba ?_ _)); exact BK112.out) hg (Kd.S_ne HO_113001.out BK112.out (by decide)))
       have n4_ := Am (hb)
       have n5_ := Am (ho)
       clear HO_113000
       clear BK107
       clear BK108
       clear BK112
       clear HB
       clear HO_113001
       clear HO116
       have HO_113000 := n0_
       have BK107 := n1_
       have BK108 := n2_
       have BK112 := n3_
       have HB := n4_
       have HO119 := n5_
       clear n0_ n1_ n2_ n3_ n4_ n5_
       clear ho hb hg hat
       obtain ⟨Ao23, co23, eo23⟩ := Kd.S_slice HO119.out
       (first | subst eo23 | (injection eo23 with f1_ f2_ f3_; have f4_ := f1_.symm; have f5_ := f3_.symm; clear f1_ f2_ f3_; subst f4_; subst f5_))
       refine hK.out _ _ ⟨(bc BK112.out 0).trans rfl, (bc BK112.out 1).trans rfl⟩ (fun hHeld => ?_)
       clear hK K
       refine norm_ (a' := ?_) ?_ ?_
       rotate_left
       ·
        show Act.put _ (some 22) _ = _
        simp only [Act.put, sI, sZ, sS, i64_w, i32_w]
        rfl
       refine Own.pr_ 6 (some 23) q3_7 HT_ (h := ?_)
       refine last_ (i := 7) (N := none) q3_8 rfl rfl (one_of HT_.out (by kernel_rfl)) (by decide) (fun K hK => ?_)
       have hs24 : w21.cell? ⟨gb112, 1, none⟩ = some (u113001) := (bc BK112.out 1).trans rfl
       have hfs24 := bf BK112.out 1
       have hns24_0 := NB107_112.out
       have hns24_1 := NB108_112.out
       have hms24_0 := NB112_107.out
       have hms24_1 := NB112_108.out
       refine skip_ (w1 := ?_) (by rfl) rfl ?_ ?_
       rotate_left
       ·
        go_simp
        rfl
       refine hK.out _ _ ?_
       clear hK K
       refine done_ (done_of HT_.out (by kernel_rfl)) ?_
       try go_wp2
       go_roundg k1
       case measure => have := HK1.out; omega
       case rel => exact ⟨(wrap64 (x13_1 + 1)), (y117), (.slice Ao23 y117.length co23), (by first | rfl | (simp; done) | (simp [*]; done)), H', ⟨by have := HK1.out; omega⟩, ⟨by (with_reducible repeat (first | apply Kd.R_alloc | apply Kd.R_drewN | apply Kd.R_drew)); exact Kd.R_mono (Kd.R_far (p := ⟨gb112, 1, none⟩) (Kd.R_types HO_113000.out BK112.out (by decide)) (fun _ hk => hk.2) (.slice Ao23 y117.length co23)) (fun _ hk => trivial)⟩, ⟨by (with_reducible repeat (first | apply Kd.S_alloc | apply Kd.S_drewN | apply Kd.S_drew)); exact Kd.S_mono (Kd.S_far (p := ⟨gb112, 1, none⟩) (Kd.S_types HO119.out BK112.out (by decide)) (fun _ hk => hk.2) (.slice Ao23 y117.length co23)) (fun _ hk => trivial)⟩, ⟨by (with_reducible repeat (first | refine bn ?_ _ | refine bd ?_ | refine ba ?_ _)); refine blk_far ?_ NB107_112.out _; (with_reducible repeat (first | refine bn ?_ _ | refine bd ?_ | refine ba ?_ _)); exact BK107.out⟩, ⟨by (with_reducible repeat (first | refine bn ?_ _ | refine bd ?_ | refine ba ?_ _)); refine blk_far ?_ NB108_112.out _; (with_reducible repeat (first | refine bn ?_ _ | refine bd ?_ | refine ba ?_ _)); exact BK108.out⟩, ⟨by (with_reducible repeat (first | refine bn ?_ _ | refine bd ?_ | refine ba ?_ _)); refine blk_put (cs := #[.slice Ao8 t109.length co8, u113001]) ?_ 1 _ rfl; (with_reducible repeat (first | refine bn ?_ _ | refine bd ?_ | refine ba ?_ _)); exact BK112.out⟩, ⟨by repeat (first | (with_reducible first | exact HB.out | apply bl | apply pN | apply b1 | refine bs ?_ GE107.out | refine bs ?_ GE108.out | refine bs ?_ GE112.out) | exact HB.out | exact HBo.out)⟩⟩
      ·
       rw [if_neg c18] at H
       exact absurd H (by simp)
     ·
      rw [if_neg c16] at H
      exact absurd H (by simp)
    ·
     rw [if_neg c15] at H
     exact absurd H (by simp)
   ·
    rw [if_neg c14] at H
    have c14b0 : decide (x13_1 < (l0_1.length : Int)) = false := decide_eq_false c14
    clear c14
    simp only [Option.some.injEq, Prod.mk.injEq] at H
    obtain ⟨rfl, rfl⟩ := H
    have hnb25 := NB112_107.out
    have hnc25 := NB107_112.out
    have hnb26 := NB112_108.out
    have hnc26 := NB108_112.out
    have hcz27_0 : wr.cell? ⟨gb112, 0, none⟩ = some (.slice Ao8 t109.length co8) := (bc BK112.out 0).trans rfl
    have hcz27_1 : wr.cell? ⟨gb112, 1, none⟩ = some (u113001) := (bc BK112.out 1).trans rfl
    have hfz27_0 := bf BK112.out 0
    have hfz27_1 := bf BK112.out 1
    have hnb28 := NB108_107.out
    have hnc28 := NB107_108.out
    have hcz29_0 : wr.cell? ⟨gb108, 0, none⟩ = some (.slice none 0 0) := (bc BK108.out 0).trans rfl
    have hcz29_1 : wr.cell? ⟨gb108, 1, none⟩ = some (.slice none 0 0) := (bc BK108.out 1).trans rfl
    have hfz29_0 := bf BK108.out 0
    have hfz29_1 := bf BK108.out 1
    obtain ⟨Ao30, co30, eo30⟩ := Kd.S_slice HO_113001.out
    subst eo30
    go_wp2
    refine bodyPost_ret (results_cell_row rfl _ _ gb108 25 #[.slice Ao8 t109.length co8, .slice Ao30 x113001_1.length co30] (0, 0) _ rfl (by (with_reducible repeat (first | refine bn ?_ _ | refine bd ?_ | refine ba ?_ _)); refine blk_put (cs := #[.slice Ao8 t109.length co8, .slice none 0 0]) ?_ 1 _ rfl; (with_reducible repeat (first | refine bn ?_ _ | refine bd ?_ | refine ba ?_ _)); refine blk_put (cs := #[.slice none 0 0, .slice none 0 0]) ?_ 0 _ rfl; (with_reducible repeat (first | refine bn ?_ _ | refine bd ?_ | refine ba ?_ _)); exact BK108.out) Try.underlying25 rfl (by kernel_rfl)) rfl ?_
    exact ⟨_, _, by first | rfl | (simp [errW_none, errW_some] <;> rfl) | (simp [*, errW_none, errW_some] <;> rfl) | (simp [Aid.ne_nil, Aid.eq_nil, errW_none, errW_some]; done), by (with_reducible repeat (first | apply Kd.R_alloc | apply Kd.R_drewN | apply Kd.R_drew)); exact Kd.R_mono (Kd.R_far (p := ⟨gb108, 1, none⟩) (Kd.R_far (p := ⟨gb108, 0, none⟩) (Kd.R_types HO_113000.out BK108.out (by decide)) (fun _ hk => hk.2) (.slice Ao8 t109.length co8)) (fun _ hk => hk.2) (.slice Ao30 x113001_1.length co30)) (fun _ hk => trivial), by (with_reducible repeat (first | apply Kd.S_alloc | apply Kd.S_drewN | apply Kd.S_drew)); exact Kd.S_mono (Kd.S_far (p := ⟨gb108, 1, none⟩) (Kd.S_far (p := ⟨gb108, 0, none⟩) (Kd.S_types HO_113001.out BK108.out (by decide)) (fun _ hk => hk.2) (.slice Ao8 t109.length co8)) (fun _ hk => hk.2) (.slice Ao30 x113001_1.length co30)) (fun _ hk => trivial), by repeat (first | (with_reducible first | exact HB.out | apply bl | apply pN | apply b1 | refine bs ?_ GE107.out | refine bs ?_ GE108.out | refine bs ?_ GE112.out) | exact HB.out | exact HBo.out)⟩

/-! ### slices_Index_string_string: function 37 -/
def slices_Index_string_string.l0 : Nat → List ByteArray → ByteArray → Int → Int → Option (Int)
 | 0, _, _, _, _ => none
 | k + 1, x0, x1, x7, x8 => if x8 < x7 then (if 0 ≤ x8 then (if x8 < (x0.length : Int) then (if x1.toList = (rdOf ByteArray.empty x0 x8).toList then (some x8) else (slices_Index_string_string.l0 k x0 x1 x7 (wrap64 (x8 + 1)))) else (none)) else (none)) else (some (-1))
def slices_Index_string_string.f (k : Nat) (l0 : List ByteArray) (a1 : ByteArray) : Option (Int) := slices_Index_string_string.l0 k l0 a1 (l0.length : Int) 0
theorem slices_Index_string_string.mono_l : ∀ k, (∀ y0 y1 y2 y3, LeO (slices_Index_string_string.l0 k y0 y1 y2 y3) (slices_Index_string_string.l0 (k + 1) y0 y1 y2 y3))
 | 0 => fun _ _ _ _ r h => by simp [slices_Index_string_string.l0] at h
 | k + 1 => by
  have ih0 := slices_Index_string_string.mono_l k
  ·
   intro y0 y1 y2 y3
   unfold slices_Index_string_string.l0
   repeat' first
   | (with_reducible exact ih0 _ _ _ _)
   | (with_reducible exact LeO.refl _)
   | (with_reducible exact LeO.none _)
   | (with_reducible refine LeO.ite ?_ ?_)
   | (with_reducible refine LeO.bind ?_ (fun _ => ?_))
   | exact ih0 _ _ _ _
   | exact LeO.none _
   | refine LeO.ite ?_ ?_
   | refine LeO.bind ?_ (fun _ => ?_)
theorem slices_Index_string_string.mono : ∀ a0 a1 k, LeO (slices_Index_string_string.f k a0 a1) (slices_Index_string_string.f (k + 1) a0 a1) := by
 intro a0 a1 k
 have ih0 := slices_Index_string_string.mono_l k
 unfold slices_Index_string_string.f
 repeat' first
   | (with_reducible exact ih0 _ _ _ _)
   | (with_reducible exact LeO.refl _)
   | (with_reducible exact LeO.none _)
   | (with_reducible refine LeO.ite ?_ ?_)
   | (with_reducible refine LeO.bind ?_ (fun _ => ?_))
   | exact ih0 _ _ _ _
   | exact LeO.none _
   | refine LeO.ite ?_ ?_
   | refine LeO.bind ?_ (fun _ => ?_)
set_option maxHeartbeats 8000000 in
set_option maxRecDepth 100000 in
theorem slices_Index_string_string.calls (k : Nat) (A0 : Option Addr) (c0 : Nat) (l0 : List ByteArray) (a1 : ByteArray) (r : Int) (w : World) (hr0 : Kd.C Kd.string w A0 l0.length l0) (hc0 : l0.length ≤ c0) (h : slices_Index_string_string.f k l0 a1 = some r) :
  Calls Try.prog 37 #[.slice A0 l0.length c0, .string a1] w fun e w' => e = .returned (.int .i64 r) ∧ Drawn0 w w' := by
 have HR0 := Am hr0
 have HC0 := Am hc0
 clear hr0 hc0
 have H : (slices_Index_string_string.l0 k l0 a1 (l0.length : Int) 0) = some r := h
 clear h
 have H' := Am H
 clear H
 go_enter Try.func37, Try.ntmps37
 go_wp2
 go_loopg [8] k (fun kq v8 w' => ∃ (x8_1 : Int), v8 = .int .i64 x8_1 ∧ Aside0 (slices_Index_string_string.l0 kq l0 a1 (l0.length : Int) x8_1 = some r) ∧ Aside0 (kq ≤ k) ∧ Drawn0 w w')
 case atStart => exact ⟨(0), (by first | rfl | (simp; done) | (simp [*]; done)), H', ⟨Nat.le_refl _⟩, by repeat (first | exact Drawn0.refl _ | apply Drawn0.step)⟩
 case round =>
  clear H'
  try clear p2
  obtain ⟨x8_1, rfl, HA, HK1, ⟨m1, rfl⟩⟩ := hrel
  cases gk with
  | zero => exact absurd HA.out (by simp [slices_Index_string_string.l0])
  | succ k1 =>
   have H := HA.out
   clear HA
   simp only [slices_Index_string_string.l0] at H
   by_cases c3 : x8_1 < (l0.length : Int)
   ·
    rw [if_pos c3] at H
    have c3b0 : decide (x8_1 < (l0.length : Int)) = true := decide_eq_true c3
    clear c3
    by_cases c4 : 0 ≤ x8_1
    ·
     rw [if_pos c4] at H
     have c4b0 : decide (0 ≤ x8_1) = true := decide_eq_true c4
     clear c4
     by_cases c5 : x8_1 < (l0.length : Int)
     ·
      rw [if_pos c5] at H
      have c5b0 : decide (x8_1 < (l0.length : Int)) = true := decide_eq_true c5
      clear c5
      by_cases c6 : a1.toList = (rdOf ByteArray.empty l0 x8_1).toList
      ·
       rw [if_pos c6] at H
       have c6b0 : (a1.toList == (rdOf ByteArray.empty l0 x8_1).toList) = true := beq_iff_eq.mpr c6
       have c6b1 : (a1.toList != (rdOf ByteArray.empty l0 x8_1).toList) = false := bne_eq_false_iff_eq.mpr c6
       clear c6
       obtain rfl := Option.some.inj H
       have p120 : 0 ≤ (x8_1 : Int) := of_decide_eq_true (by first | (with_reducible assumption) | assumption)
       have q120 : x8_1 < (l0.length : Int) := of_decide_eq_true (by first | (with_reducible assumption) | assumption)
       obtain ⟨ad120, e120, hx120_0⟩ := Kd.at_string HR0.out x8_1 p120 q120
       cases e120
       replace p120 := eq_true p120
       replace q120 := eq_true q120
       go_wp2
       go_ret
       exact ⟨by first | rfl | (simp; done) | (simp [*]; done), by repeat (first | exact Drawn0.refl _ | apply Drawn0.step)⟩
      ·
       rw [if_neg c6] at H
       have c6b0 : (a1.toList == (rdOf ByteArray.empty l0 x8_1).toList) = false := beq_eq_false_iff_ne.mpr c6
       have c6b1 : (a1.toList != (rdOf ByteArray.empty l0 x8_1).toList) = true := bne_iff_ne.mpr c6
       have H' := Am H
       clear H
       have p120 : 0 ≤ (x8_1 : Int) := of_decide_eq_true (by first | (with_reducible assumption) | assumption)
       have q120 : x8_1 < (l0.length : Int) := of_decide_eq_true (by first | (with_reducible assumption) | assumption)
       obtain ⟨ad120, e120, hx120_0⟩ := Kd.at_string HR0.out x8_1 p120 q120
       cases e120
       replace p120 := eq_true p120
       replace q120 := eq_true q120
       go_wp2
       go_roundg k1
       case measure => have := HK1.out; omega
       case rel => exact ⟨(wrap64 (x8_1 + 1)), (by first | rfl | (simp; done) | (simp [*]; done)), H', ⟨by have := HK1.out; omega⟩, by repeat (first | exact Drawn0.refl _ | apply Drawn0.step)⟩
     ·
      rw [if_neg c5] at H
      exact absurd H (by simp)
    ·
     rw [if_neg c4] at H
     exact absurd H (by simp)
   ·
    rw [if_neg c3] at H
    have c3b0 : decide (x8_1 < (l0.length : Int)) = false := decide_eq_false c3
    clear c3
    obtain rfl := Option.some.inj H
    go_wp2
    go_ret
    exact ⟨by first | rfl | (simp; done) | (simp [*]; done), by repeat (first | exact Drawn0.refl _ | apply Drawn0.step)⟩

/-- A state of type 25 at block g of W; what its slices lead to came in by w0. -/
def IsS25 (w0 W : World) (g : Nat) (f0 : List ByteArray) (f1 : List (List (S50))) : Prop := ∃ A0 c0, ∃ A1 c1, W.heap[g]? = some (.cells #[.slice A0 f0.length c0, .slice A1 f1.length c1] 25 (0, 0)) ∧ w0.heap.size ≤ g ∧ Kd.C Kd.string w0 A0 f0.length f0 ∧ Kd.C (Kd.slice 50 k50) w0 A1 f1.length f1
theorem IsS25.grown {w0 W : World} {g : Nat} {f0 : List ByteArray} {f1 : List (List (S50))} {W1 : World} {row : Option Nat} (h : IsS25 w0 W g f0 f1) (hw : W.grownBy W1 row) (hne : some g ≠ row) : IsS25 w0 W1 g f0 f1 := by
 obtain ⟨A0, c0, A1, c1, hb, hg, hr0, hr1⟩ := h
 exact ⟨A0, c0, A1, c1, blk_grown hb hw hne, hg, hr0, hr1⟩
theorem IsS25.own_neN {w0 W : World} {g : Nat} {f0 : List ByteArray} {f1 : List (List (S50))} {α : Type} {d : Kd α} {e : Nat} {base : Nat} {ok : Nat → Prop} {v : Value} {xs : List α} (h : IsS25 w0 W g f0 f1) (ho : Kd.N d e W base ok v xs) (ht : e ≠ 25) : some g ≠ v.ownBlock := by
 obtain ⟨A0, c0, A1, c1, hb, hg, hr0, hr1⟩ := h
 exact Kd.N_ne ho hb ht
theorem IsS25.fresh {w0 W : World} {g : Nat} {f0 : List ByteArray} {f1 : List (List (S50))} (h : IsS25 w0 W g f0 f1) : ∀ k, W.heap.size ≤ k → k ≠ g := by
 obtain ⟨A0, c0, A1, c1, hb, hg, hr0, hr1⟩ := h
 exact Kd.freshB hb
theorem IsS25.kept {w0 W : World} {g : Nat} {f0 : List ByteArray} {f1 : List (List (S50))} {W1 : World} {S : Nat → Prop} (h : IsS25 w0 W g f0 f1) (hk : Kept W W1 S) (hne : ¬ S g) : IsS25 w0 W1 g f0 f1 := by
 obtain ⟨A0, c0, A1, c1, hb, hg, hr0, hr1⟩ := h
 exact ⟨A0, c0, A1, c1, blk_kept hb hk hne, hg, hr0, hr1⟩
theorem IsS25.below {w0 W : World} {g : Nat} {f0 : List ByteArray} {f1 : List (List (S50))} {W1 : World} (h : IsS25 w0 W g f0 f1) (hw : Below W.heap.size W W1) : IsS25 w0 W1 g f0 f1 := h.grown (grown_of_below hw none) (by simp)
theorem IsS25.alloc {w0 W : World} {g : Nat} {f0 : List ByteArray} {f1 : List (List (S50))} (h : IsS25 w0 W g f0 f1) (o : Obj) : IsS25 w0 (W.alloc o) g f0 f1 := h.below (bl (Below.refl _ _) o)
theorem IsS25.drewN {w0 W : World} {g : Nat} {f0 : List ByteArray} {f1 : List (List (S50))} (h : IsS25 w0 W g f0 f1) (m : Nat) : IsS25 w0 (W.drewN m) g f0 f1 := h
theorem IsS25.drew {w0 W : World} {g : Nat} {f0 : List ByteArray} {f1 : List (List (S50))} (h : IsS25 w0 W g f0 f1) : IsS25 w0 W.drew g f0 f1 := h
theorem IsS25.at_ {w0 W : World} {g : Nat} {f0 : List ByteArray} {f1 : List (List (S50))} {w' : World} {m : Nat} (hq : W.drewN m = w') (h : IsS25 w0 W g f0 f1) : IsS25 w0 w' g f0 f1 := by subst hq; exact IsS25.drewN h m
theorem IsS25.apart {w0 W : World} {g : Nat} {f0 : List ByteArray} {f1 : List (List (S50))} {α : Type} {d : Kd α} {e : Nat} {base : Nat} {ok : Nat → Prop} {v : Value} {xs : List α} (h : IsS25 w0 W g f0 f1) (ho : d.R e W base ok v xs) (ht : ∀ q, q ∈ e :: d.E → q ≠ 25) : d.R e W base (fun k => ok k ∧ k ≠ g) v xs := by
 obtain ⟨A0, c0, A1, c1, hb, hg, hr0, hr1⟩ := h
 exact Kd.R_types ho hb ht
theorem IsS25.own_ne {w0 W : World} {g : Nat} {f0 : List ByteArray} {f1 : List (List (S50))} {α : Type} {d : Kd α} {e : Nat} {base : Nat} {ok : Nat → Prop} {v : Value} {xs : List α} (h : IsS25 w0 W g f0 f1) (ho : d.R e W base ok v xs) (ht : e ≠ 25) : some g ≠ v.ownBlock := by
 obtain ⟨A0, c0, A1, c1, hb, hg, hr0, hr1⟩ := h
 exact Kd.R_ne ho hb ht
theorem IsS25.apartQ {w0 W : World} {g : Nat} {f0 : List ByteArray} {f1 : List (List (S50))} {α : Type} {d : Kd α} {e : Nat} {base : Nat} {ok : Nat → Prop} {v : Value} {xs : List α} (h : IsS25 w0 W g f0 f1) (ho : d.Q e W base ok v xs) (ht : ∀ q, q ∈ e :: d.E → q ≠ 25) : d.Q e W base (fun k => ok k ∧ k ≠ g) v xs := by
 obtain ⟨A0, c0, A1, c1, hb, hg, hr0, hr1⟩ := h
 exact Kd.Q_types ho hb ht
theorem IsS25.own_neQ {w0 W : World} {g : Nat} {f0 : List ByteArray} {f1 : List (List (S50))} {α : Type} {d : Kd α} {e : Nat} {base : Nat} {ok : Nat → Prop} {v : Value} {xs : List α} (h : IsS25 w0 W g f0 f1) (ho : d.Q e W base ok v xs) (ht : e ≠ 25) : some g ≠ v.ownBlock := by
 obtain ⟨A0, c0, A1, c1, hb, hg, hr0, hr1⟩ := h
 exact Kd.Q_ne ho hb ht
theorem IsS25.apartS {w0 W : World} {g : Nat} {f0 : List ByteArray} {f1 : List (List (S50))} {α : Type} {d : Kd α} {e : Nat} {base : Nat} {ok : Nat → Prop} {v : Value} {xs : List α} (h : IsS25 w0 W g f0 f1) (ho : d.S e W base ok v xs) (ht : ∀ q, q ∈ e :: d.E → q ≠ 25) : d.S e W base (fun k => ok k ∧ k ≠ g) v xs := by
 obtain ⟨A0, c0, A1, c1, hb, hg, hr0, hr1⟩ := h
 exact Kd.S_types ho hb ht
theorem IsS25.own_neS {w0 W : World} {g : Nat} {f0 : List ByteArray} {f1 : List (List (S50))} {α : Type} {d : Kd α} {e : Nat} {base : Nat} {ok : Nat → Prop} {v : Value} {xs : List α} (h : IsS25 w0 W g f0 f1) (ho : d.S e W base ok v xs) (ht : e ≠ 25) : some g ≠ v.ownBlock := by
 obtain ⟨A0, c0, A1, c1, hb, hg, hr0, hr1⟩ := h
 exact Kd.S_ne ho hb ht
theorem IsS25.lt {w0 W : World} {g : Nat} {f0 : List ByteArray} {f1 : List (List (S50))} (h : IsS25 w0 W g f0 f1) : g < W.heap.size := by
 obtain ⟨A0, c0, A1, c1, hb, hg, hr0, hr1⟩ := h
 exact blk_lt hb
theorem IsS25.ge {w0 W : World} {g : Nat} {f0 : List ByteArray} {f1 : List (List (S50))} (h : IsS25 w0 W g f0 f1) : w0.heap.size ≤ g := by
 obtain ⟨A0, c0, A1, c1, hb, hg, hr0, hr1⟩ := h
 exact hg
theorem IsS25.ne_blk {w0 W : World} {g : Nat} {f0 : List ByteArray} {f1 : List (List (S50))} {a : Nat} {cs : Array Value} {t : TypeId} {fr : Nat × Nat} (h : IsS25 w0 W g f0 f1) (hb2 : W.heap[a]? = some (.cells cs t fr)) (ht : t ≠ 25) : g ≠ a := by
 obtain ⟨A0, c0, A1, c1, hb, hg, hr0, hr1⟩ := h
 rintro rfl
 rw [hb] at hb2
 injection hb2 with hb2
 injection hb2 with _ ht2
 exact ht ht2.symm
theorem IsS25.far {w0 W : World} {g : Nat} {f0 : List ByteArray} {f1 : List (List (S50))} {p : Addr} (h : IsS25 w0 W g f0 f1) (hne : g ≠ p.block) (u : Value) : IsS25 w0 (W.setCell p u) g f0 f1 := by
 obtain ⟨A0, c0, A1, c1, hb, hg, hr0, hr1⟩ := h
 exact ⟨A0, c0, A1, c1, blk_far hb hne u, hg, hr0, hr1⟩
theorem cellS25_0 {W : World} {g : Nat} {A0 : Option Addr} {c0 : Nat} {A1 : Option Addr} {c1 : Nat} {f0 : List ByteArray} {f1 : List (List (S50))} (h : W.heap[g]? = some (.cells #[.slice A0 f0.length c0, .slice A1 f1.length c1] 25 (0, 0))) : W.cell? ⟨g, 0, none⟩ = some (.slice A0 f0.length c0) := (bc h 0).trans rfl
theorem cellS25_1 {W : World} {g : Nat} {A0 : Option Addr} {c0 : Nat} {A1 : Option Addr} {c1 : Nat} {f0 : List ByteArray} {f1 : List (List (S50))} (h : W.heap[g]? = some (.cells #[.slice A0 f0.length c0, .slice A1 f1.length c1] 25 (0, 0))) : W.cell? ⟨g, 1, none⟩ = some (.slice A1 f1.length c1) := (bc h 1).trans rfl
theorem IsS25.new (w0 W : World) (A0 : Option Addr) (c0 : Nat) (A1 : Option Addr) (c1 : Nat) (f0 : List ByteArray) (f1 : List (List (S50))) (hB : Below w0.heap.size w0 W) (hr0 : Kd.C Kd.string w0 A0 f0.length f0) (hr1 : Kd.C (Kd.slice 50 k50) w0 A1 f1.length f1) : IsS25 w0 (W.alloc (.cells #[.slice A0 f0.length c0, .slice A1 f1.length c1] 25)) W.heap.size f0 f1 := ⟨A0, c0, A1, c1, by simpa using heap_alloc_new W _, hB.size, hr0, hr1⟩

/-! ### intern_str: function 24, by hand -/
/-- A row is kept by what writes blocks of other types alone. -/
theorem R_keptT {α : Type} {d : Kd α} {e base : Nat} {ok S : Nat → Prop} {w w' : World} {v : Value} {xs : List α} (h : d.R e w base ok v xs) (hk : Kept w w' S) (ht : ∀ k q cells, q ∈ e :: d.E → w.heap[k]? = some (.cells cells q (0, 0)) → ¬ S k) : d.R e w' base ok v xs :=
 Kd.R_mono (Kd.R_kept (Kd.R_bound h) hk (fun k hk => by obtain ⟨q, hq, cells, hc⟩ := hk.2.2.2; exact ht k q cells hq hc)) (fun _ h => h.1)
theorem S_keptT {α : Type} {d : Kd α} {e base : Nat} {ok S : Nat → Prop} {w w' : World} {v : Value} {xs : List α} (h : Kd.S d e w base ok v xs) (hk : Kept w w' S) (ht : ∀ k q cells, q ∈ e :: d.E → w.heap[k]? = some (.cells cells q (0, 0)) → ¬ S k) : Kd.S d e w' base ok v xs :=
 Kd.S_mono (Kd.S_kept (Kd.S_bound h) hk (fun k hk => by obtain ⟨q, hq, cells, hc⟩ := hk.2.2.2; exact ht k q cells hq hc)) (fun _ h => h.1)
def intern_str.f (k : Nat) (l0 : List ByteArray) (a1 : ByteArray) : Option (List ByteArray × Int) := if a1.toList = ([] : List UInt8) then some (l0, 0) else ((slices_Index_string_string.f k l0 a1).bind fun t => if 0 ≤ t then some (l0, wrap64 (t + 1)) else if l0.length < 8796093022207 then some (l0 ++ [a1], (l0.length : Int) + 1) else none)
theorem intern_str.mono : ∀ a0 a1 k, LeO (intern_str.f k a0 a1) (intern_str.f (k + 1) a0 a1) := fun a0 a1 k => by
 unfold intern_str.f
 exact LeO.ite (LeO.refl _) (LeO.bind (slices_Index_string_string.mono _ _ _) (fun _ => LeO.refl _))
set_option maxHeartbeats 8000000 in
set_option maxRecDepth 100000 in
theorem intern_str.calls (k : Nat) (w0 : World) (b : Nat) (v0 v1 : Value) (l0 : List ByteArray) (a1 : ByteArray) (r1 : List ByteArray) (r2 : Int) (w : World) (hbx : w.heap[b]? = some (.cells #[v0, v1] 25 (0, 0))) (ho : Kd.R Kd.string 9 w w0.heap.size (fun _ => True) v0 l0) (hb0 : w0.heap.size ≤ b) (hB : Below w0.heap.size w0 w) (h : intern_str.f k l0 a1 = some (r1, r2)) :
  Calls Try.prog 24 #[.pointer (some ⟨b, 0, none⟩), .string a1] w fun e w' => ∃ v0' : Value, e = .returned (.int .i64 r2) ∧ w'.heap[b]? = some (.cells #[v0', v1] 25 (0, 0)) ∧ Kd.R Kd.string 9 w' w0.heap.size (fun _ => True) v0' r1 ∧ Below w0.heap.size w0 w' ∧ Kept w w' (fun k => k = b ∨ some k = v0.ownBlock) := by
 obtain ⟨A0, c0, rfl⟩ := Kd.R_slice ho
 have hrd := Kd.R_reads' ho
 have HC := Am hrd.2.2
 have HL := Am hrd.2.1
 have HO := Am ho
 have HBX := Am hbx
 have HB := Am hB
 have HB0 := Am hb0
 have hq0 := (bc hbx 0).trans (show _ = some (Value.slice A0 l0.length c0) from rfl)
 clear hrd ho hbx hB hb0
 unfold intern_str.f at h
 by_cases e1 : a1.toList = ([] : List UInt8)
 ·
  rw [if_pos e1] at h
  have e1b : (a1.toList == ([] : List UInt8)) = true := beq_iff_eq.mpr e1
  have e1c : a1.toList.isEmpty = true := by rw [e1]; rfl
  clear e1
  cases h
  go_enter Try.func24, Try.ntmps24
  go_wp2
  go_ret
  exact ⟨_, rfl, HBX.out, HO.out, HB.out, Kept.refl _ _⟩
 rw [if_neg e1] at h
 have e1b : (a1.toList == ([] : List UInt8)) = false := beq_eq_false_iff_ne.mpr e1
 have e1c : a1.toList.isEmpty = false := by rw [← Bool.not_eq_true, List.isEmpty_iff]; exact e1
 clear e1
 replace h := ob h
 obtain ⟨t, ht, h⟩ := h
 have HT := Am ht
 clear ht
 by_cases e2 : 0 ≤ t
 ·
  rw [if_pos e2] at h
  have e2b : decide (0 ≤ t) = true := decide_eq_true e2
  clear e2
  cases h
  go_enter Try.func24, Try.ntmps24
  go_wp2_with (first | (go_at_call 37; (with_reducible refine (slices_Index_string_string.calls k A0 c0 l0 a1 t _ HC.out HL.out HT.out).mono ?_); rintro e w1 ⟨rfl, hd⟩; have HD := Am (show Below w.heap.size w w1 by first | exact hd.below | exact hd); clear hd))
  go_ret
  exact ⟨_, rfl, blk_below HBX.out HD.out, Kd.R_below HO.out HD.out, below_step HB.out HD.out, Kept.of_below HD.out _⟩
 rw [if_neg e2] at h
 have e2b : decide (0 ≤ t) = false := decide_eq_false e2
 clear e2
 by_cases e3 : l0.length < 8796093022207
 ·
  rw [if_pos e3] at h
  have HLT := Am e3
  clear e3
  cases h
  go_enter Try.func24, Try.ntmps24
  go_wp2_with (first | (go_at_call 37; (with_reducible refine (slices_Index_string_string.calls k A0 c0 l0 a1 t _ HC.out HL.out HT.out).mono ?_); rintro e w1 ⟨rfl, hd⟩; have HD := Am (show Below w.heap.size w w1 by first | exact hd.below | exact hd); have HBX1 := Am (blk_below HBX.out HD.out); have HO1 := Am (Kd.R_below HO.out HD.out); have HB1 := Am (below_step HB.out HD.out); have hq1 := (bc HBX1.out 0).trans (show _ = some (Value.slice A0 l0.length c0) from rfl); have hq2 := (bc (ba HBX1.out (.cells #[.string a1] 9)) 0).trans (show _ = some (Value.slice A0 l0.length c0) from rfl); clear hd) | (at_builtin; refine Kd.R_append Kd.string (w0 := w0) w0.heap.size rfl (.tmp 22) (.tmp 24) 22 9 (.string ⟨#[]⟩) 16 rfl Try.underlying22 info9 rfl (by decide) (by decide) (.slice A0 l0.length c0) l0 a1 [.string a1] (fun _ => True) (fun _ => False) rfl rfl rfl (fun _ h => h.elim) (fun _ _ => trivial) HO1.out HB1.out HB1.out.size (by have := HLT.out; omega) ?_; intro v3 w3 hr3 hb3 hg3 hat3; obtain ⟨A3, c3, rfl⟩ := Kd.R_slice hr3; have HBX3 := Am (blk_grown HBX1.out hg3 (Kd.R_ne HO1.out HBX1.out (by decide))); have HR3 := Am hr3; have HB3 := Am hb3; have HK3 := Am (Kept.of_grown hg3 (Kept.of_below HD.out (fun k => k = b ∨ some k = (Value.slice A0 l0.length c0).ownBlock)) (fun k hk => .inl (.inr hk.symm))); have hcz := (bc HBX3.out 0).trans (show _ = some (Value.slice A0 l0.length c0) from rfl); have hfz : w3.frozen? ⟨b, 0, none⟩ = false := Lib.frozen_of_heap HBX3.out 0; clear hr3 hb3 hg3 hat3))
  go_ret
  refine ⟨.slice A3 (l0.length + 1) c3, rfl, ?_, ?_, ?_, ?_⟩
  ·
   exact blk_set HBX3.out 0 _
  ·
   have hr := HR3.out
   rw [List.length_append, List.length_singleton] at hr
   exact Kd.R_set hr HBX3.out (by decide) 0 _
  ·
   exact HB3.out.setCell (p := ⟨b, 0, none⟩) HB0.out _
  ·
   exact HK3.out.setCell (p := ⟨b, 0, none⟩) (.inl (.inl rfl)) _
 ·
  rw [if_neg e3] at h
  cases h

/-! ### intern_String: function 11, by hand -/
def intern_String.f (k : Nat) (l0_0 : List ByteArray) (l0_1 : List (List S50)) (a1 : ByteArray) : Option (List ByteArray × (List (List S50)) × Int) := (intern_May.f k l0_0 l0_1).bind fun t => if t = true then ((intern_copied.f k l0_0 l0_1).bind fun c => (intern_str.f k c.1 a1).bind fun d => (intern_May.f k d.1 c.2).bind fun u => if u = true then some (d.1, c.2, d.2) else some (([] : List ByteArray), ([] : List (List S50)), (0 : Int))) else some (([] : List ByteArray), ([] : List (List S50)), (0 : Int))
theorem intern_String.mono : ∀ a0 a1 a2 k, LeO (intern_String.f k a0 a1 a2) (intern_String.f (k + 1) a0 a1 a2) := fun a0 a1 a2 k => by
 unfold intern_String.f
 exact LeO.bind (intern_May.mono _ _ _) (fun _ => LeO.ite (LeO.bind (intern_copied.mono _ _ _) (fun _ => LeO.bind (intern_str.mono _ _ _) (fun _ => LeO.bind (intern_May.mono _ _ _) (fun _ => LeO.refl _)))) (LeO.refl _))
theorem tb_size (w : World) (o : Obj) : (w.alloc o).heap.size = w.heap.size + 1 := by
 show (w.heap.push o).size = _
 simp
theorem ty_ne {w : World} {k q t : Nat} {cells cells' : Array Value} (h : w.heap[k]? = some (.cells cells q (0, 0))) (h' : w.heap[k]? = some (.cells cells' t (0, 0))) : q = t := by
 rw [h] at h'
 injection h' with h'
 injection h'
set_option maxHeartbeats 8000000 in
set_option maxRecDepth 100000 in
theorem intern_String.calls (k : Nat) (A0_0 : Option Addr) (c0_0 : Nat) (l0_0 : List ByteArray) (A0_1 : Option Addr) (c0_1 : Nat) (l0_1 : List (List S50)) (a1 : ByteArray) (r1 : List ByteArray) (r2 : List (List S50)) (r3 : Int) (w : World) (hr0_0 : Kd.C Kd.string w A0_0 l0_0.length l0_0) (hc0_0 : l0_0.length ≤ c0_0) (hr0_1 : Kd.C (Kd.slice 50 k50) w A0_1 l0_1.length l0_1) (hc0_1 : l0_1.length ≤ c0_1) (h : intern_String.f k l0_0 l0_1 a1 = some (r1, r2, r3)) :
  Calls Try.prog 11 #[.agg #[.slice A0_0 l0_0.length c0_0, .slice A0_1 l0_1.length c0_1], .string a1] w fun e w' => ∃ v0_ v1_ : Value, e = .returned (.tuple #[.agg #[v0_, v1_], .int .i64 r3]) ∧ Kd.R Kd.string 9 w' w.heap.size (fun _ => True) v0_ r1 ∧ Kd.S (Kd.slice 50 k50) 46 w' w.heap.size (fun _ => True) v1_ r2 ∧ Below w.heap.size w w' := by
 have HR0 := Am hr0_0
 have HR1 := Am hr0_1
 have HC0 := Am hc0_0
 have HC1 := Am hc0_1
 clear hr0_0 hr0_1 hc0_0 hc0_1
 have HB0 : Aside0 (Below w.heap.size w ((w.alloc (.cells #[.slice A0_0 l0_0.length c0_0, .slice A0_1 l0_1.length c0_1] 25)).alloc (.cells #[.slice none 0 0, .slice none 0 0] 25))) := ⟨bl (bl (Below.refl _ _) _) _⟩
 have BX0 : Aside0 (((w.alloc (.cells #[.slice A0_0 l0_0.length c0_0, .slice A0_1 l0_1.length c0_1] 25)).alloc (.cells #[.slice none 0 0, .slice none 0 0] 25)).heap[w.heap.size]? = some (.cells #[.slice A0_0 l0_0.length c0_0, .slice A0_1 l0_1.length c0_1] 25 (0, 0))) := ⟨ba (blk_new w _) _⟩
 have BZ0 : Aside0 (((w.alloc (.cells #[.slice A0_0 l0_0.length c0_0, .slice A0_1 l0_1.length c0_1] 25)).alloc (.cells #[.slice none 0 0, .slice none 0 0] 25)).heap[w.heap.size + 1]? = some (.cells #[.slice none 0 0, .slice none 0 0] 25 (0, 0))) := ⟨by have h := blk_new (w.alloc (.cells #[.slice A0_0 l0_0.length c0_0, .slice A0_1 l0_1.length c0_1] 25)) (.cells #[.slice none 0 0, .slice none 0 0] 25); rwa [tb_size] at h⟩
 unfold intern_String.f at h
 replace h := ob h
 obtain ⟨t, ht, h⟩ := h
 have HMY := Am (fun (W : World) (hW : Below w.heap.size w W) => intern_May.calls k A0_0 c0_0 l0_0 A0_1 c0_1 l0_1 t W (Kd.C_below HR0.out hW) HC0.out (Kd.C_below HR1.out hW) HC1.out ht)
 clear ht
 cases t with
 | false =>
  rw [if_neg Bool.false_ne_true] at h
  cases h
  go_enter Try.func11, Try.ntmps11
  go_wp2_with (first | (go_at_call 19; (with_reducible refine (HMY.out _ HB0.out).mono ?_); rintro e w1 ⟨rfl, hb⟩; have HB1 := Am (below_step HB0.out hb); have BZ1 := Am (blk_below BZ0.out hb); have hz0 := (bc BZ1.out 0).trans (show _ = some (Value.slice none 0 0) from rfl); have hz1 := (bc BZ1.out 1).trans (show _ = some (Value.slice none 0 0) from rfl); have fz0 : w1.frozen? ⟨w.heap.size + 1, 0, none⟩ = false := Lib.frozen_of_heap BZ1.out 0; have fz1 : w1.frozen? ⟨w.heap.size + 1, 1, none⟩ = false := Lib.frozen_of_heap BZ1.out 1; clear hb))
  refine bodyPost_ret (results_ct rfl _ _ (w.heap.size + 1) 25 #[.slice none 0 0, .slice none 0 0] (0, 0) _ rfl (blk_put (cs := #[.slice none 0 0, .slice none 0 0]) (blk_put (cs := #[.slice none 0 0, .slice none 0 0]) BZ1.out 0 _ rfl) 1 _ rfl) Try.underlying25 rfl (by kernel_rfl)) rfl ?_
  exact ⟨_, _, rfl, Kd.R_nil _ _ _ _ _, Kd.S_nil _ _ _ _ _, (HB1.out.setCell (p := ⟨w.heap.size + 1, 0, none⟩) (by simp) _).setCell (p := ⟨w.heap.size + 1, 1, none⟩) (by simp) _⟩
 | true =>
  replace h := (if_pos rfl).symm.trans h
  replace h := ob h
  obtain ⟨⟨m0, m1⟩, hcp, h⟩ := h
  replace h := ob h
  obtain ⟨⟨d0, n⟩, hst, h⟩ := h
  replace h := ob h
  obtain ⟨u, hu, h⟩ := h
  simp only at hst hu h
  have HCP := Am (fun (W : World) (hW : Below w.heap.size w W) => intern_copied.calls k A0_0 c0_0 l0_0 A0_1 c0_1 l0_1 m0 m1 W (Kd.C_below HR0.out hW) HC0.out (Kd.C_below HR1.out hW) HC1.out hcp)
  have HST := Am hst
  have HU := Am hu
  clear hcp hst hu
  cases u with
  | false =>
   rw [if_neg Bool.false_ne_true] at h
   cases h
   go_enter Try.func11, Try.ntmps11
   go_wp2_with (first | (go_at_call 19; (with_reducible refine (HMY.out _ HB0.out).mono ?_); rintro e w1 ⟨rfl, hb⟩; have HB1 := Am (below_step HB0.out hb); have BX1 := Am (blk_below BX0.out hb); have BZ1 := Am (blk_below BZ0.out hb); have hq0 := (bc BX1.out 0).trans (show _ = some (Value.slice A0_0 l0_0.length c0_0) from rfl); have hq1 := (bc BX1.out 1).trans (show _ = some (Value.slice A0_1 l0_1.length c0_1) from rfl); clear hb) | (go_at_call 23; (with_reducible refine (HCP.out _ HB1.out).mono ?_); rintro e w2 ⟨v0, v1, rfl, hr0, hr1, hb⟩; obtain ⟨A2, c2, rfl⟩ := Kd.R_slice hr0; obtain ⟨A3, c3, rfl⟩ := Kd.S_slice hr1; have HB2 := Am (below_step HB1.out hb); have BX2 := Am (blk_below BX1.out hb); have BZ2 := Am (blk_below BZ1.out hb); have hx0 := (bc BX2.out 0).trans (show _ = some (Value.slice A0_0 l0_0.length c0_0) from rfl); have hx1 := (bc BX2.out 1).trans (show _ = some (Value.slice A0_1 l0_1.length c0_1) from rfl); have fx0 : w2.frozen? ⟨w.heap.size, 0, none⟩ = false := Lib.frozen_of_heap BX2.out 0; have fx1 : w2.frozen? ⟨w.heap.size, 1, none⟩ = false := Lib.frozen_of_heap BX2.out 1; have BM := Am (blk_put (cs := #[.slice A0_0 l0_0.length c0_0, .slice A0_1 l0_1.length c0_1]) (cs' := #[.slice A2 m0.length c2, .slice A0_1 l0_1.length c0_1]) BX2.out 0 (.slice A2 m0.length c2) rfl); have BX3 := Am (blk_put (cs := #[.slice A2 m0.length c2, .slice A0_1 l0_1.length c0_1]) (cs' := #[.slice A2 m0.length c2, .slice A3 m1.length c3]) BM.out 1 (.slice A3 m1.length c3) rfl); have RR3 := Am (Kd.R_set (Kd.R_set (Kd.R_lower hr0 HB1.out.size) BX2.out (by decide) 0 (.slice A2 m0.length c2)) BM.out (by decide) 1 (.slice A3 m1.length c3)); have SS3 := Am (Kd.S_set (Kd.S_set (Kd.S_lower hr1 HB1.out.size) BX2.out (by decide) 0 (.slice A2 m0.length c2)) BM.out (by decide) 1 (.slice A3 m1.length c3)); have HB3 := Am ((HB2.out.setCell (p := ⟨w.heap.size, 0, none⟩) (Nat.le_refl _) (.slice A2 m0.length c2)).setCell (p := ⟨w.heap.size, 1, none⟩) (Nat.le_refl _) (.slice A3 m1.length c3)); have BZ3 := Am (blk_far (blk_far BZ2.out (by simp) _) (by simp) _ : ((w2.setCell ⟨w.heap.size, 0, none⟩ (.slice A2 m0.length c2)).setCell ⟨w.heap.size, 1, none⟩ (.slice A3 m1.length c3)).heap[w.heap.size + 1]? = _); clear hr0 hr1 hb) | (go_at_call 24; (with_reducible refine (intern_str.calls k w w.heap.size _ _ m0 a1 d0 n _ BX3.out RR3.out (Nat.le_refl _) HB3.out HST.out).mono ?_); rintro e w4 ⟨v4, rfl, hbx4, hr4, hb4, hk4⟩; obtain ⟨A4, c4, rfl⟩ := Kd.R_slice hr4; have BX4 := Am hbx4; have RR4 := Am hr4; have HB4 := Am hb4; have SS4 := Am (S_keptT SS3.out hk4 (by intro k_ q_ cells_ hq_ hc_; rintro (rfl | hk_); (· have := ty_ne hc_ BX3.out; subst this; revert hq_; decide); (· obtain ⟨cells2_, hc2_⟩ := Kd.R_typed RR3.out k_ hk_.symm; have := ty_ne hc_ hc2_; subst this; revert hq_; decide))); have BZ4 := Am (blk_kept BZ3.out hk4 (by rintro (hk_ | hk_); (· omega); (· exact Kd.R_ne RR3.out BZ3.out (by decide) hk_))); have hq40 := (bc BX4.out 0).trans (show _ = some (Value.slice A4 d0.length c4) from rfl); have hq41 := (bc BX4.out 1).trans (show _ = some (Value.slice A3 m1.length c3) from rfl); have RC4 := Am (Kd.R_reads' hr4); have SC4 := Am (Kd.S_reads' SS4.out); clear hbx4 hr4 hb4 hk4) | (go_at_call 19; (with_reducible refine (intern_May.calls k A4 c4 d0 A3 c3 m1 false _ RC4.out.2.2 RC4.out.2.1 SC4.out.2.2 SC4.out.2.1 HU.out).mono ?_); rintro e w5 ⟨rfl, hb⟩; have BX5 := Am (blk_below BX4.out hb); have BZ5 := Am (blk_below BZ4.out hb); have RR5 := Am (Kd.R_below RR4.out hb); have SS5 := Am (Kd.S_below SS4.out hb); have HB5 := Am (below_step HB4.out hb); have hq50 := (bc BX5.out 0).trans (show _ = some (Value.slice A4 d0.length c4) from rfl); have hq51 := (bc BX5.out 1).trans (show _ = some (Value.slice A3 m1.length c3) from rfl); have hz0 := (bc BZ5.out 0).trans (show _ = some (Value.slice none 0 0) from rfl); have hz1 := (bc BZ5.out 1).trans (show _ = some (Value.slice none 0 0) from rfl); have fz0 : w5.frozen? ⟨w.heap.size + 1, 0, none⟩ = false := Lib.frozen_of_heap BZ5.out 0; have fz1 : w5.frozen? ⟨w.heap.size + 1, 1, none⟩ = false := Lib.frozen_of_heap BZ5.out 1; clear hb))
   refine bodyPost_ret (results_ct rfl _ _ (w.heap.size + 1) 25 #[.slice none 0 0, .slice none 0 0] (0, 0) _ rfl (blk_put (cs := #[.slice none 0 0, .slice none 0 0]) (blk_put (cs := #[.slice none 0 0, .slice none 0 0]) BZ5.out 0 _ rfl) 1 _ rfl) Try.underlying25 rfl (by kernel_rfl)) rfl ?_
   exact ⟨_, _, rfl, Kd.R_nil _ _ _ _ _, Kd.S_nil _ _ _ _ _, (HB5.out.setCell (p := ⟨w.heap.size + 1, 0, none⟩) (by simp) _).setCell (p := ⟨w.heap.size + 1, 1, none⟩) (by simp) _⟩
  | true =>
   replace h := (if_pos rfl).symm.trans h
   simp only [Option.some.injEq, Prod.mk.injEq] at h
   obtain ⟨rfl, rfl, rfl⟩ := h
   go_enter Try.func11, Try.ntmps11
   go_wp2_with (first | (go_at_call 19; (with_reducible refine (HMY.out _ HB0.out).mono ?_); rintro e w1 ⟨rfl, hb⟩; have HB1 := Am (below_step HB0.out hb); have BX1 := Am (blk_below BX0.out hb); have BZ1 := Am (blk_below BZ0.out hb); have hq0 := (bc BX1.out 0).trans (show _ = some (Value.slice A0_0 l0_0.length c0_0) from rfl); have hq1 := (bc BX1.out 1).trans (show _ = some (Value.slice A0_1 l0_1.length c0_1) from rfl); clear hb) | (go_at_call 23; (with_reducible refine (HCP.out _ HB1.out).mono ?_); rintro e w2 ⟨v0, v1, rfl, hr0, hr1, hb⟩; obtain ⟨A2, c2, rfl⟩ := Kd.R_slice hr0; obtain ⟨A3, c3, rfl⟩ := Kd.S_slice hr1; have HB2 := Am (below_step HB1.out hb); have BX2 := Am (blk_below BX1.out hb); have BZ2 := Am (blk_below BZ1.out hb); have hx0 := (bc BX2.out 0).trans (show _ = some (Value.slice A0_0 l0_0.length c0_0) from rfl); have hx1 := (bc BX2.out 1).trans (show _ = some (Value.slice A0_1 l0_1.length c0_1) from rfl); have fx0 : w2.frozen? ⟨w.heap.size, 0, none⟩ = false := Lib.frozen_of_heap BX2.out 0; have fx1 : w2.frozen? ⟨w.heap.size, 1, none⟩ = false := Lib.frozen_of_heap BX2.out 1; have BM := Am (blk_put (cs := #[.slice A0_0 l0_0.length c0_0, .slice A0_1 l0_1.length c0_1]) (cs' := #[.slice A2 m0.length c2, .slice A0_1 l0_1.length c0_1]) BX2.out 0 (.slice A2 m0.length c2) rfl); have BX3 := Am (blk_put (cs := #[.slice A2 m0.length c2, .slice A0_1 l0_1.length c0_1]) (cs' := #[.slice A2 m0.length c2, .slice A3 m1.length c3]) BM.out 1 (.slice A3 m1.length c3) rfl); have RR3 := Am (Kd.R_set (Kd.R_set (Kd.R_lower hr0 HB1.out.size) BX2.out (by decide) 0 (.slice A2 m0.length c2)) BM.out (by decide) 1 (.slice A3 m1.length c3)); have SS3 := Am (Kd.S_set (Kd.S_set (Kd.S_lower hr1 HB1.out.size) BX2.out (by decide) 0 (.slice A2 m0.length c2)) BM.out (by decide) 1 (.slice A3 m1.length c3)); have HB3 := Am ((HB2.out.setCell (p := ⟨w.heap.size, 0, none⟩) (Nat.le_refl _) (.slice A2 m0.length c2)).setCell (p := ⟨w.heap.size, 1, none⟩) (Nat.le_refl _) (.slice A3 m1.length c3)); have BZ3 := Am (blk_far (blk_far BZ2.out (by simp) _) (by simp) _ : ((w2.setCell ⟨w.heap.size, 0, none⟩ (.slice A2 m0.length c2)).setCell ⟨w.heap.size, 1, none⟩ (.slice A3 m1.length c3)).heap[w.heap.size + 1]? = _); clear hr0 hr1 hb) | (go_at_call 24; (with_reducible refine (intern_str.calls k w w.heap.size _ _ m0 a1 d0 n _ BX3.out RR3.out (Nat.le_refl _) HB3.out HST.out).mono ?_); rintro e w4 ⟨v4, rfl, hbx4, hr4, hb4, hk4⟩; obtain ⟨A4, c4, rfl⟩ := Kd.R_slice hr4; have BX4 := Am hbx4; have RR4 := Am hr4; have HB4 := Am hb4; have SS4 := Am (S_keptT SS3.out hk4 (by intro k_ q_ cells_ hq_ hc_; rintro (rfl | hk_); (· have := ty_ne hc_ BX3.out; subst this; revert hq_; decide); (· obtain ⟨cells2_, hc2_⟩ := Kd.R_typed RR3.out k_ hk_.symm; have := ty_ne hc_ hc2_; subst this; revert hq_; decide))); have BZ4 := Am (blk_kept BZ3.out hk4 (by rintro (hk_ | hk_); (· omega); (· exact Kd.R_ne RR3.out BZ3.out (by decide) hk_))); have hq40 := (bc BX4.out 0).trans (show _ = some (Value.slice A4 d0.length c4) from rfl); have hq41 := (bc BX4.out 1).trans (show _ = some (Value.slice A3 m1.length c3) from rfl); have RC4 := Am (Kd.R_reads' hr4); have SC4 := Am (Kd.S_reads' SS4.out); clear hbx4 hr4 hb4 hk4) | (go_at_call 19; (with_reducible refine (intern_May.calls k A4 c4 d0 A3 c3 m1 true _ RC4.out.2.2 RC4.out.2.1 SC4.out.2.2 SC4.out.2.1 HU.out).mono ?_); rintro e w5 ⟨rfl, hb⟩; have BX5 := Am (blk_below BX4.out hb); have BZ5 := Am (blk_below BZ4.out hb); have RR5 := Am (Kd.R_below RR4.out hb); have SS5 := Am (Kd.S_below SS4.out hb); have HB5 := Am (below_step HB4.out hb); have hq50 := (bc BX5.out 0).trans (show _ = some (Value.slice A4 d0.length c4) from rfl); have hq51 := (bc BX5.out 1).trans (show _ = some (Value.slice A3 m1.length c3) from rfl); have hz0 := (bc BZ5.out 0).trans (show _ = some (Value.slice none 0 0) from rfl); have hz1 := (bc BZ5.out 1).trans (show _ = some (Value.slice none 0 0) from rfl); have fz0 : w5.frozen? ⟨w.heap.size + 1, 0, none⟩ = false := Lib.frozen_of_heap BZ5.out 0; have fz1 : w5.frozen? ⟨w.heap.size + 1, 1, none⟩ = false := Lib.frozen_of_heap BZ5.out 1; clear hb))
   refine bodyPost_ret (results_ct rfl _ _ (w.heap.size + 1) 25 #[.slice A4 d0.length c4, .slice A3 m1.length c3] (0, 0) _ rfl (blk_put (cs := #[.slice A4 d0.length c4, .slice none 0 0]) (blk_put (cs := #[.slice none 0 0, .slice none 0 0]) BZ5.out 0 _ rfl) 1 _ rfl) Try.underlying25 rfl (by kernel_rfl)) rfl ?_
   exact ⟨_, _, rfl, Kd.R_set (Kd.R_set RR5.out BZ5.out (by decide) 0 _) (blk_put (cs := #[.slice none 0 0, .slice none 0 0]) BZ5.out 0 _ rfl) (by decide) 1 _, Kd.S_set (Kd.S_set SS5.out BZ5.out (by decide) 0 _) (blk_put (cs := #[.slice none 0 0, .slice none 0 0]) BZ5.out 0 _ rfl) (by decide) 1 _, (HB5.out.setCell (p := ⟨w.heap.size + 1, 0, none⟩) (by simp) _).setCell (p := ⟨w.heap.size + 1, 1, none⟩) (by simp) _⟩

end Go.Proofs.Ytijjfomnidckdaa.Q
