-- printed by a program of this session (NOTES: hprint); not the kit's print
-- minified3
-- minified2
-- minified
-- halved
import Derived.Test.YtijjfomnidckdaaOg
import Derived.Test.YtijjfomnidckdaaAl
import Derived.Test.YtijjfomnidckdaaQx0
import Derived.Test.YtijjfomnidckdaaQx7
namespace Go.Proofs.Ytijjfomnidckdaa.Q
open Go.RowKit Go.Proofs.YtijjfomnidckdaaW.PrintWords Go.Proofs.YtijjfomnidckdaaW.PrintLast Go.Proofs.YtijjfomnidckdaaW.PrintMore
attribute [local go_sem] max2_int min2_int max_two min_two max_three min_three max_four min_four   -- for this text's walks alone
set_option linter.unusedVariables false
set_option linter.unusedSimpArgs false

/-! ### shuttlecockref06_Same: function 21 -/
mutual
def shuttlecockref06_Same.j0 : Nat → Bool → List ByteArray → List (List (S50)) → List ByteArray → List (List (S50)) → Option (Bool)
 | 0, _, _, _, _, _ => none
 | k + 1, x22, x208000, x208001, x209000, x209001 => if x22 = true then (some false) else (shuttlecockref06_Same.l0 k 0 x208000 x208001 x209000 x209001)
def shuttlecockref06_Same.l0 : Nat → Int → List ByteArray → List (List (S50)) → List ByteArray → List (List (S50)) → Option (Bool)
 | 0, _, _, _, _, _ => none
 | k + 1, x5, x208000, x208001, x209000, x209001 => if x5 < (x208000.length : Int) then (if 0 ≤ x5 then (if x5 < (x209000.length : Int) then (if (rdOf ByteArray.empty x208000 x5).toList = (rdOf ByteArray.empty x209000 x5).toList then (shuttlecockref06_Same.l0 k (wrap64 (x5 + 1)) x208000 x208001 x209000 x209001) else (some false)) else (none)) else (none)) else (shuttlecockref06_Same.l1 k 0 x208000 x208001 x209000 x209001)
def shuttlecockref06_Same.l1 : Nat → Int → List ByteArray → List (List (S50)) → List ByteArray → List (List (S50)) → Option (Bool)
 | 0, _, _, _, _, _ => none
 | k + 1, x6, x208000, x208001, x209000, x209001 => if x6 < (x208001.length : Int) then (if 0 ≤ x6 then (if x6 < (x209001.length : Int) then ((shuttlecockref06_SameStack.f k (rd_L2 x208001 x6) (rd_L2 x209001 x6)).bind fun t213 => (if t213 = true then (shuttlecockref06_Same.l1 k (wrap64 (x6 + 1)) x208000 x208001 x209000 x209001) else (some false))) else (none)) else (none)) else (some true)
end
def shuttlecockref06_Same.f (k : Nat) (l0_0 : List ByteArray) (l0_1 : List (List (S50))) (l1_0 : List ByteArray) (l1_1 : List (List (S50))) : Option (Bool) := if (l0_0.length : Int) = (l1_0.length : Int) then (shuttlecockref06_Same.j0 k ((l0_1.length : Int) != (l1_1.length : Int)) l0_0 l0_1 l1_0 l1_1) else (shuttlecockref06_Same.j0 k true l0_0 l0_1 l1_0 l1_1)
theorem shuttlecockref06_Same.mono_l : ∀ k, (∀ y0 y1 y2 y3 y4, LeO (shuttlecockref06_Same.j0 k y0 y1 y2 y3 y4) (shuttlecockref06_Same.j0 (k + 1) y0 y1 y2 y3 y4)) ∧ (∀ y0 y1 y2 y3 y4, LeO (shuttlecockref06_Same.l0 k y0 y1 y2 y3 y4) (shuttlecockref06_Same.l0 (k + 1) y0 y1 y2 y3 y4)) ∧ (∀ y0 y1 y2 y3 y4, LeO (shuttlecockref06_Same.l1 k y0 y1 y2 y3 y4) (shuttlecockref06_Same.l1 (k + 1) y0 y1 y2 y3 y4))
 | 0 => ⟨fun _ _ _ _ _ r h => by simp [shuttlecockref06_Same.j0] at h, fun _ _ _ _ _ r h => by simp [shuttlecockref06_Same.l0] at h, fun _ _ _ _ _ r h => by simp [shuttlecockref06_Same.l1] at h⟩
 | k + 1 => by
  obtain ⟨ih0, ih1, ih2⟩ := shuttlecockref06_Same.mono_l k
  refine ⟨?_, ?_, ?_⟩
  ·
   intro y0 y1 y2 y3 y4
   unfold shuttlecockref06_Same.j0
   repeat' first
   | (with_reducible exact ih0 _ _ _ _ _)
   | (with_reducible exact ih1 _ _ _ _ _)
   | (with_reducible exact ih2 _ _ _ _ _)
   | (with_reducible exact shuttlecockref06_SameStack.mono _ _ _)
   | (with_reducible exact LeO.refl _)
   | (with_reducible exact LeO.none _)
   | (with_reducible refine LeO.ite ?_ ?_)
   | (with_reducible refine LeO.bind ?_ (fun _ => ?_))
   | exact LeO.none _
   | refine LeO.ite ?_ ?_
   | refine LeO.bind ?_ (fun _ => ?_)
  ·
   intro y0 y1 y2 y3 y4
   unfold shuttlecockref06_Same.l0
   repeat' first
   | (with_reducible exact ih0 _ _ _ _ _)
   | (with_reducible exact ih1 _ _ _ _ _)
   | (with_reducible exact ih2 _ _ _ _ _)
   | (with_reducible exact shuttlecockref06_SameStack.mono _ _ _)
   | (with_reducible exact LeO.refl _)
   | (with_reducible exact LeO.none _)
   | (with_reducible refine LeO.ite ?_ ?_)
   | (with_reducible refine LeO.bind ?_ (fun _ => ?_))
   | exact LeO.none _
   | refine LeO.ite ?_ ?_
   | refine LeO.bind ?_ (fun _ => ?_)
  ·
   intro y0 y1 y2 y3 y4
   unfold shuttlecockref06_Same.l1
   repeat' first
   | (with_reducible exact ih0 _ _ _ _ _)
   | (with_reducible exact ih1 _ _ _ _ _)
   | (with_reducible exact ih2 _ _ _ _ _)
   | (with_reducible exact shuttlecockref06_SameStack.mono _ _ _)
   | (with_reducible exact LeO.refl _)
   | (with_reducible exact LeO.none _)
   | (with_reducible refine LeO.ite ?_ ?_)
   | (with_reducible refine LeO.bind ?_ (fun _ => ?_))
   | exact LeO.none _
   | refine LeO.ite ?_ ?_
   | refine LeO.bind ?_ (fun _ => ?_)
theorem shuttlecockref06_Same.mono : ∀ a0 a1 a2 a3 k, LeO (shuttlecockref06_Same.f k a0 a1 a2 a3) (shuttlecockref06_Same.f (k + 1) a0 a1 a2 a3) := by
 intro a0 a1 a2 a3 k
 obtain ⟨ih0, ih1, ih2⟩ := shuttlecockref06_Same.mono_l k
 unfold shuttlecockref06_Same.f
 repeat' first
   | (with_reducible exact ih0 _ _ _ _ _)
   | (with_reducible exact ih1 _ _ _ _ _)
   | (with_reducible exact ih2 _ _ _ _ _)
   | (with_reducible exact shuttlecockref06_SameStack.mono _ _ _)
   | (with_reducible exact LeO.refl _)
   | (with_reducible exact LeO.none _)
   | (with_reducible refine LeO.ite ?_ ?_)
   | (with_reducible refine LeO.bind ?_ (fun _ => ?_))
   | exact LeO.none _
   | refine LeO.ite ?_ ?_
   | refine LeO.bind ?_ (fun _ => ?_)
set_option maxHeartbeats 8000000 in
set_option maxRecDepth 100000 in
theorem shuttlecockref06_Same.calls (k : Nat) (A0_0 : Option Addr) (c0_0 : Nat) (l0_0 : List ByteArray) (A0_1 : Option Addr) (c0_1 : Nat) (l0_1 : List (List (S50))) (A1_0 : Option Addr) (c1_0 : Nat) (l1_0 : List ByteArray) (A1_1 : Option Addr) (c1_1 : Nat) (l1_1 : List (List (S50))) (r : Bool) (w : World) (hr0_0 : Kd.C Kd.string w A0_0 l0_0.length l0_0) (hc0_0 : l0_0.length ≤ c0_0) (hr0_1 : Kd.C (Kd.slice 50 k50) w A0_1 l0_1.length l0_1) (hc0_1 : l0_1.length ≤ c0_1) (hr1_0 : Kd.C Kd.string w A1_0 l1_0.length l1_0) (hc1_0 : l1_0.length ≤ c1_0) (hr1_1 : Kd.C (Kd.slice 50 k50) w A1_1 l1_1.length l1_1) (hc1_1 : l1_1.length ≤ c1_1) (h : shuttlecockref06_Same.f k l0_0 l0_1 l1_0 l1_1 = some r) :
  Calls Try.prog 21 #[.agg #[.slice A0_0 l0_0.length c0_0, .slice A0_1 l0_1.length c0_1], .agg #[.slice A1_0 l1_0.length c1_0, .slice A1_1 l1_1.length c1_1]] w fun e w' => e = .returned (.bool r) ∧ Below w.heap.size w w' := by
 have hu25 := Try.underlying25
 have HR0_0 := Am hr0_0
 have HC0_0 := Am hc0_0
 clear hr0_0 hc0_0
 have HR0_1 := Am hr0_1
 have HC0_1 := Am hc0_1
 clear hr0_1 hc0_1
 have HR1_0 := Am hr1_0
 have HC1_0 := Am hc1_0
 clear hr1_0 hc1_0
 have HR1_1 := Am hr1_1
 have HC1_1 := Am hc1_1
 clear hr1_1 hc1_1
 have HB := Am (Below.refl w.heap.size w)
 have H : (if (l0_0.length : Int) = (l1_0.length : Int) then (shuttlecockref06_Same.j0 k ((l0_1.length : Int) != (l1_1.length : Int)) l0_0 l0_1 l1_0 l1_1) else (shuttlecockref06_Same.j0 k true l0_0 l0_1 l1_0 l1_1)) = some r := h
 clear h
 have HC3 := Am H
 clear H
 go_enter Try.func21, Try.ntmps21
 go_upto_region 1 with (first | ((with_reducible refine gate_dst (N := 2) rfl ?_); (try (refine gate_guard (by rfl) ?_; dsimp only)); refine box_event ?hg (N := 2) ?hd (cs := #[.slice A0_0 l0_0.length c0_0, .slice A0_1 l0_1.length c0_1]) (t := 25) ?hr ?_; (case hd => rfl); (case hg => rfl); (case hr => first | (go_simp; done) | (go_simp; rfl)); intro gb207 hg w4 hbox hb; have BK207 := Am (hbox); have GW207 := Am ((by rw [hg]; exact (below_size (by repeat (first | (with_reducible first | exact HB.out | apply bl | apply pN | apply b1) | exact HB.out | exact HBo.out))) : w.heap.size ≤ gb207)); have GE207 := GW207; replace HB := Am (below_step (by repeat (first | (with_reducible first | exact HB.out | apply bl | apply pN | apply b1) | exact HB.out | exact HBo.out)) hb); clear hb hbox hg) | ((with_reducible refine gate_dst (N := 3) rfl ?_); (try (refine gate_guard (by rfl) ?_; dsimp only)); refine box_event ?hg (N := 3) ?hd (cs := #[.slice A1_0 l1_0.length c1_0, .slice A1_1 l1_1.length c1_1]) (t := 25) ?hr ?_; (case hd => rfl); (case hg => rfl); (case hr => first | (go_simp; done) | (go_simp; rfl)); intro gb208 hg w5 hbox hb; have BK208 := Am (hbox); have GW208 := Am ((by rw [hg]; exact (below_size (by repeat (first | (with_reducible first | exact HB.out | apply bl | apply pN | apply b1 | refine bs ?_ GE207.out) | exact HB.out | exact HBo.out))) : w.heap.size ≤ gb208)); have GE208 := GW208; have NB207_208 := Am ((by rw [hg]; exact Nat.ne_of_lt (blk_lt (g := gb207) (o := .cells #[.slice A0_0 l0_0.length c0_0, .slice A0_1 l0_1.length c0_1] 25 (0, 0)) (by (with_reducible repeat (first|apply bn|apply bd|apply ba)); exact BK207.out)) : gb207 ≠ gb208)); have NB208_207 := Am NB207_208.out.symm; replace BK207 := Am (blk_below (g := gb207) (o := .cells #[.slice A0_0 l0_0.length c0_0, .slice A0_1 l0_1.length c0_1] 25 (0, 0)) (by (with_reducible repeat (first|apply bn|apply bd|apply ba)); exact BK207.out) hb); replace HB := Am (below_step (by repeat (first | (with_reducible first | exact HB.out | apply bl | apply pN | apply b1 | refine bs ?_ GE207.out) | exact HB.out | exact HBo.out)) hb); clear hb hbox hg))
 repeat (go_quiet (first | ((with_reducible refine gate_dst (N := 2) rfl ?_); (try (refine gate_guard (by rfl) ?_; dsimp only)); refine box_event ?hg (N := 2) ?hd (cs := #[.slice A0_0 l0_0.length c0_0, .slice A0_1 l0_1.length c0_1]) (t := 25) ?hr ?_; (case hd => rfl); (case hg => rfl); (case hr => first | (go_simp; done) | (go_simp; rfl)); intro gb207 hg w4 hbox hb; have BK207 := Am (hbox); have GW207 := Am ((by rw [hg]; exact (below_size (by repeat (first | (with_reducible first | exact HB.out | apply bl | apply pN | apply b1) | exact HB.out | exact HBo.out))) : w.heap.size ≤ gb207)); have GE207 := GW207; replace HB := Am (below_step (by repeat (first | (with_reducible first | exact HB.out | apply bl | apply pN | apply b1) | exact HB.out | exact HBo.out)) hb); clear hb hbox hg) | ((with_reducible refine gate_dst (N := 3) rfl ?_); (try (refine gate_guard (by rfl) ?_; dsimp only)); refine box_event ?hg (N := 3) ?hd (cs := #[.slice A1_0 l1_0.length c1_0, .slice A1_1 l1_1.length c1_1]) (t := 25) ?hr ?_; (case hd => rfl); (case hg => rfl); (case hr => first | (go_simp; done) | (go_simp; rfl)); intro gb208 hg w5 hbox hb; have BK208 := Am (hbox); have GW208 := Am ((by rw [hg]; exact (below_size (by repeat (first | (with_reducible first | exact HB.out | apply bl | apply pN | apply b1 | refine bs ?_ GE207.out) | exact HB.out | exact HBo.out))) : w.heap.size ≤ gb208)); have GE208 := GW208; have NB207_208 := Am ((by rw [hg]; exact Nat.ne_of_lt (blk_lt (g := gb207) (o := .cells #[.slice A0_0 l0_0.length c0_0, .slice A0_1 l0_1.length c0_1] 25 (0, 0)) (by (with_reducible repeat (first|apply bn|apply bd|apply ba)); exact BK207.out)) : gb207 ≠ gb208)); have NB208_207 := Am NB207_208.out.symm; replace BK207 := Am (blk_below (g := gb207) (o := .cells #[.slice A0_0 l0_0.length c0_0, .slice A0_1 l0_1.length c0_1] 25 (0, 0)) (by (with_reducible repeat (first|apply bn|apply bd|apply ba)); exact BK207.out) hb); replace HB := Am (below_step (by repeat (first | (with_reducible first | exact HB.out | apply bl | apply pN | apply b1 | refine bs ?_ GE207.out) | exact HB.out | exact HBo.out)) hb); clear hb hbox hg)); go_upto_region 1 with (first | ((with_reducible refine gate_dst (N := 2) rfl ?_); (try (refine gate_guard (by rfl) ?_; dsimp only)); refine box_event ?hg (N := 2) ?hd (cs := #[.slice A0_0 l0_0.length c0_0, .slice A0_1 l0_1.length c0_1]) (t := 25) ?hr ?_; (case hd => rfl); (case hg => rfl); (case hr => first | (go_simp; done) | (go_simp; rfl)); intro gb207 hg w4 hbox hb; have BK207 := Am (hbox); have GW207 := Am ((by rw [hg]; exact (below_size (by repeat (first | (with_reducible first | exact HB.out | apply bl | apply pN | apply b1) | exact HB.out | exact HBo.out))) : w.heap.size ≤ gb207)); have GE207 := GW207; replace HB := Am (below_step (by repeat (first | (with_reducible first | exact HB.out | apply bl | apply pN | apply b1) | exact HB.out | exact HBo.out)) hb); clear hb hbox hg) | ((with_reducible refine gate_dst (N := 3) rfl ?_); (try (refine gate_guard (by rfl) ?_; dsimp only)); refine box_event ?hg (N := 3) ?hd (cs := #[.slice A1_0 l1_0.length c1_0, .slice A1_1 l1_1.length c1_1]) (t := 25) ?hr ?_; (case hd => rfl); (case hg => rfl); (case hr => first | (go_simp; done) | (go_simp; rfl)); intro gb208 hg w5 hbox hb; have BK208 := Am (hbox); have GW208 := Am ((by rw [hg]; exact (below_size (by repeat (first | (with_reducible first | exact HB.out | apply bl | apply pN | apply b1 | refine bs ?_ GE207.out) | exact HB.out | exact HBo.out))) : w.heap.size ≤ gb208)); have GE208 := GW208; have NB207_208 := Am ((by rw [hg]; exact Nat.ne_of_lt (blk_lt (g := gb207) (o := .cells #[.slice A0_0 l0_0.length c0_0, .slice A0_1 l0_1.length c0_1] 25 (0, 0)) (by (with_reducible repeat (first|apply bn|apply bd|apply ba)); exact BK207.out)) : gb207 ≠ gb208)); have NB208_207 := Am NB207_208.out.symm; replace BK207 := Am (blk_below (g := gb207) (o := .cells #[.slice A0_0 l0_0.length c0_0, .slice A0_1 l0_1.length c0_1] 25 (0, 0)) (by (with_reducible repeat (first|apply bn|apply bd|apply ba)); exact BK207.out) hb); replace HB := Am (below_step (by repeat (first | (with_reducible first | exact HB.out | apply bl | apply pN | apply b1 | refine bs ?_ GE207.out) | exact HB.out | exact HBo.out)) hb); clear hb hbox hg)))
 (try simp only [Act.put, sI, sZ, sS])
 go_cut [22] (fun v22 wc => ∃ (kq : Nat) (x22_2 : Bool), v22 = .bool x22_2 ∧ Aside0 (shuttlecockref06_Same.j0 kq x22_2 l0_0 l0_1 l1_0 l1_1 = some r) ∧ Aside0 (kq ≤ k) ∧ Aside0 (wc.heap[gb207]? = some (.cells #[(.slice A0_0 l0_0.length c0_0), (.slice A0_1 l0_1.length c0_1)] 25 (0, 0))) ∧ Aside0 (wc.heap[gb208]? = some (.cells #[(.slice A1_0 l1_0.length c1_0), (.slice A1_1 l1_1.length c1_1)] 25 (0, 0))) ∧ Aside0 (Below w.heap.size w wc))
 case first =>
  have H := HC3.out
  clear HC3
  by_cases c6 : (l0_0.length : Int) = (l1_0.length : Int)
  ·
   rw [if_pos c6] at H
   have c6b0 : ((l0_0.length : Int) == (l1_0.length : Int)) = true := beq_iff_eq.mpr c6
   have c6b1 : ((l0_0.length : Int) != (l1_0.length : Int)) = false := bne_eq_false_iff_eq.mpr c6
   have c6b2 : (l0_0.length == l1_0.length) = true := by first | simpa using c6 | (simp at c6 ⊢; omega)
   clear c6
   (first | rw [c6b0] | (simp only [i64_w, i32_w]; rw [c6b0]) | skip)
   have H' := Am H
   clear H
   have hnb7 := NB207_208.out
   have hnc7 := NB208_207.out
   have hcz8_0 := Own.bc2 BK207.out 0
   have hcz8_1 := Own.bc2 BK207.out 1
   have hfz8_0 := bf BK207.out 0
   have hfz8_1 := bf BK207.out 1
   have hcz9_0 := Own.bc2 BK208.out 0
   have hcz9_1 := Own.bc2 BK208.out 1
   have hfz9_0 := bf BK208.out 0
   have hfz9_1 := bf BK208.out 1
   go_wp2
   repeat (go_quiet (fail); try go_wp2)
   go_meet
   case rel => exact ⟨_, (((l0_1.length : Int) != (l1_1.length : Int))), (by first | rfl | (simp; done) | (simp [*]; done)), H', ⟨by first | omega | exact Nat.le_refl _⟩, ⟨by (with_reducible repeat (first|apply bn|apply bd|apply ba)); exact BK207.out⟩, ⟨by (with_reducible repeat (first|apply bn|apply bd|apply ba)); exact BK208.out⟩, ⟨by repeat (first | (with_reducible first | exact HB.out | apply bl | apply pN | apply b1 | refine bs ?_ GE207.out | refine bs ?_ GE208.out) | exact HB.out | exact HBo.out)⟩⟩
  ·
   rw [if_neg c6] at H
   have c6b0 : ((l0_0.length : Int) == (l1_0.length : Int)) = false := beq_eq_false_iff_ne.mpr c6
   have c6b1 : ((l0_0.length : Int) != (l1_0.length : Int)) = true := bne_iff_ne.mpr c6
   have c6b2 : (l0_0.length == l1_0.length) = false := by first | simpa using c6 | (simp at c6 ⊢; omega)
   (first | rw [c6b0] | (simp only [i64_w, i32_w]; rw [c6b0]) | skip)
   have H' := Am H
   clear H
   have hnb10 := NB207_208.out
   have hnc10 := NB208_207.out
   have hcz11_0 := Own.bc2 BK207.out 0
   have hcz11_1 := Own.bc2 BK207.out 1
   have hfz11_0 := bf BK207.out 0
   have hfz11_1 := bf BK207.out 1
   have hcz12_0 := Own.bc2 BK208.out 0
   have hcz12_1 := Own.bc2 BK208.out 1
   have hfz12_0 := bf BK208.out 0
   have hfz12_1 := bf BK208.out 1
   go_wp2
   repeat (go_quiet (fail); try go_wp2)
   go_meet
   case rel => exact ⟨_, (true), (by first | rfl | (simp; done) | (simp [*]; done)), H', ⟨by first | omega | exact Nat.le_refl _⟩, ⟨by (with_reducible repeat (first|apply bn|apply bd|apply ba)); exact BK207.out⟩, ⟨by (with_reducible repeat (first|apply bn|apply bd|apply ba)); exact BK208.out⟩, ⟨by repeat (first | (with_reducible first | exact HB.out | apply bl | apply pN | apply b1 | refine bs ?_ GE207.out | refine bs ?_ GE208.out) | exact HB.out | exact HBo.out)⟩⟩
 case rest =>
  clear HC3
  try clear c1
  try clear c2
  try clear p2
  try clear c6
  try clear c6b0
  try clear c6b1
  try clear c6b2
  try clear c7
  try clear c10
  try clear hcz11_0
  try clear hcz11_1
  try clear hcz12_0
  try clear hcz12_1
  try clear hcz8_0
  try clear hcz8_1
  try clear hcz9_0
  try clear hcz9_1
  try clear hfz11_0
  try clear hfz11_1
  try clear hfz12_0
  try clear hfz12_1
  try clear hfz8_0
  try clear hfz8_1
  try clear hfz9_0
  try clear hfz9_1
  obtain ⟨kq, x22_2, rfl, HA, HJ2, BK207, BK208, HB⟩ := hcut
  cases kq with
  | zero => exact absurd HA.out (by simp [shuttlecockref06_Same.j0])
  | succ kj2 =>
   have H := HA.out
   clear HA
   simp only [shuttlecockref06_Same.j0] at H
   by_cases c13 : x22_2 = true
   ·
    subst c13
    rw [if_pos rfl] at H
    obtain rfl := Option.some.inj H
    go_wp2
    repeat (go_quiet (fail); try go_wp2)
    go_ret
    exact ⟨by first | rfl | (simp <;> rfl) | (simp [*] <;> rfl) | (simp [Aid.ne_nil, Aid.eq_nil]; done), by repeat (first | (with_reducible first | exact HB.out | apply bl | apply pN | apply b1 | refine bs ?_ GE207.out | refine bs ?_ GE208.out) | exact HB.out | exact HBo.out)⟩
   ·
    replace c13 := Bool.eq_false_iff.mpr c13
    subst c13
    rw [if_neg (show ¬ (false = true) by decide)] at H
    have H' := Am H
    clear H
    go_wp2
    repeat (go_quiet (fail); try go_wp2)
    go_loopg [5] kj2 (fun kq v5 w' => ∃ (x5_2 : Int), v5 = .int .i64 x5_2 ∧ Aside0 (shuttlecockref06_Same.l0 kq x5_2 l0_0 l0_1 l1_0 l1_1 = some r) ∧ Aside0 (kq ≤ kj2) ∧ Aside0 (w'.heap[gb207]? = some (.cells #[(.slice A0_0 l0_0.length c0_0), (.slice A0_1 l0_1.length c0_1)] 25 (0, 0))) ∧ Aside0 (w'.heap[gb208]? = some (.cells #[(.slice A1_0 l1_0.length c1_0), (.slice A1_1 l1_1.length c1_1)] 25 (0, 0))) ∧ Aside0 (Below w.heap.size w w'))
    case atStart => exact ⟨(0), (by first | rfl | (simp; done) | (simp [*]; done)), H', ⟨Nat.le_refl _⟩, ⟨by (with_reducible repeat (first|apply bn|apply bd|apply ba)); exact BK207.out⟩, ⟨by (with_reducible repeat (first|apply bn|apply bd|apply ba)); exact BK208.out⟩, ⟨by repeat (first | (with_reducible first | exact HB.out | apply bl | apply pN | apply b1 | refine bs ?_ GE207.out | refine bs ?_ GE208.out) | exact HB.out | exact HBo.out)⟩⟩
    case round =>
     clear H'
     try clear c1
     try clear c2
     try clear p2
     try clear c6
     try clear c6b0
     try clear c6b1
     try clear c6b2
     try clear c7
     try clear c10
     try clear c13
     try clear hcz11_0
     try clear hcz11_1
     try clear hcz12_0
     try clear hcz12_1
     try clear hcz8_0
     try clear hcz8_1
     try clear hcz9_0
     try clear hcz9_1
     try clear hfz11_0
     try clear hfz11_1
     try clear hfz12_0
     try clear hfz12_1
     try clear hfz8_0
     try clear hfz8_1
     try clear hfz9_0
     try clear hfz9_1
     try clear p2
     obtain ⟨x5_2, rfl, HA, HK2, BK207, BK208, HB⟩ := hrel
     cases gk with
     | zero => exact absurd HA.out (by simp [shuttlecockref06_Same.l0])
     | succ k2 =>
      have H := HA.out
      clear HA
      simp only [shuttlecockref06_Same.l0] at H
      by_cases c14 : x5_2 < (l0_0.length : Int)
      ·
       rw [if_pos c14] at H
       have c14b0 : decide (x5_2 < (l0_0.length : Int)) = true := decide_eq_true c14
       clear c14
       by_cases c15 : 0 ≤ x5_2
       ·
        rw [if_pos c15] at H
        have c15b0 : decide (0 ≤ x5_2) = true := decide_eq_true c15
        clear c15
        by_cases c16 : x5_2 < (l1_0.length : Int)
        ·
         rw [if_pos c16] at H
         have c16b0 : decide (x5_2 < (l1_0.length : Int)) = true := decide_eq_true c16
         clear c16
         by_cases c17 : (rdOf ByteArray.empty l0_0 x5_2).toList = (rdOf ByteArray.empty l1_0 x5_2).toList
         ·
          rw [if_pos c17] at H
          have c17b0 : ((rdOf ByteArray.empty l0_0 x5_2).toList == (rdOf ByteArray.empty l1_0 x5_2).toList) = true := beq_iff_eq.mpr c17
          have c17b1 : ((rdOf ByteArray.empty l0_0 x5_2).toList != (rdOf ByteArray.empty l1_0 x5_2).toList) = false := bne_eq_false_iff_eq.mpr c17
          clear c17
          have H' := Am H
          clear H
          have hnb18 := NB207_208.out
          have hnc18 := NB208_207.out
          have hcz19_0 := Own.bc2 BK207.out 0
          have hcz19_1 := Own.bc2 BK207.out 1
          have hfz19_0 := bf BK207.out 0
          have hfz19_1 := bf BK207.out 1
          have p209 : 0 ≤ (x5_2 : Int) := of_decide_eq_true (by first | (with_reducible assumption) | assumption)
          have q209 : x5_2 < (l0_0.length : Int) := of_decide_eq_true (by first | (with_reducible assumption) | assumption)
          obtain ⟨ad209, e209, hx209_0⟩ := Kd.at_string HR0_0.out x5_2 p209 q209
          cases e209
          replace hx209_0 := (HB.out.cell (World.block_lt_of_cell? w _ hx209_0)).trans hx209_0
          replace p209 := eq_true p209
          replace q209 := eq_true q209
          have hcz20_0 := Own.bc2 BK208.out 0
          have hcz20_1 := Own.bc2 BK208.out 1
          have hfz20_0 := bf BK208.out 0
          have hfz20_1 := bf BK208.out 1
          have p210 : 0 ≤ (x5_2 : Int) := of_decide_eq_true (by first | (with_reducible assumption) | assumption)
          have q210 : x5_2 < (l1_0.length : Int) := of_decide_eq_true (by first | (with_reducible assumption) | assumption)
          obtain ⟨ad210, e210, hx210_0⟩ := Kd.at_string HR1_0.out x5_2 p210 q210
          cases e210
          replace hx210_0 := (HB.out.cell (World.block_lt_of_cell? w _ hx210_0)).trans hx210_0
          replace p210 := eq_true p210
          replace q210 := eq_true q210
          go_wp2
          repeat (go_quiet (fail); try go_wp2)
          go_roundg k2
          case measure => have := HJ2.out; have := HK2.out; omega
          case rel => exact ⟨(wrap64 (x5_2 + 1)), (by first | rfl | (simp; done) | (simp [*]; done)), H', ⟨by have := HJ2.out; have := HK2.out; omega⟩, ⟨by (with_reducible repeat (first|apply bn|apply bd|apply ba)); exact BK207.out⟩, ⟨by (with_reducible repeat (first|apply bn|apply bd|apply ba)); exact BK208.out⟩, ⟨by repeat (first | (with_reducible first | exact HB.out | apply bl | apply pN | apply b1 | refine bs ?_ GE207.out | refine bs ?_ GE208.out) | exact HB.out | exact HBo.out)⟩⟩
         ·
          rw [if_neg c17] at H
          have c17b0 : ((rdOf ByteArray.empty l0_0 x5_2).toList == (rdOf ByteArray.empty l1_0 x5_2).toList) = false := beq_eq_false_iff_ne.mpr c17
          have c17b1 : ((rdOf ByteArray.empty l0_0 x5_2).toList != (rdOf ByteArray.empty l1_0 x5_2).toList) = true := bne_iff_ne.mpr c17
          obtain rfl := Option.some.inj H
          have hnb21 := NB207_208.out
          have hnc21 := NB208_207.out
          have hcz22_0 := Own.bc2 BK207.out 0
          have hcz22_1 := Own.bc2 BK207.out 1
          have hfz22_0 := bf BK207.out 0
          have hfz22_1 := bf BK207.out 1
          have p209 : 0 ≤ (x5_2 : Int) := of_decide_eq_true (by first | (with_reducible assumption) | assumption)
          have q209 : x5_2 < (l0_0.length : Int) := of_decide_eq_true (by first | (with_reducible assumption) | assumption)
          obtain ⟨ad209, e209, hx209_0⟩ := Kd.at_string HR0_0.out x5_2 p209 q209
          cases e209
          replace hx209_0 := (HB.out.cell (World.block_lt_of_cell? w _ hx209_0)).trans hx209_0
          replace p209 := eq_true p209
          replace q209 := eq_true q209
          have hcz23_0 := Own.bc2 BK208.out 0
          have hcz23_1 := Own.bc2 BK208.out 1
          have hfz23_0 := bf BK208.out 0
          have hfz23_1 := bf BK208.out 1
          have p210 : 0 ≤ (x5_2 : Int) := of_decide_eq_true (by first | (with_reducible assumption) | assumption)
          have q210 : x5_2 < (l1_0.length : Int) := of_decide_eq_true (by first | (with_reducible assumption) | assumption)
          obtain ⟨ad210, e210, hx210_0⟩ := Kd.at_string HR1_0.out x5_2 p210 q210
          cases e210
          replace hx210_0 := (HB.out.cell (World.block_lt_of_cell? w _ hx210_0)).trans hx210_0
          replace p210 := eq_true p210
          replace q210 := eq_true q210
          go_wp2
          repeat (go_quiet (fail); try go_wp2)
          go_ret
          exact ⟨by first | rfl | (simp <;> rfl) | (simp [*] <;> rfl) | (simp [Aid.ne_nil, Aid.eq_nil]; done), by repeat (first | (with_reducible first | exact HB.out | apply bl | apply pN | apply b1 | refine bs ?_ GE207.out | refine bs ?_ GE208.out) | exact HB.out | exact HBo.out)⟩
        ·
         rw [if_neg c16] at H
         exact absurd H (by simp)
       ·
        rw [if_neg c15] at H
        exact absurd H (by simp)
      ·
       rw [if_neg c14] at H
       have c14b0 : decide (x5_2 < (l0_0.length : Int)) = false := decide_eq_false c14
       clear c14
       have H' := Am H
       clear H
       have hnb24 := NB207_208.out
       have hnc24 := NB208_207.out
       have hcz25_0 := Own.bc2 BK207.out 0
       have hcz25_1 := Own.bc2 BK207.out 1
       have hfz25_0 := bf BK207.out 0
       have hfz25_1 := bf BK207.out 1
       go_wp2
       repeat (go_quiet (fail); try go_wp2)
       go_loopg [6] k2 (fun kq v6 w' => ∃ (x6_3 : Int), v6 = .int .i64 x6_3 ∧ Aside0 (shuttlecockref06_Same.l1 kq x6_3 l0_0 l0_1 l1_0 l1_1 = some r) ∧ Aside0 (kq ≤ k2) ∧ Aside0 (w'.heap[gb207]? = some (.cells #[(.slice A0_0 l0_0.length c0_0), (.slice A0_1 l0_1.length c0_1)] 25 (0, 0))) ∧ Aside0 (w'.heap[gb208]? = some (.cells #[(.slice A1_0 l1_0.length c1_0), (.slice A1_1 l1_1.length c1_1)] 25 (0, 0))) ∧ Aside0 (Below w.heap.size w w'))
       case atStart => exact ⟨(0), (by first | rfl | (simp; done) | (simp [*]; done)), H', ⟨Nat.le_refl _⟩, ⟨by (with_reducible repeat (first|apply bn|apply bd|apply ba)); exact BK207.out⟩, ⟨by (with_reducible repeat (first|apply bn|apply bd|apply ba)); exact BK208.out⟩, ⟨by repeat (first | (with_reducible first | exact HB.out | apply bl | apply pN | apply b1 | refine bs ?_ GE207.out | refine bs ?_ GE208.out) | exact HB.out | exact HBo.out)⟩⟩
       case round =>
        clear H'
        try clear c1
        try clear c2
        try clear p2
        try clear q2
        try clear hx2
        try clear c6
        try clear c6b0
        try clear c6b1
        try clear c6b2
        try clear p6
        try clear c7
        try clear c10
        try clear c13
        try clear c14
        try clear c14b0
        try clear c15
        try clear c15b0
        try clear c16
        try clear c16b0
        try clear c17
        try clear c17b0
        try clear c17b1
        try clear c18
        try clear p20
        try clear q20
        try clear hx20
        try clear c21
        try clear p21
        try clear q21
        try clear hx21
        try clear c24
        try clear hcz11_0
        try clear hcz11_1
        try clear hcz12_0
        try clear hcz12_1
        try clear hcz19_0
        try clear hcz19_1
        try clear hcz20_0
        try clear hcz20_1
        try clear hcz22_0
        try clear hcz22_1
        try clear hcz23_0
        try clear hcz23_1
        try clear hcz25_0
        try clear hcz25_1
        try clear hcz8_0
        try clear hcz8_1
        try clear hcz9_0
        try clear hcz9_1
        try clear hfz11_0
        try clear hfz11_1
        try clear hfz12_0
        try clear hfz12_1
        try clear hfz19_0
        try clear hfz19_1
        try clear hfz20_0
        try clear hfz20_1
        try clear hfz22_0
        try clear hfz22_1
        try clear hfz23_0
        try clear hfz23_1
        try clear hfz25_0
        try clear hfz25_1
        try clear hfz8_0
        try clear hfz8_1
        try clear hfz9_0
        try clear hfz9_1
        try clear hx209_0
        try clear hx210_0
        try clear p2
        try clear p209
        try clear p210
        try clear q209
        try clear q210
        obtain ⟨x6_3, rfl, HA, HK3, BK207, BK208, HB⟩ := hrel
        cases gk with
        | zero => exact absurd HA.out (by simp [shuttlecockref06_Same.l1])
        | succ k3 =>
         have H := HA.out
         clear HA
         simp only [shuttlecockref06_Same.l1] at H
         by_cases c26 : x6_3 < (l0_1.length : Int)
         ·
          rw [if_pos c26] at H
          have c26b0 : decide (x6_3 < (l0_1.length : Int)) = true := decide_eq_true c26
          clear c26
          by_cases c27 : 0 ≤ x6_3
          ·
           rw [if_pos c27] at H
           have c27b0 : decide (0 ≤ x6_3) = true := decide_eq_true c27
           clear c27
           by_cases c28 : x6_3 < (l1_1.length : Int)
           ·
            rw [if_pos c28] at H
            have c28b0 : decide (x6_3 < (l1_1.length : Int)) = true := decide_eq_true c28
            clear c28
            replace H := ob H
            obtain ⟨t213, A290, H⟩ := H
            (try dsimp only at H)
            have A29 := Am A290
            clear A290
            by_cases c30 : t213 = true
            ·
             subst c30
             rw [if_pos rfl] at H
             have H' := Am H
             clear H
             have hnb31 := NB207_208.out
             have hnc31 := NB208_207.out
             have hcz32_0 := Own.bc2 BK207.out 0
             have hcz32_1 := Own.bc2 BK207.out 1
             have hfz32_0 := bf BK207.out 0
             have hfz32_1 := bf BK207.out 1
             have p211 : 0 ≤ (x6_3 : Int) := of_decide_eq_true (by first | (with_reducible assumption) | assumption)
             have q211 : x6_3 < (l0_1.length : Int) := of_decide_eq_true (by first | (with_reducible assumption) | assumption)
             obtain ⟨ad211, A211_0, c211_0, e211, hx211_0, hl211_0, hi211_0⟩ := at_L2 HR0_1.out x6_3 p211 q211
             cases e211
             replace hx211_0 := (HB.out.cell (World.block_lt_of_cell? w _ hx211_0)).trans hx211_0
             have HR211_0 := Am hi211_0
             have HC211_0 := Am hl211_0
             clear hi211_0 hl211_0
             replace p211 := eq_true p211
             replace q211 := eq_true q211
             have hcz33_0 := Own.bc2 BK208.out 0
             have hcz33_1 := Own.bc2 BK208.out 1
             have hfz33_0 := bf BK208.out 0
             have hfz33_1 := bf BK208.out 1
             have p212 : 0 ≤ (x6_3 : Int) := of_decide_eq_true (by first | (with_reducible assumption) | assumption)
             have q212 : x6_3 < (l1_1.length : Int) := of_decide_eq_true (by first | (with_reducible assumption) | assumption)
             obtain ⟨ad212, A212_0, c212_0, e212, hx212_0, hl212_0, hi212_0⟩ := at_L2 HR1_1.out x6_3 p212 q212
             cases e212
             replace hx212_0 := (HB.out.cell (World.block_lt_of_cell? w _ hx212_0)).trans hx212_0
             have HR212_0 := Am hi212_0
             have HC212_0 := Am hl212_0
             clear hi212_0 hl212_0
             replace p212 := eq_true p212
             replace q212 := eq_true q212
             go_wp2_with (first | (go_at_call 34; (with_reducible refine (shuttlecockref06_SameStack.calls k3 _ _ (rd_L2 l0_1 x6_3) _ _ (rd_L2 l1_1 x6_3) true _ ?side1 ?side2 ?side3 ?side4 A29.out).mono ?_); (case side1 => repeat (first | exact (Kd.C_below HR211_0.out HB.out) | (with_reducible refine Kd.C_alloc ?_ _) | (with_reducible refine Kd.C_drewN ?_ _) | (with_reducible refine Kd.C_drew ?_))); (case side2 => exact HC211_0.out); (case side3 => repeat (first | exact (Kd.C_below HR212_0.out HB.out) | (with_reducible refine Kd.C_alloc ?_ _) | (with_reducible refine Kd.C_drewN ?_ _) | (with_reducible refine Kd.C_drew ?_))); (case side4 => exact HC212_0.out); rintro e w' ⟨rfl, ⟨nd, rfl⟩⟩; (try first | exact ⟨rfl, _, World.drewN_drewN _ _ _⟩ | exact ⟨rfl, _, Eq.trans (World.drewN_drewN _ _ _) (congrArg (World.drewN _) (Nat.add_assoc _ _ _))⟩)))
             repeat (go_quiet (first | (go_at_call 34; (with_reducible refine (shuttlecockref06_SameStack.calls k3 _ _ (rd_L2 l0_1 x6_3) _ _ (rd_L2 l1_1 x6_3) true _ ?side1 ?side2 ?side3 ?side4 A29.out).mono ?_); (case side1 => repeat (first | exact (Kd.C_below HR211_0.out HB.out) | (with_reducible refine Kd.C_alloc ?_ _) | (with_reducible refine Kd.C_drewN ?_ _) | (with_reducible refine Kd.C_drew ?_))); (case side2 => exact HC211_0.out); (case side3 => repeat (first | exact (Kd.C_below HR212_0.out HB.out) | (with_reducible refine Kd.C_alloc ?_ _) | (with_reducible refine Kd.C_drewN ?_ _) | (with_reducible refine Kd.C_drew ?_))); (case side4 => exact HC212_0.out); rintro e w' ⟨rfl, ⟨nd, rfl⟩⟩; (try first | exact ⟨rfl, _, World.drewN_drewN _ _ _⟩ | exact ⟨rfl, _, Eq.trans (World.drewN_drewN _ _ _) (congrArg (World.drewN _) (Nat.add_assoc _ _ _))⟩))); try go_wp2_with (first | (go_at_call 34; (with_reducible refine (shuttlecockref06_SameStack.calls k3 _ _ (rd_L2 l0_1 x6_3) _ _ (rd_L2 l1_1 x6_3) true _ ?side1 ?side2 ?side3 ?side4 A29.out).mono ?_); (case side1 => repeat (first | exact (Kd.C_below HR211_0.out HB.out) | (with_reducible refine Kd.C_alloc ?_ _) | (with_reducible refine Kd.C_drewN ?_ _) | (with_reducible refine Kd.C_drew ?_))); (case side2 => exact HC211_0.out); (case side3 => repeat (first | exact (Kd.C_below HR212_0.out HB.out) | (with_reducible refine Kd.C_alloc ?_ _) | (with_reducible refine Kd.C_drewN ?_ _) | (with_reducible refine Kd.C_drew ?_))); (case side4 => exact HC212_0.out); rintro e w' ⟨rfl, ⟨nd, rfl⟩⟩; (try first | exact ⟨rfl, _, World.drewN_drewN _ _ _⟩ | exact ⟨rfl, _, Eq.trans (World.drewN_drewN _ _ _) (congrArg (World.drewN _) (Nat.add_assoc _ _ _))⟩))))
             go_roundg k3
             case measure => have := HJ2.out; have := HK2.out; have := HK3.out; omega
             case rel => exact ⟨(wrap64 (x6_3 + 1)), (by first | rfl | (simp; done) | (simp [*]; done)), H', ⟨by have := HJ2.out; have := HK2.out; have := HK3.out; omega⟩, ⟨by (with_reducible repeat (first|apply bn|apply bd|apply ba)); exact BK207.out⟩, ⟨by (with_reducible repeat (first|apply bn|apply bd|apply ba)); exact BK208.out⟩, ⟨by repeat (first | (with_reducible first | exact HB.out | apply bl | apply pN | apply b1 | refine bs ?_ GE207.out | refine bs ?_ GE208.out) | exact HB.out | exact HBo.out)⟩⟩
            ·
             replace c30 := Bool.eq_false_iff.mpr c30
             subst c30
             rw [if_neg (show ¬ (false = true) by decide)] at H
             obtain rfl := Option.some.inj H
             have hnb34 := NB207_208.out
             have hnc34 := NB208_207.out
             have hcz35_0 := Own.bc2 BK207.out 0
             have hcz35_1 := Own.bc2 BK207.out 1
             have hfz35_0 := bf BK207.out 0
             have hfz35_1 := bf BK207.out 1
             have p211 : 0 ≤ (x6_3 : Int) := of_decide_eq_true (by first | (with_reducible assumption) | assumption)
             have q211 : x6_3 < (l0_1.length : Int) := of_decide_eq_true (by first | (with_reducible assumption) | assumption)
             obtain ⟨ad211, A211_0, c211_0, e211, hx211_0, hl211_0, hi211_0⟩ := at_L2 HR0_1.out x6_3 p211 q211
             cases e211
             replace hx211_0 := (HB.out.cell (World.block_lt_of_cell? w _ hx211_0)).trans hx211_0
             have HR211_0 := Am hi211_0
             have HC211_0 := Am hl211_0
             clear hi211_0 hl211_0
             replace p211 := eq_true p211
             replace q211 := eq_true q211
             have hcz36_0 := Own.bc2 BK208.out 0
             have hcz36_1 := Own.bc2 BK208.out 1
             have hfz36_0 := bf BK208.out 0
             have hfz36_1 := bf BK208.out 1
             have p212 : 0 ≤ (x6_3 : Int) := of_decide_eq_true (by first | (with_reducible assumption) | assumption)
             have q212 : x6_3 < (l1_1.length : Int) := of_decide_eq_true (by first | (with_reducible assumption) | assumption)
             obtain ⟨ad212, A212_0, c212_0, e212, hx212_0, hl212_0, hi212_0⟩ := at_L2 HR1_1.out x6_3 p212 q212
             cases e212
             replace hx212_0 := (HB.out.cell (World.block_lt_of_cell? w _ hx212_0)).trans hx212_0
             have HR212_0 := Am hi212_0
             have HC212_0 := Am hl212_0
             clear hi212_0 hl212_0
             replace p212 := eq_true p212
             replace q212 := eq_true q212
             go_wp2_with (first | (go_at_call 34; (with_reducible refine (shuttlecockref06_SameStack.calls k3 _ _ (rd_L2 l0_1 x6_3) _ _ (rd_L2 l1_1 x6_3) false _ ?side1 ?side2 ?side3 ?side4 A29.out).mono ?_); (case side1 => repeat (first | exact (Kd.C_below HR211_0.out HB.out) | (with_reducible refine Kd.C_alloc ?_ _) | (with_reducible refine Kd.C_drewN ?_ _) | (with_reducible refine Kd.C_drew ?_))); (case side2 => exact HC211_0.out); (case side3 => repeat (first | exact (Kd.C_below HR212_0.out HB.out) | (with_reducible refine Kd.C_alloc ?_ _) | (with_reducible refine Kd.C_drewN ?_ _) | (with_reducible refine Kd.C_drew ?_))); (case side4 => exact HC212_0.out); rintro e w' ⟨rfl, ⟨nd, rfl⟩⟩; (try first | exact ⟨rfl, _, World.drewN_drewN _ _ _⟩ | exact ⟨rfl, _, Eq.trans (World.drewN_drewN _ _ _) (congrArg (World.drewN _) (Nat.add_assoc _ _ _))⟩)))
             repeat (go_quiet (first | (go_at_call 34; (with_reducible refine (shuttlecockref06_SameStack.calls k3 _ _ (rd_L2 l0_1 x6_3) _ _ (rd_L2 l1_1 x6_3) false _ ?side1 ?side2 ?side3 ?side4 A29.out).mono ?_); (case side1 => repeat (first | exact (Kd.C_below HR211_0.out HB.out) | (with_reducible refine Kd.C_alloc ?_ _) | (with_reducible refine Kd.C_drewN ?_ _) | (with_reducible refine Kd.C_drew ?_))); (case side2 => exact HC211_0.out); (case side3 => repeat (first | exact (Kd.C_below HR212_0.out HB.out) | (with_reducible refine Kd.C_alloc ?_ _) | (with_reducible refine Kd.C_drewN ?_ _) | (with_reducible refine Kd.C_drew ?_))); (case side4 => exact HC212_0.out); rintro e w' ⟨rfl, ⟨nd, rfl⟩⟩; (try first | exact ⟨rfl, _, World.drewN_drewN _ _ _⟩ | exact ⟨rfl, _, Eq.trans (World.drewN_drewN _ _ _) (congrArg (World.drewN _) (Nat.add_assoc _ _ _))⟩))); try go_wp2_with (first | (go_at_call 34; (with_reducible refine (shuttlecockref06_SameStack.calls k3 _ _ (rd_L2 l0_1 x6_3) _ _ (rd_L2 l1_1 x6_3) false _ ?side1 ?side2 ?side3 ?side4 A29.out).mono ?_); (case side1 => repeat (first | exact (Kd.C_below HR211_0.out HB.out) | (with_reducible refine Kd.C_alloc ?_ _) | (with_reducible refine Kd.C_drewN ?_ _) | (with_reducible refine Kd.C_drew ?_))); (case side2 => exact HC211_0.out); (case side3 => repeat (first | exact (Kd.C_below HR212_0.out HB.out) | (with_reducible refine Kd.C_alloc ?_ _) | (with_reducible refine Kd.C_drewN ?_ _) | (with_reducible refine Kd.C_drew ?_))); (case side4 => exact HC212_0.out); rintro e w' ⟨rfl, ⟨nd, rfl⟩⟩; (try first | exact ⟨rfl, _, World.drewN_drewN _ _ _⟩ | exact ⟨rfl, _, Eq.trans (World.drewN_drewN _ _ _) (congrArg (World.drewN _) (Nat.add_assoc _ _ _))⟩))))
             go_ret
             exact ⟨by first | rfl | (simp <;> rfl) | (simp [*] <;> rfl) | (simp [Aid.ne_nil, Aid.eq_nil]; done), by repeat (first | (with_reducible first | exact HB.out | apply bl | apply pN | apply b1 | refine bs ?_ GE207.out | refine bs ?_ GE208.out) | exact HB.out | exact HBo.out)⟩
           ·
            rw [if_neg c28] at H
            exact absurd H (by simp)
          ·
           rw [if_neg c27] at H
           exact absurd H (by simp)
         ·
          rw [if_neg c26] at H
          have c26b0 : decide (x6_3 < (l0_1.length : Int)) = false := decide_eq_false c26
          clear c26
          obtain rfl := Option.some.inj H
          have hnb37 := NB207_208.out
          have hnc37 := NB208_207.out
          have hcz38_0 := Own.bc2 BK207.out 0
          have hcz38_1 := Own.bc2 BK207.out 1
          have hfz38_0 := bf BK207.out 0
          have hfz38_1 := bf BK207.out 1
          go_wp2
          repeat (go_quiet (fail); try go_wp2)
          go_ret
          exact ⟨by first | rfl | (simp <;> rfl) | (simp [*] <;> rfl) | (simp [Aid.ne_nil, Aid.eq_nil]; done), by repeat (first | (with_reducible first | exact HB.out | apply bl | apply pN | apply b1 | refine bs ?_ GE207.out | refine bs ?_ GE208.out) | exact HB.out | exact HBo.out)⟩

end Go.Proofs.Ytijjfomnidckdaa.Q
