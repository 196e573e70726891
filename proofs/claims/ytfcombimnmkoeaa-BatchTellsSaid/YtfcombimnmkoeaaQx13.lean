-- printed by a program of this session (NOTES: hprint); not the kit's print
-- minified3
-- minified2
-- minified
-- halved
import Derived.Test.YtfcombimnmkoeaaOg
import Derived.Test.YtfcombimnmkoeaaAl
import Derived.Test.YtfcombimnmkoeaaQx0
import Derived.Test.YtfcombimnmkoeaaQx6
import Derived.Test.YtfcombimnmkoeaaQx10
namespace Go.Proofs.Ytfcombimnmkoeaa.Q
open Go.RowKit Go.Proofs.YtfcombimnmkoeaaW.PrintWords Go.Proofs.YtfcombimnmkoeaaW.PrintLast Go.Proofs.YtfcombimnmkoeaaW.PrintMore
attribute [local go_sem] max2_int min2_int max_two min_two max_three min_three max_four min_four   -- for this text's walks alone
set_option linter.unusedVariables false
set_option linter.unusedSimpArgs false

/-! ### shuttlecockref04_Decode: function 31 -/
mutual
def shuttlecockref04_Decode.j0 : Nat → ByteArray → Int → Bool → Int → Int → ByteArray → Option (Int × Int × List Int × ByteArray × Int × Int)
 | 0, _, _, _, _, _, _ => none
 | k + 1, x0, x1, x28, x460000, x460001, x460003 => if x28 = true then (some (x460000, x460001, ([] : List Int), x460003, 0, 1)) else (if x1 = (x0.size : Int) then (some (x460000, x460001, ([] : List Int), x460003, 0, 10)) else (if 0 ≤ x1 then (if x1 < (x0.size : Int) then ((shuttlecockref03_Known.f (wrap64 (bt x0 x1))).bind fun t461 => (if t461 = true then (shuttlecockref04_Decode.j1 k x0 x1 false x460000 x460001 x460003 (wrap64 (bt x0 x1)) 0 (⟨#[]⟩ : ByteArray)) else ((shuttlecockref03_Exp.f (wrap64 (bt x0 x1))).bind fun t462 => (shuttlecockref04_Decode.j1 k x0 x1 (!t462) x460000 x460001 x460003 (wrap64 (bt x0 x1)) 0 (⟨#[]⟩ : ByteArray))))) else (none)) else (none)))
def shuttlecockref04_Decode.j1 : Nat → ByteArray → Int → Bool → Int → Int → ByteArray → Int → Int → ByteArray → Option (Int × Int × List Int × ByteArray × Int × Int)
 | 0, _, _, _, _, _, _, _, _, _ => none
 | k + 1, x0, x1, x49, x460000, x460001, x460003, x461000, x461001, x461003 => if x49 = true then (some (x460000, x460001, ([] : List Int), x460003, 0, 30)) else ((shuttlecockref01_Take.f k x0 (wrap64 (x1 + 1))).bind fun bt463 => (if bt463.2.2 = 0 then ((shuttlecockref03_Exp.f x461000).bind fun t466 => (if t466 = true then ((shuttlecockref01_Take.f k x0 bt463.2.1).bind fun bt467 => (if bt467.2.2 = 0 then (if bt467.1 > (wrap64 ((x0.size : Int) - bt467.2.1)) then (some (x460000, x460001, ([] : List Int), x460003, 0, 10)) else (if 0 ≤ bt467.2.1 then (if bt467.2.1 ≤ (wrap64 (bt467.2.1 + bt467.1)) then (if (wrap64 (bt467.2.1 + bt467.1)) ≤ (x0.size : Int) then (some (x461000, bt463.1, ([] : List Int), x0.extract (bt467.2.1 : Int).toNat ((wrap64 (bt467.2.1 + bt467.1)) : Int).toNat, wrap64 (bt467.2.1 + bt467.1), 0)) else (none)) else (none)) else (none))) else (some (x460000, x460001, ([] : List Int), x460003, 0, bt467.2.2)))) else ((shuttlecockref03_Args.f k x461000).bind fun t470 => (shuttlecockref04_Decode.l0 k x0 bt463.2.1 (t470.length : Int) 0 x460000 x460001 x460003 x461000 bt463.1 ([] : List Int) x461003)))) else (some (x460000, x460001, ([] : List Int), x460003, 0, bt463.2.2))))
def shuttlecockref04_Decode.l0 : Nat → ByteArray → Int → Int → Int → Int → Int → ByteArray → Int → Int → List Int → ByteArray → Option (Int × Int × List Int × ByteArray × Int × Int)
 | 0, _, _, _, _, _, _, _, _, _, _, _ => none
 | k + 1, x0, x10, x15, x16, x460000, x460001, x460003, x461000, x461001, x461002, x461003 => if x16 < x15 then ((shuttlecockref01_Take.f k x0 x10).bind fun bt473 => (if bt473.2.2 = 0 then (if x461002.length < 17592186044416 then (shuttlecockref04_Decode.l0 k x0 bt473.2.1 x15 (wrap64 (x16 + 1)) x460000 x460001 x460003 x461000 x461001 (x461002 ++ [bt473.1]) x461003) else (none)) else (some (x460000, x460001, ([] : List Int), x460003, 0, bt473.2.2)))) else (some (x461000, x461001, x461002, x461003, x10, 0))
end
def shuttlecockref04_Decode.f (k : Nat) (a0 : ByteArray) (a1 : Int) : Option (Int × Int × List Int × ByteArray × Int × Int) := if a1 < 0 then (shuttlecockref04_Decode.j0 k a0 a1 true 0 0 (⟨#[]⟩ : ByteArray)) else (shuttlecockref04_Decode.j0 k a0 a1 (decide (a1 > (a0.size : Int))) 0 0 (⟨#[]⟩ : ByteArray))
theorem shuttlecockref04_Decode.mono_l : ∀ k, (∀ y0 y1 y2 y3 y4 y5, LeO (shuttlecockref04_Decode.j0 k y0 y1 y2 y3 y4 y5) (shuttlecockref04_Decode.j0 (k + 1) y0 y1 y2 y3 y4 y5)) ∧ (∀ y0 y1 y2 y3 y4 y5 y6 y7 y8, LeO (shuttlecockref04_Decode.j1 k y0 y1 y2 y3 y4 y5 y6 y7 y8) (shuttlecockref04_Decode.j1 (k + 1) y0 y1 y2 y3 y4 y5 y6 y7 y8)) ∧ (∀ y0 y1 y2 y3 y4 y5 y6 y7 y8 y9 y10, LeO (shuttlecockref04_Decode.l0 k y0 y1 y2 y3 y4 y5 y6 y7 y8 y9 y10) (shuttlecockref04_Decode.l0 (k + 1) y0 y1 y2 y3 y4 y5 y6 y7 y8 y9 y10))
 | 0 => ⟨fun _ _ _ _ _ _ r h => by simp [shuttlecockref04_Decode.j0] at h, fun _ _ _ _ _ _ _ _ _ r h => by simp [shuttlecockref04_Decode.j1] at h, fun _ _ _ _ _ _ _ _ _ _ _ r h => by simp [shuttlecockref04_Decode.l0] at h⟩
 | k + 1 => by
  obtain ⟨ih0, ih1, ih2⟩ := shuttlecockref04_Decode.mono_l k
  refine ⟨?_, ?_, ?_⟩
  ·
   intro y0 y1 y2 y3 y4 y5
   unfold shuttlecockref04_Decode.j0
   repeat' first
   | (with_reducible exact ih0 _ _ _ _ _ _)
   | (with_reducible exact ih1 _ _ _ _ _ _ _ _ _)
   | (with_reducible exact ih2 _ _ _ _ _ _ _ _ _ _ _)
   | (with_reducible exact shuttlecockref01_Take.mono _ _ _)
   | (with_reducible exact shuttlecockref03_Args.mono _ _)
   | (with_reducible exact LeO.refl _)
   | (with_reducible exact LeO.none _)
   | (with_reducible refine LeO.ite ?_ ?_)
   | (with_reducible refine LeO.bind ?_ (fun _ => ?_))
   | exact LeO.none _
   | refine LeO.ite ?_ ?_
   | refine LeO.bind ?_ (fun _ => ?_)
  ·
   intro y0 y1 y2 y3 y4 y5 y6 y7 y8
   unfold shuttlecockref04_Decode.j1
   repeat' first
   | (with_reducible exact ih0 _ _ _ _ _ _)
   | (with_reducible exact ih1 _ _ _ _ _ _ _ _ _)
   | (with_reducible exact ih2 _ _ _ _ _ _ _ _ _ _ _)
   | (with_reducible exact shuttlecockref01_Take.mono _ _ _)
   | (with_reducible exact shuttlecockref03_Args.mono _ _)
   | (with_reducible exact LeO.refl _)
   | (with_reducible exact LeO.none _)
   | (with_reducible refine LeO.ite ?_ ?_)
   | (with_reducible refine LeO.bind ?_ (fun _ => ?_))
   | exact LeO.none _
   | refine LeO.ite ?_ ?_
   | refine LeO.bind ?_ (fun _ => ?_)
  ·
   intro y0 y1 y2 y3 y4 y5 y6 y7 y8 y9 y10
   unfold shuttlecockref04_Decode.l0
   repeat' first
   | (with_reducible exact ih0 _ _ _ _ _ _)
   | (with_reducible exact ih1 _ _ _ _ _ _ _ _ _)
   | (with_reducible exact ih2 _ _ _ _ _ _ _ _ _ _ _)
   | (with_reducible exact shuttlecockref01_Take.mono _ _ _)
   | (with_reducible exact shuttlecockref03_Args.mono _ _)
   | (with_reducible exact LeO.refl _)
   | (with_reducible exact LeO.none _)
   | (with_reducible refine LeO.ite ?_ ?_)
   | (with_reducible refine LeO.bind ?_ (fun _ => ?_))
   | exact LeO.none _
   | refine LeO.ite ?_ ?_
   | refine LeO.bind ?_ (fun _ => ?_)
theorem shuttlecockref04_Decode.mono : ∀ a0 a1 k, LeO (shuttlecockref04_Decode.f k a0 a1) (shuttlecockref04_Decode.f (k + 1) a0 a1) := by
 intro a0 a1 k
 obtain ⟨ih0, ih1, ih2⟩ := shuttlecockref04_Decode.mono_l k
 unfold shuttlecockref04_Decode.f
 repeat' first
   | (with_reducible exact ih0 _ _ _ _ _ _)
   | (with_reducible exact ih1 _ _ _ _ _ _ _ _ _)
   | (with_reducible exact ih2 _ _ _ _ _ _ _ _ _ _ _)
   | (with_reducible exact shuttlecockref01_Take.mono _ _ _)
   | (with_reducible exact shuttlecockref03_Args.mono _ _)
   | (with_reducible exact LeO.refl _)
   | (with_reducible exact LeO.none _)
   | (with_reducible refine LeO.ite ?_ ?_)
   | (with_reducible refine LeO.bind ?_ (fun _ => ?_))
   | exact LeO.none _
   | refine LeO.ite ?_ ?_
   | refine LeO.bind ?_ (fun _ => ?_)
set_option maxHeartbeats 8000000 in
set_option maxRecDepth 100000 in
theorem shuttlecockref04_Decode.calls (k : Nat) (a0 : ByteArray) (a1 : Int) (r1 : Int) (r2 : Int) (r3 : List Int) (r4 : ByteArray) (r5 : Int) (r6 : Int) (w : World) (h : shuttlecockref04_Decode.f k a0 a1 = some (r1, r2, r3, r4, r5, r6)) :
  Calls Try.prog 31 #[.string a0, .int .i64 a1] w fun e w' => ∃ v2_ : Value, e = .returned (.tuple #[.agg #[.int .i64 r1, .int .i64 r2, v2_, .string r4], .int .i64 r5, .int .i64 r6]) ∧ Kd.R (Kd.int .i64) 3 w' w.heap.size (fun _ => True) v2_ r3 ∧ Below w.heap.size w w' := by
 have hu41 := Try.underlying41
 have HB := Am (Below.refl w.heap.size w)
 have H : (if a1 < 0 then (shuttlecockref04_Decode.j0 k a0 a1 true 0 0 (⟨#[]⟩ : ByteArray)) else (shuttlecockref04_Decode.j0 k a0 a1 (decide (a1 > (a0.size : Int))) 0 0 (⟨#[]⟩ : ByteArray))) = some (r1, r2, r3, r4, r5, r6) := h
 clear h
 have HC3 := Am H
 clear H
 go_enter Try.func31, Try.ntmps31
 go_upto_region 2 with (first | ((with_reducible refine gate_dst (N := 4) rfl ?_); (try (refine gate_guard (by rfl) ?_; dsimp only)); refine box_event ?hg (N := 4) ?hd (cs := #[.int .i64 0, .int .i64 0, .slice none 0 0, .string (⟨#[]⟩ : ByteArray)]) (t := 41) ?hr ?_; (case hd => rfl); (case hg => rfl); (case hr => first | (go_simp; done) | (go_simp; rfl)); intro gb458 hg w4 hbox hb; have BK458 := Am (hbox); have GW458 := Am ((by rw [hg]; exact (below_size (by repeat (first | (with_reducible first | exact HB.out | apply bl | apply pN | apply b1) | exact HB.out | exact HBo.out))) : w.heap.size ≤ gb458)); have GE458 := GW458; replace HB := Am (below_step (by repeat (first | (with_reducible first | exact HB.out | apply bl | apply pN | apply b1) | exact HB.out | exact HBo.out)) hb); clear hb hbox hg) | ((with_reducible refine gate_dst (N := 7) rfl ?_); (try (refine gate_guard (by rfl) ?_; dsimp only)); refine box_event ?hg (N := 7) ?hd (cs := #[.int .i64 0, .int .i64 0, .slice none 0 0, .string (⟨#[]⟩ : ByteArray)]) (t := 41) ?hr ?_; (case hd => rfl); (case hg => rfl); (case hr => first | (go_simp; done) | (go_simp; rfl)); intro gb459 hg w5 hbox hb; have BK459 := Am (hbox); have GW459 := Am ((by rw [hg]; exact (below_size (by repeat (first | (with_reducible first | exact HB.out | apply bl | apply pN | apply b1 | refine bs ?_ GE458.out) | exact HB.out | exact HBo.out))) : w.heap.size ≤ gb459)); have GE459 := GW459; have NB458_459 := Am ((by rw [hg]; exact Nat.ne_of_lt (blk_lt (g := gb458) (o := .cells #[.int .i64 0, .int .i64 0, .slice none 0 0, .string (⟨#[]⟩ : ByteArray)] 41 (0, 0)) (by (with_reducible repeat (first|apply bn|apply bd|apply ba)); exact BK458.out)) : gb458 ≠ gb459)); have NB459_458 := Am NB458_459.out.symm; replace BK458 := Am (blk_below (g := gb458) (o := .cells #[.int .i64 0, .int .i64 0, .slice none 0 0, .string (⟨#[]⟩ : ByteArray)] 41 (0, 0)) (by (with_reducible repeat (first|apply bn|apply bd|apply ba)); exact BK458.out) hb); replace HB := Am (below_step (by repeat (first | (with_reducible first | exact HB.out | apply bl | apply pN | apply b1 | refine bs ?_ GE458.out) | exact HB.out | exact HBo.out)) hb); clear hb hbox hg; have hnb6 := NB459_458.out; have hnc6 := NB458_459.out; have hcz7_0 := Own.bc2 BK459.out 0; have hcz7_1 := Own.bc2 BK459.out 1; have hcz7_2 := Own.bc2 BK459.out 2; have hcz7_3 := Own.bc2 BK459.out 3; have hfz7_0 := bf BK459.out 0; have hfz7_1 := bf BK459.out 1; have hfz7_2 := bf BK459.out 2; have hfz7_3 := bf BK459.out 3))
 (try simp only [Act.put, sI, sZ, sS])
 go_cut [28] (fun v28 wc => ∃ (kq : Nat) (x28_2 : Bool), v28 = .bool x28_2 ∧ Aside0 (shuttlecockref04_Decode.j0 kq a0 a1 x28_2 0 0 (⟨#[]⟩ : ByteArray) = some (r1, r2, r3, r4, r5, r6)) ∧ Aside0 (kq ≤ k) ∧ Aside0 (wc.heap[gb458]? = some (.cells #[.int .i64 0, .int .i64 0, (.slice none 0 0), .string (⟨#[]⟩ : ByteArray)] 41 (0, 0))) ∧ Aside0 (wc.heap[gb459]? = some (.cells #[.int .i64 0, .int .i64 0, (.slice none 0 0), .string (⟨#[]⟩ : ByteArray)] 41 (0, 0))) ∧ Aside0 (Below w.heap.size w wc))
 case first =>
  have H := HC3.out
  clear HC3
  by_cases c8 : a1 < 0
  ·
   rw [if_pos c8] at H
   have c8b0 : decide (a1 < 0) = true := decide_eq_true c8
   clear c8
   (first | rw [c8b0] | (simp only [i64_w, i32_w]; rw [c8b0]) | skip)
   have H' := Am H
   clear H
   go_wp2
   go_meet
   case rel => exact ⟨_, (true), (by first | rfl | (simp; done) | (simp [*]; done)), H', ⟨by first | omega | exact Nat.le_refl _⟩, ⟨by (with_reducible repeat (first|apply bn|apply bd|apply ba)); refine blk_far ?_ NB458_459.out _; (with_reducible repeat (first|apply bn|apply bd|apply ba)); refine blk_far ?_ NB458_459.out _; (with_reducible repeat (first|apply bn|apply bd|apply ba)); refine blk_far ?_ NB458_459.out _; (with_reducible repeat (first|apply bn|apply bd|apply ba)); refine blk_far ?_ NB458_459.out _; (with_reducible repeat (first|apply bn|apply bd|apply ba)); exact BK458.out⟩, ⟨by (with_reducible repeat (first|apply bn|apply bd|apply ba)); refine blk_put (cs := #[.int .i64 0, .int .i64 0, .slice none 0 0, .string (⟨#[]⟩ : ByteArray)]) ?_ 3 _ rfl; (with_reducible repeat (first|apply bn|apply bd|apply ba)); refine blk_put (cs := #[.int .i64 0, .int .i64 0, .slice none 0 0, .string (⟨#[]⟩ : ByteArray)]) ?_ 2 _ rfl; (with_reducible repeat (first|apply bn|apply bd|apply ba)); refine blk_put (cs := #[.int .i64 0, .int .i64 0, .slice none 0 0, .string (⟨#[]⟩ : ByteArray)]) ?_ 1 _ rfl; (with_reducible repeat (first|apply bn|apply bd|apply ba)); refine blk_put (cs := #[.int .i64 0, .int .i64 0, .slice none 0 0, .string (⟨#[]⟩ : ByteArray)]) ?_ 0 _ rfl; (with_reducible repeat (first|apply bn|apply bd|apply ba)); exact BK459.out⟩, ⟨by repeat (first | (with_reducible first | exact HB.out | apply bl | apply pN | apply b1 | refine bs ?_ GE458.out | refine bs ?_ GE459.out) | exact HB.out | exact HBo.out)⟩⟩
  ·
   rw [if_neg c8] at H
   have c8b0 : decide (a1 < 0) = false := decide_eq_false c8
   clear c8
   (first | rw [c8b0] | (simp only [i64_w, i32_w]; rw [c8b0]) | skip)
   have H' := Am H
   clear H
   go_wp2
   go_meet
   case rel => exact ⟨_, (decide (a1 > (a0.size : Int))), (by first | rfl | (simp; done) | (simp [*]; done)), H', ⟨by first | omega | exact Nat.le_refl _⟩, ⟨by (with_reducible repeat (first|apply bn|apply bd|apply ba)); refine blk_far ?_ NB458_459.out _; (with_reducible repeat (first|apply bn|apply bd|apply ba)); refine blk_far ?_ NB458_459.out _; (with_reducible repeat (first|apply bn|apply bd|apply ba)); refine blk_far ?_ NB458_459.out _; (with_reducible repeat (first|apply bn|apply bd|apply ba)); refine blk_far ?_ NB458_459.out _; (with_reducible repeat (first|apply bn|apply bd|apply ba)); exact BK458.out⟩, ⟨by (with_reducible repeat (first|apply bn|apply bd|apply ba)); refine blk_put (cs := #[.int .i64 0, .int .i64 0, .slice none 0 0, .string (⟨#[]⟩ : ByteArray)]) ?_ 3 _ rfl; (with_reducible repeat (first|apply bn|apply bd|apply ba)); refine blk_put (cs := #[.int .i64 0, .int .i64 0, .slice none 0 0, .string (⟨#[]⟩ : ByteArray)]) ?_ 2 _ rfl; (with_reducible repeat (first|apply bn|apply bd|apply ba)); refine blk_put (cs := #[.int .i64 0, .int .i64 0, .slice none 0 0, .string (⟨#[]⟩ : ByteArray)]) ?_ 1 _ rfl; (with_reducible repeat (first|apply bn|apply bd|apply ba)); refine blk_put (cs := #[.int .i64 0, .int .i64 0, .slice none 0 0, .string (⟨#[]⟩ : ByteArray)]) ?_ 0 _ rfl; (with_reducible repeat (first|apply bn|apply bd|apply ba)); exact BK459.out⟩, ⟨by repeat (first | (with_reducible first | exact HB.out | apply bl | apply pN | apply b1 | refine bs ?_ GE458.out | refine bs ?_ GE459.out) | exact HB.out | exact HBo.out)⟩⟩
 case rest =>
  clear HC3
  try clear p2
  try clear c3
  try clear c6
  try clear c8
  try clear c8b0
  try clear hcz7_0
  try clear hcz7_1
  try clear hcz7_2
  try clear hcz7_3
  try clear hfz7_0
  try clear hfz7_1
  try clear hfz7_2
  try clear hfz7_3
  obtain ⟨kq, x28_2, rfl, HA, HJ2, BK458, BK459, HB⟩ := hcut
  cases kq with
  | zero => exact absurd HA.out (by simp [shuttlecockref04_Decode.j0])
  | succ kj2 =>
   have H := HA.out
   clear HA
   simp only [shuttlecockref04_Decode.j0] at H
   by_cases c9 : x28_2 = true
   ·
    subst c9
    rw [if_pos rfl] at H
    simp only [Option.some.injEq, Prod.mk.injEq] at H
    obtain ⟨rfl, rfl, rfl, rfl, rfl, rfl⟩ := H
    have hnb10 := NB459_458.out
    have hnc10 := NB458_459.out
    have hcz11_0 := Own.bc2 BK459.out 0
    have hcz11_1 := Own.bc2 BK459.out 1
    have hcz11_2 := Own.bc2 BK459.out 2
    have hcz11_3 := Own.bc2 BK459.out 3
    have hfz11_0 := bf BK459.out 0
    have hfz11_1 := bf BK459.out 1
    have hfz11_2 := bf BK459.out 2
    have hfz11_3 := bf BK459.out 3
    have hcz12_0 := Own.bc2 BK458.out 0
    have hcz12_1 := Own.bc2 BK458.out 1
    have hcz12_2 := Own.bc2 BK458.out 2
    have hcz12_3 := Own.bc2 BK458.out 3
    have hfz12_0 := bf BK458.out 0
    have hfz12_1 := bf BK458.out 1
    have hfz12_2 := bf BK458.out 2
    have hfz12_3 := bf BK458.out 3
    go_wp2
    refine bodyPost_ret (results_ctt rfl _ _ gb458 41 #[.int .i64 0, .int .i64 0, .slice none 0 0, .string (⟨#[]⟩ : ByteArray)] (0, 0) _ rfl (by (with_reducible repeat (first|apply bn|apply bd|apply ba)); refine blk_put (cs := #[.int .i64 0, .int .i64 0, .slice none 0 0, .string (⟨#[]⟩ : ByteArray)]) ?_ 3 _ rfl; (with_reducible repeat (first|apply bn|apply bd|apply ba)); refine blk_put (cs := #[.int .i64 0, .int .i64 0, .slice none 0 0, .string (⟨#[]⟩ : ByteArray)]) ?_ 2 _ rfl; (with_reducible repeat (first|apply bn|apply bd|apply ba)); refine blk_put (cs := #[.int .i64 0, .int .i64 0, .slice none 0 0, .string (⟨#[]⟩ : ByteArray)]) ?_ 1 _ rfl; (with_reducible repeat (first|apply bn|apply bd|apply ba)); refine blk_put (cs := #[.int .i64 0, .int .i64 0, .slice none 0 0, .string (⟨#[]⟩ : ByteArray)]) ?_ 0 _ rfl; (with_reducible repeat (first|apply bn|apply bd|apply ba)); exact BK458.out) Try.underlying41 rfl (by kernel_rfl)) rfl ?_
    exact ⟨_, by first | rfl | (simp <;> rfl) | (simp [*] <;> rfl) | (simp [Aid.ne_nil, Aid.eq_nil]; done), by first | exact Kd.R_nil _ _ _ _ _ | exact Kd.N_nil _ _ _ _ _ | exact Kd.V_nil _ _ _ _ _ | exact Kd.Q_nil _ _ _ _ _ | exact Kd.S_nil _ _ _ _ _, by repeat (first | (with_reducible first | exact HB.out | apply bl | apply pN | apply b1 | refine bs ?_ GE458.out | refine bs ?_ GE459.out) | exact HB.out | exact HBo.out)⟩
   ·
    replace c9 := Bool.eq_false_iff.mpr c9
    subst c9
    rw [if_neg (show ¬ (false = true) by decide)] at H
    by_cases c13 : a1 = (a0.size : Int)
    ·
     rw [if_pos c13] at H
     have c13b0 : (a1 == (a0.size : Int)) = true := beq_iff_eq.mpr c13
     have c13b1 : (a1 != (a0.size : Int)) = false := bne_eq_false_iff_eq.mpr c13
     clear c13
     simp only [Option.some.injEq, Prod.mk.injEq] at H
     obtain ⟨rfl, rfl, rfl, rfl, rfl, rfl⟩ := H
     have hnb14 := NB459_458.out
     have hnc14 := NB458_459.out
     have hcz15_0 := Own.bc2 BK459.out 0
     have hcz15_1 := Own.bc2 BK459.out 1
     have hcz15_2 := Own.bc2 BK459.out 2
     have hcz15_3 := Own.bc2 BK459.out 3
     have hfz15_0 := bf BK459.out 0
     have hfz15_1 := bf BK459.out 1
     have hfz15_2 := bf BK459.out 2
     have hfz15_3 := bf BK459.out 3
     have hcz16_0 := Own.bc2 BK458.out 0
     have hcz16_1 := Own.bc2 BK458.out 1
     have hcz16_2 := Own.bc2 BK458.out 2
     have hcz16_3 := Own.bc2 BK458.out 3
     have hfz16_0 := bf BK458.out 0
     have hfz16_1 := bf BK458.out 1
     have hfz16_2 := bf BK458.out 2
     have hfz16_3 := bf BK458.out 3
     go_wp2
     refine bodyPost_ret (results_ctt rfl _ _ gb458 41 #[.int .i64 0, .int .i64 0, .slice none 0 0, .string (⟨#[]⟩ : ByteArray)] (0, 0) _ rfl (by (with_reducible repeat (first|apply bn|apply bd|apply ba)); refine blk_put (cs := #[.int .i64 0, .int .i64 0, .slice none 0 0, .string (⟨#[]⟩ : ByteArray)]) ?_ 3 _ rfl; (with_reducible repeat (first|apply bn|apply bd|apply ba)); refine blk_put (cs := #[.int .i64 0, .int .i64 0, .slice none 0 0, .string (⟨#[]⟩ : ByteArray)]) ?_ 2 _ rfl; (with_reducible repeat (first|apply bn|apply bd|apply ba)); refine blk_put (cs := #[.int .i64 0, .int .i64 0, .slice none 0 0, .string (⟨#[]⟩ : ByteArray)]) ?_ 1 _ rfl; (with_reducible repeat (first|apply bn|apply bd|apply ba)); refine blk_put (cs := #[.int .i64 0, .int .i64 0, .slice none 0 0, .string (⟨#[]⟩ : ByteArray)]) ?_ 0 _ rfl; (with_reducible repeat (first|apply bn|apply bd|apply ba)); exact BK458.out) Try.underlying41 rfl (by kernel_rfl)) rfl ?_
     exact ⟨_, by first | rfl | (simp <;> rfl) | (simp [*] <;> rfl) | (simp [Aid.ne_nil, Aid.eq_nil]; done), by first | exact Kd.R_nil _ _ _ _ _ | exact Kd.N_nil _ _ _ _ _ | exact Kd.V_nil _ _ _ _ _ | exact Kd.Q_nil _ _ _ _ _ | exact Kd.S_nil _ _ _ _ _, by repeat (first | (with_reducible first | exact HB.out | apply bl | apply pN | apply b1 | refine bs ?_ GE458.out | refine bs ?_ GE459.out) | exact HB.out | exact HBo.out)⟩
    ·
     rw [if_neg c13] at H
     have c13b0 : (a1 == (a0.size : Int)) = false := beq_eq_false_iff_ne.mpr c13
     have c13b1 : (a1 != (a0.size : Int)) = true := bne_iff_ne.mpr c13
     by_cases c17 : 0 ≤ a1
     ·
      rw [if_pos c17] at H
      have c17b0 : decide (0 ≤ a1) = true := decide_eq_true c17
      clear c17
      by_cases c18 : a1 < (a0.size : Int)
      ·
       rw [if_pos c18] at H
       have c18b0 : decide (a1 < (a0.size : Int)) = true := decide_eq_true c18
       clear c18
       have HC20 := Am H
       clear H
       have p19 : 0 ≤ (a1 : Int) := of_decide_eq_true (by first | (with_reducible assumption) | assumption)
       have q19 : a1 < (a0.size : Int) := of_decide_eq_true (by first | (with_reducible assumption) | assumption)
       have hx19 := bt_at a0 a1
       replace p19 := eq_true p19
       replace q19 := eq_true q19
       go_upto_region 7 with (first | ((with_reducible refine gate_dst (N := 8) rfl ?_); (try (refine gate_guard (by rfl) ?_; dsimp only)); refine box_event ?hg (N := 8) ?hd (cs := #[.int .i64 0, .int .i64 0, .slice none 0 0, .string (⟨#[]⟩ : ByteArray)]) (t := 41) ?hr ?_; (case hd => rfl); (case hg => rfl); (case hr => first | (go_simp; done) | (go_simp; rfl)); intro gb460 hg w21 hbox hb; have BK460 := Am (hbox); have GW460 := Am ((by rw [hg]; exact (below_size (by repeat (first | (with_reducible first | exact HB.out | apply bl | apply pN | apply b1 | refine bs ?_ GE458.out | refine bs ?_ GE459.out) | exact HB.out | exact HBo.out))) : w.heap.size ≤ gb460)); have GE460 := GW460; have NB458_460 := Am ((by rw [hg]; exact Nat.ne_of_lt (blk_lt (g := gb458) (o := .cells #[.int .i64 0, .int .i64 0, .slice none 0 0, .string (⟨#[]⟩ : ByteArray)] 41 (0, 0)) (by (with_reducible repeat (first|apply bn|apply bd|apply ba)); exact BK458.out)) : gb458 ≠ gb460)); have NB460_458 := Am NB458_460.out.symm; have NB459_460 := Am ((by rw [hg]; exact Nat.ne_of_lt (blk_lt (g := gb459) (o := .cells #[.int .i64 0, .int .i64 0, .slice none 0 0, .string (⟨#[]⟩ : ByteArray)] 41 (0, 0)) (by (with_reducible repeat (first|apply bn|apply bd|apply ba)); exact BK459.out)) : gb459 ≠ gb460)); have NB460_459 := Am NB459_460.out.symm; replace BK458 := Am (blk_below (g := gb458) (o := .cells #[.int .i64 0, .int .i64 0, .slice none 0 0, .string (⟨#[]⟩ : ByteArray)] 41 (0, 0)) (by (with_reducible repeat (first|apply bn|apply bd|apply ba)); exact BK458.out) hb); replace BK459 := Am (blk_below (g := gb459) (o := .cells #[.int .i64 0, .int .i64 0, .slice none 0 0, .string (⟨#[]⟩ : ByteArray)] 41 (0, 0)) (by (with_reducible repeat (first|apply bn|apply bd|apply ba)); exact BK459.out) hb); replace HB := Am (below_step (by repeat (first | (with_reducible first | exact HB.out | apply bl | apply pN | apply b1 | refine bs ?_ GE458.out | refine bs ?_ GE459.out) | exact HB.out | exact HBo.out)) hb); clear hb hbox hg; have hnb22 := NB460_458.out; have hnc22 := NB458_460.out; have hnb23 := NB460_459.out; have hnc23 := NB459_460.out; have hcz24_0 := Own.bc2 BK460.out 0; have hcz24_1 := Own.bc2 BK460.out 1; have hcz24_2 := Own.bc2 BK460.out 2; have hcz24_3 := Own.bc2 BK460.out 3; have hfz24_0 := bf BK460.out 0; have hfz24_1 := bf BK460.out 1; have hfz24_2 := bf BK460.out 2; have hfz24_3 := bf BK460.out 3))
       (try simp only [Act.put, sI, sZ, sS])
       go_cut [49] (fun v49 wc => ∃ (kq : Nat) (x49_19 : Bool), v49 = .bool x49_19 ∧ Aside0 (shuttlecockref04_Decode.j1 kq a0 a1 x49_19 0 0 (⟨#[]⟩ : ByteArray) (wrap64 (bt a0 a1)) 0 (⟨#[]⟩ : ByteArray) = some (r1, r2, r3, r4, r5, r6)) ∧ Aside0 (kq ≤ kj2) ∧ Aside0 (wc.heap[gb458]? = some (.cells #[.int .i64 0, .int .i64 0, (.slice none 0 0), .string (⟨#[]⟩ : ByteArray)] 41 (0, 0))) ∧ Aside0 (wc.heap[gb459]? = some (.cells #[.int .i64 0, .int .i64 0, (.slice none 0 0), .string (⟨#[]⟩ : ByteArray)] 41 (0, 0))) ∧ Aside0 (wc.heap[gb460]? = some (.cells #[.int .i64 (wrap64 (bt a0 a1)), .int .i64 0, (.slice none 0 0), .string (⟨#[]⟩ : ByteArray)] 41 (0, 0))) ∧ Aside0 (Below w.heap.size w wc))
       case first =>
        have H := HC20.out
        clear HC20
        replace H := ob H
        obtain ⟨t461, A250, H⟩ := H
        (try dsimp only at H)
        have A25 := Am A250
        clear A250
        by_cases c26 : t461 = true
        ·
         subst c26
         rw [if_pos rfl] at H
         have H' := Am H
         clear H
         have hnb27 := NB460_458.out
         have hnc27 := NB458_460.out
         have hnb28 := NB460_459.out
         have hnc28 := NB459_460.out
         have hcz29_0 := Own.bc2 BK460.out 0
         have hcz29_1 := Own.bc2 BK460.out 1
         have hcz29_2 := Own.bc2 BK460.out 2
         have hcz29_3 := Own.bc2 BK460.out 3
         have hfz29_0 := bf BK460.out 0
         have hfz29_1 := bf BK460.out 1
         have hfz29_2 := bf BK460.out 2
         have hfz29_3 := bf BK460.out 3
         go_wp2_with (first | ((with_reducible refine gate_callee (f := 41) rfl ?_); refine Own.gL_ (some 42) Try.func41 (#[.int .i64 (wrap64 (bt a0 a1))]) (h := ?_); (with_reducible refine (shuttlecockref03_Known.calls (wrap64 (bt a0 a1)) true _ A25.out).mono ?_); rintro e w' ⟨rfl, ⟨nd, rfl⟩⟩; refine ⟨_, rfl, ?_⟩))
         go_meet
         case rel => exact ⟨_, (false), (by first | rfl | (simp; done) | (simp [*]; done)), H', ⟨by have := HJ2.out; first | omega | exact Nat.le_refl _⟩, ⟨by (with_reducible repeat (first|apply bn|apply bd|apply ba)); refine blk_far ?_ NB458_460.out _; (with_reducible repeat (first|apply bn|apply bd|apply ba)); refine blk_far ?_ NB458_460.out _; (with_reducible repeat (first|apply bn|apply bd|apply ba)); refine blk_far ?_ NB458_460.out _; (with_reducible repeat (first|apply bn|apply bd|apply ba)); refine blk_far ?_ NB458_460.out _; (with_reducible repeat (first|apply bn|apply bd|apply ba)); exact BK458.out⟩, ⟨by (with_reducible repeat (first|apply bn|apply bd|apply ba)); refine blk_far ?_ NB459_460.out _; (with_reducible repeat (first|apply bn|apply bd|apply ba)); refine blk_far ?_ NB459_460.out _; (with_reducible repeat (first|apply bn|apply bd|apply ba)); refine blk_far ?_ NB459_460.out _; (with_reducible repeat (first|apply bn|apply bd|apply ba)); refine blk_far ?_ NB459_460.out _; (with_reducible repeat (first|apply bn|apply bd|apply ba)); exact BK459.out⟩, ⟨by (with_reducible repeat (first|apply bn|apply bd|apply ba)); refine blk_put (cs := #[.int .i64 (wrap64 (bt a0 a1)), .int .i64 0, .slice none 0 0, .string (⟨#[]⟩ : ByteArray)]) ?_ 3 _ rfl; (with_reducible repeat (first|apply bn|apply bd|apply ba)); refine blk_put (cs := #[.int .i64 (wrap64 (bt a0 a1)), .int .i64 0, .slice none 0 0, .string (⟨#[]⟩ : ByteArray)]) ?_ 2 _ rfl; (with_reducible repeat (first|apply bn|apply bd|apply ba)); refine blk_put (cs := #[.int .i64 (wrap64 (bt a0 a1)), .int .i64 0, .slice none 0 0, .string (⟨#[]⟩ : ByteArray)]) ?_ 1 _ rfl; (with_reducible repeat (first|apply bn|apply bd|apply ba)); refine blk_put (cs := #[.int .i64 0, .int .i64 0, .slice none 0 0, .string (⟨#[]⟩ : ByteArray)]) ?_ 0 _ rfl; (with_reducible repeat (first|apply bn|apply bd|apply ba)); exact BK460.out⟩, ⟨by repeat (first | (with_reducible first | exact HB.out | apply bl | apply pN | apply b1 | refine bs ?_ GE458.out | refine bs ?_ GE459.out | refine bs ?_ GE460.out) | exact HB.out | exact HBo.out)⟩⟩
        ·
         replace c26 := Bool.eq_false_iff.mpr c26
         subst c26
         rw [if_neg (show ¬ (false = true) by decide)] at H
         replace H := ob H
         obtain ⟨t462, A300, H⟩ := H
         (try dsimp only at H)
         have A30 := Am A300
         clear A300
         have H' := Am H
         clear H
         have hnb31 := NB460_458.out
         have hnc31 := NB458_460.out
         have hnb32 := NB460_459.out
         have hnc32 := NB459_460.out
         have hcz33_0 := Own.bc2 BK460.out 0
         have hcz33_1 := Own.bc2 BK460.out 1
         have hcz33_2 := Own.bc2 BK460.out 2
         have hcz33_3 := Own.bc2 BK460.out 3
         have hfz33_0 := bf BK460.out 0
         have hfz33_1 := bf BK460.out 1
         have hfz33_2 := bf BK460.out 2
         have hfz33_3 := bf BK460.out 3
         go_wp2_with (first | ((with_reducible refine gate_callee (f := 41) rfl ?_); refine Own.gL_ (some 42) Try.func41 (#[.int .i64 (wrap64 (bt a0 a1))]) (h := ?_); (with_reducible refine (shuttlecockref03_Known.calls (wrap64 (bt a0 a1)) false _ A25.out).mono ?_); rintro e w' ⟨rfl, ⟨nd, rfl⟩⟩; refine ⟨_, rfl, ?_⟩) | (go_at_call 40; (with_reducible refine (shuttlecockref03_Exp.calls (wrap64 (bt a0 a1)) t462 _ A30.out).mono ?_); rintro e w' ⟨rfl, ⟨nd, rfl⟩⟩))
         go_meet
         case rel => exact ⟨_, (!t462), (by first | rfl | (simp; done) | (simp [*]; done)), H', ⟨by have := HJ2.out; first | omega | exact Nat.le_refl _⟩, ⟨by (with_reducible repeat (first|apply bn|apply bd|apply ba)); refine blk_far ?_ NB458_460.out _; (with_reducible repeat (first|apply bn|apply bd|apply ba)); refine blk_far ?_ NB458_460.out _; (with_reducible repeat (first|apply bn|apply bd|apply ba)); refine blk_far ?_ NB458_460.out _; (with_reducible repeat (first|apply bn|apply bd|apply ba)); refine blk_far ?_ NB458_460.out _; (with_reducible repeat (first|apply bn|apply bd|apply ba)); exact BK458.out⟩, ⟨by (with_reducible repeat (first|apply bn|apply bd|apply ba)); refine blk_far ?_ NB459_460.out _; (with_reducible repeat (first|apply bn|apply bd|apply ba)); refine blk_far ?_ NB459_460.out _; (with_reducible repeat (first|apply bn|apply bd|apply ba)); refine blk_far ?_ NB459_460.out _; (with_reducible repeat (first|apply bn|apply bd|apply ba)); refine blk_far ?_ NB459_460.out _; (with_reducible repeat (first|apply bn|apply bd|apply ba)); exact BK459.out⟩, ⟨by (with_reducible repeat (first|apply bn|apply bd|apply ba)); refine blk_put (cs := #[.int .i64 (wrap64 (bt a0 a1)), .int .i64 0, .slice none 0 0, .string (⟨#[]⟩ : ByteArray)]) ?_ 3 _ rfl; (with_reducible repeat (first|apply bn|apply bd|apply ba)); refine blk_put (cs := #[.int .i64 (wrap64 (bt a0 a1)), .int .i64 0, .slice none 0 0, .string (⟨#[]⟩ : ByteArray)]) ?_ 2 _ rfl; (with_reducible repeat (first|apply bn|apply bd|apply ba)); refine blk_put (cs := #[.int .i64 (wrap64 (bt a0 a1)), .int .i64 0, .slice none 0 0, .string (⟨#[]⟩ : ByteArray)]) ?_ 1 _ rfl; (with_reducible repeat (first|apply bn|apply bd|apply ba)); refine blk_put (cs := #[.int .i64 0, .int .i64 0, .slice none 0 0, .string (⟨#[]⟩ : ByteArray)]) ?_ 0 _ rfl; (with_reducible repeat (first|apply bn|apply bd|apply ba)); exact BK460.out⟩, ⟨by repeat (first | (with_reducible first | exact HB.out | apply bl | apply pN | apply b1 | refine bs ?_ GE458.out | refine bs ?_ GE459.out | refine bs ?_ GE460.out) | exact HB.out | exact HBo.out)⟩⟩
       case rest =>
        clear HC20
        try clear c1
        try clear p1
        try clear q1
        try clear hx1
        try clear c2
        try clear p2
        try clear c3
        try clear c4
        try clear c6
        try clear p6
        try clear c8
        try clear c8b0
        try clear c9
        try clear c10
        try clear c13
        try clear c13b0
        try clear c13b1
        try clear c14
        try clear c17
        try clear c17b0
        try clear c18
        try clear c18b0
        try clear p19
        try clear q19
        try clear hx19
        try clear c22
        try clear c23
        try clear c26
        try clear c27
        try clear c28
        try clear c31
        try clear c32
        try clear hcz11_0
        try clear hcz11_1
        try clear hcz11_2
        try clear hcz11_3
        try clear hcz12_0
        try clear hcz12_1
        try clear hcz12_2
        try clear hcz12_3
        try clear hcz15_0
        try clear hcz15_1
        try clear hcz15_2
        try clear hcz15_3
        try clear hcz16_0
        try clear hcz16_1
        try clear hcz16_2
        try clear hcz16_3
        try clear hcz24_0
        try clear hcz24_1
        try clear hcz24_2
        try clear hcz24_3
        try clear hcz29_0
        try clear hcz29_1
        try clear hcz29_2
        try clear hcz29_3
        try clear hcz33_0
        try clear hcz33_1
        try clear hcz33_2
        try clear hcz33_3
        try clear hcz7_0
        try clear hcz7_1
        try clear hcz7_2
        try clear hcz7_3
        try clear hfz11_0
        try clear hfz11_1
        try clear hfz11_2
        try clear hfz11_3
        try clear hfz12_0
        try clear hfz12_1
        try clear hfz12_2
        try clear hfz12_3
        try clear hfz15_0
        try clear hfz15_1
        try clear hfz15_2
        try clear hfz15_3
        try clear hfz16_0
        try clear hfz16_1
        try clear hfz16_2
        try clear hfz16_3
        try clear hfz24_0
        try clear hfz24_1
        try clear hfz24_2
        try clear hfz24_3
        try clear hfz29_0
        try clear hfz29_1
        try clear hfz29_2
        try clear hfz29_3
        try clear hfz33_0
        try clear hfz33_1
        try clear hfz33_2
        try clear hfz33_3
        try clear hfz7_0
        try clear hfz7_1
        try clear hfz7_2
        try clear hfz7_3
        try clear p19
        try clear p2
        try clear q19
        obtain ⟨kq, x49_19, rfl, HA, HJ19, BK458, BK459, BK460, HB⟩ := hcut
        cases kq with
        | zero => exact absurd HA.out (by simp [shuttlecockref04_Decode.j1])
        | succ kj19 =>
         have H := HA.out
         clear HA
         simp only [shuttlecockref04_Decode.j1] at H
         by_cases c34 : x49_19 = true
         ·
          subst c34
          rw [if_pos rfl] at H
          simp only [Option.some.injEq, Prod.mk.injEq] at H
          obtain ⟨rfl, rfl, rfl, rfl, rfl, rfl⟩ := H
          have hnb35 := NB459_458.out
          have hnc35 := NB458_459.out
          have hnb36 := NB459_460.out
          have hnc36 := NB460_459.out
          have hcz37_0 := Own.bc2 BK459.out 0
          have hcz37_1 := Own.bc2 BK459.out 1
          have hcz37_2 := Own.bc2 BK459.out 2
          have hcz37_3 := Own.bc2 BK459.out 3
          have hfz37_0 := bf BK459.out 0
          have hfz37_1 := bf BK459.out 1
          have hfz37_2 := bf BK459.out 2
          have hfz37_3 := bf BK459.out 3
          have hnb38 := NB458_460.out
          have hnc38 := NB460_458.out
          have hcz39_0 := Own.bc2 BK458.out 0
          have hcz39_1 := Own.bc2 BK458.out 1
          have hcz39_2 := Own.bc2 BK458.out 2
          have hcz39_3 := Own.bc2 BK458.out 3
          have hfz39_0 := bf BK458.out 0
          have hfz39_1 := bf BK458.out 1
          have hfz39_2 := bf BK458.out 2
          have hfz39_3 := bf BK458.out 3
          go_wp2
          refine bodyPost_ret (results_ctt rfl _ _ gb458 41 #[.int .i64 0, .int .i64 0, .slice none 0 0, .string (⟨#[]⟩ : ByteArray)] (0, 0) _ rfl (by (with_reducible repeat (first|apply bn|apply bd|apply ba)); refine blk_put (cs := #[.int .i64 0, .int .i64 0, .slice none 0 0, .string (⟨#[]⟩ : ByteArray)]) ?_ 3 _ rfl; (with_reducible repeat (first|apply bn|apply bd|apply ba)); refine blk_put (cs := #[.int .i64 0, .int .i64 0, .slice none 0 0, .string (⟨#[]⟩ : ByteArray)]) ?_ 2 _ rfl; (with_reducible repeat (first|apply bn|apply bd|apply ba)); refine blk_put (cs := #[.int .i64 0, .int .i64 0, .slice none 0 0, .string (⟨#[]⟩ : ByteArray)]) ?_ 1 _ rfl; (with_reducible repeat (first|apply bn|apply bd|apply ba)); refine blk_put (cs := #[.int .i64 0, .int .i64 0, .slice none 0 0, .string (⟨#[]⟩ : ByteArray)]) ?_ 0 _ rfl; (with_reducible repeat (first|apply bn|apply bd|apply ba)); exact BK458.out) Try.underlying41 rfl (by kernel_rfl)) rfl ?_
          exact ⟨_, by first | rfl | (simp <;> rfl) | (simp [*] <;> rfl) | (simp [Aid.ne_nil, Aid.eq_nil]; done), by first | exact Kd.R_nil _ _ _ _ _ | exact Kd.N_nil _ _ _ _ _ | exact Kd.V_nil _ _ _ _ _ | exact Kd.Q_nil _ _ _ _ _ | exact Kd.S_nil _ _ _ _ _, by repeat (first | (with_reducible first | exact HB.out | apply bl | apply pN | apply b1 | refine bs ?_ GE458.out | refine bs ?_ GE459.out | refine bs ?_ GE460.out) | exact HB.out | exact HBo.out)⟩
         ·
          replace c34 := Bool.eq_false_iff.mpr c34
          subst c34
          rw [if_neg (show ¬ (false = true) by decide)] at H
          replace H := ob H
          obtain ⟨⟨t463, t464, t465⟩, A400, H⟩ := H
          (try dsimp only at H)
          have A40 := Am A400
          clear A400
          by_cases c41 : t465 = 0
          ·
           rw [if_pos c41] at H
           have c41b0 : (t465 == 0) = true := beq_iff_eq.mpr c41
           have c41b1 : (t465 != 0) = false := bne_eq_false_iff_eq.mpr c41
           clear c41
           replace H := ob H
           obtain ⟨t466, A420, H⟩ := H
           (try dsimp only at H)
           have A42 := Am A420
           clear A420
           by_cases c43 : t466 = true
           ·
            subst c43
            rw [if_pos rfl] at H
            replace H := ob H
            obtain ⟨⟨t467, t468, t469⟩, A440, H⟩ := H
            (try dsimp only at H)
            have A44 := Am A440
            clear A440
            by_cases c45 : t469 = 0
            ·
             rw [if_pos c45] at H
             have c45b0 : (t469 == 0) = true := beq_iff_eq.mpr c45
             have c45b1 : (t469 != 0) = false := bne_eq_false_iff_eq.mpr c45
             clear c45
             by_cases c46 : t467 > (wrap64 ((a0.size : Int) - t468))
             ·
              rw [if_pos c46] at H
              have c46b0 : decide ((wrap64 ((a0.size : Int) - t468)) < t467) = true := decide_eq_true c46
              clear c46
              simp only [Option.some.injEq, Prod.mk.injEq] at H
              obtain ⟨rfl, rfl, rfl, rfl, rfl, rfl⟩ := H
              go_wp2_with (first | ((with_reducible refine gate_callee (f := 48) rfl ?_); refine Own.gL_ (some 55) Try.func48 (#[.string a0, .int .i64 (wrap64 (a1 + 1))]) (h := ?_); (with_reducible refine (shuttlecockref01_Take.calls kj19 a0 (wrap64 (a1 + 1)) t463 t464 t465 _ A40.out).mono ?_); rintro e w47 ⟨rfl, hb⟩; refine ⟨_, rfl, ?_⟩; replace BK458 := Am (blk_below (g := gb458) (o := .cells #[.int .i64 0, .int .i64 0, .slice none 0 0, .string (⟨#[]⟩ : ByteArray)] 41 (0, 0)) (by (with_reducible repeat (first|apply bn|apply bd|apply ba)); exact BK458.out) hb); replace BK459 := Am (blk_below (g := gb459) (o := .cells #[.int .i64 0, .int .i64 0, .slice none 0 0, .string (⟨#[]⟩ : ByteArray)] 41 (0, 0)) (by (with_reducible repeat (first|apply bn|apply bd|apply ba)); exact BK459.out) hb); replace BK460 := Am (blk_below (g := gb460) (o := .cells #[.int .i64 (wrap64 (bt a0 a1)), .int .i64 0, .slice none 0 0, .string (⟨#[]⟩ : ByteArray)] 41 (0, 0)) (by (with_reducible repeat (first|apply bn|apply bd|apply ba)); exact BK460.out) hb); replace HB := Am (below_step (by repeat (first | (with_reducible first | exact HB.out | apply bl | apply pN | apply b1 | refine bs ?_ GE458.out | refine bs ?_ GE459.out | refine bs ?_ GE460.out) | exact HB.out | exact HBo.out)) hb); clear hb; have hnb48 := NB460_458.out; have hnc48 := NB458_460.out; have hnb49 := NB460_459.out; have hnc49 := NB459_460.out; have hcz50_0 := Own.bc2 BK460.out 0; have hcz50_1 := Own.bc2 BK460.out 1; have hcz50_2 := Own.bc2 BK460.out 2; have hcz50_3 := Own.bc2 BK460.out 3; have hfz50_0 := bf BK460.out 0; have hfz50_1 := bf BK460.out 1; have hfz50_2 := bf BK460.out 2; have hfz50_3 := bf BK460.out 3) | ((with_reducible refine gate_callee (f := 40) rfl ?_); refine Own.gL_ (some 67) Try.func40 (#[.int .i64 (wrap64 (bt a0 a1))]) (h := ?_); (with_reducible refine (shuttlecockref03_Exp.calls (wrap64 (bt a0 a1)) true _ A42.out).mono ?_); rintro e w' ⟨rfl, ⟨nd, rfl⟩⟩; refine ⟨_, rfl, ?_⟩) | ((with_reducible refine gate_callee (f := 48) rfl ?_); refine Own.gL_ (some 71) Try.func48 (#[.string a0, .int .i64 t464]) (h := ?_); (with_reducible refine (shuttlecockref01_Take.calls kj19 a0 t464 t467 t468 t469 _ A44.out).mono ?_); rintro e w51 ⟨rfl, hb⟩; refine ⟨_, rfl, ?_⟩; replace BK458 := Am (blk_below (g := gb458) (o := .cells #[.int .i64 0, .int .i64 0, .slice none 0 0, .string (⟨#[]⟩ : ByteArray)] 41 (0, 0)) (by (with_reducible repeat (first|apply bn|apply bd|apply ba)); refine blk_far ?_ NB458_460.out _; (with_reducible repeat (first|apply bn|apply bd|apply ba)); exact BK458.out) hb); replace BK459 := Am (blk_below (g := gb459) (o := .cells #[.int .i64 0, .int .i64 0, .slice none 0 0, .string (⟨#[]⟩ : ByteArray)] 41 (0, 0)) (by (with_reducible repeat (first|apply bn|apply bd|apply ba)); refine blk_far ?_ NB459_460.out _; (with_reducible repeat (first|apply bn|apply bd|apply ba)); exact BK459.out) hb); replace BK460 := Am (blk_below (g := gb460) (o := .cells #[.int .i64 (wrap64 (bt a0 a1)), .int .i64 t463, .slice none 0 0, .string (⟨#[]⟩ : ByteArray)] 41 (0, 0)) (by (with_reducible repeat (first|apply bn|apply bd|apply ba)); refine blk_put (cs := #[.int .i64 (wrap64 (bt a0 a1)), .int .i64 0, .slice none 0 0, .string (⟨#[]⟩ : ByteArray)]) ?_ 1 _ rfl; (with_reducible repeat (first|apply bn|apply bd|apply ba)); exact BK460.out) hb); replace HB := Am (below_step (by repeat (first | (with_reducible first | exact HB.out | apply bl | apply pN | apply b1 | refine bs ?_ GE458.out | refine bs ?_ GE459.out | refine bs ?_ GE460.out) | exact HB.out | exact HBo.out)) hb); clear hb; have hnb52 := NB459_458.out; have hnc52 := NB458_459.out; have hcz53_0 := Own.bc2 BK459.out 0; have hcz53_1 := Own.bc2 BK459.out 1; have hcz53_2 := Own.bc2 BK459.out 2; have hcz53_3 := Own.bc2 BK459.out 3; have hfz53_0 := bf BK459.out 0; have hfz53_1 := bf BK459.out 1; have hfz53_2 := bf BK459.out 2; have hfz53_3 := bf BK459.out 3; have hcz54_0 := Own.bc2 BK458.out 0; have hcz54_1 := Own.bc2 BK458.out 1; have hcz54_2 := Own.bc2 BK458.out 2; have hcz54_3 := Own.bc2 BK458.out 3; have hfz54_0 := bf BK458.out 0; have hfz54_1 := bf BK458.out 1; have hfz54_2 := bf BK458.out 2; have hfz54_3 := bf BK458.out 3))
              refine bodyPost_ret (results_ctt rfl _ _ gb458 41 #[.int .i64 0, .int .i64 0, .slice none 0 0, .string (⟨#[]⟩ : ByteArray)] (0, 0) _ rfl (by (with_reducible repeat (first|apply bn|apply bd|apply ba)); refine blk_put (cs := #[.int .i64 0, .int .i64 0, .slice none 0 0, .string (⟨#[]⟩ : ByteArray)]) ?_ 3 _ rfl; (with_reducible repeat (first|apply bn|apply bd|apply ba)); refine blk_put (cs := #[.int .i64 0, .int .i64 0, .slice none 0 0, .string (⟨#[]⟩ : ByteArray)]) ?_ 2 _ rfl; (with_reducible repeat (first|apply bn|apply bd|apply ba)); refine blk_put (cs := #[.int .i64 0, .int .i64 0, .slice none 0 0, .string (⟨#[]⟩ : ByteArray)]) ?_ 1 _ rfl; (with_reducible repeat (first|apply bn|apply bd|apply ba)); refine blk_put (cs := #[.int .i64 0, .int .i64 0, .slice none 0 0, .string (⟨#[]⟩ : ByteArray)]) ?_ 0 _ rfl; (with_reducible repeat (first|apply bn|apply bd|apply ba)); exact BK458.out) Try.underlying41 rfl (by kernel_rfl)) rfl ?_
              exact ⟨_, by first | rfl | (simp <;> rfl) | (simp [*] <;> rfl) | (simp [Aid.ne_nil, Aid.eq_nil]; done), by first | exact Kd.R_nil _ _ _ _ _ | exact Kd.N_nil _ _ _ _ _ | exact Kd.V_nil _ _ _ _ _ | exact Kd.Q_nil _ _ _ _ _ | exact Kd.S_nil _ _ _ _ _, by repeat (first | (with_reducible first | exact HB.out | apply bl | apply pN | apply b1 | refine bs ?_ GE458.out | refine bs ?_ GE459.out | refine bs ?_ GE460.out) | exact HB.out | exact HBo.out)⟩
             ·
              rw [if_neg c46] at H
              have c46b0 : decide ((wrap64 ((a0.size : Int) - t468)) < t467) = false := decide_eq_false c46
              clear c46
              by_cases c55 : 0 ≤ t468
              ·
               rw [if_pos c55] at H
               have c55b0 := eq_true c55
               have c55b1 : decide (0 ≤ t468) = true := decide_eq_true c55
               clear c55
               by_cases c56 : t468 ≤ (wrap64 (t468 + t467))
               ·
                rw [if_pos c56] at H
                have c56b0 := eq_true c56
                have c56b1 : decide (t468 ≤ (wrap64 (t468 + t467))) = true := decide_eq_true c56
                by_cases c57 : (wrap64 (t468 + t467)) ≤ (a0.size : Int)
                ·
                 rw [if_pos c57] at H
                 have c57b0 := eq_true c57
                 have c57b1 : decide ((wrap64 (t468 + t467)) ≤ (a0.size : Int)) = true := decide_eq_true c57
                 simp only [Option.some.injEq, Prod.mk.injEq] at H
                 obtain ⟨rfl, rfl, rfl, rfl, rfl, rfl⟩ := H
                 go_wp2_with (first | ((with_reducible refine gate_callee (f := 48) rfl ?_); refine Own.gL_ (some 55) Try.func48 (#[.string a0, .int .i64 (wrap64 (a1 + 1))]) (h := ?_); (with_reducible refine (shuttlecockref01_Take.calls kj19 a0 (wrap64 (a1 + 1)) t463 t464 t465 _ A40.out).mono ?_); rintro e w58 ⟨rfl, hb⟩; refine ⟨_, rfl, ?_⟩; replace BK458 := Am (blk_below (g := gb458) (o := .cells #[.int .i64 0, .int .i64 0, .slice none 0 0, .string (⟨#[]⟩ : ByteArray)] 41 (0, 0)) (by (with_reducible repeat (first|apply bn|apply bd|apply ba)); exact BK458.out) hb); replace BK459 := Am (blk_below (g := gb459) (o := .cells #[.int .i64 0, .int .i64 0, .slice none 0 0, .string (⟨#[]⟩ : ByteArray)] 41 (0, 0)) (by (with_reducible repeat (first|apply bn|apply bd|apply ba)); exact BK459.out) hb); replace BK460 := Am (blk_below (g := gb460) (o := .cells #[.int .i64 (wrap64 (bt a0 a1)), .int .i64 0, .slice none 0 0, .string (⟨#[]⟩ : ByteArray)] 41 (0, 0)) (by (with_reducible repeat (first|apply bn|apply bd|apply ba)); exact BK460.out) hb); replace HB := Am (below_step (by repeat (first | (with_reducible first | exact HB.out | apply bl | apply pN | apply b1 | refine bs ?_ GE458.out | refine bs ?_ GE459.out | refine bs ?_ GE460.out) | exact HB.out | exact HBo.out)) hb); clear hb; have hnb59 := NB460_458.out; have hnc59 := NB458_460.out; have hnb60 := NB460_459.out; have hnc60 := NB459_460.out; have hcz61_0 := Own.bc2 BK460.out 0; have hcz61_1 := Own.bc2 BK460.out 1; have hcz61_2 := Own.bc2 BK460.out 2; have hcz61_3 := Own.bc2 BK460.out 3; have hfz61_0 := bf BK460.out 0; have hfz61_1 := bf BK460.out 1; have hfz61_2 := bf BK460.out 2; have hfz61_3 := bf BK460.out 3) | ((with_reducible refine gate_callee (f := 40) rfl ?_); refine Own.gL_ (some 67) Try.func40 (#[.int .i64 (wrap64 (bt a0 a1))]) (h := ?_); (with_reducible refine (shuttlecockref03_Exp.calls (wrap64 (bt a0 a1)) true _ A42.out).mono ?_); rintro e w' ⟨rfl, ⟨nd, rfl⟩⟩; refine ⟨_, rfl, ?_⟩) | ((with_reducible refine gate_callee (f := 48) rfl ?_); refine Own.gL_ (some 71) Try.func48 (#[.string a0, .int .i64 t464]) (h := ?_); (with_reducible refine (shuttlecockref01_Take.calls kj19 a0 t464 t467 t468 t469 _ A44.out).mono ?_); rintro e w62 ⟨rfl, hb⟩; refine ⟨_, rfl, ?_⟩; replace BK458 := Am (blk_below (g := gb458) (o := .cells #[.int .i64 0, .int .i64 0, .slice none 0 0, .string (⟨#[]⟩ : ByteArray)] 41 (0, 0)) (by (with_reducible repeat (first|apply bn|apply bd|apply ba)); refine blk_far ?_ NB458_460.out _; (with_reducible repeat (first|apply bn|apply bd|apply ba)); exact BK458.out) hb); replace BK459 := Am (blk_below (g := gb459) (o := .cells #[.int .i64 0, .int .i64 0, .slice none 0 0, .string (⟨#[]⟩ : ByteArray)] 41 (0, 0)) (by (with_reducible repeat (first|apply bn|apply bd|apply ba)); refine blk_far ?_ NB459_460.out _; (with_reducible repeat (first|apply bn|apply bd|apply ba)); exact BK459.out) hb); replace BK460 := Am (blk_below (g := gb460) (o := .cells #[.int .i64 (wrap64 (bt a0 a1)), .int .i64 t463, .slice none 0 0, .string (⟨#[]⟩ : ByteArray)] 41 (0, 0)) (by (with_reducible repeat (first|apply bn|apply bd|apply ba)); refine blk_put (cs := #[.int .i64 (wrap64 (bt a0 a1)), .int .i64 0, .slice none 0 0, .string (⟨#[]⟩ : ByteArray)]) ?_ 1 _ rfl; (with_reducible repeat (first|apply bn|apply bd|apply ba)); exact BK460.out) hb); replace HB := Am (below_step (by repeat (first | (with_reducible first | exact HB.out | apply bl | apply pN | apply b1 | refine bs ?_ GE458.out | refine bs ?_ GE459.out | refine bs ?_ GE460.out) | exact HB.out | exact HBo.out)) hb); clear hb; have hcz63_0 := Own.bc2 BK460.out 0; have hcz63_1 := Own.bc2 BK460.out 1; have hcz63_2 := Own.bc2 BK460.out 2; have hcz63_3 := Own.bc2 BK460.out 3; have hfz63_0 := bf BK460.out 0; have hfz63_1 := bf BK460.out 1; have hfz63_2 := bf BK460.out 2; have hfz63_3 := bf BK460.out 3; have hnb64 := NB458_459.out; have hnc64 := NB459_458.out; have hcz65_0 := Own.bc2 BK458.out 0; have hcz65_1 := Own.bc2 BK458.out 1; have hcz65_2 := Own.bc2 BK458.out 2; have hcz65_3 := Own.bc2 BK458.out 3; have hfz65_0 := bf BK458.out 0; have hfz65_1 := bf BK458.out 1; have hfz65_2 := bf BK458.out 2; have hfz65_3 := bf BK458.out 3))
                 refine bodyPost_ret (results_ctt rfl _ _ gb458 41 #[.int .i64 (wrap64 (bt a0 a1)), .int .i64 t463, .slice none 0 0, .string (a0.extract (t468 : Int).toNat ((wrap64 (t468 + t467)) : Int).toNat)] (0, 0) _ rfl (by (with_reducible repeat (first|apply bn|apply bd|apply ba)); refine blk_put (cs := #[.int .i64 (wrap64 (bt a0 a1)), .int .i64 t463, .slice none 0 0, .string (⟨#[]⟩ : ByteArray)]) ?_ 3 _ rfl; (with_reducible repeat (first|apply bn|apply bd|apply ba)); refine blk_put (cs := #[.int .i64 (wrap64 (bt a0 a1)), .int .i64 t463, .slice none 0 0, .string (⟨#[]⟩ : ByteArray)]) ?_ 2 _ rfl; (with_reducible repeat (first|apply bn|apply bd|apply ba)); refine blk_put (cs := #[.int .i64 (wrap64 (bt a0 a1)), .int .i64 0, .slice none 0 0, .string (⟨#[]⟩ : ByteArray)]) ?_ 1 _ rfl; (with_reducible repeat (first|apply bn|apply bd|apply ba)); refine blk_put (cs := #[.int .i64 0, .int .i64 0, .slice none 0 0, .string (⟨#[]⟩ : ByteArray)]) ?_ 0 _ rfl; (with_reducible repeat (first|apply bn|apply bd|apply ba)); refine blk_far ?_ NB458_460.out _; (with_reducible repeat (first|apply bn|apply bd|apply ba)); exact BK458.out) Try.underlying41 rfl (by kernel_rfl)) rfl ?_
                 exact ⟨_, by first | rfl | (simp <;> rfl) | (simp [*] <;> rfl) | (simp [Aid.ne_nil, Aid.eq_nil]; done), by first | exact Kd.R_nil _ _ _ _ _ | exact Kd.N_nil _ _ _ _ _ | exact Kd.V_nil _ _ _ _ _ | exact Kd.Q_nil _ _ _ _ _ | exact Kd.S_nil _ _ _ _ _, by repeat (first | (with_reducible first | exact HB.out | apply bl | apply pN | apply b1 | refine bs ?_ GE458.out | refine bs ?_ GE459.out | refine bs ?_ GE460.out) | exact HB.out | exact HBo.out)⟩
                ·
                 rw [if_neg c57] at H
                 exact absurd H (by simp)
               ·
                rw [if_neg c56] at H
                exact absurd H (by simp)
              ·
               rw [if_neg c55] at H
               exact absurd H (by simp)
            ·
             rw [if_neg c45] at H
             have c45b0 : (t469 == 0) = false := beq_eq_false_iff_ne.mpr c45
             have c45b1 : (t469 != 0) = true := bne_iff_ne.mpr c45
             simp only [Option.some.injEq, Prod.mk.injEq] at H
             obtain ⟨rfl, rfl, rfl, rfl, rfl, rfl⟩ := H
             go_wp2_with (first | ((with_reducible refine gate_callee (f := 48) rfl ?_); refine Own.gL_ (some 55) Try.func48 (#[.string a0, .int .i64 (wrap64 (a1 + 1))]) (h := ?_); (with_reducible refine (shuttlecockref01_Take.calls kj19 a0 (wrap64 (a1 + 1)) t463 t464 t465 _ A40.out).mono ?_); rintro e w66 ⟨rfl, hb⟩; refine ⟨_, rfl, ?_⟩; replace BK458 := Am (blk_below (g := gb458) (o := .cells #[.int .i64 0, .int .i64 0, .slice none 0 0, .string (⟨#[]⟩ : ByteArray)] 41 (0, 0)) (by (with_reducible repeat (first|apply bn|apply bd|apply ba)); exact BK458.out) hb); replace BK459 := Am (blk_below (g := gb459) (o := .cells #[.int .i64 0, .int .i64 0, .slice none 0 0, .string (⟨#[]⟩ : ByteArray)] 41 (0, 0)) (by (with_reducible repeat (first|apply bn|apply bd|apply ba)); exact BK459.out) hb); replace BK460 := Am (blk_below (g := gb460) (o := .cells #[.int .i64 (wrap64 (bt a0 a1)), .int .i64 0, .slice none 0 0, .string (⟨#[]⟩ : ByteArray)] 41 (0, 0)) (by (with_reducible repeat (first|apply bn|apply bd|apply ba)); exact BK460.out) hb); replace HB := Am (below_step (by repeat (first | (with_reducible first | exact HB.out | apply bl | apply pN | apply b1 | refine bs ?_ GE458.out | refine bs ?_ GE459.out | refine bs ?_ GE460.out) | exact HB.out | exact HBo.out)) hb); clear hb; have hnb67 := NB460_458.out; have hnc67 := NB458_460.out; have hnb68 := NB460_459.out; have hnc68 := NB459_460.out; have hcz69_0 := Own.bc2 BK460.out 0; have hcz69_1 := Own.bc2 BK460.out 1; have hcz69_2 := Own.bc2 BK460.out 2; have hcz69_3 := Own.bc2 BK460.out 3; have hfz69_0 := bf BK460.out 0; have hfz69_1 := bf BK460.out 1; have hfz69_2 := bf BK460.out 2; have hfz69_3 := bf BK460.out 3) | ((with_reducible refine gate_callee (f := 40) rfl ?_); refine Own.gL_ (some 67) Try.func40 (#[.int .i64 (wrap64 (bt a0 a1))]) (h := ?_); (with_reducible refine (shuttlecockref03_Exp.calls (wrap64 (bt a0 a1)) true _ A42.out).mono ?_); rintro e w' ⟨rfl, ⟨nd, rfl⟩⟩; refine ⟨_, rfl, ?_⟩) | ((with_reducible refine gate_callee (f := 48) rfl ?_); refine Own.gL_ (some 71) Try.func48 (#[.string a0, .int .i64 t464]) (h := ?_); (with_reducible refine (shuttlecockref01_Take.calls kj19 a0 t464 t467 t468 t469 _ A44.out).mono ?_); rintro e w70 ⟨rfl, hb⟩; refine ⟨_, rfl, ?_⟩; replace BK458 := Am (blk_below (g := gb458) (o := .cells #[.int .i64 0, .int .i64 0, .slice none 0 0, .string (⟨#[]⟩ : ByteArray)] 41 (0, 0)) (by (with_reducible repeat (first|apply bn|apply bd|apply ba)); refine blk_far ?_ NB458_460.out _; (with_reducible repeat (first|apply bn|apply bd|apply ba)); exact BK458.out) hb); replace BK459 := Am (blk_below (g := gb459) (o := .cells #[.int .i64 0, .int .i64 0, .slice none 0 0, .string (⟨#[]⟩ : ByteArray)] 41 (0, 0)) (by (with_reducible repeat (first|apply bn|apply bd|apply ba)); refine blk_far ?_ NB459_460.out _; (with_reducible repeat (first|apply bn|apply bd|apply ba)); exact BK459.out) hb); replace BK460 := Am (blk_below (g := gb460) (o := .cells #[.int .i64 (wrap64 (bt a0 a1)), .int .i64 t463, .slice none 0 0, .string (⟨#[]⟩ : ByteArray)] 41 (0, 0)) (by (with_reducible repeat (first|apply bn|apply bd|apply ba)); refine blk_put (cs := #[.int .i64 (wrap64 (bt a0 a1)), .int .i64 0, .slice none 0 0, .string (⟨#[]⟩ : ByteArray)]) ?_ 1 _ rfl; (with_reducible repeat (first|apply bn|apply bd|apply ba)); exact BK460.out) hb); replace HB := Am (below_step (by repeat (first | (with_reducible first | exact HB.out | apply bl | apply pN | apply b1 | refine bs ?_ GE458.out | refine bs ?_ GE459.out | refine bs ?_ GE460.out) | exact HB.out | exact HBo.out)) hb); clear hb; have hnb71 := NB459_458.out; have hnc71 := NB458_459.out; have hcz72_0 := Own.bc2 BK459.out 0; have hcz72_1 := Own.bc2 BK459.out 1; have hcz72_2 := Own.bc2 BK459.out 2; have hcz72_3 := Own.bc2 BK459.out 3; have hfz72_0 := bf BK459.out 0; have hfz72_1 := bf BK459.out 1; have hfz72_2 := bf BK459.out 2; have hfz72_3 := bf BK459.out 3; have hcz73_0 := Own.bc2 BK458.out 0; have hcz73_1 := Own.bc2 BK458.out 1; have hcz73_2 := Own.bc2 BK458.out 2; have hcz73_3 := Own.bc2 BK458.out 3; have hfz73_0 := bf BK458.out 0; have hfz73_1 := bf BK458.out 1; have hfz73_2 := bf BK458.out 2; have hfz73_3 := bf BK458.out 3))
             refine bodyPost_ret (results_ctt rfl _ _ gb458 41 #[.int .i64 0, .int .i64 0, .slice none 0 0, .string (⟨#[]⟩ : ByteArray)] (0, 0) _ rfl (by (with_reducible repeat (first|apply bn|apply bd|apply ba)); refine blk_put (cs := #[.int .i64 0, .int .i64 0, .slice none 0 0, .string (⟨#[]⟩ : ByteArray)]) ?_ 3 _ rfl; (with_reducible repeat (first|apply bn|apply bd|apply ba)); refine blk_put (cs := #[.int .i64 0, .int .i64 0, .slice none 0 0, .string (⟨#[]⟩ : ByteArray)]) ?_ 2 _ rfl; (with_reducible repeat (first|apply bn|apply bd|apply ba)); refine blk_put (cs := #[.int .i64 0, .int .i64 0, .slice none 0 0, .string (⟨#[]⟩ : ByteArray)]) ?_ 1 _ rfl; (with_reducible repeat (first|apply bn|apply bd|apply ba)); refine blk_put (cs := #[.int .i64 0, .int .i64 0, .slice none 0 0, .string (⟨#[]⟩ : ByteArray)]) ?_ 0 _ rfl; (with_reducible repeat (first|apply bn|apply bd|apply ba)); exact BK458.out) Try.underlying41 rfl (by kernel_rfl)) rfl ?_
             exact ⟨_, by first | rfl | (simp <;> rfl) | (simp [*] <;> rfl) | (simp [Aid.ne_nil, Aid.eq_nil]; done), by first | exact Kd.R_nil _ _ _ _ _ | exact Kd.N_nil _ _ _ _ _ | exact Kd.V_nil _ _ _ _ _ | exact Kd.Q_nil _ _ _ _ _ | exact Kd.S_nil _ _ _ _ _, by repeat (first | (with_reducible first | exact HB.out | apply bl | apply pN | apply b1 | refine bs ?_ GE458.out | refine bs ?_ GE459.out | refine bs ?_ GE460.out) | exact HB.out | exact HBo.out)⟩
           ·
            replace c43 := Bool.eq_false_iff.mpr c43
            subst c43
            rw [if_neg (show ¬ (false = true) by decide)] at H
            replace H := ob H
            obtain ⟨t470, A740, H⟩ := H
            (try dsimp only at H)
            have A74 := Am A740
            clear A740
            have H' := Am H
            clear H
            go_wp2_with (first | ((with_reducible refine gate_callee (f := 48) rfl ?_); refine Own.gL_ (some 55) Try.func48 (#[.string a0, .int .i64 (wrap64 (a1 + 1))]) (h := ?_); (with_reducible refine (shuttlecockref01_Take.calls kj19 a0 (wrap64 (a1 + 1)) t463 t464 t465 _ A40.out).mono ?_); rintro e w75 ⟨rfl, hb⟩; refine ⟨_, rfl, ?_⟩; replace BK458 := Am (blk_below (g := gb458) (o := .cells #[.int .i64 0, .int .i64 0, .slice none 0 0, .string (⟨#[]⟩ : ByteArray)] 41 (0, 0)) (by (with_reducible repeat (first|apply bn|apply bd|apply ba)); exact BK458.out) hb); replace BK459 := Am (blk_below (g := gb459) (o := .cells #[.int .i64 0, .int .i64 0, .slice none 0 0, .string (⟨#[]⟩ : ByteArray)] 41 (0, 0)) (by (with_reducible repeat (first|apply bn|apply bd|apply ba)); exact BK459.out) hb); replace BK460 := Am (blk_below (g := gb460) (o := .cells #[.int .i64 (wrap64 (bt a0 a1)), .int .i64 0, .slice none 0 0, .string (⟨#[]⟩ : ByteArray)] 41 (0, 0)) (by (with_reducible repeat (first|apply bn|apply bd|apply ba)); exact BK460.out) hb); replace HB := Am (below_step (by repeat (first | (with_reducible first | exact HB.out | apply bl | apply pN | apply b1 | refine bs ?_ GE458.out | refine bs ?_ GE459.out | refine bs ?_ GE460.out) | exact HB.out | exact HBo.out)) hb); clear hb; have hnb76 := NB460_458.out; have hnc76 := NB458_460.out; have hnb77 := NB460_459.out; have hnc77 := NB459_460.out; have hcz78_0 := Own.bc2 BK460.out 0; have hcz78_1 := Own.bc2 BK460.out 1; have hcz78_2 := Own.bc2 BK460.out 2; have hcz78_3 := Own.bc2 BK460.out 3; have hfz78_0 := bf BK460.out 0; have hfz78_1 := bf BK460.out 1; have hfz78_2 := bf BK460.out 2; have hfz78_3 := bf BK460.out 3) | ((with_reducible refine gate_callee (f := 40) rfl ?_); refine Own.gL_ (some 67) Try.func40 (#[.int .i64 (wrap64 (bt a0 a1))]) (h := ?_); (with_reducible refine (shuttlecockref03_Exp.calls (wrap64 (bt a0 a1)) false _ A42.out).mono ?_); rintro e w' ⟨rfl, ⟨nd, rfl⟩⟩; refine ⟨_, rfl, ?_⟩) | ((with_reducible refine gate_callee (f := 42) rfl ?_); refine Own.gL_ (some 99) Try.func42 (#[.int .i64 (wrap64 (bt a0 a1))]) (h := ?_); (with_reducible refine (shuttlecockref03_Args.calls kj19 (wrap64 (bt a0 a1)) t470 _ A74.out).mono ?_); rintro e w79 ⟨v471, rfl, ho0, hb⟩; refine ⟨_, rfl, ?_⟩; have HO472 := Am (Kd.R_lower ho0 (below_size (by repeat (first | (with_reducible first | exact HB.out | apply bl | apply pN | apply b1 | refine bs ?_ GE458.out | refine bs ?_ GE459.out | refine bs ?_ GE460.out) | exact HB.out | exact HBo.out)))); replace BK458 := Am (blk_below (g := gb458) (o := .cells #[.int .i64 0, .int .i64 0, .slice none 0 0, .string (⟨#[]⟩ : ByteArray)] 41 (0, 0)) (by (with_reducible repeat (first|apply bn|apply bd|apply ba)); refine blk_far ?_ NB458_460.out _; (with_reducible repeat (first|apply bn|apply bd|apply ba)); exact BK458.out) hb); replace BK459 := Am (blk_below (g := gb459) (o := .cells #[.int .i64 0, .int .i64 0, .slice none 0 0, .string (⟨#[]⟩ : ByteArray)] 41 (0, 0)) (by (with_reducible repeat (first|apply bn|apply bd|apply ba)); refine blk_far ?_ NB459_460.out _; (with_reducible repeat (first|apply bn|apply bd|apply ba)); exact BK459.out) hb); replace BK460 := Am (blk_below (g := gb460) (o := .cells #[.int .i64 (wrap64 (bt a0 a1)), .int .i64 t463, .slice none 0 0, .string (⟨#[]⟩ : ByteArray)] 41 (0, 0)) (by (with_reducible repeat (first|apply bn|apply bd|apply ba)); refine blk_put (cs := #[.int .i64 (wrap64 (bt a0 a1)), .int .i64 0, .slice none 0 0, .string (⟨#[]⟩ : ByteArray)]) ?_ 1 _ rfl; (with_reducible repeat (first|apply bn|apply bd|apply ba)); exact BK460.out) hb); replace HB := Am (below_step (by repeat (first | (with_reducible first | exact HB.out | apply bl | apply pN | apply b1 | refine bs ?_ GE458.out | refine bs ?_ GE459.out | refine bs ?_ GE460.out) | exact HB.out | exact HBo.out)) hb); (try clear hb); (try clear hb2); (try clear hk); (try clear hi); (try clear ho0); obtain ⟨Ao80, co80, eo80⟩ := Kd.R_slice HO472.out; subst eo80))
            go_loopg [10, 16] kj19 (fun kq v10 v16 w' => ∃ (x10_3 : Int) (x16_3 : Int) (x459000_3 : Int) (x459001_3 : Int) (x459003_3 : ByteArray) (x461002_3 : List Int) (u461002 : Value), v10 = .int .i64 x10_3 ∧ v16 = .int .i64 x16_3 ∧ Aside0 (shuttlecockref04_Decode.l0 kq a0 x10_3 (t470.length : Int) x16_3 0 0 (⟨#[]⟩ : ByteArray) (wrap64 (bt a0 a1)) t463 x461002_3 (⟨#[]⟩ : ByteArray) = some (r1, r2, r3, r4, r5, r6)) ∧ Aside0 (kq ≤ kj19) ∧ Aside0 (Kd.R (Kd.int .i64) 3 w' w.heap.size (fun _ => True) u461002 x461002_3) ∧ Aside0 (w'.heap[gb458]? = some (.cells #[.int .i64 x459000_3, .int .i64 x459001_3, (.slice none 0 0), .string x459003_3] 41 (0, 0))) ∧ Aside0 (w'.heap[gb459]? = some (.cells #[.int .i64 0, .int .i64 0, (.slice none 0 0), .string (⟨#[]⟩ : ByteArray)] 41 (0, 0))) ∧ Aside0 (w'.heap[gb460]? = some (.cells #[.int .i64 (wrap64 (bt a0 a1)), .int .i64 t463, u461002, .string (⟨#[]⟩ : ByteArray)] 41 (0, 0))) ∧ Aside0 (Below w.heap.size w w'))
            case atStart => exact ⟨(t464), (0), (0), (0), ((⟨#[]⟩ : ByteArray)), (([] : List Int)), (.slice none 0 0), (by first | rfl | (simp; done) | (simp [*]; done)), (by first | rfl | (simp; done) | (simp [*]; done)), H', ⟨Nat.le_refl _⟩, ⟨by first | exact Kd.R_nil _ _ _ _ _ | exact Kd.N_nil _ _ _ _ _ | exact Kd.V_nil _ _ _ _ _ | exact Kd.Q_nil _ _ _ _ _ | exact Kd.S_nil _ _ _ _ _⟩, ⟨by (with_reducible repeat (first|apply bn|apply bd|apply ba)); exact BK458.out⟩, ⟨by (with_reducible repeat (first|apply bn|apply bd|apply ba)); exact BK459.out⟩, ⟨by (with_reducible repeat (first|apply bn|apply bd|apply ba)); exact BK460.out⟩, ⟨by repeat (first | (with_reducible first | exact HB.out | apply bl | apply pN | apply b1 | refine bs ?_ GE458.out | refine bs ?_ GE459.out | refine bs ?_ GE460.out) | exact HB.out | exact HBo.out)⟩⟩
            case round =>
             clear H'
             try clear c1
             try clear p1
             try clear q1
             try clear hx1
             try clear c2
             try clear p2
             try clear c3
             try clear c4
             try clear c5
             try clear c6
             try clear p6
             try clear c7
             try clear c8
             try clear c8b0
             try clear c9
             try clear c10
             try clear c13
             try clear c13b0
             try clear c13b1
             try clear c14
             try clear c17
             try clear c17b0
             try clear c18
             try clear c18b0
             try clear p19
             try clear q19
             try clear hx19
             try clear c22
             try clear c23
             try clear c26
             try clear c27
             try clear c28
             try clear c31
             try clear c32
             try clear c34
             try clear c35
             try clear c36
             try clear c38
             try clear c40
             try clear c41
             try clear c41b0
             try clear c41b1
             try clear c42
             try clear c43
             try clear c45
             try clear c45b0
             try clear c45b1
             try clear c46
             try clear c46b0
             try clear c48
             try clear c49
             try clear c52
             try clear c55
             try clear c55b0
             try clear c55b1
             try clear c56
             try clear c56b0
             try clear c56b1
             try clear c57
             try clear c57b0
             try clear c57b1
             try clear c59
             try clear c60
             try clear c64
             try clear p64
             try clear c67
             try clear c68
             try clear c71
             try clear c76
             try clear c77
             try clear hcz11_0
             try clear hcz11_1
             try clear hcz11_2
             try clear hcz11_3
             try clear hcz12_0
             try clear hcz12_1
             try clear hcz12_2
             try clear hcz12_3
             try clear hcz15_0
             try clear hcz15_1
             try clear hcz15_2
             try clear hcz15_3
             try clear hcz16_0
             try clear hcz16_1
             try clear hcz16_2
             try clear hcz16_3
             try clear hcz24_0
             try clear hcz24_1
             try clear hcz24_2
             try clear hcz24_3
             try clear hcz29_0
             try clear hcz29_1
             try clear hcz29_2
             try clear hcz29_3
             try clear hcz33_0
             try clear hcz33_1
             try clear hcz33_2
             try clear hcz33_3
             try clear hcz37_0
             try clear hcz37_1
             try clear hcz37_2
             try clear hcz37_3
             try clear hcz39_0
             try clear hcz39_1
             try clear hcz39_2
             try clear hcz39_3
             try clear hcz50_0
             try clear hcz50_1
             try clear hcz50_2
             try clear hcz50_3
             try clear hcz53_0
             try clear hcz53_1
             try clear hcz53_2
             try clear hcz53_3
             try clear hcz54_0
             try clear hcz54_1
             try clear hcz54_2
             try clear hcz54_3
             try clear hcz61_0
             try clear hcz61_1
             try clear hcz61_2
             try clear hcz61_3
             try clear hcz63_0
             try clear hcz63_1
             try clear hcz63_2
             try clear hcz63_3
             try clear hcz65_0
             try clear hcz65_1
             try clear hcz65_2
             try clear hcz65_3
             try clear hcz69_0
             try clear hcz69_1
             try clear hcz69_2
             try clear hcz69_3
             try clear hcz72_0
             try clear hcz72_1
             try clear hcz72_2
             try clear hcz72_3
             try clear hcz73_0
             try clear hcz73_1
             try clear hcz73_2
             try clear hcz73_3
             try clear hcz78_0
             try clear hcz78_1
             try clear hcz78_2
             try clear hcz78_3
             try clear hcz7_0
             try clear hcz7_1
             try clear hcz7_2
             try clear hcz7_3
             try clear hfz11_0
             try clear hfz11_1
             try clear hfz11_2
             try clear hfz11_3
             try clear hfz12_0
             try clear hfz12_1
             try clear hfz12_2
             try clear hfz12_3
             try clear hfz15_0
             try clear hfz15_1
             try clear hfz15_2
             try clear hfz15_3
             try clear hfz16_0
             try clear hfz16_1
             try clear hfz16_2
             try clear hfz16_3
             try clear hfz24_0
             try clear hfz24_1
             try clear hfz24_2
             try clear hfz24_3
             try clear hfz29_0
             try clear hfz29_1
             try clear hfz29_2
             try clear hfz29_3
             try clear hfz33_0
             try clear hfz33_1
             try clear hfz33_2
             try clear hfz33_3
             try clear hfz37_0
             try clear hfz37_1
             try clear hfz37_2
             try clear hfz37_3
             try clear hfz39_0
             try clear hfz39_1
             try clear hfz39_2
             try clear hfz39_3
             try clear hfz50_0
             try clear hfz50_1
             try clear hfz50_2
             try clear hfz50_3
             try clear hfz53_0
             try clear hfz53_1
             try clear hfz53_2
             try clear hfz53_3
             try clear hfz54_0
             try clear hfz54_1
             try clear hfz54_2
             try clear hfz54_3
             try clear hfz61_0
             try clear hfz61_1
             try clear hfz61_2
             try clear hfz61_3
             try clear hfz63_0
             try clear hfz63_1
             try clear hfz63_2
             try clear hfz63_3
             try clear hfz65_0
             try clear hfz65_1
             try clear hfz65_2
             try clear hfz65_3
             try clear hfz69_0
             try clear hfz69_1
             try clear hfz69_2
             try clear hfz69_3
             try clear hfz72_0
             try clear hfz72_1
             try clear hfz72_2
             try clear hfz72_3
             try clear hfz73_0
             try clear hfz73_1
             try clear hfz73_2
             try clear hfz73_3
             try clear hfz78_0
             try clear hfz78_1
             try clear hfz78_2
             try clear hfz78_3
             try clear hfz7_0
             try clear hfz7_1
             try clear hfz7_2
             try clear hfz7_3
             try clear p1
             try clear p19
             try clear p2
             try clear p6
             try clear q1
             try clear q19
             obtain ⟨x10_3, x16_3, x459000_3, x459001_3, x459003_3, x461002_3, u461002, rfl, rfl, HA, HK3, HO_461002, BK458, BK459, BK460, HB⟩ := hrel
             cases gk with
             | zero => exact absurd HA.out (by simp [shuttlecockref04_Decode.l0])
             | succ k3 =>
              have H := HA.out
              clear HA
              simp only [shuttlecockref04_Decode.l0] at H
              by_cases c81 : x16_3 < (t470.length : Int)
              ·
               rw [if_pos c81] at H
               have c81b0 : decide (x16_3 < (t470.length : Int)) = true := decide_eq_true c81
               clear c81
               replace H := ob H
               obtain ⟨⟨t473, t474, t475⟩, A820, H⟩ := H
               (try dsimp only at H)
               have A82 := Am A820
               clear A820
               by_cases c83 : t475 = 0
               ·
                rw [if_pos c83] at H
                have c83b0 : (t475 == 0) = true := beq_iff_eq.mpr c83
                have c83b1 : (t475 != 0) = false := bne_eq_false_iff_eq.mpr c83
                clear c83
                by_cases c84 : x461002_3.length < 17592186044416
                ·
                 rw [if_pos c84] at H
                 have LMc84 := Am c84
                 clear c84
                 obtain ⟨y476, hy476⟩ : ∃ y_ : List Int, y_ = (x461002_3 ++ [t473]) := ⟨_, rfl⟩
                 replace H : (shuttlecockref04_Decode.l0 k3 a0 t474 (t470.length : Int) (wrap64 (x16_3 + 1)) 0 0 (⟨#[]⟩ : ByteArray) (wrap64 (bt a0 a1)) t463 y476 (⟨#[]⟩ : ByteArray)) = some (r1, r2, r3, r4, r5, r6) := by first | (rw [hy476]; with_reducible exact H) | (have H2_ := (Option.bind_some _ _).symm.trans H; rw [hy476]; with_reducible exact H2_) | (have H2_ := (Option.bind_some _ _).symm.trans H; with_reducible exact H2_) | with_reducible exact H | (rw [hy476]; exact H) | exact H
                 have Ny476 := Am hy476
                 clear hy476
                 have H' := Am H
                 clear H
                 go_wp2_with (first | ((with_reducible refine gate_callee (f := 48) rfl ?_); refine Own.gL_ (some 109) Try.func48 (#[.string a0, .int .i64 x10_3]) (h := ?_); (with_reducible refine (shuttlecockref01_Take.calls k3 a0 x10_3 t473 t474 t475 _ A82.out).mono ?_); rintro e w85 ⟨rfl, hb⟩; refine ⟨_, rfl, ?_⟩; replace HO_461002 := Am (Kd.R_below (by (with_reducible repeat (first | apply Kd.R_alloc | apply Kd.R_drewN | apply Kd.R_drew)); exact HO_461002.out) hb); replace BK458 := Am (blk_below (g := gb458) (o := .cells #[.int .i64 x459000_3, .int .i64 x459001_3, .slice none 0 0, .string x459003_3] 41 (0, 0)) (by (with_reducible repeat (first|apply bn|apply bd|apply ba)); exact BK458.out) hb); replace BK459 := Am (blk_below (g := gb459) (o := .cells #[.int .i64 0, .int .i64 0, .slice none 0 0, .string (⟨#[]⟩ : ByteArray)] 41 (0, 0)) (by (with_reducible repeat (first|apply bn|apply bd|apply ba)); exact BK459.out) hb); replace BK460 := Am (blk_below (g := gb460) (o := .cells #[.int .i64 (wrap64 (bt a0 a1)), .int .i64 t463, u461002, .string (⟨#[]⟩ : ByteArray)] 41 (0, 0)) (by (with_reducible repeat (first|apply bn|apply bd|apply ba)); exact BK460.out) hb); replace HB := Am (below_step (by repeat (first | (with_reducible first | exact HB.out | apply bl | apply pN | apply b1 | refine bs ?_ GE458.out | refine bs ?_ GE459.out | refine bs ?_ GE460.out) | exact HB.out | exact HBo.out)) hb); clear hb; have hnb86 := NB460_458.out; have hnc86 := NB458_460.out; have hnb87 := NB460_459.out; have hnc87 := NB459_460.out; have hcz88_0 := Own.bc2 BK460.out 0; have hcz88_1 := Own.bc2 BK460.out 1; have hcz88_2 := Own.bc2 BK460.out 2; have hcz88_3 := Own.bc2 BK460.out 3; have hfz88_0 := bf BK460.out 0; have hfz88_1 := bf BK460.out 1; have hfz88_2 := bf BK460.out 2; have hfz88_3 := bf BK460.out 3) | ((with_reducible refine gate_builtin (b := .append) (xs := #[.tmp 118, .tmp 120]) rfl ?_); (try (refine gate_guard (by rfl) ?_; dsimp only)); at_builtin; refine Kd.R_append (Kd.int .i64) (w0 := w) w.heap.size rfl (.tmp 118) (.tmp 120) 29 3 (.int .i64 0) 8 rfl Try.underlying29 info3 rfl (by decide) (by omega) u461002 x461002_3 t473 [.int .i64 t473] (fun _ => True) (fun _ => False) rfl rfl ?aP (fun _ hk => hk.elim) ?aF ?aO ?aB ?aS ?aL ?_; (case aP => exact rfl); (case aB => exact (by repeat (first | (with_reducible first | exact HB.out | apply bl | apply pN | apply b1 | refine bs ?_ GE458.out | refine bs ?_ GE459.out | refine bs ?_ GE460.out) | exact HB.out | exact HBo.out))); (case aF => exact (fun _ _ => trivial)); (case aO => exact (by (with_reducible repeat (first | apply Kd.R_alloc | apply Kd.R_drewN | apply Kd.R_drew)); exact HO_461002.out)); (case aS => exact (below_size (by repeat (first | (with_reducible first | exact HB.out | apply bl | apply pN | apply b1 | refine bs ?_ GE458.out | refine bs ?_ GE459.out | refine bs ?_ GE460.out) | exact HB.out | exact HBo.out)))); (case aL => have := LMc84.out; omega); intro v477 w89 ho hb hg hat; rw [← Ny476.out] at ho; have n0_ := Am (blk_grown (g := gb458) (o := .cells #[.int .i64 x459000_3, .int .i64 x459001_3, .slice none 0 0, .string x459003_3] 41 (0, 0)) (by (with_reducible repeat (first|apply bn|apply bd|apply ba)); exact BK458.out) hg (Kd.R_ne HO_461002.out BK458.out (by decide))); have n1_ := Am (blk_grown (g := gb459) (o := .cells #[.int .i64 0, .int .i64 0, .slice none 0 0, .string (⟨#[]⟩ : ByteArray)] 41 (0, 0)) (by (with_reducible repeat (first|apply bn|apply bd|apply ba)); exact BK459.out) hg (Kd.R_ne HO_461002.out BK459.out (by decide))); have n2_ := Am (blk_grown (g := gb460) (o := .cells #[.int .i64 (wrap64 (bt a0 a1)), .int .i64 t463, u461002, .string (⟨#[]⟩ : ByteArray)] 41 (0, 0)) (by (with_reducible repeat (first|apply bn|apply bd|apply ba)); exact BK460.out) hg (Kd.R_ne HO_461002.out BK460.out (by decide))); have n3_ := Am (hb); have n4_ := Am (ho); clear BK458; clear BK459; clear BK460; clear HB; clear HO_461002; have BK458 := n0_; have BK459 := n1_; have BK460 := n2_; have HB := n3_; have HO478 := n4_; clear n0_ n1_ n2_ n3_ n4_; clear ho hb hg hat; obtain ⟨Ao90, co90, eo90⟩ := Kd.R_slice HO478.out; subst eo90; have hcz91_0 := Own.bc2 BK460.out 0; have hcz91_1 := Own.bc2 BK460.out 1; have hcz91_2 := Own.bc2 BK460.out 2; have hcz91_3 := Own.bc2 BK460.out 3; have hfz91_0 := bf BK460.out 0; have hfz91_1 := bf BK460.out 1; have hfz91_2 := bf BK460.out 2; have hfz91_3 := bf BK460.out 3))
                 go_roundg k3
                 case measure => have := HJ2.out; have := HJ19.out; have := HK3.out; omega
                 case rel => exact ⟨(t474), (wrap64 (x16_3 + 1)), (x459000_3), (x459001_3), (x459003_3), (y476), (.slice Ao90 y476.length co90), (by first | rfl | (simp; done) | (simp [*]; done)), (by first | rfl | (simp; done) | (simp [*]; done)), H', ⟨by have := HJ2.out; have := HJ19.out; have := HK3.out; omega⟩, ⟨by (with_reducible repeat (first | apply Kd.R_alloc | apply Kd.R_drewN | apply Kd.R_drew)); exact Kd.R_mono (Kd.R_far (p := ⟨gb460, 2, none⟩) (Kd.R_types HO478.out BK460.out (by decide)) (fun _ hk => hk.2) (.slice Ao90 y476.length co90)) (fun _ hk => trivial)⟩, ⟨by (with_reducible repeat (first|apply bn|apply bd|apply ba)); refine blk_far ?_ NB458_460.out _; (with_reducible repeat (first|apply bn|apply bd|apply ba)); exact BK458.out⟩, ⟨by (with_reducible repeat (first|apply bn|apply bd|apply ba)); refine blk_far ?_ NB459_460.out _; (with_reducible repeat (first|apply bn|apply bd|apply ba)); exact BK459.out⟩, ⟨by (with_reducible repeat (first|apply bn|apply bd|apply ba)); refine blk_put (cs := #[.int .i64 (wrap64 (bt a0 a1)), .int .i64 t463, u461002, .string (⟨#[]⟩ : ByteArray)]) ?_ 2 _ rfl; (with_reducible repeat (first|apply bn|apply bd|apply ba)); exact BK460.out⟩, ⟨by repeat (first | (with_reducible first | exact HB.out | apply bl | apply pN | apply b1 | refine bs ?_ GE458.out | refine bs ?_ GE459.out | refine bs ?_ GE460.out) | exact HB.out | exact HBo.out)⟩⟩
                ·
                 rw [if_neg c84] at H
                 exact absurd H (by simp)
               ·
                rw [if_neg c83] at H
                have c83b0 : (t475 == 0) = false := beq_eq_false_iff_ne.mpr c83
                have c83b1 : (t475 != 0) = true := bne_iff_ne.mpr c83
                simp only [Option.some.injEq, Prod.mk.injEq] at H
                obtain ⟨rfl, rfl, rfl, rfl, rfl, rfl⟩ := H
                go_wp2_with (first | ((with_reducible refine gate_callee (f := 48) rfl ?_); refine Own.gL_ (some 109) Try.func48 (#[.string a0, .int .i64 x10_3]) (h := ?_); (with_reducible refine (shuttlecockref01_Take.calls k3 a0 x10_3 t473 t474 t475 _ A82.out).mono ?_); rintro e w92 ⟨rfl, hb⟩; refine ⟨_, rfl, ?_⟩; replace HO_461002 := Am (Kd.R_below (by (with_reducible repeat (first | apply Kd.R_alloc | apply Kd.R_drewN | apply Kd.R_drew)); exact HO_461002.out) hb); replace BK458 := Am (blk_below (g := gb458) (o := .cells #[.int .i64 x459000_3, .int .i64 x459001_3, .slice none 0 0, .string x459003_3] 41 (0, 0)) (by (with_reducible repeat (first|apply bn|apply bd|apply ba)); exact BK458.out) hb); replace BK459 := Am (blk_below (g := gb459) (o := .cells #[.int .i64 0, .int .i64 0, .slice none 0 0, .string (⟨#[]⟩ : ByteArray)] 41 (0, 0)) (by (with_reducible repeat (first|apply bn|apply bd|apply ba)); exact BK459.out) hb); replace BK460 := Am (blk_below (g := gb460) (o := .cells #[.int .i64 (wrap64 (bt a0 a1)), .int .i64 t463, u461002, .string (⟨#[]⟩ : ByteArray)] 41 (0, 0)) (by (with_reducible repeat (first|apply bn|apply bd|apply ba)); exact BK460.out) hb); replace HB := Am (below_step (by repeat (first | (with_reducible first | exact HB.out | apply bl | apply pN | apply b1 | refine bs ?_ GE458.out | refine bs ?_ GE459.out | refine bs ?_ GE460.out) | exact HB.out | exact HBo.out)) hb); clear hb; have hnb93 := NB459_458.out; have hnc93 := NB458_459.out; have hnb94 := NB459_460.out; have hnc94 := NB460_459.out; have hcz95_0 := Own.bc2 BK459.out 0; have hcz95_1 := Own.bc2 BK459.out 1; have hcz95_2 := Own.bc2 BK459.out 2; have hcz95_3 := Own.bc2 BK459.out 3; have hfz95_0 := bf BK459.out 0; have hfz95_1 := bf BK459.out 1; have hfz95_2 := bf BK459.out 2; have hfz95_3 := bf BK459.out 3; have hnb96 := NB458_460.out; have hnc96 := NB460_458.out; have hcz97_0 := Own.bc2 BK458.out 0; have hcz97_1 := Own.bc2 BK458.out 1; have hcz97_2 := Own.bc2 BK458.out 2; have hcz97_3 := Own.bc2 BK458.out 3; have hfz97_0 := bf BK458.out 0; have hfz97_1 := bf BK458.out 1; have hfz97_2 := bf BK458.out 2; have hfz97_3 := bf BK458.out 3))
                refine bodyPost_ret (results_ctt rfl _ _ gb458 41 #[.int .i64 0, .int .i64 0, .slice none 0 0, .string (⟨#[]⟩ : ByteArray)] (0, 0) _ rfl (by (with_reducible repeat (first|apply bn|apply bd|apply ba)); refine blk_put (cs := #[.int .i64 0, .int .i64 0, .slice none 0 0, .string x459003_3]) ?_ 3 _ rfl; (with_reducible repeat (first|apply bn|apply bd|apply ba)); refine blk_put (cs := #[.int .i64 0, .int .i64 0, .slice none 0 0, .string x459003_3]) ?_ 2 _ rfl; (with_reducible repeat (first|apply bn|apply bd|apply ba)); refine blk_put (cs := #[.int .i64 0, .int .i64 x459001_3, .slice none 0 0, .string x459003_3]) ?_ 1 _ rfl; (with_reducible repeat (first|apply bn|apply bd|apply ba)); refine blk_put (cs := #[.int .i64 x459000_3, .int .i64 x459001_3, .slice none 0 0, .string x459003_3]) ?_ 0 _ rfl; (with_reducible repeat (first|apply bn|apply bd|apply ba)); exact BK458.out) Try.underlying41 rfl (by kernel_rfl)) rfl ?_
                exact ⟨_, by first | rfl | (simp <;> rfl) | (simp [*] <;> rfl) | (simp [Aid.ne_nil, Aid.eq_nil]; done), by first | exact Kd.R_nil _ _ _ _ _ | exact Kd.N_nil _ _ _ _ _ | exact Kd.V_nil _ _ _ _ _ | exact Kd.Q_nil _ _ _ _ _ | exact Kd.S_nil _ _ _ _ _, by repeat (first | (with_reducible first | exact HB.out | apply bl | apply pN | apply b1 | refine bs ?_ GE458.out | refine bs ?_ GE459.out | refine bs ?_ GE460.out) | exact HB.out | exact HBo.out)⟩
              ·
               rw [if_neg c81] at H
               have c81b0 : decide (x16_3 < (t470.length : Int)) = false := decide_eq_false c81
               clear c81
               simp only [Option.some.injEq, Prod.mk.injEq] at H
               obtain ⟨rfl, rfl, rfl, rfl, rfl, rfl⟩ := H
               have hnb98 := NB460_458.out
               have hnc98 := NB458_460.out
               have hnb99 := NB460_459.out
               have hnc99 := NB459_460.out
               have hcz100_0 := Own.bc2 BK460.out 0
               have hcz100_1 := Own.bc2 BK460.out 1
               have hcz100_2 := Own.bc2 BK460.out 2
               have hcz100_3 := Own.bc2 BK460.out 3
               have hfz100_0 := bf BK460.out 0
               have hfz100_1 := bf BK460.out 1
               have hfz100_2 := bf BK460.out 2
               have hfz100_3 := bf BK460.out 3
               have hnb101 := NB458_459.out
               have hnc101 := NB459_458.out
               have hcz102_0 := Own.bc2 BK458.out 0
               have hcz102_1 := Own.bc2 BK458.out 1
               have hcz102_2 := Own.bc2 BK458.out 2
               have hcz102_3 := Own.bc2 BK458.out 3
               have hfz102_0 := bf BK458.out 0
               have hfz102_1 := bf BK458.out 1
               have hfz102_2 := bf BK458.out 2
               have hfz102_3 := bf BK458.out 3
               obtain ⟨Ao103, co103, eo103⟩ := Kd.R_slice HO_461002.out
               subst eo103
               go_wp2
               refine bodyPost_ret (results_ctt rfl _ _ gb458 41 #[.int .i64 (wrap64 (bt a0 a1)), .int .i64 t463, .slice Ao103 x461002_3.length co103, .string (⟨#[]⟩ : ByteArray)] (0, 0) _ rfl (by (with_reducible repeat (first|apply bn|apply bd|apply ba)); refine blk_put (cs := #[.int .i64 (wrap64 (bt a0 a1)), .int .i64 t463, .slice Ao103 x461002_3.length co103, .string x459003_3]) ?_ 3 _ rfl; (with_reducible repeat (first|apply bn|apply bd|apply ba)); refine blk_put (cs := #[.int .i64 (wrap64 (bt a0 a1)), .int .i64 t463, .slice none 0 0, .string x459003_3]) ?_ 2 _ rfl; (with_reducible repeat (first|apply bn|apply bd|apply ba)); refine blk_put (cs := #[.int .i64 (wrap64 (bt a0 a1)), .int .i64 x459001_3, .slice none 0 0, .string x459003_3]) ?_ 1 _ rfl; (with_reducible repeat (first|apply bn|apply bd|apply ba)); refine blk_put (cs := #[.int .i64 x459000_3, .int .i64 x459001_3, .slice none 0 0, .string x459003_3]) ?_ 0 _ rfl; (with_reducible repeat (first|apply bn|apply bd|apply ba)); exact BK458.out) Try.underlying41 rfl (by kernel_rfl)) rfl ?_
               exact ⟨_, by first | rfl | (simp <;> rfl) | (simp [*] <;> rfl) | (simp [Aid.ne_nil, Aid.eq_nil]; done), by (with_reducible repeat (first | apply Kd.R_alloc | apply Kd.R_drewN | apply Kd.R_drew)); exact Kd.R_mono (Kd.R_far (p := ⟨gb458, 3, none⟩) (Kd.R_far (p := ⟨gb458, 2, none⟩) (Kd.R_far (p := ⟨gb458, 1, none⟩) (Kd.R_far (p := ⟨gb458, 0, none⟩) (Kd.R_types HO_461002.out BK458.out (by decide)) (fun _ hk => hk.2) (.int .i64 (wrap64 (bt a0 a1)))) (fun _ hk => hk.2) (.int .i64 t463)) (fun _ hk => hk.2) (.slice Ao103 x461002_3.length co103)) (fun _ hk => hk.2) (.string (⟨#[]⟩ : ByteArray))) (fun _ hk => trivial), by repeat (first | (with_reducible first | exact HB.out | apply bl | apply pN | apply b1 | refine bs ?_ GE458.out | refine bs ?_ GE459.out | refine bs ?_ GE460.out) | exact HB.out | exact HBo.out)⟩
          ·
           rw [if_neg c41] at H
           have c41b0 : (t465 == 0) = false := beq_eq_false_iff_ne.mpr c41
           have c41b1 : (t465 != 0) = true := bne_iff_ne.mpr c41
           simp only [Option.some.injEq, Prod.mk.injEq] at H
           obtain ⟨rfl, rfl, rfl, rfl, rfl, rfl⟩ := H
           go_wp2_with (first | ((with_reducible refine gate_callee (f := 48) rfl ?_); refine Own.gL_ (some 55) Try.func48 (#[.string a0, .int .i64 (wrap64 (a1 + 1))]) (h := ?_); (with_reducible refine (shuttlecockref01_Take.calls kj19 a0 (wrap64 (a1 + 1)) t463 t464 t465 _ A40.out).mono ?_); rintro e w104 ⟨rfl, hb⟩; refine ⟨_, rfl, ?_⟩; replace BK458 := Am (blk_below (g := gb458) (o := .cells #[.int .i64 0, .int .i64 0, .slice none 0 0, .string (⟨#[]⟩ : ByteArray)] 41 (0, 0)) (by (with_reducible repeat (first|apply bn|apply bd|apply ba)); exact BK458.out) hb); replace BK459 := Am (blk_below (g := gb459) (o := .cells #[.int .i64 0, .int .i64 0, .slice none 0 0, .string (⟨#[]⟩ : ByteArray)] 41 (0, 0)) (by (with_reducible repeat (first|apply bn|apply bd|apply ba)); exact BK459.out) hb); replace BK460 := Am (blk_below (g := gb460) (o := .cells #[.int .i64 (wrap64 (bt a0 a1)), .int .i64 0, .slice none 0 0, .string (⟨#[]⟩ : ByteArray)] 41 (0, 0)) (by (with_reducible repeat (first|apply bn|apply bd|apply ba)); exact BK460.out) hb); replace HB := Am (below_step (by repeat (first | (with_reducible first | exact HB.out | apply bl | apply pN | apply b1 | refine bs ?_ GE458.out | refine bs ?_ GE459.out | refine bs ?_ GE460.out) | exact HB.out | exact HBo.out)) hb); clear hb; have hnb105 := NB459_458.out; have hnc105 := NB458_459.out; have hnb106 := NB459_460.out; have hnc106 := NB460_459.out; have hcz107_0 := Own.bc2 BK459.out 0; have hcz107_1 := Own.bc2 BK459.out 1; have hcz107_2 := Own.bc2 BK459.out 2; have hcz107_3 := Own.bc2 BK459.out 3; have hfz107_0 := bf BK459.out 0; have hfz107_1 := bf BK459.out 1; have hfz107_2 := bf BK459.out 2; have hfz107_3 := bf BK459.out 3; have hnb108 := NB458_460.out; have hnc108 := NB460_458.out; have hcz109_0 := Own.bc2 BK458.out 0; have hcz109_1 := Own.bc2 BK458.out 1; have hcz109_2 := Own.bc2 BK458.out 2; have hcz109_3 := Own.bc2 BK458.out 3; have hfz109_0 := bf BK458.out 0; have hfz109_1 := bf BK458.out 1; have hfz109_2 := bf BK458.out 2; have hfz109_3 := bf BK458.out 3))
           refine bodyPost_ret (results_ctt rfl _ _ gb458 41 #[.int .i64 0, .int .i64 0, .slice none 0 0, .string (⟨#[]⟩ : ByteArray)] (0, 0) _ rfl (by (with_reducible repeat (first|apply bn|apply bd|apply ba)); refine blk_put (cs := #[.int .i64 0, .int .i64 0, .slice none 0 0, .string (⟨#[]⟩ : ByteArray)]) ?_ 3 _ rfl; (with_reducible repeat (first|apply bn|apply bd|apply ba)); refine blk_put (cs := #[.int .i64 0, .int .i64 0, .slice none 0 0, .string (⟨#[]⟩ : ByteArray)]) ?_ 2 _ rfl; (with_reducible repeat (first|apply bn|apply bd|apply ba)); refine blk_put (cs := #[.int .i64 0, .int .i64 0, .slice none 0 0, .string (⟨#[]⟩ : ByteArray)]) ?_ 1 _ rfl; (with_reducible repeat (first|apply bn|apply bd|apply ba)); refine blk_put (cs := #[.int .i64 0, .int .i64 0, .slice none 0 0, .string (⟨#[]⟩ : ByteArray)]) ?_ 0 _ rfl; (with_reducible repeat (first|apply bn|apply bd|apply ba)); exact BK458.out) Try.underlying41 rfl (by kernel_rfl)) rfl ?_
           exact ⟨_, by first | rfl | (simp <;> rfl) | (simp [*] <;> rfl) | (simp [Aid.ne_nil, Aid.eq_nil]; done), by first | exact Kd.R_nil _ _ _ _ _ | exact Kd.N_nil _ _ _ _ _ | exact Kd.V_nil _ _ _ _ _ | exact Kd.Q_nil _ _ _ _ _ | exact Kd.S_nil _ _ _ _ _, by repeat (first | (with_reducible first | exact HB.out | apply bl | apply pN | apply b1 | refine bs ?_ GE458.out | refine bs ?_ GE459.out | refine bs ?_ GE460.out) | exact HB.out | exact HBo.out)⟩
      ·
       rw [if_neg c18] at H
       exact absurd H (by simp)
     ·
      rw [if_neg c17] at H
      exact absurd H (by simp)

end Go.Proofs.Ytfcombimnmkoeaa.Q
