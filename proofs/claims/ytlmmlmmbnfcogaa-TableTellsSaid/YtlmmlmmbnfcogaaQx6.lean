-- printed by a program of this session (NOTES: hprint); not the kit's print
-- minified3
-- minified2
-- minified
-- halved
import Derived.Test.YtlmmlmmbnfcogaaOg
import Derived.Test.YtlmmlmmbnfcogaaAl
import Derived.Test.YtlmmlmmbnfcogaaQx0
import Derived.Test.YtlmmlmmbnfcogaaQx2
import Derived.Test.YtlmmlmmbnfcogaaQx4
import Derived.Test.YtlmmlmmbnfcogaaQx5
namespace Go.Proofs.Ytlmmlmmbnfcogaa.Q
open Go.RowKit Go.Proofs.YtlmmlmmbnfcogaaW.PrintWords Go.Proofs.YtlmmlmmbnfcogaaW.PrintLast Go.Proofs.YtlmmlmmbnfcogaaW.PrintMore
attribute [local go_sem] max2_int min2_int max_two min_two max_three min_three max_four min_four   -- for this text's walks alone
set_option linter.unusedVariables false
set_option linter.unusedSimpArgs false

def q6_0 : Array Bool := let o := true; let z := false; #[z,z,z,z,z,z,z,z]
def q6_1 : Array Bool := let o := true; let z := false; #[o,z,z,z,z,z,z,z]
def q6_2 : Array Bool := let o := true; let z := false; #[o,o,z,z,z,z,z,z]
def q6_3 : Array Bool := let o := true; let z := false; #[o,o,z,o,z,z,z,z]
def q6_4 : Array Bool := let o := true; let z := false; #[o,o,o,o,z,z,z,z]
def q6_5 : Array Bool := let o := true; let z := false; #[o,o,o,o,o,z,z,z]
def q6_6 : Array Bool := let o := true; let z := false; #[o,o,o,o,o,o,z,z]
def q6_7 : Array Bool := let o := true; let z := false; #[o,o,o,o,o,o,o,z]
def q6_8 : Array Bool := let o := true; let z := false; #[o,o,o,o,o,o,o,o]
/-! ### table_Decode: function 9, by hand -/
def table_Decode_table_Decode_1.T5 : Bool × List (List Nat × List Nat) := (true, [([], []), ([], []), ([1], [1]), ([], []), ([3], [3]), ([0, 0], [0]), ([2, 5, 0, 1, 2, 5], [2]), ([4, 6, 0, 1, 2, 3, 4, 5, 6], [4])])
def table_Decode_table_Decode_1.B5 : List Nat := [0, 0, 2, 0, 8, 1, 39, 127]
theorem table_Decode_table_Decode_1.tab5 : rtab .any (opsOf Try.f18 5) = table_Decode_table_Decode_1.T5 := by kernel_rfl
theorem table_Decode_table_Decode_1.bits5 : waitsOk table_Decode_table_Decode_1.T5.2 table_Decode_table_Decode_1.B5 = true := by kernel_rfl
def table_Decode.f (k : Nat) (a0 : ByteArray) : Option (List ByteArray × List (List S70) × Int × Int) :=
 (table_decoder_table.f k a0 0 0 0).bind (Sum.elim (fun t => if (t.2.2.2.1 == 0 && t.2.2.1 == (t.2.1.size : Int)) = true then ((intern_May.f k t.1.1 t.1.2).bind fun m => if m = true then some (t.1.1, t.1.2, (a0.size : Int), 0) else some ([], [], (a0.size : Int), 70)) else some ([], [], (a0.size : Int), 70)) (fun y => some ([], [], y.2, y.1)))
theorem table_Decode.mono : ∀ a0 k, LeO (table_Decode.f k a0) (table_Decode.f (k + 1) a0) := fun a0 k => LeO.bind (table_decoder_table.mono a0 0 0 0 k) (fun x => by
 cases x with
 | inl x => exact LeO.ite (LeO.bind (intern_May.mono _ _ k) (fun _ => LeO.refl _)) (LeO.refl _)
 | inr y => exact LeO.refl _)
/-- The results' variables, and what lies below, at a world of the walk. -/
structure DecAt (w w' : World) (v0 v1 : Value) (i j : Int) : Prop where
 b : Below w.heap.size w w'
 x0 : w'.heap[w.heap.size]? = some (.cells #[v0, v1] 25 (0, 0))
 x1 : w'.heap[w.heap.size + 1]? = some (.cells #[.int .i64 i] 3 (0, 0))
 x2 : w'.heap[w.heap.size + 2]? = some (.cells #[.int .i64 j] 31 (0, 0))
section
variable {w w' w1 : World} {v0 v1 u0 u1 : Value} {i j : Int}
theorem DecAt.start (w : World) : DecAt w (((w.alloc (.cells #[.slice none 0 0, .slice none 0 0] 25)).alloc (.cells #[.int .i64 0] 3)).alloc (.cells #[.int .i64 0] 31)) (.slice none 0 0) (.slice none 0 0) 0 0 :=
 ⟨bl (bl (bl (Below.refl _ _) _) _) _, ba (ba (blk_new _ _) _) _, ba (by simpa [go_sem] using blk_new (w.alloc (.cells #[.slice none 0 0, .slice none 0 0] 25)) (.cells #[.int .i64 0] 3)) _, by simpa [go_sem] using blk_new ((w.alloc (.cells #[.slice none 0 0, .slice none 0 0] 25)).alloc (.cells #[.int .i64 0] 3)) (.cells #[.int .i64 0] 31)⟩
theorem DecAt.below (h : DecAt w w' v0 v1 i j) (hb : Below w'.heap.size w' w1) : DecAt w w1 v0 v1 i j := ⟨below_step h.b hb, blk_below h.x0 hb, blk_below h.x1 hb, blk_below h.x2 hb⟩
theorem DecAt.keep {g : Nat} {s0 : ByteArray} {s1 s2 s3 : Int} (h : DecAt w w' v0 v1 i j) (hI : IsS77 w w' g s0 s1 s2 s3) (hb : Below w.heap.size w w1) (hk : KeepBut w' w1 g none) : DecAt w w1 v0 v1 i j :=
 ⟨hb, hk.blk h.x0 (blk_ne h.x0 hI.1 (by decide)) (by simp), hk.blk h.x1 (blk_ne h.x1 hI.1 (by decide)) (by simp), hk.blk h.x2 (blk_ne h.x2 hI.1 (by decide)) (by simp)⟩
theorem DecAt.put0 (h : DecAt w w' v0 v1 i j) : DecAt w ((w'.setCell ⟨w.heap.size, 0, none⟩ u0).setCell ⟨w.heap.size, 1, none⟩ u1) u0 u1 i j :=
 ⟨bs (bs h.b (Nat.le_refl _)) (Nat.le_refl _), blk_set (blk_set h.x0 0 u0) 1 u1, blk_far (blk_far h.x1 (by show w.heap.size + 1 ≠ w.heap.size; omega) _) (by show w.heap.size + 1 ≠ w.heap.size; omega) _, blk_far (blk_far h.x2 (by show w.heap.size + 2 ≠ w.heap.size; omega) _) (by show w.heap.size + 2 ≠ w.heap.size; omega) _⟩
theorem DecAt.put1 (h : DecAt w w' v0 v1 i j) (n : Int) : DecAt w (w'.setCell ⟨w.heap.size + 1, 0, none⟩ (.int .i64 n)) v0 v1 n j :=
 ⟨bs h.b (Nat.le_succ _), blk_far h.x0 (by show w.heap.size ≠ w.heap.size + 1; omega) _, blk_set h.x1 0 _, blk_far h.x2 (by show w.heap.size + 2 ≠ w.heap.size + 1; omega) _⟩
theorem DecAt.put2 (h : DecAt w w' v0 v1 i j) (n : Int) : DecAt w (w'.setCell ⟨w.heap.size + 2, 0, none⟩ (.int .i64 n)) v0 v1 i n :=
 ⟨bs h.b (by show _ ≤ _ + 2; omega), blk_far h.x0 (by show w.heap.size ≠ w.heap.size + 2; omega) _, blk_far h.x1 (by show w.heap.size + 1 ≠ w.heap.size + 2; omega) _, blk_set h.x2 0 _⟩
theorem DecAt.told (h : DecAt w w' v0 v1 i j) (tmps : Array Value) (h2 : tmps.getD 2 undef = .pointer (some ⟨w.heap.size, 0, none⟩)) (h3 : tmps.getD 3 undef = .pointer (some ⟨w.heap.size + 1, 0, none⟩)) (h4 : tmps.getD 4 undef = .pointer (some ⟨w.heap.size + 2, 0, none⟩)) : (Go.results Try.f9 tmps).run Try.prog w' = .ok (.tuple #[.agg #[v0, v1], .int .i64 i, .int .i64 j]) w' := by
 have e2 : tmps[2]?.getD undef = .pointer (some ⟨w.heap.size, 0, none⟩) := by simpa using h2
 have e3 : tmps[3]?.getD undef = .pointer (some ⟨w.heap.size + 1, 0, none⟩) := by simpa using h3
 have e4 : tmps[4]?.getD undef = .pointer (some ⟨w.heap.size + 2, 0, none⟩) := by simpa using h4
 have hc1 : w'.cell? ⟨w.heap.size + 1, 0, none⟩ = some (.int .i64 i) := (bc h.x1 0).trans rfl
 have hc2 : w'.cell? ⟨w.heap.size + 2, 0, none⟩ = some (.int .i64 j) := (bc h.x2 0).trans rfl
 have hc3 : w'.cell? ⟨w.heap.size, 0, none⟩ = some v0 := (bc h.x0 0).trans rfl
 have hc4 : w'.cell? ⟨w.heap.size, 1, none⟩ = some v1 := (bc h.x0 1).trans rfl
 simp [Go.results, Try.results9, e2, e3, e4, asAddr, run_loadVar_row w' w.heap.size 25 25 #[v0, v1] (0, 0) _ h.x0 Try.underlying25 rfl (by kernel_rfl), go_sem, hc1, hc2, hc3, hc4]
end
set_option maxHeartbeats 4000000 in
set_option maxRecDepth 100000 in
/-- The deferred closure, where the frame panics: what it panicked with becomes the results. -/
theorem dec_catch (v0 v1 : Value) (i j x y : Int) (w wd : World) (h : DecAt w wd v0 v1 i j) :
  CallsD Try.prog 18 #[.pointer (some ⟨w.heap.size, 0, none⟩), .pointer (some ⟨w.heap.size + 1, 0, none⟩), .pointer (some ⟨w.heap.size + 2, 0, none⟩)] (.panicking [{ v := wrongV x y, recovered := false }]) wd fun e u' w1 =>
   e = .returned (.tuple #[]) ∧ u' = .panicking [{ v := wrongV x y, recovered := true }] ∧ DecAt w w1 (.slice none 0 0) (.slice none 0 0) y x := by
 refine callsD_of_wpS Try.func18 rfl fun c₀ cs hu => ?_
 apply wpS_seq
 apply wpS_region
 simp [wpOpsS, go_sem, recoverD, hu, Try.ntmps18, Exit.thenS, wrongV]
 rw [show (#[Value.pointer (some ⟨w.heap.size, 0, none⟩), Value.pointer (some ⟨w.heap.size + 1, 0, none⟩), Value.pointer (some ⟨w.heap.size + 2, 0, none⟩)] ++ ((Array.replicate 19 undef).setIfInBounds 3 (Value.iface 45 (.agg #[.int .i64 x, .int .i64 y]))).setIfInBounds 0 (Value.iface 45 (.agg #[.int .i64 x, .int .i64 y])) : Array Value) = #[.pointer (some ⟨w.heap.size, 0, none⟩), .pointer (some ⟨w.heap.size + 1, 0, none⟩), .pointer (some ⟨w.heap.size + 2, 0, none⟩), .iface 45 (.agg #[.int .i64 x, .int .i64 y]), undef, undef, .iface 45 (.agg #[.int .i64 x, .int .i64 y]), undef, undef, undef, undef, undef, undef, undef, undef, undef, undef, undef, undef, undef, undef, undef] from by kernel_rfl]
 have hta : ∀ (v : Value) (w : World), (Instr.typeAssert (.iface 45 v) 20 45 true).run Try.prog w = .ok (.tuple #[v, .bool true]) w := fun v w => by kernel_rfl
 have HD : Aside0 (DecAt w (wd.alloc (.cells #[.int .i64 x, .int .i64 y] 45)) v0 v1 i j) := ⟨h.below (bl (Below.refl _ _) _)⟩
 have HX : Aside0 ((wd.alloc (.cells #[.int .i64 x, .int .i64 y] 45)).heap[wd.heap.size]? = some (.cells #[.int .i64 x, .int .i64 y] 45 (0, 0))) := ⟨blk_new _ _⟩
 have HN : Aside0 (w.heap.size + 2 < wd.heap.size) := ⟨blk_lt h.x2⟩
 clear h
 refine wpS_of_wp ?_
 go_wp2
 clear hta
 generalize wd.alloc (.cells #[.int .i64 x, .int .i64 y] 45) = W at HD HX ⊢
 generalize wd.heap.size = nb at HX HN ⊢
 have HD1 := Am (HD.out.below (below_drew (Below.refl _ _)))
 have HX1 := Am (bd HX.out)
 refine start_ (n := 8) (S := fun w' => w'.cell? ⟨nb, 0, none⟩ = some (.int .i64 x) ∧ w'.cell? ⟨nb, 1, none⟩ = some (.int .i64 y)) (ds := []) q6_0 (by kernel_rfl) rfl rfl ⟨(bc HX1.out 0).trans rfl, (bc HX1.out 1).trans rfl⟩ (fun hHeld => ?_)
 refine with_tabW table_Decode_table_Decode_1.tab5 table_Decode_table_Decode_1.bits5 (fun HT_ HW_ => ?_)
 generalize W.drew = W1 at HD1 HX1 hHeld ⊢
 have c0 : W1.cell? ⟨w.heap.size, 0, none⟩ = some v0 := (bc HD1.out.x0 0).trans rfl
 have c1 : W1.cell? ⟨w.heap.size, 1, none⟩ = some v1 := (bc HD1.out.x0 1).trans rfl
 have f0 := bf HD1.out.x0 0
 have f1 := bf HD1.out.x0 1
 have c2 : W1.cell? ⟨w.heap.size + 1, 0, none⟩ = some (.int .i64 i) := (bc HD1.out.x1 0).trans rfl
 have c3 : W1.cell? ⟨w.heap.size + 2, 0, none⟩ = some (.int .i64 j) := (bc HD1.out.x2 0).trans rfl
 have f2 := bf HD1.out.x1 0
 have f3 := bf HD1.out.x2 0
 refine Own.pr_ 0 (some 17) q6_1 HT_ (h := ?_)
 refine Own.pr_ 1 (some 18) q6_2 HT_ (h := ?_)
 refine Own.pr_ 3 (some 20) q6_3 HT_ (h := ?_)
 refine Own.tk_ 2 (some 19) q6_4 HT_ HW_ hHeld (hy := by rintro w' ⟨s0, s1⟩; go_simp; with_reducible rfl) (h := ?_)
 refine Own.tk_ 4 (some 21) q6_5 HT_ HW_ hHeld (hy := by rintro w' ⟨s0, s1⟩; go_simp; with_reducible rfl) (h := ?_)
 refine one_ (i := 5) (N := none) q6_6 rfl rfl (one_of HT_.out (by kernel_rfl)) (by decide) (fun K hK => ?_)
 refine skip_ (w1 := ?_) (by rfl) rfl ?_ ?_
 rotate_left
 ·
  go_simp
  rfl
 have HD2 := Am (DecAt.put0 (u0 := .slice none 0 0) (u1 := .slice none 0 0) HD1.out)
 have HX2 := Am (blk_far (p := ⟨w.heap.size, 1, none⟩) (blk_far (p := ⟨w.heap.size, 0, none⟩) HX1.out (by have := HN.out; show nb ≠ w.heap.size; omega) (.slice none 0 0)) (by have := HN.out; show nb ≠ w.heap.size; omega) (.slice none 0 0))
 refine hK.out _ _ ⟨(bc HX2.out 0).trans rfl, (bc HX2.out 1).trans rfl⟩ (fun hHeld => ?_)
 clear hK K
 refine one_ (i := 6) (N := none) q6_7 rfl rfl (one_of HT_.out (by kernel_rfl)) (by decide) (fun K hK => ?_)
 refine skip_ (w1 := ?_) (by rfl) rfl ?_ ?_
 rotate_left
 ·
  go_simp
  rfl
 have HX3 := Am (blk_far (p := ⟨w.heap.size + 1, 0, none⟩) HX2.out (by have := HN.out; show nb ≠ w.heap.size + 1; omega) (.int .i64 y))
 refine hK.out _ _ ⟨(bc HX3.out 0).trans rfl, (bc HX3.out 1).trans rfl⟩ (fun hHeld => ?_)
 clear hK K
 refine one_ (i := 7) (N := none) q6_8 rfl rfl (one_of HT_.out (by kernel_rfl)) (by decide) (fun K hK => ?_)
 refine skip_ (w1 := ?_) (by rfl) rfl ?_ ?_
 rotate_left
 ·
  go_simp
  rfl
 have HX4 := Am (blk_far (p := ⟨w.heap.size + 2, 0, none⟩) HX3.out (by have := HN.out; show nb ≠ w.heap.size + 2; omega) (.int .i64 x))
 refine hK.out _ _ ⟨(bc HX4.out 0).trans rfl, (bc HX4.out 1).trans rfl⟩ (fun hHeld => ?_)
 clear hK K
 refine done_ (done_of HT_.out (by kernel_rfl)) ?_
 exact ⟨rfl, _, rfl, _, results_none rfl _ _ _, rfl, rfl, (HD2.out.put1 y).put2 x⟩
set_option maxHeartbeats 2000000 in
set_option maxRecDepth 100000 in
/-- .. where it returns: nothing. -/
theorem dec_idle (p q r : Addr) (w : World) :
  CallsD Try.prog 18 #[.pointer (some p), .pointer (some q), .pointer (some r)] .returning w fun e u' w' => e = .returned (.tuple #[]) ∧ u' = .returning ∧ w' = w := by
 refine callsD_of_wpS Try.func18 rfl fun c₀ cs hu => ?_
 apply wpS_seq
 apply wpS_region
 simp [wpOpsS, go_sem, recoverD, hu, Try.ntmps18, Exit.thenS]
 rw [show (#[Value.pointer (some p), Value.pointer (some q), Value.pointer (some r)] ++ ((Array.replicate 19 undef).setIfInBounds 3 .nilIface).setIfInBounds 0 .nilIface : Array Value) = #[.pointer (some p), .pointer (some q), .pointer (some r), .nilIface, undef, undef, .nilIface, undef, undef, undef, undef, undef, undef, undef, undef, undef, undef, undef, undef, undef, undef, undef] from by kernel_rfl]
 refine wpS_of_wp ?_
 go_wp2
 cases c₀
 simp_all [bodyPostS, Go.results, Try.results18]
/-- The results' variables, the reader, the decoder's variable and the rows. -/
structure DecR (w w' : World) (g gd : Nat) (s0 : ByteArray) (s1 s2 s3 : Int) (v0 v1 : Value) (q1 : List ByteArray) (q2 : List (List S70)) (a b : Value) (i j : Int) : Prop where
 d : DecAt w w' a b i j
 i : IsS77 w w' g s0 s1 s2 s3
 x : w'.heap[gd]? = some (.cells #[.pointer (some ⟨g, 0, none⟩)] 50 (0, 0))
 r : Kd.R Kd.string 9 w' w.heap.size (fun _ => True) v0 q1
 s : Kd.S (Kd.slice 70 k70) 42 w' w.heap.size (fun _ => True) v1 q2
section
variable {w w' w1 : World} {g gd : Nat} {s0 t0 : ByteArray} {s1 s2 s3 t1 t2 t3 : Int} {v0 v1 a b u0 u1 : Value} {q1 : List ByteArray} {q2 : List (List S70)} {i j : Int}
theorem DecR.put0 (h : DecR w w' g gd s0 s1 s2 s3 v0 v1 q1 q2 a b i j) : DecR w ((w'.setCell ⟨w.heap.size, 0, none⟩ u0).setCell ⟨w.heap.size, 1, none⟩ u1) g gd s0 s1 s2 s3 v0 v1 q1 q2 u0 u1 i j :=
 ⟨h.d.put0, ⟨blk_far (blk_far h.i.1 (blk_ne h.i.1 h.d.x0 (by decide)) u0) (blk_ne h.i.1 h.d.x0 (by decide)) u1, h.i.2⟩, blk_far (blk_far h.x (blk_ne h.x h.d.x0 (by decide)) u0) (blk_ne h.x h.d.x0 (by decide)) u1, Kd.R_set (Kd.R_set h.r h.d.x0 (by decide) 0 u0) (blk_set h.d.x0 0 u0) (by decide) 1 u1, Kd.S_set (Kd.S_set h.s h.d.x0 (by decide) 0 u0) (blk_set h.d.x0 0 u0) (by decide) 1 u1⟩
theorem DecR.put1 (h : DecR w w' g gd s0 s1 s2 s3 v0 v1 q1 q2 a b i j) (n : Int) : DecR w (w'.setCell ⟨w.heap.size + 1, 0, none⟩ (.int .i64 n)) g gd s0 s1 s2 s3 v0 v1 q1 q2 a b n j :=
 ⟨h.d.put1 n, ⟨blk_far h.i.1 (blk_ne h.i.1 h.d.x1 (by decide)) _, h.i.2⟩, blk_far h.x (blk_ne h.x h.d.x1 (by decide)) _, Kd.R_set h.r h.d.x1 (by decide) 0 _, Kd.S_set h.s h.d.x1 (by decide) 0 _⟩
theorem DecR.put2 (h : DecR w w' g gd s0 s1 s2 s3 v0 v1 q1 q2 a b i j) (n : Int) : DecR w (w'.setCell ⟨w.heap.size + 2, 0, none⟩ (.int .i64 n)) g gd s0 s1 s2 s3 v0 v1 q1 q2 a b i n :=
 ⟨h.d.put2 n, ⟨blk_far h.i.1 (blk_ne h.i.1 h.d.x2 (by decide)) _, h.i.2⟩, blk_far h.x (blk_ne h.x h.d.x2 (by decide)) _, Kd.R_set h.r h.d.x2 (by decide) 0 _, Kd.S_set h.s h.d.x2 (by decide) 0 _⟩
theorem DecR.keep (h : DecR w w' g gd s0 s1 s2 s3 v0 v1 q1 q2 a b i j) (hi : IsS77 w w1 g t0 t1 t2 t3) (hb : Below w.heap.size w w1) (hk : KeepBut w' w1 g none) : DecR w w1 g gd t0 t1 t2 t3 v0 v1 q1 q2 a b i j :=
 ⟨h.d.keep h.i hb hk, hi, hk.blk h.x (blk_ne h.x h.i.1 (by decide)) (by simp), Kd.R_mono (Kd.R_keep (IsS77.apart h.i h.r (by decide)) hk (fun _ h => h.2)) (fun _ h => h.1), Kd.S_mono (Kd.S_keep (IsS77.apartS h.i h.s (by decide)) hk (fun _ h => h.2)) (fun _ h => h.1)⟩
theorem DecR.below (h : DecR w w' g gd s0 s1 s2 s3 v0 v1 q1 q2 a b i j) (hb : Below w'.heap.size w' w1) : DecR w w1 g gd s0 s1 s2 s3 v0 v1 q1 q2 a b i j :=
 ⟨h.d.below hb, IsS77.below h.i hb, blk_below h.x hb, Kd.R_below h.r hb, Kd.S_below h.s hb⟩
theorem dec_door {tmps : Array Value} {R : Ending → World → Prop} {x y : Int} (h2 : tmps.getD 2 undef = .pointer (some ⟨w.heap.size, 0, none⟩)) (h3 : tmps.getD 3 undef = .pointer (some ⟨w.heap.size + 1, 0, none⟩)) (h4 : tmps.getD 4 undef = .pointer (some ⟨w.heap.size + 2, 0, none⟩))
  (h : DecAt w w' a b i j) (hR : ∀ w1, DecAt w w1 (.slice none 0 0) (.slice none 0 0) y x → R (.returned (.tuple #[.agg #[.slice none 0 0, .slice none 0 0], .int .i64 y, .int .i64 x])) w1) :
  bodyPostD Try.prog Try.f9 R (.panic [{ v := wrongV x y, recovered := false }]) { tmps := tmps, defers := [{ target := .fn (.func 18) #[.pointer (some ⟨w.heap.size, 0, none⟩), .pointer (some ⟨w.heap.size + 1, 0, none⟩), .pointer (some ⟨w.heap.size + 2, 0, none⟩)], args := #[] }] } w' := by
 refine leaves_cons (f := 18) (args := #[.pointer (some ⟨w.heap.size, 0, none⟩), .pointer (some ⟨w.heap.size + 1, 0, none⟩), .pointer (some ⟨w.heap.size + 2, 0, none⟩)]) (by simp) (by simp [go_sem]) ?_
 refine (dec_catch a b i j x y w w' h).mono ?_
 rintro e u' w3 ⟨rfl, rfl, HE⟩
 exact ⟨_, HE.told tmps h2 h3 h4, hR w3 HE⟩
theorem dec_out {tmps : Array Value} {R : Ending → World → Prop} (h2 : tmps.getD 2 undef = .pointer (some ⟨w.heap.size, 0, none⟩)) (h3 : tmps.getD 3 undef = .pointer (some ⟨w.heap.size + 1, 0, none⟩)) (h4 : tmps.getD 4 undef = .pointer (some ⟨w.heap.size + 2, 0, none⟩))
  (h : DecAt w w' a b i j) (hR : R (.returned (.tuple #[.agg #[a, b], .int .i64 i, .int .i64 j])) w') :
  bodyPostD Try.prog Try.f9 R .ret { tmps := tmps, defers := [{ target := .fn (.func 18) #[.pointer (some ⟨w.heap.size, 0, none⟩), .pointer (some ⟨w.heap.size + 1, 0, none⟩), .pointer (some ⟨w.heap.size + 2, 0, none⟩)], args := #[] }] } w' := by
 refine leaves_cons (f := 18) (args := #[.pointer (some ⟨w.heap.size, 0, none⟩), .pointer (some ⟨w.heap.size + 1, 0, none⟩), .pointer (some ⟨w.heap.size + 2, 0, none⟩)]) (by simp) (by simp [go_sem]) ?_
 refine (dec_idle _ _ _ w').mono ?_
 rintro e u' w3 ⟨rfl, rfl, rfl⟩
 exact ⟨_, h.told tmps h2 h3 h4, hR⟩
end
set_option maxHeartbeats 4000000 in
set_option maxRecDepth 100000 in
theorem table_Decode.calls (k : Nat) (a0 : ByteArray) (r1 : List ByteArray) (r2 : List (List S70)) (r3 r4 : Int) (w : World) (h : table_Decode.f k a0 = some (r1, r2, r3, r4)) :
  Calls Try.prog 9 #[.string a0] w fun e w' => ∃ v0_ v1_ : Value, e = .returned (.tuple #[.agg #[v0_, v1_], .int .i64 r3, .int .i64 r4]) ∧ Kd.R Kd.string 9 w' w.heap.size (fun _ => True) v0_ r1 ∧ Kd.S (Kd.slice 70 k70) 42 w' w.heap.size (fun _ => True) v1_ r2 ∧ Below w.heap.size w w' := by
 have hmf : ∀ (fn : Fn) (first cap : Array Value) (w : World), (Instr.makeFunc fn first cap).run Try.prog w = .ok (.func fn first cap) w := fun _ _ _ _ => rfl
 have HD := Am (DecAt.start w)
 have HB := Am HD.out.b
 obtain ⟨⟨⟨q1, q2⟩, t1, t2, t3, t4⟩ | ⟨x, y⟩, h1, h2⟩ := ob h
 ·
  have A := Am h1
  simp only [Sum.elim_inl] at h2
  clear h h1
  by_cases cd : (t3 == 0 && t2 == (t1.size : Int)) = true
  ·
   rw [if_pos cd] at h2
   obtain ⟨m, h3, h2⟩ := ob h2
   have A3 := Am h3
   clear h3
   cases m
   ·
    simp only [Bool.false_eq_true, if_false, Option.some.injEq, Prod.mk.injEq] at h2
    obtain ⟨rfl, rfl, rfl, rfl⟩ := h2
    go_enter_defers Try.func9, Try.ntmps9
    go_wp2_with (first | (go_at_call 19; (with_reducible refine (wire_New.calls a0 a0 0 0 0 w _ HB.out rfl).mono ?_); rintro e w1 ⟨g, rfl, hI, hB, hb⟩; have HD1 := Am ((HD.out.below hb).below (bl (Below.refl _ _) (.cells #[.pointer (some ⟨g, 0, none⟩)] 50))); have HX1 := Am (blk_new w1 (.cells #[.pointer (some ⟨g, 0, none⟩)] 50)); have HI1 := Am (IsS77.alloc hI (.cells #[.pointer (some ⟨g, 0, none⟩)] 50)); have HB1 := Am (bl hB (.cells #[.pointer (some ⟨g, 0, none⟩)] 50)); clear hI hB hb) | (go_at_call 20; (with_reducible refine (table_decoder_table.calls' k g a0 0 0 0 _ w _ HI1.out HB1.out A.out).mono ?_); rintro e w2 ⟨v0, v1, rfl, hr, hs, hi, hb, hk⟩; have HR2 : Aside0 (DecR w w2 g w1.heap.size t1 t2 t3 t4 v0 v1 q1 q2 (.slice none 0 0) (.slice none 0 0) 0 0) := ⟨⟨HD1.out.keep HI1.out hb hk, hi, hk.blk HX1.out (blk_ne HX1.out HI1.out.1 (by decide)) (by simp), Kd.R_lower hr HD1.out.b.size, Kd.S_lower hs HD1.out.b.size⟩⟩; clear hr hs hi hb hk; have c0 : w2.cell? ⟨w.heap.size, 0, none⟩ = some (.slice none 0 0) := (bc HR2.out.d.x0 0).trans rfl; have c1 : w2.cell? ⟨w.heap.size, 1, none⟩ = some (.slice none 0 0) := (bc HR2.out.d.x0 1).trans rfl; have f0 := bf HR2.out.d.x0 0; have f1 := bf HR2.out.d.x0 1; obtain ⟨A0, p0, e0⟩ := Kd.R_slice HR2.out.r; obtain ⟨A1, p1, e1⟩ := Kd.S_slice HR2.out.s; subst e0 e1) | ((with_reducible refine gate_store (t := 25) (p := 2) rfl ?_); refine store_event (t := 25) (p := 2) (v := .tmp 11) (w1 := ((w2.setCell ⟨w.heap.size, 0, none⟩ (.slice A0 q1.length p0)).setCell ⟨w.heap.size, 1, none⟩ (.slice A1 q2.length p1))) ?hg ?ho ?hn ?hr ?_; (case ho => rfl); (case hg => rfl); (case hn => rfl); (case hr => first | (go_simp; done) | (go_simp; rfl)); intro w3 hw; have HR3 : Aside0 (DecR w w3 g w1.heap.size t1 t2 t3 t4 (.slice A0 q1.length p0) (.slice A1 q2.length p1) q1 q2 (.slice A0 q1.length p0) (.slice A1 q2.length p1) 0 0) := ⟨by rw [hw]; exact HR2.out.put0⟩; clear hw c0 c1 f0 f1; have cb : w3.cell? ⟨w1.heap.size, 0, none⟩ = some (.pointer (some ⟨g, 0, none⟩)) := (bc HR3.out.x 0).trans rfl; have HI3 := Am HR3.out.i; have HB3 := Am HR3.out.d.b) | (go_at_call 21; (with_reducible refine (wire_Reader_Done.calls g t1 t2 t3 t4 _ t1 t2 t3 t4 w _ HI3.out HB3.out (by first | rfl | (unfold wire_Reader_Done.f; rw [cd]))).mono ?_); rintro e w4 ⟨rfl, hi, hb, hk⟩; have HR4 := Am (HR3.out.keep hi hb hk); clear hi hb hk cb; have d0 : w4.cell? ⟨w.heap.size, 0, none⟩ = some (.slice A0 q1.length p0) := (bc HR4.out.d.x0 0).trans rfl; have d1 : w4.cell? ⟨w.heap.size, 1, none⟩ = some (.slice A1 q2.length p1) := (bc HR4.out.d.x0 1).trans rfl) | (go_at_call 22; (with_reducible refine (intern_May.calls k A0 p0 q1 A1 p1 q2 false _ (Kd.R_reads' HR4.out.r).2.2 (Kd.R_reads' HR4.out.r).2.1 (Kd.S_reads' HR4.out.s).2.2 (Kd.S_reads' HR4.out.s).2.1 A3.out).mono ?_); rintro e w5 ⟨rfl, hb⟩; have HR5 := Am (HR4.out.below hb); clear hb d0 d1))
    exact dec_door rfl rfl rfl HR5.out.d (fun w6 HE => ⟨_, _, rfl, Kd.R_nil _ _ _ _ _, Kd.S_nil _ _ _ _ _, HE.b⟩)
   ·
    simp only [if_true, Option.some.injEq, Prod.mk.injEq] at h2
    obtain ⟨rfl, rfl, rfl, rfl⟩ := h2
    go_enter_defers Try.func9, Try.ntmps9
    go_wp2_with (first | (go_at_call 19; (with_reducible refine (wire_New.calls a0 a0 0 0 0 w _ HB.out rfl).mono ?_); rintro e w1 ⟨g, rfl, hI, hB, hb⟩; have HD1 := Am ((HD.out.below hb).below (bl (Below.refl _ _) (.cells #[.pointer (some ⟨g, 0, none⟩)] 50))); have HX1 := Am (blk_new w1 (.cells #[.pointer (some ⟨g, 0, none⟩)] 50)); have HI1 := Am (IsS77.alloc hI (.cells #[.pointer (some ⟨g, 0, none⟩)] 50)); have HB1 := Am (bl hB (.cells #[.pointer (some ⟨g, 0, none⟩)] 50)); clear hI hB hb) | (go_at_call 20; (with_reducible refine (table_decoder_table.calls' k g a0 0 0 0 _ w _ HI1.out HB1.out A.out).mono ?_); rintro e w2 ⟨v0, v1, rfl, hr, hs, hi, hb, hk⟩; have HR2 : Aside0 (DecR w w2 g w1.heap.size t1 t2 t3 t4 v0 v1 q1 q2 (.slice none 0 0) (.slice none 0 0) 0 0) := ⟨⟨HD1.out.keep HI1.out hb hk, hi, hk.blk HX1.out (blk_ne HX1.out HI1.out.1 (by decide)) (by simp), Kd.R_lower hr HD1.out.b.size, Kd.S_lower hs HD1.out.b.size⟩⟩; clear hr hs hi hb hk; have c0 : w2.cell? ⟨w.heap.size, 0, none⟩ = some (.slice none 0 0) := (bc HR2.out.d.x0 0).trans rfl; have c1 : w2.cell? ⟨w.heap.size, 1, none⟩ = some (.slice none 0 0) := (bc HR2.out.d.x0 1).trans rfl; have f0 := bf HR2.out.d.x0 0; have f1 := bf HR2.out.d.x0 1; obtain ⟨A0, p0, e0⟩ := Kd.R_slice HR2.out.r; obtain ⟨A1, p1, e1⟩ := Kd.S_slice HR2.out.s; subst e0 e1) | ((with_reducible refine gate_store (t := 25) (p := 2) rfl ?_); refine store_event (t := 25) (p := 2) (v := .tmp 11) (w1 := ((w2.setCell ⟨w.heap.size, 0, none⟩ (.slice A0 q1.length p0)).setCell ⟨w.heap.size, 1, none⟩ (.slice A1 q2.length p1))) ?hg ?ho ?hn ?hr ?_; (case ho => rfl); (case hg => rfl); (case hn => rfl); (case hr => first | (go_simp; done) | (go_simp; rfl)); intro w3 hw; have HR3 : Aside0 (DecR w w3 g w1.heap.size t1 t2 t3 t4 (.slice A0 q1.length p0) (.slice A1 q2.length p1) q1 q2 (.slice A0 q1.length p0) (.slice A1 q2.length p1) 0 0) := ⟨by rw [hw]; exact HR2.out.put0⟩; clear hw c0 c1 f0 f1; have cb : w3.cell? ⟨w1.heap.size, 0, none⟩ = some (.pointer (some ⟨g, 0, none⟩)) := (bc HR3.out.x 0).trans rfl; have HI3 := Am HR3.out.i; have HB3 := Am HR3.out.d.b) | (go_at_call 21; (with_reducible refine (wire_Reader_Done.calls g t1 t2 t3 t4 _ t1 t2 t3 t4 w _ HI3.out HB3.out (by first | rfl | (unfold wire_Reader_Done.f; rw [cd]))).mono ?_); rintro e w4 ⟨rfl, hi, hb, hk⟩; have HR4 := Am (HR3.out.keep hi hb hk); clear hi hb hk cb; have d0 : w4.cell? ⟨w.heap.size, 0, none⟩ = some (.slice A0 q1.length p0) := (bc HR4.out.d.x0 0).trans rfl; have d1 : w4.cell? ⟨w.heap.size, 1, none⟩ = some (.slice A1 q2.length p1) := (bc HR4.out.d.x0 1).trans rfl) | (go_at_call 22; (with_reducible refine (intern_May.calls k A0 p0 q1 A1 p1 q2 true _ (Kd.R_reads' HR4.out.r).2.2 (Kd.R_reads' HR4.out.r).2.1 (Kd.S_reads' HR4.out.s).2.2 (Kd.S_reads' HR4.out.s).2.1 A3.out).mono ?_); rintro e w5 ⟨rfl, hb⟩; have HR5 := Am (HR4.out.below hb); clear hb d0 d1; have c0 : w5.cell? ⟨w.heap.size, 0, none⟩ = some (.slice A0 q1.length p0) := (bc HR5.out.d.x0 0).trans rfl; have c1 : w5.cell? ⟨w.heap.size, 1, none⟩ = some (.slice A1 q2.length p1) := (bc HR5.out.d.x0 1).trans rfl; have c2 : w5.cell? ⟨w.heap.size + 1, 0, none⟩ = some (.int .i64 0) := (bc HR5.out.d.x1 0).trans rfl; have c3 : w5.cell? ⟨w.heap.size + 2, 0, none⟩ = some (.int .i64 0) := (bc HR5.out.d.x2 0).trans rfl; have f0 := bf HR5.out.d.x0 0; have f1 := bf HR5.out.d.x0 1; have f2 := bf HR5.out.d.x1 0; have f3 := bf HR5.out.d.x2 0))
    exact dec_out rfl rfl rfl (((HR5.out.put0 (u0 := .slice A0 q1.length p0) (u1 := .slice A1 q2.length p1)).put1 (a0.size : Int)).put2 0).d ⟨_, _, rfl, (((HR5.out.put0 (u0 := .slice A0 q1.length p0) (u1 := .slice A1 q2.length p1)).put1 (a0.size : Int)).put2 0).r, (((HR5.out.put0 (u0 := .slice A0 q1.length p0) (u1 := .slice A1 q2.length p1)).put1 (a0.size : Int)).put2 0).s, (((HR5.out.put0 (u0 := .slice A0 q1.length p0) (u1 := .slice A1 q2.length p1)).put1 (a0.size : Int)).put2 0).d.b⟩
  ·
   rw [if_neg cd] at h2
   have cd0 : (t3 == 0 && t2 == (t1.size : Int)) = false := by simpa using cd
   clear cd
   simp only [Option.some.injEq, Prod.mk.injEq] at h2
   obtain ⟨rfl, rfl, rfl, rfl⟩ := h2
   go_enter_defers Try.func9, Try.ntmps9
   go_wp2_with (first | (go_at_call 19; (with_reducible refine (wire_New.calls a0 a0 0 0 0 w _ HB.out rfl).mono ?_); rintro e w1 ⟨g, rfl, hI, hB, hb⟩; have HD1 := Am ((HD.out.below hb).below (bl (Below.refl _ _) (.cells #[.pointer (some ⟨g, 0, none⟩)] 50))); have HX1 := Am (blk_new w1 (.cells #[.pointer (some ⟨g, 0, none⟩)] 50)); have HI1 := Am (IsS77.alloc hI (.cells #[.pointer (some ⟨g, 0, none⟩)] 50)); have HB1 := Am (bl hB (.cells #[.pointer (some ⟨g, 0, none⟩)] 50)); clear hI hB hb) | (go_at_call 20; (with_reducible refine (table_decoder_table.calls' k g a0 0 0 0 _ w _ HI1.out HB1.out A.out).mono ?_); rintro e w2 ⟨v0, v1, rfl, hr, hs, hi, hb, hk⟩; have HR2 : Aside0 (DecR w w2 g w1.heap.size t1 t2 t3 t4 v0 v1 q1 q2 (.slice none 0 0) (.slice none 0 0) 0 0) := ⟨⟨HD1.out.keep HI1.out hb hk, hi, hk.blk HX1.out (blk_ne HX1.out HI1.out.1 (by decide)) (by simp), Kd.R_lower hr HD1.out.b.size, Kd.S_lower hs HD1.out.b.size⟩⟩; clear hr hs hi hb hk; have c0 : w2.cell? ⟨w.heap.size, 0, none⟩ = some (.slice none 0 0) := (bc HR2.out.d.x0 0).trans rfl; have c1 : w2.cell? ⟨w.heap.size, 1, none⟩ = some (.slice none 0 0) := (bc HR2.out.d.x0 1).trans rfl; have f0 := bf HR2.out.d.x0 0; have f1 := bf HR2.out.d.x0 1; obtain ⟨A0, p0, e0⟩ := Kd.R_slice HR2.out.r; obtain ⟨A1, p1, e1⟩ := Kd.S_slice HR2.out.s; subst e0 e1) | ((with_reducible refine gate_store (t := 25) (p := 2) rfl ?_); refine store_event (t := 25) (p := 2) (v := .tmp 11) (w1 := ((w2.setCell ⟨w.heap.size, 0, none⟩ (.slice A0 q1.length p0)).setCell ⟨w.heap.size, 1, none⟩ (.slice A1 q2.length p1))) ?hg ?ho ?hn ?hr ?_; (case ho => rfl); (case hg => rfl); (case hn => rfl); (case hr => first | (go_simp; done) | (go_simp; rfl)); intro w3 hw; have HR3 : Aside0 (DecR w w3 g w1.heap.size t1 t2 t3 t4 (.slice A0 q1.length p0) (.slice A1 q2.length p1) q1 q2 (.slice A0 q1.length p0) (.slice A1 q2.length p1) 0 0) := ⟨by rw [hw]; exact HR2.out.put0⟩; clear hw c0 c1 f0 f1; have cb : w3.cell? ⟨w1.heap.size, 0, none⟩ = some (.pointer (some ⟨g, 0, none⟩)) := (bc HR3.out.x 0).trans rfl; have HI3 := Am HR3.out.i; have HB3 := Am HR3.out.d.b) | (go_at_call 21; (with_reducible refine (wire_Reader_Done.calls g t1 t2 t3 t4 _ t1 t2 t3 t4 w _ HI3.out HB3.out (by first | rfl | (unfold wire_Reader_Done.f; rw [cd0]))).mono ?_); rintro e w4 ⟨rfl, hi, hb, hk⟩; have HR4 := Am (HR3.out.keep hi hb hk); clear hi hb hk cb; have d0 : w4.cell? ⟨w.heap.size, 0, none⟩ = some (.slice A0 q1.length p0) := (bc HR4.out.d.x0 0).trans rfl; have d1 : w4.cell? ⟨w.heap.size, 1, none⟩ = some (.slice A1 q2.length p1) := (bc HR4.out.d.x0 1).trans rfl))
   exact dec_door rfl rfl rfl HR4.out.d (fun w5 HE => ⟨_, _, rfl, Kd.R_nil _ _ _ _ _, Kd.S_nil _ _ _ _ _, HE.b⟩)
 ·
  simp only [Sum.elim_inr, Option.some.injEq, Prod.mk.injEq] at h2
  obtain ⟨rfl, rfl, rfl, rfl⟩ := h2
  have A := Am h1
  clear h h1
  go_enter_defers Try.func9, Try.ntmps9
  go_wp2_with (first | (go_at_call 19; (with_reducible refine (wire_New.calls a0 a0 0 0 0 w _ HB.out rfl).mono ?_); rintro e w1 ⟨g, rfl, hI, hB, hb⟩; have HD1 := Am ((HD.out.below hb).below (bl (Below.refl _ _) (.cells #[.pointer (some ⟨g, 0, none⟩)] 50))); have HI1 := Am (IsS77.alloc hI (.cells #[.pointer (some ⟨g, 0, none⟩)] 50)); have HB1 := Am (bl hB (.cells #[.pointer (some ⟨g, 0, none⟩)] 50)); clear hI hB hb) | (go_at_call 20; (with_reducible refine (table_decoder_table.calls' k g a0 0 0 0 _ w _ HI1.out HB1.out A.out).mono ?_); rintro e w2 ⟨rfl, hb, hk⟩))
  exact dec_door rfl rfl rfl (HD1.out.keep HI1.out hb hk) (fun w3 HE => ⟨_, _, rfl, Kd.R_nil _ _ _ _ _, Kd.S_nil _ _ _ _ _, HE.b⟩)

/-! ### table_each: function 27 -/
def table_each.l0 : Nat → List Int → Int → List Bool → List Int → Int → Int → Option (Bool)
 | 0, _, _, _, _, _, _ => none
 | k + 1, x0, x1, x5, x10, x11, x12 => if x12 < x11 then (if 0 ≤ x12 then (if x12 < (x10.length : Int) then (if (rd x10 x12) < 1 then (some false) else (if (rd x10 x12) > x1 then (some false) else (if 0 ≤ (wrap64 ((rd x10 x12) - 1)) then (if (wrap64 ((rd x10 x12) - 1)) < (x5.length : Int) then (if rdOf false x5 (wrap64 ((rd x10 x12) - 1)) = true then (some false) else (table_each.l0 k x0 x1 (x5.set ((wrap64 ((rd x10 x12) - 1)) : Int).toNat true) x10 x11 (wrap64 (x12 + 1)))) else (none)) else (none)))) else (none)) else (none)) else (some ((x0.length : Int) == x1))
def table_each.f (k : Nat) (l0 : List Int) (a1 : Int) : Option (Bool) := if 0 ≤ a1 then (if (a1 : Int).toNat ≤ 281474976710656 then (table_each.l0 k l0 a1 (List.replicate (a1 : Int).toNat false) l0 (l0.length : Int) 0) else (none)) else (none)
theorem table_each.mono_l : ∀ k, (∀ y0 y1 y2 y3 y4 y5, LeO (table_each.l0 k y0 y1 y2 y3 y4 y5) (table_each.l0 (k + 1) y0 y1 y2 y3 y4 y5))
 | 0 => fun _ _ _ _ _ _ r h => by simp [table_each.l0] at h
 | k + 1 => by
  have ih0 := table_each.mono_l k
  ·
   intro y0 y1 y2 y3 y4 y5
   unfold table_each.l0
   repeat' first
   | (with_reducible exact ih0 _ _ _ _ _ _)
   | (with_reducible exact LeO.refl _)
   | (with_reducible exact LeO.none _)
   | (with_reducible refine LeO.ite ?_ ?_)
   | (with_reducible refine LeO.bind ?_ (fun _ => ?_))
   | exact LeO.none _
   | refine LeO.ite ?_ ?_
   | refine LeO.bind ?_ (fun _ => ?_)
theorem table_each.mono : ∀ a0 a1 k, LeO (table_each.f k a0 a1) (table_each.f (k + 1) a0 a1) := by
 intro a0 a1 k
 have ih0 := table_each.mono_l k
 unfold table_each.f
 repeat' first
   | (with_reducible exact ih0 _ _ _ _ _ _)
   | (with_reducible exact LeO.refl _)
   | (with_reducible exact LeO.none _)
   | (with_reducible refine LeO.ite ?_ ?_)
   | (with_reducible refine LeO.bind ?_ (fun _ => ?_))
   | exact LeO.none _
   | refine LeO.ite ?_ ?_
   | refine LeO.bind ?_ (fun _ => ?_)
set_option maxHeartbeats 8000000 in
set_option maxRecDepth 100000 in
theorem table_each.calls (k : Nat) (A0 : Option Addr) (c0 : Nat) (l0 : List Int) (a1 : Int) (r : Bool) (w : World) (hr0 : Kd.C (Kd.int .i64) w A0 l0.length l0) (hc0 : l0.length ≤ c0) (h : table_each.f k l0 a1 = some r) :
  Calls Try.prog 27 #[.slice A0 l0.length c0, .int .i64 a1] w fun e w' => e = .returned (.bool r) ∧ Below w.heap.size w w' := by
 have HR0 := Am hr0
 have HC0 := Am hc0
 clear hr0 hc0
 have HB := Am (Below.refl w.heap.size w)
 have H : (if 0 ≤ a1 then (if (a1 : Int).toNat ≤ 281474976710656 then (table_each.l0 k l0 a1 (List.replicate (a1 : Int).toNat false) l0 (l0.length : Int) 0) else (none)) else (none)) = some r := h
 clear h
 by_cases c3 : 0 ≤ a1
 ·
  rw [if_pos c3] at H
  have c3b0 := eq_true c3
  have c3b1 : decide (0 ≤ a1) = true := decide_eq_true c3
  clear c3
  by_cases c4 : (a1 : Int).toNat ≤ 281474976710656
  ·
   rw [if_pos c4] at H
   have c4b0 := eq_true c4
   have c4b1 : decide ((a1 : Int).toNat ≤ 281474976710656) = true := decide_eq_true c4
   clear c4
   obtain ⟨y151, hy151⟩ : ∃ y_ : List Bool, y_ = (List.replicate (a1 : Int).toNat false) := ⟨_, rfl⟩
   replace H : (table_each.l0 k l0 a1 y151 l0 (l0.length : Int) 0) = some r := by first | (rw [hy151]; with_reducible exact H) | (have H2_ := (Option.bind_some _ _).symm.trans H; rw [hy151]; with_reducible exact H2_) | (have H2_ := (Option.bind_some _ _).symm.trans H; with_reducible exact H2_) | with_reducible exact H | (rw [hy151]; exact H) | exact H
   have Ny151 := Am hy151
   clear hy151
   have H' := Am H
   clear H
   go_enter Try.func27, Try.ntmps27
   go_wp2_with (first | ((with_reducible refine gate_dst (N := 9) rfl ?_); refine Kd.R_make Kd.bool _ 4 rfl (N := 9) rfl 78 _ _ rfl a1 rfl rfl Try.underlying78 (.bool false) 1 info4 rfl (by decide) (by omega) false (ok := fun _ => True) (okp := fun _ => True) rfl (fun _ hk => hk) trivial dz (Nat.le_trans (Nat.mul_le_mul_right _ (dz : a1.toNat ≤ 281474976710656)) (by omega)) (Below.refl _ _) (Nat.le_refl _) ?_; intro v152 w5 ho6 hb hg_ hnew_; clear hg_ hnew_; (first | rw [← Ny151.out] at ho6 | (simp only [Int.reduceToNat] at ho6; rw [← Ny151.out] at ho6)); have HO153 := Am (Kd.R_lower ho6 (below_size (z3))); replace HB := Am (below_step (z3) hb); clear hb ho6))
   go_loopg [12] k (fun kq v12 w' => ∃ (x5_1 : List Bool) (x12_1 : Int), v12 = .int .i64 x12_1 ∧ Aside0 (table_each.l0 kq l0 a1 x5_1 l0 (l0.length : Int) x12_1 = some r) ∧ Aside0 (kq ≤ k) ∧ Aside0 (Kd.R Kd.bool 4 w' w.heap.size (fun _ => True) v152 x5_1) ∧ Aside0 (Below w.heap.size w w'))
   case atStart => exact ⟨(y151), (0), (by first | rfl | (simp; done) | (simp [*]; done) | (simp; generalize ByteArray.toList _ = l_; cases l_ <;> rfl)), H', ⟨Nat.le_refl _⟩, ⟨by (with_reducible repeat (first | apply Kd.R_alloc | apply Kd.R_drewN | apply Kd.R_drew)); exact HO153.out⟩, ⟨z3⟩⟩
   case round =>
    clear H'
    try clear c2
    try clear p2
    try clear c3
    try clear c3b0
    try clear c3b1
    try clear c4
    try clear c4b0
    try clear c4b1
    obtain ⟨x5_1, x12_1, rfl, HA, HK1, HO_5, HB⟩ := hrel
    cases gk with
    | zero => exact absurd HA.out (by simp [table_each.l0])
    | succ k1 =>
     have H := HA.out
     clear HA
     simp only [table_each.l0] at H
     by_cases c7 : x12_1 < (l0.length : Int)
     ·
      rw [if_pos c7] at H
      have c7b0 : decide (x12_1 < (l0.length : Int)) = true := decide_eq_true c7
      clear c7
      by_cases c8 : 0 ≤ x12_1
      ·
       rw [if_pos c8] at H
       have c8b0 : decide (0 ≤ x12_1) = true := decide_eq_true c8
       clear c8
       by_cases c9 : x12_1 < (l0.length : Int)
       ·
        rw [if_pos c9] at H
        have c9b0 : decide (x12_1 < (l0.length : Int)) = true := decide_eq_true c9
        clear c9
        by_cases c10 : (rd l0 x12_1) < 1
        ·
         rw [if_pos c10] at H
         have c10b0 : decide ((rd l0 x12_1) < 1) = true := decide_eq_true c10
         clear c10
         obtain rfl := Option.some.inj H
         have p154 : 0 ≤ (x12_1 : Int) := dz
         have q154 : x12_1 < (l0.length : Int) := dz
         obtain ⟨ad154, e154, hx154_0⟩ := Kd.at_int HR0.out x12_1 p154 q154
         cases e154
         replace hx154_0 := (HB.out.cell (World.block_lt_of_cell? w _ hx154_0)).trans hx154_0
         replace p154 := eq_true p154
         replace q154 := eq_true q154
         go_wp2
         go_ret
         exact ⟨y1, z3⟩
        ·
         rw [if_neg c10] at H
         have c10b0 : decide ((rd l0 x12_1) < 1) = false := decide_eq_false c10
         clear c10
         by_cases c11 : (rd l0 x12_1) > a1
         ·
          rw [if_pos c11] at H
          have c11b0 : decide (a1 < (rd l0 x12_1)) = true := decide_eq_true c11
          clear c11
          obtain rfl := Option.some.inj H
          have p154 : 0 ≤ (x12_1 : Int) := dz
          have q154 : x12_1 < (l0.length : Int) := dz
          obtain ⟨ad154, e154, hx154_0⟩ := Kd.at_int HR0.out x12_1 p154 q154
          cases e154
          replace hx154_0 := (HB.out.cell (World.block_lt_of_cell? w _ hx154_0)).trans hx154_0
          replace p154 := eq_true p154
          replace q154 := eq_true q154
          go_wp2
          go_ret
          exact ⟨y1, z3⟩
         ·
          rw [if_neg c11] at H
          have c11b0 : decide (a1 < (rd l0 x12_1)) = false := decide_eq_false c11
          clear c11
          obtain ⟨ji12, hji12⟩ : ∃ j_ : Int, (wrap64 ((rd l0 x12_1) - 1)) = j_ := ⟨_, rfl⟩
          replace H : (if 0 ≤ (ji12) then (if (ji12) < (x5_1.length : Int) then (if rdOf false x5_1 (ji12) = true then (some false) else (table_each.l0 k1 l0 a1 (x5_1.set ((ji12) : Int).toNat true) l0 (l0.length : Int) (wrap64 (x12_1 + 1)))) else (none)) else (none)) = some r := by first | (rw [hji12] at H; exact H) | (simp only [hji12] at H ⊢; exact H)
          have hji12w : (IntKind.i64.wrap ((rd l0 x12_1) - 1)) = ji12 := (i64_w _).trans hji12
          by_cases c13 : 0 ≤ (ji12)
          ·
           rw [if_pos c13] at H
           have c13b0 : decide (0 ≤ (ji12)) = true := decide_eq_true c13
           clear c13
           by_cases c14 : (ji12) < (x5_1.length : Int)
           ·
            rw [if_pos c14] at H
            have c14b0 : decide ((ji12) < (x5_1.length : Int)) = true := decide_eq_true c14
            clear c14
            obtain ⟨bq15, hbq15⟩ : ∃ b_ : Bool, b_ = (rdOf false x5_1 (ji12)) := ⟨_, rfl⟩
            replace H : (if bq15 = true then (some false) else (table_each.l0 k1 l0 a1 (x5_1.set ((ji12) : Int).toNat true) l0 (l0.length : Int) (wrap64 (x12_1 + 1)))) = some r := by rw [← hbq15] at H; exact H
            have Nbq15 := Am hbq15
            clear hbq15
            by_cases c16 : bq15 = true
            ·
             subst c16
             rw [if_pos rfl] at H
             obtain rfl := Option.some.inj H
             have p154 : 0 ≤ (x12_1 : Int) := dz
             have q154 : x12_1 < (l0.length : Int) := dz
             obtain ⟨ad154, e154, hx154_0⟩ := Kd.at_int HR0.out x12_1 p154 q154
             cases e154
             replace hx154_0 := (HB.out.cell (World.block_lt_of_cell? w _ hx154_0)).trans hx154_0
             replace p154 := eq_true p154
             replace q154 := eq_true q154
             obtain ⟨Ao17, co17, eo17⟩ := Kd.R_slice HO_5.out
             subst eo17
             have p155 : 0 ≤ ((ji12) : Int) := dz
             have q155 : (ji12) < (x5_1.length : Int) := dz
             obtain ⟨ad155, e155, hx155_0⟩ := Kd.at_bool (Kd.R_reads' HO_5.out).2.2 (ji12) p155 q155
             (try rw [← Nbq15.out] at hx155_0)
             cases e155
             replace p155 := eq_true p155
             replace q155 := eq_true q155
             go_wp2
             go_ret
             exact ⟨by first | rfl | (simp [errW_none, errW_some] <;> rfl) | (simp only [← hji12]; first | rfl | (simp [errW_none, errW_some] <;> rfl)) | (simp [*, errW_none, errW_some] <;> rfl) | (simp [Aid.ne_nil, Aid.eq_nil, errW_none, errW_some]; done), z3⟩
            ·
             replace c16 := Bool.eq_false_iff.mpr c16
             subst c16
             rw [if_neg (show ¬ (false = true) by decide)] at H
             obtain ⟨y156, hy156⟩ : ∃ y_ : List Bool, y_ = (x5_1.set ((ji12) : Int).toNat true) := ⟨_, rfl⟩
             replace H : (table_each.l0 k1 l0 a1 y156 l0 (l0.length : Int) (wrap64 (x12_1 + 1))) = some r := by first | (rw [hy156]; with_reducible exact H) | (have H2_ := (Option.bind_some _ _).symm.trans H; rw [hy156]; with_reducible exact H2_) | (have H2_ := (Option.bind_some _ _).symm.trans H; with_reducible exact H2_) | with_reducible exact H | (rw [hy156]; exact H) | exact H
             have Ny156 := Am hy156
             clear hy156
             have H' := Am H
             clear H
             have p154 : 0 ≤ (x12_1 : Int) := dz
             have q154 : x12_1 < (l0.length : Int) := dz
             obtain ⟨ad154, e154, hx154_0⟩ := Kd.at_int HR0.out x12_1 p154 q154
             cases e154
             replace hx154_0 := (HB.out.cell (World.block_lt_of_cell? w _ hx154_0)).trans hx154_0
             replace p154 := eq_true p154
             replace q154 := eq_true q154
             obtain ⟨Ao19, co19, eo19⟩ := Kd.R_slice HO_5.out
             subst eo19
             have p155 : 0 ≤ ((ji12) : Int) := dz
             have q155 : (ji12) < (x5_1.length : Int) := dz
             obtain ⟨ad155, e155, hx155_0⟩ := Kd.at_bool (Kd.R_reads' HO_5.out).2.2 (ji12) p155 q155
             (try rw [← Nbq15.out] at hx155_0)
             cases e155
             replace p155 := eq_true p155
             replace q155 := eq_true q155
             have p18 : 0 ≤ ((ji12) : Int) := dz
             have q18 : ((ji12) : Int) < ((x5_1.length : Int) : Int) := dz
             obtain ⟨go18, co18, eo18, gb18, gl18, cl18, HG18⟩ := Kd.R_form HO_5.out (by omega)
             (first | cases eo18 | (injection eo18 with ea_ en_ ec_; (first | subst ea_ | (injection ea_ with ea_; subst ea_)); subst ec_; clear en_))
             have GB18 := Am gb18
             have GG18 := Am HG18
             clear gb18 gl18 HG18
             (first | simp only [add_plain] at hx155_0 | skip)
             obtain ⟨hx18_0, hf18_0⟩ := Kd.R_celln false HO_5.out ((ji12) : Int) p18 q18
             replace p18 := eq_true p18
             replace q18 := eq_true q18
             have HP20 := Kd.R_putg HO_5.out ((ji12) : Int) true
             go_wp2_with (first | ((with_reducible refine gate_store (t := 4) (p := 33) rfl ?_); refine store_event (t := 4) (p := 33) (v := ?vo_w21) (w1 := (wr.setCell ⟨go18, ((ji12) : Int).toNat, none⟩ (.bool true))) ?hg ?ho ?hn ?hr ?_; (case ho => rfl); (case hg => rfl); (case hn => rfl); (case hr => first | (go_simp; done) | (go_simp; rfl)); intro w21 hw; have hg : wr.grownBy w21 (some go18) := (by rw [hw]; exact HP20.2); have hp_ : Kd.R Kd.bool 4 w21 w.heap.size (fun _ => True) (.slice (some ⟨go18, 0, none⟩) x5_1.length co19) y156 := (by rw [hw, Ny156.out]; exact HP20.1); clear HP20; replace HO_5 := Am (hp_); replace HB := Am ((by rw [hw]; exact bs (HB.out) GB18.out : Below w.heap.size w w21)); clear hg hw hp_))
             go_roundg k1
             case measure => have := HK1.out; omega
             case rel => exact ⟨(y156), (wrap64 (x12_1 + 1)), (by first | rfl | (simp; done) | (simp [*]; done) | (simp; generalize ByteArray.toList _ = l_; cases l_ <;> rfl)), H', ⟨by have := HK1.out; omega⟩, ⟨by (with_reducible repeat (first | apply Kd.R_alloc | apply Kd.R_drewN | apply Kd.R_drew)); exact HO_5.out⟩, ⟨z3⟩⟩
           ·
            rw [if_neg c14] at H
            exact absurd H (by simp)
          ·
           rw [if_neg c13] at H
           exact absurd H (by simp)
       ·
        rw [if_neg c9] at H
        exact absurd H (by simp)
      ·
       rw [if_neg c8] at H
       exact absurd H (by simp)
     ·
      rw [if_neg c7] at H
      have c7b0 : decide (x12_1 < (l0.length : Int)) = false := decide_eq_false c7
      clear c7
      obtain rfl := Option.some.inj H
      go_wp2
      go_ret
      exact ⟨y1, z3⟩
  ·
   rw [if_neg c4] at H
   exact absurd H (by simp)
 ·
  rw [if_neg c3] at H
  exact absurd H (by simp)

-- NOT PRINTED: function 62 (abi_NoEscape)

-- NOT PRINTED: function 50 (strings_Builder_copyCheck)

-- NOT PRINTED: function 28 (strings_Builder_WriteString)

-- NOT PRINTED: function 31 (strings_Builder_String)

/-! ### wire_Nums: function 29, by hand -/
def wire_Nums.l0 : Nat → List Int → ByteArray → Int → Option (ByteArray)
 | 0, _, _, _ => none
 | k + 1, x0, x3, x9 => if x9 < (x0.length : Int) then (if 0 ≤ x9 then ((varint_Put.f k (rd x0 x9)).bind fun t => (if t.toList = ([] : List UInt8) then (some (⟨#[]⟩ : ByteArray)) else (if x3.size + t.size ≤ 140737488355328 then (wire_Nums.l0 k x0 (x3 ++ t) (wrap64 (x9 + 1))) else (none)))) else (none)) else (some x3)
def wire_Nums.f (k : Nat) (l0 : List Int) : Option (ByteArray) := wire_Nums.l0 k l0 (⟨#[]⟩ : ByteArray) 0
theorem wire_Nums.mono_l : ∀ k, ∀ y0 y1 y2, LeO (wire_Nums.l0 k y0 y1 y2) (wire_Nums.l0 (k + 1) y0 y1 y2)
 | 0 => fun _ _ _ r h => by simp [wire_Nums.l0] at h
 | k + 1 => fun y0 y1 y2 => by
  have ih := wire_Nums.mono_l k
  unfold wire_Nums.l0
  exact LeO.ite (LeO.ite (LeO.bind (varint_Put.mono _ _) (fun _ => LeO.ite (LeO.refl _) (LeO.ite (ih _ _ _) (LeO.refl _)))) (LeO.refl _)) (LeO.refl _)
theorem wire_Nums.mono : ∀ a0 k, LeO (wire_Nums.f k a0) (wire_Nums.f (k + 1) a0) := fun a0 k => wire_Nums.mono_l k a0 _ 0
/-- The builder holds these bytes; below lies what lay. -/
def NumsAt (w : World) (acc : ByteArray) (w' : World) : Prop := Lib.IsBuilder 63 5 w.heap.size w.heap.size (Lib.strCells acc) w' ∧ Below w.heap.size w w'
theorem NumsAt.start (w : World) : NumsAt w (⟨#[]⟩ : ByteArray) (w.alloc (.cells #[.pointer none, .slice none 0 0] 63)) := ⟨Lib.fresh_isBuilder _ _ w, bl (Below.refl _ _) _⟩
theorem IsBuilder_below {B b : Nat} {bs : List Value} {w w1 : World} (h : Lib.IsBuilder 63 5 B b bs w) (hb : Below w.heap.size w w1) : Lib.IsBuilder 63 5 B b bs w1 := by
 have go : ∀ p, Lib.BuilderAt 63 5 B b p bs w → Lib.BuilderAt 63 5 B b p bs w1 := by
  rintro p ⟨hB, v, hbk, hown, hne⟩
  exact ⟨hB, v, blk_grown hbk (grown_of_below hb none) (by simp), pw_own_below hown hb, hne⟩
 rcases h with h | h
 ·
  exact .inl (go _ h)
 ·
  exact .inr (go _ h)
theorem NumsAt.below {w : World} {acc : ByteArray} {w' w1 : World} (h : NumsAt w acc w') (hb : Below w'.heap.size w' w1) : NumsAt w acc w1 := ⟨IsBuilder_below h.1 hb, below_step h.2 hb⟩
theorem NumsAt.put {w : World} {acc t : ByteArray} {w' w1 : World} (h : NumsAt w acc w') (k : Lib.BuilderAt 63 5 w.heap.size w.heap.size (.pointer (some ⟨w.heap.size, 0, none⟩)) (Lib.strCells acc ++ Lib.strCells t) w1) (hb : Below w.heap.size w' w1) : NumsAt w (acc ++ t) w1 := by
 refine ⟨.inr ?_, h.2.trans hb⟩
 have e : Lib.strCells (acc ++ t) = Lib.strCells acc ++ Lib.strCells t := by simp [Lib.strCells]
 rw [e]
 exact k
set_option maxHeartbeats 2000000 in
set_option maxRecDepth 100000 in
theorem wire_Nums.calls (k : Nat) (A0 : Option Addr) (c0 : Nat) (l0 : List Int) (r : ByteArray) (w : World) (hr0 : Kd.C (Kd.int .i64) w A0 l0.length l0) (hc0 : l0.length ≤ c0) (h : wire_Nums.f k l0 = some r) :
  Calls Try.prog 29 #[.slice A0 l0.length c0] w fun e w' => e = .returned (.string r) ∧ Below w.heap.size w w' := by
 have HR0 := Am hr0
 clear hr0 hc0
 have H' : Aside0 (wire_Nums.l0 k l0 (⟨#[]⟩ : ByteArray) 0 = some r) := Am h
 clear h
 go_enter Try.func29, Try.ntmps29
 go_wp2
 go_loopg [9] k (fun kq v9 w' => ∃ (x3 : ByteArray) (x9 : Int), v9 = .int .i64 x9 ∧ Aside0 (wire_Nums.l0 kq l0 x3 x9 = some r) ∧ NumsAt w x3 w')
 case atStart => exact ⟨_, 0, rfl, H', NumsAt.start w⟩
 case round =>
  clear H'
  obtain ⟨x3, x9, rfl, HA, HN⟩ := hrel
  cases gk with
  | zero => exact absurd HA.out (by simp [wire_Nums.l0])
  | succ k1 =>
   have H := HA.out
   clear HA
   simp only [wire_Nums.l0] at H
   by_cases c2 : x9 < (l0.length : Int)
   ·
    rw [if_pos c2] at H
    have c2b0 : decide (x9 < (l0.length : Int)) = true := decide_eq_true c2
    by_cases c3 : 0 ≤ x9
    ·
     rw [if_pos c3] at H
     have c3b0 : decide (0 ≤ x9) = true := decide_eq_true c3
     obtain ⟨ad, ea, hx⟩ := Kd.at_int HR0.out x9 c3 c2
     cases ea
     replace hx := (HN.2.cell (World.block_lt_of_cell? w _ hx)).trans hx
     have p1 := eq_true c3
     have q1 := eq_true c2
     clear c2 c3
     replace H := ob H
     obtain ⟨t, A40, H⟩ := H
     have A4 := Am A40
     clear A40
     by_cases c5 : t.toList = ([] : List UInt8)
     ·
      rw [if_pos c5] at H
      have c5b0 : (t.toList == ([] : List UInt8)) = true := beq_iff_eq.mpr c5
      try have c5b9 : (t.toList).isEmpty = true := List.isEmpty_iff.2 c5
      clear c5
      obtain rfl := Option.some.inj H
      clear H
      go_wp2_with (go_at_call 51; (with_reducible refine (varint_Put.calls k1 _ t _ A4.out).mono ?_); rintro e w1 ⟨rfl, hb⟩; have HN1 := NumsAt.below HN hb; clear hb)
      go_ret
      exact ⟨rfl, HN1.2⟩
     ·
      rw [if_neg c5] at H
      have c5b0 : (t.toList == ([] : List UInt8)) = false := beq_eq_false_iff_ne.mpr c5
      try have c5b9 : (t.toList).isEmpty = false := (by rw [List.isEmpty_eq_false_iff]; exact c5)
      clear c5
      by_cases c8 : x3.size + t.size ≤ 140737488355328
      ·
       rw [if_pos c8] at H
       have H' := Am H
       clear H
       have hlen : (Lib.strCells x3).length + t.size ≤ 140737488355328 := by rw [Lib.strCells_length]; exact c8
       have HL := Am hlen
       clear hlen c8
       go_wp2_with (first | (go_at_call 51; (with_reducible refine (varint_Put.calls k1 _ t _ A4.out).mono ?_); rintro e w1 ⟨rfl, hb⟩; have HN1 := NumsAt.below HN hb; clear hb) | (go_at_call 28; (refine (Go.Proofs.Ytlmmlmmbnfcogaa.Bld.writeString w.heap.size w.heap.size _ t _ HN1.1 HL.out (below_size HN1.2)).mono ?_); rintro e w2 ⟨rfl, hk, hb⟩; have HN2 := NumsAt.put HN1 hk hb; clear hk hb))
       go_roundg k1
       case rel => exact ⟨_, _, rfl, H', HN2⟩
       case measure => exact Nat.lt_succ_self _
      ·
       rw [if_neg c8] at H
       cases H
    ·
     rw [if_neg c3] at H
     cases H
   ·
    rw [if_neg c2] at H
    have c2b0 : decide (x9 < (l0.length : Int)) = false := decide_eq_false c2
    clear c2
    obtain rfl := Option.some.inj H
    clear H
    have HN' : Lib.IsBuilder 63 5 w.heap.size w.heap.size (Lib.byteCells x3.data.toList) _ := HN.1
    go_wp2_with (go_at_call 31; (refine (Go.Proofs.Ytlmmlmmbnfcogaa.Bld.string_any w.heap.size w.heap.size x3.data.toList _ HN' (below_size HN.2)).mono ?_); rintro e w2 ⟨rfl, hb⟩; have HB2 := HN.2.trans hb; clear hb)
    go_ret
    exact ⟨rfl, HB2⟩

/-! ### wire_Text: function 30 -/
def wire_Text.f (k : Nat) (a0 : ByteArray) : Option (ByteArray) := (varint_Put.f k (a0.size : Int)).bind fun t157 => (if t157.size + a0.size ≤ 9223372036854775807 then (some (t157 ++ a0)) else (none))
theorem wire_Text.mono : ∀ a0 k, LeO (wire_Text.f k a0) (wire_Text.f (k + 1) a0) := by
 intro a0 k
 unfold wire_Text.f
 repeat' first
   | (with_reducible exact varint_Put.mono _ _)
   | (with_reducible exact LeO.refl _)
   | (with_reducible exact LeO.none _)
   | (with_reducible refine LeO.ite ?_ ?_)
   | (with_reducible refine LeO.bind ?_ (fun _ => ?_))
   | exact LeO.none _
   | refine LeO.ite ?_ ?_
   | refine LeO.bind ?_ (fun _ => ?_)
set_option maxHeartbeats 8000000 in
set_option maxRecDepth 100000 in
theorem wire_Text.calls (k : Nat) (a0 : ByteArray) (r : ByteArray) (w : World) (h : wire_Text.f k a0 = some r) :
  Calls Try.prog 30 #[.string a0] w fun e w' => e = .returned (.string r) ∧ Below w.heap.size w w' := by
 have HB := Am (Below.refl w.heap.size w)
 have H : ((varint_Put.f k (a0.size : Int)).bind fun t157 => (if t157.size + a0.size ≤ 9223372036854775807 then (some (t157 ++ a0)) else (none))) = some r := h
 clear h
 replace H := ob H
 obtain ⟨t157, A20, H⟩ := H
 (try dsimp only at H)
 have A2 := Am A20
 clear A20
 by_cases c3 : t157.size + a0.size ≤ 9223372036854775807
 ·
  rw [if_pos c3] at H
  have c3b0 := eq_true c3
  have c3b1 : decide (t157.size + a0.size ≤ 9223372036854775807) = true := decide_eq_true c3
  try have c3b2 : (9223372036854775807 < t157.size + a0.size) = False := eq_false (Nat.not_lt.2 c3)
  obtain rfl := Option.some.inj H
  go_enter Try.func30, Try.ntmps30
  go_wp2_with (first | ((with_reducible refine gate_callee (f := 51) rfl ?_); refine Own.gL_ (some 5) Try.func51 (#[.int .i64 (a0.size : Int)]) (h := ?_); (with_reducible refine (varint_Put.calls k (a0.size : Int) t157 _ A2.out).mono ?_); rintro e w4 ⟨rfl, hb⟩; refine ⟨_, rfl, ?_⟩; replace HB := Am (below_step (z3) hb); clear hb))
  go_ret
  exact ⟨y1, z3⟩
 ·
  rw [if_neg c3] at H
  exact absurd H (by simp)

end Go.Proofs.Ytlmmlmmbnfcogaa.Q
