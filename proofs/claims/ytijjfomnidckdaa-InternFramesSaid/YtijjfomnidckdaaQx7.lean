-- printed by a program of this session (NOTES: hprint); not the kit's print
-- minified3
-- minified2
-- minified
-- halved
import Derived.Test.YtijjfomnidckdaaOg
import Derived.Test.YtijjfomnidckdaaAl
import Derived.Test.YtijjfomnidckdaaQx0
import Derived.Test.YtijjfomnidckdaaQx2
import Derived.Test.YtijjfomnidckdaaQx4
import Derived.Test.YtijjfomnidckdaaQx5
import Derived.Test.YtijjfomnidckdaaQx6
namespace Go.Proofs.Ytijjfomnidckdaa.Q
open Go.RowKit Go.Proofs.YtijjfomnidckdaaW.PrintWords Go.Proofs.YtijjfomnidckdaaW.PrintLast Go.Proofs.YtijjfomnidckdaaW.PrintMore
attribute [local go_sem] max2_int min2_int max_two min_two max_three min_three max_four min_four   -- for this text's walks alone
set_option linter.unusedVariables false
set_option linter.unusedSimpArgs false

attribute [local go_sem high] eqA50
/-! ### shuttlecocklaw06_fixed: function 10 -/
def shuttlecocklaw06_fixed.f (k : Nat)  : Option (Bool) := (intern_String.f k ([] : List ByteArray) ([] : List (List (S50))) (⟨#[97]⟩ : ByteArray)).bind fun bt139 => ((intern_String.f k bt139.1 bt139.2.1 (⟨#[98]⟩ : ByteArray)).bind fun bt147 => ((intern_String.f k bt147.1 bt147.2.1 (⟨#[97]⟩ : ByteArray)).bind fun bt155 => ((intern_Stack.f k bt147.1 bt147.2.1 (([(⟨(⟨#[98]⟩ : ByteArray), 3⟩ : S45), (⟨(⟨#[99]⟩ : ByteArray), 4⟩ : S45)] : List (S45)))).bind fun bt166 => ((intern_Frames.f k bt166.1 bt166.2.1 bt166.2.2).bind fun bt174 => ((intern_Name.f k bt166.1 bt166.2.1 3).bind fun bt178 => ((intern_Name.f k bt166.1 bt166.2.1 4).bind fun bt180 => (if bt139.2.2 = 1 then (if bt147.2.2 = 2 then (if bt155.2.2 = 1 then (if bt166.2.2 = 1 then (if bt174.2 = true then ((shuttlecockref06_SameFrames.f k bt174.1 (([(⟨(⟨#[98]⟩ : ByteArray), 3⟩ : S45), (⟨(⟨#[99]⟩ : ByteArray), 4⟩ : S45)] : List (S45)))).bind fun t185 => (if t185 = true then (if bt178.1.toList = ([99] : List UInt8) then (if bt178.2 = true then (if bt180.2 = true then (none) else ((intern_May.f k bt166.1 bt166.2.1).bind fun t186 => (if t186 = true then ((intern_May.f k (([(⟨#[]⟩ : ByteArray)] : List ByteArray)) ([] : List (List (S50)))).bind fun t190 => (some (!t190))) else (none)))) else (none)) else (none)) else (none))) else (none)) else (none)) else (none)) else (none)) else (none))))))))
theorem shuttlecocklaw06_fixed.mono : ∀ k, LeO (shuttlecocklaw06_fixed.f k ) (shuttlecocklaw06_fixed.f (k + 1) ) := by
 intro  k
 unfold shuttlecocklaw06_fixed.f
 repeat' first
   | (with_reducible exact intern_Frames.mono _ _ _ _)
   | (with_reducible exact intern_May.mono _ _ _)
   | (with_reducible exact intern_Name.mono _ _ _ _)
   | (with_reducible exact intern_Stack.mono _ _ _ _)
   | (with_reducible exact intern_String.mono _ _ _ _)
   | (with_reducible exact shuttlecockref06_SameFrames.mono _ _ _)
   | (with_reducible exact LeO.refl _)
   | (with_reducible exact LeO.none _)
   | (with_reducible refine LeO.ite ?_ ?_)
   | (with_reducible refine LeO.bind ?_ (fun _ => ?_))
   | exact LeO.none _
   | refine LeO.ite ?_ ?_
   | refine LeO.bind ?_ (fun _ => ?_)
set_option maxHeartbeats 8000000 in
set_option maxRecDepth 100000 in
theorem shuttlecocklaw06_fixed.calls (k : Nat)  (r : Bool) (w : World) (h : shuttlecocklaw06_fixed.f k  = some r) :
  Calls Try.prog 10 #[] w fun e w' => e = .returned (.bool r) ∧ Below w.heap.size w w' := by
 have hu25 := Try.underlying25
 have hu45 := Try.underlying45
 have HB := Am (Below.refl w.heap.size w)
 have H : ((intern_String.f k ([] : List ByteArray) ([] : List (List (S50))) (⟨#[97]⟩ : ByteArray)).bind fun bt139 => ((intern_String.f k bt139.1 bt139.2.1 (⟨#[98]⟩ : ByteArray)).bind fun bt147 => ((intern_String.f k bt147.1 bt147.2.1 (⟨#[97]⟩ : ByteArray)).bind fun bt155 => ((intern_Stack.f k bt147.1 bt147.2.1 (([(⟨(⟨#[98]⟩ : ByteArray), 3⟩ : S45), (⟨(⟨#[99]⟩ : ByteArray), 4⟩ : S45)] : List (S45)))).bind fun bt166 => ((intern_Frames.f k bt166.1 bt166.2.1 bt166.2.2).bind fun bt174 => ((intern_Name.f k bt166.1 bt166.2.1 3).bind fun bt178 => ((intern_Name.f k bt166.1 bt166.2.1 4).bind fun bt180 => (if bt139.2.2 = 1 then (if bt147.2.2 = 2 then (if bt155.2.2 = 1 then (if bt166.2.2 = 1 then (if bt174.2 = true then ((shuttlecockref06_SameFrames.f k bt174.1 (([(⟨(⟨#[98]⟩ : ByteArray), 3⟩ : S45), (⟨(⟨#[99]⟩ : ByteArray), 4⟩ : S45)] : List (S45)))).bind fun t185 => (if t185 = true then (if bt178.1.toList = ([99] : List UInt8) then (if bt178.2 = true then (if bt180.2 = true then (none) else ((intern_May.f k bt166.1 bt166.2.1).bind fun t186 => (if t186 = true then ((intern_May.f k (([(⟨#[]⟩ : ByteArray)] : List ByteArray)) ([] : List (List (S50)))).bind fun t190 => (some (!t190))) else (none)))) else (none)) else (none)) else (none))) else (none)) else (none)) else (none)) else (none)) else (none))))))))) = some r := h
 clear h
 replace H := ob H
 obtain ⟨⟨t139, t142, t145⟩, A10, H⟩ := H
 (try dsimp only at H)
 have A1 := Am A10
 clear A10
 replace H := ob H
 obtain ⟨⟨t147, t150, t153⟩, A20, H⟩ := H
 (try dsimp only at H)
 have A2 := Am A20
 clear A20
 replace H := ob H
 obtain ⟨⟨t155, t158, t161⟩, A30, H⟩ := H
 (try dsimp only at H)
 have A3 := Am A30
 clear A30
 obtain ⟨y163, hy163⟩ : ∃ y_ : List (S45), y_ = (([(⟨(⟨#[98]⟩ : ByteArray), 3⟩ : S45), (⟨(⟨#[99]⟩ : ByteArray), 4⟩ : S45)] : List (S45))) := ⟨_, rfl⟩
 replace H : ((intern_Stack.f k t147 t150 y163).bind fun bt166 => ((intern_Frames.f k bt166.1 bt166.2.1 bt166.2.2).bind fun bt174 => ((intern_Name.f k bt166.1 bt166.2.1 3).bind fun bt178 => ((intern_Name.f k bt166.1 bt166.2.1 4).bind fun bt180 => (if t145 = 1 then (if t153 = 2 then (if t161 = 1 then (if bt166.2.2 = 1 then (if bt174.2 = true then ((shuttlecockref06_SameFrames.f k bt174.1 (([(⟨(⟨#[98]⟩ : ByteArray), 3⟩ : S45), (⟨(⟨#[99]⟩ : ByteArray), 4⟩ : S45)] : List (S45)))).bind fun t185 => (if t185 = true then (if bt178.1.toList = ([99] : List UInt8) then (if bt178.2 = true then (if bt180.2 = true then (none) else ((intern_May.f k bt166.1 bt166.2.1).bind fun t186 => (if t186 = true then ((intern_May.f k (([(⟨#[]⟩ : ByteArray)] : List ByteArray)) ([] : List (List (S50)))).bind fun t190 => (some (!t190))) else (none)))) else (none)) else (none)) else (none))) else (none)) else (none)) else (none)) else (none)) else (none)))))) = some r := by first | (rw [hy163]; with_reducible exact H) | (have H2_ := (Option.bind_some _ _).symm.trans H; rw [hy163]; with_reducible exact H2_) | (have H2_ := (Option.bind_some _ _).symm.trans H; with_reducible exact H2_) | with_reducible exact H | (rw [hy163]; exact H) | exact H
 have Ny163 := Am hy163
 clear hy163
 replace H := ob H
 obtain ⟨⟨t166, t169, t172⟩, A40, H⟩ := H
 (try dsimp only at H)
 have A4 := Am A40
 clear A40
 replace H := ob H
 obtain ⟨⟨t174, t177⟩, A50, H⟩ := H
 (try dsimp only at H)
 have A5 := Am A50
 clear A50
 replace H := ob H
 obtain ⟨⟨t178, t179⟩, A60, H⟩ := H
 (try dsimp only at H)
 have A6 := Am A60
 clear A60
 replace H := ob H
 obtain ⟨⟨t180, t181⟩, A70, H⟩ := H
 (try dsimp only at H)
 have A7 := Am A70
 clear A70
 by_cases c8 : t145 = 1
 ·
  rw [if_pos c8] at H
  have c8b0 : (t145 == 1) = true := beq_iff_eq.mpr c8
  have c8b1 : (t145 != 1) = false := bne_eq_false_iff_eq.mpr c8
  clear c8
  by_cases c9 : t153 = 2
  ·
   rw [if_pos c9] at H
   have c9b0 : (t153 == 2) = true := beq_iff_eq.mpr c9
   have c9b1 : (t153 != 2) = false := bne_eq_false_iff_eq.mpr c9
   clear c9
   by_cases c10 : t161 = 1
   ·
    rw [if_pos c10] at H
    have c10b0 : (t161 == 1) = true := beq_iff_eq.mpr c10
    have c10b1 : (t161 != 1) = false := bne_eq_false_iff_eq.mpr c10
    clear c10
    by_cases c11 : t172 = 1
    ·
     rw [if_pos c11] at H
     have c11b0 : (t172 == 1) = true := beq_iff_eq.mpr c11
     have c11b1 : (t172 != 1) = false := bne_eq_false_iff_eq.mpr c11
     clear c11
     by_cases c12 : t177 = true
     ·
      subst c12
      rw [if_pos rfl] at H
      obtain ⟨y182, hy182⟩ : ∃ y_ : List (S45), y_ = (([(⟨(⟨#[98]⟩ : ByteArray), 3⟩ : S45), (⟨(⟨#[99]⟩ : ByteArray), 4⟩ : S45)] : List (S45))) := ⟨_, rfl⟩
      replace H : ((shuttlecockref06_SameFrames.f k t174 y182).bind fun t185 => (if t185 = true then (if t178.toList = ([99] : List UInt8) then (if t179 = true then (if t181 = true then (none) else ((intern_May.f k t166 t169).bind fun t186 => (if t186 = true then ((intern_May.f k (([(⟨#[]⟩ : ByteArray)] : List ByteArray)) ([] : List (List (S50)))).bind fun t190 => (some (!t190))) else (none)))) else (none)) else (none)) else (none))) = some r := by first | (rw [hy182]; with_reducible exact H) | (have H2_ := (Option.bind_some _ _).symm.trans H; rw [hy182]; with_reducible exact H2_) | (have H2_ := (Option.bind_some _ _).symm.trans H; with_reducible exact H2_) | with_reducible exact H | (rw [hy182]; exact H) | exact H
      have Ny182 := Am hy182
      clear hy182
      replace H := ob H
      obtain ⟨t185, A130, H⟩ := H
      (try dsimp only at H)
      have A13 := Am A130
      clear A130
      by_cases c14 : t185 = true
      ·
       subst c14
       rw [if_pos rfl] at H
       by_cases c15 : t178.toList = ([99] : List UInt8)
       ·
        rw [if_pos c15] at H
        have c15b0 : (t178.toList == ([99] : List UInt8)) = true := beq_iff_eq.mpr c15
        have c15b1 : (t178.toList != ([99] : List UInt8)) = false := bne_eq_false_iff_eq.mpr c15
        clear c15
        by_cases c16 : t179 = true
        ·
         subst c16
         rw [if_pos rfl] at H
         by_cases c17 : t181 = true
         ·
          subst c17
          rw [if_pos rfl] at H
          exact absurd H (by simp)
         ·
          replace c17 := Bool.eq_false_iff.mpr c17
          subst c17
          rw [if_neg (show ¬ (false = true) by decide)] at H
          replace H := ob H
          obtain ⟨t186, A180, H⟩ := H
          (try dsimp only at H)
          have A18 := Am A180
          clear A180
          by_cases c19 : t186 = true
          ·
           subst c19
           rw [if_pos rfl] at H
           obtain ⟨y187, hy187⟩ : ∃ y_ : List ByteArray, y_ = (([(⟨#[]⟩ : ByteArray)] : List ByteArray)) := ⟨_, rfl⟩
           replace H : ((intern_May.f k y187 ([] : List (List (S50)))).bind fun t190 => (some (!t190))) = some r := by first | (rw [hy187]; with_reducible exact H) | (have H2_ := (Option.bind_some _ _).symm.trans H; rw [hy187]; with_reducible exact H2_) | (have H2_ := (Option.bind_some _ _).symm.trans H; with_reducible exact H2_) | with_reducible exact H | (rw [hy187]; exact H) | exact H
           have Ny187 := Am hy187
           clear hy187
           replace H := ob H
           obtain ⟨t190, A200, H⟩ := H
           (try dsimp only at H)
           have A20 := Am A200
           clear A200
           obtain rfl := Option.some.inj H
           go_enter Try.func10, Try.ntmps10
           go_wp2_with (first | ((with_reducible refine gate_callee (f := 11) rfl ?_); refine Own.gL_ (some 17) Try.func11 (#[.agg #[.slice none 0 0, .slice none 0 0], .string (⟨#[97]⟩ : ByteArray)]) (h := ?_); (refine (intern_String.calls k _ _ ([] : List ByteArray) _ _ ([] : List (List (S50))) (⟨#[97]⟩ : ByteArray) t139 t142 t145 _ ?side1 ?side2 ?side3 ?side4 A1.out).mono ?_); (case side1 => exact Kd.C_nil _ _); (case side2 => exact Nat.le_refl _); (case side3 => exact Kd.C_nil _ _); (case side4 => exact Nat.le_refl _); rintro e w21 ⟨v140, v143, rfl, ho0, ho1, hb⟩; refine ⟨_, rfl, ?_⟩; have HO141 := Am (Kd.R_lower ho0 (below_size (by repeat (first | (with_reducible first | exact HB.out | apply bl | apply pN | apply b1) | exact HB.out | exact HBo.out)))); have HO144 := Am (Kd.S_lower ho1 (below_size (by repeat (first | (with_reducible first | exact HB.out | apply bl | apply pN | apply b1) | exact HB.out | exact HBo.out)))); replace HB := Am (below_step (by repeat (first | (with_reducible first | exact HB.out | apply bl | apply pN | apply b1) | exact HB.out | exact HBo.out)) hb); (try clear hb); (try clear hb2); (try clear hk); (try clear hi); (try clear ho0); (try clear ho1)) | ((with_reducible refine gate_dst (N := 1) rfl ?_); (try (refine gate_guard (by rfl) ?_; dsimp only)); refine box_event ?hg (N := 1) ?hd (cs := #[.slice none 0 0, .slice none 0 0]) (t := 25) ?hr ?_; (case hd => rfl); (case hg => rfl); (case hr => first | (go_simp; done) | (go_simp; rfl)); intro gb146 hg w22 hbox hb; have BK146 := Am (hbox); have GW146 := Am ((by rw [hg]; exact (below_size (by repeat (first | (with_reducible first | exact HB.out | apply bl | apply pN | apply b1) | exact HB.out | exact HBo.out))) : w.heap.size ≤ gb146)); have GE146 := GW146; replace HO141 := Am (Kd.R_below (by (with_reducible repeat (first | apply Kd.R_alloc | apply Kd.R_drewN | apply Kd.R_drew)); exact HO141.out) hb); replace HO144 := Am (Kd.S_below (by (with_reducible repeat (first | apply Kd.S_alloc | apply Kd.S_drewN | apply Kd.S_drew)); exact HO144.out) hb); replace HB := Am (below_step (by repeat (first | (with_reducible first | exact HB.out | apply bl | apply pN | apply b1) | exact HB.out | exact HBo.out)) hb); clear hb hbox hg; obtain ⟨Ao23, co23, eo23⟩ := Kd.R_slice HO141.out; subst eo23; have hcz24_0 := Own.bc2 BK146.out 0; have hcz24_1 := Own.bc2 BK146.out 1; have hfz24_0 := bf BK146.out 0; have hfz24_1 := bf BK146.out 1; obtain ⟨Ao25, co25, eo25⟩ := Kd.S_slice HO144.out; subst eo25) | ((with_reducible refine gate_callee (f := 11) rfl ?_); refine Own.gL_ (some 22) Try.func11 (#[.agg #[.slice Ao23 t139.length co23, .slice Ao25 t142.length co25], .string (⟨#[98]⟩ : ByteArray)]) (h := ?_); (with_reducible refine (intern_String.calls k _ _ t139 _ _ t142 (⟨#[98]⟩ : ByteArray) t147 t150 t153 _ ?side1 ?side2 ?side3 ?side4 A2.out).mono ?_); (case side1 => refine (Kd.R_reads' (e := 9) (base := w.heap.size) (ok := fun k_ => True) (n := t139.length) (c := co23) ?_).2.2; exact (by (with_reducible repeat (first | apply Kd.R_alloc | apply Kd.R_drewN | apply Kd.R_drew)); exact (Kd.R_mono (Kd.R_far (p := ⟨gb146, 1, none⟩) (Kd.R_far (p := ⟨gb146, 0, none⟩) (Kd.R_types HO141.out BK146.out (by decide)) (fun _ hk => hk.2) (.slice Ao23 t139.length co23)) (fun _ hk => hk.2) (.slice Ao25 t142.length co25)) (fun _ h_ => h_.1)))); (case side2 => exact (Kd.R_reads' HO141.out).2.1); (case side3 => refine (Kd.S_reads' (e := 46) (base := w.heap.size) (ok := fun k_ => True) (n := t142.length) (c := co25) ?_).2.2; exact (by (with_reducible repeat (first | apply Kd.S_alloc | apply Kd.S_drewN | apply Kd.S_drew)); exact (Kd.S_mono (Kd.S_far (p := ⟨gb146, 1, none⟩) (Kd.S_far (p := ⟨gb146, 0, none⟩) (Kd.S_types HO144.out BK146.out (by decide)) (fun _ hk => hk.2) (.slice Ao23 t139.length co23)) (fun _ hk => hk.2) (.slice Ao25 t142.length co25)) (fun _ h_ => h_.1)))); (case side4 => exact (Kd.S_reads' HO144.out).2.1); rintro e w26 ⟨v148, v151, rfl, ho0, ho1, hb⟩; refine ⟨_, rfl, ?_⟩; have HO149 := Am (Kd.R_lower (Kd.R_new' ho0 (Kd.R_lt (by (with_reducible repeat (first | apply Kd.R_alloc | apply Kd.R_drewN | apply Kd.R_drew)); exact (Kd.R_mono (Kd.R_far (p := ⟨gb146, 1, none⟩) (Kd.R_far (p := ⟨gb146, 0, none⟩) (Kd.R_types HO141.out BK146.out (by decide)) (fun _ hk => hk.2) (.slice Ao23 t139.length co23)) (fun _ hk => hk.2) (.slice Ao25 t142.length co25)) (fun _ h_ => h_.1))))) (below_size (by repeat (first | (with_reducible first | exact HB.out | apply bl | apply pN | apply b1 | refine bs ?_ GE146.out) | exact HB.out | exact HBo.out)))); have HO152 := Am (Kd.S_lower (Kd.S_new' ho1 (Kd.S_lt (by (with_reducible repeat (first | apply Kd.S_alloc | apply Kd.S_drewN | apply Kd.S_drew)); exact (Kd.S_mono (Kd.S_far (p := ⟨gb146, 1, none⟩) (Kd.S_far (p := ⟨gb146, 0, none⟩) (Kd.S_types HO144.out BK146.out (by decide)) (fun _ hk => hk.2) (.slice Ao23 t139.length co23)) (fun _ hk => hk.2) (.slice Ao25 t142.length co25)) (fun _ h_ => h_.1))))) (below_size (by repeat (first | (with_reducible first | exact HB.out | apply bl | apply pN | apply b1 | refine bs ?_ GE146.out) | exact HB.out | exact HBo.out)))); replace HO141 := Am (Kd.R_elder' (by (with_reducible repeat (first | apply Kd.R_alloc | apply Kd.R_drewN | apply Kd.R_drew)); exact (Kd.R_mono (Kd.R_far (p := ⟨gb146, 1, none⟩) (Kd.R_far (p := ⟨gb146, 0, none⟩) (Kd.R_types HO141.out BK146.out (by decide)) (fun _ hk => hk.2) (.slice Ao23 t139.length co23)) (fun _ hk => hk.2) (.slice Ao25 t142.length co25)) (fun _ h_ => h_.1))) (Kd.R_base ho0) hb); replace HO144 := Am (Kd.S_elder' (by (with_reducible repeat (first | apply Kd.S_alloc | apply Kd.S_drewN | apply Kd.S_drew)); exact (Kd.S_mono (Kd.S_far (p := ⟨gb146, 1, none⟩) (Kd.S_far (p := ⟨gb146, 0, none⟩) (Kd.S_types HO144.out BK146.out (by decide)) (fun _ hk => hk.2) (.slice Ao23 t139.length co23)) (fun _ hk => hk.2) (.slice Ao25 t142.length co25)) (fun _ h_ => h_.1))) (Kd.S_base ho1) hb); replace BK146 := Am (blk_below (g := gb146) (o := .cells #[.slice Ao23 t139.length co23, .slice Ao25 t142.length co25] 25 (0, 0)) (by (with_reducible repeat (first|apply bn|apply bd|apply ba)); refine blk_put (cs := #[.slice Ao23 t139.length co23, .slice none 0 0]) ?_ 1 _ rfl; (with_reducible repeat (first|apply bn|apply bd|apply ba)); refine blk_put (cs := #[.slice none 0 0, .slice none 0 0]) ?_ 0 _ rfl; (with_reducible repeat (first|apply bn|apply bd|apply ba)); exact BK146.out) hb); replace HB := Am (below_step (by repeat (first | (with_reducible first | exact HB.out | apply bl | apply pN | apply b1 | refine bs ?_ GE146.out) | exact HB.out | exact HBo.out)) hb); (try clear hb); (try clear hb2); (try clear hk); (try clear hi); (try clear ho0); (try clear ho1)) | ((with_reducible refine gate_dst (N := 3) rfl ?_); (try (refine gate_guard (by rfl) ?_; dsimp only)); refine box_event ?hg (N := 3) ?hd (cs := #[.slice none 0 0, .slice none 0 0]) (t := 25) ?hr ?_; (case hd => rfl); (case hg => rfl); (case hr => first | (go_simp; done) | (go_simp; rfl)); intro gb154 hg w27 hbox hb; have BK154 := Am (hbox); have GW154 := Am ((by rw [hg]; exact (below_size (by repeat (first | (with_reducible first | exact HB.out | apply bl | apply pN | apply b1 | refine bs ?_ GE146.out) | exact HB.out | exact HBo.out))) : w.heap.size ≤ gb154)); have GE154 := GW154; have NB146_154 := Am ((by rw [hg]; exact Nat.ne_of_lt (blk_lt (g := gb146) (o := .cells #[.slice Ao23 t139.length co23, .slice Ao25 t142.length co25] 25 (0, 0)) (by (with_reducible repeat (first|apply bn|apply bd|apply ba)); exact BK146.out)) : gb146 ≠ gb154)); have NB154_146 := Am NB146_154.out.symm; replace HO141 := Am (Kd.R_below (by (with_reducible repeat (first | apply Kd.R_alloc | apply Kd.R_drewN | apply Kd.R_drew)); exact HO141.out) hb); replace HO144 := Am (Kd.S_below (by (with_reducible repeat (first | apply Kd.S_alloc | apply Kd.S_drewN | apply Kd.S_drew)); exact HO144.out) hb); replace HO149 := Am (Kd.R_below (by (with_reducible repeat (first | apply Kd.R_alloc | apply Kd.R_drewN | apply Kd.R_drew)); exact HO149.out) hb); replace HO152 := Am (Kd.S_below (by (with_reducible repeat (first | apply Kd.S_alloc | apply Kd.S_drewN | apply Kd.S_drew)); exact HO152.out) hb); replace BK146 := Am (blk_below (g := gb146) (o := .cells #[.slice Ao23 t139.length co23, .slice Ao25 t142.length co25] 25 (0, 0)) (by (with_reducible repeat (first|apply bn|apply bd|apply ba)); exact BK146.out) hb); replace HB := Am (below_step (by repeat (first | (with_reducible first | exact HB.out | apply bl | apply pN | apply b1 | refine bs ?_ GE146.out) | exact HB.out | exact HBo.out)) hb); clear hb hbox hg; obtain ⟨Ao28, co28, eo28⟩ := Kd.R_slice HO149.out; subst eo28; have hnb29 := NB154_146.out; have hnc29 := NB146_154.out; have hcz30_0 := Own.bc2 BK154.out 0; have hcz30_1 := Own.bc2 BK154.out 1; have hfz30_0 := bf BK154.out 0; have hfz30_1 := bf BK154.out 1; obtain ⟨Ao31, co31, eo31⟩ := Kd.S_slice HO152.out; subst eo31) | ((with_reducible refine gate_callee (f := 11) rfl ?_); refine Own.gL_ (some 27) Try.func11 (#[.agg #[.slice Ao28 t147.length co28, .slice Ao31 t150.length co31], .string (⟨#[97]⟩ : ByteArray)]) (h := ?_); (with_reducible refine (intern_String.calls k _ _ t147 _ _ t150 (⟨#[97]⟩ : ByteArray) t155 t158 t161 _ ?side1 ?side2 ?side3 ?side4 A3.out).mono ?_); (case side1 => refine (Kd.R_reads' (e := 9) (base := w.heap.size) (ok := fun k_ => (True ∧ some k_ ≠ (.slice Ao23 t139.length co23 : Value).ownBlock)) (n := t147.length) (c := co28) ?_).2.2; exact (by (with_reducible repeat (first | apply Kd.R_alloc | apply Kd.R_drewN | apply Kd.R_drew)); exact (Kd.R_mono (Kd.R_far (p := ⟨gb154, 1, none⟩) (Kd.R_far (p := ⟨gb154, 0, none⟩) (Kd.R_types HO149.out BK154.out (by decide)) (fun _ hk => hk.2) (.slice Ao28 t147.length co28)) (fun _ hk => hk.2) (.slice Ao31 t150.length co31)) (fun _ h_ => h_.1)))); (case side2 => exact (Kd.R_reads' HO149.out).2.1); (case side3 => refine (Kd.S_reads' (e := 46) (base := w.heap.size) (ok := fun k_ => (True ∧ some k_ ≠ (.slice Ao25 t142.length co25 : Value).ownBlock)) (n := t150.length) (c := co31) ?_).2.2; exact (by (with_reducible repeat (first | apply Kd.S_alloc | apply Kd.S_drewN | apply Kd.S_drew)); exact (Kd.S_mono (Kd.S_far (p := ⟨gb154, 1, none⟩) (Kd.S_far (p := ⟨gb154, 0, none⟩) (Kd.S_types HO152.out BK154.out (by decide)) (fun _ hk => hk.2) (.slice Ao28 t147.length co28)) (fun _ hk => hk.2) (.slice Ao31 t150.length co31)) (fun _ h_ => h_.1)))); (case side4 => exact (Kd.S_reads' HO152.out).2.1); rintro e w32 ⟨v156, v159, rfl, ho0, ho1, hb⟩; refine ⟨_, rfl, ?_⟩; have HO157 := Am (Kd.R_lower (Kd.R_new' (Kd.R_new' ho0 (Kd.R_lt (by (with_reducible repeat (first | apply Kd.R_alloc | apply Kd.R_drewN | apply Kd.R_drew)); exact (Kd.R_mono (Kd.R_far (p := ⟨gb154, 1, none⟩) (Kd.R_far (p := ⟨gb154, 0, none⟩) (Kd.R_types HO141.out BK154.out (by decide)) (fun _ hk => hk.2) (.slice Ao28 t147.length co28)) (fun _ hk => hk.2) (.slice Ao31 t150.length co31)) (fun _ h_ => h_.1))))) (Kd.R_lt (by (with_reducible repeat (first | apply Kd.R_alloc | apply Kd.R_drewN | apply Kd.R_drew)); exact (Kd.R_mono (Kd.R_far (p := ⟨gb154, 1, none⟩) (Kd.R_far (p := ⟨gb154, 0, none⟩) (Kd.R_types HO149.out BK154.out (by decide)) (fun _ hk => hk.2) (.slice Ao28 t147.length co28)) (fun _ hk => hk.2) (.slice Ao31 t150.length co31)) (fun _ h_ => h_.1))))) (below_size (by repeat (first | (with_reducible first | exact HB.out | apply bl | apply pN | apply b1 | refine bs ?_ GE146.out | refine bs ?_ GE154.out) | exact HB.out | exact HBo.out)))); have HO160 := Am (Kd.S_lower (Kd.S_new' (Kd.S_new' ho1 (Kd.S_lt (by (with_reducible repeat (first | apply Kd.S_alloc | apply Kd.S_drewN | apply Kd.S_drew)); exact (Kd.S_mono (Kd.S_far (p := ⟨gb154, 1, none⟩) (Kd.S_far (p := ⟨gb154, 0, none⟩) (Kd.S_types HO144.out BK154.out (by decide)) (fun _ hk => hk.2) (.slice Ao28 t147.length co28)) (fun _ hk => hk.2) (.slice Ao31 t150.length co31)) (fun _ h_ => h_.1))))) (Kd.S_lt (by (with_reducible repeat (first | apply Kd.S_alloc | apply Kd.S_drewN | apply Kd.S_drew)); exact (Kd.S_mono (Kd.S_far (p := ⟨gb154, 1, none⟩) (Kd.S_far (p := ⟨gb154, 0, none⟩) (Kd.S_types HO152.out BK154.out (by decide)) (fun _ hk => hk.2) (.slice Ao28 t147.length co28)) (fun _ hk => hk.2) (.slice Ao31 t150.length co31)) (fun _ h_ => h_.1))))) (below_size (by repeat (first | (with_reducible first | exact HB.out | apply bl | apply pN | apply b1 | refine bs ?_ GE146.out | refine bs ?_ GE154.out) | exact HB.out | exact HBo.out)))); replace HO141 := Am (Kd.R_elder' (by (with_reducible repeat (first | apply Kd.R_alloc | apply Kd.R_drewN | apply Kd.R_drew)); exact (Kd.R_mono (Kd.R_far (p := ⟨gb154, 1, none⟩) (Kd.R_far (p := ⟨gb154, 0, none⟩) (Kd.R_types HO141.out BK154.out (by decide)) (fun _ hk => hk.2) (.slice Ao28 t147.length co28)) (fun _ hk => hk.2) (.slice Ao31 t150.length co31)) (fun _ h_ => h_.1))) (Kd.R_base ho0) hb); replace HO144 := Am (Kd.S_elder' (by (with_reducible repeat (first | apply Kd.S_alloc | apply Kd.S_drewN | apply Kd.S_drew)); exact (Kd.S_mono (Kd.S_far (p := ⟨gb154, 1, none⟩) (Kd.S_far (p := ⟨gb154, 0, none⟩) (Kd.S_types HO144.out BK154.out (by decide)) (fun _ hk => hk.2) (.slice Ao28 t147.length co28)) (fun _ hk => hk.2) (.slice Ao31 t150.length co31)) (fun _ h_ => h_.1))) (Kd.S_base ho1) hb); replace HO149 := Am (Kd.R_elder' (by (with_reducible repeat (first | apply Kd.R_alloc | apply Kd.R_drewN | apply Kd.R_drew)); exact (Kd.R_mono (Kd.R_far (p := ⟨gb154, 1, none⟩) (Kd.R_far (p := ⟨gb154, 0, none⟩) (Kd.R_types HO149.out BK154.out (by decide)) (fun _ hk => hk.2) (.slice Ao28 t147.length co28)) (fun _ hk => hk.2) (.slice Ao31 t150.length co31)) (fun _ h_ => h_.1))) (Kd.R_base ho0) hb); replace HO152 := Am (Kd.S_elder' (by (with_reducible repeat (first | apply Kd.S_alloc | apply Kd.S_drewN | apply Kd.S_drew)); exact (Kd.S_mono (Kd.S_far (p := ⟨gb154, 1, none⟩) (Kd.S_far (p := ⟨gb154, 0, none⟩) (Kd.S_types HO152.out BK154.out (by decide)) (fun _ hk => hk.2) (.slice Ao28 t147.length co28)) (fun _ hk => hk.2) (.slice Ao31 t150.length co31)) (fun _ h_ => h_.1))) (Kd.S_base ho1) hb); replace BK146 := Am (blk_below (g := gb146) (o := .cells #[.slice Ao23 t139.length co23, .slice Ao25 t142.length co25] 25 (0, 0)) (by (with_reducible repeat (first|apply bn|apply bd|apply ba)); refine blk_far ?_ NB146_154.out _; (with_reducible repeat (first|apply bn|apply bd|apply ba)); refine blk_far ?_ NB146_154.out _; (with_reducible repeat (first|apply bn|apply bd|apply ba)); exact BK146.out) hb); replace BK154 := Am (blk_below (g := gb154) (o := .cells #[.slice Ao28 t147.length co28, .slice Ao31 t150.length co31] 25 (0, 0)) (by (with_reducible repeat (first|apply bn|apply bd|apply ba)); refine blk_put (cs := #[.slice Ao28 t147.length co28, .slice none 0 0]) ?_ 1 _ rfl; (with_reducible repeat (first|apply bn|apply bd|apply ba)); refine blk_put (cs := #[.slice none 0 0, .slice none 0 0]) ?_ 0 _ rfl; (with_reducible repeat (first|apply bn|apply bd|apply ba)); exact BK154.out) hb); replace HB := Am (below_step (by repeat (first | (with_reducible first | exact HB.out | apply bl | apply pN | apply b1 | refine bs ?_ GE146.out | refine bs ?_ GE154.out) | exact HB.out | exact HBo.out)) hb); (try clear hb); (try clear hb2); (try clear hk); (try clear hi); (try clear ho0); (try clear ho1)) | ((with_reducible refine gate_dst (N := 5) rfl ?_); (try (refine gate_guard (by rfl) ?_; dsimp only)); refine box_event ?hg (N := 5) ?hd (cs := #[.slice none 0 0, .slice none 0 0]) (t := 25) ?hr ?_; (case hd => rfl); (case hg => rfl); (case hr => first | (go_simp; done) | (go_simp; rfl)); intro gb162 hg w33 hbox hb; have BK162 := Am (hbox); have GW162 := Am ((by rw [hg]; exact (below_size (by repeat (first | (with_reducible first | exact HB.out | apply bl | apply pN | apply b1 | refine bs ?_ GE146.out | refine bs ?_ GE154.out) | exact HB.out | exact HBo.out))) : w.heap.size ≤ gb162)); have GE162 := GW162; have NB146_162 := Am ((by rw [hg]; exact Nat.ne_of_lt (blk_lt (g := gb146) (o := .cells #[.slice Ao23 t139.length co23, .slice Ao25 t142.length co25] 25 (0, 0)) (by (with_reducible repeat (first|apply bn|apply bd|apply ba)); exact BK146.out)) : gb146 ≠ gb162)); have NB162_146 := Am NB146_162.out.symm; have NB154_162 := Am ((by rw [hg]; exact Nat.ne_of_lt (blk_lt (g := gb154) (o := .cells #[.slice Ao28 t147.length co28, .slice Ao31 t150.length co31] 25 (0, 0)) (by (with_reducible repeat (first|apply bn|apply bd|apply ba)); exact BK154.out)) : gb154 ≠ gb162)); have NB162_154 := Am NB154_162.out.symm; replace HO141 := Am (Kd.R_below (by (with_reducible repeat (first | apply Kd.R_alloc | apply Kd.R_drewN | apply Kd.R_drew)); exact HO141.out) hb); replace HO144 := Am (Kd.S_below (by (with_reducible repeat (first | apply Kd.S_alloc | apply Kd.S_drewN | apply Kd.S_drew)); exact HO144.out) hb); replace HO149 := Am (Kd.R_below (by (with_reducible repeat (first | apply Kd.R_alloc | apply Kd.R_drewN | apply Kd.R_drew)); exact HO149.out) hb); replace HO152 := Am (Kd.S_below (by (with_reducible repeat (first | apply Kd.S_alloc | apply Kd.S_drewN | apply Kd.S_drew)); exact HO152.out) hb); replace HO157 := Am (Kd.R_below (by (with_reducible repeat (first | apply Kd.R_alloc | apply Kd.R_drewN | apply Kd.R_drew)); exact HO157.out) hb); replace HO160 := Am (Kd.S_below (by (with_reducible repeat (first | apply Kd.S_alloc | apply Kd.S_drewN | apply Kd.S_drew)); exact HO160.out) hb); replace BK146 := Am (blk_below (g := gb146) (o := .cells #[.slice Ao23 t139.length co23, .slice Ao25 t142.length co25] 25 (0, 0)) (by (with_reducible repeat (first|apply bn|apply bd|apply ba)); exact BK146.out) hb); replace BK154 := Am (blk_below (g := gb154) (o := .cells #[.slice Ao28 t147.length co28, .slice Ao31 t150.length co31] 25 (0, 0)) (by (with_reducible repeat (first|apply bn|apply bd|apply ba)); exact BK154.out) hb); replace HB := Am (below_step (by repeat (first | (with_reducible first | exact HB.out | apply bl | apply pN | apply b1 | refine bs ?_ GE146.out | refine bs ?_ GE154.out) | exact HB.out | exact HBo.out)) hb); clear hb hbox hg; obtain ⟨Ao34, co34, eo34⟩ := Kd.R_slice HO157.out; subst eo34; have hnb35 := NB162_146.out; have hnc35 := NB146_162.out; have hnb36 := NB162_154.out; have hnc36 := NB154_162.out; have hcz37_0 := Own.bc2 BK162.out 0; have hcz37_1 := Own.bc2 BK162.out 1; have hfz37_0 := bf BK162.out 0; have hfz37_1 := bf BK162.out 1; obtain ⟨Ao38, co38, eo38⟩ := Kd.S_slice HO160.out; subst eo38; have hcz39_0 := Own.bc2 BK154.out 0; have hcz39_1 := Own.bc2 BK154.out 1; have hfz39_0 := bf BK154.out 0; have hfz39_1 := bf BK154.out 1) | ((with_reducible refine gate_dst (N := 34) rfl ?_); (try (refine gate_guard (by rfl) ?_; dsimp only)); refine Kd.R_lit k45 _ 45 ?hg (N := 34) ?hd (xs := ([(⟨(⟨#[98]⟩ : ByteArray), 3⟩ : S45), (⟨(⟨#[99]⟩ : ByteArray), 4⟩ : S45)] : List (S45))) (inner := [.string (⟨#[98]⟩ : ByteArray), .int .i64 3, .string (⟨#[99]⟩ : ByteArray), .int .i64 4]) (ok := fun _ => True) (okp := fun _ => True) ?hr ?hp (fun _ hk => hk) trivial (Below.refl _ _) (Nat.le_refl _) (by simp) ?_; (case hd => rfl); (case hg => rfl); (case hr => first | (go_simp; done) | (go_simp; rfl)); (case hp => exact (Reps.c2 (show Kd.M k45 _ _ _ (⟨(⟨#[98]⟩ : ByteArray), 3⟩ : S45) [.string (⟨#[98]⟩ : ByteArray), .int .i64 3] from (k45_mkM _ _ _ (⟨(⟨#[98]⟩ : ByteArray), 3⟩ : S45) )) (Reps.c2 (show Kd.M k45 _ _ _ (⟨(⟨#[99]⟩ : ByteArray), 4⟩ : S45) [.string (⟨#[99]⟩ : ByteArray), .int .i64 4] from (k45_mkM _ _ _ (⟨(⟨#[99]⟩ : ByteArray), 4⟩ : S45) )) (Reps.none _ _)))); intro v164 w40 ho41 hb hg_ hnew_; clear hg_ hnew_; (first | rw [← Ny163.out] at ho41 | (simp only [Int.reduceToNat] at ho41; rw [← Ny163.out] at ho41)); have HO165 := Am (Kd.R_lower ho41 (below_size (by repeat (first | (with_reducible first | exact HB.out | apply bl | apply pN | apply b1 | refine bs ?_ GE146.out | refine bs ?_ GE154.out | refine bs ?_ GE162.out) | exact HB.out | exact HBo.out)))); replace HO141 := Am (Kd.R_below (by (with_reducible repeat (first | apply Kd.R_alloc | apply Kd.R_drewN | apply Kd.R_drew)); exact (Kd.R_mono (Kd.R_far (p := ⟨gb162, 1, none⟩) (Kd.R_far (p := ⟨gb162, 0, none⟩) (Kd.R_types HO141.out BK162.out (by decide)) (fun _ hk => hk.2) (.slice Ao34 t155.length co34)) (fun _ hk => hk.2) (.slice Ao38 t158.length co38)) (fun _ h_ => h_.1))) hb); replace HO144 := Am (Kd.S_below (by (with_reducible repeat (first | apply Kd.S_alloc | apply Kd.S_drewN | apply Kd.S_drew)); exact (Kd.S_mono (Kd.S_far (p := ⟨gb162, 1, none⟩) (Kd.S_far (p := ⟨gb162, 0, none⟩) (Kd.S_types HO144.out BK162.out (by decide)) (fun _ hk => hk.2) (.slice Ao34 t155.length co34)) (fun _ hk => hk.2) (.slice Ao38 t158.length co38)) (fun _ h_ => h_.1))) hb); replace HO149 := Am (Kd.R_below (by (with_reducible repeat (first | apply Kd.R_alloc | apply Kd.R_drewN | apply Kd.R_drew)); exact (Kd.R_mono (Kd.R_far (p := ⟨gb162, 1, none⟩) (Kd.R_far (p := ⟨gb162, 0, none⟩) (Kd.R_types HO149.out BK162.out (by decide)) (fun _ hk => hk.2) (.slice Ao34 t155.length co34)) (fun _ hk => hk.2) (.slice Ao38 t158.length co38)) (fun _ h_ => h_.1))) hb); replace HO152 := Am (Kd.S_below (by (with_reducible repeat (first | apply Kd.S_alloc | apply Kd.S_drewN | apply Kd.S_drew)); exact (Kd.S_mono (Kd.S_far (p := ⟨gb162, 1, none⟩) (Kd.S_far (p := ⟨gb162, 0, none⟩) (Kd.S_types HO152.out BK162.out (by decide)) (fun _ hk => hk.2) (.slice Ao34 t155.length co34)) (fun _ hk => hk.2) (.slice Ao38 t158.length co38)) (fun _ h_ => h_.1))) hb); replace HO157 := Am (Kd.R_below (by (with_reducible repeat (first | apply Kd.R_alloc | apply Kd.R_drewN | apply Kd.R_drew)); exact (Kd.R_mono (Kd.R_far (p := ⟨gb162, 1, none⟩) (Kd.R_far (p := ⟨gb162, 0, none⟩) (Kd.R_types HO157.out BK162.out (by decide)) (fun _ hk => hk.2) (.slice Ao34 t155.length co34)) (fun _ hk => hk.2) (.slice Ao38 t158.length co38)) (fun _ h_ => h_.1))) hb); replace HO160 := Am (Kd.S_below (by (with_reducible repeat (first | apply Kd.S_alloc | apply Kd.S_drewN | apply Kd.S_drew)); exact (Kd.S_mono (Kd.S_far (p := ⟨gb162, 1, none⟩) (Kd.S_far (p := ⟨gb162, 0, none⟩) (Kd.S_types HO160.out BK162.out (by decide)) (fun _ hk => hk.2) (.slice Ao34 t155.length co34)) (fun _ hk => hk.2) (.slice Ao38 t158.length co38)) (fun _ h_ => h_.1))) hb); replace BK146 := Am (blk_below (g := gb146) (o := .cells #[.slice Ao23 t139.length co23, .slice Ao25 t142.length co25] 25 (0, 0)) (by (with_reducible repeat (first|apply bn|apply bd|apply ba)); refine blk_far ?_ NB146_162.out _; (with_reducible repeat (first|apply bn|apply bd|apply ba)); refine blk_far ?_ NB146_162.out _; (with_reducible repeat (first|apply bn|apply bd|apply ba)); exact BK146.out) hb); replace BK154 := Am (blk_below (g := gb154) (o := .cells #[.slice Ao28 t147.length co28, .slice Ao31 t150.length co31] 25 (0, 0)) (by (with_reducible repeat (first|apply bn|apply bd|apply ba)); refine blk_far ?_ NB154_162.out _; (with_reducible repeat (first|apply bn|apply bd|apply ba)); refine blk_far ?_ NB154_162.out _; (with_reducible repeat (first|apply bn|apply bd|apply ba)); exact BK154.out) hb); replace BK162 := Am (blk_below (g := gb162) (o := .cells #[.slice Ao34 t155.length co34, .slice Ao38 t158.length co38] 25 (0, 0)) (by (with_reducible repeat (first|apply bn|apply bd|apply ba)); refine blk_put (cs := #[.slice Ao34 t155.length co34, .slice none 0 0]) ?_ 1 _ rfl; (with_reducible repeat (first|apply bn|apply bd|apply ba)); refine blk_put (cs := #[.slice none 0 0, .slice none 0 0]) ?_ 0 _ rfl; (with_reducible repeat (first|apply bn|apply bd|apply ba)); exact BK162.out) hb); replace HB := Am (below_step (by repeat (first | (with_reducible first | exact HB.out | apply bl | apply pN | apply b1 | refine bs ?_ GE146.out | refine bs ?_ GE154.out | refine bs ?_ GE162.out) | exact HB.out | exact HBo.out)) hb); clear hb ho41; obtain ⟨Ao42, co42, eo42⟩ := Kd.R_slice HO165.out; subst eo42) | ((with_reducible refine gate_callee (f := 13) rfl ?_); refine Own.gL_ (some 35) Try.func13 (#[.agg #[.slice Ao28 t147.length co28, .slice Ao31 t150.length co31], .slice Ao42 y163.length co42]) (h := ?_); (with_reducible refine (intern_Stack.calls k _ _ t147 _ _ t150 _ _ y163 t166 t169 t172 _ ?side1 ?side2 ?side3 ?side4 ?side5 ?side6 A4.out).mono ?_); (case side1 => repeat (first | exact (Kd.R_reads' HO149.out).2.2 | (with_reducible refine Kd.C_alloc ?_ _) | (with_reducible refine Kd.C_drewN ?_ _) | (with_reducible refine Kd.C_drew ?_))); (case side2 => exact (Kd.R_reads' HO149.out).2.1); (case side3 => repeat (first | exact (Kd.S_reads' HO152.out).2.2 | (with_reducible refine Kd.C_alloc ?_ _) | (with_reducible refine Kd.C_drewN ?_ _) | (with_reducible refine Kd.C_drew ?_))); (case side4 => exact (Kd.S_reads' HO152.out).2.1); (case side5 => repeat (first | exact (Kd.R_reads' HO165.out).2.2 | (with_reducible refine Kd.C_alloc ?_ _) | (with_reducible refine Kd.C_drewN ?_ _) | (with_reducible refine Kd.C_drew ?_))); (case side6 => exact (Kd.R_reads' HO165.out).2.1); rintro e w43 ⟨v167, v170, rfl, ho0, ho1, hb⟩; refine ⟨_, rfl, ?_⟩; have HO168 := Am (Kd.R_lower (Kd.R_new' (Kd.R_new' (Kd.R_new' ho0 (Kd.R_lt (by (with_reducible repeat (first | apply Kd.R_alloc | apply Kd.R_drewN | apply Kd.R_drew)); exact HO141.out))) (Kd.R_lt (by (with_reducible repeat (first | apply Kd.R_alloc | apply Kd.R_drewN | apply Kd.R_drew)); exact HO149.out))) (Kd.R_lt (by (with_reducible repeat (first | apply Kd.R_alloc | apply Kd.R_drewN | apply Kd.R_drew)); exact HO157.out))) (below_size (by repeat (first | (with_reducible first | exact HB.out | apply bl | apply pN | apply b1 | refine bs ?_ GE146.out | refine bs ?_ GE154.out | refine bs ?_ GE162.out) | exact HB.out | exact HBo.out)))); have HO171 := Am (Kd.S_lower (Kd.S_new' (Kd.S_new' (Kd.S_new' ho1 (Kd.S_lt (by (with_reducible repeat (first | apply Kd.S_alloc | apply Kd.S_drewN | apply Kd.S_drew)); exact HO144.out))) (Kd.S_lt (by (with_reducible repeat (first | apply Kd.S_alloc | apply Kd.S_drewN | apply Kd.S_drew)); exact HO152.out))) (Kd.S_lt (by (with_reducible repeat (first | apply Kd.S_alloc | apply Kd.S_drewN | apply Kd.S_drew)); exact HO160.out))) (below_size (by repeat (first | (with_reducible first | exact HB.out | apply bl | apply pN | apply b1 | refine bs ?_ GE146.out | refine bs ?_ GE154.out | refine bs ?_ GE162.out) | exact HB.out | exact HBo.out)))); replace HO141 := Am (Kd.R_elder' (by (with_reducible repeat (first | apply Kd.R_alloc | apply Kd.R_drewN | apply Kd.R_drew)); exact HO141.out) (Kd.R_base ho0) hb); replace HO144 := Am (Kd.S_elder' (by (with_reducible repeat (first | apply Kd.S_alloc | apply Kd.S_drewN | apply Kd.S_drew)); exact HO144.out) (Kd.S_base ho1) hb); replace HO149 := Am (Kd.R_elder' (by (with_reducible repeat (first | apply Kd.R_alloc | apply Kd.R_drewN | apply Kd.R_drew)); exact HO149.out) (Kd.R_base ho0) hb); replace HO152 := Am (Kd.S_elder' (by (with_reducible repeat (first | apply Kd.S_alloc | apply Kd.S_drewN | apply Kd.S_drew)); exact HO152.out) (Kd.S_base ho1) hb); replace HO157 := Am (Kd.R_elder' (by (with_reducible repeat (first | apply Kd.R_alloc | apply Kd.R_drewN | apply Kd.R_drew)); exact HO157.out) (Kd.R_base ho0) hb); replace HO160 := Am (Kd.S_elder' (by (with_reducible repeat (first | apply Kd.S_alloc | apply Kd.S_drewN | apply Kd.S_drew)); exact HO160.out) (Kd.S_base ho1) hb); replace HO165 := Am (Kd.R_below (by (with_reducible repeat (first | apply Kd.R_alloc | apply Kd.R_drewN | apply Kd.R_drew)); exact HO165.out) hb); replace BK146 := Am (blk_below (g := gb146) (o := .cells #[.slice Ao23 t139.length co23, .slice Ao25 t142.length co25] 25 (0, 0)) (by (with_reducible repeat (first|apply bn|apply bd|apply ba)); exact BK146.out) hb); replace BK154 := Am (blk_below (g := gb154) (o := .cells #[.slice Ao28 t147.length co28, .slice Ao31 t150.length co31] 25 (0, 0)) (by (with_reducible repeat (first|apply bn|apply bd|apply ba)); exact BK154.out) hb); replace BK162 := Am (blk_below (g := gb162) (o := .cells #[.slice Ao34 t155.length co34, .slice Ao38 t158.length co38] 25 (0, 0)) (by (with_reducible repeat (first|apply bn|apply bd|apply ba)); exact BK162.out) hb); replace HB := Am (below_step (by repeat (first | (with_reducible first | exact HB.out | apply bl | apply pN | apply b1 | refine bs ?_ GE146.out | refine bs ?_ GE154.out | refine bs ?_ GE162.out) | exact HB.out | exact HBo.out)) hb); (try clear hb); (try clear hb2); (try clear hk); (try clear hi); (try clear ho0); (try clear ho1)) | ((with_reducible refine gate_dst (N := 7) rfl ?_); (try (refine gate_guard (by rfl) ?_; dsimp only)); refine box_event ?hg (N := 7) ?hd (cs := #[.slice none 0 0, .slice none 0 0]) (t := 25) ?hr ?_; (case hd => rfl); (case hg => rfl); (case hr => first | (go_simp; done) | (go_simp; rfl)); intro gb173 hg w44 hbox hb; have BK173 := Am (hbox); have GW173 := Am ((by rw [hg]; exact (below_size (by repeat (first | (with_reducible first | exact HB.out | apply bl | apply pN | apply b1 | refine bs ?_ GE146.out | refine bs ?_ GE154.out | refine bs ?_ GE162.out) | exact HB.out | exact HBo.out))) : w.heap.size ≤ gb173)); have GE173 := GW173; have NB146_173 := Am ((by rw [hg]; exact Nat.ne_of_lt (blk_lt (g := gb146) (o := .cells #[.slice Ao23 t139.length co23, .slice Ao25 t142.length co25] 25 (0, 0)) (by (with_reducible repeat (first|apply bn|apply bd|apply ba)); exact BK146.out)) : gb146 ≠ gb173)); have NB173_146 := Am NB146_173.out.symm; have NB154_173 := Am ((by rw [hg]; exact Nat.ne_of_lt (blk_lt (g := gb154) (o := .cells #[.slice Ao28 t147.length co28, .slice Ao31 t150.length co31] 25 (0, 0)) (by (with_reducible repeat (first|apply bn|apply bd|apply ba)); exact BK154.out)) : gb154 ≠ gb173)); have NB173_154 := Am NB154_173.out.symm; have NB162_173 := Am ((by rw [hg]; exact Nat.ne_of_lt (blk_lt (g := gb162) (o := .cells #[.slice Ao34 t155.length co34, .slice Ao38 t158.length co38] 25 (0, 0)) (by (with_reducible repeat (first|apply bn|apply bd|apply ba)); exact BK162.out)) : gb162 ≠ gb173)); have NB173_162 := Am NB162_173.out.symm; replace HO141 := Am (Kd.R_below (by (with_reducible repeat (first | apply Kd.R_alloc | apply Kd.R_drewN | apply Kd.R_drew)); exact HO141.out) hb); replace HO144 := Am (Kd.S_below (by (with_reducible repeat (first | apply Kd.S_alloc | apply Kd.S_drewN | apply Kd.S_drew)); exact HO144.out) hb); replace HO149 := Am (Kd.R_below (by (with_reducible repeat (first | apply Kd.R_alloc | apply Kd.R_drewN | apply Kd.R_drew)); exact HO149.out) hb); replace HO152 := Am (Kd.S_below (by (with_reducible repeat (first | apply Kd.S_alloc | apply Kd.S_drewN | apply Kd.S_drew)); exact HO152.out) hb); replace HO157 := Am (Kd.R_below (by (with_reducible repeat (first | apply Kd.R_alloc | apply Kd.R_drewN | apply Kd.R_drew)); exact HO157.out) hb); replace HO160 := Am (Kd.S_below (by (with_reducible repeat (first | apply Kd.S_alloc | apply Kd.S_drewN | apply Kd.S_drew)); exact HO160.out) hb); replace HO165 := Am (Kd.R_below (by (with_reducible repeat (first | apply Kd.R_alloc | apply Kd.R_drewN | apply Kd.R_drew)); exact HO165.out) hb); replace HO168 := Am (Kd.R_below (by (with_reducible repeat (first | apply Kd.R_alloc | apply Kd.R_drewN | apply Kd.R_drew)); exact HO168.out) hb); replace HO171 := Am (Kd.S_below (by (with_reducible repeat (first | apply Kd.S_alloc | apply Kd.S_drewN | apply Kd.S_drew)); exact HO171.out) hb); replace BK146 := Am (blk_below (g := gb146) (o := .cells #[.slice Ao23 t139.length co23, .slice Ao25 t142.length co25] 25 (0, 0)) (by (with_reducible repeat (first|apply bn|apply bd|apply ba)); exact BK146.out) hb); replace BK154 := Am (blk_below (g := gb154) (o := .cells #[.slice Ao28 t147.length co28, .slice Ao31 t150.length co31] 25 (0, 0)) (by (with_reducible repeat (first|apply bn|apply bd|apply ba)); exact BK154.out) hb); replace BK162 := Am (blk_below (g := gb162) (o := .cells #[.slice Ao34 t155.length co34, .slice Ao38 t158.length co38] 25 (0, 0)) (by (with_reducible repeat (first|apply bn|apply bd|apply ba)); exact BK162.out) hb); replace HB := Am (below_step (by repeat (first | (with_reducible first | exact HB.out | apply bl | apply pN | apply b1 | refine bs ?_ GE146.out | refine bs ?_ GE154.out | refine bs ?_ GE162.out) | exact HB.out | exact HBo.out)) hb); clear hb hbox hg; obtain ⟨Ao45, co45, eo45⟩ := Kd.R_slice HO168.out; subst eo45; have hnb46 := NB173_146.out; have hnc46 := NB146_173.out; have hnb47 := NB173_154.out; have hnc47 := NB154_173.out; have hnb48 := NB173_162.out; have hnc48 := NB162_173.out; have hcz49_0 := Own.bc2 BK173.out 0; have hcz49_1 := Own.bc2 BK173.out 1; have hfz49_0 := bf BK173.out 0; have hfz49_1 := bf BK173.out 1; obtain ⟨Ao50, co50, eo50⟩ := Kd.S_slice HO171.out; subst eo50) | ((with_reducible refine gate_callee (f := 17) rfl ?_); refine Own.gL_ (some 41) Try.func17 (#[.agg #[.slice Ao45 t166.length co45, .slice Ao50 t169.length co50], .int .i64 t172]) (h := ?_); (with_reducible refine (intern_Frames.calls k _ _ t166 _ _ t169 t172 t174 true _ ?side1 ?side2 ?side3 ?side4 A5.out).mono ?_); (case side1 => refine (Kd.R_reads' (e := 9) (base := w.heap.size) (ok := fun k_ => (((True ∧ some k_ ≠ (.slice Ao23 t139.length co23 : Value).ownBlock) ∧ some k_ ≠ (.slice Ao28 t147.length co28 : Value).ownBlock) ∧ some k_ ≠ (.slice Ao34 t155.length co34 : Value).ownBlock)) (n := t166.length) (c := co45) ?_).2.2; exact (by (with_reducible repeat (first | apply Kd.R_alloc | apply Kd.R_drewN | apply Kd.R_drew)); exact (Kd.R_mono (Kd.R_far (p := ⟨gb173, 1, none⟩) (Kd.R_far (p := ⟨gb173, 0, none⟩) (Kd.R_types HO168.out BK173.out (by decide)) (fun _ hk => hk.2) (.slice Ao45 t166.length co45)) (fun _ hk => hk.2) (.slice Ao50 t169.length co50)) (fun _ h_ => h_.1)))); (case side2 => exact (Kd.R_reads' HO168.out).2.1); (case side3 => refine (Kd.S_reads' (e := 46) (base := w.heap.size) (ok := fun k_ => (((True ∧ some k_ ≠ (.slice Ao25 t142.length co25 : Value).ownBlock) ∧ some k_ ≠ (.slice Ao31 t150.length co31 : Value).ownBlock) ∧ some k_ ≠ (.slice Ao38 t158.length co38 : Value).ownBlock)) (n := t169.length) (c := co50) ?_).2.2; exact (by (with_reducible repeat (first | apply Kd.S_alloc | apply Kd.S_drewN | apply Kd.S_drew)); exact (Kd.S_mono (Kd.S_far (p := ⟨gb173, 1, none⟩) (Kd.S_far (p := ⟨gb173, 0, none⟩) (Kd.S_types HO171.out BK173.out (by decide)) (fun _ hk => hk.2) (.slice Ao45 t166.length co45)) (fun _ hk => hk.2) (.slice Ao50 t169.length co50)) (fun _ h_ => h_.1)))); (case side4 => exact (Kd.S_reads' HO171.out).2.1); rintro e w51 ⟨v175, rfl, ho0, hb⟩; refine ⟨_, rfl, ?_⟩; have HO176 := Am (Kd.R_lower (Kd.R_new' ho0 (Kd.R_lt (by (with_reducible repeat (first | apply Kd.R_alloc | apply Kd.R_drewN | apply Kd.R_drew)); exact (Kd.R_mono (Kd.R_far (p := ⟨gb173, 1, none⟩) (Kd.R_far (p := ⟨gb173, 0, none⟩) (Kd.R_types HO165.out BK173.out (by decide)) (fun _ hk => hk.2) (.slice Ao45 t166.length co45)) (fun _ hk => hk.2) (.slice Ao50 t169.length co50)) (fun _ h_ => h_.1))))) (below_size (by repeat (first | (with_reducible first | exact HB.out | apply bl | apply pN | apply b1 | refine bs ?_ GE146.out | refine bs ?_ GE154.out | refine bs ?_ GE162.out | refine bs ?_ GE173.out) | exact HB.out | exact HBo.out)))); replace HO141 := Am (Kd.R_below (by (with_reducible repeat (first | apply Kd.R_alloc | apply Kd.R_drewN | apply Kd.R_drew)); exact (Kd.R_mono (Kd.R_far (p := ⟨gb173, 1, none⟩) (Kd.R_far (p := ⟨gb173, 0, none⟩) (Kd.R_types HO141.out BK173.out (by decide)) (fun _ hk => hk.2) (.slice Ao45 t166.length co45)) (fun _ hk => hk.2) (.slice Ao50 t169.length co50)) (fun _ h_ => h_.1))) hb); replace HO144 := Am (Kd.S_below (by (with_reducible repeat (first | apply Kd.S_alloc | apply Kd.S_drewN | apply Kd.S_drew)); exact (Kd.S_mono (Kd.S_far (p := ⟨gb173, 1, none⟩) (Kd.S_far (p := ⟨gb173, 0, none⟩) (Kd.S_types HO144.out BK173.out (by decide)) (fun _ hk => hk.2) (.slice Ao45 t166.length co45)) (fun _ hk => hk.2) (.slice Ao50 t169.length co50)) (fun _ h_ => h_.1))) hb); replace HO149 := Am (Kd.R_below (by (with_reducible repeat (first | apply Kd.R_alloc | apply Kd.R_drewN | apply Kd.R_drew)); exact (Kd.R_mono (Kd.R_far (p := ⟨gb173, 1, none⟩) (Kd.R_far (p := ⟨gb173, 0, none⟩) (Kd.R_types HO149.out BK173.out (by decide)) (fun _ hk => hk.2) (.slice Ao45 t166.length co45)) (fun _ hk => hk.2) (.slice Ao50 t169.length co50)) (fun _ h_ => h_.1))) hb); replace HO152 := Am (Kd.S_below (by (with_reducible repeat (first | apply Kd.S_alloc | apply Kd.S_drewN | apply Kd.S_drew)); exact (Kd.S_mono (Kd.S_far (p := ⟨gb173, 1, none⟩) (Kd.S_far (p := ⟨gb173, 0, none⟩) (Kd.S_types HO152.out BK173.out (by decide)) (fun _ hk => hk.2) (.slice Ao45 t166.length co45)) (fun _ hk => hk.2) (.slice Ao50 t169.length co50)) (fun _ h_ => h_.1))) hb); replace HO157 := Am (Kd.R_below (by (with_reducible repeat (first | apply Kd.R_alloc | apply Kd.R_drewN | apply Kd.R_drew)); exact (Kd.R_mono (Kd.R_far (p := ⟨gb173, 1, none⟩) (Kd.R_far (p := ⟨gb173, 0, none⟩) (Kd.R_types HO157.out BK173.out (by decide)) (fun _ hk => hk.2) (.slice Ao45 t166.length co45)) (fun _ hk => hk.2) (.slice Ao50 t169.length co50)) (fun _ h_ => h_.1))) hb); replace HO160 := Am (Kd.S_below (by (with_reducible repeat (first | apply Kd.S_alloc | apply Kd.S_drewN | apply Kd.S_drew)); exact (Kd.S_mono (Kd.S_far (p := ⟨gb173, 1, none⟩) (Kd.S_far (p := ⟨gb173, 0, none⟩) (Kd.S_types HO160.out BK173.out (by decide)) (fun _ hk => hk.2) (.slice Ao45 t166.length co45)) (fun _ hk => hk.2) (.slice Ao50 t169.length co50)) (fun _ h_ => h_.1))) hb); replace HO165 := Am (Kd.R_elder' (by (with_reducible repeat (first | apply Kd.R_alloc | apply Kd.R_drewN | apply Kd.R_drew)); exact (Kd.R_mono (Kd.R_far (p := ⟨gb173, 1, none⟩) (Kd.R_far (p := ⟨gb173, 0, none⟩) (Kd.R_types HO165.out BK173.out (by decide)) (fun _ hk => hk.2) (.slice Ao45 t166.length co45)) (fun _ hk => hk.2) (.slice Ao50 t169.length co50)) (fun _ h_ => h_.1))) (Kd.R_base ho0) hb); replace HO168 := Am (Kd.R_below (by (with_reducible repeat (first | apply Kd.R_alloc | apply Kd.R_drewN | apply Kd.R_drew)); exact (Kd.R_mono (Kd.R_far (p := ⟨gb173, 1, none⟩) (Kd.R_far (p := ⟨gb173, 0, none⟩) (Kd.R_types HO168.out BK173.out (by decide)) (fun _ hk => hk.2) (.slice Ao45 t166.length co45)) (fun _ hk => hk.2) (.slice Ao50 t169.length co50)) (fun _ h_ => h_.1))) hb); replace HO171 := Am (Kd.S_below (by (with_reducible repeat (first | apply Kd.S_alloc | apply Kd.S_drewN | apply Kd.S_drew)); exact (Kd.S_mono (Kd.S_far (p := ⟨gb173, 1, none⟩) (Kd.S_far (p := ⟨gb173, 0, none⟩) (Kd.S_types HO171.out BK173.out (by decide)) (fun _ hk => hk.2) (.slice Ao45 t166.length co45)) (fun _ hk => hk.2) (.slice Ao50 t169.length co50)) (fun _ h_ => h_.1))) hb); replace BK146 := Am (blk_below (g := gb146) (o := .cells #[.slice Ao23 t139.length co23, .slice Ao25 t142.length co25] 25 (0, 0)) (by (with_reducible repeat (first|apply bn|apply bd|apply ba)); refine blk_far ?_ NB146_173.out _; (with_reducible repeat (first|apply bn|apply bd|apply ba)); refine blk_far ?_ NB146_173.out _; (with_reducible repeat (first|apply bn|apply bd|apply ba)); exact BK146.out) hb); replace BK154 := Am (blk_below (g := gb154) (o := .cells #[.slice Ao28 t147.length co28, .slice Ao31 t150.length co31] 25 (0, 0)) (by (with_reducible repeat (first|apply bn|apply bd|apply ba)); refine blk_far ?_ NB154_173.out _; (with_reducible repeat (first|apply bn|apply bd|apply ba)); refine blk_far ?_ NB154_173.out _; (with_reducible repeat (first|apply bn|apply bd|apply ba)); exact BK154.out) hb); replace BK162 := Am (blk_below (g := gb162) (o := .cells #[.slice Ao34 t155.length co34, .slice Ao38 t158.length co38] 25 (0, 0)) (by (with_reducible repeat (first|apply bn|apply bd|apply ba)); refine blk_far ?_ NB162_173.out _; (with_reducible repeat (first|apply bn|apply bd|apply ba)); refine blk_far ?_ NB162_173.out _; (with_reducible repeat (first|apply bn|apply bd|apply ba)); exact BK162.out) hb); replace BK173 := Am (blk_below (g := gb173) (o := .cells #[.slice Ao45 t166.length co45, .slice Ao50 t169.length co50] 25 (0, 0)) (by (with_reducible repeat (first|apply bn|apply bd|apply ba)); refine blk_put (cs := #[.slice Ao45 t166.length co45, .slice none 0 0]) ?_ 1 _ rfl; (with_reducible repeat (first|apply bn|apply bd|apply ba)); refine blk_put (cs := #[.slice none 0 0, .slice none 0 0]) ?_ 0 _ rfl; (with_reducible repeat (first|apply bn|apply bd|apply ba)); exact BK173.out) hb); replace HB := Am (below_step (by repeat (first | (with_reducible first | exact HB.out | apply bl | apply pN | apply b1 | refine bs ?_ GE146.out | refine bs ?_ GE154.out | refine bs ?_ GE162.out | refine bs ?_ GE173.out) | exact HB.out | exact HBo.out)) hb); (try clear hb); (try clear hb2); (try clear hk); (try clear hi); (try clear ho0); have hcz52_0 := Own.bc2 BK173.out 0; have hcz52_1 := Own.bc2 BK173.out 1; have hfz52_0 := bf BK173.out 0; have hfz52_1 := bf BK173.out 1) | ((with_reducible refine gate_callee (f := 15) rfl ?_); refine Own.gL_ (some 46) Try.func15 (#[.agg #[.slice Ao45 t166.length co45, .slice Ao50 t169.length co50], .int .i64 3]) (h := ?_); (with_reducible refine (intern_Name.calls k _ _ t166 _ _ t169 3 t178 true _ ?side1 ?side2 ?side3 ?side4 A6.out).mono ?_); (case side1 => repeat (first | exact (Kd.R_reads' HO168.out).2.2 | (with_reducible refine Kd.C_alloc ?_ _) | (with_reducible refine Kd.C_drewN ?_ _) | (with_reducible refine Kd.C_drew ?_))); (case side2 => exact (Kd.R_reads' HO168.out).2.1); (case side3 => repeat (first | exact (Kd.S_reads' HO171.out).2.2 | (with_reducible refine Kd.C_alloc ?_ _) | (with_reducible refine Kd.C_drewN ?_ _) | (with_reducible refine Kd.C_drew ?_))); (case side4 => exact (Kd.S_reads' HO171.out).2.1); rintro e w53 ⟨rfl, hb⟩; refine ⟨_, rfl, ?_⟩; replace HO141 := Am (Kd.R_below (by (with_reducible repeat (first | apply Kd.R_alloc | apply Kd.R_drewN | apply Kd.R_drew)); exact HO141.out) hb); replace HO144 := Am (Kd.S_below (by (with_reducible repeat (first | apply Kd.S_alloc | apply Kd.S_drewN | apply Kd.S_drew)); exact HO144.out) hb); replace HO149 := Am (Kd.R_below (by (with_reducible repeat (first | apply Kd.R_alloc | apply Kd.R_drewN | apply Kd.R_drew)); exact HO149.out) hb); replace HO152 := Am (Kd.S_below (by (with_reducible repeat (first | apply Kd.S_alloc | apply Kd.S_drewN | apply Kd.S_drew)); exact HO152.out) hb); replace HO157 := Am (Kd.R_below (by (with_reducible repeat (first | apply Kd.R_alloc | apply Kd.R_drewN | apply Kd.R_drew)); exact HO157.out) hb); replace HO160 := Am (Kd.S_below (by (with_reducible repeat (first | apply Kd.S_alloc | apply Kd.S_drewN | apply Kd.S_drew)); exact HO160.out) hb); replace HO165 := Am (Kd.R_below (by (with_reducible repeat (first | apply Kd.R_alloc | apply Kd.R_drewN | apply Kd.R_drew)); exact HO165.out) hb); replace HO168 := Am (Kd.R_below (by (with_reducible repeat (first | apply Kd.R_alloc | apply Kd.R_drewN | apply Kd.R_drew)); exact HO168.out) hb); replace HO171 := Am (Kd.S_below (by (with_reducible repeat (first | apply Kd.S_alloc | apply Kd.S_drewN | apply Kd.S_drew)); exact HO171.out) hb); replace HO176 := Am (Kd.R_below (by (with_reducible repeat (first | apply Kd.R_alloc | apply Kd.R_drewN | apply Kd.R_drew)); exact HO176.out) hb); replace BK146 := Am (blk_below (g := gb146) (o := .cells #[.slice Ao23 t139.length co23, .slice Ao25 t142.length co25] 25 (0, 0)) (by (with_reducible repeat (first|apply bn|apply bd|apply ba)); exact BK146.out) hb); replace BK154 := Am (blk_below (g := gb154) (o := .cells #[.slice Ao28 t147.length co28, .slice Ao31 t150.length co31] 25 (0, 0)) (by (with_reducible repeat (first|apply bn|apply bd|apply ba)); exact BK154.out) hb); replace BK162 := Am (blk_below (g := gb162) (o := .cells #[.slice Ao34 t155.length co34, .slice Ao38 t158.length co38] 25 (0, 0)) (by (with_reducible repeat (first|apply bn|apply bd|apply ba)); exact BK162.out) hb); replace BK173 := Am (blk_below (g := gb173) (o := .cells #[.slice Ao45 t166.length co45, .slice Ao50 t169.length co50] 25 (0, 0)) (by (with_reducible repeat (first|apply bn|apply bd|apply ba)); exact BK173.out) hb); replace HB := Am (below_step (by repeat (first | (with_reducible first | exact HB.out | apply bl | apply pN | apply b1 | refine bs ?_ GE146.out | refine bs ?_ GE154.out | refine bs ?_ GE162.out | refine bs ?_ GE173.out) | exact HB.out | exact HBo.out)) hb); clear hb; have hcz54_0 := Own.bc2 BK173.out 0; have hcz54_1 := Own.bc2 BK173.out 1; have hfz54_0 := bf BK173.out 0; have hfz54_1 := bf BK173.out 1) | ((with_reducible refine gate_callee (f := 15) rfl ?_); refine Own.gL_ (some 51) Try.func15 (#[.agg #[.slice Ao45 t166.length co45, .slice Ao50 t169.length co50], .int .i64 4]) (h := ?_); (with_reducible refine (intern_Name.calls k _ _ t166 _ _ t169 4 t180 false _ ?side1 ?side2 ?side3 ?side4 A7.out).mono ?_); (case side1 => repeat (first | exact (Kd.R_reads' HO168.out).2.2 | (with_reducible refine Kd.C_alloc ?_ _) | (with_reducible refine Kd.C_drewN ?_ _) | (with_reducible refine Kd.C_drew ?_))); (case side2 => exact (Kd.R_reads' HO168.out).2.1); (case side3 => repeat (first | exact (Kd.S_reads' HO171.out).2.2 | (with_reducible refine Kd.C_alloc ?_ _) | (with_reducible refine Kd.C_drewN ?_ _) | (with_reducible refine Kd.C_drew ?_))); (case side4 => exact (Kd.S_reads' HO171.out).2.1); rintro e w55 ⟨rfl, hb⟩; refine ⟨_, rfl, ?_⟩; replace HO141 := Am (Kd.R_below (by (with_reducible repeat (first | apply Kd.R_alloc | apply Kd.R_drewN | apply Kd.R_drew)); exact HO141.out) hb); replace HO144 := Am (Kd.S_below (by (with_reducible repeat (first | apply Kd.S_alloc | apply Kd.S_drewN | apply Kd.S_drew)); exact HO144.out) hb); replace HO149 := Am (Kd.R_below (by (with_reducible repeat (first | apply Kd.R_alloc | apply Kd.R_drewN | apply Kd.R_drew)); exact HO149.out) hb); replace HO152 := Am (Kd.S_below (by (with_reducible repeat (first | apply Kd.S_alloc | apply Kd.S_drewN | apply Kd.S_drew)); exact HO152.out) hb); replace HO157 := Am (Kd.R_below (by (with_reducible repeat (first | apply Kd.R_alloc | apply Kd.R_drewN | apply Kd.R_drew)); exact HO157.out) hb); replace HO160 := Am (Kd.S_below (by (with_reducible repeat (first | apply Kd.S_alloc | apply Kd.S_drewN | apply Kd.S_drew)); exact HO160.out) hb); replace HO165 := Am (Kd.R_below (by (with_reducible repeat (first | apply Kd.R_alloc | apply Kd.R_drewN | apply Kd.R_drew)); exact HO165.out) hb); replace HO168 := Am (Kd.R_below (by (with_reducible repeat (first | apply Kd.R_alloc | apply Kd.R_drewN | apply Kd.R_drew)); exact HO168.out) hb); replace HO171 := Am (Kd.S_below (by (with_reducible repeat (first | apply Kd.S_alloc | apply Kd.S_drewN | apply Kd.S_drew)); exact HO171.out) hb); replace HO176 := Am (Kd.R_below (by (with_reducible repeat (first | apply Kd.R_alloc | apply Kd.R_drewN | apply Kd.R_drew)); exact HO176.out) hb); replace BK146 := Am (blk_below (g := gb146) (o := .cells #[.slice Ao23 t139.length co23, .slice Ao25 t142.length co25] 25 (0, 0)) (by (with_reducible repeat (first|apply bn|apply bd|apply ba)); exact BK146.out) hb); replace BK154 := Am (blk_below (g := gb154) (o := .cells #[.slice Ao28 t147.length co28, .slice Ao31 t150.length co31] 25 (0, 0)) (by (with_reducible repeat (first|apply bn|apply bd|apply ba)); exact BK154.out) hb); replace BK162 := Am (blk_below (g := gb162) (o := .cells #[.slice Ao34 t155.length co34, .slice Ao38 t158.length co38] 25 (0, 0)) (by (with_reducible repeat (first|apply bn|apply bd|apply ba)); exact BK162.out) hb); replace BK173 := Am (blk_below (g := gb173) (o := .cells #[.slice Ao45 t166.length co45, .slice Ao50 t169.length co50] 25 (0, 0)) (by (with_reducible repeat (first|apply bn|apply bd|apply ba)); exact BK173.out) hb); replace HB := Am (below_step (by repeat (first | (with_reducible first | exact HB.out | apply bl | apply pN | apply b1 | refine bs ?_ GE146.out | refine bs ?_ GE154.out | refine bs ?_ GE162.out | refine bs ?_ GE173.out) | exact HB.out | exact HBo.out)) hb); clear hb) | ((with_reducible refine gate_dst (N := 75) rfl ?_); (try (refine gate_guard (by rfl) ?_; dsimp only)); refine Kd.R_lit k45 _ 45 ?hg (N := 75) ?hd (xs := ([(⟨(⟨#[98]⟩ : ByteArray), 3⟩ : S45), (⟨(⟨#[99]⟩ : ByteArray), 4⟩ : S45)] : List (S45))) (inner := [.string (⟨#[98]⟩ : ByteArray), .int .i64 3, .string (⟨#[99]⟩ : ByteArray), .int .i64 4]) (ok := fun _ => True) (okp := fun _ => True) ?hr ?hp (fun _ hk => hk) trivial (Below.refl _ _) (Nat.le_refl _) (by simp) ?_; (case hd => rfl); (case hg => rfl); (case hr => first | (go_simp; done) | (go_simp; rfl)); (case hp => exact (Reps.c2 (show Kd.M k45 _ _ _ (⟨(⟨#[98]⟩ : ByteArray), 3⟩ : S45) [.string (⟨#[98]⟩ : ByteArray), .int .i64 3] from (k45_mkM _ _ _ (⟨(⟨#[98]⟩ : ByteArray), 3⟩ : S45) )) (Reps.c2 (show Kd.M k45 _ _ _ (⟨(⟨#[99]⟩ : ByteArray), 4⟩ : S45) [.string (⟨#[99]⟩ : ByteArray), .int .i64 4] from (k45_mkM _ _ _ (⟨(⟨#[99]⟩ : ByteArray), 4⟩ : S45) )) (Reps.none _ _)))); intro v183 w56 ho57 hb hg_ hnew_; clear hg_ hnew_; (first | rw [← Ny182.out] at ho57 | (simp only [Int.reduceToNat] at ho57; rw [← Ny182.out] at ho57)); have HO184 := Am (Kd.R_lower (Kd.R_new' (Kd.R_new' ho57 (Kd.R_lt (by (with_reducible repeat (first | apply Kd.R_alloc | apply Kd.R_drewN | apply Kd.R_drew)); exact HO165.out))) (Kd.R_lt (by (with_reducible repeat (first | apply Kd.R_alloc | apply Kd.R_drewN | apply Kd.R_drew)); exact HO176.out))) (below_size (by repeat (first | (with_reducible first | exact HB.out | apply bl | apply pN | apply b1 | refine bs ?_ GE146.out | refine bs ?_ GE154.out | refine bs ?_ GE162.out | refine bs ?_ GE173.out) | exact HB.out | exact HBo.out)))); replace HO141 := Am (Kd.R_below (by (with_reducible repeat (first | apply Kd.R_alloc | apply Kd.R_drewN | apply Kd.R_drew)); exact HO141.out) hb); replace HO144 := Am (Kd.S_below (by (with_reducible repeat (first | apply Kd.S_alloc | apply Kd.S_drewN | apply Kd.S_drew)); exact HO144.out) hb); replace HO149 := Am (Kd.R_below (by (with_reducible repeat (first | apply Kd.R_alloc | apply Kd.R_drewN | apply Kd.R_drew)); exact HO149.out) hb); replace HO152 := Am (Kd.S_below (by (with_reducible repeat (first | apply Kd.S_alloc | apply Kd.S_drewN | apply Kd.S_drew)); exact HO152.out) hb); replace HO157 := Am (Kd.R_below (by (with_reducible repeat (first | apply Kd.R_alloc | apply Kd.R_drewN | apply Kd.R_drew)); exact HO157.out) hb); replace HO160 := Am (Kd.S_below (by (with_reducible repeat (first | apply Kd.S_alloc | apply Kd.S_drewN | apply Kd.S_drew)); exact HO160.out) hb); replace HO165 := Am (Kd.R_elder' (by (with_reducible repeat (first | apply Kd.R_alloc | apply Kd.R_drewN | apply Kd.R_drew)); exact HO165.out) (Kd.R_base ho57) hb); replace HO168 := Am (Kd.R_below (by (with_reducible repeat (first | apply Kd.R_alloc | apply Kd.R_drewN | apply Kd.R_drew)); exact HO168.out) hb); replace HO171 := Am (Kd.S_below (by (with_reducible repeat (first | apply Kd.S_alloc | apply Kd.S_drewN | apply Kd.S_drew)); exact HO171.out) hb); replace HO176 := Am (Kd.R_elder' (by (with_reducible repeat (first | apply Kd.R_alloc | apply Kd.R_drewN | apply Kd.R_drew)); exact HO176.out) (Kd.R_base ho57) hb); replace BK146 := Am (blk_below (g := gb146) (o := .cells #[.slice Ao23 t139.length co23, .slice Ao25 t142.length co25] 25 (0, 0)) (by (with_reducible repeat (first|apply bn|apply bd|apply ba)); exact BK146.out) hb); replace BK154 := Am (blk_below (g := gb154) (o := .cells #[.slice Ao28 t147.length co28, .slice Ao31 t150.length co31] 25 (0, 0)) (by (with_reducible repeat (first|apply bn|apply bd|apply ba)); exact BK154.out) hb); replace BK162 := Am (blk_below (g := gb162) (o := .cells #[.slice Ao34 t155.length co34, .slice Ao38 t158.length co38] 25 (0, 0)) (by (with_reducible repeat (first|apply bn|apply bd|apply ba)); exact BK162.out) hb); replace BK173 := Am (blk_below (g := gb173) (o := .cells #[.slice Ao45 t166.length co45, .slice Ao50 t169.length co50] 25 (0, 0)) (by (with_reducible repeat (first|apply bn|apply bd|apply ba)); exact BK173.out) hb); replace HB := Am (below_step (by repeat (first | (with_reducible first | exact HB.out | apply bl | apply pN | apply b1 | refine bs ?_ GE146.out | refine bs ?_ GE154.out | refine bs ?_ GE162.out | refine bs ?_ GE173.out) | exact HB.out | exact HBo.out)) hb); clear hb ho57; obtain ⟨Ao58, co58, eo58⟩ := Kd.R_slice HO176.out; subst eo58; obtain ⟨Ao59, co59, eo59⟩ := Kd.R_slice HO184.out; subst eo59) | (go_at_call 22; (with_reducible refine (shuttlecockref06_SameFrames.calls k _ _ t174 _ _ y182 true _ ?side1 ?side2 ?side3 ?side4 A13.out).mono ?_); (case side1 => repeat (first | exact (Kd.R_reads' HO176.out).2.2 | (with_reducible refine Kd.C_alloc ?_ _) | (with_reducible refine Kd.C_drewN ?_ _) | (with_reducible refine Kd.C_drew ?_))); (case side2 => exact (Kd.R_reads' HO176.out).2.1); (case side3 => repeat (first | exact (Kd.R_reads' HO184.out).2.2 | (with_reducible refine Kd.C_alloc ?_ _) | (with_reducible refine Kd.C_drewN ?_ _) | (with_reducible refine Kd.C_drew ?_))); (case side4 => exact (Kd.R_reads' HO184.out).2.1); rintro e w' ⟨rfl, ⟨nd, rfl⟩⟩; have hcz60_0 := Own.bc2 BK173.out 0; have hcz60_1 := Own.bc2 BK173.out 1; have hfz60_0 := bf BK173.out 0; have hfz60_1 := bf BK173.out 1) | (go_at_call 19; (with_reducible refine (intern_May.calls k _ _ t166 _ _ t169 true _ ?side1 ?side2 ?side3 ?side4 A18.out).mono ?_); (case side1 => repeat (first | exact (Kd.R_reads' HO168.out).2.2 | (with_reducible refine Kd.C_alloc ?_ _) | (with_reducible refine Kd.C_drewN ?_ _) | (with_reducible refine Kd.C_drew ?_))); (case side2 => exact (Kd.R_reads' HO168.out).2.1); (case side3 => repeat (first | exact (Kd.S_reads' HO171.out).2.2 | (with_reducible refine Kd.C_alloc ?_ _) | (with_reducible refine Kd.C_drewN ?_ _) | (with_reducible refine Kd.C_drew ?_))); (case side4 => exact (Kd.S_reads' HO171.out).2.1); rintro e w61 ⟨rfl, hb⟩; replace HO141 := Am (Kd.R_below (by (with_reducible repeat (first | apply Kd.R_alloc | apply Kd.R_drewN | apply Kd.R_drew)); exact HO141.out) hb); replace HO144 := Am (Kd.S_below (by (with_reducible repeat (first | apply Kd.S_alloc | apply Kd.S_drewN | apply Kd.S_drew)); exact HO144.out) hb); replace HO149 := Am (Kd.R_below (by (with_reducible repeat (first | apply Kd.R_alloc | apply Kd.R_drewN | apply Kd.R_drew)); exact HO149.out) hb); replace HO152 := Am (Kd.S_below (by (with_reducible repeat (first | apply Kd.S_alloc | apply Kd.S_drewN | apply Kd.S_drew)); exact HO152.out) hb); replace HO157 := Am (Kd.R_below (by (with_reducible repeat (first | apply Kd.R_alloc | apply Kd.R_drewN | apply Kd.R_drew)); exact HO157.out) hb); replace HO160 := Am (Kd.S_below (by (with_reducible repeat (first | apply Kd.S_alloc | apply Kd.S_drewN | apply Kd.S_drew)); exact HO160.out) hb); replace HO165 := Am (Kd.R_below (by (with_reducible repeat (first | apply Kd.R_alloc | apply Kd.R_drewN | apply Kd.R_drew)); exact HO165.out) hb); replace HO168 := Am (Kd.R_below (by (with_reducible repeat (first | apply Kd.R_alloc | apply Kd.R_drewN | apply Kd.R_drew)); exact HO168.out) hb); replace HO171 := Am (Kd.S_below (by (with_reducible repeat (first | apply Kd.S_alloc | apply Kd.S_drewN | apply Kd.S_drew)); exact HO171.out) hb); replace HO176 := Am (Kd.R_below (by (with_reducible repeat (first | apply Kd.R_alloc | apply Kd.R_drewN | apply Kd.R_drew)); exact HO176.out) hb); replace HO184 := Am (Kd.R_below (by (with_reducible repeat (first | apply Kd.R_alloc | apply Kd.R_drewN | apply Kd.R_drew)); exact HO184.out) hb); replace BK146 := Am (blk_below (g := gb146) (o := .cells #[.slice Ao23 t139.length co23, .slice Ao25 t142.length co25] 25 (0, 0)) (by (with_reducible repeat (first|apply bn|apply bd|apply ba)); exact BK146.out) hb); replace BK154 := Am (blk_below (g := gb154) (o := .cells #[.slice Ao28 t147.length co28, .slice Ao31 t150.length co31] 25 (0, 0)) (by (with_reducible repeat (first|apply bn|apply bd|apply ba)); exact BK154.out) hb); replace BK162 := Am (blk_below (g := gb162) (o := .cells #[.slice Ao34 t155.length co34, .slice Ao38 t158.length co38] 25 (0, 0)) (by (with_reducible repeat (first|apply bn|apply bd|apply ba)); exact BK162.out) hb); replace BK173 := Am (blk_below (g := gb173) (o := .cells #[.slice Ao45 t166.length co45, .slice Ao50 t169.length co50] 25 (0, 0)) (by (with_reducible repeat (first|apply bn|apply bd|apply ba)); exact BK173.out) hb); replace HB := Am (below_step (by repeat (first | (with_reducible first | exact HB.out | apply bl | apply pN | apply b1 | refine bs ?_ GE146.out | refine bs ?_ GE154.out | refine bs ?_ GE162.out | refine bs ?_ GE173.out) | exact HB.out | exact HBo.out)) hb); clear hb) | ((with_reducible refine gate_dst (N := 94) rfl ?_); (try (refine gate_guard (by rfl) ?_; dsimp only)); refine Kd.R_lit Kd.string _ 9 ?hg (N := 94) ?hd (xs := ([(⟨#[]⟩ : ByteArray)] : List ByteArray)) (inner := [.string (⟨#[]⟩ : ByteArray)]) (ok := fun _ => True) (okp := fun _ => True) ?hr ?hp (fun _ hk => hk) trivial (Below.refl _ _) (Nat.le_refl _) (by simp) ?_; (case hd => rfl); (case hg => rfl); (case hr => first | (go_simp; done) | (go_simp; rfl)); (case hp => exact (Reps.one (show Kd.M Kd.string _ _ _ (⟨#[]⟩ : ByteArray) [.string (⟨#[]⟩ : ByteArray)] from rfl) (Reps.none _ _))); intro v188 w62 ho63 hb hg_ hnew_; clear hg_ hnew_; (first | rw [← Ny187.out] at ho63 | (simp only [Int.reduceToNat] at ho63; rw [← Ny187.out] at ho63)); have HO189 := Am (Kd.R_lower (Kd.R_new' (Kd.R_new' (Kd.R_new' (Kd.R_new' ho63 (Kd.R_lt (by (with_reducible repeat (first | apply Kd.R_alloc | apply Kd.R_drewN | apply Kd.R_drew)); exact HO141.out))) (Kd.R_lt (by (with_reducible repeat (first | apply Kd.R_alloc | apply Kd.R_drewN | apply Kd.R_drew)); exact HO149.out))) (Kd.R_lt (by (with_reducible repeat (first | apply Kd.R_alloc | apply Kd.R_drewN | apply Kd.R_drew)); exact HO157.out))) (Kd.R_lt (by (with_reducible repeat (first | apply Kd.R_alloc | apply Kd.R_drewN | apply Kd.R_drew)); exact HO168.out))) (below_size (by repeat (first | (with_reducible first | exact HB.out | apply bl | apply pN | apply b1 | refine bs ?_ GE146.out | refine bs ?_ GE154.out | refine bs ?_ GE162.out | refine bs ?_ GE173.out) | exact HB.out | exact HBo.out)))); replace HO141 := Am (Kd.R_elder' (by (with_reducible repeat (first | apply Kd.R_alloc | apply Kd.R_drewN | apply Kd.R_drew)); exact HO141.out) (Kd.R_base ho63) hb); replace HO144 := Am (Kd.S_below (by (with_reducible repeat (first | apply Kd.S_alloc | apply Kd.S_drewN | apply Kd.S_drew)); exact HO144.out) hb); replace HO149 := Am (Kd.R_elder' (by (with_reducible repeat (first | apply Kd.R_alloc | apply Kd.R_drewN | apply Kd.R_drew)); exact HO149.out) (Kd.R_base ho63) hb); replace HO152 := Am (Kd.S_below (by (with_reducible repeat (first | apply Kd.S_alloc | apply Kd.S_drewN | apply Kd.S_drew)); exact HO152.out) hb); replace HO157 := Am (Kd.R_elder' (by (with_reducible repeat (first | apply Kd.R_alloc | apply Kd.R_drewN | apply Kd.R_drew)); exact HO157.out) (Kd.R_base ho63) hb); replace HO160 := Am (Kd.S_below (by (with_reducible repeat (first | apply Kd.S_alloc | apply Kd.S_drewN | apply Kd.S_drew)); exact HO160.out) hb); replace HO165 := Am (Kd.R_below (by (with_reducible repeat (first | apply Kd.R_alloc | apply Kd.R_drewN | apply Kd.R_drew)); exact HO165.out) hb); replace HO168 := Am (Kd.R_elder' (by (with_reducible repeat (first | apply Kd.R_alloc | apply Kd.R_drewN | apply Kd.R_drew)); exact HO168.out) (Kd.R_base ho63) hb); replace HO171 := Am (Kd.S_below (by (with_reducible repeat (first | apply Kd.S_alloc | apply Kd.S_drewN | apply Kd.S_drew)); exact HO171.out) hb); replace HO176 := Am (Kd.R_below (by (with_reducible repeat (first | apply Kd.R_alloc | apply Kd.R_drewN | apply Kd.R_drew)); exact HO176.out) hb); replace HO184 := Am (Kd.R_below (by (with_reducible repeat (first | apply Kd.R_alloc | apply Kd.R_drewN | apply Kd.R_drew)); exact HO184.out) hb); replace BK146 := Am (blk_below (g := gb146) (o := .cells #[.slice Ao23 t139.length co23, .slice Ao25 t142.length co25] 25 (0, 0)) (by (with_reducible repeat (first|apply bn|apply bd|apply ba)); exact BK146.out) hb); replace BK154 := Am (blk_below (g := gb154) (o := .cells #[.slice Ao28 t147.length co28, .slice Ao31 t150.length co31] 25 (0, 0)) (by (with_reducible repeat (first|apply bn|apply bd|apply ba)); exact BK154.out) hb); replace BK162 := Am (blk_below (g := gb162) (o := .cells #[.slice Ao34 t155.length co34, .slice Ao38 t158.length co38] 25 (0, 0)) (by (with_reducible repeat (first|apply bn|apply bd|apply ba)); exact BK162.out) hb); replace BK173 := Am (blk_below (g := gb173) (o := .cells #[.slice Ao45 t166.length co45, .slice Ao50 t169.length co50] 25 (0, 0)) (by (with_reducible repeat (first|apply bn|apply bd|apply ba)); exact BK173.out) hb); replace HB := Am (below_step (by repeat (first | (with_reducible first | exact HB.out | apply bl | apply pN | apply b1 | refine bs ?_ GE146.out | refine bs ?_ GE154.out | refine bs ?_ GE162.out | refine bs ?_ GE173.out) | exact HB.out | exact HBo.out)) hb); clear hb ho63; obtain ⟨Ao64, co64, eo64⟩ := Kd.R_slice HO189.out; subst eo64) | (go_at_call 19; (refine (intern_May.calls k _ _ y187 _ _ ([] : List (List (S50))) t190 _ ?side1 ?side2 ?side3 ?side4 A20.out).mono ?_); (case side1 => repeat (first | exact (Kd.R_reads' HO189.out).2.2 | (with_reducible refine Kd.C_alloc ?_ _) | (with_reducible refine Kd.C_drewN ?_ _) | (with_reducible refine Kd.C_drew ?_))); (case side2 => exact (Kd.R_reads' HO189.out).2.1); (case side3 => exact Kd.C_nil _ _); (case side4 => exact Nat.le_refl _); rintro e w65 ⟨rfl, hb⟩; replace HO141 := Am (Kd.R_below (by (with_reducible repeat (first | apply Kd.R_alloc | apply Kd.R_drewN | apply Kd.R_drew)); exact HO141.out) hb); replace HO144 := Am (Kd.S_below (by (with_reducible repeat (first | apply Kd.S_alloc | apply Kd.S_drewN | apply Kd.S_drew)); exact HO144.out) hb); replace HO149 := Am (Kd.R_below (by (with_reducible repeat (first | apply Kd.R_alloc | apply Kd.R_drewN | apply Kd.R_drew)); exact HO149.out) hb); replace HO152 := Am (Kd.S_below (by (with_reducible repeat (first | apply Kd.S_alloc | apply Kd.S_drewN | apply Kd.S_drew)); exact HO152.out) hb); replace HO157 := Am (Kd.R_below (by (with_reducible repeat (first | apply Kd.R_alloc | apply Kd.R_drewN | apply Kd.R_drew)); exact HO157.out) hb); replace HO160 := Am (Kd.S_below (by (with_reducible repeat (first | apply Kd.S_alloc | apply Kd.S_drewN | apply Kd.S_drew)); exact HO160.out) hb); replace HO165 := Am (Kd.R_below (by (with_reducible repeat (first | apply Kd.R_alloc | apply Kd.R_drewN | apply Kd.R_drew)); exact HO165.out) hb); replace HO168 := Am (Kd.R_below (by (with_reducible repeat (first | apply Kd.R_alloc | apply Kd.R_drewN | apply Kd.R_drew)); exact HO168.out) hb); replace HO171 := Am (Kd.S_below (by (with_reducible repeat (first | apply Kd.S_alloc | apply Kd.S_drewN | apply Kd.S_drew)); exact HO171.out) hb); replace HO176 := Am (Kd.R_below (by (with_reducible repeat (first | apply Kd.R_alloc | apply Kd.R_drewN | apply Kd.R_drew)); exact HO176.out) hb); replace HO184 := Am (Kd.R_below (by (with_reducible repeat (first | apply Kd.R_alloc | apply Kd.R_drewN | apply Kd.R_drew)); exact HO184.out) hb); replace HO189 := Am (Kd.R_below (by (with_reducible repeat (first | apply Kd.R_alloc | apply Kd.R_drewN | apply Kd.R_drew)); exact HO189.out) hb); replace BK146 := Am (blk_below (g := gb146) (o := .cells #[.slice Ao23 t139.length co23, .slice Ao25 t142.length co25] 25 (0, 0)) (by (with_reducible repeat (first|apply bn|apply bd|apply ba)); exact BK146.out) hb); replace BK154 := Am (blk_below (g := gb154) (o := .cells #[.slice Ao28 t147.length co28, .slice Ao31 t150.length co31] 25 (0, 0)) (by (with_reducible repeat (first|apply bn|apply bd|apply ba)); exact BK154.out) hb); replace BK162 := Am (blk_below (g := gb162) (o := .cells #[.slice Ao34 t155.length co34, .slice Ao38 t158.length co38] 25 (0, 0)) (by (with_reducible repeat (first|apply bn|apply bd|apply ba)); exact BK162.out) hb); replace BK173 := Am (blk_below (g := gb173) (o := .cells #[.slice Ao45 t166.length co45, .slice Ao50 t169.length co50] 25 (0, 0)) (by (with_reducible repeat (first|apply bn|apply bd|apply ba)); exact BK173.out) hb); replace HB := Am (below_step (by repeat (first | (with_reducible first | exact HB.out | apply bl | apply pN | apply b1 | refine bs ?_ GE146.out | refine bs ?_ GE154.out | refine bs ?_ GE162.out | refine bs ?_ GE173.out) | exact HB.out | exact HBo.out)) hb); clear hb))
           go_ret
           exact ⟨by first | rfl | (simp <;> rfl) | (simp [*] <;> rfl) | (simp [Aid.ne_nil, Aid.eq_nil]; done), by repeat (first | (with_reducible first | exact HB.out | apply bl | apply pN | apply b1 | refine bs ?_ GE146.out | refine bs ?_ GE154.out | refine bs ?_ GE162.out | refine bs ?_ GE173.out) | exact HB.out | exact HBo.out)⟩
          ·
           replace c19 := Bool.eq_false_iff.mpr c19
           subst c19
           rw [if_neg (show ¬ (false = true) by decide)] at H
           exact absurd H (by simp)
        ·
         replace c16 := Bool.eq_false_iff.mpr c16
         subst c16
         rw [if_neg (show ¬ (false = true) by decide)] at H
         exact absurd H (by simp)
       ·
        rw [if_neg c15] at H
        exact absurd H (by simp)
      ·
       replace c14 := Bool.eq_false_iff.mpr c14
       subst c14
       rw [if_neg (show ¬ (false = true) by decide)] at H
       exact absurd H (by simp)
     ·
      replace c12 := Bool.eq_false_iff.mpr c12
      subst c12
      rw [if_neg (show ¬ (false = true) by decide)] at H
      exact absurd H (by simp)
    ·
     rw [if_neg c11] at H
     exact absurd H (by simp)
   ·
    rw [if_neg c10] at H
    exact absurd H (by simp)
  ·
   rw [if_neg c9] at H
   exact absurd H (by simp)
 ·
  rw [if_neg c8] at H
  exact absurd H (by simp)

/-! ### shuttlecockref06_SameStack: function 34 -/
def shuttlecockref06_SameStack.l0 : Nat → List (S50) → List (S50) → Int → Option (Bool)
 | 0, _, _, _ => none
 | k + 1, x0, x1, x5 => if x5 < (x0.length : Int) then (if 0 ≤ x5 then (if x5 < (x1.length : Int) then (if (!(((rd_T50 x0 x5).f0) == ((rd_T50 x1 x5).f0)) || (!(((rd_T50 x0 x5).f1) == ((rd_T50 x1 x5).f1)))) = true then (some false) else (shuttlecockref06_SameStack.l0 k x0 x1 (wrap64 (x5 + 1)))) else (none)) else (none)) else (some true)
def shuttlecockref06_SameStack.f (k : Nat) (l0 : List (S50)) (l1 : List (S50)) : Option (Bool) := if (l0.length : Int) = (l1.length : Int) then (shuttlecockref06_SameStack.l0 k l0 l1 0) else (some false)
theorem shuttlecockref06_SameStack.mono_l : ∀ k, (∀ y0 y1 y2, LeO (shuttlecockref06_SameStack.l0 k y0 y1 y2) (shuttlecockref06_SameStack.l0 (k + 1) y0 y1 y2))
 | 0 => fun _ _ _ r h => by simp [shuttlecockref06_SameStack.l0] at h
 | k + 1 => by
  have ih0 := shuttlecockref06_SameStack.mono_l k
  ·
   intro y0 y1 y2
   unfold shuttlecockref06_SameStack.l0
   repeat' first
   | (with_reducible exact ih0 _ _ _)
   | (with_reducible exact LeO.refl _)
   | (with_reducible exact LeO.none _)
   | (with_reducible refine LeO.ite ?_ ?_)
   | (with_reducible refine LeO.bind ?_ (fun _ => ?_))
   | exact LeO.none _
   | refine LeO.ite ?_ ?_
   | refine LeO.bind ?_ (fun _ => ?_)
theorem shuttlecockref06_SameStack.mono : ∀ a0 a1 k, LeO (shuttlecockref06_SameStack.f k a0 a1) (shuttlecockref06_SameStack.f (k + 1) a0 a1) := by
 intro a0 a1 k
 have ih0 := shuttlecockref06_SameStack.mono_l k
 unfold shuttlecockref06_SameStack.f
 repeat' first
   | (with_reducible exact ih0 _ _ _)
   | (with_reducible exact LeO.refl _)
   | (with_reducible exact LeO.none _)
   | (with_reducible refine LeO.ite ?_ ?_)
   | (with_reducible refine LeO.bind ?_ (fun _ => ?_))
   | exact LeO.none _
   | refine LeO.ite ?_ ?_
   | refine LeO.bind ?_ (fun _ => ?_)
set_option maxHeartbeats 8000000 in
set_option maxRecDepth 100000 in
theorem shuttlecockref06_SameStack.calls (k : Nat) (A0 : Option Addr) (c0 : Nat) (l0 : List (S50)) (A1 : Option Addr) (c1 : Nat) (l1 : List (S50)) (r : Bool) (w : World) (hr0 : Kd.C k50 w A0 l0.length l0) (hc0 : l0.length ≤ c0) (hr1 : Kd.C k50 w A1 l1.length l1) (hc1 : l1.length ≤ c1) (h : shuttlecockref06_SameStack.f k l0 l1 = some r) :
  Calls Try.prog 34 #[.slice A0 l0.length c0, .slice A1 l1.length c1] w fun e w' => e = .returned (.bool r) ∧ Drawn0 w w' := by
 have hu50 := Try.underlying50
 have HR0 := Am hr0
 have HC0 := Am hc0
 clear hr0 hc0
 have HR1 := Am hr1
 have HC1 := Am hc1
 clear hr1 hc1
 have H : (if (l0.length : Int) = (l1.length : Int) then (shuttlecockref06_SameStack.l0 k l0 l1 0) else (some false)) = some r := h
 clear h
 by_cases c3 : (l0.length : Int) = (l1.length : Int)
 ·
  rw [if_pos c3] at H
  have c3b0 : ((l0.length : Int) == (l1.length : Int)) = true := beq_iff_eq.mpr c3
  have c3b1 : ((l0.length : Int) != (l1.length : Int)) = false := bne_eq_false_iff_eq.mpr c3
  have c3b2 : (l0.length == l1.length) = true := by first | simpa using c3 | (simp at c3 ⊢; omega)
  clear c3
  have H' := Am H
  clear H
  go_enter Try.func34, Try.ntmps34
  go_wp2
  repeat (go_quiet (fail); try go_wp2)
  go_loopg [5] k (fun kq v5 w' => ∃ (x5_1 : Int), v5 = .int .i64 x5_1 ∧ Aside0 (shuttlecockref06_SameStack.l0 kq l0 l1 x5_1 = some r) ∧ Aside0 (kq ≤ k) ∧ Drawn0 w w')
  case atStart => exact ⟨(0), (by first | rfl | (simp; done) | (simp [*]; done)), H', ⟨Nat.le_refl _⟩, by repeat (first | exact Drawn0.refl _ | apply Drawn0.step)⟩
  case round =>
   clear H'
   try clear c1
   try clear p2
   try clear c3
   try clear c3b0
   try clear c3b1
   try clear c3b2
   obtain ⟨x5_1, rfl, HA, HK1, ⟨m1, rfl⟩⟩ := hrel
   cases gk with
   | zero => exact absurd HA.out (by simp [shuttlecockref06_SameStack.l0])
   | succ k1 =>
    have H := HA.out
    clear HA
    simp only [shuttlecockref06_SameStack.l0] at H
    by_cases c4 : x5_1 < (l0.length : Int)
    ·
     rw [if_pos c4] at H
     have c4b0 : decide (x5_1 < (l0.length : Int)) = true := decide_eq_true c4
     clear c4
     by_cases c5 : 0 ≤ x5_1
     ·
      rw [if_pos c5] at H
      have c5b0 : decide (0 ≤ x5_1) = true := decide_eq_true c5
      clear c5
      by_cases c6 : x5_1 < (l1.length : Int)
      ·
       rw [if_pos c6] at H
       have c6b0 : decide (x5_1 < (l1.length : Int)) = true := decide_eq_true c6
       clear c6
       by_cases c7 : (!(((rd_T50 l0 x5_1).f0) == ((rd_T50 l1 x5_1).f0)) || (!(((rd_T50 l0 x5_1).f1) == ((rd_T50 l1 x5_1).f1)))) = true
       ·
        rw [if_pos c7] at H
        have c7b0 : (!(((rd_T50 l0 x5_1).f0) == ((rd_T50 l1 x5_1).f0)) || (!(((rd_T50 l0 x5_1).f1) == ((rd_T50 l1 x5_1).f1)))) = true := c7
        try have c7b6 : (¬ ((rd_T50 l0 x5_1).f0) = ((rd_T50 l1 x5_1).f0) ∨ ¬ ((rd_T50 l0 x5_1).f1) = ((rd_T50 l1 x5_1).f1)) = True := eq_true (by first | (simpa using c7) | exact Classical.byContradiction (fun hh_ => by simp only [not_or, Classical.not_not] at hh_; simp [hh_] at c7))
        try have c7b7 : (((rd_T50 l0 x5_1).f0) = ((rd_T50 l1 x5_1).f0) ∧ ((rd_T50 l0 x5_1).f1) = ((rd_T50 l1 x5_1).f1)) = False := eq_false (by first | (intro hh_; simp [hh_] at c7; done) | simpa using c7)
        clear c7
        obtain rfl := Option.some.inj H
        have p191 : 0 ≤ (x5_1 : Int) := of_decide_eq_true (by first | (with_reducible assumption) | assumption)
        have q191 : x5_1 < (l0.length : Int) := of_decide_eq_true (by first | (with_reducible assumption) | assumption)
        obtain ⟨ad191, e191, hx191_0, hx191_1⟩ := at_T50 HR0.out x5_1 p191 q191
        cases e191
        replace p191 := eq_true p191
        replace q191 := eq_true q191
        have p192 : 0 ≤ (x5_1 : Int) := of_decide_eq_true (by first | (with_reducible assumption) | assumption)
        have q192 : x5_1 < (l1.length : Int) := of_decide_eq_true (by first | (with_reducible assumption) | assumption)
        obtain ⟨ad192, e192, hx192_0, hx192_1⟩ := at_T50 HR1.out x5_1 p192 q192
        cases e192
        replace p192 := eq_true p192
        replace q192 := eq_true q192
        go_wp2
        repeat (go_quiet (fail); try go_wp2)
        go_ret
        exact ⟨by first | rfl | (simp; done) | (simp [*]; done), by repeat (first | exact Drawn0.refl _ | apply Drawn0.step)⟩
       ·
        rw [if_neg c7] at H
        have c7b0 : (!(((rd_T50 l0 x5_1).f0) == ((rd_T50 l1 x5_1).f0)) || (!(((rd_T50 l0 x5_1).f1) == ((rd_T50 l1 x5_1).f1)))) = false := by simpa using c7
        try have c7b6 : (¬ ((rd_T50 l0 x5_1).f0) = ((rd_T50 l1 x5_1).f0) ∨ ¬ ((rd_T50 l0 x5_1).f1) = ((rd_T50 l1 x5_1).f1)) = False := eq_false (by simpa using c7)
        try have c7b7 : (((rd_T50 l0 x5_1).f0) = ((rd_T50 l1 x5_1).f0) ∧ ((rd_T50 l0 x5_1).f1) = ((rd_T50 l1 x5_1).f1)) = True := eq_true (by simpa using c7)
        clear c7
        have H' := Am H
        clear H
        have p191 : 0 ≤ (x5_1 : Int) := of_decide_eq_true (by first | (with_reducible assumption) | assumption)
        have q191 : x5_1 < (l0.length : Int) := of_decide_eq_true (by first | (with_reducible assumption) | assumption)
        obtain ⟨ad191, e191, hx191_0, hx191_1⟩ := at_T50 HR0.out x5_1 p191 q191
        cases e191
        replace p191 := eq_true p191
        replace q191 := eq_true q191
        have p192 : 0 ≤ (x5_1 : Int) := of_decide_eq_true (by first | (with_reducible assumption) | assumption)
        have q192 : x5_1 < (l1.length : Int) := of_decide_eq_true (by first | (with_reducible assumption) | assumption)
        obtain ⟨ad192, e192, hx192_0, hx192_1⟩ := at_T50 HR1.out x5_1 p192 q192
        cases e192
        replace p192 := eq_true p192
        replace q192 := eq_true q192
        go_wp2
        repeat (go_quiet (fail); try go_wp2)
        go_roundg k1
        case measure => have := HK1.out; omega
        case rel => exact ⟨(wrap64 (x5_1 + 1)), (by first | rfl | (simp; done) | (simp [*]; done)), H', ⟨by have := HK1.out; omega⟩, by repeat (first | exact Drawn0.refl _ | apply Drawn0.step)⟩
      ·
       rw [if_neg c6] at H
       exact absurd H (by simp)
     ·
      rw [if_neg c5] at H
      exact absurd H (by simp)
    ·
     rw [if_neg c4] at H
     have c4b0 : decide (x5_1 < (l0.length : Int)) = false := decide_eq_false c4
     clear c4
     obtain rfl := Option.some.inj H
     go_wp2
     repeat (go_quiet (fail); try go_wp2)
     go_ret
     exact ⟨by first | rfl | (simp; done) | (simp [*]; done), by repeat (first | exact Drawn0.refl _ | apply Drawn0.step)⟩
 ·
  rw [if_neg c3] at H
  have c3b0 : ((l0.length : Int) == (l1.length : Int)) = false := beq_eq_false_iff_ne.mpr c3
  have c3b1 : ((l0.length : Int) != (l1.length : Int)) = true := bne_iff_ne.mpr c3
  have c3b2 : (l0.length == l1.length) = false := by first | simpa using c3 | (simp at c3 ⊢; omega)
  obtain rfl := Option.some.inj H
  go_enter Try.func34, Try.ntmps34
  go_wp2
  repeat (go_quiet (fail); try go_wp2)
  go_ret
  exact ⟨by first | rfl | (simp; done) | (simp [*]; done), by repeat (first | exact Drawn0.refl _ | apply Drawn0.step)⟩

/-! ### shuttlecockref06_stack: function 29 -/
def shuttlecockref06_stack.l0 : Nat → List (List (S50)) → List (S50) → Int → Option (Int)
 | 0, _, _, _ => none
 | k + 1, x0, x1, x5 => if x5 < (x0.length : Int) then (if 0 ≤ x5 then ((shuttlecockref06_SameStack.f k (rd_L2 x0 x5) x1).bind fun t194 => (if t194 = true then (some x5) else (shuttlecockref06_stack.l0 k x0 x1 (wrap64 (x5 + 1))))) else (none)) else (some (-1))
def shuttlecockref06_stack.f (k : Nat) (l0 : List (List (S50))) (l1 : List (S50)) : Option (Int) := shuttlecockref06_stack.l0 k l0 l1 0
theorem shuttlecockref06_stack.mono_l : ∀ k, (∀ y0 y1 y2, LeO (shuttlecockref06_stack.l0 k y0 y1 y2) (shuttlecockref06_stack.l0 (k + 1) y0 y1 y2))
 | 0 => fun _ _ _ r h => by simp [shuttlecockref06_stack.l0] at h
 | k + 1 => by
  have ih0 := shuttlecockref06_stack.mono_l k
  ·
   intro y0 y1 y2
   unfold shuttlecockref06_stack.l0
   repeat' first
   | (with_reducible exact ih0 _ _ _)
   | (with_reducible exact shuttlecockref06_SameStack.mono _ _ _)
   | (with_reducible exact LeO.refl _)
   | (with_reducible exact LeO.none _)
   | (with_reducible refine LeO.ite ?_ ?_)
   | (with_reducible refine LeO.bind ?_ (fun _ => ?_))
   | exact LeO.none _
   | refine LeO.ite ?_ ?_
   | refine LeO.bind ?_ (fun _ => ?_)
theorem shuttlecockref06_stack.mono : ∀ a0 a1 k, LeO (shuttlecockref06_stack.f k a0 a1) (shuttlecockref06_stack.f (k + 1) a0 a1) := by
 intro a0 a1 k
 have ih0 := shuttlecockref06_stack.mono_l k
 unfold shuttlecockref06_stack.f
 repeat' first
   | (with_reducible exact ih0 _ _ _)
   | (with_reducible exact shuttlecockref06_SameStack.mono _ _ _)
   | (with_reducible exact LeO.refl _)
   | (with_reducible exact LeO.none _)
   | (with_reducible refine LeO.ite ?_ ?_)
   | (with_reducible refine LeO.bind ?_ (fun _ => ?_))
   | exact LeO.none _
   | refine LeO.ite ?_ ?_
   | refine LeO.bind ?_ (fun _ => ?_)
set_option maxHeartbeats 8000000 in
set_option maxRecDepth 100000 in
theorem shuttlecockref06_stack.calls (k : Nat) (A0 : Option Addr) (c0 : Nat) (l0 : List (List (S50))) (A1 : Option Addr) (c1 : Nat) (l1 : List (S50)) (r : Int) (w : World) (hr0 : Kd.C (Kd.slice 50 k50) w A0 l0.length l0) (hc0 : l0.length ≤ c0) (hr1 : Kd.C k50 w A1 l1.length l1) (hc1 : l1.length ≤ c1) (h : shuttlecockref06_stack.f k l0 l1 = some r) :
  Calls Try.prog 29 #[.slice A0 l0.length c0, .slice A1 l1.length c1] w fun e w' => e = .returned (.int .i64 r) ∧ Drawn0 w w' := by
 have HR0 := Am hr0
 have HC0 := Am hc0
 clear hr0 hc0
 have HR1 := Am hr1
 have HC1 := Am hc1
 clear hr1 hc1
 have H : (shuttlecockref06_stack.l0 k l0 l1 0) = some r := h
 clear h
 have H' := Am H
 clear H
 go_enter Try.func29, Try.ntmps29
 go_wp2
 go_loopg [5] k (fun kq v5 w' => ∃ (x5_1 : Int), v5 = .int .i64 x5_1 ∧ Aside0 (shuttlecockref06_stack.l0 kq l0 l1 x5_1 = some r) ∧ Aside0 (kq ≤ k) ∧ Drawn0 w w')
 case atStart => exact ⟨(0), (by first | rfl | (simp; done) | (simp [*]; done)), H', ⟨Nat.le_refl _⟩, by repeat (first | exact Drawn0.refl _ | apply Drawn0.step)⟩
 case round =>
  clear H'
  try clear c1
  try clear c2
  try clear p2
  obtain ⟨x5_1, rfl, HA, HK1, ⟨m1, rfl⟩⟩ := hrel
  cases gk with
  | zero => exact absurd HA.out (by simp [shuttlecockref06_stack.l0])
  | succ k1 =>
   have H := HA.out
   clear HA
   simp only [shuttlecockref06_stack.l0] at H
   by_cases c3 : x5_1 < (l0.length : Int)
   ·
    rw [if_pos c3] at H
    have c3b0 : decide (x5_1 < (l0.length : Int)) = true := decide_eq_true c3
    clear c3
    by_cases c4 : 0 ≤ x5_1
    ·
     rw [if_pos c4] at H
     have c4b0 : decide (0 ≤ x5_1) = true := decide_eq_true c4
     clear c4
     replace H := ob H
     obtain ⟨t194, A50, H⟩ := H
     (try dsimp only at H)
     have A5 := Am A50
     clear A50
     by_cases c6 : t194 = true
     ·
      subst c6
      rw [if_pos rfl] at H
      obtain rfl := Option.some.inj H
      have p193 : 0 ≤ (x5_1 : Int) := of_decide_eq_true (by first | (with_reducible assumption) | assumption)
      have q193 : x5_1 < (l0.length : Int) := of_decide_eq_true (by first | (with_reducible assumption) | assumption)
      obtain ⟨ad193, A193_0, c193_0, e193, hx193_0, hl193_0, hi193_0⟩ := at_L2 HR0.out x5_1 p193 q193
      cases e193
      have HR193_0 := Am hi193_0
      have HC193_0 := Am hl193_0
      clear hi193_0 hl193_0
      replace p193 := eq_true p193
      replace q193 := eq_true q193
      go_wp2_with (first | ((with_reducible refine gate_callee (f := 34) rfl ?_); refine Own.gL_ (some 17) Try.func34 (#[.slice A193_0 (rd_L2 l0 x5_1).length c193_0, .slice A1 l1.length c1]) (h := ?_); (with_reducible refine (shuttlecockref06_SameStack.calls k1 _ _ (rd_L2 l0 x5_1) _ _ l1 true _ ?side1 ?side2 ?side3 ?side4 A5.out).mono ?_); (case side1 => repeat (first | exact HR193_0.out | (with_reducible refine Kd.C_alloc ?_ _) | (with_reducible refine Kd.C_drewN ?_ _) | (with_reducible refine Kd.C_drew ?_))); (case side2 => exact HC193_0.out); (case side3 => repeat (first | exact HR1.out | (with_reducible refine Kd.C_alloc ?_ _) | (with_reducible refine Kd.C_drewN ?_ _) | (with_reducible refine Kd.C_drew ?_))); (case side4 => exact HC1.out); rintro e w' ⟨rfl, ⟨nd, rfl⟩⟩; refine ⟨_, rfl, ?_⟩))
      go_ret
      exact ⟨by first | rfl | (simp; done) | (simp [*]; done), by repeat (first | exact Drawn0.refl _ | apply Drawn0.step)⟩
     ·
      replace c6 := Bool.eq_false_iff.mpr c6
      subst c6
      rw [if_neg (show ¬ (false = true) by decide)] at H
      have H' := Am H
      clear H
      have p193 : 0 ≤ (x5_1 : Int) := of_decide_eq_true (by first | (with_reducible assumption) | assumption)
      have q193 : x5_1 < (l0.length : Int) := of_decide_eq_true (by first | (with_reducible assumption) | assumption)
      obtain ⟨ad193, A193_0, c193_0, e193, hx193_0, hl193_0, hi193_0⟩ := at_L2 HR0.out x5_1 p193 q193
      cases e193
      have HR193_0 := Am hi193_0
      have HC193_0 := Am hl193_0
      clear hi193_0 hl193_0
      replace p193 := eq_true p193
      replace q193 := eq_true q193
      go_wp2_with (first | ((with_reducible refine gate_callee (f := 34) rfl ?_); refine Own.gL_ (some 17) Try.func34 (#[.slice A193_0 (rd_L2 l0 x5_1).length c193_0, .slice A1 l1.length c1]) (h := ?_); (with_reducible refine (shuttlecockref06_SameStack.calls k1 _ _ (rd_L2 l0 x5_1) _ _ l1 false _ ?side1 ?side2 ?side3 ?side4 A5.out).mono ?_); (case side1 => repeat (first | exact HR193_0.out | (with_reducible refine Kd.C_alloc ?_ _) | (with_reducible refine Kd.C_drewN ?_ _) | (with_reducible refine Kd.C_drew ?_))); (case side2 => exact HC193_0.out); (case side3 => repeat (first | exact HR1.out | (with_reducible refine Kd.C_alloc ?_ _) | (with_reducible refine Kd.C_drewN ?_ _) | (with_reducible refine Kd.C_drew ?_))); (case side4 => exact HC1.out); rintro e w' ⟨rfl, ⟨nd, rfl⟩⟩; refine ⟨_, rfl, ?_⟩))
      go_roundg k1
      case measure => have := HK1.out; omega
      case rel => exact ⟨(wrap64 (x5_1 + 1)), (by first | rfl | (simp; done) | (simp [*]; done)), H', ⟨by have := HK1.out; omega⟩, by repeat (first | exact Drawn0.refl _ | apply Drawn0.step)⟩
    ·
     rw [if_neg c4] at H
     exact absurd H (by simp)
   ·
    rw [if_neg c3] at H
    have c3b0 : decide (x5_1 < (l0.length : Int)) = false := decide_eq_false c3
    clear c3
    obtain rfl := Option.some.inj H
    go_wp2
    go_ret
    exact ⟨by first | rfl | (simp; done) | (simp [*]; done), by repeat (first | exact Drawn0.refl _ | apply Drawn0.step)⟩

/-! ### shuttlecockref06_find: function 32 -/
def shuttlecockref06_find.l0 : Nat → List ByteArray → ByteArray → Int → Option (Int)
 | 0, _, _, _ => none
 | k + 1, x0, x1, x5 => if x5 < (x0.length : Int) then (if 0 ≤ x5 then (if (rdOf ByteArray.empty x0 x5).toList = x1.toList then (some x5) else (shuttlecockref06_find.l0 k x0 x1 (wrap64 (x5 + 1)))) else (none)) else (some (-1))
def shuttlecockref06_find.f (k : Nat) (l0 : List ByteArray) (a1 : ByteArray) : Option (Int) := shuttlecockref06_find.l0 k l0 a1 0
theorem shuttlecockref06_find.mono_l : ∀ k, (∀ y0 y1 y2, LeO (shuttlecockref06_find.l0 k y0 y1 y2) (shuttlecockref06_find.l0 (k + 1) y0 y1 y2))
 | 0 => fun _ _ _ r h => by simp [shuttlecockref06_find.l0] at h
 | k + 1 => by
  have ih0 := shuttlecockref06_find.mono_l k
  ·
   intro y0 y1 y2
   unfold shuttlecockref06_find.l0
   repeat' first
   | (with_reducible exact ih0 _ _ _)
   | (with_reducible exact LeO.refl _)
   | (with_reducible exact LeO.none _)
   | (with_reducible refine LeO.ite ?_ ?_)
   | (with_reducible refine LeO.bind ?_ (fun _ => ?_))
   | exact LeO.none _
   | refine LeO.ite ?_ ?_
   | refine LeO.bind ?_ (fun _ => ?_)
theorem shuttlecockref06_find.mono : ∀ a0 a1 k, LeO (shuttlecockref06_find.f k a0 a1) (shuttlecockref06_find.f (k + 1) a0 a1) := by
 intro a0 a1 k
 have ih0 := shuttlecockref06_find.mono_l k
 unfold shuttlecockref06_find.f
 repeat' first
   | (with_reducible exact ih0 _ _ _)
   | (with_reducible exact LeO.refl _)
   | (with_reducible exact LeO.none _)
   | (with_reducible refine LeO.ite ?_ ?_)
   | (with_reducible refine LeO.bind ?_ (fun _ => ?_))
   | exact LeO.none _
   | refine LeO.ite ?_ ?_
   | refine LeO.bind ?_ (fun _ => ?_)
set_option maxHeartbeats 8000000 in
set_option maxRecDepth 100000 in
theorem shuttlecockref06_find.calls (k : Nat) (A0 : Option Addr) (c0 : Nat) (l0 : List ByteArray) (a1 : ByteArray) (r : Int) (w : World) (hr0 : Kd.C Kd.string w A0 l0.length l0) (hc0 : l0.length ≤ c0) (h : shuttlecockref06_find.f k l0 a1 = some r) :
  Calls Try.prog 32 #[.slice A0 l0.length c0, .string a1] w fun e w' => e = .returned (.int .i64 r) ∧ Drawn0 w w' := by
 have HR0 := Am hr0
 have HC0 := Am hc0
 clear hr0 hc0
 have H : (shuttlecockref06_find.l0 k l0 a1 0) = some r := h
 clear h
 have H' := Am H
 clear H
 go_enter Try.func32, Try.ntmps32
 go_wp2
 go_loopg [5] k (fun kq v5 w' => ∃ (x5_1 : Int), v5 = .int .i64 x5_1 ∧ Aside0 (shuttlecockref06_find.l0 kq l0 a1 x5_1 = some r) ∧ Aside0 (kq ≤ k) ∧ Drawn0 w w')
 case atStart => exact ⟨(0), (by first | rfl | (simp; done) | (simp [*]; done)), H', ⟨Nat.le_refl _⟩, by repeat (first | exact Drawn0.refl _ | apply Drawn0.step)⟩
 case round =>
  clear H'
  try clear p2
  obtain ⟨x5_1, rfl, HA, HK1, ⟨m1, rfl⟩⟩ := hrel
  cases gk with
  | zero => exact absurd HA.out (by simp [shuttlecockref06_find.l0])
  | succ k1 =>
   have H := HA.out
   clear HA
   simp only [shuttlecockref06_find.l0] at H
   by_cases c3 : x5_1 < (l0.length : Int)
   ·
    rw [if_pos c3] at H
    have c3b0 : decide (x5_1 < (l0.length : Int)) = true := decide_eq_true c3
    clear c3
    by_cases c4 : 0 ≤ x5_1
    ·
     rw [if_pos c4] at H
     have c4b0 : decide (0 ≤ x5_1) = true := decide_eq_true c4
     clear c4
     by_cases c5 : (rdOf ByteArray.empty l0 x5_1).toList = a1.toList
     ·
      rw [if_pos c5] at H
      have c5b0 : ((rdOf ByteArray.empty l0 x5_1).toList == a1.toList) = true := beq_iff_eq.mpr c5
      have c5b1 : ((rdOf ByteArray.empty l0 x5_1).toList != a1.toList) = false := bne_eq_false_iff_eq.mpr c5
      clear c5
      obtain rfl := Option.some.inj H
      have p195 : 0 ≤ (x5_1 : Int) := of_decide_eq_true (by first | (with_reducible assumption) | assumption)
      have q195 : x5_1 < (l0.length : Int) := of_decide_eq_true (by first | (with_reducible assumption) | assumption)
      obtain ⟨ad195, e195, hx195_0⟩ := Kd.at_string HR0.out x5_1 p195 q195
      cases e195
      replace p195 := eq_true p195
      replace q195 := eq_true q195
      go_wp2
      go_ret
      exact ⟨by first | rfl | (simp; done) | (simp [*]; done), by repeat (first | exact Drawn0.refl _ | apply Drawn0.step)⟩
     ·
      rw [if_neg c5] at H
      have c5b0 : ((rdOf ByteArray.empty l0 x5_1).toList == a1.toList) = false := beq_eq_false_iff_ne.mpr c5
      have c5b1 : ((rdOf ByteArray.empty l0 x5_1).toList != a1.toList) = true := bne_iff_ne.mpr c5
      have H' := Am H
      clear H
      have p195 : 0 ≤ (x5_1 : Int) := of_decide_eq_true (by first | (with_reducible assumption) | assumption)
      have q195 : x5_1 < (l0.length : Int) := of_decide_eq_true (by first | (with_reducible assumption) | assumption)
      obtain ⟨ad195, e195, hx195_0⟩ := Kd.at_string HR0.out x5_1 p195 q195
      cases e195
      replace p195 := eq_true p195
      replace q195 := eq_true q195
      go_wp2
      go_roundg k1
      case measure => have := HK1.out; omega
      case rel => exact ⟨(wrap64 (x5_1 + 1)), (by first | rfl | (simp; done) | (simp [*]; done)), H', ⟨by have := HK1.out; omega⟩, by repeat (first | exact Drawn0.refl _ | apply Drawn0.step)⟩
    ·
     rw [if_neg c4] at H
     exact absurd H (by simp)
   ·
    rw [if_neg c3] at H
    have c3b0 : decide (x5_1 < (l0.length : Int)) = false := decide_eq_false c3
    clear c3
    obtain rfl := Option.some.inj H
    go_wp2
    go_ret
    exact ⟨by first | rfl | (simp; done) | (simp [*]; done), by repeat (first | exact Drawn0.refl _ | apply Drawn0.step)⟩

/-! ### shuttlecockref04_Fits: function 33 -/
def shuttlecockref04_Fits.f (a0 : Int) : Option (Bool) := if a0 ≥ 0 then (some (decide (a0 < 4611686018427387904))) else (some false)
set_option maxHeartbeats 8000000 in
set_option maxRecDepth 100000 in
theorem shuttlecockref04_Fits.calls (a0 : Int) (r : Bool) (w : World) (h : shuttlecockref04_Fits.f a0 = some r) :
  Calls Try.prog 33 #[.int .i64 a0] w fun e w' => e = .returned (.bool r) ∧ Drawn0 w w' := by
 have H : (if a0 ≥ 0 then (some (decide (a0 < 4611686018427387904))) else (some false)) = some r := h
 clear h
 by_cases c2 : a0 ≥ 0
 ·
  rw [if_pos c2] at H
  have c2b0 : decide (0 ≤ a0) = true := decide_eq_true c2
  clear c2
  obtain rfl := Option.some.inj H
  go_enter Try.func33, Try.ntmps33
  go_wp2
  go_ret
  exact ⟨by first | rfl | (simp; done) | (simp [*]; done), by repeat (first | exact Drawn0.refl _ | apply Drawn0.step)⟩
 ·
  rw [if_neg c2] at H
  have c2b0 : decide (0 ≤ a0) = false := decide_eq_false c2
  clear c2
  obtain rfl := Option.some.inj H
  go_enter Try.func33, Try.ntmps33
  go_wp2
  go_ret
  exact ⟨by first | rfl | (simp; done) | (simp [*]; done), by repeat (first | exact Drawn0.refl _ | apply Drawn0.step)⟩

end Go.Proofs.Ytijjfomnidckdaa.Q
