-- printed by a program of this session (NOTES: hprint); not the kit's print
-- minified
-- halved
import Derived.Test.YthechcflnkofgaaAl
import Derived.Test.YthechcflnkofgaaQx0
import Derived.Test.YthechcflnkofgaaQx4
import Derived.Test.YthechcflnkofgaaQx5
import Derived.Test.YthechcflnkofgaaQx7
namespace Go.Proofs.Ythechcflnkofgaa.Q
open Go.RowKit Go.Proofs.YthechcflnkofgaaW.PrintWords Go.Proofs.YthechcflnkofgaaW.PrintLast Go.Proofs.YthechcflnkofgaaW.PrintMore
attribute [local go_sem] max2_int min2_int max_two min_two max_three min_three max_four min_four   -- for this text's walks alone
set_option linter.unusedVariables false
set_option linter.unusedSimpArgs false

/-! ### shuttlecocklaw04_fixed: function 9 -/
def shuttlecocklaw04_fixed.f (k : Nat)  : Option (Bool) := (some (([7, 2] : List Int) : List Int)).bind fun y246 => ((event_Encode.f k 4 300 y246 (⟨#[]⟩ : ByteArray)).bind fun t250 => (if 1 + t250.size ≤ 9223372036854775807 then ((event_Decode.f k ((⟨#[120]⟩ : ByteArray) ++ t250) 1).bind fun bt251 => ((event_Decode.f k (⟨#[11, 0]⟩ : ByteArray) 0).bind fun bt260 => (if 0 ≤ (wrap64 ((t250.size : Int) / 2)) then (if (wrap64 ((t250.size : Int) / 2)) ≤ (t250.size : Int) then ((event_Decode.f k (t250.extract 0 ((wrap64 ((t250.size : Int) / 2)) : Int).toNat) 0).bind fun bt269 => (if t250.toList = ([4, 172, 2, 7, 2] : List UInt8) then ((shuttlecockref04_Same.f k 4 300 y246 (⟨#[]⟩ : ByteArray) bt251.1 bt251.2.1 bt251.2.2.1 bt251.2.2.2.1).bind fun t278 => (if t278 = true then (if bt251.2.2.2.2.1 = 6 then (if bt251.2.2.2.2.2 = 0 then (if bt260.2.2.2.2.2 = 30 then (if bt269.2.2.2.2.2 = 10 then ((event_May.f 4 300 y246 (⟨#[]⟩ : ByteArray)).bind fun t279 => (if t279 = true then ((event_May.f 4 0 ([] : List Int) (⟨#[]⟩ : ByteArray)).bind fun t280 => (if t280 = true then (none) else ((event_Encode.f k 130 0 ([] : List Int) (⟨#[97]⟩ : ByteArray)).bind fun t281 => (some (t281.toList == ([130, 0, 1, 97] : List UInt8)))))) else (none))) else (none)) else (none)) else (none)) else (none)) else (none))) else (none))) else (none)) else (none)))) else (none)))
theorem shuttlecocklaw04_fixed.mono : ∀ k, LeO (shuttlecocklaw04_fixed.f k ) (shuttlecocklaw04_fixed.f (k + 1) ) := by
 intro  k
 unfold shuttlecocklaw04_fixed.f
 repeat' first
   | (with_reducible exact event_Decode.mono _ _ _)
   | (with_reducible exact event_Encode.mono _ _ _ _ _)
   | (with_reducible exact shuttlecockref04_Same.mono _ _ _ _ _ _ _ _ _)
   | (with_reducible exact LeO.refl _)
   | (with_reducible exact LeO.none _)
   | (with_reducible refine LeO.ite ?_ ?_)
   | (with_reducible refine LeO.bind ?_ (fun _ => ?_))
   | exact event_Decode.mono _ _ _
   | exact event_Encode.mono _ _ _ _ _
   | exact shuttlecockref04_Same.mono _ _ _ _ _ _ _ _ _
   | exact LeO.none _
   | refine LeO.ite ?_ ?_
   | refine LeO.bind ?_ (fun _ => ?_)
set_option maxHeartbeats 8000000 in
set_option maxRecDepth 100000 in
theorem shuttlecocklaw04_fixed.calls (k : Nat)  (r : Bool) (w : World) (h : shuttlecocklaw04_fixed.f k  = some r) :
  Calls Try.prog 9 #[] w fun e w' => e = .returned (.bool r) ∧ Below w.heap.size w w' := by
 have hu24 := Try.underlying24
 have HB := Am (Below.refl w.heap.size w)
 have H : ((some (([7, 2] : List Int) : List Int)).bind fun y246 => ((event_Encode.f k 4 300 y246 (⟨#[]⟩ : ByteArray)).bind fun t250 => (if 1 + t250.size ≤ 9223372036854775807 then ((event_Decode.f k ((⟨#[120]⟩ : ByteArray) ++ t250) 1).bind fun bt251 => ((event_Decode.f k (⟨#[11, 0]⟩ : ByteArray) 0).bind fun bt260 => (if 0 ≤ (wrap64 ((t250.size : Int) / 2)) then (if (wrap64 ((t250.size : Int) / 2)) ≤ (t250.size : Int) then ((event_Decode.f k (t250.extract 0 ((wrap64 ((t250.size : Int) / 2)) : Int).toNat) 0).bind fun bt269 => (if t250.toList = ([4, 172, 2, 7, 2] : List UInt8) then ((shuttlecockref04_Same.f k 4 300 y246 (⟨#[]⟩ : ByteArray) bt251.1 bt251.2.1 bt251.2.2.1 bt251.2.2.2.1).bind fun t278 => (if t278 = true then (if bt251.2.2.2.2.1 = 6 then (if bt251.2.2.2.2.2 = 0 then (if bt260.2.2.2.2.2 = 30 then (if bt269.2.2.2.2.2 = 10 then ((event_May.f 4 300 y246 (⟨#[]⟩ : ByteArray)).bind fun t279 => (if t279 = true then ((event_May.f 4 0 ([] : List Int) (⟨#[]⟩ : ByteArray)).bind fun t280 => (if t280 = true then (none) else ((event_Encode.f k 130 0 ([] : List Int) (⟨#[97]⟩ : ByteArray)).bind fun t281 => (some (t281.toList == ([130, 0, 1, 97] : List UInt8)))))) else (none))) else (none)) else (none)) else (none)) else (none)) else (none))) else (none))) else (none)) else (none)))) else (none)))) = some r := h
 clear h
 obtain ⟨y246, hy246⟩ : ∃ y_ : List Int, y_ = (([7, 2] : List Int)) := ⟨_, rfl⟩
 replace H : ((event_Encode.f k 4 300 y246 (⟨#[]⟩ : ByteArray)).bind fun t250 => (if 1 + t250.size ≤ 9223372036854775807 then ((event_Decode.f k ((⟨#[120]⟩ : ByteArray) ++ t250) 1).bind fun bt251 => ((event_Decode.f k (⟨#[11, 0]⟩ : ByteArray) 0).bind fun bt260 => (if 0 ≤ (wrap64 ((t250.size : Int) / 2)) then (if (wrap64 ((t250.size : Int) / 2)) ≤ (t250.size : Int) then ((event_Decode.f k (t250.extract 0 ((wrap64 ((t250.size : Int) / 2)) : Int).toNat) 0).bind fun bt269 => (if t250.toList = ([4, 172, 2, 7, 2] : List UInt8) then ((shuttlecockref04_Same.f k 4 300 y246 (⟨#[]⟩ : ByteArray) bt251.1 bt251.2.1 bt251.2.2.1 bt251.2.2.2.1).bind fun t278 => (if t278 = true then (if bt251.2.2.2.2.1 = 6 then (if bt251.2.2.2.2.2 = 0 then (if bt260.2.2.2.2.2 = 30 then (if bt269.2.2.2.2.2 = 10 then ((event_May.f 4 300 y246 (⟨#[]⟩ : ByteArray)).bind fun t279 => (if t279 = true then ((event_May.f 4 0 ([] : List Int) (⟨#[]⟩ : ByteArray)).bind fun t280 => (if t280 = true then (none) else ((event_Encode.f k 130 0 ([] : List Int) (⟨#[97]⟩ : ByteArray)).bind fun t281 => (some (t281.toList == ([130, 0, 1, 97] : List UInt8)))))) else (none))) else (none)) else (none)) else (none)) else (none)) else (none))) else (none))) else (none)) else (none)))) else (none))) = some r := by first | (rw [hy246]; with_reducible exact H) | (have H2_ := (Option.bind_some _ _).symm.trans H; rw [hy246]; with_reducible exact H2_) | (have H2_ := (Option.bind_some _ _).symm.trans H; with_reducible exact H2_) | with_reducible exact H | (rw [hy246]; exact H) | exact H
 have Ny246 := Am hy246
 clear hy246
 replace H := ob H
 obtain ⟨t250, A10, H⟩ := H
 replace H : (if 1 + t250.size ≤ 9223372036854775807 then ((event_Decode.f k ((⟨#[120]⟩ : ByteArray) ++ t250) 1).bind fun bt251 => ((event_Decode.f k (⟨#[11, 0]⟩ : ByteArray) 0).bind fun bt260 => (if 0 ≤ (wrap64 ((t250.size : Int) / 2)) then (if (wrap64 ((t250.size : Int) / 2)) ≤ (t250.size : Int) then ((event_Decode.f k (t250.extract 0 ((wrap64 ((t250.size : Int) / 2)) : Int).toNat) 0).bind fun bt269 => (if t250.toList = ([4, 172, 2, 7, 2] : List UInt8) then ((shuttlecockref04_Same.f k 4 300 y246 (⟨#[]⟩ : ByteArray) bt251.1 bt251.2.1 bt251.2.2.1 bt251.2.2.2.1).bind fun t278 => (if t278 = true then (if bt251.2.2.2.2.1 = 6 then (if bt251.2.2.2.2.2 = 0 then (if bt260.2.2.2.2.2 = 30 then (if bt269.2.2.2.2.2 = 10 then ((event_May.f 4 300 y246 (⟨#[]⟩ : ByteArray)).bind fun t279 => (if t279 = true then ((event_May.f 4 0 ([] : List Int) (⟨#[]⟩ : ByteArray)).bind fun t280 => (if t280 = true then (none) else ((event_Encode.f k 130 0 ([] : List Int) (⟨#[97]⟩ : ByteArray)).bind fun t281 => (some (t281.toList == ([130, 0, 1, 97] : List UInt8)))))) else (none))) else (none)) else (none)) else (none)) else (none)) else (none))) else (none))) else (none)) else (none)))) else (none)) = some r := H
 have A1 := Am A10
 clear A10
 by_cases c2 : 1 + t250.size ≤ 9223372036854775807
 ·
  rw [if_pos c2] at H
  have c2b0 := eq_true c2
  have c2b1 : decide (1 + t250.size ≤ 9223372036854775807) = true := decide_eq_true c2
  try have c2b2 : (9223372036854775807 < 1 + t250.size) = False := eq_false (Nat.not_lt.2 c2)
  replace H := ob H
  obtain ⟨⟨t251, t252, t253, t256, t257, t258⟩, A30, H⟩ := H
  replace H : ((event_Decode.f k (⟨#[11, 0]⟩ : ByteArray) 0).bind fun bt260 => (if 0 ≤ (wrap64 ((t250.size : Int) / 2)) then (if (wrap64 ((t250.size : Int) / 2)) ≤ (t250.size : Int) then ((event_Decode.f k (t250.extract 0 ((wrap64 ((t250.size : Int) / 2)) : Int).toNat) 0).bind fun bt269 => (if t250.toList = ([4, 172, 2, 7, 2] : List UInt8) then ((shuttlecockref04_Same.f k 4 300 y246 (⟨#[]⟩ : ByteArray) t251 t252 t253 t256).bind fun t278 => (if t278 = true then (if t257 = 6 then (if t258 = 0 then (if bt260.2.2.2.2.2 = 30 then (if bt269.2.2.2.2.2 = 10 then ((event_May.f 4 300 y246 (⟨#[]⟩ : ByteArray)).bind fun t279 => (if t279 = true then ((event_May.f 4 0 ([] : List Int) (⟨#[]⟩ : ByteArray)).bind fun t280 => (if t280 = true then (none) else ((event_Encode.f k 130 0 ([] : List Int) (⟨#[97]⟩ : ByteArray)).bind fun t281 => (some (t281.toList == ([130, 0, 1, 97] : List UInt8)))))) else (none))) else (none)) else (none)) else (none)) else (none)) else (none))) else (none))) else (none)) else (none))) = some r := H
  have A3 := Am A30
  clear A30
  replace H := ob H
  obtain ⟨⟨t260, t261, t262, t265, t266, t267⟩, A40, H⟩ := H
  replace H : (if 0 ≤ (wrap64 ((t250.size : Int) / 2)) then (if (wrap64 ((t250.size : Int) / 2)) ≤ (t250.size : Int) then ((event_Decode.f k (t250.extract 0 ((wrap64 ((t250.size : Int) / 2)) : Int).toNat) 0).bind fun bt269 => (if t250.toList = ([4, 172, 2, 7, 2] : List UInt8) then ((shuttlecockref04_Same.f k 4 300 y246 (⟨#[]⟩ : ByteArray) t251 t252 t253 t256).bind fun t278 => (if t278 = true then (if t257 = 6 then (if t258 = 0 then (if t267 = 30 then (if bt269.2.2.2.2.2 = 10 then ((event_May.f 4 300 y246 (⟨#[]⟩ : ByteArray)).bind fun t279 => (if t279 = true then ((event_May.f 4 0 ([] : List Int) (⟨#[]⟩ : ByteArray)).bind fun t280 => (if t280 = true then (none) else ((event_Encode.f k 130 0 ([] : List Int) (⟨#[97]⟩ : ByteArray)).bind fun t281 => (some (t281.toList == ([130, 0, 1, 97] : List UInt8)))))) else (none))) else (none)) else (none)) else (none)) else (none)) else (none))) else (none))) else (none)) else (none)) = some r := H
  have A4 := Am A40
  clear A40
  obtain ⟨ji5, hji5⟩ : ∃ j_ : Int, (wrap64 ((t250.size : Int) / 2)) = j_ := ⟨_, rfl⟩
  replace H : (if 0 ≤ (ji5) then (if (ji5) ≤ (t250.size : Int) then ((event_Decode.f k (t250.extract 0 ((ji5) : Int).toNat) 0).bind fun bt269 => (if t250.toList = ([4, 172, 2, 7, 2] : List UInt8) then ((shuttlecockref04_Same.f k 4 300 y246 (⟨#[]⟩ : ByteArray) t251 t252 t253 t256).bind fun t278 => (if t278 = true then (if t257 = 6 then (if t258 = 0 then (if t267 = 30 then (if bt269.2.2.2.2.2 = 10 then ((event_May.f 4 300 y246 (⟨#[]⟩ : ByteArray)).bind fun t279 => (if t279 = true then ((event_May.f 4 0 ([] : List Int) (⟨#[]⟩ : ByteArray)).bind fun t280 => (if t280 = true then (none) else ((event_Encode.f k 130 0 ([] : List Int) (⟨#[97]⟩ : ByteArray)).bind fun t281 => (some (t281.toList == ([130, 0, 1, 97] : List UInt8)))))) else (none))) else (none)) else (none)) else (none)) else (none)) else (none))) else (none))) else (none)) else (none)) = some r := by first | (rw [hji5] at H; exact H) | (simp only [hji5] at H ⊢; exact H)
  (try rw [hji5] at A1)
  (try rw [hji5] at A3)
  (try rw [hji5] at A4)
  have hji5w : (IntKind.i64.wrap ((t250.size : Int) / 2)) = ji5 := (i64_w _).trans hji5
  by_cases c6 : 0 ≤ (ji5)
  ·
   rw [if_pos c6] at H
   have c6b0 := eq_true c6
   have c6b1 : decide (0 ≤ (ji5)) = true := decide_eq_true c6
   clear c6
   by_cases c7 : (ji5) ≤ (t250.size : Int)
   ·
    rw [if_pos c7] at H
    have c7b0 := eq_true c7
    have c7b1 : decide ((ji5) ≤ (t250.size : Int)) = true := decide_eq_true c7
    clear c7
    replace H := ob H
    obtain ⟨⟨t269, t270, t271, t274, t275, t276⟩, A80, H⟩ := H
    replace H : (if t250.toList = ([4, 172, 2, 7, 2] : List UInt8) then ((shuttlecockref04_Same.f k 4 300 y246 (⟨#[]⟩ : ByteArray) t251 t252 t253 t256).bind fun t278 => (if t278 = true then (if t257 = 6 then (if t258 = 0 then (if t267 = 30 then (if t276 = 10 then ((event_May.f 4 300 y246 (⟨#[]⟩ : ByteArray)).bind fun t279 => (if t279 = true then ((event_May.f 4 0 ([] : List Int) (⟨#[]⟩ : ByteArray)).bind fun t280 => (if t280 = true then (none) else ((event_Encode.f k 130 0 ([] : List Int) (⟨#[97]⟩ : ByteArray)).bind fun t281 => (some (t281.toList == ([130, 0, 1, 97] : List UInt8)))))) else (none))) else (none)) else (none)) else (none)) else (none)) else (none))) else (none)) = some r := H
    have A8 := Am A80
    clear A80
    by_cases c9 : t250.toList = ([4, 172, 2, 7, 2] : List UInt8)
    ·
     rw [if_pos c9] at H
     have c9b0 : (t250.toList == ([4, 172, 2, 7, 2] : List UInt8)) = true := beq_iff_eq.mpr c9
     have c9b1 : (t250.toList != ([4, 172, 2, 7, 2] : List UInt8)) = false := bne_eq_false_iff_eq.mpr c9
     clear c9
     replace H := ob H
     obtain ⟨t278, A100, H⟩ := H
     replace H : (if t278 = true then (if t257 = 6 then (if t258 = 0 then (if t267 = 30 then (if t276 = 10 then ((event_May.f 4 300 y246 (⟨#[]⟩ : ByteArray)).bind fun t279 => (if t279 = true then ((event_May.f 4 0 ([] : List Int) (⟨#[]⟩ : ByteArray)).bind fun t280 => (if t280 = true then (none) else ((event_Encode.f k 130 0 ([] : List Int) (⟨#[97]⟩ : ByteArray)).bind fun t281 => (some (t281.toList == ([130, 0, 1, 97] : List UInt8)))))) else (none))) else (none)) else (none)) else (none)) else (none)) else (none)) = some r := H
     have A10 := Am A100
     clear A100
     by_cases c11 : t278 = true
     ·
      subst c11
      have H1 : (if t257 = 6 then (if t258 = 0 then (if t267 = 30 then (if t276 = 10 then ((event_May.f 4 300 y246 (⟨#[]⟩ : ByteArray)).bind fun t279 => (if t279 = true then ((event_May.f 4 0 ([] : List Int) (⟨#[]⟩ : ByteArray)).bind fun t280 => (if t280 = true then (none) else ((event_Encode.f k 130 0 ([] : List Int) (⟨#[97]⟩ : ByteArray)).bind fun t281 => (some (t281.toList == ([130, 0, 1, 97] : List UInt8)))))) else (none))) else (none)) else (none)) else (none)) else (none)) = some r := by rw [if_pos rfl] at H; exact H
      clear H
      have H := H1
      clear H1
      by_cases c12 : t257 = 6
      ·
       rw [if_pos c12] at H
       have c12b0 : (t257 == 6) = true := beq_iff_eq.mpr c12
       have c12b1 : (t257 != 6) = false := bne_eq_false_iff_eq.mpr c12
       clear c12
       by_cases c13 : t258 = 0
       ·
        rw [if_pos c13] at H
        have c13b0 : (t258 == 0) = true := beq_iff_eq.mpr c13
        have c13b1 : (t258 != 0) = false := bne_eq_false_iff_eq.mpr c13
        clear c13
        by_cases c14 : t267 = 30
        ·
         rw [if_pos c14] at H
         have c14b0 : (t267 == 30) = true := beq_iff_eq.mpr c14
         have c14b1 : (t267 != 30) = false := bne_eq_false_iff_eq.mpr c14
         clear c14
         by_cases c15 : t276 = 10
         ·
          rw [if_pos c15] at H
          have c15b0 : (t276 == 10) = true := beq_iff_eq.mpr c15
          have c15b1 : (t276 != 10) = false := bne_eq_false_iff_eq.mpr c15
          clear c15
          replace H := ob H
          obtain ⟨t279, A160, H⟩ := H
          replace H : (if t279 = true then ((event_May.f 4 0 ([] : List Int) (⟨#[]⟩ : ByteArray)).bind fun t280 => (if t280 = true then (none) else ((event_Encode.f k 130 0 ([] : List Int) (⟨#[97]⟩ : ByteArray)).bind fun t281 => (some (t281.toList == ([130, 0, 1, 97] : List UInt8)))))) else (none)) = some r := H
          have A16 := Am A160
          clear A160
          by_cases c17 : t279 = true
          ·
           subst c17
           have H1 : ((event_May.f 4 0 ([] : List Int) (⟨#[]⟩ : ByteArray)).bind fun t280 => (if t280 = true then (none) else ((event_Encode.f k 130 0 ([] : List Int) (⟨#[97]⟩ : ByteArray)).bind fun t281 => (some (t281.toList == ([130, 0, 1, 97] : List UInt8)))))) = some r := by rw [if_pos rfl] at H; exact H
           clear H
           have H := H1
           clear H1
           replace H := ob H
           obtain ⟨t280, A180, H⟩ := H
           replace H : (if t280 = true then (none) else ((event_Encode.f k 130 0 ([] : List Int) (⟨#[97]⟩ : ByteArray)).bind fun t281 => (some (t281.toList == ([130, 0, 1, 97] : List UInt8))))) = some r := H
           have A18 := Am A180
           clear A180
           by_cases c19 : t280 = true
           ·
            subst c19
            have H1 : (none) = some r := by rw [if_pos rfl] at H; exact H
            clear H
            have H := H1
            clear H1
            exact absurd H (by simp)
           ·
            replace c19 := Bool.eq_false_iff.mpr c19
            subst c19
            have H1 : ((event_Encode.f k 130 0 ([] : List Int) (⟨#[97]⟩ : ByteArray)).bind fun t281 => (some (t281.toList == ([130, 0, 1, 97] : List UInt8)))) = some r := by rw [if_neg (show ¬ (false = true) by decide)] at H; exact H
            clear H
            have H := H1
            clear H1
            replace H := ob H
            obtain ⟨t281, A200, H⟩ := H
            replace H : (some (t281.toList == ([130, 0, 1, 97] : List UInt8))) = some r := H
            have A20 := Am A200
            clear A200
            obtain rfl := Option.some.inj H
            go_enter Try.func9, Try.ntmps9
            go_wp2_with (first | ((with_reducible refine gate_dst (N := 12) rfl ?_); refine Kd.R_lit (Kd.int .i64) _ 3 ?hg (N := 12) ?hd (xs := ([7, 2] : List Int)) (inner := [.int .i64 7, .int .i64 2]) (ok := fun _ => True) (okp := fun _ => True) ?hr ?hp (fun _ hk => hk) trivial (Below.refl _ _) (Nat.le_refl _) (by simp) ?_; (case hd => rfl); (case hg => rfl); (case hr => first | (go_simp; done) | (go_simp; rfl)); (case hp => exact (Reps.one (show Kd.M (Kd.int .i64) _ _ _ 7 [.int .i64 7] from rfl) (Reps.one (show Kd.M (Kd.int .i64) _ _ _ 2 [.int .i64 2] from rfl) (Reps.none _ _)))); intro v247 w21 ho22 hb hg_ hnew_; clear hg_ hnew_; (first | rw [← Ny246.out] at ho22 | (simp only [Int.reduceToNat] at ho22; rw [← Ny246.out] at ho22)); have n0_ := Am (Kd.R_lower ho22 (below_size (by repeat (first | (with_reducible first | exact HB.out | apply bl | apply pN | apply b1) | exact HB.out | exact HBo.out)))); have n1_ := Am (below_step (by repeat (first | (with_reducible first | exact HB.out | apply bl | apply pN | apply b1) | exact HB.out | exact HBo.out)) hb); clear HB; have HO248 := n0_; have HB := n1_; clear n0_ n1_; clear hb ho22; obtain ⟨Ao23, co23, eo23⟩ := Kd.R_slice HO248.out; subst eo23) | ((with_reducible refine gate_dst (N := 1) rfl ?_); refine box_event ?hg (N := 1) ?hd (cs := #[.int .i64 0, .int .i64 0, .slice none 0 0, .string (⟨#[]⟩ : ByteArray)]) (t := 24) ?hr ?_; (case hd => rfl); (case hg => rfl); (case hr => first | (go_simp; done) | (go_simp; rfl)); intro gb249 hg w24 hbox hb; have n0_ := Am (Kd.R_below (by (with_reducible repeat (first | apply Kd.R_alloc | apply Kd.R_drewN | apply Kd.R_drew)); exact HO248.out) hb); have n1_ := Am (below_step (by repeat (first | (with_reducible first | exact HB.out | apply bl | apply pN | apply b1) | exact HB.out | exact HBo.out)) hb); have n2_ := Am (hbox); have n3_ := Am ((by rw [hg]; exact (below_size (by repeat (first | (with_reducible first | exact HB.out | apply bl | apply pN | apply b1) | exact HB.out | exact HBo.out))) : w.heap.size ≤ gb249)); have n4_ := Am ((by rw [hg]; exact (below_size (by repeat (first | (with_reducible first | exact HB.out | apply bl | apply pN | apply b1) | exact HB.out | exact HBo.out))) : w.heap.size ≤ gb249)); clear HO248; clear HB; have HO248 := n0_; have HB := n1_; have BK249 := n2_; have GW249 := n3_; have GE249 := n4_; clear n0_ n1_ n2_ n3_ n4_; clear hb hbox hg; have hcz25_0 : w24.cell? ⟨gb249, 0, none⟩ = some (.int .i64 0) := (bc BK249.out 0).trans rfl; have hcz25_1 : w24.cell? ⟨gb249, 1, none⟩ = some (.int .i64 0) := (bc BK249.out 1).trans rfl; have hcz25_2 : w24.cell? ⟨gb249, 2, none⟩ = some (.slice none 0 0) := (bc BK249.out 2).trans rfl; have hcz25_3 : w24.cell? ⟨gb249, 3, none⟩ = some (.string (⟨#[]⟩ : ByteArray)) := (bc BK249.out 3).trans rfl; have hfz25_0 := bf BK249.out 0; have hfz25_1 := bf BK249.out 1; have hfz25_2 := bf BK249.out 2; have hfz25_3 := bf BK249.out 3) | ((with_reducible refine gate_callee (f := 14) rfl ?_); refine goesL_ (some 15) rfl rfl Try.func14 (by kernel_rfl) rfl #[.agg #[.int .i64 4, .int .i64 300, .slice Ao23 y246.length co23, .string (⟨#[]⟩ : ByteArray)]] rfl (by (try simp only [List.map_toArray, List.map_cons, List.map_nil]); first | done | rfl | (simp only [List.length_drop, List.length_take]; rfl)) ?_; (with_reducible refine (event_Encode.calls k 4 300 _ _ y246 (⟨#[]⟩ : ByteArray) t250 _ ?side1 ?side2 A1.out).mono ?_); (case side1 => refine (Kd.R_reads' (e := 3) (base := w.heap.size) (ok := fun k_ => True) (n := y246.length) (c := co23) ?_).2.2; exact (by (with_reducible repeat (first | apply Kd.R_alloc | apply Kd.R_drewN | apply Kd.R_drew)); exact (Kd.R_mono (Kd.R_far (p := ⟨gb249, 3, none⟩) (Kd.R_far (p := ⟨gb249, 2, none⟩) (Kd.R_far (p := ⟨gb249, 1, none⟩) (Kd.R_far (p := ⟨gb249, 0, none⟩) (Kd.R_types HO248.out BK249.out (by decide)) (fun _ hk => hk.2) (.int .i64 4)) (fun _ hk => hk.2) (.int .i64 300)) (fun _ hk => hk.2) (.slice Ao23 y246.length co23)) (fun _ hk => hk.2) (.string (⟨#[]⟩ : ByteArray))) (fun _ h_ => h_.1)))); (case side2 => exact (Kd.R_reads' HO248.out).2.1); rintro e w26 ⟨rfl, hb⟩; refine ⟨_, rfl, ?_⟩; have n0_ := Am (Kd.R_below (by (with_reducible repeat (first | apply Kd.R_alloc | apply Kd.R_drewN | apply Kd.R_drew)); exact (Kd.R_mono (Kd.R_far (p := ⟨gb249, 3, none⟩) (Kd.R_far (p := ⟨gb249, 2, none⟩) (Kd.R_far (p := ⟨gb249, 1, none⟩) (Kd.R_far (p := ⟨gb249, 0, none⟩) (Kd.R_types HO248.out BK249.out (by decide)) (fun _ hk => hk.2) (.int .i64 4)) (fun _ hk => hk.2) (.int .i64 300)) (fun _ hk => hk.2) (.slice Ao23 y246.length co23)) (fun _ hk => hk.2) (.string (⟨#[]⟩ : ByteArray))) (fun _ h_ => h_.1))) hb); have n1_ := Am (blk_below (g := gb249) (o := .cells #[.int .i64 4, .int .i64 300, .slice Ao23 y246.length co23, .string (⟨#[]⟩ : ByteArray)] 24 (0, 0)) (by (with_reducible repeat (first | refine bn ?_ _ | refine bd ?_ | refine ba ?_ _)); refine blk_put (cs := #[.int .i64 4, .int .i64 300, .slice Ao23 y246.length co23, .string (⟨#[]⟩ : ByteArray)]) ?_ 3 _ rfl; (with_reducible repeat (first | refine bn ?_ _ | refine bd ?_ | refine ba ?_ _)); refine blk_put (cs := #[.int .i64 4, .int .i64 300, .slice none 0 0, .string (⟨#[]⟩ : ByteArray)]) ?_ 2 _ rfl; (with_reducible repeat (first | refine bn ?_ _ | refine bd ?_ | refine ba ?_ _)); refine blk_put (cs := #[.int .i64 4, .int .i64 0, .slice none 0 0, .string (⟨#[]⟩ : ByteArray)]) ?_ 1 _ rfl; (with_reducible repeat (first | refine bn ?_ _ | refine bd ?_ | refine ba ?_ _)); refine blk_put (cs := #[.int .i64 0, .int .i64 0, .slice none 0 0, .string (⟨#[]⟩ : ByteArray)]) ?_ 0 _ rfl; (with_reducible repeat (first | refine bn ?_ _ | refine bd ?_ | refine ba ?_ _)); exact BK249.out) hb); have n2_ := Am (below_step (by repeat (first | (with_reducible first | exact HB.out | apply bl | apply pN | apply b1 | refine bs ?_ GE249.out) | exact HB.out | exact HBo.out)) hb); clear HO248; clear BK249; clear HB; have HO248 := n0_; have BK249 := n1_; have HB := n2_; clear n0_ n1_ n2_; (try clear hb); (try clear hb2); (try clear hk); (try clear hi)) | ((with_reducible refine gate_callee (f := 10) rfl ?_); refine goesL_ (some 19) rfl rfl Try.func10 (by kernel_rfl) rfl #[.string ((⟨#[120]⟩ : ByteArray) ++ t250), .int .i64 1] rfl (by (try simp only [List.map_toArray, List.map_cons, List.map_nil]); first | done | rfl | (simp only [List.length_drop, List.length_take]; rfl)) ?_; (with_reducible refine (event_Decode.calls k ((⟨#[120]⟩ : ByteArray) ++ t250) 1 t251 t252 t253 t256 t257 t258 _ A3.out).mono ?_); rintro e w27 ⟨v254, rfl, ho0, hb⟩; refine ⟨_, rfl, ?_⟩; have n0_ := Am (Kd.R_elder' (by (with_reducible repeat (first | apply Kd.R_alloc | apply Kd.R_drewN | apply Kd.R_drew)); exact HO248.out) (Kd.R_base ho0) hb); have n1_ := Am (Kd.R_lower (Kd.R_new' ho0 (Kd.R_lt (by (with_reducible repeat (first | apply Kd.R_alloc | apply Kd.R_drewN | apply Kd.R_drew)); exact HO248.out))) (below_size (by repeat (first | (with_reducible first | exact HB.out | apply bl | apply pN | apply b1 | refine bs ?_ GE249.out) | exact HB.out | exact HBo.out)))); have n2_ := Am (blk_below (g := gb249) (o := .cells #[.int .i64 4, .int .i64 300, .slice Ao23 y246.length co23, .string (⟨#[]⟩ : ByteArray)] 24 (0, 0)) (by (with_reducible repeat (first | refine bn ?_ _ | refine bd ?_ | refine ba ?_ _)); exact BK249.out) hb); have n3_ := Am (below_step (by repeat (first | (with_reducible first | exact HB.out | apply bl | apply pN | apply b1 | refine bs ?_ GE249.out) | exact HB.out | exact HBo.out)) hb); clear HO248; clear BK249; clear HB; have HO248 := n0_; have HO255 := n1_; have BK249 := n2_; have HB := n3_; clear n0_ n1_ n2_ n3_; (try clear hb); (try clear hb2); (try clear hk); (try clear hi); (try clear ho0)) | ((with_reducible refine gate_dst (N := 3) rfl ?_); refine box_event ?hg (N := 3) ?hd (cs := #[.int .i64 0, .int .i64 0, .slice none 0 0, .string (⟨#[]⟩ : ByteArray)]) (t := 24) ?hr ?_; (case hd => rfl); (case hg => rfl); (case hr => first | (go_simp; done) | (go_simp; rfl)); intro gb259 hg w28 hbox hb; have n0_ := Am (Kd.R_below (by (with_reducible repeat (first | apply Kd.R_alloc | apply Kd.R_drewN | apply Kd.R_drew)); exact HO248.out) hb); have n1_ := Am (Kd.R_below (by (with_reducible repeat (first | apply Kd.R_alloc | apply Kd.R_drewN | apply Kd.R_drew)); exact HO255.out) hb); have n2_ := Am (blk_below (g := gb249) (o := .cells #[.int .i64 4, .int .i64 300, .slice Ao23 y246.length co23, .string (⟨#[]⟩ : ByteArray)] 24 (0, 0)) (by (with_reducible repeat (first | refine bn ?_ _ | refine bd ?_ | refine ba ?_ _)); exact BK249.out) hb); have n3_ := Am (below_step (by repeat (first | (with_reducible first | exact HB.out | apply bl | apply pN | apply b1 | refine bs ?_ GE249.out) | exact HB.out | exact HBo.out)) hb); have n4_ := Am (hbox); have n5_ := Am ((by rw [hg]; exact (below_size (by repeat (first | (with_reducible first | exact HB.out | apply bl | apply pN | apply b1 | refine bs ?_ GE249.out) | exact HB.out | exact HBo.out))) : w.heap.size ≤ gb259)); have n6_ := Am ((by rw [hg]; exact (below_size (by repeat (first | (with_reducible first | exact HB.out | apply bl | apply pN | apply b1 | refine bs ?_ GE249.out) | exact HB.out | exact HBo.out))) : w.heap.size ≤ gb259)); have n7_ := Am ((by rw [hg]; exact Nat.ne_of_lt (blk_lt (g := gb249) (o := .cells #[.int .i64 4, .int .i64 300, .slice Ao23 y246.length co23, .string (⟨#[]⟩ : ByteArray)] 24 (0, 0)) (by (with_reducible repeat (first | refine bn ?_ _ | refine bd ?_ | refine ba ?_ _)); exact BK249.out)) : gb249 ≠ gb259)); have n8_ := Am ((by rw [hg]; exact Nat.ne_of_gt (blk_lt (g := gb249) (o := .cells #[.int .i64 4, .int .i64 300, .slice Ao23 y246.length co23, .string (⟨#[]⟩ : ByteArray)] 24 (0, 0)) (by (with_reducible repeat (first | refine bn ?_ _ | refine bd ?_ | refine ba ?_ _)); exact BK249.out)) : gb259 ≠ gb249)); clear HO248; clear HO255; clear BK249; clear HB; have HO248 := n0_; have HO255 := n1_; have BK249 := n2_; have HB := n3_; have BK259 := n4_; have GW259 := n5_; have GE259 := n6_; have NB249_259 := n7_; have NB259_249 := n8_; clear n0_ n1_ n2_ n3_ n4_ n5_ n6_ n7_ n8_; clear hb hbox hg; have hnb29 := NB259_249.out; have hnc29 := NB249_259.out; have hcz30_0 : w28.cell? ⟨gb259, 0, none⟩ = some (.int .i64 0) := (bc BK259.out 0).trans rfl; have hcz30_1 : w28.cell? ⟨gb259, 1, none⟩ = some (.int .i64 0) := (bc BK259.out 1).trans rfl; have hcz30_2 : w28.cell? ⟨gb259, 2, none⟩ = some (.slice none 0 0) := (bc BK259.out 2).trans rfl; have hcz30_3 : w28.cell? ⟨gb259, 3, none⟩ = some (.string (⟨#[]⟩ : ByteArray)) := (bc BK259.out 3).trans rfl; have hfz30_0 := bf BK259.out 0; have hfz30_1 := bf BK259.out 1; have hfz30_2 := bf BK259.out 2; have hfz30_3 := bf BK259.out 3; obtain ⟨Ao31, co31, eo31⟩ := Kd.R_slice HO255.out; subst eo31) | ((with_reducible refine gate_callee (f := 10) rfl ?_); refine goesL_ (some 24) rfl rfl Try.func10 (by kernel_rfl) rfl #[.string (⟨#[11, 0]⟩ : ByteArray), .int .i64 0] rfl (by (try simp only [List.map_toArray, List.map_cons, List.map_nil]); first | done | rfl | (simp only [List.length_drop, List.length_take]; rfl)) ?_; (with_reducible refine (event_Decode.calls k (⟨#[11, 0]⟩ : ByteArray) 0 t260 t261 t262 t265 t266 t267 _ A4.out).mono ?_); rintro e w32 ⟨v263, rfl, ho0, hb⟩; refine ⟨_, rfl, ?_⟩; have n0_ := Am (Kd.R_elder' (by (with_reducible repeat (first | apply Kd.R_alloc | apply Kd.R_drewN | apply Kd.R_drew)); exact (Kd.R_mono (Kd.R_far (p := ⟨gb259, 3, none⟩) (Kd.R_far (p := ⟨gb259, 2, none⟩) (Kd.R_far (p := ⟨gb259, 1, none⟩) (Kd.R_far (p := ⟨gb259, 0, none⟩) (Kd.R_types HO248.out BK259.out (by decide)) (fun _ hk => hk.2) (.int .i64 t251)) (fun _ hk => hk.2) (.int .i64 t252)) (fun _ hk => hk.2) (.slice Ao31 t253.length co31)) (fun _ hk => hk.2) (.string t256)) (fun _ h_ => h_.1))) (Kd.R_base ho0) hb); have n1_ := Am (Kd.R_elder' (by (with_reducible repeat (first | apply Kd.R_alloc | apply Kd.R_drewN | apply Kd.R_drew)); exact (Kd.R_mono (Kd.R_far (p := ⟨gb259, 3, none⟩) (Kd.R_far (p := ⟨gb259, 2, none⟩) (Kd.R_far (p := ⟨gb259, 1, none⟩) (Kd.R_far (p := ⟨gb259, 0, none⟩) (Kd.R_types HO255.out BK259.out (by decide)) (fun _ hk => hk.2) (.int .i64 t251)) (fun _ hk => hk.2) (.int .i64 t252)) (fun _ hk => hk.2) (.slice Ao31 t253.length co31)) (fun _ hk => hk.2) (.string t256)) (fun _ h_ => h_.1))) (Kd.R_base ho0) hb); have n2_ := Am (Kd.R_lower (Kd.R_new' (Kd.R_new' ho0 (Kd.R_lt (by (with_reducible repeat (first | apply Kd.R_alloc | apply Kd.R_drewN | apply Kd.R_drew)); exact (Kd.R_mono (Kd.R_far (p := ⟨gb259, 3, none⟩) (Kd.R_far (p := ⟨gb259, 2, none⟩) (Kd.R_far (p := ⟨gb259, 1, none⟩) (Kd.R_far (p := ⟨gb259, 0, none⟩) (Kd.R_types HO248.out BK259.out (by decide)) (fun _ hk => hk.2) (.int .i64 t251)) (fun _ hk => hk.2) (.int .i64 t252)) (fun _ hk => hk.2) (.slice Ao31 t253.length co31)) (fun _ hk => hk.2) (.string t256)) (fun _ h_ => h_.1))))) (Kd.R_lt (by (with_reducible repeat (first | apply Kd.R_alloc | apply Kd.R_drewN | apply Kd.R_drew)); exact (Kd.R_mono (Kd.R_far (p := ⟨gb259, 3, none⟩) (Kd.R_far (p := ⟨gb259, 2, none⟩) (Kd.R_far (p := ⟨gb259, 1, none⟩) (Kd.R_far (p := ⟨gb259, 0, none⟩) (Kd.R_types HO255.out BK259.out (by decide)) (fun _ hk => hk.2) (.int .i64 t251)) (fun _ hk => hk.2) (.int .i64 t252)) (fun _ hk => hk.2) (.slice Ao31 t253.length co31)) (fun _ hk => hk.2) (.string t256)) (fun _ h_ => h_.1))))) (below_size (by repeat (first | (with_reducible first | exact HB.out | apply bl | apply pN | apply b1 | refine bs ?_ GE249.out | refine bs ?_ GE259.out) | exact HB.out | exact HBo.out)))); have n3_ := Am (blk_below (g := gb249) (o := .cells #[.int .i64 4, .int .i64 300, .slice Ao23 y246.length co23, .string (⟨#[]⟩ : ByteArray)] 24 (0, 0)) (by (with_reducible repeat (first | refine bn ?_ _ | refine bd ?_ | refine ba ?_ _)); refine blk_far ?_ NB249_259.out _; (with_reducible repeat (first | refine bn ?_ _ | refine bd ?_ | refine ba ?_ _)); refine blk_far ?_ NB249_259.out _; (with_reducible repeat (first | refine bn ?_ _ | refine bd ?_ | refine ba ?_ _)); refine blk_far ?_ NB249_259.out _; (with_reducible repeat (first | refine bn ?_ _ | refine bd ?_ | refine ba ?_ _)); refine blk_far ?_ NB249_259.out _; (with_reducible repeat (first | refine bn ?_ _ | refine bd ?_ | refine ba ?_ _)); exact BK249.out) hb); have n4_ := Am (blk_below (g := gb259) (o := .cells #[.int .i64 t251, .int .i64 t252, .slice Ao31 t253.length co31, .string t256] 24 (0, 0)) (by (with_reducible repeat (first | refine bn ?_ _ | refine bd ?_ | refine ba ?_ _)); refine blk_put (cs := #[.int .i64 t251, .int .i64 t252, .slice Ao31 t253.length co31, .string (⟨#[]⟩ : ByteArray)]) ?_ 3 _ rfl; (with_reducible repeat (first | refine bn ?_ _ | refine bd ?_ | refine ba ?_ _)); refine blk_put (cs := #[.int .i64 t251, .int .i64 t252, .slice none 0 0, .string (⟨#[]⟩ : ByteArray)]) ?_ 2 _ rfl; (with_reducible repeat (first | refine bn ?_ _ | refine bd ?_ | refine ba ?_ _)); refine blk_put (cs := #[.int .i64 t251, .int .i64 0, .slice none 0 0, .string (⟨#[]⟩ : ByteArray)]) ?_ 1 _ rfl; (with_reducible repeat (first | refine bn ?_ _ | refine bd ?_ | refine ba ?_ _)); refine blk_put (cs := #[.int .i64 0, .int .i64 0, .slice none 0 0, .string (⟨#[]⟩ : ByteArray)]) ?_ 0 _ rfl; (with_reducible repeat (first | refine bn ?_ _ | refine bd ?_ | refine ba ?_ _)); exact BK259.out) hb); have n5_ := Am (below_step (by repeat (first | (with_reducible first | exact HB.out | apply bl | apply pN | apply b1 | refine bs ?_ GE249.out | refine bs ?_ GE259.out) | exact HB.out | exact HBo.out)) hb); clear HO248; clear HO255; clear BK249; clear BK259; clear HB; have HO248 := n0_; have HO255 := n1_; have HO264 := n2_; have BK249 := n3_; have BK259 := n4_; have HB := n5_; clear n0_ n1_ n2_ n3_ n4_ n5_; (try clear hb); (try clear hb2); (try clear hk); (try clear hi); (try clear ho0)) | ((with_reducible refine gate_dst (N := 6) rfl ?_); refine box_event ?hg (N := 6) ?hd (cs := #[.int .i64 0, .int .i64 0, .slice none 0 0, .string (⟨#[]⟩ : ByteArray)]) (t := 24) ?hr ?_; (case hd => rfl); (case hg => rfl); (case hr => first | (go_simp; done) | (go_simp; rfl)); intro gb268 hg w33 hbox hb; have n0_ := Am (Kd.R_below (by (with_reducible repeat (first | apply Kd.R_alloc | apply Kd.R_drewN | apply Kd.R_drew)); exact HO248.out) hb); have n1_ := Am (Kd.R_below (by (with_reducible repeat (first | apply Kd.R_alloc | apply Kd.R_drewN | apply Kd.R_drew)); exact HO255.out) hb); have n2_ := Am (Kd.R_below (by (with_reducible repeat (first | apply Kd.R_alloc | apply Kd.R_drewN | apply Kd.R_drew)); exact HO264.out) hb); have n3_ := Am (blk_below (g := gb249) (o := .cells #[.int .i64 4, .int .i64 300, .slice Ao23 y246.length co23, .string (⟨#[]⟩ : ByteArray)] 24 (0, 0)) (by (with_reducible repeat (first | refine bn ?_ _ | refine bd ?_ | refine ba ?_ _)); exact BK249.out) hb); have n4_ := Am (blk_below (g := gb259) (o := .cells #[.int .i64 t251, .int .i64 t252, .slice Ao31 t253.length co31, .string t256] 24 (0, 0)) (by (with_reducible repeat (first | refine bn ?_ _ | refine bd ?_ | refine ba ?_ _)); exact BK259.out) hb); have n5_ := Am (below_step (by repeat (first | (with_reducible first | exact HB.out | apply bl | apply pN | apply b1 | refine bs ?_ GE249.out | refine bs ?_ GE259.out) | exact HB.out | exact HBo.out)) hb); have n6_ := Am (hbox); have n7_ := Am ((by rw [hg]; exact (below_size (by repeat (first | (with_reducible first | exact HB.out | apply bl | apply pN | apply b1 | refine bs ?_ GE249.out | refine bs ?_ GE259.out) | exact HB.out | exact HBo.out))) : w.heap.size ≤ gb268)); have n8_ := Am ((by rw [hg]; exact (below_size (by repeat (first | (with_reducible first | exact HB.out | apply bl | apply pN | apply b1 | refine bs ?_ GE249.out | refine bs ?_ GE259.out) | exact HB.out | exact HBo.out))) : w.heap.size ≤ gb268)); have n9_ := Am ((by rw [hg]; exact Nat.ne_of_lt (blk_lt (g := gb249) (o := .cells #[.int .i64 4, .int .i64 300, .slice Ao23 y246.length co23, .string (⟨#[]⟩ : ByteArray)] 24 (0, 0)) (by (with_reducible repeat (first | refine bn ?_ _ | refine bd ?_ | refine ba ?_ _)); exact BK249.out)) : gb249 ≠ gb268)); have n10_ := Am ((by rw [hg]; exact Nat.ne_of_gt (blk_lt (g := gb249) (o := .cells #[.int .i64 4, .int .i64 300, .slice Ao23 y246.length co23, .string (⟨#[]⟩ : ByteArray)] 24 (0, 0)) (by (with_reducible repeat (first | refine bn ?_ _ | refine bd ?_ | refine ba ?_ _)); exact BK249.out)) : gb268 ≠ gb249)); have n11_ := Am ((by rw [hg]; exact Nat.ne_of_lt (blk_lt (g := gb259) (o := .cells #[.int .i64 t251, .int .i64 t252, .slice Ao31 t253.length co31, .string t256] 24 (0, 0)) (by (with_reducible repeat (first | refine bn ?_ _ | refine bd ?_ | refine ba ?_ _)); exact BK259.out)) : gb259 ≠ gb268)); have n12_ := Am ((by rw [hg]; exact Nat.ne_of_gt (blk_lt (g := gb259) (o := .cells #[.int .i64 t251, .int .i64 t252, .slice Ao31 t253.length co31, .string t256] 24 (0, 0)) (by (with_reducible repeat (first | refine bn ?_ _ | refine bd ?_ | refine ba ?_ _)); exact BK259.out)) : gb268 ≠ gb259)); clear HO248; clear HO255; clear HO264; clear BK249; clear BK259; clear HB; have HO248 := n0_; have HO255 := n1_; have HO264 := n2_; have BK249 := n3_; have BK259 := n4_; have HB := n5_; have BK268 := n6_; have GW268 := n7_; have GE268 := n8_; have NB249_268 := n9_; have NB268_249 := n10_; have NB259_268 := n11_; have NB268_259 := n12_; clear n0_ n1_ n2_ n3_ n4_ n5_ n6_ n7_ n8_ n9_ n10_ n11_ n12_; clear hb hbox hg; have hnb34 := NB268_249.out; have hnc34 := NB249_268.out; have hnb35 := NB268_259.out; have hnc35 := NB259_268.out; have hcz36_0 : w33.cell? ⟨gb268, 0, none⟩ = some (.int .i64 0) := (bc BK268.out 0).trans rfl; have hcz36_1 : w33.cell? ⟨gb268, 1, none⟩ = some (.int .i64 0) := (bc BK268.out 1).trans rfl; have hcz36_2 : w33.cell? ⟨gb268, 2, none⟩ = some (.slice none 0 0) := (bc BK268.out 2).trans rfl; have hcz36_3 : w33.cell? ⟨gb268, 3, none⟩ = some (.string (⟨#[]⟩ : ByteArray)) := (bc BK268.out 3).trans rfl; have hfz36_0 := bf BK268.out 0; have hfz36_1 := bf BK268.out 1; have hfz36_2 := bf BK268.out 2; have hfz36_3 := bf BK268.out 3; obtain ⟨Ao37, co37, eo37⟩ := Kd.R_slice HO264.out; subst eo37) | ((with_reducible refine gate_callee (f := 10) rfl ?_); refine goesL_ (some 34) rfl rfl Try.func10 (by kernel_rfl) rfl #[.string (t250.extract 0 ((ji5) : Int).toNat), .int .i64 0] rfl (by (try simp only [List.map_toArray, List.map_cons, List.map_nil]); first | done | (simp only [hji5]; rfl) | rfl | (simp only [List.length_drop, List.length_take]; rfl)) ?_; (with_reducible refine (event_Decode.calls k (t250.extract 0 ((ji5) : Int).toNat) 0 t269 t270 t271 t274 t275 t276 _ A8.out).mono ?_); rintro e w38 ⟨v272, rfl, ho0, hb⟩; refine ⟨_, rfl, ?_⟩; have n0_ := Am (Kd.R_elder' (by (with_reducible repeat (first | apply Kd.R_alloc | apply Kd.R_drewN | apply Kd.R_drew)); exact (Kd.R_mono (Kd.R_far (p := ⟨gb268, 3, none⟩) (Kd.R_far (p := ⟨gb268, 2, none⟩) (Kd.R_far (p := ⟨gb268, 1, none⟩) (Kd.R_far (p := ⟨gb268, 0, none⟩) (Kd.R_types HO248.out BK268.out (by decide)) (fun _ hk => hk.2) (.int .i64 t260)) (fun _ hk => hk.2) (.int .i64 t261)) (fun _ hk => hk.2) (.slice Ao37 t262.length co37)) (fun _ hk => hk.2) (.string t265)) (fun _ h_ => h_.1))) (Kd.R_base ho0) hb); have n1_ := Am (Kd.R_elder' (by (with_reducible repeat (first | apply Kd.R_alloc | apply Kd.R_drewN | apply Kd.R_drew)); exact (Kd.R_mono (Kd.R_far (p := ⟨gb268, 3, none⟩) (Kd.R_far (p := ⟨gb268, 2, none⟩) (Kd.R_far (p := ⟨gb268, 1, none⟩) (Kd.R_far (p := ⟨gb268, 0, none⟩) (Kd.R_types HO255.out BK268.out (by decide)) (fun _ hk => hk.2) (.int .i64 t260)) (fun _ hk => hk.2) (.int .i64 t261)) (fun _ hk => hk.2) (.slice Ao37 t262.length co37)) (fun _ hk => hk.2) (.string t265)) (fun _ h_ => h_.1))) (Kd.R_base ho0) hb); have n2_ := Am (Kd.R_elder' (by (with_reducible repeat (first | apply Kd.R_alloc | apply Kd.R_drewN | apply Kd.R_drew)); exact (Kd.R_mono (Kd.R_far (p := ⟨gb268, 3, none⟩) (Kd.R_far (p := ⟨gb268, 2, none⟩) (Kd.R_far (p := ⟨gb268, 1, none⟩) (Kd.R_far (p := ⟨gb268, 0, none⟩) (Kd.R_types HO264.out BK268.out (by decide)) (fun _ hk => hk.2) (.int .i64 t260)) (fun _ hk => hk.2) (.int .i64 t261)) (fun _ hk => hk.2) (.slice Ao37 t262.length co37)) (fun _ hk => hk.2) (.string t265)) (fun _ h_ => h_.1))) (Kd.R_base ho0) hb); have n3_ := Am (Kd.R_lower (Kd.R_new' (Kd.R_new' (Kd.R_new' ho0 (Kd.R_lt (by (with_reducible repeat (first | apply Kd.R_alloc | apply Kd.R_drewN | apply Kd.R_drew)); exact (Kd.R_mono (Kd.R_far (p := ⟨gb268, 3, none⟩) (Kd.R_far (p := ⟨gb268, 2, none⟩) (Kd.R_far (p := ⟨gb268, 1, none⟩) (Kd.R_far (p := ⟨gb268, 0, none⟩) (Kd.R_types HO248.out BK268.out (by decide)) (fun _ hk => hk.2) (.int .i64 t260)) (fun _ hk => hk.2) (.int .i64 t261)) (fun _ hk => hk.2) (.slice Ao37 t262.length co37)) (fun _ hk => hk.2) (.string t265)) (fun _ h_ => h_.1))))) (Kd.R_lt (by (with_reducible repeat (first | apply Kd.R_alloc | apply Kd.R_drewN | apply Kd.R_drew)); exact (Kd.R_mono (Kd.R_far (p := ⟨gb268, 3, none⟩) (Kd.R_far (p := ⟨gb268, 2, none⟩) (Kd.R_far (p := ⟨gb268, 1, none⟩) (Kd.R_far (p := ⟨gb268, 0, none⟩) (Kd.R_types HO255.out BK268.out (by decide)) (fun _ hk => hk.2) (.int .i64 t260)) (fun _ hk => hk.2) (.int .i64 t261)) (fun _ hk => hk.2) (.slice Ao37 t262.length co37)) (fun _ hk => hk.2) (.string t265)) (fun _ h_ => h_.1))))) (Kd.R_lt (by (with_reducible repeat (first | apply Kd.R_alloc | apply Kd.R_drewN | apply Kd.R_drew)); exact (Kd.R_mono (Kd.R_far (p := ⟨gb268, 3, none⟩) (Kd.R_far (p := ⟨gb268, 2, none⟩) (Kd.R_far (p := ⟨gb268, 1, none⟩) (Kd.R_far (p := ⟨gb268, 0, none⟩) (Kd.R_types HO264.out BK268.out (by decide)) (fun _ hk => hk.2) (.int .i64 t260)) (fun _ hk => hk.2) (.int .i64 t261)) (fun _ hk => hk.2) (.slice Ao37 t262.length co37)) (fun _ hk => hk.2) (.string t265)) (fun _ h_ => h_.1))))) (below_size (by repeat (first | (with_reducible first | exact HB.out | apply bl | apply pN | apply b1 | refine bs ?_ GE249.out | refine bs ?_ GE259.out | refine bs ?_ GE268.out) | exact HB.out | exact HBo.out)))); have n4_ := Am (blk_below (g := gb249) (o := .cells #[.int .i64 4, .int .i64 300, .slice Ao23 y246.length co23, .string (⟨#[]⟩ : ByteArray)] 24 (0, 0)) (by (with_reducible repeat (first | refine bn ?_ _ | refine bd ?_ | refine ba ?_ _)); refine blk_far ?_ NB249_268.out _; (with_reducible repeat (first | refine bn ?_ _ | refine bd ?_ | refine ba ?_ _)); refine blk_far ?_ NB249_268.out _; (with_reducible repeat (first | refine bn ?_ _ | refine bd ?_ | refine ba ?_ _)); refine blk_far ?_ NB249_268.out _; (with_reducible repeat (first | refine bn ?_ _ | refine bd ?_ | refine ba ?_ _)); refine blk_far ?_ NB249_268.out _; (with_reducible repeat (first | refine bn ?_ _ | refine bd ?_ | refine ba ?_ _)); exact BK249.out) hb); have n5_ := Am (blk_below (g := gb259) (o := .cells #[.int .i64 t251, .int .i64 t252, .slice Ao31 t253.length co31, .string t256] 24 (0, 0)) (by (with_reducible repeat (first | refine bn ?_ _ | refine bd ?_ | refine ba ?_ _)); refine blk_far ?_ NB259_268.out _; (with_reducible repeat (first | refine bn ?_ _ | refine bd ?_ | refine ba ?_ _)); refine blk_far ?_ NB259_268.out _; (with_reducible repeat (first | refine bn ?_ _ | refine bd ?_ | refine ba ?_ _)); refine blk_far ?_ NB259_268.out _; (with_reducible repeat (first | refine bn ?_ _ | refine bd ?_ | refine ba ?_ _)); refine blk_far ?_ NB259_268.out _; (with_reducible repeat (first | refine bn ?_ _ | refine bd ?_ | refine ba ?_ _)); exact BK259.out) hb); have n6_ := Am (blk_below (g := gb268) (o := .cells #[.int .i64 t260, .int .i64 t261, .slice Ao37 t262.length co37, .string t265] 24 (0, 0)) (by (with_reducible repeat (first | refine bn ?_ _ | refine bd ?_ | refine ba ?_ _)); refine blk_put (cs := #[.int .i64 t260, .int .i64 t261, .slice Ao37 t262.length co37, .string (⟨#[]⟩ : ByteArray)]) ?_ 3 _ rfl; (with_reducible repeat (first | refine bn ?_ _ | refine bd ?_ | refine ba ?_ _)); refine blk_put (cs := #[.int .i64 t260, .int .i64 t261, .slice none 0 0, .string (⟨#[]⟩ : ByteArray)]) ?_ 2 _ rfl; (with_reducible repeat (first | refine bn ?_ _ | refine bd ?_ | refine ba ?_ _)); refine blk_put (cs := #[.int .i64 t260, .int .i64 0, .slice none 0 0, .string (⟨#[]⟩ : ByteArray)]) ?_ 1 _ rfl; (with_reducible repeat (first | refine bn ?_ _ | refine bd ?_ | refine ba ?_ _)); refine blk_put (cs := #[.int .i64 0, .int .i64 0, .slice none 0 0, .string (⟨#[]⟩ : ByteArray)]) ?_ 0 _ rfl; (with_reducible repeat (first | refine bn ?_ _ | refine bd ?_ | refine ba ?_ _)); exact BK268.out) hb); have n7_ := Am (below_step (by repeat (first | (with_reducible first | exact HB.out | apply bl | apply pN | apply b1 | refine bs ?_ GE249.out | refine bs ?_ GE259.out | refine bs ?_ GE268.out) | exact HB.out | exact HBo.out)) hb); clear HO248; clear HO255; clear HO264; clear BK249; clear BK259; clear BK268; clear HB; have HO248 := n0_; have HO255 := n1_; have HO264 := n2_; have HO273 := n3_; have BK249 := n4_; have BK259 := n5_; have BK268 := n6_; have HB := n7_; clear n0_ n1_ n2_ n3_ n4_ n5_ n6_ n7_; (try clear hb); (try clear hb2); (try clear hk); (try clear hi); (try clear ho0)) | ((with_reducible refine gate_dst (N := 9) rfl ?_); refine box_event ?hg (N := 9) ?hd (cs := #[.int .i64 0, .int .i64 0, .slice none 0 0, .string (⟨#[]⟩ : ByteArray)]) (t := 24) ?hr ?_; (case hd => rfl); (case hg => rfl); (case hr => first | (go_simp; done) | (go_simp; rfl)); intro gb277 hg w39 hbox hb; have n0_ := Am (Kd.R_below (by (with_reducible repeat (first | apply Kd.R_alloc | apply Kd.R_drewN | apply Kd.R_drew)); exact HO248.out) hb); have n1_ := Am (Kd.R_below (by (with_reducible repeat (first | apply Kd.R_alloc | apply Kd.R_drewN | apply Kd.R_drew)); exact HO255.out) hb); have n2_ := Am (Kd.R_below (by (with_reducible repeat (first | apply Kd.R_alloc | apply Kd.R_drewN | apply Kd.R_drew)); exact HO264.out) hb); have n3_ := Am (Kd.R_below (by (with_reducible repeat (first | apply Kd.R_alloc | apply Kd.R_drewN | apply Kd.R_drew)); exact HO273.out) hb); have n4_ := Am (blk_below (g := gb249) (o := .cells #[.int .i64 4, .int .i64 300, .slice Ao23 y246.length co23, .string (⟨#[]⟩ : ByteArray)] 24 (0, 0)) (by (with_reducible repeat (first | refine bn ?_ _ | refine bd ?_ | refine ba ?_ _)); exact BK249.out) hb); have n5_ := Am (blk_below (g := gb259) (o := .cells #[.int .i64 t251, .int .i64 t252, .slice Ao31 t253.length co31, .string t256] 24 (0, 0)) (by (with_reducible repeat (first | refine bn ?_ _ | refine bd ?_ | refine ba ?_ _)); exact BK259.out) hb); have n6_ := Am (blk_below (g := gb268) (o := .cells #[.int .i64 t260, .int .i64 t261, .slice Ao37 t262.length co37, .string t265] 24 (0, 0)) (by (with_reducible repeat (first | refine bn ?_ _ | refine bd ?_ | refine ba ?_ _)); exact BK268.out) hb); have n7_ := Am (below_step (by repeat (first | (with_reducible first | exact HB.out | apply bl | apply pN | apply b1 | refine bs ?_ GE249.out | refine bs ?_ GE259.out | refine bs ?_ GE268.out) | exact HB.out | exact HBo.out)) hb); have n8_ := Am (hbox); have n9_ := Am ((by rw [hg]; exact (below_size (by repeat (first | (with_reducible first | exact HB.out | apply bl | apply pN | apply b1 | refine bs ?_ GE249.out | refine bs ?_ GE259.out | refine bs ?_ GE268.out) | exact HB.out | exact HBo.out))) : w.heap.size ≤ gb277)); have n10_ := Am ((by rw [hg]; exact (below_size (by repeat (first | (with_reducible first | exact HB.out | apply bl | apply pN | apply b1 | refine bs ?_ GE249.out | refine bs ?_ GE259.out | refine bs ?_ GE268.out) | exact HB.out | exact HBo.out))) : w.heap.size ≤ gb277)); have n11_ := Am ((by rw [hg]; exact Nat.ne_of_lt (blk_lt (g := gb249) (o := .cells #[.int .i64 4, .int .i64 300, .slice Ao23 y246.length co23, .string (⟨#[]⟩ : ByteArray)] 24 (0, 0)) (by (with_reducible repeat (first | refine bn ?_ _ | refine bd ?_ | refine ba ?_ _)); exact BK249.out)) : gb249 ≠ gb277)); have n12_ := Am ((by rw [hg]; exact Nat.ne_of_gt (blk_lt (g := gb249) (o := .cells #[.int .i64 4, .int .i64 300, .slice Ao23 y246.length co23, .string (⟨#[]⟩ : ByteArray)] 24 (0, 0)) (by (with_reducible repeat (first | refine bn ?_ _ | refine bd ?_ | refine ba ?_ _)); exact BK249.out)) : gb277 ≠ gb249)); have n13_ := Am ((by rw [hg]; exact Nat.ne_of_lt (blk_lt (g := gb259) (o := .cells #[.int .i64 t251, .int .i64 t252, .slice Ao31 t253.length co31, .string t256] 24 (0, 0)) (by (with_reducible repeat (first | refine bn ?_ _ | refine bd ?_ | refine ba ?_ _)); exact BK259.out)) : gb259 ≠ gb277)); have n14_ := Am ((by rw [hg]; exact Nat.ne_of_gt (blk_lt (g := gb259) (o := .cells #[.int .i64 t251, .int .i64 t252, .slice Ao31 t253.length co31, .string t256] 24 (0, 0)) (by (with_reducible repeat (first | refine bn ?_ _ | refine bd ?_ | refine ba ?_ _)); exact BK259.out)) : gb277 ≠ gb259)); have n15_ := Am ((by rw [hg]; exact Nat.ne_of_lt (blk_lt (g := gb268) (o := .cells #[.int .i64 t260, .int .i64 t261, .slice Ao37 t262.length co37, .string t265] 24 (0, 0)) (by (with_reducible repeat (first | refine bn ?_ _ | refine bd ?_ | refine ba ?_ _)); exact BK268.out)) : gb268 ≠ gb277)); have n16_ := Am ((by rw [hg]; exact Nat.ne_of_gt (blk_lt (g := gb268) (o := .cells #[.int .i64 t260, .int .i64 t261, .slice Ao37 t262.length co37, .string t265] 24 (0, 0)) (by (with_reducible repeat (first | refine bn ?_ _ | refine bd ?_ | refine ba ?_ _)); exact BK268.out)) : gb277 ≠ gb268)); clear HO248; clear HO255; clear HO264; clear HO273; clear BK249; clear BK259; clear BK268; clear HB; have HO248 := n0_; have HO255 := n1_; have HO264 := n2_; have HO273 := n3_; have BK249 := n4_; have BK259 := n5_; have BK268 := n6_; have HB := n7_; have BK277 := n8_; have GW277 := n9_; have GE277 := n10_; have NB249_277 := n11_; have NB277_249 := n12_; have NB259_277 := n13_; have NB277_259 := n14_; have NB268_277 := n15_; have NB277_268 := n16_; clear n0_ n1_ n2_ n3_ n4_ n5_ n6_ n7_ n8_ n9_ n10_ n11_ n12_ n13_ n14_ n15_ n16_; clear hb hbox hg; have hnb40 := NB277_249.out; have hnc40 := NB249_277.out; have hnb41 := NB277_259.out; have hnc41 := NB259_277.out; have hnb42 := NB277_268.out; have hnc42 := NB268_277.out; have hcz43_0 : w39.cell? ⟨gb277, 0, none⟩ = some (.int .i64 0) := (bc BK277.out 0).trans rfl; have hcz43_1 : w39.cell? ⟨gb277, 1, none⟩ = some (.int .i64 0) := (bc BK277.out 1).trans rfl; have hcz43_2 : w39.cell? ⟨gb277, 2, none⟩ = some (.slice none 0 0) := (bc BK277.out 2).trans rfl; have hcz43_3 : w39.cell? ⟨gb277, 3, none⟩ = some (.string (⟨#[]⟩ : ByteArray)) := (bc BK277.out 3).trans rfl; have hfz43_0 := bf BK277.out 0; have hfz43_1 := bf BK277.out 1; have hfz43_2 := bf BK277.out 2; have hfz43_3 := bf BK277.out 3; obtain ⟨Ao44, co44, eo44⟩ := Kd.R_slice HO273.out; subst eo44; have hcz45_0 : w39.cell? ⟨gb249, 0, none⟩ = some (.int .i64 4) := (bc BK249.out 0).trans rfl; have hcz45_1 : w39.cell? ⟨gb249, 1, none⟩ = some (.int .i64 300) := (bc BK249.out 1).trans rfl; have hcz45_2 : w39.cell? ⟨gb249, 2, none⟩ = some (.slice Ao23 y246.length co23) := (bc BK249.out 2).trans rfl; have hcz45_3 : w39.cell? ⟨gb249, 3, none⟩ = some (.string (⟨#[]⟩ : ByteArray)) := (bc BK249.out 3).trans rfl; have hfz45_0 := bf BK249.out 0; have hfz45_1 := bf BK249.out 1; have hfz45_2 := bf BK249.out 2; have hfz45_3 := bf BK249.out 3; have hcz46_0 : w39.cell? ⟨gb259, 0, none⟩ = some (.int .i64 t251) := (bc BK259.out 0).trans rfl; have hcz46_1 : w39.cell? ⟨gb259, 1, none⟩ = some (.int .i64 t252) := (bc BK259.out 1).trans rfl; have hcz46_2 : w39.cell? ⟨gb259, 2, none⟩ = some (.slice Ao31 t253.length co31) := (bc BK259.out 2).trans rfl; have hcz46_3 : w39.cell? ⟨gb259, 3, none⟩ = some (.string t256) := (bc BK259.out 3).trans rfl; have hfz46_0 := bf BK259.out 0; have hfz46_1 := bf BK259.out 1; have hfz46_2 := bf BK259.out 2; have hfz46_3 := bf BK259.out 3) | (go_at_call 16; (with_reducible refine (shuttlecockref04_Same.calls k 4 300 _ _ y246 (⟨#[]⟩ : ByteArray) t251 t252 _ _ t253 t256 true _ ?side1 ?side2 ?side3 ?side4 A10.out).mono ?_); (case side1 => refine (Kd.R_reads' (e := 3) (base := w.heap.size) (ok := fun k_ => (((True ∧ some k_ ≠ (.slice Ao31 t253.length co31 : Value).ownBlock) ∧ some k_ ≠ (.slice Ao37 t262.length co37 : Value).ownBlock) ∧ some k_ ≠ (.slice Ao44 t271.length co44 : Value).ownBlock)) (n := y246.length) (c := co23) ?_).2.2; exact (by (with_reducible repeat (first | apply Kd.R_alloc | apply Kd.R_drewN | apply Kd.R_drew)); exact (Kd.R_mono (Kd.R_far (p := ⟨gb277, 3, none⟩) (Kd.R_far (p := ⟨gb277, 2, none⟩) (Kd.R_far (p := ⟨gb277, 1, none⟩) (Kd.R_far (p := ⟨gb277, 0, none⟩) (Kd.R_types HO248.out BK277.out (by decide)) (fun _ hk => hk.2) (.int .i64 t269)) (fun _ hk => hk.2) (.int .i64 t270)) (fun _ hk => hk.2) (.slice Ao44 t271.length co44)) (fun _ hk => hk.2) (.string t274)) (fun _ h_ => h_.1)))); (case side2 => exact (Kd.R_reads' HO248.out).2.1); (case side3 => refine (Kd.R_reads' (e := 3) (base := w.heap.size) (ok := fun k_ => (((True ∧ some k_ ≠ (.slice Ao23 y246.length co23 : Value).ownBlock) ∧ some k_ ≠ (.slice Ao37 t262.length co37 : Value).ownBlock) ∧ some k_ ≠ (.slice Ao44 t271.length co44 : Value).ownBlock)) (n := t253.length) (c := co31) ?_).2.2; exact (by (with_reducible repeat (first | apply Kd.R_alloc | apply Kd.R_drewN | apply Kd.R_drew)); exact (Kd.R_mono (Kd.R_far (p := ⟨gb277, 3, none⟩) (Kd.R_far (p := ⟨gb277, 2, none⟩) (Kd.R_far (p := ⟨gb277, 1, none⟩) (Kd.R_far (p := ⟨gb277, 0, none⟩) (Kd.R_types HO255.out BK277.out (by decide)) (fun _ hk => hk.2) (.int .i64 t269)) (fun _ hk => hk.2) (.int .i64 t270)) (fun _ hk => hk.2) (.slice Ao44 t271.length co44)) (fun _ hk => hk.2) (.string t274)) (fun _ h_ => h_.1)))); (case side4 => exact (Kd.R_reads' HO255.out).2.1); rintro e w47 ⟨rfl, hb⟩; have n0_ := Am (Kd.R_below (by (with_reducible repeat (first | apply Kd.R_alloc | apply Kd.R_drewN | apply Kd.R_drew)); exact (Kd.R_mono (Kd.R_far (p := ⟨gb277, 3, none⟩) (Kd.R_far (p := ⟨gb277, 2, none⟩) (Kd.R_far (p := ⟨gb277, 1, none⟩) (Kd.R_far (p := ⟨gb277, 0, none⟩) (Kd.R_types HO248.out BK277.out (by decide)) (fun _ hk => hk.2) (.int .i64 t269)) (fun _ hk => hk.2) (.int .i64 t270)) (fun _ hk => hk.2) (.slice Ao44 t271.length co44)) (fun _ hk => hk.2) (.string t274)) (fun _ h_ => h_.1))) hb); have n1_ := Am (Kd.R_below (by (with_reducible repeat (first | apply Kd.R_alloc | apply Kd.R_drewN | apply Kd.R_drew)); exact (Kd.R_mono (Kd.R_far (p := ⟨gb277, 3, none⟩) (Kd.R_far (p := ⟨gb277, 2, none⟩) (Kd.R_far (p := ⟨gb277, 1, none⟩) (Kd.R_far (p := ⟨gb277, 0, none⟩) (Kd.R_types HO255.out BK277.out (by decide)) (fun _ hk => hk.2) (.int .i64 t269)) (fun _ hk => hk.2) (.int .i64 t270)) (fun _ hk => hk.2) (.slice Ao44 t271.length co44)) (fun _ hk => hk.2) (.string t274)) (fun _ h_ => h_.1))) hb); have n2_ := Am (Kd.R_below (by (with_reducible repeat (first | apply Kd.R_alloc | apply Kd.R_drewN | apply Kd.R_drew)); exact (Kd.R_mono (Kd.R_far (p := ⟨gb277, 3, none⟩) (Kd.R_far (p := ⟨gb277, 2, none⟩) (Kd.R_far (p := ⟨gb277, 1, none⟩) (Kd.R_far (p := ⟨gb277, 0, none⟩) (Kd.R_types HO264.out BK277.out (by decide)) (fun _ hk => hk.2) (.int .i64 t269)) (fun _ hk => hk.2) (.int .i64 t270)) (fun _ hk => hk.2) (.slice Ao44 t271.length co44)) (fun _ hk => hk.2) (.string t274)) (fun _ h_ => h_.1))) hb); have n3_ := Am (Kd.R_below (by (with_reducible repeat (first | apply Kd.R_alloc | apply Kd.R_drewN | apply Kd.R_drew)); exact (Kd.R_mono (Kd.R_far (p := ⟨gb277, 3, none⟩) (Kd.R_far (p := ⟨gb277, 2, none⟩) (Kd.R_far (p := ⟨gb277, 1, none⟩) (Kd.R_far (p := ⟨gb277, 0, none⟩) (Kd.R_types HO273.out BK277.out (by decide)) (fun _ hk => hk.2) (.int .i64 t269)) (fun _ hk => hk.2) (.int .i64 t270)) (fun _ hk => hk.2) (.slice Ao44 t271.length co44)) (fun _ hk => hk.2) (.string t274)) (fun _ h_ => h_.1))) hb); have n4_ := Am (blk_below (g := gb249) (o := .cells #[.int .i64 4, .int .i64 300, .slice Ao23 y246.length co23, .string (⟨#[]⟩ : ByteArray)] 24 (0, 0)) (by (with_reducible repeat (first | refine bn ?_ _ | refine bd ?_ | refine ba ?_ _)); refine blk_far ?_ NB249_277.out _; (with_reducible repeat (first | refine bn ?_ _ | refine bd ?_ | refine ba ?_ _)); refine blk_far ?_ NB249_277.out _; (with_reducible repeat (first | refine bn ?_ _ | refine bd ?_ | refine ba ?_ _)); refine blk_far ?_ NB249_277.out _; (with_reducible repeat (first | refine bn ?_ _ | refine bd ?_ | refine ba ?_ _)); refine blk_far ?_ NB249_277.out _; (with_reducible repeat (first | refine bn ?_ _ | refine bd ?_ | refine ba ?_ _)); exact BK249.out) hb); have n5_ := Am (blk_below (g := gb259) (o := .cells #[.int .i64 t251, .int .i64 t252, .slice Ao31 t253.length co31, .string t256] 24 (0, 0)) (by (with_reducible repeat (first | refine bn ?_ _ | refine bd ?_ | refine ba ?_ _)); refine blk_far ?_ NB259_277.out _; (with_reducible repeat (first | refine bn ?_ _ | refine bd ?_ | refine ba ?_ _)); refine blk_far ?_ NB259_277.out _; (with_reducible repeat (first | refine bn ?_ _ | refine bd ?_ | refine ba ?_ _)); refine blk_far ?_ NB259_277.out _; (with_reducible repeat (first | refine bn ?_ _ | refine bd ?_ | refine ba ?_ _)); refine blk_far ?_ NB259_277.out _; (with_reducible repeat (first | refine bn ?_ _ | refine bd ?_ | refine ba ?_ _)); exact BK259.out) hb); have n6_ := Am (blk_below (g := gb268) (o := .cells #[.int .i64 t260, .int .i64 t261, .slice Ao37 t262.length co37, .string t265] 24 (0, 0)) (by (with_reducible repeat (first | refine bn ?_ _ | refine bd ?_ | refine ba ?_ _)); refine blk_far ?_ NB268_277.out _; (with_reducible repeat (first | refine bn ?_ _ | refine bd ?_ | refine ba ?_ _)); refine blk_far ?_ NB268_277.out _; (with_reducible repeat (first | refine bn ?_ _ | refine bd ?_ | refine ba ?_ _)); refine blk_far ?_ NB268_277.out _; (with_reducible repeat (first | refine bn ?_ _ | refine bd ?_ | refine ba ?_ _)); refine blk_far ?_ NB268_277.out _; (with_reducible repeat (first | refine bn ?_ _ | refine bd ?_ | refine ba ?_ _)); exact BK268.out) hb); have n7_ := Am (blk_below (g := gb277) (o := .cells #[.int .i64 t269, .int .i64 t270, .slice Ao44 t271.length co44, .string t274] 24 (0, 0)) (by (with_reducible repeat (first | refine bn ?_ _ | refine bd ?_ | refine ba ?_ _)); refine blk_put (cs := #[.int .i64 t269, .int .i64 t270, .slice Ao44 t271.length co44, .string (⟨#[]⟩ : ByteArray)]) ?_ 3 _ rfl; (with_reducible repeat (first | refine bn ?_ _ | refine bd ?_ | refine ba ?_ _)); refine blk_put (cs := #[.int .i64 t269, .int .i64 t270, .slice none 0 0, .string (⟨#[]⟩ : ByteArray)]) ?_ 2 _ rfl; (with_reducible repeat (first | refine bn ?_ _ | refine bd ?_ | refine ba ?_ _)); refine blk_put (cs := #[.int .i64 t269, .int .i64 0, .slice none 0 0, .string (⟨#[]⟩ : ByteArray)]) ?_ 1 _ rfl; (with_reducible repeat (first | refine bn ?_ _ | refine bd ?_ | refine ba ?_ _)); refine blk_put (cs := #[.int .i64 0, .int .i64 0, .slice none 0 0, .string (⟨#[]⟩ : ByteArray)]) ?_ 0 _ rfl; (with_reducible repeat (first | refine bn ?_ _ | refine bd ?_ | refine ba ?_ _)); exact BK277.out) hb); have n8_ := Am (below_step (by repeat (first | (with_reducible first | exact HB.out | apply bl | apply pN | apply b1 | refine bs ?_ GE249.out | refine bs ?_ GE259.out | refine bs ?_ GE268.out | refine bs ?_ GE277.out) | exact HB.out | exact HBo.out)) hb); clear HO248; clear HO255; clear HO264; clear HO273; clear BK249; clear BK259; clear BK268; clear BK277; clear HB; have HO248 := n0_; have HO255 := n1_; have HO264 := n2_; have HO273 := n3_; have BK249 := n4_; have BK259 := n5_; have BK268 := n6_; have BK277 := n7_; have HB := n8_; clear n0_ n1_ n2_ n3_ n4_ n5_ n6_ n7_ n8_; (try clear hb); (try clear hb2); (try clear hk); (try clear hi); have hcz48_0 : w47.cell? ⟨gb249, 0, none⟩ = some (.int .i64 4) := (bc BK249.out 0).trans rfl; have hcz48_1 : w47.cell? ⟨gb249, 1, none⟩ = some (.int .i64 300) := (bc BK249.out 1).trans rfl; have hcz48_2 : w47.cell? ⟨gb249, 2, none⟩ = some (.slice Ao23 y246.length co23) := (bc BK249.out 2).trans rfl; have hcz48_3 : w47.cell? ⟨gb249, 3, none⟩ = some (.string (⟨#[]⟩ : ByteArray)) := (bc BK249.out 3).trans rfl; have hfz48_0 := bf BK249.out 0; have hfz48_1 := bf BK249.out 1; have hfz48_2 := bf BK249.out 2; have hfz48_3 := bf BK249.out 3) | (go_at_call 12; (with_reducible refine (event_May.calls 4 300 _ _ y246 (⟨#[]⟩ : ByteArray) true _ ?side1 ?side2 A16.out).mono ?_); (case side1 => repeat (first | exact (Kd.R_reads' HO248.out).2.2 | (with_reducible refine Kd.C_alloc ?_ _) | (with_reducible refine Kd.C_drewN ?_ _) | (with_reducible refine Kd.C_drew ?_))); (case side2 => exact (Kd.R_reads' HO248.out).2.1); rintro e w49 ⟨rfl, hb⟩; have n0_ := Am (Kd.R_below (by (with_reducible repeat (first | apply Kd.R_alloc | apply Kd.R_drewN | apply Kd.R_drew)); exact HO248.out) hb); have n1_ := Am (Kd.R_below (by (with_reducible repeat (first | apply Kd.R_alloc | apply Kd.R_drewN | apply Kd.R_drew)); exact HO255.out) hb); have n2_ := Am (Kd.R_below (by (with_reducible repeat (first | apply Kd.R_alloc | apply Kd.R_drewN | apply Kd.R_drew)); exact HO264.out) hb); have n3_ := Am (Kd.R_below (by (with_reducible repeat (first | apply Kd.R_alloc | apply Kd.R_drewN | apply Kd.R_drew)); exact HO273.out) hb); have n4_ := Am (blk_below (g := gb249) (o := .cells #[.int .i64 4, .int .i64 300, .slice Ao23 y246.length co23, .string (⟨#[]⟩ : ByteArray)] 24 (0, 0)) (by (with_reducible repeat (first | refine bn ?_ _ | refine bd ?_ | refine ba ?_ _)); exact BK249.out) hb); have n5_ := Am (blk_below (g := gb259) (o := .cells #[.int .i64 t251, .int .i64 t252, .slice Ao31 t253.length co31, .string t256] 24 (0, 0)) (by (with_reducible repeat (first | refine bn ?_ _ | refine bd ?_ | refine ba ?_ _)); exact BK259.out) hb); have n6_ := Am (blk_below (g := gb268) (o := .cells #[.int .i64 t260, .int .i64 t261, .slice Ao37 t262.length co37, .string t265] 24 (0, 0)) (by (with_reducible repeat (first | refine bn ?_ _ | refine bd ?_ | refine ba ?_ _)); exact BK268.out) hb); have n7_ := Am (blk_below (g := gb277) (o := .cells #[.int .i64 t269, .int .i64 t270, .slice Ao44 t271.length co44, .string t274] 24 (0, 0)) (by (with_reducible repeat (first | refine bn ?_ _ | refine bd ?_ | refine ba ?_ _)); exact BK277.out) hb); have n8_ := Am (below_step (by repeat (first | (with_reducible first | exact HB.out | apply bl | apply pN | apply b1 | refine bs ?_ GE249.out | refine bs ?_ GE259.out | refine bs ?_ GE268.out | refine bs ?_ GE277.out) | exact HB.out | exact HBo.out)) hb); clear HO248; clear HO255; clear HO264; clear HO273; clear BK249; clear BK259; clear BK268; clear BK277; clear HB; have HO248 := n0_; have HO255 := n1_; have HO264 := n2_; have HO273 := n3_; have BK249 := n4_; have BK259 := n5_; have BK268 := n6_; have BK277 := n7_; have HB := n8_; clear n0_ n1_ n2_ n3_ n4_ n5_ n6_ n7_ n8_; (try clear hb); (try clear hb2); (try clear hk); (try clear hi)) | (go_at_call 12; (refine (event_May.calls 4 0 _ _ ([] : List Int) (⟨#[]⟩ : ByteArray) false _ ?side1 ?side2 A18.out).mono ?_); (case side1 => exact Kd.C_nil _ _); (case side2 => exact Nat.le_refl _); rintro e w50 ⟨rfl, hb⟩; have n0_ := Am (Kd.R_below (by (with_reducible repeat (first | apply Kd.R_alloc | apply Kd.R_drewN | apply Kd.R_drew)); exact HO248.out) hb); have n1_ := Am (Kd.R_below (by (with_reducible repeat (first | apply Kd.R_alloc | apply Kd.R_drewN | apply Kd.R_drew)); exact HO255.out) hb); have n2_ := Am (Kd.R_below (by (with_reducible repeat (first | apply Kd.R_alloc | apply Kd.R_drewN | apply Kd.R_drew)); exact HO264.out) hb); have n3_ := Am (Kd.R_below (by (with_reducible repeat (first | apply Kd.R_alloc | apply Kd.R_drewN | apply Kd.R_drew)); exact HO273.out) hb); have n4_ := Am (blk_below (g := gb249) (o := .cells #[.int .i64 4, .int .i64 300, .slice Ao23 y246.length co23, .string (⟨#[]⟩ : ByteArray)] 24 (0, 0)) (by (with_reducible repeat (first | refine bn ?_ _ | refine bd ?_ | refine ba ?_ _)); exact BK249.out) hb); have n5_ := Am (blk_below (g := gb259) (o := .cells #[.int .i64 t251, .int .i64 t252, .slice Ao31 t253.length co31, .string t256] 24 (0, 0)) (by (with_reducible repeat (first | refine bn ?_ _ | refine bd ?_ | refine ba ?_ _)); exact BK259.out) hb); have n6_ := Am (blk_below (g := gb268) (o := .cells #[.int .i64 t260, .int .i64 t261, .slice Ao37 t262.length co37, .string t265] 24 (0, 0)) (by (with_reducible repeat (first | refine bn ?_ _ | refine bd ?_ | refine ba ?_ _)); exact BK268.out) hb); have n7_ := Am (blk_below (g := gb277) (o := .cells #[.int .i64 t269, .int .i64 t270, .slice Ao44 t271.length co44, .string t274] 24 (0, 0)) (by (with_reducible repeat (first | refine bn ?_ _ | refine bd ?_ | refine ba ?_ _)); exact BK277.out) hb); have n8_ := Am (below_step (by repeat (first | (with_reducible first | exact HB.out | apply bl | apply pN | apply b1 | refine bs ?_ GE249.out | refine bs ?_ GE259.out | refine bs ?_ GE268.out | refine bs ?_ GE277.out) | exact HB.out | exact HBo.out)) hb); clear HO248; clear HO255; clear HO264; clear HO273; clear BK249; clear BK259; clear BK268; clear BK277; clear HB; have HO248 := n0_; have HO255 := n1_; have HO264 := n2_; have HO273 := n3_; have BK249 := n4_; have BK259 := n5_; have BK268 := n6_; have BK277 := n7_; have HB := n8_; clear n0_ n1_ n2_ n3_ n4_ n5_ n6_ n7_ n8_; (try clear hb); (try clear hb2); (try clear hk); (try clear hi)) | (go_at_call 14; (refine (event_Encode.calls k 130 0 _ _ ([] : List Int) (⟨#[97]⟩ : ByteArray) t281 _ ?side1 ?side2 A20.out).mono ?_); (case side1 => exact Kd.C_nil _ _); (case side2 => exact Nat.le_refl _); rintro e w51 ⟨rfl, hb⟩; have n0_ := Am (Kd.R_below (by (with_reducible repeat (first | apply Kd.R_alloc | apply Kd.R_drewN | apply Kd.R_drew)); exact HO248.out) hb); have n1_ := Am (Kd.R_below (by (with_reducible repeat (first | apply Kd.R_alloc | apply Kd.R_drewN | apply Kd.R_drew)); exact HO255.out) hb); have n2_ := Am (Kd.R_below (by (with_reducible repeat (first | apply Kd.R_alloc | apply Kd.R_drewN | apply Kd.R_drew)); exact HO264.out) hb); have n3_ := Am (Kd.R_below (by (with_reducible repeat (first | apply Kd.R_alloc | apply Kd.R_drewN | apply Kd.R_drew)); exact HO273.out) hb); have n4_ := Am (blk_below (g := gb249) (o := .cells #[.int .i64 4, .int .i64 300, .slice Ao23 y246.length co23, .string (⟨#[]⟩ : ByteArray)] 24 (0, 0)) (by (with_reducible repeat (first | refine bn ?_ _ | refine bd ?_ | refine ba ?_ _)); exact BK249.out) hb); have n5_ := Am (blk_below (g := gb259) (o := .cells #[.int .i64 t251, .int .i64 t252, .slice Ao31 t253.length co31, .string t256] 24 (0, 0)) (by (with_reducible repeat (first | refine bn ?_ _ | refine bd ?_ | refine ba ?_ _)); exact BK259.out) hb); have n6_ := Am (blk_below (g := gb268) (o := .cells #[.int .i64 t260, .int .i64 t261, .slice Ao37 t262.length co37, .string t265] 24 (0, 0)) (by (with_reducible repeat (first | refine bn ?_ _ | refine bd ?_ | refine ba ?_ _)); exact BK268.out) hb); have n7_ := Am (blk_below (g := gb277) (o := .cells #[.int .i64 t269, .int .i64 t270, .slice Ao44 t271.length co44, .string t274] 24 (0, 0)) (by (with_reducible repeat (first | refine bn ?_ _ | refine bd ?_ | refine ba ?_ _)); exact BK277.out) hb); have n8_ := Am (below_step (by repeat (first | (with_reducible first | exact HB.out | apply bl | apply pN | apply b1 | refine bs ?_ GE249.out | refine bs ?_ GE259.out | refine bs ?_ GE268.out | refine bs ?_ GE277.out) | exact HB.out | exact HBo.out)) hb); clear HO248; clear HO255; clear HO264; clear HO273; clear BK249; clear BK259; clear BK268; clear BK277; clear HB; have HO248 := n0_; have HO255 := n1_; have HO264 := n2_; have HO273 := n3_; have BK249 := n4_; have BK259 := n5_; have BK268 := n6_; have BK277 := n7_; have HB := n8_; clear n0_ n1_ n2_ n3_ n4_ n5_ n6_ n7_ n8_; (try clear hb); (try clear hb2); (try clear hk); (try clear hi)))
            go_ret
            exact ⟨by first | rfl | (simp [errW_none, errW_some] <;> rfl) | (simp only [← hji5]; first | rfl | (simp [errW_none, errW_some] <;> rfl)) | (simp [*, errW_none, errW_some] <;> rfl) | (simp [Aid.ne_nil, Aid.eq_nil, errW_none, errW_some]; done), by repeat (first | (with_reducible first | exact HB.out | apply bl | apply pN | apply b1 | refine bs ?_ GE249.out | refine bs ?_ GE259.out | refine bs ?_ GE268.out | refine bs ?_ GE277.out) | exact HB.out | exact HBo.out)⟩
          ·
           replace c17 := Bool.eq_false_iff.mpr c17
           subst c17
           have H1 : (none) = some r := by rw [if_neg (show ¬ (false = true) by decide)] at H; exact H
           clear H
           have H := H1
           clear H1
           exact absurd H (by simp)
         ·
          rw [if_neg c15] at H
          exact absurd H (by simp)
        ·
         rw [if_neg c14] at H
         exact absurd H (by simp)
       ·
        rw [if_neg c13] at H
        exact absurd H (by simp)
      ·
       rw [if_neg c12] at H
       exact absurd H (by simp)
     ·
      replace c11 := Bool.eq_false_iff.mpr c11
      subst c11
      have H1 : (none) = some r := by rw [if_neg (show ¬ (false = true) by decide)] at H; exact H
      clear H
      have H := H1
      clear H1
      exact absurd H (by simp)
    ·
     rw [if_neg c9] at H
     exact absurd H (by simp)
   ·
    rw [if_neg c7] at H
    exact absurd H (by simp)
  ·
   rw [if_neg c6] at H
   exact absurd H (by simp)
 ·
  rw [if_neg c2] at H
  exact absurd H (by simp)

/-! ### shuttlecockref01_Put: function 36 -/
mutual
def shuttlecockref01_Put.j0 : Nat → Int → Bool → Option (ByteArray)
 | 0, _, _ => none
 | k + 1, x0, x9 => if x9 = true then (some (⟨#[]⟩ : ByteArray)) else (shuttlecockref01_Put.l0 k x0 (([] : List Int)))
def shuttlecockref01_Put.l0 : Nat → Int → List Int → Option (ByteArray)
 | 0, _, _ => none
 | k + 1, x0, x3 => if x0 > 127 then (if x3.length < 140737488355328 then (shuttlecockref01_Put.l0 k (wrap64 (Int.tdiv x0 128)) (x3 ++ [(wrap64 (128 + (Int.tmod x0 128))) % 256])) else (none)) else (if x3.length < 140737488355328 then (some (strOfNums (x3 ++ [(x0) % 256]))) else (none))
end
def shuttlecockref01_Put.f (k : Nat) (a0 : Int) : Option (ByteArray) := if a0 < 0 then (shuttlecockref01_Put.j0 k a0 true) else (shuttlecockref01_Put.j0 k a0 (decide (a0 ≥ 4611686018427387904)))
theorem shuttlecockref01_Put.mono_l : ∀ k, (∀ y0 y1, LeO (shuttlecockref01_Put.j0 k y0 y1) (shuttlecockref01_Put.j0 (k + 1) y0 y1)) ∧ (∀ y0 y1, LeO (shuttlecockref01_Put.l0 k y0 y1) (shuttlecockref01_Put.l0 (k + 1) y0 y1))
 | 0 => ⟨fun _ _ r h => by simp [shuttlecockref01_Put.j0] at h, fun _ _ r h => by simp [shuttlecockref01_Put.l0] at h⟩
 | k + 1 => by
  obtain ⟨ih0, ih1⟩ := shuttlecockref01_Put.mono_l k
  refine ⟨?_, ?_⟩
  ·
   intro y0 y1
   unfold shuttlecockref01_Put.j0
   repeat' first
   | (with_reducible exact ih0 _ _)
   | (with_reducible exact ih1 _ _)
   | (with_reducible exact LeO.refl _)
   | (with_reducible exact LeO.none _)
   | (with_reducible refine LeO.ite ?_ ?_)
   | (with_reducible refine LeO.bind ?_ (fun _ => ?_))
   | exact ih0 _ _
   | exact ih1 _ _
   | exact LeO.none _
   | refine LeO.ite ?_ ?_
   | refine LeO.bind ?_ (fun _ => ?_)
  ·
   intro y0 y1
   unfold shuttlecockref01_Put.l0
   repeat' first
   | (with_reducible exact ih0 _ _)
   | (with_reducible exact ih1 _ _)
   | (with_reducible exact LeO.refl _)
   | (with_reducible exact LeO.none _)
   | (with_reducible refine LeO.ite ?_ ?_)
   | (with_reducible refine LeO.bind ?_ (fun _ => ?_))
   | exact ih0 _ _
   | exact ih1 _ _
   | exact LeO.none _
   | refine LeO.ite ?_ ?_
   | refine LeO.bind ?_ (fun _ => ?_)
theorem shuttlecockref01_Put.mono : ∀ a0 k, LeO (shuttlecockref01_Put.f k a0) (shuttlecockref01_Put.f (k + 1) a0) := by
 intro a0 k
 obtain ⟨ih0, ih1⟩ := shuttlecockref01_Put.mono_l k
 unfold shuttlecockref01_Put.f
 repeat' first
   | (with_reducible exact ih0 _ _)
   | (with_reducible exact ih1 _ _)
   | (with_reducible exact LeO.refl _)
   | (with_reducible exact LeO.none _)
   | (with_reducible refine LeO.ite ?_ ?_)
   | (with_reducible refine LeO.bind ?_ (fun _ => ?_))
   | exact ih0 _ _
   | exact ih1 _ _
   | exact LeO.none _
   | refine LeO.ite ?_ ?_
   | refine LeO.bind ?_ (fun _ => ?_)
set_option maxHeartbeats 8000000 in
set_option maxRecDepth 100000 in
theorem shuttlecockref01_Put.calls (k : Nat) (a0 : Int) (r : ByteArray) (w : World) (h : shuttlecockref01_Put.f k a0 = some r) :
  Calls Try.prog 36 #[.int .i64 a0] w fun e w' => e = .returned (.string r) ∧ Below w.heap.size w w' := by
 have HB := Am (Below.refl w.heap.size w)
 have H : (if a0 < 0 then (shuttlecockref01_Put.j0 k a0 true) else (shuttlecockref01_Put.j0 k a0 (decide (a0 ≥ 4611686018427387904)))) = some r := h
 clear h
 have HC2 := Am H
 clear H
 go_enter Try.func36, Try.ntmps36
 go_upto_region 1 with (fail)
 go_cut [9] (fun v9 wc => ∃ (kq : Nat) (x9_1 : Bool), v9 = .bool x9_1 ∧ Aside0 (shuttlecockref01_Put.j0 kq a0 x9_1 = some r) ∧ Aside0 (kq ≤ k) ∧ Aside0 (Below w.heap.size w wc))
 case first =>
  have H := HC2.out
  clear HC2
  by_cases c3 : a0 < 0
  ·
   rw [if_pos c3] at H
   have c3b0 : decide (a0 < 0) = true := decide_eq_true c3
   clear c3
   (first | rw [c3b0] | (simp only [i64_w, i32_w]; rw [c3b0]) | skip)
   have H' := Am H
   clear H
   go_wp2
   go_meet
   case rel => exact ⟨_, (true), (by first | rfl | (simp; done) | (simp [*]; done)), H', ⟨by first | omega | exact Nat.le_refl _⟩, ⟨by repeat (first | (with_reducible first | exact HB.out | apply bl | apply pN | apply b1) | exact HB.out | exact HBo.out)⟩⟩
  ·
   rw [if_neg c3] at H
   have c3b0 : decide (a0 < 0) = false := decide_eq_false c3
   clear c3
   (first | rw [c3b0] | (simp only [i64_w, i32_w]; rw [c3b0]) | skip)
   have H' := Am H
   clear H
   go_wp2
   go_meet
   case rel => exact ⟨_, (decide (a0 ≥ 4611686018427387904)), (by first | rfl | (simp; done) | (simp [*]; done)), H', ⟨by first | omega | exact Nat.le_refl _⟩, ⟨by repeat (first | (with_reducible first | exact HB.out | apply bl | apply pN | apply b1) | exact HB.out | exact HBo.out)⟩⟩
 case rest =>
  clear HC2
  try clear p2
  try clear c3
  try clear c3b0
  obtain ⟨kq, x9_1, rfl, HA, HJ1, HB⟩ := hcut
  cases kq with
  | zero => exact absurd HA.out (by simp [shuttlecockref01_Put.j0])
  | succ kj1 =>
   have H := HA.out
   clear HA
   simp only [shuttlecockref01_Put.j0] at H
   by_cases c4 : x9_1 = true
   ·
    subst c4
    have H1 : (some (⟨#[]⟩ : ByteArray)) = some r := by rw [if_pos rfl] at H; exact H
    clear H
    have H := H1
    clear H1
    obtain rfl := Option.some.inj H
    go_wp2
    go_ret
    exact ⟨by first | rfl | (simp [errW_none, errW_some] <;> rfl) | (simp [*, errW_none, errW_some] <;> rfl) | (simp [Aid.ne_nil, Aid.eq_nil, errW_none, errW_some]; done), by repeat (first | (with_reducible first | exact HB.out | apply bl | apply pN | apply b1) | exact HB.out | exact HBo.out)⟩
   ·
    replace c4 := Bool.eq_false_iff.mpr c4
    subst c4
    have H1 : (shuttlecockref01_Put.l0 kj1 a0 (([] : List Int))) = some r := by rw [if_neg (show ¬ (false = true) by decide)] at H; exact H
    clear H
    have H := H1
    clear H1
    obtain ⟨y282, hy282⟩ : ∃ y_ : List Int, y_ = (([] : List Int)) := ⟨_, rfl⟩
    replace H : (shuttlecockref01_Put.l0 kj1 a0 y282) = some r := by first | (rw [hy282]; with_reducible exact H) | (have H2_ := (Option.bind_some _ _).symm.trans H; rw [hy282]; with_reducible exact H2_) | (have H2_ := (Option.bind_some _ _).symm.trans H; with_reducible exact H2_) | with_reducible exact H | (rw [hy282]; exact H) | exact H
    have Ny282 := Am hy282
    clear hy282
    have H' := Am H
    clear H
    go_wp2_with (first | ((with_reducible refine gate_dst (N := 10) rfl ?_); refine Kd.R_lit (Kd.int .u8) _ 5 ?hg (N := 10) ?hd (xs := ([] : List Int)) (inner := []) (ok := fun _ => True) (okp := fun _ => True) ?hr ?hp (fun _ hk => hk) trivial (Below.refl _ _) (Nat.le_refl _) (by simp) ?_; (case hd => rfl); (case hg => rfl); (case hr => first | (go_simp; done) | (go_simp; rfl)); (case hp => exact (Reps.none _ _)); intro v283 w5 ho6 hb hg_ hnew_; clear hg_ hnew_; (first | rw [← Ny282.out] at ho6 | (simp only [Int.reduceToNat] at ho6; rw [← Ny282.out] at ho6)); have n0_ := Am (Kd.R_lower ho6 (below_size (by repeat (first | (with_reducible first | exact HB.out | apply bl | apply pN | apply b1) | exact HB.out | exact HBo.out)))); have n1_ := Am (below_step (by repeat (first | (with_reducible first | exact HB.out | apply bl | apply pN | apply b1) | exact HB.out | exact HBo.out)) hb); clear HB; have HO284 := n0_; have HB := n1_; clear n0_ n1_; clear hb ho6))
    go_loopg [0, 3] kj1 (fun kq v0 v3 w' => ∃ (x0_2 : Int) (x3_2 : List Int), v0 = .int .i64 x0_2 ∧ Aside0 (shuttlecockref01_Put.l0 kq x0_2 x3_2 = some r) ∧ Aside0 (kq ≤ kj1) ∧ Aside0 (Kd.R (Kd.int .u8) 5 w' w.heap.size (fun _ => True) v3 x3_2) ∧ Aside0 (Below w.heap.size w w'))
    case atStart => exact ⟨(a0), (y282), (by first | rfl | (simp; done) | (simp [*]; done)), H', ⟨Nat.le_refl _⟩, ⟨by (with_reducible repeat (first | apply Kd.R_alloc | apply Kd.R_drewN | apply Kd.R_drew)); exact HO284.out⟩, ⟨by repeat (first | (with_reducible first | exact HB.out | apply bl | apply pN | apply b1) | exact HB.out | exact HBo.out)⟩⟩
    case round =>
     clear H'
     try clear p2
     try clear c3
     try clear c3b0
     try clear c4
     try clear p2
     obtain ⟨x0_2, x3_2, rfl, HA, HK2, HO_3, HB⟩ := hrel
     cases gk with
     | zero => exact absurd HA.out (by simp [shuttlecockref01_Put.l0])
     | succ k2 =>
      have H := HA.out
      clear HA
      simp only [shuttlecockref01_Put.l0] at H
      by_cases c7 : x0_2 > 127
      ·
       rw [if_pos c7] at H
       have c7b0 : decide (127 < x0_2) = true := decide_eq_true c7
       clear c7
       by_cases c8 : x3_2.length < 140737488355328
       ·
        rw [if_pos c8] at H
        have LMc8 := Am c8
        clear c8
        obtain ⟨y285, hy285⟩ : ∃ y_ : List Int, y_ = (x3_2 ++ [(wrap64 (128 + (Int.tmod x0_2 128))) % 256]) := ⟨_, rfl⟩
        replace H : (shuttlecockref01_Put.l0 k2 (wrap64 (Int.tdiv x0_2 128)) y285) = some r := by first | (rw [hy285]; with_reducible exact H) | (have H2_ := (Option.bind_some _ _).symm.trans H; rw [hy285]; with_reducible exact H2_) | (have H2_ := (Option.bind_some _ _).symm.trans H; with_reducible exact H2_) | with_reducible exact H | (rw [hy285]; exact H) | exact H
        have Ny285 := Am hy285
        clear hy285
        have H' := Am H
        clear H
        go_wp2_with (first | ((with_reducible refine gate_builtin (b := .append) (xs := #[.tmp 13, .tmp 18]) rfl ?_); at_builtin; refine Kd.R_append (Kd.int .u8) (w0 := w) w.heap.size rfl (.tmp 13) (.tmp 18) 51 5 (.int .u8 0) 1 rfl Try.underlying51 info5 rfl (by decide) (by omega) u3 x3_2 ((wrap64 (128 + (Int.tmod x0_2 128))) % 256) [.int .u8 ((wrap64 (128 + (Int.tmod x0_2 128))) % 256)] (fun _ => True) (fun _ => False) rfl rfl ?aP (fun _ hk => hk.elim) ?aF ?aO ?aB ?aS ?aL ?_; (case aP => exact rfl); (case aB => exact (by repeat (first | (with_reducible first | exact HB.out | apply bl | apply pN | apply b1) | exact HB.out | exact HBo.out))); (case aF => exact (fun _ _ => trivial)); (case aO => exact (by (with_reducible repeat (first | apply Kd.R_alloc | apply Kd.R_drewN | apply Kd.R_drew)); exact HO_3.out)); (case aS => exact (below_size (by repeat (first | (with_reducible first | exact HB.out | apply bl | apply pN | apply b1) | exact HB.out | exact HBo.out)))); (case aL => have := LMc8.out; omega); intro v286 w9 ho hb hg hat; rw [← Ny285.out] at ho; have n0_ := Am (hb); have n1_ := Am (ho); clear HB; clear HO_3; have HB := n0_; have HO287 := n1_; clear n0_ n1_; clear ho hb hg hat))
        go_roundg k2
        case measure => have := HJ1.out; have := HK2.out; omega
        case rel => exact ⟨(wrap64 (Int.tdiv x0_2 128)), (y285), (by first | rfl | (simp; done) | (simp [*]; done)), H', ⟨by have := HJ1.out; have := HK2.out; omega⟩, ⟨by (with_reducible repeat (first | apply Kd.R_alloc | apply Kd.R_drewN | apply Kd.R_drew)); exact HO287.out⟩, ⟨by repeat (first | (with_reducible first | exact HB.out | apply bl | apply pN | apply b1) | exact HB.out | exact HBo.out)⟩⟩
       ·
        rw [if_neg c8] at H
        exact absurd H (by simp)
      ·
       rw [if_neg c7] at H
       have c7b0 : decide (127 < x0_2) = false := decide_eq_false c7
       clear c7
       by_cases c10 : x3_2.length < 140737488355328
       ·
        rw [if_pos c10] at H
        have LMc10 := Am c10
        clear c10
        obtain ⟨y288, hy288⟩ : ∃ y_ : List Int, y_ = (x3_2 ++ [(x0_2) % 256]) := ⟨_, rfl⟩
        replace H : (some (strOfNums y288)) = some r := by first | (rw [hy288]; with_reducible exact H) | (have H2_ := (Option.bind_some _ _).symm.trans H; rw [hy288]; with_reducible exact H2_) | (have H2_ := (Option.bind_some _ _).symm.trans H; with_reducible exact H2_) | with_reducible exact H | (rw [hy288]; exact H) | exact H
        have Ny288 := Am hy288
        clear hy288
        obtain rfl := Option.some.inj H
        go_wp2_with (first | ((with_reducible refine gate_builtin (b := .append) (xs := #[.tmp 22, .tmp 25]) rfl ?_); at_builtin; refine Kd.R_append (Kd.int .u8) (w0 := w) w.heap.size rfl (.tmp 22) (.tmp 25) 51 5 (.int .u8 0) 1 rfl Try.underlying51 info5 rfl (by decide) (by omega) u3 x3_2 ((x0_2) % 256) [.int .u8 ((x0_2) % 256)] (fun _ => True) (fun _ => False) rfl rfl ?aP (fun _ hk => hk.elim) ?aF ?aO ?aB ?aS ?aL ?_; (case aP => exact rfl); (case aB => exact (by repeat (first | (with_reducible first | exact HB.out | apply bl | apply pN | apply b1) | exact HB.out | exact HBo.out))); (case aF => exact (fun _ _ => trivial)); (case aO => exact (by (with_reducible repeat (first | apply Kd.R_alloc | apply Kd.R_drewN | apply Kd.R_drew)); exact HO_3.out)); (case aS => exact (below_size (by repeat (first | (with_reducible first | exact HB.out | apply bl | apply pN | apply b1) | exact HB.out | exact HBo.out)))); (case aL => have := LMc10.out; omega); intro v289 w11 ho hb hg hat; rw [← Ny288.out] at ho; have n0_ := Am (hb); have n1_ := Am (ho); clear HB; clear HO_3; have HB := n0_; have HO290 := n1_; clear n0_ n1_; clear ho hb hg hat; have hcv12 := own_string (P := Try.prog) Try.underlying51 Try.underlying5 Try.underlying9 (Kd.own_of_R HO290.out)))
        go_ret
        exact ⟨by first | rfl | (simp [errW_none, errW_some] <;> rfl) | (simp [*, errW_none, errW_some] <;> rfl) | (simp [Aid.ne_nil, Aid.eq_nil, errW_none, errW_some]; done), by repeat (first | (with_reducible first | exact HB.out | apply bl | apply pN | apply b1) | exact HB.out | exact HBo.out)⟩
       ·
        rw [if_neg c10] at H
        exact absurd H (by simp)

/-! ### shuttlecockref01_Len: function 17 -/
def shuttlecockref01_Len.f (k : Nat) (a0 : Int) : Option (Int) := (shuttlecockref01_Put.f k a0).bind fun t291 => (some (t291.size : Int))
theorem shuttlecockref01_Len.mono : ∀ a0 k, LeO (shuttlecockref01_Len.f k a0) (shuttlecockref01_Len.f (k + 1) a0) := by
 intro a0 k
 unfold shuttlecockref01_Len.f
 repeat' first
   | (with_reducible exact shuttlecockref01_Put.mono _ _)
   | (with_reducible exact LeO.refl _)
   | (with_reducible exact LeO.none _)
   | (with_reducible refine LeO.ite ?_ ?_)
   | (with_reducible refine LeO.bind ?_ (fun _ => ?_))
   | exact shuttlecockref01_Put.mono _ _
   | exact LeO.none _
   | refine LeO.ite ?_ ?_
   | refine LeO.bind ?_ (fun _ => ?_)
set_option maxHeartbeats 8000000 in
set_option maxRecDepth 100000 in
theorem shuttlecockref01_Len.calls (k : Nat) (a0 : Int) (r : Int) (w : World) (h : shuttlecockref01_Len.f k a0 = some r) :
  Calls Try.prog 17 #[.int .i64 a0] w fun e w' => e = .returned (.int .i64 r) ∧ Below w.heap.size w w' := by
 have HB := Am (Below.refl w.heap.size w)
 have H : ((shuttlecockref01_Put.f k a0).bind fun t291 => (some (t291.size : Int))) = some r := h
 clear h
 replace H := ob H
 obtain ⟨t291, A20, H⟩ := H
 replace H : (some (t291.size : Int)) = some r := H
 have A2 := Am A20
 clear A20
 obtain rfl := Option.some.inj H
 go_enter Try.func17, Try.ntmps17
 go_wp2_with (first | ((with_reducible refine gate_callee (f := 36) rfl ?_); refine goesL_ (some 4) rfl rfl Try.func36 (by kernel_rfl) rfl #[.int .i64 a0] rfl (by (try simp only [List.map_toArray, List.map_cons, List.map_nil]); first | done | rfl | (simp only [List.length_drop, List.length_take]; rfl)) ?_; (with_reducible refine (shuttlecockref01_Put.calls k a0 t291 _ A2.out).mono ?_); rintro e w3 ⟨rfl, hb⟩; refine ⟨_, rfl, ?_⟩; have n0_ := Am (below_step (by repeat (first | (with_reducible first | exact HB.out | apply bl | apply pN | apply b1) | exact HB.out | exact HBo.out)) hb); clear HB; have HB := n0_; clear n0_; (try clear hb); (try clear hb2); (try clear hk); (try clear hi)))
 go_ret
 exact ⟨by first | rfl | (simp [errW_none, errW_some] <;> rfl) | (simp [*, errW_none, errW_some] <;> rfl) | (simp [Aid.ne_nil, Aid.eq_nil, errW_none, errW_some]; done), by repeat (first | (with_reducible first | exact HB.out | apply bl | apply pN | apply b1) | exact HB.out | exact HBo.out)⟩

end Go.Proofs.Ythechcflnkofgaa.Q
