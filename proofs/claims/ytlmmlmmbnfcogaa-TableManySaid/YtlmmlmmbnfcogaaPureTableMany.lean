/- so many strings, and no stack, told with their numbers from the last one to the first one, are the same table; a number told twice makes it none. For every number. -/
import Derived.Test.YtlmmlmmbnfcogaaQx10
import Derived.Test.YtlmmlmmbnfcogaaEv
namespace Go.Proofs.Ytlmmlmmbnfcogaa.Pure
open Go Go.RowKit Go.Proofs.Ytlmmlmmbnfcogaa.Q Go.Proofs.YtlmmlmmbnfcogaaW.PrintWords Go.Proofs.YtlmmlmmbnfcogaaW.PrintLast Go.Proofs.YtlmmlmmbnfcogaaW.PrintMore ShCore
def rep (j : Nat) : ByteArray := arr (List.replicate j 120)
def strs : Nat → List ByteArray
  | 0 => []
  | i + 1 => strs i ++ [rep (i + 1)]
def backR : Nat → List Int
  | 0 => []
  | i + 1 => ((i + 1 : Nat) : Int) :: backR i
theorem rep_size (j : Nat) : (rep j).size = j := by unfold rep; rw [size_arr, List.length_replicate]
theorem rep_succ (j : Nat) : rep j ++ (⟨#[120]⟩ : ByteArray) = rep (j + 1) := by
  show arr _ ++ arr [120] = _
  rw [arr_append]
  unfold rep
  rw [List.replicate_succ']
theorem strs_len : ∀ i, (strs i).length = i
  | 0 => rfl
  | i + 1 => by unfold strs; rw [List.length_append, List.length_singleton, strs_len i]
theorem strs_mem : ∀ (i : Nat) (s : ByteArray), s ∈ strs i → 1 ≤ s.size ∧ s.size ≤ i
  | 0, s, h => by simp [strs] at h
  | i + 1, s, h => by
    unfold strs at h
    rcases List.mem_append.1 h with h | h
    · have := strs_mem i s h
      omega
    · rw [List.mem_singleton.1 h, rep_size]
      omega
theorem strs_nodup : ∀ i, (strs i).Nodup
  | 0 => List.nodup_nil
  | i + 1 => by
    unfold strs
    rw [List.nodup_append]
    refine ⟨strs_nodup i, by simp, fun a ha b hb e => ?_⟩
    rw [List.mem_singleton.1 hb] at e
    have := strs_mem i a ha
    rw [e, rep_size] at this
    omega
theorem back_len : ∀ i, (backR i).length = i
  | 0 => rfl
  | i + 1 => by unfold backR; rw [List.length_cons, back_len i]
theorem back_mem : ∀ (i : Nat) (x : Int), x ∈ backR i → 1 ≤ x ∧ x ≤ (i : Int)
  | 0, x, h => by simp [backR] at h
  | i + 1, x, h => by
    rcases List.mem_cons.1 h with h | h
    · omega
    · have := back_mem i x h
      omega
theorem back_nodup : ∀ i, (backR i).Nodup
  | 0 => List.nodup_nil
  | i + 1 => List.nodup_cons.2 ⟨fun h => by have := back_mem i _ h; omega, back_nodup i⟩
theorem many_may (n : Nat) (h : n ≤ 30) : MayP (strs n) [] := ⟨by rw [strs_len]; omega, by simp, fun s hs => by have := strs_mem n s hs; omega, strs_nodup n, fun l hl => by simp at hl, List.nodup_nil⟩
theorem many_each (n : Nat) : eachP (backR n) (strs n).length := by rw [strs_len]; exact ⟨back_len n, back_mem n, back_nodup n⟩
theorem many_bad : ∀ n : Fin 31, 1 ≤ n.1 → (decT ([UInt8.ofNat n.1] ++ [1, 1, 121, 1, 1, 122])).2.2.2 ≠ 0 := by decide +kernel
theorem many_head : ∀ n : Fin 31, put ((n.1 : Nat) : Int) = [UInt8.ofNat n.1] := by decide +kernel
theorem many_end (n : Nat) (h1 : 1 ≤ n) (h2 : n ≤ 30) : Ev (fun k => (table_Order.f k (strs n) ([] : List (List T2)) (backR n) ([] : List Int)).bind fun t => (table_Decode.f k t).bind fun bt => (table_Encode.f k (strs n) ([] : List (List T2))).bind fun u => (if 0 ≤ (mn 1 (u.size : Int)) then (if (mn 1 (u.size : Int)) ≤ (u.size : Int) then (if (u.extract 0 ((mn 1 (u.size : Int)) : Int).toNat).size + 6 ≤ 9223372036854775807 then ((table_Decode.f k ((u.extract 0 ((mn 1 (u.size : Int)) : Int).toNat) ++ (⟨#[1, 1, 121, 1, 1, 122]⟩ : ByteArray))).bind fun bt2 => (if bt.2.2.2 = 0 then ((shuttlecockref06_Same.f k bt.1 bt.2.1 (strs n) ([] : List (List T2))).bind fun t => (if t = true then (some (bt2.2.2.2 != 0)) else (none))) else (none))) else (none)) else (none)) else (none))) true := by
  have hm := many_may n h2
  have he := many_each n
  have h0 : eachP [] ([] : List (List T2)).length := ⟨rfl, by simp, List.nodup_nil⟩
  have hl := ordL_small hm he h0
  have hu : encB (strs n) [] = arr (ordL (strs n) [] (risF n 0) []) := by
    unfold encB
    rw [strs_len]
    exact ordB_yes hm (by rw [strs_len]; exact ris_each n) h0
  have hhead : ∃ rest, ordL (strs n) [] (risF n 0) [] = [UInt8.ofNat n] ++ rest := by
    have h := many_head ⟨n, by omega⟩
    unfold ordL
    rw [risF_len]
    simp only at h
    rw [h, List.append_assoc]
    exact ⟨_, rfl⟩
  obtain ⟨rest, hr⟩ := hhead
  have hus : (encB (strs n) []).size = rest.length + 1 := by rw [hu, size_arr, hr]; simp
  have hx : (encB (strs n) []).extract 0 1 ++ (⟨#[1, 1, 121, 1, 1, 122]⟩ : ByteArray) = arr ([UInt8.ofNat n] ++ [1, 1, 121, 1, 1, 122]) := by
    refine lst_inj ?_
    rw [lst_append, lst_extract, hu, lst_arr, hr, lst_arr]
    rfl
  have hxs : ((encB (strs n) []).extract 0 1).size ≤ 1 := by
    rw [← lst_length, lst_extract, List.length_take]
    omega
  have hmn : mn 1 ((encB (strs n) []).size : Int) = 1 := by unfold mn; rw [hus]; omega
  refine Ev.bind (table_Order.ev (strs n) [] (backR n) [] (by rw [back_len]; omega) (by simp)) ?_
  rw [ordB_yes hm he h0]
  refine Ev.bind (table_Decode.ev _ (by rw [size_arr]; exact hl)) ?_
  rw [lst_arr, dec_ord hm he h0]
  refine Ev.bind (table_Encode.ev (strs n) [] (by rw [strs_len]; omega) (by simp)) ?_
  rw [hmn]
  refine evYes (by decide) (evYes (by rw [hus]; omega) (evYes (by show ((encB (strs n) []).extract 0 1).size + 6 ≤ _; omega) ?_))
  show Ev (fun k => (table_Decode.f k ((encB (strs n) []).extract 0 1 ++ (⟨#[1, 1, 121, 1, 1, 122]⟩ : ByteArray))).bind _) true
  rw [hx]
  refine Ev.bind (table_Decode.ev _ (by rw [size_arr]; simp)) (evYes rfl (Ev.bind (same_self hm) (evYes rfl ?_)))
  rw [lst_arr]
  have hbad := many_bad ⟨n, by omega⟩ h1
  have e : ((decT ([UInt8.ofNat n] ++ [1, 1, 121, 1, 1, 122])).2.2.2 != 0) = true := bne_iff_ne.2 hbad
  rw [e]
  exact Ev.now _
theorem many_loop (n : Nat) (h1 : 1 ≤ n) (h2 : n ≤ 30) : ∀ (d i : Nat), i + d = n → Ev (fun k => shuttlecocklaw07_TableMany.l0 k (n : Int) (backR i) (rep (i + 1)) ((i + 1 : Nat) : Int) (strs i)) true
  | 0, i, e => by
    obtain rfl : i = n := by omega
    exact Ev.step (fun k => shuttlecocklaw07_TableMany.l0.eq_2 ..) (evNo (by omega) (many_end i h1 h2))
  | d + 1, i, e => by
    refine Ev.step (fun k => shuttlecocklaw07_TableMany.l0.eq_2 ..) (evYes (by omega) (evYes (by rw [strs_len]; omega) (Ev.bind (evC rfl) (evYes (by rw [back_len]; simp; omega) (evYes (by rw [rep_size]; omega) ?_)))))
    have ih := many_loop n h1 h2 d (i + 1) (by omega)
    have ew : wrap64 (((i + 1 : Nat) : Int) + 1) = ((i + 1 + 1 : Nat) : Int) := by unfold wrap64; omega
    rw [ew, rep_succ]
    exact ih
theorem TableMany : shuttlecocklaw07_TableMany.Pure := by
  intro a _
  refine Ev.rounds (g := fun k => shuttlecocklaw07_TableMany.f k a) ?_
  have out : Ev (fun k => shuttlecocklaw07_TableMany.j0 k a true) true := Ev.step (fun k => shuttlecocklaw07_TableMany.j0.eq_2 ..) (evYes rfl (Ev.bind ev_fixed (Ev.now _)))
  refine Ev.bind ev_fixed (evYes rfl ?_)
  by_cases c1 : a < 1
  · exact evYes c1 out
  refine evNo c1 ?_
  by_cases c2 : a > 30
  · rw [decide_eq_true c2]; exact out
  rw [decide_eq_false c2]
  refine Ev.step (fun k => shuttlecocklaw07_TableMany.j0.eq_2 ..) (evNo Bool.false_ne_true ?_)
  obtain ⟨n, rfl⟩ : ∃ n : Nat, a = n := ⟨a.toNat, by omega⟩
  exact many_loop n (by omega) (by omega) n 0 (by omega)
end Go.Proofs.Ytlmmlmmbnfcogaa.Pure
