/- What the program's event functions come to, by plain lists of bytes. For every input within the machine's sizes. -/
import Derived.Test.YthechcflnkofgaaQx3
import Derived.Test.YthechcflnkofgaaQx4
import Derived.Test.YthechcflnkofgaaQx5
import Derived.Test.YthechcflnkofgaaQx7
import Derived.Test.YthechcflnkofgaaWireE
import Derived.Test.YthechcflnkofgaaEvA
set_option linter.unusedVariables false
set_option linter.unusedSimpArgs false
namespace Go.Proofs.Ythechcflnkofgaa.EvB
open Go Go.RowKit Go.Proofs.Ythechcflnkofgaa.Q Go.Proofs.YthechcflnkofgaaW.PrintWords Go.Proofs.YthechcflnkofgaaW.PrintLast Go.Proofs.YthechcflnkofgaaW.PrintMore ShCore EvA

theorem wf_small {a : Int} (h0 : -9223372036854775808 ≤ a) (h1 : a ≤ 9223372036854775807) : (Lit.int .i64 a).wf = true := by
  simp only [Lit.wf, decide_eq_true_eq, Bool.and_eq_true]
  exact ⟨h0, h1⟩
theorem wf_byte (c : UInt8) : (Lit.int .i64 (c.toNat : Int)).wf = true := by
  have := u8_lt c
  exact wf_small (by omega) (by omega)
theorem known_f {a : Int} (h : (Lit.int .i64 a).wf = true) : kind_Known.f a = some (Kind.knownB a) := by unfold kind_Known.f; rw [if_pos h]
theorem args_f {a : Int} (h : (Lit.int .i64 a).wf = true) : kind_Args.f a = some (Kind.argsL a) := by unfold kind_Args.f; rw [if_pos h]
theorem may_f {a : Int} (h : (Lit.int .i64 a).wf = true) (d : Int) (l : List Int) (t : ByteArray) : event_May.f a d l t = some (mayE a d l t) := by unfold event_May.f; rw [if_pos h]
/-! ### the bytes -/
theorem size_append' (a b : ByteArray) : (a ++ b).size = a.size + b.size := by rw [← lst_length, lst_append, List.length_append, lst_length, lst_length]
theorem numsL_fit {l : List Int} (h : ∀ a ∈ l, fitsE a = true) : numsL l = l.flatMap put := by
  rcases numsL_cases l with ⟨⟨n, hn, hp⟩, _⟩ | ⟨_, h2⟩
  · exact absurd hp ((fits_put n).1 (h n hn))
  · exact h2
theorem nums_size (l : List Int) : (numsL l).length ≤ 9 * l.length := by
  unfold numsL
  cases h : numsO l with
  | none => simp
  | some b => exact nums_len l b h
theorem head_byte {a : Int} (hk : Kind.knownB a = true ∨ expE a = true) : strOfNums [a % 256] = arr [UInt8.ofNat a.toNat] := by
  have hb := kind_byte hk
  have e : a % 256 = ((UInt8.ofNat a.toNat).toNat : Int) := by
    rw [hb]
    rw [knownB_iff, expE_iff] at hk
    omega
  rw [e]
  exact strOfNums_bytes [_]
theorem Encode.ev (e : ES) (hw : (Lit.int .i64 e.f0).wf = true) (ht : e.f3.size < 4611686018427387904) : Ev (fun k => event_Encode.f k e.f0 e.f1 e.f2 e.f3) (arr (encE e)) := by
  obtain ⟨a, d, l, t⟩ := e
  simp only at hw ht
  unfold event_Encode.f encE
  simp only [may_f hw, Option.bind_some]
  cases hm : mayE a d l t with
  | false => exact evNo (by simp) (evC (by simp [arr]))
  | true =>
    have hk := mayE_kind hm
    have hcs := ((mayE_iff ..).1 hm).2
    have hp9 := put_len d
    simp only [if_true, head_byte hk]
    refine Ev.bind (varint_Put.ev d) ?_
    refine evYes (by rw [size_arr, size_arr, List.length_singleton]; omega) ?_
    simp only [expE_f, Option.bind_some]
    by_cases hx : expE a = true
    · refine evYes hx ?_
      have h9 := text_len (lst t)
      rw [lst_length] at h9
      refine Ev.bind (wire_Text.ev t (by omega)) ?_
      refine evYes (by rw [size_append', size_arr, size_arr, size_arr, List.length_singleton]; omega) ?_
      refine evC ?_
      rw [arr_append, arr_append]
      unfold encL
      rw [if_pos hx]
      simp
    · refine evNo hx ?_
      have hall := (hcs.resolve_left (fun h => hx h.1)).2.2.2.2
      have h9 := nums_size l
      have hl3 := (hcs.resolve_left (fun h => hx h.1)).2.2.2.1
      have ha3 := Kind.argsL_length a
      refine Ev.bind (wire_Nums.ev l (by omega)) ?_
      refine evYes (by rw [size_append', size_arr, size_arr, size_arr, List.length_singleton]; omega) ?_
      refine evC ?_
      rw [arr_append, arr_append, numsL_fit hall]
      unfold encL
      rw [if_neg hx]
      simp
/-! ### reading -/
theorem takeL_pos (s : List UInt8) (q : Nat) (hq : q ≤ s.length) : takeL s (q : Int) = if (tkh (s.drop q)).2.2 = 0 then (((tkh (s.drop q)).1 : Int), ((q + (tkh (s.drop q)).2.1 : Nat) : Int), 0) else (0, 0, (((tkh (s.drop q)).2.2 : Nat) : Int)) := by
  unfold takeL
  rw [if_neg (by omega)]
  simp only [Int.toNat_natCast, Int.natCast_add]
theorem rdNum_pos (s : List UInt8) (q : Nat) (hq : q ≤ s.length) (f : Int) : rdNum s ⟨q, 0, f⟩ = if (tkh (s.drop q)).2.2 = 0 then (((tkh (s.drop q)).1 : Int), ⟨((q + (tkh (s.drop q)).2.1 : Nat) : Int), 0, f⟩) else (0, ⟨q, (((tkh (s.drop q)).2.2 : Nat) : Int), q⟩) := by
  unfold rdNum
  simp only [if_true, takeL_pos s q hq]
  by_cases h : (tkh (s.drop q)).2.2 = 0
  · simp [h]
  · simp [h]
theorem rdText_pos (s : List UInt8) (q : Nat) (hq : q ≤ s.length) (f : Int) : rdText s ⟨q, 0, f⟩ = if (textD (s.drop q)).2.2 = 0 then ((textD (s.drop q)).1, ⟨((q + (textD (s.drop q)).2.1 : Nat) : Int), 0, f⟩) else ([], ⟨q, (((textD (s.drop q)).2.2 : Nat) : Int), q⟩) := by
  unfold rdText
  simp only [if_true]
  rw [rdNum_pos s q hq f]
  unfold textD
  by_cases h : (tkh (s.drop q)).2.2 = 0
  · obtain ⟨b1, b2, b3, b4, b5, b6⟩ := tkh_back _ h
    rw [List.length_drop] at b4
    rw [if_pos h, if_pos h]
    simp only [if_true]
    unfold rdTake0
    rw [if_neg (by omega), List.drop_drop, List.length_drop]
    by_cases h2 : (tkh (s.drop q)).1 ≤ s.length - (q + (tkh (s.drop q)).2.1)
    · rw [if_neg (by simp only; omega), if_pos h2]
      simp only [Int.toNat_natCast, Prod.mk.injEq, true_and, Rd.mk.injEq, and_true, if_true]
      omega
    · rw [if_pos (by simp only; omega), if_neg h2]
      simp
  · rw [if_neg h, if_neg h]
    simp [h]
theorem read_stuck (u : ByteArray) (hu : u.size < 4611686018427387904) (a e f : Int) (he : e ≠ 0) (kd dt : Int) (tx : ByteArray) (n : Nat) (hn : n ≤ 1000) : ∀ (d i : Nat) (acc : List Int), i + d = n → acc.length ≤ i →
    ∃ l, Ev (fun k => event_read.l0 k (n : Int) (i : Int) u a e f kd dt acc tx) (kd, dt, l, tx, true, u, a, e, f)
  | 0, i, acc, hi, hl => by
    refine ⟨acc, Ev.step (fun k => event_read.l0.eq_2 ..) ?_⟩
    exact evNo (by omega) (Ev.now _)
  | d + 1, i, acc, hi, hl => by
    obtain ⟨l, ih⟩ := read_stuck u hu a e f he kd dt tx n hn d (i + 1) (acc ++ [0]) (by omega) (by simp; omega)
    refine ⟨l, Ev.step (fun k => event_read.l0.eq_2 ..) ?_⟩
    refine evYes (by omega) ?_
    refine Ev.bind (rNum u a e f hu (n := 0) (a' := a) (e' := e) (f' := f) (by unfold rdNum; rw [if_neg he])) ?_
    refine evYes (by omega) ?_
    have e1 : wrap64 ((i : Int) + 1) = ((i + 1 : Nat) : Int) := by rw [wrap64_of (by omega) (by omega)]; omega
    simp only [e1]
    exact ih
theorem read_args (u : ByteArray) (hu : u.size < 4611686018427387904) (f kd dt : Int) (tx : ByteArray) (n : Nat) (hn : n ≤ 1000) : ∀ (d i q : Nat) (acc : List Int), i + d = n → acc.length ≤ i → q ≤ (lst u).length →
    ∃ l a' f', Ev (fun k => event_read.l0 k (n : Int) (i : Int) u q 0 f kd dt acc tx) (kd, dt, l, tx, true, u, a', (((argsD d ((lst u).drop q)).2.2 : Nat) : Int), f') ∧
      ((argsD d ((lst u).drop q)).2.2 = 0 → l = acc ++ (argsD d ((lst u).drop q)).1 ∧ a' = ((q + (argsD d ((lst u).drop q)).2.1 : Nat) : Int))
  | 0, i, q, acc, hi, hl, hq => by
    refine ⟨acc, q, f, Ev.step (fun k => event_read.l0.eq_2 ..) ?_, fun _ => by simp [argsD]⟩
    exact evNo (by omega) (Ev.now _)
  | d + 1, i, q, acc, hi, hl, hq => by
    have e1 : wrap64 ((i : Int) + 1) = ((i + 1 : Nat) : Int) := by rw [wrap64_of (by omega) (by omega)]; omega
    have hr := rdNum_pos (lst u) q hq f
    unfold argsD
    by_cases h : (tkh ((lst u).drop q)).2.2 = 0
    · rw [if_pos h] at hr
      obtain ⟨b1, b2, b3, b4, b5, b6⟩ := tkh_back _ h
      rw [List.length_drop] at b4
      obtain ⟨l, a', f', ih, hh⟩ := read_args u hu f kd dt tx n hn d (i + 1) (q + (tkh ((lst u).drop q)).2.1) (acc ++ [((tkh ((lst u).drop q)).1 : Int)]) (by omega) (by simp; omega) (by omega)
      rw [← List.drop_drop] at ih hh
      rw [if_pos h]
      have hev : Ev (fun k => event_read.l0 k (n : Int) (i : Int) u q 0 f kd dt acc tx) (kd, dt, l, tx, true, u, a', (((argsD d (((lst u).drop q).drop (tkh ((lst u).drop q)).2.1)).2.2 : Nat) : Int), f') := by
        refine Ev.step (fun k => event_read.l0.eq_2 ..) ?_
        refine evYes (by omega) ?_
        refine Ev.bind (rNum u q 0 f hu hr) ?_
        refine evYes (by omega) ?_
        simp only [e1]
        exact ih
      by_cases h2 : (argsD d (((lst u).drop q).drop (tkh ((lst u).drop q)).2.1)).2.2 = 0
      · rw [if_pos h2]
        rw [h2] at hev
        refine ⟨l, a', f', hev, fun _ => ?_⟩
        obtain ⟨h3, h4⟩ := hh h2
        refine ⟨by rw [h3]; simp, by rw [h4]; simp only; omega⟩
      · rw [if_neg h2]
        exact ⟨l, a', f', hev, fun h3 => absurd h3 h2⟩
    · rw [if_neg h] at hr
      rw [if_neg h]
      obtain ⟨l, ih⟩ := read_stuck u hu q (((tkh ((lst u).drop q)).2.2 : Nat) : Int) q (by omega) kd dt tx n hn d (i + 1) (acc ++ [0]) (by omega) (by simp; omega)
      refine ⟨l, q, q, ?_, fun h3 => absurd h3 h⟩
      refine Ev.step (fun k => event_read.l0.eq_2 ..) ?_
      refine evYes (by omega) ?_
      refine Ev.bind (rNum u q 0 f hu hr) ?_
      refine evYes (by omega) ?_
      simp only [e1]
      exact ih
/-- What is read, and where the reader stands then. -/
structure ReadAt (u : ByteArray) (q : Int × Int × List Int × ByteArray × Bool × ByteArray × Int × Int × Int) : Prop where
  same : q.2.2.2.2.2.1 = u
  unknown : (decS (lst u)).2.2 = 30 → q.2.2.2.2.1 = false
  known : (decS (lst u)).2.2 ≠ 30 → q.2.2.2.2.1 = true ∧ q.2.2.2.2.2.2.2.1 = (((decS (lst u)).2.2 : Nat) : Int)
  here : (decS (lst u)).2.2 = 0 → (⟨q.1, q.2.1, q.2.2.1, q.2.2.2.1⟩ : ES) = (decS (lst u)).1 ∧ q.2.2.2.2.2.2.1 = (((decS (lst u)).2.1 : Nat) : Int)
theorem rdByte_head (c : UInt8) (l : List UInt8) : rdByte (c :: l) ⟨0, 0, 0⟩ = ((c.toNat : Int), ⟨1, 0, 0⟩) := by
  unfold rdByte rdTake rdTake0
  simp
  rw [if_neg (by omega)]
theorem read_j0 (u : ByteArray) (hu : u.size < 4611686018427387904) (c : UInt8) (l : List UInt8) (hc : lst u = c :: l) (hk : Kind.knownB c.toNat = true ∨ expE c.toNat = true) :
    ∃ q, Ev (fun k => event_read.j0 k false u 1 0 0 c.toNat 0 ⟨#[]⟩) q ∧ ReadAt u q := by
  have hlen : (lst u).length = l.length + 1 := by rw [hc]; rfl
  have hd1 : (lst u).drop 1 = l := by rw [hc]; rfl
  have hn := rdNum_pos (lst u) 1 (by omega) 0
  rw [hd1] at hn
  have hS : decS (lst u) = decC c l := by rw [hc]; rfl
  by_cases h : (tkh l).2.2 = 0
  · rw [if_pos h] at hn
    obtain ⟨b1, b2, b3, b4, b5, b6⟩ := tkh_back _ h
    have hd2 : (lst u).drop (1 + (tkh l).2.1) = l.drop (tkh l).2.1 := by rw [← List.drop_drop, hd1]
    by_cases hx : expE c.toNat = true
    · have ht := rdText_pos (lst u) (1 + (tkh l).2.1) (by omega) 0
      rw [hd2] at ht
      by_cases h2 : (textD (l.drop (tkh l).2.1)).2.2 = 0
      · rw [if_pos h2] at ht
        refine ⟨((c.toNat : Int), ((tkh l).1 : Int), [], arr (textD (l.drop (tkh l).2.1)).1, true, u, ((1 + (tkh l).2.1 + (textD (l.drop (tkh l).2.1)).2.1 : Nat) : Int), 0, 0), Ev.step (fun k => event_read.j0.eq_2 ..) (evNo (by simp) (Ev.bind (rNum u 1 0 0 hu hn) ?_)), ?_⟩
        · simp only [expE_f, Option.bind_some]
          refine evYes hx (Ev.bind (rText' u _ 0 0 hu ⟨by simp only; omega, by simp only; omega⟩ ht) (Ev.now _))
        · have e0 : decC c l = (⟨c.toNat, (tkh l).1, [], arr (textD (l.drop (tkh l).2.1)).1⟩, 1 + (tkh l).2.1 + (textD (l.drop (tkh l).2.1)).2.1, 0) := by
            unfold decC
            rw [if_pos hk, if_pos h, if_pos hx, if_pos h2]
          exact ⟨rfl, fun h3 => by rw [hS, e0] at h3; simp at h3, fun _ => ⟨rfl, by rw [hS, e0]; rfl⟩, fun _ => ⟨by rw [hS, e0], by rw [hS, e0]⟩⟩
      · rw [if_neg h2] at ht
        refine ⟨((c.toNat : Int), ((tkh l).1 : Int), [], arr [], true, u, ((1 + (tkh l).2.1 : Nat) : Int), (((textD (l.drop (tkh l).2.1)).2.2 : Nat) : Int), ((1 + (tkh l).2.1 : Nat) : Int)), Ev.step (fun k => event_read.j0.eq_2 ..) (evNo (by simp) (Ev.bind (rNum u 1 0 0 hu hn) ?_)), ?_⟩
        · simp only [expE_f, Option.bind_some]
          refine evYes hx (Ev.bind (rText' u _ 0 0 hu ⟨by simp only; omega, by simp only; omega⟩ ht) (Ev.now _))
        · have e0 : decC c l = (zE, 0, (textD (l.drop (tkh l).2.1)).2.2) := by
            unfold decC
            rw [if_pos hk, if_pos h, if_pos hx, if_neg h2]
          have h30 : (textD (l.drop (tkh l).2.1)).2.2 ≠ 30 := by have := textD_errs (l.drop (tkh l).2.1); omega
          exact ⟨rfl, fun h3 => by rw [hS, e0] at h3; exact absurd h3 h30, fun _ => ⟨rfl, by rw [hS, e0]⟩, fun h3 => by rw [hS, e0] at h3; exact absurd h3 h2⟩
    · have hx' : expE c.toNat = false := by simpa using hx
      have ha3 := Kind.argsL_length c.toNat
      obtain ⟨al, a', f', hev, hh⟩ := read_args u hu 0 c.toNat (tkh l).1 ⟨#[]⟩ (Kind.argsL c.toNat).length (by omega) (Kind.argsL c.toNat).length 0 (1 + (tkh l).2.1) [] (by omega) (by simp) (by omega)
      rw [hd2] at hev hh
      refine ⟨((c.toNat : Int), ((tkh l).1 : Int), al, ⟨#[]⟩, true, u, a', (((argsD (Kind.argsL c.toNat).length (l.drop (tkh l).2.1)).2.2 : Nat) : Int), f'), Ev.step (fun k => event_read.j0.eq_2 ..) (evNo (by simp) (Ev.bind (rNum u 1 0 0 hu hn) ?_)), ?_⟩
      · simp only [expE_f, args_f (wf_byte c), Option.bind_some]
        exact evNo hx hev
      · by_cases h2 : (argsD (Kind.argsL c.toNat).length (l.drop (tkh l).2.1)).2.2 = 0
        · have e0 : decC c l = (⟨c.toNat, (tkh l).1, (argsD (Kind.argsL c.toNat).length (l.drop (tkh l).2.1)).1, ⟨#[]⟩⟩, 1 + (tkh l).2.1 + (argsD (Kind.argsL c.toNat).length (l.drop (tkh l).2.1)).2.1, 0) := by
            unfold decC
            rw [if_pos hk, if_pos h, if_neg hx, if_pos h2]
          obtain ⟨h3, h4⟩ := hh h2
          refine ⟨rfl, fun h3 => by rw [hS, e0] at h3; simp at h3, fun _ => ⟨rfl, by rw [hS, e0, h2]⟩, fun _ => ⟨?_, ?_⟩⟩
          · rw [hS, e0]
            simp only [h3, List.nil_append]
          · rw [hS, e0]
            exact h4
        · have e0 : decC c l = (zE, 0, (argsD (Kind.argsL c.toNat).length (l.drop (tkh l).2.1)).2.2) := by
            unfold decC
            rw [if_pos hk, if_pos h, if_neg hx, if_neg h2]
          have h30 : (argsD (Kind.argsL c.toNat).length (l.drop (tkh l).2.1)).2.2 ≠ 30 := by have := argsD_errs (Kind.argsL c.toNat).length (l.drop (tkh l).2.1); omega
          exact ⟨rfl, fun h3 => by rw [hS, e0] at h3; exact absurd h3 h30, fun _ => ⟨rfl, by rw [hS, e0]⟩, fun h3 => by rw [hS, e0] at h3; exact absurd h3 h2⟩
  · rw [if_neg h] at hn
    have he0 : (((tkh l).2.2 : Nat) : Int) ≠ 0 := by omega
    have e0 : decC c l = (zE, 0, (tkh l).2.2) := by
      unfold decC
      rw [if_pos hk, if_neg h]
    have h30 : (tkh l).2.2 ≠ 30 := by have := tkh_errs l; omega
    have fin : ∀ q : Int × Int × List Int × ByteArray × Bool × ByteArray × Int × Int × Int, q.2.2.2.2.2.1 = u → q.2.2.2.2.1 = true → q.2.2.2.2.2.2.2.1 = (((tkh l).2.2 : Nat) : Int) → ReadAt u q := fun q h1 h2 h4 =>
      ⟨h1, fun h3 => by rw [hS, e0] at h3; exact absurd h3 h30, fun _ => ⟨h2, by rw [hS, e0]; exact h4⟩, fun h3 => by rw [hS, e0] at h3; exact absurd h3 h⟩
    by_cases hx : expE c.toNat = true
    · refine ⟨((c.toNat : Int), 0, [], arr [], true, u, ((1 : Nat) : Int), (((tkh l).2.2 : Nat) : Int), ((1 : Nat) : Int)), Ev.step (fun k => event_read.j0.eq_2 ..) (evNo (by simp) (Ev.bind (rNum u 1 0 0 hu hn) ?_)), ?_⟩
      · simp only [expE_f, Option.bind_some]
        refine evYes hx (Ev.bind (rText' u _ _ _ hu (l := []) (a' := ((1 : Nat) : Int)) (e' := (((tkh l).2.2 : Nat) : Int)) (f' := ((1 : Nat) : Int)) ⟨by simp only; omega, by simp only; omega⟩ ?_) (Ev.now _))
        unfold rdText
        rw [if_neg he0]
      · exact fin _ rfl rfl rfl
    · have ha3 := Kind.argsL_length c.toNat
      obtain ⟨al, hev⟩ := read_stuck u hu ((1 : Nat) : Int) (((tkh l).2.2 : Nat) : Int) ((1 : Nat) : Int) he0 c.toNat 0 ⟨#[]⟩ (Kind.argsL c.toNat).length (by omega) (Kind.argsL c.toNat).length 0 [] (by omega) (by simp)
      refine ⟨((c.toNat : Int), 0, al, ⟨#[]⟩, true, u, ((1 : Nat) : Int), (((tkh l).2.2 : Nat) : Int), ((1 : Nat) : Int)), Ev.step (fun k => event_read.j0.eq_2 ..) (evNo (by simp) (Ev.bind (rNum u 1 0 0 hu hn) ?_)), ?_⟩
      · simp only [expE_f, args_f (wf_byte c), Option.bind_some]
        exact evNo hx hev
      · exact fin _ rfl rfl rfl
theorem read_ev (u : ByteArray) (hu : u.size < 4611686018427387904) : ∃ q, Ev (fun k => event_read.f k u 0 0 0) q ∧ ReadAt u q := by
  cases hc : lst u with
  | nil =>
    have hz : ((Kind.argsL 0).length : Int) = ((0 : Nat) : Int) := rfl
    obtain ⟨al, hev⟩ := read_stuck u hu 0 10 0 (by omega) 0 0 ⟨#[]⟩ 0 (by omega) 0 0 [] (by omega) (by simp)
    refine ⟨(0, 0, al, ⟨#[]⟩, true, u, 0, 10, 0), ?_, ⟨rfl, fun h => by rw [hc] at h; simp [decS] at h, fun _ => ⟨rfl, by rw [hc]; rfl⟩, fun h => by rw [hc] at h; simp [decS] at h⟩⟩
    unfold event_read.f
    have hb := rByte u 0 0 0 hu ⟨by simp, by simp⟩ (n := 0) (a' := 0) (e' := 10) (f' := 0) (by rw [hc]; rfl)
    rw [hb]
    simp only [Option.bind_some, wire_Reader_Err.f]
    refine evNo (by omega) ?_
    refine Ev.step (fun k => event_read.j0.eq_2 ..) (evNo (by simp) ?_)
    refine Ev.bind (rNum u 0 10 0 hu (n := 0) (a' := 0) (e' := 10) (f' := 0) (by unfold rdNum; rw [if_neg (by simp)])) ?_
    simp only [expE_f, args_f (wf_small (a := 0) (by omega) (by omega)), Option.bind_some]
    refine evNo (by rw [expE_iff]; omega) ?_
    rw [hz]
    exact hev
  | cons c l =>
    have hb := rByte u 0 0 0 hu ⟨by simp, by simp⟩ (n := (c.toNat : Int)) (a' := 1) (e' := 0) (f' := 0) (by rw [hc]; exact rdByte_head c l)
    have ef : (fun k => event_read.f k u 0 0 0) = fun k => if Kind.knownB c.toNat = true then event_read.j0 k false u 1 0 0 c.toNat 0 ⟨#[]⟩ else event_read.j0 k (!expE c.toNat) u 1 0 0 c.toNat 0 ⟨#[]⟩ := by
      funext k
      unfold event_read.f
      rw [hb]
      simp only [Option.bind_some, wire_Reader_Err.f, if_true, known_f (wf_byte c), expE_f]
    rw [ef]
    by_cases hk : Kind.knownB c.toNat = true
    · obtain ⟨q, h1, h2⟩ := read_j0 u hu c l hc (.inl hk)
      exact ⟨q, evYes hk h1, h2⟩
    · by_cases hx : expE c.toNat = true
      · obtain ⟨q, h1, h2⟩ := read_j0 u hu c l hc (.inr hx)
        refine ⟨q, evNo hk ?_, h2⟩
        rw [hx]
        exact h1
      · have hx' : expE c.toNat = false := by simpa using hx
        have e0 : decS (lst u) = (zE, 0, 30) := by
          rw [hc, decS_cons]
          unfold decC
          rw [if_neg (fun h => h.elim hk hx)]
        refine ⟨((c.toNat : Int), 0, [], ⟨#[]⟩, false, u, 1, 0, 0), evNo hk ?_, ⟨rfl, fun _ => rfl, fun h => by rw [e0] at h; simp at h, fun h => by rw [e0] at h; simp at h⟩⟩
        rw [hx']
        exact Ev.step (fun k => event_read.j0.eq_2 ..) (evYes rfl (Ev.now _))
/-- The event at a place of any bytes, as it is told. -/
def decT (s : List UInt8) (p : Int) : Int × Int × List Int × ByteArray × Int × Int :=
  if p < 0 ∨ p > s.length then (0, 0, [], ⟨#[]⟩, 0, 1) else
    if (decS (s.drop p.toNat)).2.2 = 0 then ((decS (s.drop p.toNat)).1.f0, (decS (s.drop p.toNat)).1.f1, (decS (s.drop p.toNat)).1.f2, (decS (s.drop p.toNat)).1.f3, p + (decS (s.drop p.toNat)).2.1, 0)
    else (0, 0, [], ⟨#[]⟩, 0, ((decS (s.drop p.toNat)).2.2 : Nat))
theorem Decode.ev (s : ByteArray) (p : Int) (hs : s.size < 4611686018427387904) : Ev (fun k => event_Decode.f k s p) (decT (lst s) p) := by
  unfold event_Decode.f decT
  have hl := lst_length s
  by_cases c1 : p < 0
  · refine evYes c1 ?_
    rw [if_pos (.inl c1)]
    exact Ev.step (fun k => event_Decode.j0.eq_2 ..) (evYes rfl (Ev.now _))
  · refine evNo c1 ?_
    by_cases c2 : p > (s.size : Int)
    · rw [decide_eq_true c2, if_pos (.inr (by rw [hl]; exact c2))]
      exact Ev.step (fun k => event_Decode.j0.eq_2 ..) (evYes rfl (Ev.now _))
    · rw [decide_eq_false c2, if_neg (by rw [hl]; omega)]
      refine Ev.step (fun k => event_Decode.j0.eq_2 ..) (evNo (by simp) (evYes (by omega) (evYes (by omega) ?_)))
      have eu : lst (s.extract p.toNat s.size) = (lst s).drop p.toNat := by
        rw [lst_extract, List.take_of_length_le]
        rw [List.length_drop, hl]
        omega
      have hu : (s.extract p.toNat s.size).size < 4611686018427387904 := by
        rw [← lst_length, eu, List.length_drop, hl]
        omega
      obtain ⟨⟨kd, dt, al, tx, kn, u', a, e, f⟩, hev, hR⟩ := read_ev _ hu
      refine Ev.bind (evC (show wire_New.f _ = some (s.extract p.toNat s.size, 0, 0, 0) from rfl)) ?_
      refine Ev.bind hev ?_
      refine Ev.bind (evC (show wire_Reader_Err.f u' a e f = some (e, f, u', a, e, f) from rfl)) ?_
      obtain ⟨r1, r2, r3, r4⟩ := hR
      rw [eu] at r2 r3 r4
      simp only at r1 r2 r3 r4
      by_cases h30 : (decS ((lst s).drop p.toNat)).2.2 = 30
      · have hne : ¬ (decS ((lst s).drop p.toNat)).2.2 = 0 := by omega
        rw [if_neg hne, h30]
        obtain rfl := r2 h30
        exact evNo (by simp) (Ev.now _)
      · obtain ⟨hk, he⟩ := r3 h30
        subst hk
        subst he
        refine evYes rfl ?_
        by_cases h0 : (decS ((lst s).drop p.toNat)).2.2 = 0
        · obtain ⟨h4, h5⟩ := r4 h0
          subst h5
          rw [if_pos h0, ← h4]
          have hb := (decS_back _ h0).2.2.1
          rw [List.length_drop, hl] at hb
          refine evYes (by omega) ?_
          refine Ev.bind (evC (show wire_Reader_At.f u' _ _ f = some (_, u', _, _, f) from rfl)) ?_
          have e1 : wrap64 (p + (((decS ((lst s).drop p.toNat)).2.1 : Nat) : Int)) = p + (((decS ((lst s).drop p.toNat)).2.1 : Nat) : Int) := wrap64_of (by omega) (by omega)
          refine evC ?_
          rw [e1]
        · rw [if_neg h0]
          exact evNo (by omega) (Ev.now _)
end Go.Proofs.Ythechcflnkofgaa.EvB
