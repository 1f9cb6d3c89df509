/- Titles: is a title valid. No condition. -/
import Derived.Test.YtcmnepgnkcoiiaaGreatDoorAbCg
import Derived.Test.YtcmnepgnkcoiiaaGreatDoorAbCd
namespace Go.Ab
set_option linter.unusedVariables false
set_option linter.unusedSimpArgs false
variable {P : Program} {F T : Nat → Nat}
open Go.Lib
def ttV (sp : Int) (s : List UInt8) : V := .agg [.int .i64 sp, .str s]
theorem getD_str {l : List (List UInt8)} {i : Nat} (h : i < l.length) : (l.map V.str).getD i .junk = .str (l.getD i []) := by simp [List.getD, h]
theorem imms_str (l : List (List UInt8)) : V.imms (l.map V.str) = true := imms_map _ _ fun t => rfl
theorem all_drop {α : Type} (f : α → Bool) (d : α) {l : List α} {i : Nat} (h : i < l.length) : (l.drop i).all f = (f (l.getD i d) && (l.drop (i + 1)).all f) := by
 have e1 : l.getD i d = l[i] := by simp [List.getD, h]
 rw [List.drop_eq_getElem_cons h, e1]; rfl
theorem piece_num : ∀ s : List UInt8, (pieceF s).length ≤ s.length + 1
 | [] => by simp [pieceF]
 | x :: r => by
   have ih := piece_num r
   simp only [pieceF]
   split
   ·simp; omega
   ·simp; omega
theorem prefV_ex (s : List UInt8) : ∃ x y, prefV s = .tup [x, .str y, .bool (!decide (prefF s = 0))] ∧ x = .int .i64 (prefF s) := by
 unfold prefV prefF
 cases colF s with
 | none => exact ⟨_, _, rfl, rfl⟩
 | some i =>
   simp only
   by_cases h : nsF (unbl (s.take i)) 5 1 = 0
   ·have e : decide (nsF (unbl (s.take i)) 5 1 = 0) = true := decide_eq_true h
    rw [if_pos h, e]; refine ⟨_, _, rfl, ?_⟩; rw [h]; rfl
   ·have e : decide (nsF (unbl (s.take i)) 5 1 = 0) = false := decide_eq_false h
    rw [if_neg h, e]; exact ⟨_, _, rfl, rfl⟩
/-- Title.Valid -/
theorem t185 (hf : Is185 P F T) (C : TitC P F) (h187 : Is187 P F T) (h188 : Is188 P F T) (h189 : Is189 P F T) (h190 : Is190 P F T) (sp : Int) (s : List UInt8) (hs : s.length ≤ 100000) : PTr P (F 185) [ttV sp s] (.bool (validF sp s)) := by
 refine ptrC [] hf (by simp) rfl ?_
 by_cases a1 : sp < 0
 ·have d1 : ¬ 0 ≤ sp := by omega
  simp only [c185, ttV, push_cast, seval, -Nat.reducePow, a1, view, validF, d1, Bool.false_and]
 by_cases a2 : 6 ≤ sp
 ·have d2 : ¬ sp < 6 := by omega
  simp only [c185, ttV, push_cast, seval, -Nat.reducePow, a1, a2, view, validF, d2, Bool.false_and, Bool.and_false]
 by_cases a3 : s.length < 1
 ·have d3 : ¬ 1 ≤ s.length := by omega
  have a3' : ((s.length : Nat) : Int) < 1 := by omega
  simp only [c185, ttV, push_cast, seval, -Nat.reducePow, a1, a2, a3', view, validF, d3, Bool.false_and, Bool.and_false]
 have a3' : ¬ ((s.length : Nat) : Int) < 1 := by omega
 by_cases a4 : 100 < s.length
 ·have d4 : ¬ s.length ≤ 100 := by omega
  have a4' : (100 : Int) < ((s.length : Nat) : Int) := by omega
  simp only [c185, ttV, push_cast, seval, -Nat.reducePow, a1, a2, a3', a4', view, validF, d4, Bool.false_and, Bool.and_false]
 have a4' : ¬ (100 : Int) < ((s.length : Nat) : Int) := by omega
 have e0 : validF sp s = (cleanF false s && (pieceF s).all goodP && !headB s && (!decide (sp = 0) || decide (prefF s = 0))) := by
  have d1 : 0 ≤ sp := by omega
  have d2 : sp < 6 := by omega
  have d3 : 1 ≤ s.length := by omega
  have d4 : s.length ≤ 100 := by omega
  simp [validF, d1, d2, d3, d4]
 rw [e0]
 simp only [c185, ttV, push_cast, seval, -Nat.reducePow, a1, a2, a3', a4']
 refine callK_intro (t187 h187 C s hs) (by simp only [push_cast, seval, -Nat.reducePow]) (by simp only [push_cast, seval, -Nat.reducePow]) ?_
 cases hcl : cleanF false s with
 | false => simp only [push_cast, seval, -Nat.reducePow, view, Bool.false_and]
 | true =>
   simp only [push_cast, seval, -Nat.reducePow]
   have him := imms_str (pieceF s)
   have hln : ((pieceF s).map V.str).length = (pieceF s).length := List.length_map ..
   refine callK_intro (C.split s hs) (by simp only [push_cast, seval, -Nat.reducePow]) (by simp only [push_cast, seval, -Nat.reducePow, him]) ?_
   simp only [push_cast, seval, -Nat.reducePow, hln]
   refine loopK_intro (fun m s1 => ∃ i, i ≤ (pieceF s).length ∧ m = (pieceF s).length - i ∧ (pieceF s).all goodP = ((pieceF s).drop i).all goodP ∧ s1.env 1 = .ptr 1 0 ∧ s1.env 3 = .str s ∧ s1.env 35 = .lst 1 ((pieceF s).map V.str) ∧ s1.env 36 = .int .i64 (pieceF s).length ∧ s1.env 37 = .int .i64 i ∧ s1.L 1 = some (.box (T 17) [.int .i64 sp, .str s])) (pieceF s).length ⟨0, ?_⟩ fun m s1 hJ => ?_
   ·simp only [push_cast, seval, -Nat.reducePow]
    rfl
   ·obtain ⟨i, hi, rfl, hn, j1, j3, j35, j36, j37, jL⟩ := hJ
    by_cases h : i < (pieceF s).length
    ·have h' : ((i : Nat) : Int) < (((pieceF s).length : Nat) : Int) := by omega
     have hg := getD_str h
     have hpn := piece_num s
     rw [all_drop goodP [] h] at hn
     obtain ⟨p, hp⟩ : ∃ p, (pieceF s).getD i [] = p := ⟨_, rfl⟩
     have hpl : p.length ≤ s.length := by
      have : p ∈ pieceF s := by rw [← hp]; simp [List.getD, h]
      exact piece_len p this
     rw [hp] at hg hn
     by_cases b1 : p = []
     ·have hgo : goodP p = false := by rw [b1]; rfl
      rw [hgo, Bool.false_and] at hn
      simp only [push_cast, seval, -Nat.reducePow, j1, j3, j35, j36, j37, jL, h', hln, hg, b1, view, hn, Bool.false_and]
      exact h
     ·have b1p : 0 < p.length := List.length_pos_iff.2 b1
      obtain ⟨c, hc⟩ : ∃ c, p.getD 0 0 = c := ⟨_, rfl⟩
      obtain ⟨d, hd⟩ : ∃ d, p.getD (p.length - 1) 0 = d := ⟨_, rfl⟩
      have hd2 : (((p.length : Nat) : Int) - 1).toNat = p.length - 1 := by omega
      have hgo : goodP p = (!decide (c = 32) && !decide (d = 32)) := by simp only [goodP, b1, hc, hd, decide_false, Bool.not_false, Bool.true_and]
      by_cases b2 : c.toNat = 32
      ·have b2' : ((c.toNat : Nat) : Int) = 32 := by omega
       rw [decide_eq_true ((eq32 c).2 b2), Bool.not_true, Bool.false_and] at hgo
       rw [hgo, Bool.false_and] at hn
       simp only [push_cast, seval, -Nat.reducePow, j1, j3, j35, j36, j37, jL, h', hln, hg, b1, hc, b2', view, hn, Bool.false_and]
       exact ⟨h, b1p⟩
      ·have b2' : ¬ ((c.toNat : Nat) : Int) = 32 := by omega
       rw [decide_eq_false (fun e => b2 ((eq32 c).1 e)), Bool.not_false, Bool.true_and] at hgo
       by_cases b3 : d.toNat = 32
       ·have b3' : ((d.toNat : Nat) : Int) = 32 := by omega
        rw [decide_eq_true ((eq32 d).2 b3), Bool.not_true] at hgo
        rw [hgo, Bool.false_and] at hn
        simp only [push_cast, seval, -Nat.reducePow, j1, j3, j35, j36, j37, jL, h', hln, hg, b1, hc, b2', hd2, hd, b3', view, hn, Bool.false_and]
        exact ⟨h, b1p, ⟨by omega, by omega⟩, by omega, by omega⟩
       ·have b3' : ¬ ((d.toNat : Nat) : Int) = 32 := by omega
        rw [decide_eq_false (fun e => b3 ((eq32 d).1 e)), Bool.not_false] at hgo
        rw [hgo, Bool.true_and] at hn
        simp only [push_cast, seval, -Nat.reducePow, j1, j3, j35, j36, j37, jL, h', hln, hg, b1, hc, b2', hd2, hd, b3']
        exact ⟨h, b1p, ⟨by omega, by omega⟩, by omega, by omega, ⟨by omega, by omega⟩, (pieceF s).length - (i + 1), by omega, i + 1, by omega, rfl, hn, by simp⟩
    ·have h' : ¬ ((i : Nat) : Int) < (((pieceF s).length : Nat) : Int) := by omega
     obtain rfl : i = (pieceF s).length := by omega
     simp only [List.drop_length, List.all_nil] at hn
     rw [hn]
     have a3p : 0 < s.length := by omega
     obtain ⟨c, hc⟩ : ∃ c, s.getD 0 0 = c := ⟨_, rfl⟩
     have hhd : headB s = (decide (c.toNat = 58) || (decide (97 ≤ c.toNat) && decide (c.toNat ≤ 122))) := by rw [headB, hc]
     by_cases b1 : c.toNat = 58
     ·have b1' : ((c.toNat : Nat) : Int) = 58 := by omega
      have hh : headB s = true := by rw [hhd, decide_eq_true b1]; rfl
      simp only [push_cast, seval, -Nat.reducePow, j1, j3, j35, j36, j37, jL, h', hc, b1', hh, view, Bool.not_true, Bool.and_false, Bool.false_and]
      exact a3p
     ·have b1' : ¬ ((c.toNat : Nat) : Int) = 58 := by omega
      by_cases b2 : 97 ≤ c.toNat ∧ c.toNat ≤ 122
      ·have b2' : (97 : Int) ≤ ((c.toNat : Nat) : Int) := by omega
       have b3' : ((c.toNat : Nat) : Int) ≤ 122 := by omega
       have hh : headB s = true := by rw [hhd, decide_eq_true b2.1, decide_eq_true b2.2, Bool.and_true, Bool.or_true]
       simp only [push_cast, seval, -Nat.reducePow, j1, j3, j35, j36, j37, jL, h', hc, b1', b2', b3', hh, view, Bool.not_true, Bool.and_false, Bool.false_and]
       exact ⟨a3p, a3p, a3p⟩
      ·have hh : headB s = false := by
        rw [hhd, decide_eq_false b1, Bool.false_or]
        by_cases e : 97 ≤ c.toNat
        ·rw [decide_eq_false (fun e2 => b2 ⟨e, e2⟩), Bool.and_false]
        ·rw [decide_eq_false e, Bool.false_and]
       rw [hh]
       have hpre := t188 h188 C h189 h190 s hs
       obtain ⟨x, y, hpv, rfl⟩ := prefV_ex s
       rw [hpv] at hpre
       by_cases e : 97 ≤ c.toNat
       ·have b2' : (97 : Int) ≤ ((c.toNat : Nat) : Int) := by omega
        have b3' : ¬ ((c.toNat : Nat) : Int) ≤ 122 := by omega
        simp only [push_cast, seval, -Nat.reducePow, j1, j3, j35, j36, j37, jL, h', hc, b1', b2', b3']
        refine ⟨a3p, a3p, a3p, ?_⟩
        refine callK_intro hpre (by simp only [push_cast, seval, -Nat.reducePow]) (by simp only [push_cast, seval, -Nat.reducePow]) ?_
        by_cases e5 : sp = 0
        ·simp only [push_cast, seval, -Nat.reducePow, j1, j3, j35, j36, j37, jL, e5, view, Bool.not_true, Bool.not_false, Bool.true_or, Bool.false_or, Bool.not_not]
        ·simp only [push_cast, seval, -Nat.reducePow, j1, j3, j35, j36, j37, jL, e5, view, Bool.not_true, Bool.not_false, Bool.true_or, Bool.false_or, Bool.not_not]
       ·have b2' : ¬ (97 : Int) ≤ ((c.toNat : Nat) : Int) := by omega
        simp only [push_cast, seval, -Nat.reducePow, j1, j3, j35, j36, j37, jL, h', hc, b1', b2']
        refine ⟨a3p, a3p, ?_⟩
        refine callK_intro hpre (by simp only [push_cast, seval, -Nat.reducePow]) (by simp only [push_cast, seval, -Nat.reducePow]) ?_
        by_cases e5 : sp = 0
        ·simp only [push_cast, seval, -Nat.reducePow, j1, j3, j35, j36, j37, jL, e5, view, Bool.not_true, Bool.not_false, Bool.true_or, Bool.false_or, Bool.not_not]
        ·simp only [push_cast, seval, -Nat.reducePow, j1, j3, j35, j36, j37, jL, e5, view, Bool.not_true, Bool.not_false, Bool.true_or, Bool.false_or, Bool.not_not]
end Go.Ab
