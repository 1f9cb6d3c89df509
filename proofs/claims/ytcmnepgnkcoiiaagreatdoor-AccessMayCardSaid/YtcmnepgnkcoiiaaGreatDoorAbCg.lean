/- Titles: the walks, continued. No condition. -/
import Derived.Test.YtcmnepgnkcoiiaaGreatDoorAbCf
namespace Go.Ab
set_option linter.unusedVariables false
set_option linter.unusedSimpArgs false
variable {P : Program} {F T : Nat → Nat}
open Go.Lib
def spaV : V := .agg [.str [], .str [84, 97, 108, 107], .str [85, 115, 101, 114], .str [84, 101, 109, 112, 108, 97, 116, 101], .str [67, 97, 116, 101, 103, 111, 114, 121], .str [80, 114, 111, 106, 101, 99, 116]]
/-- spaces -/
theorem t190 (hf : Is190 P F T) : PTr P (F 190) [] spaV := by
 refine ptrC [] hf (by simp) rfl ?_
 simp only [c190, push_cast, seval, -Nat.reducePow, view]
 rfl
def prefV (s : List UInt8) : V := match colF s with
 | none => .tup [.int .i64 0, .str [], .bool false]
 | some i => if nsF (unbl (s.take i)) 5 1 = 0 then .tup [.int .i64 0, .str [], .bool false] else .tup [.int .i64 (nsF (unbl (s.take i)) 5 1), .str (s.drop (i + 1)), .bool true]
theorem unbl_len (s : List UInt8) : (unbl s).length ≤ s.length := by
 unfold unbl; split
 ·simp
 ·exact Nat.le_refl _
theorem nsF_next (p : List UInt8) (i : Nat) (h : i < 6) : nsF p (6 - i) i = if lowL p = lowL (spaceN i) then i else nsF p (6 - (i + 1)) (i + 1) := by
 obtain ⟨k, hk⟩ : ∃ k, 6 - i = k + 1 := ⟨5 - i, by omega⟩
 have : 6 - (i + 1) = k := by omega
 rw [hk, this, nsF]
theorem spa_pk (i : Nat) (h : i < 6) : pack false (((([.str [], .str [84, 97, 108, 107], .str [85, 115, 101, 114], .str [84, 101, 109, 112, 108, 97, 116, 101], .str [67, 97, 116, 101, 103, 111, 114, 121], .str [80, 114, 111, 106, 101, 99, 116]] : List V).drop (i * 1)).take 1)) = .str (spaceN i) := by
 match i, h with
 | 0, _ => rfl
 | 1, _ => rfl
 | 2, _ => rfl
 | 3, _ => rfl
 | 4, _ => rfl
 | 5, _ => rfl
theorem spa_len (i : Nat) (h : i < 6) : (spaceN i).length ≤ 100000 := by
 match i, h with
 | 0, _ => decide
 | 1, _ => decide
 | 2, _ => decide
 | 3, _ => decide
 | 4, _ => decide
 | 5, _ => decide
/-- prefix -/
theorem t188 (hf : Is188 P F T) (C : TitC P F) (h189 : Is189 P F T) (h190 : Is190 P F T) (s : List UInt8) (hs : s.length ≤ 100000) : PTr P (F 188) [.str s] (prefV s) := by
 have him : (prefV s).imm = true := by
  unfold prefV; split
  ·rfl
  ·split <;> rfl
 refine ptrC [] hf (by simp) him ?_
 have hcut := C.cut s hs
 unfold prefV
 cases hc : colF s with
 | none =>
   rw [hc] at hcut
   simp only [c188, push_cast, seval, -Nat.reducePow]
   refine callK_intro hcut (by simp only [push_cast, seval, -Nat.reducePow]) (by simp only [push_cast, seval, -Nat.reducePow]) ?_
   simp only [push_cast, seval, -Nat.reducePow, view]
 | some k =>
   rw [hc] at hcut
   obtain ⟨p, hp⟩ : ∃ p, s.take k = p := ⟨_, rfl⟩
   have hpl : p.length ≤ 100000 := by rw [← hp, List.length_take]; omega
   obtain ⟨q, hq⟩ : ∃ q, unbl p = q := ⟨_, rfl⟩
   have hql : q.length ≤ 100000 := by rw [← hq]; have := unbl_len p; omega
   have hts := C.tsuf p hpl
   rw [hq] at hts
   simp only [hp, hq] at hcut ⊢
   simp only [c188, push_cast, seval, -Nat.reducePow]
   refine callK_intro hcut (by simp only [push_cast, seval, -Nat.reducePow]) (by simp only [push_cast, seval, -Nat.reducePow]) ?_
   simp only [push_cast, seval, -Nat.reducePow]
   refine callK_intro hts (by simp only [push_cast, seval, -Nat.reducePow]) (by simp only [push_cast, seval, -Nat.reducePow]) ?_
   refine callK_intro (t189 h189 q hql) (by simp only [push_cast, seval, -Nat.reducePow]) (by simp only [push_cast, seval, -Nat.reducePow]) ?_
   refine callK_intro (t190 h190) (by simp only [push_cast, seval, -Nat.reducePow]) rfl ?_
   refine loopK_intro (fun m s1 => ∃ i, i ≤ 6 ∧ m = 6 - i ∧ (i = 0 ∨ nsF q 5 1 = nsF q (6 - i) i) ∧ s1.env 6 = .str (s.drop (k + 1)) ∧ s1.env 8 = .str (lowL q) ∧ s1.env 22 = spaV ∧ s1.env 23 = .int .i64 i) 6 ⟨0, ?_⟩ fun m s1 hJ => ?_
   ·simp only [push_cast, seval, -Nat.reducePow, spaV]
   ·obtain ⟨i, hi, rfl, hn, j6, j8, j22, j23⟩ := hJ
    by_cases h : i < 6
    ·have h' : ((i : Nat) : Int) < 6 := by omega
     have hpk := spa_pk i h
     have hnx := nsF_next q i h
     by_cases h0 : i = 0
     ·have h0' : ((i : Nat) : Int) = 0 := by omega
      simp only [push_cast, seval, -Nat.reducePow, spaV, j6, j8, j22, j23, h', hpk, h0']
      subst h0
      exact ⟨5, by omega, 1, by omega, rfl, Or.inr rfl, rfl⟩
     ·have h0' : ¬ ((i : Nat) : Int) = 0 := by omega
      have hn2 : nsF q 5 1 = nsF q (6 - i) i := by rcases hn with e | e; exact absurd e h0; exact e
      rw [hnx] at hn2
      simp only [push_cast, seval, -Nat.reducePow, spaV, j6, j8, j22, j23, h', hpk, h0']
      refine callK_intro (t189 h189 (spaceN i) (spa_len i h)) (by simp only [push_cast, seval, -Nat.reducePow]) (by simp only [push_cast, seval, -Nat.reducePow]) ?_
      by_cases e : lowL q = lowL (spaceN i)
      ·rw [if_pos e] at hn2
       have hn3 : ¬ nsF q 5 1 = 0 := by omega
       rw [← e, if_neg hn3, hn2]
       simp only [push_cast, seval, -Nat.reducePow, spaV, j6, j8, j22, j23, view]
      ·rw [if_neg e] at hn2
       simp only [push_cast, seval, -Nat.reducePow, spaV, j6, j8, j22, j23, e]
       exact ⟨by omega, 6 - (i + 1), by omega, i + 1, by omega, rfl, Or.inr hn2, by simp⟩
    ·have h' : ¬ ((i : Nat) : Int) < 6 := by omega
     obtain rfl : i = 6 := by omega
     have hn2 : nsF q 5 1 = 0 := by rcases hn with e | e; omega; exact e
     simp only [push_cast, seval, -Nat.reducePow, j6, j8, j22, j23, h', hn2, view]
end Go.Ab
