/- The reference's titles: the walks. No condition. -/
import Derived.Test.YtcmnepgnkcoiiaaGreatDoorAbCl
import Derived.Test.YtcmnepgnkcoiiaaGreatDoorAbCe
import Derived.Test.YtcmnepgnkcoiiaaGreatDoorAbR2
namespace Go.Ab
set_option linter.unusedVariables false
set_option linter.unusedSimpArgs false
variable {P : Program} {F T : Nat → Nat}
open Go.Lib
/-- lower -/
theorem t204 (hf : Is204 P F T) (c : UInt8) : PTr P (F 204) [.int .u8 c.toNat] (.int .u8 (lowB c).toNat) := by
 refine ptrC [] hf (by simp) rfl ?_
 rw [lowB_nat]
 by_cases a1 : 65 ≤ c.toNat
 ·have a1' : (65 : Int) ≤ ((c.toNat : Nat) : Int) := by omega
  by_cases a2 : c.toNat ≤ 90
  ·have a2' : ((c.toNat : Nat) : Int) ≤ 90 := by omega
   rw [if_pos ⟨a1, a2⟩]
   simp only [c204, push_cast, seval, -Nat.reducePow, a1', a2', view]
   exact ⟨⟨by omega, by omega⟩, rfl⟩
  ·have a2' : ¬ ((c.toNat : Nat) : Int) ≤ 90 := by omega
   rw [if_neg (by omega)]
   simp only [c204, push_cast, seval, -Nat.reducePow, a1', a2', view]
 ·have a1' : ¬ (65 : Int) ≤ ((c.toNat : Nat) : Int) := by omega
  rw [if_neg (by omega)]
  simp only [c204, push_cast, seval, -Nat.reducePow, a1', view]
theorem toNat_inj' (a b : UInt8) : ((a.toNat : Nat) : Int) = ((b.toNat : Nat) : Int) ↔ a = b := ⟨fun h => UInt8.toNat_inj.1 (by omega), fun h => by rw [h]⟩
/-- sameLetters -/
theorem t203 (hf : Is203 P F T) (h204 : Is204 P F T) (a b : List UInt8) (ha : a.length ≤ 100000) (hb : b.length ≤ 100000) : PTr P (F 203) [.str a, .str b] (.bool (decide (lowL a = lowL b))) := by
 refine ptrC [] hf (by simp) rfl ?_
 by_cases hl : a.length = b.length
 rotate_left
 ·have hl' : ¬ ((a.length : Nat) : Int) = ((b.length : Nat) : Int) := by omega
  have hd : decide (lowL a = lowL b) = false := decide_eq_false fun e => hl (by have := congrArg List.length e; simpa [lowL] using this)
  simp only [c203, push_cast, seval, -Nat.reducePow, hl', hd, view]
 have hl' : ((a.length : Nat) : Int) = ((b.length : Nat) : Int) := by omega
 simp only [c203, push_cast, seval, -Nat.reducePow, hl']
 refine loopK_intro (fun m s1 => ∃ i, i ≤ a.length ∧ m = a.length - i ∧ decide (lowL a = lowL b) = decide (lowL (a.drop i) = lowL (b.drop i)) ∧ s1.env 0 = .str a ∧ s1.env 1 = .str b ∧ s1.env 5 = .int .i64 i) a.length ⟨0, ?_⟩ fun m s1 hJ => ?_
 ·simp only [push_cast, seval, -Nat.reducePow]
  rfl
 ·obtain ⟨i, hi, rfl, hd, j0, j1, j5⟩ := hJ
  by_cases h : i < a.length
  ·have h2 : i < b.length := by omega
   have h' : ((i : Nat) : Int) < ((a.length : Nat) : Int) := by omega
   obtain ⟨x, hx⟩ : ∃ c, a.getD i 0 = c := ⟨_, rfl⟩
   obtain ⟨y, hy⟩ : ∃ c, b.getD i 0 = c := ⟨_, rfl⟩
   have ea : a.drop i = x :: a.drop (i + 1) := by rw [← hx, List.drop_eq_getElem_cons h]; simp [List.getD, h]
   have eb : b.drop i = y :: b.drop (i + 1) := by rw [← hy, List.drop_eq_getElem_cons h2]; simp [List.getD, h2]
   simp only [push_cast, seval, -Nat.reducePow, j0, j1, j5, h', hx, hy]
   refine ⟨h, callK_intro (t204 h204 x) (by simp only [push_cast, seval, -Nat.reducePow]) (by simp only [push_cast, seval, -Nat.reducePow]) ?_⟩
   simp only [push_cast, seval, -Nat.reducePow, j0, j1, j5, h', hx, hy]
   refine ⟨h2, callK_intro (t204 h204 y) (by simp only [push_cast, seval, -Nat.reducePow]) (by simp only [push_cast, seval, -Nat.reducePow]) ?_⟩
   by_cases e : lowB x = lowB y
   ·have e' : (((lowB x).toNat : Nat) : Int) = (((lowB y).toNat : Nat) : Int) := by rw [e]
    simp only [push_cast, seval, -Nat.reducePow, j0, j1, j5, e']
    refine ⟨⟨by omega, by omega⟩, a.length - (i + 1), by omega, i + 1, by omega, rfl, ?_, by simp⟩
    rw [hd, ea, eb]
    simp [lowL, e]
   ·have e' : ¬ (((lowB x).toNat : Nat) : Int) = (((lowB y).toNat : Nat) : Int) := fun q => e ((toNat_inj' _ _).1 q)
    simp only [push_cast, seval, -Nat.reducePow, j0, j1, j5, e', view]
    rw [hd, ea, eb]
    simp [lowL, e]
  ·have h' : ¬ ((i : Nat) : Int) < ((a.length : Nat) : Int) := by omega
   have ea : a.drop i = [] := List.drop_of_length_le (by omega)
   have eb : b.drop i = [] := List.drop_of_length_le (by omega)
   rw [ea, eb] at hd
   simp only [push_cast, seval, -Nat.reducePow, j0, j1, j5, h', view, hd]
/-- SpaceName -/
theorem t205 (hf : Is205 P F T) (n : Nat) (hn : n < 6) : PTr P (F 205) [.int .i64 n] (.str (spaceN n)) := by
 refine ptrC [] hf (by simp) rfl ?_
 match n, hn with
 | 0, _ => simp only [c205, push_cast, seval, -Nat.reducePow, view]; rfl
 | 1, _ => simp only [c205, push_cast, seval, -Nat.reducePow, view]; rfl
 | 2, _ => simp only [c205, push_cast, seval, -Nat.reducePow, view]; rfl
 | 3, _ => simp only [c205, push_cast, seval, -Nat.reducePow, view]; rfl
 | 4, _ => simp only [c205, push_cast, seval, -Nat.reducePow, view]; rfl
 | 5, _ => simp only [c205, push_cast, seval, -Nat.reducePow, view]; rfl
/-- Has -/
theorem t193 (hf : Is193 P F T) (l : List (List UInt8)) (x : List UInt8) (hl : l.length ≤ 2 ^ 60) : PTr P (F 193) [.lst 1 (l.map .str), .str x] (.bool (l.contains x)) := by
 refine ptrC [] hf (by simp) rfl ?_
 have hln : (l.map V.str).length = l.length := List.length_map ..
 simp only [c193, push_cast, seval, -Nat.reducePow, hln]
 refine loopK_intro (fun m s1 => ∃ i, i ≤ l.length ∧ m = l.length - i ∧ l.contains x = (l.drop i).contains x ∧ s1.env 0 = .lst 1 (l.map .str) ∧ s1.env 1 = .str x ∧ s1.env 5 = .int .i64 i) l.length ⟨0, ?_⟩ fun m s1 hJ => ?_
 ·simp only [push_cast, seval, -Nat.reducePow]
  rfl
 ·obtain ⟨i, hi, rfl, hn, j0, j1, j5⟩ := hJ
  by_cases h : i < l.length
  ·have h' : ((i : Nat) : Int) < ((l.length : Nat) : Int) := by omega
   have hg := getD_str h
   obtain ⟨y, hy⟩ : ∃ y, l.getD i [] = y := ⟨_, rfl⟩
   have el : l.drop i = y :: l.drop (i + 1) := by rw [← hy, List.drop_eq_getElem_cons h]; simp [List.getD, h]
   rw [el] at hn
   rw [hy] at hg
   by_cases e : y = x
   ·simp only [push_cast, seval, -Nat.reducePow, j0, j1, j5, h', hln, hg, e, view]
    rw [hn, e]
    simp
    exact h
   ·simp only [push_cast, seval, -Nat.reducePow, j0, j1, j5, h', hln, hg, e]
    refine ⟨h, ⟨by omega, by omega⟩, l.length - (i + 1), by omega, i + 1, by omega, rfl, ?_, by simp⟩
    rw [hn, List.contains_cons]
    have : (x == y) = false := by rw [beq_eq_false_iff_ne]; exact fun q => e q.symm
    rw [this, Bool.false_or]
  ·have h' : ¬ ((i : Nat) : Int) < ((l.length : Nat) : Int) := by omega
   have el : l.drop i = [] := List.drop_of_length_le (by omega)
   rw [el] at hn
   simp only [push_cast, seval, -Nat.reducePow, j0, j1, j5, h', hln, hn, view]
   rfl
/-- matches -/
theorem t195 (hf : Is195 P F T) (a b : Scp) : PTr P (F 195) [a.v, b.v] (.bool (covB a b)) := by
 refine ptrC [] hf (by simp) rfl ?_
 obtain ⟨k, sp, n⟩ := a
 obtain ⟨k2, sp2, n2⟩ := b
 by_cases h1 : k = k2
 ·subst h1
  by_cases h2 : k = 3
  ·have hc : covB ⟨k, sp, n⟩ ⟨k, sp2, n2⟩ = (decide (sp = sp2) && decide (n = n2)) := by simp [covB, h2]
   rw [hc]
   simp only [c195, push_cast, seval, -Nat.reducePow, Scp.v, h2, view]
  ·by_cases h3 : k = 2
   ·have hc : covB ⟨k, sp, n⟩ ⟨k, sp2, n2⟩ = decide (sp = sp2) := by simp [covB, h3]
    rw [hc]
    simp only [c195, push_cast, seval, -Nat.reducePow, Scp.v, h3, view]
   ·have hc : covB ⟨k, sp, n⟩ ⟨k, sp2, n2⟩ = true := by simp [covB, h2, h3]
    rw [hc]
    simp only [c195, push_cast, seval, -Nat.reducePow, Scp.v, h2, h3, view]
 ·have hc : covB ⟨k, sp, n⟩ ⟨k2, sp2, n2⟩ = false := by simp [covB, h1]
  rw [hc]
  simp only [c195, push_cast, seval, -Nat.reducePow, Scp.v, h1, view]
/-- prefixed -/
def prefW (s : List UInt8) : V := match colF s with
 | none => .tup [.int .i64 0, .int .i64 0]
 | some i => if nsF (unbl (s.take i)) 5 1 = 0 then .tup [.int .i64 0, .int .i64 0] else .tup [.int .i64 (nsF (unbl (s.take i)) 5 1), .int .i64 i]
theorem prefW_ex (s : List UInt8) : ∃ y, prefW s = .tup [.int .i64 (prefF s), .int .i64 y] := by
 unfold prefW prefF
 cases colF s with
 | none => exact ⟨_, rfl⟩
 | some i =>
   simp only
   by_cases h : nsF (unbl (s.take i)) 5 1 = 0
   ·rw [if_pos h, h]; exact ⟨_, rfl⟩
   ·rw [if_neg h]; exact ⟨_, rfl⟩
theorem t202 (hf : Is202 P F T) (h102 : Is102 P F T) (h203 : Is203 P F T) (h204 : Is204 P F T) (h205 : Is205 P F T) (s : List UInt8) (hs : s.length ≤ 8000) : PTr P (F 202) [.str s] (prefW s) := by
 have him : (prefW s).imm = true := by
  unfold prefW; split
  ·rfl
  ·split <;> rfl
 refine ptrC [] hf (by simp) him ?_
 have hix := t102 h102 s [58] 0 (by omega) (by omega) (by simp) (by simp)
 rw [idxF_one] at hix
 unfold prefW colF
 cases hc : s.findIdx? (· == 58) with
 | none =>
   simp only [List.drop_zero, hc, Option.map_none] at hix
   simp only [c202, push_cast, seval, -Nat.reducePow]
   refine callK_intro hix (by simp only [push_cast, seval, -Nat.reducePow]) (by simp only [push_cast, seval, -Nat.reducePow]) ?_
   simp only [push_cast, seval, -Nat.reducePow, view]
 | some k =>
   simp only [List.drop_zero, hc, Option.map_some, Nat.add_zero] at hix
   obtain ⟨hks, -⟩ := List.findIdx?_eq_some_iff_getElem.1 hc
   obtain ⟨p, hp⟩ : ∃ p, s.take k = p := ⟨_, rfl⟩
   have hpl : p.length ≤ 8000 := by rw [← hp, List.length_take]; omega
   obtain ⟨q, hq⟩ : ∃ q, unbl p = q := ⟨_, rfl⟩
   have hql : q.length ≤ 8000 := by rw [← hq]; have := unbl_len p; omega
   simp only [hp, hq] at hix ⊢
   simp only [c202, push_cast, seval, -Nat.reducePow]
   have hk0 : ¬ ((k : Nat) : Int) < 0 := by omega
   refine callK_intro hix (by simp only [push_cast, seval, -Nat.reducePow]) (by simp only [push_cast, seval, -Nat.reducePow]) ?_
   simp only [push_cast, seval, -Nat.reducePow, hk0, hp]
   refine ⟨by omega, cutK_intro (fun s1 => s1.env 4 = .int .i64 k ∧ s1.env 5 = .str q) ?_ fun s1 hM => ?_⟩
   ·rcases List.eq_nil_or_concat p with rfl | ⟨u, x, rfl⟩
    ·have : q = [] := by rw [← hq]; rfl
     subst this
     simp only [push_cast, seval, -Nat.reducePow]
     done
    ·have hpl2 : (u.concat x).length = u.length + 1 := by simp
     have hpos : (0 : Int) < ((u.length : Nat) : Int) + 1 := by omega
     have hsb : ((u.length : Nat) : Int) + 1 - 1 = ((u.length : Nat) : Int) := by omega
     have hgx : (u.concat x).getD u.length 0 = x := by simp [List.getD]
     have htu : (u.concat x).take u.length = u := by simp
     by_cases hx : x.toNat = 32
     ·have hx' : ((x.toNat : Nat) : Int) = 32 := by omega
      have : q = u := by rw [← hq, (eq32 x).2 hx]; simp [unbl]
      subst this
      simp only [push_cast, seval, -Nat.reducePow, hpl2, hpos, hsb, hgx, hx', htu]
      exact ⟨⟨by omega, by omega⟩, by omega, ⟨by omega, by omega⟩, by omega⟩
     ·have hx' : ¬ ((x.toNat : Nat) : Int) = 32 := by omega
      have hx2 : ¬ x = 32 := fun e => hx ((eq32 x).1 e)
      have : q = u.concat x := by rw [← hq]; simp [unbl, hx2]
      subst this
      simp only [push_cast, seval, -Nat.reducePow, hpl2, hpos, hsb, hgx, hx']
      exact ⟨⟨by omega, by omega⟩, by omega⟩
   ·obtain ⟨j4, j5⟩ := hM
    simp only [push_cast, seval, -Nat.reducePow, j4, j5]
    refine loopK_intro (fun m s1 => ∃ i, i ≤ 6 ∧ 1 ≤ i ∧ m = 6 - i ∧ nsF q 5 1 = nsF q (6 - i) i ∧ s1.env 4 = .int .i64 k ∧ s1.env 5 = .str q ∧ s1.env 6 = .int .i64 i) 5 ⟨1, ?_⟩ fun m s1 hJ => ?_
    ·simp only [push_cast, seval, -Nat.reducePow, j4, j5]
    ·obtain ⟨i, hi, hi1, rfl, hn2, j4, j5, j6⟩ := hJ
     by_cases h : i < 6
     ·have h' : ((i : Nat) : Int) < 6 := by omega
      have hnx := nsF_next q i h
      rw [hnx] at hn2
      simp only [push_cast, seval, -Nat.reducePow, j4, j5, j6, h']
      refine callK_intro (t205 h205 i h) (by simp only [push_cast, seval, -Nat.reducePow]) (by simp only [push_cast, seval, -Nat.reducePow]) ?_
      simp only [push_cast, seval, -Nat.reducePow, j4, j5, j6]
      refine callK_intro (t203 h203 h204 q (spaceN i) (by omega) (spa_len i h)) (by simp only [push_cast, seval, -Nat.reducePow]) (by simp only [push_cast, seval, -Nat.reducePow]) ?_
      by_cases e : lowL q = lowL (spaceN i)
      ·rw [if_pos e] at hn2
       have hn3 : ¬ nsF q 5 1 = 0 := by omega
       rw [if_neg hn3, hn2]
       simp only [push_cast, seval, -Nat.reducePow, j4, j5, j6, e, view]
      ·rw [if_neg e] at hn2
       simp only [push_cast, seval, -Nat.reducePow, j4, j5, j6, e]
       exact ⟨by omega, 6 - (i + 1), by omega, i + 1, by omega, by omega, rfl, hn2, by simp⟩
     ·have h' : ¬ ((i : Nat) : Int) < 6 := by omega
      obtain rfl : i = 6 := by omega
      have hn3 : nsF q 5 1 = 0 := by rw [hn2]; rfl
      simp only [push_cast, seval, -Nat.reducePow, j4, j5, j6, h', hn3, view]
end Go.Ab
