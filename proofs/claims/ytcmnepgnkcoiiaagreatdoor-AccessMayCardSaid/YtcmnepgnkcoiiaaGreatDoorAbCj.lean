/- Titles: the levels. No condition. -/
import Derived.Test.YtcmnepgnkcoiiaaGreatDoorAbCi
namespace Go.Ab
set_option linter.unusedVariables false
set_option linter.unusedSimpArgs false
variable {P : Program} {F T : Nat → Nat}
open Go.Lib
theorem ancV_at (sp : Int) {l : List (List UInt8)} {i : Nat} (h : i < l.length) : (ancV sp l).getD i .junk = .agg [.int .i64 sp, .str (l.getD i [])] := by simp [ancV, List.getD, h]
theorem ancV_set (sp : Int) (l : List (List UInt8)) (i : Nat) (x : List UInt8) : (ancV sp l).set i (.agg [.int .i64 sp, .str x]) = ancV sp (l.set i x) := by simp [ancV, List.map_set]
theorem getD_set (l : List (List UInt8)) (i k : Nat) (x : List UInt8) : (l.set i x).getD k [] = if i = k ∧ k < l.length then x else l.getD k [] := by
 simp only [List.getD, List.getElem?_set]
 by_cases h : i = k
 ·subst h
  by_cases h2 : i < l.length
  ·simp [h2]
  ·simp [h2]
 ·simp [h]
theorem list_ext_getD {l l' : List (List UInt8)} (h : l.length = l'.length) (h2 : ∀ k, k < l.length → l.getD k [] = l'.getD k []) : l = l' := by
 refine List.ext_getElem h fun k h3 h4 => ?_
 have := h2 k h3
 simpa [List.getD, h3, h4] using this
/-- slices.Reverse of titles -/
theorem t229 (hf : Is229 P F T) (sp : Int) (l : List (List UInt8)) (hl : l.length ≤ 100000) (L : Heap) (nx id : Nat) (hid : id < nx) (hL : L id = some (.vec (T 17) 2 (ancV sp l))) :
 ECall P (F 229) [.own id 2 0 l.length] L nx fun _ L' nx' => nx ≤ nx' ∧ L' id = some (.vec (T 17) 2 (ancV sp l.reverse)) ∧ ∀ b, b < nx → b ≠ id → L' b = L b := by
 refine ecallC [] hf (by simp) ?_
 simp only [c229, push_cast, seval, -Nat.reducePow]
 refine ⟨by omega, ?_⟩
 refine loopK_intro (fun m s1 => ∃ i q, 2 * i ≤ l.length + 1 ∧ m = l.length - i ∧ s1.env 0 = .own id 2 0 l.length ∧ s1.env 2 = .int .i64 i ∧ s1.env 3 = .int .i64 ((l.length : Int) - 1 - i) ∧ nx ≤ s1.nx ∧ q.length = l.length ∧ s1.L id = some (.vec (T 17) 2 (ancV sp q)) ∧ (∀ k, k < l.length → q.getD k [] = if k < i ∨ l.length - i ≤ k then l.getD (l.length - 1 - k) [] else l.getD k []) ∧ ∀ b, b < nx → b ≠ id → s1.L b = L b) l.length ⟨0, l, ?_⟩ fun m s1 hJ => ?_
 ·simp only [push_cast, seval, -Nat.reducePow]
  refine ⟨rfl, by simp, by omega, hL, fun k hk => ?_, fun b _ _ => trivial⟩
  rw [if_neg (by omega)]
 ·obtain ⟨i, q, hi, rfl, j0, j2, j3, jn, hq, jO, hk, jL⟩ := hJ
  have hal : (ancV sp q).length = l.length := by rw [ancV_len, hq]
  by_cases h : 2 * i + 1 < l.length
  ·have h' : ((i : Nat) : Int) < (l.length : Int) - 1 - i := by omega
   obtain ⟨j, hj⟩ : ∃ j, j = l.length - 1 - i := ⟨_, rfl⟩
   have hj' : (l.length : Int) - 1 - i = ((j : Nat) : Int) := by omega
   rw [hj'] at j3 h'
   have ga := ancV_at sp (l := q) (i := i) (by omega)
   have gb := ancV_at sp (l := q) (i := j) (by omega)
   simp only [push_cast, seval, -Nat.reducePow, j0, j2, j3, jO, h', hal, ga, gb]
   rw [ancV_set]
   have gc := ancV_at sp (l := q.set i (q.getD j [])) (i := j) (by rw [List.length_set]; omega)
   rw [gc]
   have hrc : ∀ x y : List UInt8, ((V.agg [V.int IntKind.i64 sp, V.str x]).recell (V.int IntKind.i64 sp :: V.str y :: List.drop 2 (V.agg [V.int IntKind.i64 sp, V.str x]).cells)) = V.agg [V.int IntKind.i64 sp, V.str y] := fun _ _ => rfl
   rw [hrc, ancV_set]
   refine ⟨by omega, by omega, by omega, by omega, by omega, by omega, by omega, by rw [ancV_len, List.length_set]; omega, ⟨by omega, by omega⟩, ⟨by omega, by omega⟩, l.length - (i + 1), by omega, i + 1, (q.set i (q.getD j [])).set j (q.getD i []), by omega, rfl, by simp, ?_, by omega, by simp [hq], rfl, fun k hkn => ?_, fun b hb hbi => ?_⟩
   ·congr 1; omega
   ·rw [getD_set, getD_set, List.length_set, hq]
    have ki := hk i (by omega)
    have kj := hk j (by omega)
    have kk := hk k hkn
    rw [if_neg (by omega)] at ki kj
    by_cases e1 : j = k
    ·subst e1
     rw [if_pos ⟨rfl, hkn⟩, if_pos (by omega), ki]
     congr 1; omega
    ·by_cases e2 : i = k
     ·subst e2
      rw [if_neg (by omega), if_pos ⟨rfl, hkn⟩, if_pos (by omega), kj]
      congr 1
     ·rw [if_neg (by omega), if_neg (by omega), kk]
      by_cases e3 : k < i ∨ l.length - i ≤ k
      ·rw [if_pos e3, if_pos (by omega)]
      ·rw [if_neg e3, if_neg (by omega)]
   ·rw [upd_ne _ _ _ _ hbi, upd_ne _ _ _ _ hbi]; exact jL b hb hbi
  ·have h' : ¬ ((i : Nat) : Int) < (l.length : Int) - 1 - i := by omega
   simp only [push_cast, seval, -Nat.reducePow, j0, j2, j3, jO, h', hal]
   have hqr : q = l.reverse := by
    refine list_ext_getD (by rw [List.length_reverse, hq]) fun k hkn => ?_
    rw [hk k (by omega)]
    have er : l.reverse.getD k [] = l.getD (l.length - 1 - k) [] := by
     simp only [List.getD]
     rw [List.getElem?_reverse (by omega)]
    rw [er]
    by_cases e3 : k < i ∨ l.length - i ≤ k
    ·rw [if_pos e3]
    ·rw [if_neg e3]
     congr 1; omega
   rw [hqr]
   exact ⟨by omega, by omega, rfl, jL⟩
end Go.Ab
