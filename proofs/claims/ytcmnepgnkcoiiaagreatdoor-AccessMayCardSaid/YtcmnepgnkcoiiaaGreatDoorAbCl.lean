/- Rights: covers, Contains, May. No condition. -/
import Derived.Test.YtcmnepgnkcoiiaaGreatDoorAbCk
namespace Go.Ab
set_option linter.unusedVariables false
set_option linter.unusedSimpArgs false
variable {P : Program} {F T : Nat → Nat}
open Go.Lib
/-- covers -/
theorem t182 (hf : Is182 P F T) (a b : Scp) : PTr P (F 182) [a.v, b.v] (.bool (covB a b)) := by
 refine ptrC [] hf (by simp) rfl ?_
 obtain ⟨k, sp, n⟩ := a
 obtain ⟨k2, sp2, n2⟩ := b
 by_cases h1 : k = k2
 ·subst h1
  by_cases h2 : k = 3
  ·have hc : covB ⟨k, sp, n⟩ ⟨k, sp2, n2⟩ = (decide (sp = sp2) && decide (n = n2)) := by simp [covB, h2]
   rw [hc]
   simp only [c182, push_cast, seval, -Nat.reducePow, Scp.v, h2, view]
  ·by_cases h3 : k = 2
   ·have hc : covB ⟨k, sp, n⟩ ⟨k, sp2, n2⟩ = decide (sp = sp2) := by simp [covB, h3]
    rw [hc]
    simp only [c182, push_cast, seval, -Nat.reducePow, Scp.v, h3, view]
   ·have hc : covB ⟨k, sp, n⟩ ⟨k, sp2, n2⟩ = true := by simp [covB, h2, h3]
    rw [hc]
    simp only [c182, push_cast, seval, -Nat.reducePow, Scp.v, h2, h3, view]
 ·have hc : covB ⟨k, sp, n⟩ ⟨k2, sp2, n2⟩ = false := by simp [covB, h1]
  rw [hc]
  simp only [c182, push_cast, seval, -Nat.reducePow, Scp.v, h1, view]
/-- slices.Index of a text -/
def ixS (l : List (List UInt8)) (x : List UInt8) : Int := match l.findIdx? (· == x) with | none => -1 | some i => i
theorem ixS_has (l : List (List UInt8)) (x : List UInt8) : decide (0 ≤ ixS l x) = l.contains x := by
 unfold ixS
 cases h : l.findIdx? (· == x) with
 | none =>
   rw [List.findIdx?_eq_none_iff] at h
   have : l.contains x = false := by
    cases hb : l.contains x with
    | false => rfl
    | true => have := h x (List.contains_iff_mem.1 hb); simp at this
   rw [this]; rfl
 | some i =>
   rw [List.findIdx?_eq_some_iff_getElem] at h
   obtain ⟨hi, h1, h2⟩ := h
   have : l.contains x = true := List.contains_iff_mem.2 (by rw [← beq_iff_eq.1 h1]; exact List.getElem_mem hi)
   rw [this]; simp
theorem t222 (hf : Is222 P F T) (l : List (List UInt8)) (x : List UInt8) (hl : l.length ≤ 2 ^ 60) : PTr P (F 222) [.lst 1 (l.map .str), .str x] (.int .i64 (ixS l x)) := by
 refine ptrC [] hf (by simp) rfl ?_
 have hln : (l.map V.str).length = l.length := List.length_map ..
 simp only [c222, push_cast, seval, -Nat.reducePow, hln]
 refine loopK_intro (fun m s1 => ∃ i, i ≤ l.length ∧ m = l.length - i ∧ (∀ k, k < i → l.getD k [] ≠ x) ∧ s1.env 0 = .lst 1 (l.map .str) ∧ s1.env 1 = .str x ∧ s1.env 7 = .int .i64 l.length ∧ s1.env 8 = .int .i64 i) l.length ⟨0, ?_⟩ fun m s1 hJ => ?_
 ·simp only [push_cast, seval, -Nat.reducePow]
  exact ⟨rfl, fun k hk => absurd hk (Nat.not_lt_zero _)⟩
 ·obtain ⟨i, hi, rfl, hn, j0, j1, j7, j8⟩ := hJ
  by_cases h : i < l.length
  ·have h' : ((i : Nat) : Int) < ((l.length : Nat) : Int) := by omega
   have hg := getD_str h
   by_cases e : x = l.getD i []
   ·have hix : ixS l x = i := by
     have : l.findIdx? (· == x) = some i := by
      rw [List.findIdx?_eq_some_iff_getElem]
      refine ⟨h, ?_, fun j hj => ?_⟩
      ·simp [e, List.getD, h]
      ·have := hn j hj
       have hjl : j < l.length := by omega
       simpa [List.getD, hjl] using this
     rw [ixS, this]
    simp only [push_cast, seval, -Nat.reducePow, j0, j1, j7, j8, h', hln, hg, e, view]
    rw [← e, hix]
    exact ⟨h, rfl⟩
   ·simp only [push_cast, seval, -Nat.reducePow, j0, j1, j7, j8, h', hln, hg, e]
    refine ⟨h, ⟨by omega, by omega⟩, l.length - (i + 1), by omega, i + 1, by omega, rfl, fun k hk => ?_, by simp⟩
    by_cases hki : k = i
    ·rw [hki]; exact fun q => e q.symm
    ·exact hn k (by omega)
  ·have h' : ¬ ((i : Nat) : Int) < ((l.length : Nat) : Int) := by omega
   obtain rfl : i = l.length := by omega
   have hix : ixS l x = -1 := by
    have : l.findIdx? (· == x) = none := by
     rw [List.findIdx?_eq_none_iff]
     intro y hy
     obtain ⟨j, hj, rfl⟩ := List.mem_iff_getElem.1 hy
     have := hn j hj
     simpa [List.getD, hj] using this
    rw [ixS, this]
   simp only [push_cast, seval, -Nat.reducePow, j0, j1, j7, j8, h', hix, view]
theorem t220 (hf : Is220 P F T) (h222 : Is222 P F T) (l : List (List UInt8)) (x : List UInt8) (hl : l.length ≤ 2 ^ 60) : PTr P (F 220) [.lst 1 (l.map .str), .str x] (.bool (l.contains x)) := by
 refine ptrC [] hf (by simp) rfl ?_
 rw [← ixS_has]
 simp only [c220, push_cast, seval, -Nat.reducePow]
 refine callK_intro (t222 h222 l x hl) (by simp only [push_cast, seval, -Nat.reducePow, imms_str]) (by simp only [push_cast, seval, -Nat.reducePow]) ?_
 simp only [push_cast, seval, -Nat.reducePow, view]
end Go.Ab
