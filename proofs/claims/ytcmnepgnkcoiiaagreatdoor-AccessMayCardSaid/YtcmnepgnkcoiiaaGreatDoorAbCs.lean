/- The example of the chapter on rights. No condition. -/
import Derived.Test.YtcmnepgnkcoiiaaGreatDoorAbCm
namespace Go.Ab
set_option linter.unusedVariables false
set_option linter.unusedSimpArgs false
variable {P : Program} {F T : Nat → Nat}
open Go.Lib
/-- no name: the empty text -/
theorem t191n (hf : Is191 P F T) : PTr P (F 191) [.str []] (.bool false) := by
 refine ptrC [] hf (by simp) rfl ?_
 simp only [c191, push_cast, seval, -Nat.reducePow, view]
set_option maxRecDepth 20000 in
theorem t240n (hf : Is240 P F T) : PTr P (F 240) [.int .u64 1] (.int .i64 1) := by
 refine ptrC [] hf (by simp) rfl ?_
 simp only [c240, push_cast, seval, -Nat.reducePow, view]
 done
theorem t227n (hf : Is227 P F T) (h240 : Is240 P F T) : PTr P (F 227) [.int .u64 1] (.int .i64 1) := by
 refine ptrC [] hf (by simp) rfl ?_
 simp only [c227, push_cast, seval, -Nat.reducePow]
 refine callK_intro (t240n h240) (by simp only [push_cast, seval, -Nat.reducePow]) (by simp only [push_cast, seval, -Nat.reducePow]) ?_
 simp only [push_cast, seval, -Nat.reducePow, view]
/-- nothing to sort -/
theorem t230n (hf : Is230 P F T) (id : Nat) (L : Heap) (nx : Nat) : ECall P (F 230) [.own id 1 0 1, .int .i64 0, .int .i64 1] L nx fun r L' nx' => nx ≤ nx' ∧ ∀ b, b < nx → L' b = L b := by
 refine ecallC [] hf (by simp) ?_
 simp only [c230, push_cast, seval, -Nat.reducePow]
 refine loopK_intro (fun m s1 => s1.env 6 = .int .i64 1 ∧ s1.env 2 = .int .i64 1 ∧ s1.L = L ∧ nx ≤ s1.nx) 0 ?_ fun m s1 hJ => ?_
 ·simp only [push_cast, seval, -Nat.reducePow]
  omega
 ·obtain ⟨j6, j2, jL, jn⟩ := hJ
  simp only [push_cast, seval, -Nat.reducePow, j6, j2, jL]
  exact ⟨by omega, by omega, fun _ _ => trivial⟩
theorem t228n (hf : Is228 P F T) (h230 : Is230 P F T) (id : Nat) (L : Heap) (nx : Nat) : ECall P (F 228) [.own id 1 0 1, .int .i64 0, .int .i64 1, .int .i64 1] L nx fun r L' nx' => nx ≤ nx' ∧ ∀ b, b < nx → L' b = L b := by
 refine ecallC [] hf (by simp) ?_
 simp only [c228, push_cast, seval, -Nat.reducePow]
 refine loopK_intro (fun m s1 => s1.env 0 = .own id 1 0 1 ∧ s1.env 1 = .int .i64 0 ∧ s1.env 2 = .int .i64 1 ∧ s1.L = L ∧ nx ≤ s1.nx) 0 ?_ fun m s1 hJ => ?_
 ·simp only [push_cast, seval, -Nat.reducePow]
  omega
 ·obtain ⟨j0, j1, j2, jL, jn⟩ := hJ
  simp only [push_cast, seval, -Nat.reducePow, j0, j1, j2, jL]
  refine ecallK_intro (t230n h230 id _ _) fun r L1 n1 hp => ?_
  obtain ⟨p1, p2⟩ := hp
  exact ⟨by omega, by omega, fun b hb => p2 b (by omega)⟩
theorem t226n (hf : Is226 P F T) (h227 : Is227 P F T) (h240 : Is240 P F T) (h228 : Is228 P F T) (h230 : Is230 P F T) (id : Nat) (L : Heap) (nx : Nat) : ECall P (F 226) [.own id 1 0 1] L nx fun r L' nx' => nx ≤ nx' ∧ ∀ b, b < nx → L' b = L b := by
 refine ecallC [] hf (by simp) ?_
 simp only [c226, push_cast, seval, -Nat.reducePow]
 refine callK_intro (t227n h227 h240) (by simp only [push_cast, seval, -Nat.reducePow]) (by simp only [push_cast, seval, -Nat.reducePow]) ?_
 simp only [push_cast, seval, -Nat.reducePow]
 refine ecallK_intro (t228n h228 h230 id _ _) fun r L1 n1 hp => ?_
 obtain ⟨p1, p2⟩ := hp
 exact ⟨by omega, by omega, fun b hb => p2 b (by omega)⟩
/-- the groups of nobody, without groups -/
theorem t180n (hf : Is180 P F T) (h191 : Is191 P F T) (h226 : Is226 P F T) (h227 : Is227 P F T) (h240 : Is240 P F T) (h228 : Is228 P F T) (h230 : Is230 P F T) (rv : List V) (hr : V.imms rv = true) :
 PTr P (F 180) [.agg [.nils, .lst 6 rv, .nils], .str []] (.lst 1 [.str [97, 108, 108]]) := by
 refine ptrC [] hf (by simp) rfl ?_
 simp only [c180, push_cast, seval, -Nat.reducePow, hr]
 refine callK_intro (t191n h191) (by simp only [push_cast, seval, -Nat.reducePow]) (by simp only [push_cast, seval, -Nat.reducePow]) ?_
 simp only [push_cast, seval, -Nat.reducePow]
 refine loopK_intro (fun m s1 => m ≤ 1 ∧ s1.env 7 = .bool (decide (m = 1)) ∧ s1.env 2 = .ptr 2 0 ∧ s1.L 2 = some (.box (T 16) [.nils, .lst 6 rv, .nils]) ∧ s1.env 5 = .ptr 47 0 ∧ s1.L 47 = some (.box (T 26) [.own 52 1 0 1]) ∧ s1.L 52 = some (.vec (T 21) 1 [.str [97, 108, 108]]) ∧ 100 ≤ s1.nx) 1 ?_ fun m s1 hJ => ?_
 ·simp only [push_cast, seval, -Nat.reducePow]
  done
 ·obtain ⟨hm, j7, j2, jB, j5, jC, jV, jn⟩ := hJ
  by_cases h : m = 1
  ·subst h
   simp only [push_cast, seval, -Nat.reducePow, j7, j2, jB, j5, jC, jV]
   refine loopK_intro (fun m s2 => s2.env 7 = .bool false ∧ s2.env 20 = .int .i64 0 ∧ s2.env 21 = .int .i64 0 ∧ s2.env 2 = .ptr 2 0 ∧ s2.L 2 = some (.box (T 16) [.nils, .lst 6 rv, .nils]) ∧ s2.env 5 = .ptr 47 0 ∧ s2.L 47 = some (.box (T 26) [.own 52 1 0 1]) ∧ s2.L 52 = some (.vec (T 21) 1 [.str [97, 108, 108]]) ∧ 100 ≤ s2.nx) 0 ?_ fun m s2 hK => ?_
   ·simp only [push_cast, seval, -Nat.reducePow, j7, j2, jB, j5, jC, jV]
    done
   ·obtain ⟨k7, k20, k21, k2, kB, k5, kC, kV, kn⟩ := hK
    simp only [push_cast, seval, -Nat.reducePow, k7, k20, k21, k2, kB, k5, kC, kV]
    exact ⟨0, by omega, by omega, rfl, by omega⟩
  ·have h0 : m = 0 := by omega
   subst h0
   simp only [push_cast, seval, -Nat.reducePow, j7, j2, jB, j5, jC, jV]
   refine ecallK_intro (t226n h226 h227 h240 h228 h230 52 _ _) fun r L1 n1 hp => ?_
   obtain ⟨p1, p2⟩ := hp
   have b1 : L1 47 = some (.box (T 26) [.own 52 1 0 1]) := by rw [p2 47 (by omega)]; exact jC
   have b2 : L1 52 = some (.vec (T 21) 1 [.str [97, 108, 108]]) := by rw [p2 52 (by omega)]; exact jV
   simp only [push_cast, seval, -Nat.reducePow, j5, b1, b2]
   exact view_own1 b2 rfl rfl
/-- a change without guards -/
theorem t179n (hf : Is179 P F T) (rv : List V) (hr : V.imms rv = true) (sp : Int) (s old now : List UInt8) :
 PTr P (F 179) [.agg [.nils, .lst 6 rv, .nils], .nils, ttV sp s, .str old, .str now] (.int .i64 1) := by
 refine ptrC [] hf (by simp) rfl ?_
 simp only [c179, push_cast, seval, -Nat.reducePow, hr, ttV]
 refine loopK_intro (fun m s1 => s1.env 11 = .int .i64 1 ∧ s1.env 16 = .int .i64 0 ∧ s1.env 17 = .int .i64 0) 0 ?_ fun m s1 hJ => ?_
 ·simp only [push_cast, seval, -Nat.reducePow]
 ·obtain ⟨j0, j1, j2⟩ := hJ
  simp only [push_cast, seval, -Nat.reducePow, j0, j1, j2, view]
end Go.Ab
