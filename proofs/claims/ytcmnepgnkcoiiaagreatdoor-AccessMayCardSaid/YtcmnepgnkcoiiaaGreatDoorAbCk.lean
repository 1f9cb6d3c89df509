/- Rights: the levels of a title. No condition. -/
import Derived.Test.YtcmnepgnkcoiiaaGreatDoorAbCj
import Derived.Test.YtcmnepgnkcoiiaaGreatDoorAbZ1
namespace Go.Ab
set_option linter.unusedVariables false
set_option linter.unusedSimpArgs false
variable {P : Program} {F T : Nat → Nat}
open Go.Lib
theorem scV_imm (l : List Scp) : V.imms (scV l) = true := imms_map _ _ fun q => rfl
theorem scV_len (l : List Scp) : (scV l).length = l.length := List.length_map ..
theorem scV_snoc (l : List Scp) (x : Scp) : scV l ++ [.agg [.int .i64 x.k, .int .i64 x.sp, .str x.n]] = scV (l ++ [x]) := by simp [scV, Scp.v]
def pgS (sp : Int) (q : List UInt8) : Scp := ⟨3, sp, q⟩
/-- levels -/
theorem t181 (hf : Is181 P F T) (h186 : Is186 P F T) (h229 : Is229 P F T) {sp : Int} {s : List UInt8} (h185 : PTr P (F 185) [ttV sp s] (.bool true)) (hs : s.length ≤ 90000) :
 PTr P (F 181) [ttV sp s] (.lst 3 (scV (levF sp s))) := by
 refine ptrC [] hf (by simp) (by simp [V.imm, scV_imm]) ?_
 obtain ⟨A, hA⟩ : ∃ A, anc sp s s.length = A := ⟨_, rfl⟩
 have hAl : A.length ≤ 90000 := by have := anc_len sp s s.length; rw [hA] at this; omega
 have hlev : levF sp s = pgS sp s :: (A.reverse.map (pgS sp)) ++ [⟨2, sp, []⟩, ⟨1, 0, []⟩] := by rw [levF, hA]; rfl
 simp only [c181, push_cast, seval, -Nat.reducePow, ttV]
 refine ecallK_intro (t186 h186 h185 (by omega) _ _) fun r L1 n1 hp => ?_
 rw [hA] at hp
 obtain ⟨hn, ⟨id, hi1, hi2, rfl, hI⟩, hL⟩ := hp
 rw [ancV_len] at *
 refine ecallK_intro (t229 h229 sp A (by omega) _ _ id (by omega) hI) fun r L2 n2 hp => ?_
 obtain ⟨hn2, hI2, hL2⟩ := hp
 simp only [push_cast, seval, -Nat.reducePow]
 have b1 : L2 1 = some (.box (T 17) [.int .i64 sp, .str s]) := by
  rw [hL2 1 (by omega) (by omega), hL 1 (by omega)]; rfl
 have b43 : L2 43 = some (.vec (T 18) 3 (scV [pgS sp s])) := by
  rw [hL2 43 (by omega) (by omega), hL 43 (by omega)]; rfl
 have hRl : A.reverse.length = A.length := List.length_reverse
 generalize A.reverse = R at *
 refine loopK_intro (fun m s1 => ∃ i id3, i ≤ A.length ∧ m = A.length - i ∧ s1.env 1 = .ptr 1 0 ∧ s1.L 1 = some (.box (T 17) [.int .i64 sp, .str s]) ∧ s1.env 14 = .own id 2 0 A.length ∧ s1.L id = some (.vec (T 17) 2 (ancV sp R)) ∧ s1.env 15 = .int .i64 A.length ∧ s1.env 16 = .int .i64 i ∧ s1.env 3 = .own id3 3 0 (i + 1) ∧ s1.L id3 = some (.vec (T 18) 3 (scV (pgS sp s :: (R.take i).map (pgS sp)))) ∧ id3 < s1.nx ∧ id < s1.nx ∧ id3 ≠ id ∧ id3 ≠ 1 ∧ id ≠ 1 ∧ 2 ≤ s1.nx) A.length ⟨0, 43, ?_⟩ fun m s1 hJ => ?_
 ·simp only [push_cast, seval, -Nat.reducePow]
  exact ⟨rfl, b1, hI2, b43, by omega, by omega, by omega, by omega⟩
 ·obtain ⟨i, id3, hi, rfl, j1, jB, j14, jI, j15, j16, j3, jO, k1, k2, k3, k4, k5, k6⟩ := hJ
  have hsl : (scV (pgS sp s :: (R.take i).map (pgS sp))).length = i + 1 := by rw [scV_len]; simp; omega
  have htk : List.take (i + 1) (scV (pgS sp s :: (R.take i).map (pgS sp))) = scV (pgS sp s :: (R.take i).map (pgS sp)) := List.take_of_length_le (by omega)
  have hal : (ancV sp R).length = A.length := by rw [ancV_len, hRl]
  by_cases h : i < A.length
  ·have h' : ((i : Nat) : Int) < ((A.length : Nat) : Int) := by omega
   have hg := ancV_at sp (l := R) (i := i) (by omega)
   have q1 : id3 ≠ s1.nx + 40 := by omega
   simp only [push_cast, seval, -Nat.reducePow, j1, jB, j14, jI, j15, j16, j3, jO, h', hsl, htk, hal, hg, q1]
   have hs3 := scV_snoc (pgS sp s :: (R.take i).map (pgS sp)) (pgS sp (R.getD i []))
   have hs4 : pgS sp s :: (R.take i).map (pgS sp) ++ [pgS sp (R.getD i [])] = pgS sp s :: (R.take (i + 1)).map (pgS sp) := by
    have hiR : i < R.length := by omega
    have er : R.getD i [] = R[i] := by simp [List.getD, hiR]
    rw [er, List.cons_append, ← List.take_concat_get (h := hiR), List.concat_eq_append, List.map_append]
    rfl
   rw [hs4] at hs3
   simp only [pgS] at hs3 ⊢
   rw [hs3]
   refine ⟨by omega, by omega, by omega, ⟨by omega, by omega⟩, A.length - (i + 1), by omega, i + 1, s1.nx + 92, by omega, rfl, ?_, ?_, by simp, rfl, upd_same _ _ _, by omega, by omega, by omega, by omega, by omega⟩
   ·repeat rw [upd_ne _ _ _ _ (by omega)]
    exact jB
   ·repeat rw [upd_ne _ _ _ _ (by omega)]
    exact jI
  ·have h' : ¬ ((i : Nat) : Int) < ((A.length : Nat) : Int) := by omega
   obtain rfl : i = A.length := by omega
   have hRt : R.take A.length = R := List.take_of_length_le (by omega)
   rw [hRt] at jO hsl htk
   simp only [push_cast, seval, -Nat.reducePow, j1, jB, j14, jI, j15, j16, j3, jO, h', hsl, htk, hal]
   have hx : scV (pgS sp s :: R.map (pgS sp)) ++ [V.agg [V.int IntKind.i64 2, V.int IntKind.i64 sp, V.str []], V.agg [V.int IntKind.i64 1, V.int IntKind.i64 0, V.str []]] = scV (levF sp s) := by
    rw [hlev]; simp [scV, Scp.v]
   rw [hx]
   have hll : (levF sp s).length = A.length + 3 := by rw [hlev]; simp [hRl]
   refine ⟨by omega, ?_⟩
   exact view_own1 (upd_same _ _ _) (scV_imm _) (by rw [scV_len, hll])
end Go.Ab
