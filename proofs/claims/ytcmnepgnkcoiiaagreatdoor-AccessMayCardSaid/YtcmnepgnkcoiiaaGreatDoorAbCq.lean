/- The reference's titles: ancestors, levels. No condition. -/
import Derived.Test.YtcmnepgnkcoiiaaGreatDoorAbCo
namespace Go.Ab
set_option linter.unusedVariables false
set_option linter.unusedSimpArgs false
variable {P : Program} {F T : Nat → Nat}
open Go.Lib
/-- Ancestors -/
theorem t200 (hf : Is200 P F T) {sp : Int} {s : List UInt8} (h199 : PTr P (F 199) [ttV sp s] (.bool true)) (hs : s.length ≤ 100000) :
 PTr P (F 200) [ttV sp s] (.lst 2 (ancV sp (anc sp s s.length))) := by
 refine ptrC [] hf (by simp) (by simp [V.imm, ancV_imm]) ?_
 simp only [c200, push_cast, seval, -Nat.reducePow, ttV] at h199 ⊢
 refine callK_intro h199 (by simp only [push_cast, seval, -Nat.reducePow]) (by simp only [push_cast, seval, -Nat.reducePow]) ?_
 simp only [push_cast, seval, -Nat.reducePow]
 refine loopK_intro (fun m s1 => ∃ i id, i ≤ s.length ∧ m = s.length - i ∧ s1.env 1 = .ptr 1 0 ∧ s1.L 1 = some (.box (T 17) [.int .i64 sp, .str s]) ∧ s1.env 4 = .int .i64 i ∧ 2 ≤ id ∧ id < s1.nx ∧ s1.env 3 = .own id 2 0 (anc sp s i).length ∧ s1.L id = some (.vec (T 17) 2 (ancV sp (anc sp s i)))) s.length ⟨0, 93, ?_⟩ fun m s1 hJ => ?_
 ·simp only [push_cast, seval, -Nat.reducePow]
  exact ⟨rfl, rfl, rfl⟩
 ·obtain ⟨i, id, hi, rfl, j1, jB, j4, jd, jd2, j3, jO⟩ := hJ
  have hne : 1 ≠ id := by omega
  by_cases h : i < s.length
  ·have h' : ((i : Nat) : Int) < ((s.length : Nat) : Int) := by omega
   have ham := anc_len sp s i
   have has := anc_succ sp s i
   obtain ⟨c, hc⟩ : ∃ c, s.getD i 0 = c := ⟨_, rfl⟩
   rw [hc] at has
   by_cases b : c.toNat = 47
   ·have b' : ((c.toNat : Nat) : Int) = 47 := by omega
    have hlen : (ancV sp (anc sp s i)).length = (anc sp s i).length := ancV_len _ _
    have htk : List.take (anc sp s i).length (ancV sp (anc sp s i)) = ancV sp (anc sp s i) := List.take_of_length_le (by omega)
    have b3 : c = 47 := by rw [show c = UInt8.ofNat c.toNat by simp, b]; rfl
    rw [if_pos b3] at has
    simp only [push_cast, seval, -Nat.reducePow, j1, jB, j4, j3, jO, h', hc, b', hne, hlen, htk]
    have hap : ancV sp (anc sp s i) ++ [V.agg [V.int IntKind.i64 sp, V.str (List.take i s)]] = ancV sp (anc sp s (i + 1)) := by rw [has]; simp [ancV]
    have hl2 : (anc sp s (i + 1)).length = (anc sp s i).length + 1 := by rw [has]; simp
    rw [hap]
    repeat refine And.intro (by omega) ?_
    exact ⟨s.length - (i + 1), by omega, i + 1, s1.nx + 91, by omega, rfl, by simp, by omega, by omega, by rw [hl2], upd_same _ _ _⟩
   ·have b' : ¬ ((c.toNat : Nat) : Int) = 47 := by omega
    have b3 : ¬ c = 47 := fun e => b (by rw [e]; rfl)
    rw [if_neg b3, List.append_nil] at has
    simp only [push_cast, seval, -Nat.reducePow, j1, jB, j4, j3, jO, h', hc, b', hne]
    refine ⟨h, ⟨by omega, by omega⟩, s.length - (i + 1), by omega, i + 1, id, by omega, rfl, by simp, by omega, by omega, by rw [has], by rw [has]; exact jO⟩
  ·have h' : ¬ ((i : Nat) : Int) < ((s.length : Nat) : Int) := by omega
   obtain rfl : i = s.length := by omega
   simp only [push_cast, seval, -Nat.reducePow, j1, jB, j4, j3, jO, h']
   exact view_own1 jO (ancV_imm _ _) (ancV_len _ _).symm
/-- Levels -/
theorem t194 (hf : Is194 P F T) (h200 : Is200 P F T) {sp : Int} {s : List UInt8} (h199 : PTr P (F 199) [ttV sp s] (.bool true)) (hs : s.length ≤ 90000) :
 PTr P (F 194) [ttV sp s] (.lst 3 (scV (levF sp s))) := by
 refine ptrC [] hf (by simp) (by simp [V.imm, scV_imm]) ?_
 obtain ⟨A, hA⟩ : ∃ A, anc sp s s.length = A := ⟨_, rfl⟩
 have hAl : A.length ≤ 90000 := by have := anc_len sp s s.length; rw [hA] at this; omega
 have hlev : levF sp s = pgS sp s :: (A.reverse.map (pgS sp)) ++ [⟨2, sp, []⟩, ⟨1, 0, []⟩] := by rw [levF, hA]; rfl
 have h200' := t200 h200 h199 (by omega)
 rw [hA] at h200'
 have hai := ancV_imm sp A
 have hal : (ancV sp A).length = A.length := ancV_len _ _
 simp only [c194, push_cast, seval, -Nat.reducePow, ttV] at h200' ⊢
 refine callK_intro h200' (by simp only [push_cast, seval, -Nat.reducePow]) (by simp only [push_cast, seval, -Nat.reducePow, hai]) ?_
 simp only [push_cast, seval, -Nat.reducePow, hal]
 refine ⟨⟨by omega, by omega⟩, ?_⟩
 refine loopK_intro (fun m s1 => ∃ n id3, n ≤ A.length ∧ m = n ∧ s1.env 1 = .ptr 1 0 ∧ s1.L 1 = some (.box (T 17) [.int .i64 sp, .str s]) ∧ s1.env 4 = .lst 2 (ancV sp A) ∧ s1.env 5 = .int .i64 ((n : Int) - 1) ∧ s1.env 3 = .own id3 3 0 (A.length - n + 1) ∧ s1.L id3 = some (.vec (T 18) 3 (scV (pgS sp s :: (A.drop n).reverse.map (pgS sp)))) ∧ id3 < s1.nx ∧ id3 ≠ 1 ∧ 2 ≤ s1.nx) A.length ⟨A.length, 42, ?_⟩ fun m s1 hJ => ?_
 ·simp only [push_cast, seval, -Nat.reducePow]
  refine ⟨by rw [Nat.sub_self], ?_⟩
  rw [List.drop_length]; rfl
 ·obtain ⟨n, id3, hn, rfl, j1, jB, j4, j5, j3, jO, k1, k2, k3⟩ := hJ
  have hsl : (scV (pgS sp s :: (A.drop m).reverse.map (pgS sp))).length = A.length - m + 1 := by rw [scV_len]; simp
  have htk : List.take (A.length - m + 1) (scV (pgS sp s :: (A.drop m).reverse.map (pgS sp))) = scV (pgS sp s :: (A.drop m).reverse.map (pgS sp)) := List.take_of_length_le (by omega)
  have k1n : 1 ≠ id3 := fun e => k2 e.symm
  cases m with
  | zero =>
    rw [List.drop_zero, Nat.sub_zero] at *
    simp only [push_cast, seval, -Nat.reducePow, j1, jB, j4, j5, j3, jO, hsl, htk, k1n]
    have hx : scV (pgS sp s :: A.reverse.map (pgS sp)) ++ [V.agg [V.int IntKind.i64 2, V.int IntKind.i64 sp, V.str []], V.agg [V.int IntKind.i64 1, V.int IntKind.i64 0, V.str []]] = scV (levF sp s) := by
     rw [hlev]; simp [scV, Scp.v]
    rw [hx]
    have hll : (levF sp s).length = A.length + 3 := by rw [hlev]; simp
    refine ⟨by omega, ?_⟩
    exact view_own1 (upd_same _ _ _) (scV_imm _) (by rw [scV_len, hll])
  | succ k =>
    have h5 : ((k + 1 : Nat) : Int) - 1 = ((k : Nat) : Int) := by omega
    rw [h5] at j5
    have hg := ancV_at sp (l := A) (i := k) (by omega)
    simp only [push_cast, seval, -Nat.reducePow, j1, jB, j4, j5, j3, jO, hsl, htk, hal, hg, k1n]
    have hs3 := scV_snoc (pgS sp s :: (A.drop (k + 1)).reverse.map (pgS sp)) (pgS sp (A.getD k []))
    have hkA : k < A.length := by omega
    have hs4 : pgS sp s :: (A.drop (k + 1)).reverse.map (pgS sp) ++ [pgS sp (A.getD k [])] = pgS sp s :: (A.drop k).reverse.map (pgS sp) := by
     have er : A.getD k [] = A[k] := by simp [List.getD, hkA]
     rw [er, List.drop_eq_getElem_cons hkA, List.reverse_cons, List.map_append]
     rfl
    rw [hs4] at hs3
    simp only [pgS] at hs3 ⊢
    rw [hs3]
    exact ⟨by omega, by omega, ⟨by omega, by omega⟩, k, by omega, k, s1.nx + 59, by omega, rfl, rfl, by congr 1; omega, upd_same _ _ _, by omega, by omega⟩
end Go.Ab
