/- The reference's titles: pieces, valid titles, ancestors, levels. No condition. -/
import Derived.Test.YtcmnepgnkcoiiaaGreatDoorAbCn
namespace Go.Ab
set_option linter.unusedVariables false
set_option linter.unusedSimpArgs false
variable {P : Program} {F T : Nat → Nat}
open Go.Lib
theorem getD_last {l : List (List UInt8)} {b : List UInt8} : ((l ++ [b]).map V.str).getD l.length .junk = .str b := by simp [List.getD]
theorem set_last {l : List (List UInt8)} {b c : List UInt8} : ((l ++ [b]).map V.str).set l.length (.str c) = (l ++ [c]).map V.str := by
 rw [List.map_append, List.set_append_right _ _ (by simp)]; simp
/-- Parts -/
theorem t201 (hf : Is201 P F T) (s : List UInt8) (hs : s.length ≤ 100000) : PTr P (F 201) [.str s] (.lst 1 ((pieceF s).map .str)) := by
 refine ptrC [] hf (by simp) (by simp [V.imm, imms_str]) ?_
 simp only [c201, push_cast, seval, -Nat.reducePow]
 refine loopK_intro (fun m s1 => ∃ i id, i ≤ s.length ∧ m = s.length - i ∧ s1.env 0 = .str s ∧ s1.env 4 = .int .i64 i ∧ s1.env 3 = .own id 1 0 (pieceF (s.take i)).length ∧ s1.L id = some (.vec (T 21) 1 ((pieceF (s.take i)).map .str)) ∧ id < s1.nx) s.length ⟨0, 42, ?_⟩ fun m s1 hJ => ?_
 ·simp only [push_cast, seval, -Nat.reducePow]
  exact ⟨rfl, rfl, rfl⟩
 ·obtain ⟨i, id, hi, rfl, j0, j4, j3, jL, jn⟩ := hJ
  have hpn := piece_num (s.take i)
  rw [List.length_take] at hpn
  by_cases h : i < s.length
  ·have h' : ((i : Nat) : Int) < ((s.length : Nat) : Int) := by omega
   obtain ⟨c, hc⟩ : ∃ c, s.getD i 0 = c := ⟨_, rfl⟩
   have hci : c = s[i] := by rw [← hc]; simp [List.getD, h]
   have htk : s.take (i + 1) = s.take i ++ [c] := by rw [hci, ← List.take_concat_get (h := h), List.concat_eq_append]
   have hdt : (s.take (i + 1)).drop i = [c] := by rw [htk, List.drop_left' (by rw [List.length_take]; omega)]
   by_cases b : c.toNat = 47
   ·have b' : ((c.toNat : Nat) : Int) = 47 := by omega
    have b3 : c = 47 := by rw [show c = UInt8.ofNat c.toNat by simp, b]; rfl
    have hps : pieceF (s.take (i + 1)) = pieceF (s.take i) ++ [[]] := by rw [htk, b3, pieceF_sl]
    have hlm : ((pieceF (s.take i)).map V.str).length = (pieceF (s.take i)).length := List.length_map ..
    have htl : List.take (pieceF (s.take i)).length ((pieceF (s.take i)).map V.str) = (pieceF (s.take i)).map V.str := List.take_of_length_le (by omega)
    simp only [push_cast, seval, -Nat.reducePow, j0, j4, j3, jL, h', hc, b', hlm, htl]
    refine ⟨h, by omega, ⟨by omega, by omega⟩, s.length - (i + 1), by omega, i + 1, s1.nx + 92, by omega, rfl, by simp, by rw [hps]; simp, ?_, by omega⟩
    rw [upd_same, hps]; simp
   ·have b' : ¬ ((c.toNat : Nat) : Int) = 47 := by omega
    have b3 : c ≠ 47 := fun e => b (by rw [e]; rfl)
    obtain ⟨u, v, e1, e2⟩ := pieceF_snoc b3 (s.take i)
    rw [e1] at j3 jL
    have hul : (u ++ [v]).length = u.length + 1 := by simp
    rw [hul] at j3
    have hg := getD_last (l := u) (b := v)
    have hst := set_last (l := u) (b := v) (c := v ++ [c])
    have hlm : ((u ++ [v]).map V.str).length = u.length + 1 := by simp
    rw [e1, List.length_append] at hpn
    simp only [List.length_cons, List.length_nil] at hpn
    have hsb : ((u.length : Nat) : Int) + 1 - 1 = ((u.length : Nat) : Int) := by omega
    have hti : ((i : Nat) : Int) + 1 = ((i + 1 : Nat) : Int) := by omega
    have htn : (((i : Nat) : Int) + 1).toNat = i + 1 := by omega
    have hvl : v.length ≤ 100000 := by
     have : v ∈ pieceF (s.take i) := by rw [e1]; simp
     have := piece_len v this
     rw [List.length_take] at this
     omega
    simp only [push_cast, seval, -Nat.reducePow, j0, j4, j3, jL, h', hc, b', hlm, hsb, hg, hst, htn, hdt]
    have hrc : (V.str v).recell [V.str (v ++ [c])] = V.str (v ++ [c]) := rfl
    rw [hrc, hst]
    refine ⟨h, ⟨by omega, by omega⟩, ⟨by omega, by omega⟩, by omega, by omega, ⟨by omega, by omega⟩, by omega, by omega, by omega, by omega, by omega, by omega, ⟨by omega, by omega⟩, s.length - (i + 1), by omega, i + 1, id, by omega, rfl, by simp, ?_, ?_, by omega⟩
    ·rw [htk, e2]; simp
    ·rw [upd_same, htk, e2]
  ·have h' : ¬ ((i : Nat) : Int) < ((s.length : Nat) : Int) := by omega
   obtain rfl : i = s.length := by omega
   rw [List.take_length] at j3 jL
   have hlm : ((pieceF s).map V.str).length = (pieceF s).length := List.length_map ..
   have htl : List.take (pieceF s).length ((pieceF s).map V.str) = (pieceF s).map V.str := List.take_of_length_le (by omega)
   simp only [push_cast, seval, -Nat.reducePow, j0, j4, j3, jL, h', hlm, htl]
   exact view_own1 jL (imms_str _) hlm.symm
end Go.Ab
