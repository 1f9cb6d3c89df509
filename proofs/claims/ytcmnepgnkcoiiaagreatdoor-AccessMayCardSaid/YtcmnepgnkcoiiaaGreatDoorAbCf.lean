/- Titles: the program's walks. No condition. -/
import Derived.Test.YtcmnepgnkcoiiaaGreatDoorAbCc
import Derived.Test.YtcmnepgnkcoiiaaGreatDoorAbG11
namespace Go.Ab
set_option linter.unusedVariables false
set_option linter.unusedSimpArgs false
variable {P : Program} {F T : Nat → Nat}
open Go.Lib
/-- clean -/
theorem t187 (hf : Is187 P F T) (C : TitC P F) (s : List UInt8) (hs : s.length ≤ 100000) : PTr P (F 187) [.str s] (.bool (cleanF false s)) := by
 refine ptrC [] hf (by simp) rfl ?_
 simp only [c187, push_cast, seval, -Nat.reducePow]
 refine loopK_intro (fun m s1 => ∃ i, i ≤ s.length ∧ m = s.length - i ∧ cleanF false s = cleanF (pbAt s i) (s.drop i) ∧ s1.env 0 = .str s ∧ s1.env 3 = .int .i64 i) s.length ⟨0, ?_⟩ fun m s1 hJ => ?_
 ·simp only [push_cast, seval, -Nat.reducePow]
  exact ⟨rfl, rfl⟩
 ·obtain ⟨i, hi, rfl, hcl, j0, j3⟩ := hJ
  by_cases h : i < s.length
  ·have h' : ((i : Nat) : Int) < ((s.length : Nat) : Int) := by omega
   rw [clean_step s h] at hcl
   have hib := C.ib [60, 62, 91, 93, 123, 125, 124, 35, 95] (s.getD i 0)
   have hhas := ixb_has [60, 62, 91, 93, 123, 125, 124, 35, 95] (s.getD i 0)
   have hpb : pbAt s i = (decide (0 < i) && decide ((s.getD (i - 1) 0).toNat = 32)) := rfl
   unfold badB at hcl
   obtain ⟨c, hc⟩ : ∃ c, s.getD i 0 = c := ⟨_, rfl⟩
   rw [hc] at hib hhas hcl
   by_cases b1 : c.toNat < 32
   ·have b1' : ((c.toNat : Nat) : Int) < 32 := by omega
    simp only [push_cast, seval, -Nat.reducePow, j0, j3, h', hc, b1', view]
    refine ⟨h, ?_⟩
    rw [hcl]; simp [b1]
   ·have b1' : ¬ ((c.toNat : Nat) : Int) < 32 := by omega
    by_cases b2 : c.toNat = 127
    ·have b2' : ((c.toNat : Nat) : Int) = 127 := by omega
     simp only [push_cast, seval, -Nat.reducePow, j0, j3, h', hc, b1', b2', view]
     refine ⟨h, ?_⟩
     rw [hcl]; simp [b2]
    ·have b2' : ¬ ((c.toNat : Nat) : Int) = 127 := by omega
     simp only [push_cast, seval, -Nat.reducePow, j0, j3, h', hc, b1', b2']
     refine ⟨h, ?_⟩
     refine callK_intro hib (by simp only [push_cast, seval, -Nat.reducePow]) (by simp only [push_cast, seval, -Nat.reducePow]) ?_
     by_cases b3 : 0 ≤ indexByte [60, 62, 91, 93, 123, 125, 124, 35, 95] c
     ·have b3b := hhas.1 b3
      simp only [push_cast, seval, -Nat.reducePow, j0, j3, h', hc, b3, view]
      rw [hcl, b3b]; simp
     ·have b3b : [60, 62, 91, 93, 123, 125, 124, 35, 95].contains c = false := by
       cases hb : [60, 62, 91, 93, 123, 125, 124, 35, 95].contains c with
       | true => exact absurd (hhas.2 hb) b3
       | false => rfl
      have d1 : decide (c.toNat < 32) = false := decide_eq_false b1
      have d2 : decide (c.toNat = 127) = false := decide_eq_false b2
      rw [b3b, d1, d2] at hcl
      by_cases b4 : c.toNat = 32
      ·have b4' : ((c.toNat : Nat) : Int) = 32 := by omega
       have d4 : decide (c.toNat = 32) = true := decide_eq_true b4
       rw [d4] at hcl
       by_cases b5 : 0 < i
       ·have b5' : (0 : Int) < ((i : Nat) : Int) := by omega
        have hi1 : ((i : Nat) : Int) - 1 = ((i - 1 : Nat) : Int) := by omega
        obtain ⟨I, hI⟩ : ∃ I, I = i - 1 := ⟨_, rfl⟩
        rw [← hI] at hi1 hpb
        rw [decide_eq_true b5, Bool.true_and] at hpb
        by_cases b6 : (s.getD I 0).toNat = 32
        ·have b6' : (((s.getD I 0).toNat : Nat) : Int) = 32 := by omega
         rw [decide_eq_true b6] at hpb
         rw [hpb] at hcl
         simp only [push_cast, seval, -Nat.reducePow, j0, j3, h', hc, b3, b4', b5', hi1, b6', view]
         refine ⟨by omega, by omega, ?_⟩
         rw [hcl]; rfl
        ·have b6' : ¬ (((s.getD I 0).toNat : Nat) : Int) = 32 := by omega
         rw [decide_eq_false b6] at hpb
         rw [hpb] at hcl
         simp only [push_cast, seval, -Nat.reducePow, j0, j3, h', hc, b3, b4', b5', hi1, b6']
         refine ⟨by omega, by omega, by omega, s.length - (i + 1), by omega, i + 1, by omega, rfl, ?_, by simp⟩
         rw [hcl]; rfl
       ·have b5' : ¬ (0 : Int) < ((i : Nat) : Int) := by omega
        rw [decide_eq_false b5, Bool.false_and] at hpb
        rw [hpb] at hcl
        simp only [push_cast, seval, -Nat.reducePow, j0, j3, h', hc, b3, b4', b5']
        refine ⟨by omega, s.length - (i + 1), by omega, i + 1, by omega, rfl, ?_, by simp⟩
        rw [hcl]; rfl
      ·have b4' : ¬ ((c.toNat : Nat) : Int) = 32 := by omega
       have d4 : decide (c.toNat = 32) = false := decide_eq_false b4
       rw [d4] at hcl
       simp only [push_cast, seval, -Nat.reducePow, j0, j3, h', hc, b3, b4']
       refine ⟨by omega, s.length - (i + 1), by omega, i + 1, by omega, rfl, ?_, by simp⟩
       rw [hcl]; rfl
  ·have h' : ¬ ((i : Nat) : Int) < ((s.length : Nat) : Int) := by omega
   obtain rfl : i = s.length := by omega
   rw [clean_end] at hcl
   simp only [push_cast, seval, -Nat.reducePow, j0, j3, h', hcl, view]
/-- fold -/
theorem t189 (hf : Is189 P F T) (s : List UInt8) (hs : s.length ≤ 100000) : PTr P (F 189) [.str s] (.str (lowL s)) := by
 refine ptrC [] hf (by simp) rfl ?_
 simp only [c189, push_cast, seval, -Nat.reducePow]
 refine loopK_intro (fun m s1 => ∃ i, i ≤ s.length ∧ m = s.length - i ∧ s1.env 3 = .own 36 1 0 s.length ∧ s1.env 8 = .own 36 1 0 s.length ∧ s1.env 9 = .int .i64 s.length ∧ s1.env 10 = .int .i64 i ∧ s1.L 36 = some (.vec (T 3) 1 (bytesV (lowL (s.take i) ++ s.drop i)))) s.length ⟨0, ?_⟩ fun m s1 hJ => ?_
 ·simp only [push_cast, seval, -Nat.reducePow]
  exact ⟨rfl, rfl⟩
 ·obtain ⟨i, hi, rfl, j3, j8, j9, j10, jL⟩ := hJ
  by_cases h : i < s.length
  ·have h' : ((i : Nat) : Int) < ((s.length : Nat) : Int) := by omega
   obtain ⟨u, c, v, rfl, hu⟩ : ∃ u c v, s = u ++ c :: v ∧ u.length = i := ⟨s.take i, s[i], s.drop (i + 1), by rw [← List.drop_eq_getElem_cons h, List.take_append_drop], by rw [List.length_take]; omega⟩
   subst hu
   have e1 : (u ++ c :: v).take u.length = u := by simp
   have e2 : (u ++ c :: v).drop u.length = c :: v := by simp
   have e3 : (u ++ c :: v).take (u.length + 1) = u ++ [c] := by rw [List.take_append]; simp [List.take_of_length_le]
   have e4 : (u ++ c :: v).drop (u.length + 1) = v := by simp [List.drop_append]
   rw [e1, e2] at jL
   have hll : (lowL u).length = u.length := by simp [lowL]
   have hbl : (lowL u ++ c :: v).length = u.length + (v.length + 1) := by simp [lowL]
   have hg : (bytesV (lowL u ++ c :: v)).getD u.length .junk = .int .u8 c.toNat := by
    rw [← hll]; simp [bytesV, List.getD]
   have hset : ∀ x : UInt8, (bytesV (lowL u ++ c :: v)).set u.length (.int .u8 x.toNat) = bytesV (lowL u ++ x :: v) := fun x => by
    have hl2 : u.length = (bytesV (lowL u)).length := by simp [bytesV, lowL]
    simp only [bytesV, List.map_append, List.map_cons] at hl2 ⊢
    rw [hl2, List.set_append_right _ _ (Nat.le_refl _)]
    simp
   have hlow := lowB_nat c
   have hfin : ∀ x : UInt8, x = lowB c → lowL u ++ x :: v = lowL (u ++ [c]) ++ v := fun x hx => by simp [lowL, hx]
   by_cases b1 : 65 ≤ c.toNat ∧ c.toNat ≤ 90
   ·have b1' : (65 : Int) ≤ ((c.toNat : Nat) : Int) := by omega
    have b2' : ((c.toNat : Nat) : Int) ≤ 90 := by omega
    rw [if_pos b1] at hlow
    have hs2 := hset (lowB c)
    have hadd : ((c.toNat : Nat) : Int) + 32 = (((lowB c).toNat : Nat) : Int) := by omega
    simp only [push_cast, seval, -Nat.reducePow, j3, j8, j9, j10, jL, h', hg, b1', b2', hadd, hs2]
    have hrc : ((V.int IntKind.u8 ((c.toNat : Nat) : Int)).recell [V.int IntKind.u8 (((lowB c).toNat : Nat) : Int)]) = V.int .u8 (((lowB c).toNat : Nat) : Int) := rfl
    rw [hrc, hs2]
    refine ⟨by rw [hbl]; omega, by omega, by rw [hbl]; omega, ⟨by omega, by omega⟩, (u ++ c :: v).length - (u.length + 1), by omega, u.length + 1, by omega, rfl, by simp, ?_⟩
    rw [e3, e4]
    rw [← hfin _ rfl]
   ·have hlc : lowB c = c := by unfold lowB; rw [if_neg b1]
    by_cases b2 : 65 ≤ c.toNat
    ·have b1' : (65 : Int) ≤ ((c.toNat : Nat) : Int) := by omega
     have b2' : ¬ ((c.toNat : Nat) : Int) ≤ 90 := by omega
     simp only [push_cast, seval, -Nat.reducePow, j3, j8, j9, j10, jL, h', hg, b1', b2']
     refine ⟨by rw [hbl]; omega, ⟨by omega, by omega⟩, (u ++ c :: v).length - (u.length + 1), by omega, u.length + 1, by omega, rfl, by simp, ?_⟩
     rw [e3, e4, ← hfin c hlc.symm]
    ·have b1' : ¬ (65 : Int) ≤ ((c.toNat : Nat) : Int) := by omega
     simp only [push_cast, seval, -Nat.reducePow, j3, j8, j9, j10, jL, h', hg, b1']
     refine ⟨by rw [hbl]; omega, ⟨by omega, by omega⟩, (u ++ c :: v).length - (u.length + 1), by omega, u.length + 1, by omega, rfl, by simp, ?_⟩
     rw [e3, e4, ← hfin c hlc.symm]
  ·have h' : ¬ ((i : Nat) : Int) < ((s.length : Nat) : Int) := by omega
   obtain rfl : i = s.length := by omega
   simp only [List.take_length, List.drop_length, List.append_nil] at jL
   have hbl : (bytesV (lowL s)).length = s.length := by simp [bytesV, lowL]
   have htk : List.take s.length (bytesV (lowL s)) = bytesV (lowL s) := List.take_of_length_le (by omega)
   simp only [push_cast, seval, -Nat.reducePow, j3, j8, j9, j10, jL, h', htk]
   exact ⟨by rw [← hbl]; simp [bytesV], lowL s, rfl, rfl⟩
end Go.Ab
