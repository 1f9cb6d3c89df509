/- Titles: the ancestors. No condition. -/
import Derived.Test.YtcmnepgnkcoiiaaGreatDoorAbCh
import Derived.Test.YtcmnepgnkcoiiaaGreatDoorAbG12
namespace Go.Ab
set_option linter.unusedVariables false
set_option linter.unusedSimpArgs false
variable {P : Program} {F T : Nat → Nat}
open Go.Lib
/-- a list of its own: a vector of this call's -/
def OwnL (ty sz nx nx' : Nat) (es : List V) (r : V) (L' : Heap) : Prop := ∃ id, nx ≤ id ∧ id < nx' ∧ r = .own id sz 0 es.length ∧ L' id = some (.vec ty sz es)
theorem ancV_imm (sp : Int) (l : List (List UInt8)) : V.imms (ancV sp l) = true := imms_map _ _ fun q => rfl
theorem ancV_len (sp : Int) (l : List (List UInt8)) : (ancV sp l).length = l.length := List.length_map ..
theorem anc_len (sp : Int) (s : List UInt8) : ∀ i, (anc sp s i).length ≤ i
 | 0 => Nat.le_refl _
 | i + 1 => by
   have ih := anc_len sp s i
   rw [anc_succ, List.length_append]
   split <;> simp <;> omega
/-- Title.Ancestors -/
theorem t186 (hf : Is186 P F T) {sp : Int} {s : List UInt8} (h185 : PTr P (F 185) [ttV sp s] (.bool true)) (hs : s.length ≤ 100000) (L : Heap) (nx : Nat) :
 ECall P (F 186) [ttV sp s] L nx fun r L' nx' => nx ≤ nx' ∧ OwnL (T 17) 2 nx nx' (ancV sp (anc sp s s.length)) r L' ∧ ∀ b, b < nx → L' b = L b := by
 refine ecallC [] hf (by simp) ?_
 simp only [c186, push_cast, seval, -Nat.reducePow, ttV] at h185 ⊢
 refine callK_intro h185 (by simp only [push_cast, seval, -Nat.reducePow]) (by simp only [push_cast, seval, -Nat.reducePow]) ?_
 simp only [push_cast, seval, -Nat.reducePow]
 refine loopK_intro (fun m s1 => ∃ i id, i ≤ s.length ∧ m = s.length - i ∧ s1.env 1 = .ptr (nx + 1) 0 ∧ s1.L (nx + 1) = some (.box (T 17) [.int .i64 sp, .str s]) ∧ s1.env 4 = .int .i64 i ∧ nx + 31 ≤ s1.nx ∧ nx + 2 ≤ id ∧ id < s1.nx ∧ s1.env 3 = .own id 2 0 (anc sp s i).length ∧ s1.L id = some (.vec (T 17) 2 (ancV sp (anc sp s i))) ∧ ∀ b, b < nx → s1.L b = L b) s.length ⟨0, nx + 93, ?_⟩ fun m s1 hJ => ?_
 ·simp only [push_cast, seval, -Nat.reducePow]
  refine ⟨rfl, by omega, by omega, by omega, rfl, rfl, fun b hb => ?_⟩
  rw [upd_ne _ _ _ _ (by omega), upd_ne _ _ _ _ (by omega)]
 ·obtain ⟨i, id, hi, rfl, j1, jB, j4, jn, jd, jd2, j3, jO, jL⟩ := hJ
  have hne : nx + 1 ≠ id := by omega
  by_cases h : i < s.length
  ·have h' : ((i : Nat) : Int) < ((s.length : Nat) : Int) := by omega
   have ham := anc_len sp s i
   have has := anc_succ sp s i
   obtain ⟨c, hc⟩ : ∃ c, s.getD i 0 = c := ⟨_, rfl⟩
   rw [hc] at has
   by_cases b : c.toNat = 47
   ·have b' : ((c.toNat : Nat) : Int) = 47 := by omega
    have hlen : (ancV sp (anc sp s i)).length = (anc sp s i).length := ancV_len _ _
    have htk : List.take (anc sp s i).length (ancV sp (anc sp s i)) = ancV sp (anc sp s i) := List.take_of_length_le (by omega)
    have b3 : c = 47 := by rw [show c = UInt8.ofNat c.toNat by simp, b]; rfl
    rw [if_pos b3] at has
    simp only [push_cast, seval, -Nat.reducePow, j1, jB, j4, j3, jO, h', hc, b', hne, hlen, htk]
    have hap : ancV sp (anc sp s i) ++ [V.agg [V.int IntKind.i64 sp, V.str (List.take i s)]] = ancV sp (anc sp s (i + 1)) := by rw [has]; simp [ancV]
    have hl2 : (anc sp s (i + 1)).length = (anc sp s i).length + 1 := by rw [has]; simp
    rw [hap]
    refine ⟨h, hi, by omega, ⟨by omega, by omega⟩, s.length - (i + 1), by omega, i + 1, s1.nx + 91, by omega, rfl, ?_, by simp, by omega, by omega, by omega, by rw [hl2], upd_same _ _ _, fun b hb => ?_⟩
    ·rw [upd_ne _ _ _ _ (by omega), upd_ne _ _ _ _ (by omega)]; exact jB
    ·rw [upd_ne _ _ _ _ (by omega), upd_ne _ _ _ _ (by omega)]; exact jL b hb
   ·have b' : ¬ ((c.toNat : Nat) : Int) = 47 := by omega
    have b3 : ¬ c = 47 := fun e => b (by rw [e]; rfl)
    rw [if_neg b3, List.append_nil] at has
    simp only [push_cast, seval, -Nat.reducePow, j1, jB, j4, j3, jO, h', hc, b', hne]
    refine ⟨h, ⟨by omega, by omega⟩, s.length - (i + 1), by omega, i + 1, id, by omega, rfl, by simp, by omega, by omega, by omega, by rw [has], by rw [has]; exact jO, jL⟩
  ·have h' : ¬ ((i : Nat) : Int) < ((s.length : Nat) : Int) := by omega
   obtain rfl : i = s.length := by omega
   simp only [push_cast, seval, -Nat.reducePow, j1, jB, j4, j3, jO, h']
   exact ⟨by omega, by omega, ⟨id, by omega, by omega, by rw [ancV_len], jO⟩, jL⟩
end Go.Ab
