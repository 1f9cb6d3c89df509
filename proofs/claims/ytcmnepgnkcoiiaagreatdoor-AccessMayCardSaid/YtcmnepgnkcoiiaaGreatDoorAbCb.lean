/- The functions of package strings that package title calls. No condition. -/
import Derived.Test.YtcmnepgnkcoiiaaGreatDoorAbCa
import Derived.Test.YtcmnepgnkcoiiaaGreatDoorAbZ1
import Derived.Lib.Split
import Derived.Lib.IndexBytes
namespace Go.Ab
set_option linter.unusedVariables false
set_option linter.unusedSimpArgs false
variable {P : Program} {F T : Nat → Nat}
open Go.Lib
theorem ixb_find (c : UInt8) : ∀ s : List UInt8, indexByte s c = match s.findIdx? (· == c) with | none => -1 | some i => (i : Int)
 | [] => rfl
 | x :: r => by
   have ih := ixb_find c r
   by_cases hx : x = c
   ·subst hx; simp [indexByte, List.findIdx?_cons]
   ·have hx' : (x == c) = false := by simpa using hx
    simp only [indexByte, hx', List.findIdx?_cons, Bool.false_eq_true, if_false]
    rw [ih]
    cases h : r.findIdx? (· == c) with
    | none => rfl
    | some i =>
      have : (((i : Nat) : Int) == -1) = false := by rw [beq_eq_false_iff_ne]; omega
      simp [this]
theorem find_split {c : UInt8} {s : List UInt8} {i : Nat} (h : s.findIdx? (· == c) = some i) : s = s.take i ++ c :: s.drop (i + 1) ∧ (∀ b, b ∈ s.take i → b ≠ c) ∧ i < s.length := by
 rw [List.findIdx?_eq_some_iff_getElem] at h
 obtain ⟨hi, h1, h2⟩ := h
 have hc : s[i] = c := by simpa using h1
 refine ⟨?_, fun b hb => ?_, hi⟩
 ·conv => lhs; rw [← List.take_append_drop i s, List.drop_eq_getElem_cons hi, hc]
 ·obtain ⟨j, hj, rfl⟩ := List.mem_iff_getElem.1 hb
  rw [List.length_take] at hj
  rw [List.getElem_take]
  have := h2 j (by omega)
  simpa using this
theorem find_none {c : UInt8} {s : List UInt8} (h : s.findIdx? (· == c) = none) : ∀ b, b ∈ s → b ≠ c := by
 intro b hb
 rw [List.findIdx?_eq_none_iff] at h
 have := h b hb
 simpa using this
theorem split_piece : ∀ (n : Nat) (s : List UInt8), s.length ≤ n → split s [47] = pieceF s := by
 intro n
 induction n with
 | zero =>
   intro s hs
   have : s = [] := List.length_eq_zero_iff.1 (by omega)
   subst this; rfl
 | succ n ih =>
   intro s hs
   have hix : index s [47] = indexByte s 47 := index_one s 47
   rw [ixb_find] at hix
   cases hf : s.findIdx? (· == 47) with
   | none =>
     rw [hf] at hix
     rw [split, count_miss hix, splitK, pieceF_no (find_none hf)]
   | some i =>
     rw [hf] at hix
     simp only at hix
     obtain ⟨h1, h2, h3⟩ := find_split hf
     have hm : ¬ (index s [47] == -1) = true := fun e => by have := beq_iff_eq.1 e; omega
     have ht : (index s [47]).toNat = i := by omega
     have ih' := ih (s.drop (i + 1)) (by rw [List.length_drop]; omega)
     rw [split, count_hit (by simp) hix, Nat.add_comm, splitK, if_neg hm, ht, Nat.add_zero]
     rw [split] at ih'
     simp only [List.length_singleton]
     rw [ih']
     conv => rhs; rw [h1, pieceF_at h2]
/-- contracts -/
structure TitC (P : Program) (F : Nat → Nat) : Prop where
 split : ∀ s : List UInt8, s.length ≤ 100000 → PTr P (F 171) [.str s, .str [47]] (.lst 1 ((pieceF s).map .str))
 cut : ∀ s : List UInt8, s.length ≤ 100000 → PTr P (F 172) [.str s, .str [58]] (match colF s with | none => .tup [.str s, .str [], .bool false] | some i => .tup [.str (s.take i), .str (s.drop (i + 1)), .bool true])
 tsuf : ∀ s : List UInt8, s.length ≤ 100000 → PTr P (F 173) [.str s, .str [32]] (.str (unbl s))
 ib : ∀ (s : List UInt8) (c : UInt8), PTr P (F 120) [.str s, .int .u8 c.toNat] (.int .i64 (indexByte s c))
end Go.Ab
