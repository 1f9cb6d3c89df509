/- Several texts of one kind, merged. No condition. -/
import Derived.Test.YtgleakjbgpmonaaAbP4
import Derived.Test.YtgleakjbgpmonaaAbK2
import Derived.Test.YtgleakjbgpmonaaAbK4
import Derived.KernelRfl
/- The reference's tokens. No condition. -/
namespace Go.Ab
set_option linter.unusedVariables false
set_option linter.unusedSimpArgs false

variable {P : Program} {F T : Nat → Nat}

theorem t101 (hf : Is101 P F T) (s t : List UInt8) (i : Nat) (hi : i ≤ s.length) (hs : s.length ≤ 8192) (ht : t.length ≤ 8192) : PTr P (F 101) [.str s, .int .i64 i, .str t] (.bool (t.isPrefixOf (s.drop i))) := by
  refine ptrC [] hf (by simp) rfl ?_
  have h0 : (0 : Int) ≤ ((i : Nat) : Int) := by omega
  have h1 : ((i : Nat) : Int) ≤ ((s.length : Nat) : Int) := by omega
  by_cases h : t.length ≤ s.length - i
  · have h2 : ((t.length : Nat) : Int) ≤ ((s.length : Nat) : Int) - (i : Nat) := by omega
    simp only [c101, push_cast, seval, -Nat.reducePow, decide_true, decide_false, h0, h1, h2]
    refine ⟨by omega, by omega, by omega, by omega, by omega, ?_⟩
    have e : ((i : Int) + (t.length : Int)).toNat - i = t.length := by omega
    simp only [view, prefix_take, List.length_drop, h, decide_true, Bool.true_and]
    try simp [List.drop_take, e]
  · have h2 : ¬ ((t.length : Nat) : Int) ≤ ((s.length : Nat) : Int) - (i : Nat) := by omega
    simp only [c101, push_cast, seval, -Nat.reducePow, decide_true, decide_false, h0, h1, h2]
    refine ⟨by omega, ?_⟩
    simp only [view, prefix_take, List.length_drop, h, decide_false, Bool.false_and]
theorem t103 (hf : Is103 P F T) (s : List UInt8) (c : UInt8) (i : Nat) (hi : i ≤ s.length) (hs : s.length < 2 ^ 62) : PTr P (F 103) [.str s, .int .i64 i, .int .u8 c.toNat] (.int .i64 (i + runL c (s.drop i) : Nat)) := by
  refine ptrC [] hf (by simp) rfl ?_
  simp only [c103, push_cast, seval, -Nat.reducePow, decide_true, decide_false]
  refine loopK_intro (fun m s1 => ∃ n, i + n ≤ s.length ∧ m = s.length - (i + n) ∧  s1.env 0 = .str s ∧ s1.env 2 = .int .u8 c.toNat ∧ s1.env 1 = .int .i64 (i + n : Nat) ∧ runL c (s.drop i) = n + runL c ((s.drop i).drop n)) (s.length - i) ⟨0, ?_⟩ fun m s1 hJ => ?_
  · simp only [push_cast, seval, -Nat.reducePow, decide_true, decide_false, Nat.add_zero, List.drop_zero, Nat.zero_add]
    exact hi
  · obtain ⟨n, hn, rfl, j0, j2, j1, hr⟩ := hJ
    by_cases h : i + n < s.length
    · have h' : ((i : Nat) : Int) + (n : Nat) < ((s.length : Nat) : Int) := by omega
      simp only [push_cast, seval, -Nat.reducePow, decide_true, decide_false, j0, j1, j2, h']
      have e0 : ((i : Int) + (n : Int)).toNat = i + n := by omega
      try simp only [e0]
      have hget : s.getD (i + n) 0 = s[i + n] := by simp [List.getD, h]
      have hgd : (s.drop i).getD n 0 = s[i + n] := by simp [List.getD, List.getElem?_drop, h]
      refine ⟨by omega, by omega, ?_⟩
      refine condK_dec (fun hc => ?_) (fun hc => ?_)
      · have hc' := u8_eq hc
        simp only [push_cast, seval, -Nat.reducePow, decide_true, decide_false, j0, j1, j2]
        refine ⟨by omega, s.length - (i + (n + 1)), by omega, n + 1, by omega, rfl, ?_, ?_⟩
        · simp only [push_cast, seval, -Nat.reducePow, decide_true, decide_false]; congr 1
        · exact runL_drop c (s.drop i) n (by simp; omega) (by rw [hgd, ← hget]; exact hc') hr
      · simp only [push_cast, seval, -Nat.reducePow, decide_true, decide_false, j0, j1, j2, view]
        have hne : s[i + n] ≠ c := fun e => hc (by rw [hget, e])
        rw [hr, List.drop_eq_getElem_cons (by simp; omega)]
        simp [runL, hne]
    · have h' : ¬ ((i : Nat) : Int) + (n : Nat) < ((s.length : Nat) : Int) := by omega
      simp only [push_cast, seval, -Nat.reducePow, decide_true, decide_false, j0, j1, j2, h', view]
      rw [hr, List.drop_eq_nil_of_le (by simp; omega)]
      simp [runL]
end Go.Ab
/- Lowered code of the functions, by program. No condition. -/
namespace Go.Ab
set_option linter.unusedVariables false
def c34 (F T : Nat → Nat) : C :=
 .seq (.ops false [⟨none, [.mov (some 2) (.k (.bool false))]⟩]) <|
 .seq (.seq (.ops false [⟨none, [.mov (some 7) (.t 0), .len (some 8) true (.t 7), .bin (some 9) .gtr (.t 8) (.k (.int .i64 800))]⟩]) <|
 .cond (.t 9)
 (.seq (.ops false [⟨none, [.call (some 10) true (F 35) [], .mov (some 2) (.t 10)]⟩]) <|
 .ret)
 (.skip)) <|
 .seq (.ops false [⟨none, [.mov (some 12) (.t 0), .call (some 13) true (F 36) [(.t 12)], .mov (some 11) (.t 13), .ext (some 14) 0 (.t 11), .ext (some 15) 1 (.t 11), .mov (some 3) (.t 14), .mov (some 4) (.t 15)]⟩]) <|
 .seq (.ops false [⟨none, [.mov (some 17) (.t 0), .call (some 18) true (F 37) [(.t 17)], .mov (some 16) (.t 18), .ext (some 19) 0 (.t 16), .ext (some 20) 1 (.t 16), .mov (some 5) (.t 19), .mov (some 6) (.t 20)]⟩]) <|
 .seq (.ops false [⟨none, [.mov (some 21) (.t 4), .mov (some 22) (.t 6), .bin (some 23) .eql (.t 21) (.t 22), .mov (some 24) (.t 23)]⟩,
 ⟨some (24, true), [.mov (some 25) (.t 3), .mov (some 26) (.t 5), .call (some 27) true (F 7) [(.t 25), (.t 26)]]⟩,
 ⟨none, [.pick (some 28) (.t 24) (.t 27) (.k (.bool false)), .mov (some 29) (.t 28)]⟩,
 ⟨some (29, true), [.call (some 30) true (F 35) []]⟩,
 ⟨none, [.pick (some 31) (.t 29) (.t 30) (.k (.bool false)), .mov (some 2) (.t 31)]⟩]) <|
 .ret
abbrev Is34 (P : Program) (F T : Nat → Nat) : Prop := Fn P (F 34) 32 [(2, none)] (c34 F T)
def c35 (F T : Nat → Nat) : C :=
 .seq (.ops false [⟨none, [.mov (some 0) (.k (.bool false))]⟩]) <|
 .seq (.ops false [⟨none, [.call (some 4) true (F 36) [(.k (.str [123, 123, 97, 124, 98, 61, 99, 125, 125]))], .mov (some 3) (.t 4), .ext (some 5) 0 (.t 3), .ext (some 6) 1 (.t 3), .mov (some 1) (.t 5), .mov (some 2) (.t 6)]⟩]) <|
 .seq (.ops false [⟨none, [.mov (some 7) (.t 2), .bin (some 8) .eql (.t 7) (.k (.int .i64 0)), .mov (some 9) (.t 8)]⟩,
 ⟨some (9, true), [.mov (some 10) (.t 1), .call (some 11) true (F 44) [(.k (.str [97]))], .call (some 12) true (F 44) [(.k (.str [98]))], .call (some 13) true (F 44) [(.k (.str [99]))], .build (some 14) [(.bool false), .nils, .nils] [(0, 1, (.k (.bool true))), (1, 1, (.t 12)), (2, 1, (.t 13))], .mkl (some 15) 3 [(.t 14)], .build (some 16) [(.int .i64 0), (.int .i64 0), (.str []), .nils, .nils] [(0, 1, (.k (.int .i64 4))), (3, 1, (.t 11)), (4, 1, (.t 15))], .mkl (some 17) 5 [(.t 16)], .call (some 18) true (F 7) [(.t 10), (.t 17)]]⟩,
 ⟨none, [.pick (some 19) (.t 9) (.t 18) (.k (.bool false)), .mov (some 0) (.t 19)]⟩]) <|
 .ret
abbrev Is35 (P : Program) (F T : Nat → Nat) : Prop := Fn P (F 35) 20 [(0, none)] (c35 F T)
def c41 (F T : Nat → Nat) : C :=
 .seq (.ops false [⟨none, [.mov (some 2) (.k (.bool false))]⟩]) <|
 .seq (.ops false [⟨none, [.mov (some 6) (.t 0), .bin (some 7) .and (.t 6) (.k (.int .i64 31)), .mov (some 0) (.t 7)]⟩]) <|
 .seq (.ops false [⟨none, [.mov (some 9) (.t 0), .call (some 10) true (F 42) [(.k (.str [123, 123, 97, 124])), (.t 9)], .mov (some 11) (.t 0), .call (some 12) true (F 42) [(.k (.str [125, 125])), (.t 11)], .bin (some 13) .add (.t 10) (.t 12), .call (some 14) true (F 36) [(.t 13)], .mov (some 8) (.t 14), .ext (some 15) 0 (.t 8), .ext (some 16) 1 (.t 8), .mov (some 3) (.t 15), .mov (some 4) (.t 16)]⟩]) <|
 .seq (.ops false [⟨none, [.mov (some 5) (.k (.int .i64 0))]⟩]) <|
 .seq (.block 0 <|
 .loop <|
 .seq (.seq (.ops false [⟨none, [.mov (some 17) (.t 3), .len (some 18) false (.t 17), .bin (some 19) .gtr (.t 18) (.k (.int .i64 0)), .mov (some 20) (.t 19)]⟩,
 ⟨some (20, true), [.mov (some 21) (.t 3), .iadr (some 22) 5 (.t 21) (.k (.int .i64 0)), .fadr (some 23) 0 (.t 22), .load (some 24) false 1 false (.t 23), .bin (some 25) .eql (.t 24) (.k (.int .i64 4))]⟩,
 ⟨none, [.pick (some 26) (.t 20) (.t 25) (.k (.bool false)), .mov (some 27) (.t 26)]⟩,
 ⟨some (27, true), [.mov (some 28) (.t 3), .iadr (some 29) 5 (.t 28) (.k (.int .i64 0)), .fadr (some 30) 4 (.t 29), .load (some 31) false 1 false (.t 30), .len (some 32) false (.t 31), .bin (some 33) .gtr (.t 32) (.k (.int .i64 0))]⟩,
 ⟨none, [.pick (some 34) (.t 27) (.t 33) (.k (.bool false))]⟩]) <|
 .cond (.t 34)
 (.skip)
 (.exit 0)) <|
 .block 1 <|
 .seq (.ops false [⟨none, [.mov (some 35) (.t 5), .bin (some 36) .add (.t 35) (.k (.int .i64 1)), .mov (some 5) (.t 36)]⟩]) <|
 .ops false [⟨none, [.mov (some 37) (.t 3), .iadr (some 38) 5 (.t 37) (.k (.int .i64 0)), .fadr (some 39) 4 (.t 38), .load (some 40) false 1 false (.t 39), .iadr (some 41) 3 (.t 40) (.k (.int .i64 0)), .fadr (some 42) 2 (.t 41), .load (some 43) false 1 false (.t 42), .mov (some 3) (.t 43)]⟩]) <|
 .seq (.ops false [⟨none, [.mov (some 44) (.t 4), .bin (some 45) .eql (.t 44) (.k (.int .i64 0)), .mov (some 46) (.t 45)]⟩,
 ⟨some (46, true), [.mov (some 47) (.t 5), .mov (some 48) (.t 0), .mx (some 49) false (.t 48) (.k (.int .i64 20)), .bin (some 50) .eql (.t 47) (.t 49)]⟩,
 ⟨none, [.pick (some 51) (.t 46) (.t 50) (.k (.bool false)), .mov (some 52) (.t 51)]⟩,
 ⟨some (52, true), [.call (some 53) true (F 35) []]⟩,
 ⟨none, [.pick (some 54) (.t 52) (.t 53) (.k (.bool false)), .mov (some 2) (.t 54)]⟩]) <|
 .ret
abbrev Is41 (P : Program) (F T : Nat → Nat) : Prop := Fn P (F 41) 55 [(2, none)] (c41 F T)
def c43 (F T : Nat → Nat) : C :=
 .seq (.ops false [⟨none, [.mov (some 2) (.k (.bool false))]⟩]) <|
 .seq (.ops false [⟨none, [.mov (some 8) (.t 0), .bin (some 9) .and (.t 8) (.k (.int .i64 15)), .bin (some 10) .add (.k (.int .i64 2)) (.t 9), .mov (some 0) (.t 10)]⟩]) <|
 .seq (.ops false [⟨none, [.mov (some 12) (.t 0), .call (some 13) true (F 42) [(.k (.str [123])), (.t 12)], .bin (some 14) .add (.t 13) (.k (.str [97])), .mov (some 15) (.t 0), .call (some 16) true (F 42) [(.k (.str [125])), (.t 15)], .bin (some 17) .add (.t 14) (.t 16), .call (some 18) true (F 36) [(.t 17)], .mov (some 11) (.t 18), .ext (some 19) 0 (.t 11), .ext (some 20) 1 (.t 11), .mov (some 3) (.t 19), .mov (some 4) (.t 20)]⟩]) <|
 .seq (.ops false [⟨none, [.mov (some 5) (.k (.int .i64 0)), .mov (some 6) (.k (.int .i64 0))]⟩]) <|
 .seqc (.seq (.ops false [⟨none, [.mov (some 21) (.t 0), .bin (some 22) .rem (.t 21) (.k (.int .i64 3)), .bin (some 23) .eql (.t 22) (.k (.int .i64 1))]⟩]) <|
 .cond (.t 23)
 (.seq (.seq (.ops true [⟨none, [.mov (some 24) (.t 3), .len (some 25) false (.t 24), .bin (some 26) .neq (.t 25) (.k (.int .i64 3)), .mov (some 27) (.t 26)]⟩,
 ⟨some (27, false), [.mov (some 28) (.t 3), .slc (some 29) 5 (.t 28) none (some (.k (.int .i64 1))), .call (some 30) true (F 44) [(.k (.str [123]))], .call (some 31) true (F 7) [(.t 29), (.t 30)], .un (some 32) .not (.t 31)]⟩,
 ⟨none, [.pick (some 33) (.t 27) (.k (.bool true)) (.t 32), .mov (some 34) (.t 33)]⟩,
 ⟨some (34, false), [.mov (some 35) (.t 3), .slc (some 36) 5 (.t 35) (some (.k (.int .i64 2))) none, .call (some 37) true (F 44) [(.k (.str [125]))], .call (some 38) true (F 7) [(.t 36), (.t 37)], .un (some 39) .not (.t 38)]⟩,
 ⟨none, [.pick (some 40) (.t 34) (.k (.bool true)) (.t 39)]⟩]) <|
 .cond (.t 40)
 (.seq (.ops false [⟨none, [.mov (some 2) (.k (.bool false))]⟩]) <|
 .ret)
 (.skip)) <|
 .ops false [⟨none, [.mov (some 41) (.t 3), .slc (some 42) 5 (.t 41) (some (.k (.int .i64 1))) (some (.k (.int .i64 2))), .mov (some 3) (.t 42)]⟩])
 (.skip)) <|
 .seq (.block 0 <|
 .loop <|
 .seq (.seq (.ops false [⟨none, [.mov (some 43) (.t 3), .len (some 44) false (.t 43), .bin (some 45) .eql (.t 44) (.k (.int .i64 1)), .mov (some 46) (.t 45)]⟩,
 ⟨some (46, true), [.mov (some 47) (.t 3), .iadr (some 48) 5 (.t 47) (.k (.int .i64 0)), .fadr (some 49) 0 (.t 48), .load (some 50) false 1 false (.t 49), .bin (some 51) .eql (.t 50) (.k (.int .i64 5)), .mov (some 52) (.t 51)]⟩,
 ⟨some (52, false), [.mov (some 53) (.t 3), .iadr (some 54) 5 (.t 53) (.k (.int .i64 0)), .fadr (some 55) 0 (.t 54), .load (some 56) false 1 false (.t 55), .bin (some 57) .eql (.t 56) (.k (.int .i64 4))]⟩,
 ⟨some (46, true), [.pick (some 58) (.t 52) (.k (.bool true)) (.t 57)]⟩,
 ⟨none, [.pick (some 59) (.t 46) (.t 58) (.k (.bool false))]⟩]) <|
 .cond (.t 59)
 (.skip)
 (.exit 0)) <|
 .block 1 <|
 .seq (.seq (.ops false [⟨none, [.mov (some 60) (.t 3), .iadr (some 61) 5 (.t 60) (.k (.int .i64 0)), .fadr (some 62) 0 (.t 61), .load (some 63) false 1 false (.t 62), .bin (some 64) .eql (.t 63) (.k (.int .i64 5))]⟩]) <|
 .cond (.t 64)
 (.ops false [⟨none, [.mov (some 65) (.t 5), .bin (some 66) .add (.t 65) (.k (.int .i64 1)), .mov (some 5) (.t 66)]⟩])
 (.ops false [⟨none, [.mov (some 67) (.t 6), .bin (some 68) .add (.t 67) (.k (.int .i64 1)), .mov (some 6) (.t 68)]⟩])) <|
 .ops false [⟨none, [.mov (some 69) (.t 3), .iadr (some 70) 5 (.t 69) (.k (.int .i64 0)), .fadr (some 71) 3 (.t 70), .load (some 72) false 1 false (.t 71), .mov (some 3) (.t 72)]⟩]) <|
 .seq (.ops false [⟨none, [.mov (some 7) (.k (.int .i64 0))]⟩]) <|
 .seqc (.seq (.ops false [⟨none, [.mov (some 73) (.t 0), .bin (some 74) .rem (.t 73) (.k (.int .i64 3)), .bin (some 75) .eql (.t 74) (.k (.int .i64 2))]⟩]) <|
 .cond (.t 75)
 (.ops false [⟨none, [.mov (some 7) (.k (.int .i64 1))]⟩])
 (.skip)) <|
 .seq (.ops false [⟨none, [.mov (some 76) (.t 4), .bin (some 77) .eql (.t 76) (.k (.int .i64 0)), .mov (some 78) (.t 77)]⟩,
 ⟨some (78, true), [.mov (some 79) (.t 3), .call (some 80) true (F 44) [(.k (.str [97]))], .call (some 81) true (F 7) [(.t 79), (.t 80)]]⟩,
 ⟨none, [.pick (some 82) (.t 78) (.t 81) (.k (.bool false)), .mov (some 83) (.t 82)]⟩,
 ⟨some (83, true), [.mov (some 84) (.t 5), .mov (some 85) (.t 0), .bin (some 86) .quo (.t 85) (.k (.int .i64 3)), .bin (some 87) .eql (.t 84) (.t 86)]⟩,
 ⟨none, [.pick (some 88) (.t 83) (.t 87) (.k (.bool false)), .mov (some 89) (.t 88)]⟩,
 ⟨some (89, true), [.mov (some 90) (.t 6), .mov (some 91) (.t 7), .bin (some 92) .eql (.t 90) (.t 91)]⟩,
 ⟨none, [.pick (some 93) (.t 89) (.t 92) (.k (.bool false)), .mov (some 94) (.t 93)]⟩,
 ⟨some (94, true), [.call (some 95) true (F 35) []]⟩,
 ⟨none, [.pick (some 96) (.t 94) (.t 95) (.k (.bool false)), .mov (some 2) (.t 96)]⟩]) <|
 .ret
abbrev Is43 (P : Program) (F T : Nat → Nat) : Prop := Fn P (F 43) 97 [(2, none)] (c43 F T)
def c44 (F T : Nat → Nat) : C :=
 .seq (.ops false [⟨none, [.mov (some 2) (.k .nils)]⟩]) <|
 .seq (.ops false [⟨none, [.mov (some 3) (.t 0), .build (some 4) [(.int .i64 0), (.int .i64 0), (.str []), .nils, .nils] [(0, 1, (.k (.int .i64 1))), (2, 1, (.t 3))], .mkl (some 5) 5 [(.t 4)], .mov (some 2) (.t 5)]⟩]) <|
 .ret
abbrev Is44 (P : Program) (F T : Nat → Nat) : Prop := Fn P (F 44) 6 [(2, none)] (c44 F T)
def c48 (F T : Nat → Nat) : C :=
 .seq (.ops false [⟨none, [.mov (some 4) (.k (.bool false))]⟩]) <|
 .seq (.seq (.ops false [⟨none, [.mov (some 14) (.t 0), .len (some 15) true (.t 14), .bin (some 16) .gtr (.t 15) (.k (.int .i64 300)), .mov (some 17) (.t 16)]⟩,
 ⟨some (17, false), [.mov (some 18) (.t 0), .call (some 19) true (F 49) [(.t 18), (.k (.str [60]))]]⟩,
 ⟨none, [.pick (some 20) (.t 17) (.k (.bool true)) (.t 19)]⟩]) <|
 .cond (.t 20)
 (.seq (.ops false [⟨none, [.call (some 21) true (F 35) [], .mov (some 4) (.t 21)]⟩]) <|
 .ret)
 (.skip)) <|
 .seq (.ops false [⟨none, [.mov (some 5) (.k (.int .i64 0))]⟩]) <|
 .seq (.ops false [⟨none, [.mov (some 23) (.t 0), .call (some 24) true (F 50) [(.t 23)], .mov (some 22) (.t 24), .ext (some 25) 0 (.t 22), .ext (some 26) 1 (.t 22), .mov (some 6) (.t 25), .mov (some 7) (.t 26)]⟩]) <|
 .seq (.seq (.ops false [⟨none, [.mov (some 8) (.k (.int .i64 0))]⟩]) <|
 .block 0 <|
 .loop <|
 .seq (.seq (.ops false [⟨none, [.mov (some 27) (.t 8), .mov (some 28) (.t 6), .len (some 29) false (.t 28), .bin (some 30) .lss (.t 27) (.t 29)]⟩]) <|
 .cond (.t 30)
 (.skip)
 (.exit 0)) <|
 .seq (.block 1 <|
 .seq (.ops false [⟨none, [.mov (some 33) (.t 6), .mov (some 34) (.t 8), .iadr (some 35) 3 (.t 33) (.t 34), .fadr (some 36) 0 (.t 35), .load (some 37) false 1 false (.t 36), .bin (some 38) .eql (.t 37) (.k (.int .i64 3)), .mov (some 39) (.t 38)]⟩,
 ⟨some (39, false), [.mov (some 40) (.t 6), .mov (some 41) (.t 8), .iadr (some 42) 3 (.t 40) (.t 41), .fadr (some 43) 0 (.t 42), .load (some 44) false 1 false (.t 43), .bin (some 45) .eql (.t 44) (.k (.int .i64 5))]⟩,
 ⟨none, [.pick (some 46) (.t 39) (.k (.bool true)) (.t 45)]⟩]) <|
 .cond (.t 46)
 (.ops false [⟨none, [.mov (some 47) (.t 5), .bin (some 48) .add (.t 47) (.k (.int .i64 1)), .mov (some 5) (.t 48)]⟩])
 (.skip)) <|
 .ops false [⟨none, [.mov (some 31) (.t 8), .bin (some 32) .add (.t 31) (.k (.int .i64 1)), .mov (some 8) (.t 32)]⟩]) <|
 .seq (.seq (.ops false [⟨none, [.mov (some 49) (.t 5), .bin (some 50) .geq (.t 49) (.k (.int .i64 20))]⟩]) <|
 .cond (.t 50)
 (.seq (.ops false [⟨none, [.call (some 51) true (F 35) [], .mov (some 4) (.t 51)]⟩]) <|
 .ret)
 (.skip)) <|
 .seq (.ops false [⟨none, [.mov (some 52) (.t 1), .bin (some 53) .and (.t 52) (.k (.int .i64 3)), .bin (some 54) .rem (.t 53) (.k (.int .i64 3)), .bin (some 55) .add (.k (.int .i64 1)) (.t 54), .mov (some 9) (.t 55)]⟩]) <|
 .seq (.ops false [⟨none, [.mov (some 57) (.t 0), .call (some 58) true (F 36) [(.t 57)], .mov (some 56) (.t 58), .ext (some 59) 0 (.t 56), .ext (some 60) 1 (.t 56), .mov (some 10) (.t 59), .mov (some 11) (.t 60)]⟩]) <|
 .seq (.ops false [⟨none, [.mov (some 62) (.t 9), .call (some 63) true (F 25) [(.t 62), (.k (.bool false))], .mov (some 64) (.t 0), .bin (some 65) .add (.t 63) (.t 64), .mov (some 66) (.t 9), .call (some 67) true (F 25) [(.t 66), (.k (.bool true))], .bin (some 68) .add (.t 65) (.t 67), .call (some 69) true (F 36) [(.t 68)], .mov (some 61) (.t 69), .ext (some 70) 0 (.t 61), .ext (some 71) 1 (.t 61), .mov (some 12) (.t 70), .mov (some 13) (.t 71)]⟩]) <|
 .seq (.ops false [⟨none, [.mov (some 72) (.t 11), .bin (some 73) .eql (.t 72) (.k (.int .i64 0)), .mov (some 74) (.t 73)]⟩,
 ⟨some (74, true), [.mov (some 75) (.t 13), .bin (some 76) .eql (.t 75) (.k (.int .i64 0))]⟩,
 ⟨none, [.pick (some 77) (.t 74) (.t 76) (.k (.bool false)), .mov (some 78) (.t 77)]⟩,
 ⟨some (78, true), [.mov (some 79) (.t 12), .mov (some 80) (.t 9), .mov (some 81) (.t 10), .build (some 82) [(.int .i64 0), (.int .i64 0), (.str []), .nils, .nils] [(0, 1, (.k (.int .i64 6))), (1, 1, (.t 80)), (3, 1, (.t 81))], .mkl (some 83) 5 [(.t 82)], .call (some 84) true (F 7) [(.t 79), (.t 83)]]⟩,
 ⟨none, [.pick (some 85) (.t 78) (.t 84) (.k (.bool false)), .mov (some 86) (.t 85)]⟩,
 ⟨some (86, true), [.call (some 87) true (F 35) []]⟩,
 ⟨none, [.pick (some 88) (.t 86) (.t 87) (.k (.bool false)), .mov (some 4) (.t 88)]⟩]) <|
 .ret
abbrev Is48 (P : Program) (F T : Nat → Nat) : Prop := Fn P (F 48) 89 [(4, none)] (c48 F T)
def c51 (F T : Nat → Nat) : C :=
 .seq (.ops false [⟨none, [.mov (some 2) (.k (.bool false))]⟩]) <|
 .seq (.seq (.ops false [⟨none, [.mov (some 5) (.t 0), .len (some 6) true (.t 5), .bin (some 7) .gtr (.t 6) (.k (.int .i64 800))]⟩]) <|
 .cond (.t 7)
 (.seq (.ops false [⟨none, [.call (some 8) true (F 35) [], .mov (some 2) (.t 8)]⟩]) <|
 .ret)
 (.skip)) <|
 .seq (.ops false [⟨none, [.mov (some 10) (.t 0), .call (some 11) true (F 36) [(.t 10)], .mov (some 9) (.t 11), .ext (some 12) 0 (.t 9), .ext (some 13) 1 (.t 9), .mov (some 3) (.t 12), .mov (some 4) (.t 13)]⟩]) <|
 .seq (.ops false [⟨none, [.mov (some 14) (.t 4), .bin (some 15) .eql (.t 14) (.k (.int .i64 0)), .mov (some 16) (.t 15)]⟩,
 ⟨some (16, true), [.mov (some 17) (.t 3), .call (some 18) true (F 20) [(.t 17)], .mov (some 19) (.t 3), .call (some 20) true (F 7) [(.t 18), (.t 19)]]⟩,
 ⟨none, [.pick (some 21) (.t 16) (.t 20) (.k (.bool false)), .mov (some 22) (.t 21)]⟩,
 ⟨some (22, true), [.call (some 23) true (F 35) []]⟩,
 ⟨none, [.pick (some 24) (.t 22) (.t 23) (.k (.bool false)), .mov (some 2) (.t 24)]⟩]) <|
 .ret
abbrev Is51 (P : Program) (F T : Nat → Nat) : Prop := Fn P (F 51) 25 [(2, none)] (c51 F T)
def c52 (F T : Nat → Nat) : C :=
 .seq (.ops false [⟨none, [.mov (some 2) (.k (.bool false))]⟩]) <|
 .seq (.seq (.ops false [⟨none, [.mov (some 5) (.t 0), .len (some 6) true (.t 5), .bin (some 7) .gtr (.t 6) (.k (.int .i64 1500))]⟩]) <|
 .cond (.t 7)
 (.seq (.ops false [⟨none, [.call (some 8) true (F 35) [], .mov (some 2) (.t 8)]⟩]) <|
 .ret)
 (.skip)) <|
 .seq (.ops false [⟨none, [.mov (some 10) (.t 0), .call (some 11) true (F 36) [(.t 10)], .mov (some 9) (.t 11), .ext (some 12) 0 (.t 9), .ext (some 13) 1 (.t 9), .mov (some 3) (.t 12), .mov (some 4) (.t 13)]⟩]) <|
 .seq (.ops false [⟨none, [.mov (some 14) (.t 4), .bin (some 15) .eql (.t 14) (.k (.int .i64 0)), .mov (some 16) (.t 15)]⟩,
 ⟨some (16, true), [.mov (some 17) (.t 3), .call (some 18) true (F 2) [(.t 17)], .mov (some 19) (.t 0), .bin (some 20) .eql (.t 18) (.t 19)]⟩,
 ⟨none, [.pick (some 21) (.t 16) (.t 20) (.k (.bool false)), .mov (some 22) (.t 21)]⟩,
 ⟨some (22, true), [.call (some 23) true (F 35) []]⟩,
 ⟨none, [.pick (some 24) (.t 22) (.t 23) (.k (.bool false)), .mov (some 2) (.t 24)]⟩]) <|
 .ret
abbrev Is52 (P : Program) (F T : Nat → Nat) : Prop := Fn P (F 52) 25 [(2, none)] (c52 F T)
def c53 (F T : Nat → Nat) : C :=
 .seq (.ops false [⟨none, [.mov (some 2) (.k (.bool false))]⟩]) <|
 .seq (.seq (.ops false [⟨none, [.mov (some 5) (.t 0), .len (some 6) true (.t 5), .bin (some 7) .gtr (.t 6) (.k (.int .i64 1500)), .mov (some 8) (.t 7)]⟩,
 ⟨some (8, false), [.mov (some 9) (.t 0), .call (some 10) true (F 54) [(.t 9), (.k (.str [123, 125, 91, 93, 60, 124, 61]))]]⟩,
 ⟨none, [.pick (some 11) (.t 8) (.k (.bool true)) (.t 10)]⟩]) <|
 .cond (.t 11)
 (.seq (.ops false [⟨none, [.call (some 12) true (F 35) [], .mov (some 2) (.t 12)]⟩]) <|
 .ret)
 (.skip)) <|
 .seq (.ops false [⟨none, [.mov (some 14) (.t 0), .call (some 15) true (F 36) [(.t 14)], .mov (some 13) (.t 15), .ext (some 16) 0 (.t 13), .ext (some 17) 1 (.t 13), .mov (some 3) (.t 16), .mov (some 4) (.t 17)]⟩]) <|
 .seq (.seq (.ops false [⟨none, [.mov (some 18) (.t 0), .bin (some 19) .eql (.t 18) (.k (.str []))]⟩]) <|
 .cond (.t 19)
 (.seq (.ops false [⟨none, [.mov (some 20) (.t 4), .bin (some 21) .eql (.t 20) (.k (.int .i64 0)), .mov (some 22) (.t 21)]⟩,
 ⟨some (22, true), [.mov (some 23) (.t 3), .len (some 24) false (.t 23), .bin (some 25) .eql (.t 24) (.k (.int .i64 0))]⟩,
 ⟨none, [.pick (some 26) (.t 22) (.t 25) (.k (.bool false)), .mov (some 27) (.t 26)]⟩,
 ⟨some (27, true), [.call (some 28) true (F 35) []]⟩,
 ⟨none, [.pick (some 29) (.t 27) (.t 28) (.k (.bool false)), .mov (some 2) (.t 29)]⟩]) <|
 .ret)
 (.skip)) <|
 .seq (.ops false [⟨none, [.mov (some 30) (.t 4), .bin (some 31) .eql (.t 30) (.k (.int .i64 0)), .mov (some 32) (.t 31)]⟩,
 ⟨some (32, true), [.mov (some 33) (.t 3), .mov (some 34) (.t 0), .call (some 35) true (F 44) [(.t 34)], .call (some 36) true (F 7) [(.t 33), (.t 35)]]⟩,
 ⟨none, [.pick (some 37) (.t 32) (.t 36) (.k (.bool false)), .mov (some 38) (.t 37)]⟩,
 ⟨some (38, true), [.call (some 39) true (F 35) []]⟩,
 ⟨none, [.pick (some 40) (.t 38) (.t 39) (.k (.bool false)), .mov (some 2) (.t 40)]⟩]) <|
 .ret
abbrev Is53 (P : Program) (F T : Nat → Nat) : Prop := Fn P (F 53) 41 [(2, none)] (c53 F T)
def c55 (F T : Nat → Nat) : C :=
 .seq (.ops false [⟨none, [.mov (some 4) (.k (.bool false))]⟩]) <|
 .seq (.seq (.ops false [⟨none, [.mov (some 8) (.t 0), .len (some 9) true (.t 8), .bin (some 10) .gtr (.t 9) (.k (.int .i64 300)), .mov (some 11) (.t 10)]⟩,
 ⟨some (11, false), [.mov (some 12) (.t 0), .call (some 13) true (F 54) [(.t 12), (.k (.str [123, 125, 91, 93, 60]))]]⟩,
 ⟨none, [.pick (some 14) (.t 11) (.k (.bool true)) (.t 13)]⟩]) <|
 .cond (.t 14)
 (.seq (.ops false [⟨none, [.call (some 15) true (F 35) [], .mov (some 4) (.t 15)]⟩]) <|
 .ret)
 (.skip)) <|
 .seq (.ops false [⟨none, [.mkl (some 16) 1 [(.k (.str [123, 123])), (.k (.str [123, 123, 123])), (.k (.str [91, 91])), (.k (.str [123, 123, 123, 123, 123]))], .mov (some 17) (.t 1), .bin (some 18) .and (.t 17) (.k (.int .i64 3)), .iadr (some 19) 1 (.t 16) (.t 18), .load (some 20) false 1 false (.t 19), .mov (some 21) (.t 0), .bin (some 22) .add (.t 20) (.t 21), .mov (some 5) (.t 22)]⟩]) <|
 .seq (.ops false [⟨none, [.mov (some 24) (.t 5), .call (some 25) true (F 36) [(.t 24)], .mov (some 23) (.t 25), .ext (some 26) 0 (.t 23), .ext (some 27) 1 (.t 23), .mov (some 6) (.t 26), .mov (some 7) (.t 27)]⟩]) <|
 .seq (.ops false [⟨none, [.mov (some 28) (.t 7), .bin (some 29) .eql (.t 28) (.k (.int .i64 0)), .mov (some 30) (.t 29)]⟩,
 ⟨some (30, true), [.mov (some 31) (.t 6), .mov (some 32) (.t 5), .call (some 33) true (F 44) [(.t 32)], .call (some 34) true (F 7) [(.t 31), (.t 33)]]⟩,
 ⟨none, [.pick (some 35) (.t 30) (.t 34) (.k (.bool false)), .mov (some 36) (.t 35)]⟩,
 ⟨some (36, true), [.call (some 37) true (F 35) []]⟩,
 ⟨none, [.pick (some 38) (.t 36) (.t 37) (.k (.bool false)), .mov (some 4) (.t 38)]⟩]) <|
 .ret
abbrev Is55 (P : Program) (F T : Nat → Nat) : Prop := Fn P (F 55) 39 [(4, none)] (c55 F T)
end Go.Ab
/- The laws of the parser: what they share; ParseKeeps and ParseJoined. No condition. -/
namespace Go.Ab
set_option linter.unusedVariables false
set_option linter.unusedSimpArgs false

variable {P : Program} {F T : Nat → Nat}

theorem finF_bulk (st : List El) : bulks (finF st) ≤ pot st := by
  have h := flatN_pot (st.length - 1) st
  unfold finF
  cases hf : flatN (st.length - 1) st with
  | nil => simp [bulks]
  | cons e r =>
    rw [hf] at h
    simp only [pot, El.pot] at h
    simp only; omega
theorem parseF_bulk (s : List UInt8) : bulks (parseF s) ≤ 31 + 35 * s.length := by
  obtain ⟨g1, g2⟩ := scan_good s
  have h := (runF_inv (s := s) (scan s) (st := [root]) (fun t ht => (g1 t ht).wf) root_sv.inv).2
  have := finF_bulk (runF s (scan s) [root])
  have e : pot [root] ≤ 31 := by simp [pot, El.pot, root, bulks, bulkA]
  unfold parseF
  omega

theorem imm_lv {l : List Node} : (V.lst 5 (vns l)).imm = true := by simp only [V.imm, imms_vns]
theorem t44 (hf : Is44 P F T) (s : List UInt8) : PTr P (F 44) [.str s] (.lst 5 (vns [tx s])) := by
  refine ptrC [] hf (by simp) (by simp only [V.imm, imms_vns]) ?_
  simp only [c44, push_cast, seval, -Nat.reducePow, decide_true, decide_false]
  simp [view, vns, Node.vs, tx, vas, ln]

structure P4 (P : Program) (F : Nat → Nat) : Prop where
  parse : ∀ s : List UInt8, s.length ≤ 8192 → PTr P (F 36) [.str s] (.tup [ln 5 (vns (parseF s)), .int .i64 0])
  eq : ∀ l l' : List Node, bulks l ≤ 2 ^ 26 → PTr P (F 7) [.lst 5 (encs l), .lst 5 (encs l')] (.bool (eqB l l'))
  src : ∀ l : List Node, bulks l ≤ 2 ^ 26 → PTr P (F 2) [.lst 5 (encs l)] (.str (srcs l))
  join : ∀ l : List Node, bulks l ≤ 2 ^ 26 → PTr P (F 20) [.lst 5 (encs l)] (.lst 5 (encs (joinF [] l)))
  word : ∀ s : List UInt8, PTr P (F 44) [.str s] (.lst 5 (vns [tx s]))
  known : PTr P (F 35) [] (.bool true)

def knT : List UInt8 := [123, 123, 97, 124, 98, 61, 99, 125, 125]
def knL : List Node := [.mk 4 0 [] [tx [97]] [.mk true [tx [98]] [tx [99]]]]
theorem kn_eq : parseF knT = knL := by kernel_rfl
theorem t35 (hf : Is35 P F T) (h36 : ∀ s : List UInt8, s.length ≤ 8192 → PTr P (F 36) [.str s] (.tup [ln 5 (vns (parseF s)), .int .i64 0]))
    (h7 : ∀ l l' : List Node, bulks l ≤ 2 ^ 26 → PTr P (F 7) [.lst 5 (encs l), .lst 5 (encs l')] (.bool (eqB l l'))) (h44 : ∀ s : List UInt8, PTr P (F 44) [.str s] (.lst 5 (vns [tx s]))) : PTr P (F 35) [] (.bool true) := by
  refine ptrC [] hf (by simp) rfl ?_
  simp only [c35, push_cast, seval, -Nat.reducePow, decide_true, decide_false]
  refine callK_intro (h36 knT (by simp [knT])) (by simp only [push_cast, seval, -Nat.reducePow, decide_true, decide_false]) (by simp only [push_cast, seval, -Nat.reducePow, decide_true, decide_false]) ?_
  simp only [push_cast, seval, -Nat.reducePow, decide_true, decide_false]
  refine callK_intro (h44 [97]) (by simp only [push_cast, seval, -Nat.reducePow, decide_true, decide_false]) imm_lv ?_
  refine callK_intro (h44 [98]) (by simp only [push_cast, seval, -Nat.reducePow, decide_true, decide_false]) imm_lv ?_
  refine callK_intro (h44 [99]) (by simp only [push_cast, seval, -Nat.reducePow, decide_true, decide_false]) imm_lv ?_
  simp only [push_cast, seval, -Nat.reducePow, decide_true, decide_false]
  have hb := parseF_bulk knT
  refine callK_le (h7 (parseF knT) knL (by have : knT.length = 9 := rfl; omega)) ?_ ?_ (by simp only [push_cast, seval, -Nat.reducePow, decide_true, decide_false]) ?_
  · rw [show encs knL = [.agg [.int .i64 4, .int .i64 0, .str [], .lst 5 (encs [tx [97]]), .lst 3 [.agg [.bool true, .lst 5 (encs [tx [98]]), .lst 5 (encs [tx [99]])]]]] from rfl]
    simp only [leL_cons, leL_nil, le_lst, le_agg, le_rfl', le_nils, true_and, and_true]
    exact ⟨le_ln (le_vns _), le_vns _, le_vns _, le_vns _⟩
  · simp only [push_cast, seval, -Nat.reducePow, decide_true, decide_false, imm_ln, imms_vns]
  · simp only [push_cast, seval, -Nat.reducePow, decide_true, decide_false, kn_eq, view, eqB_self]

theorem law52 (hf : Is52 P F T) (H : P4 P F) (s : List UInt8) : PTr P (F 52) [.str s] (.bool true) := by
  refine ptrC [] hf (by simp) rfl ?_
  simp only [c52, push_cast, seval, -Nat.reducePow, decide_true, decide_false]
  refine condK_dec (fun h => ?_) (fun h => ?_)
  · simp only [push_cast, seval, -Nat.reducePow, decide_true, decide_false]
    refine callK_intro H.known (by simp only [push_cast, seval, -Nat.reducePow, decide_true, decide_false]) (by simp only [push_cast, seval, -Nat.reducePow, decide_true, decide_false]) ?_
    simp only [push_cast, seval, -Nat.reducePow, decide_true, decide_false, view]
  · have hl : s.length ≤ 1500 := by omega
    simp only [push_cast, seval, -Nat.reducePow, decide_true, decide_false]
    refine callK_intro (H.parse s (by omega)) (by simp only [push_cast, seval, -Nat.reducePow, decide_true, decide_false]) (by simp only [push_cast, seval, -Nat.reducePow, decide_true, decide_false]) ?_
    simp only [push_cast, seval, -Nat.reducePow, decide_true, decide_false]
    have hb := parseF_bulk s
    refine callK_le (H.src (parseF s) (by omega)) ?_ ?_ (by simp only [push_cast, seval, -Nat.reducePow, decide_true, decide_false]) ?_
    · simp only [leL_cons, leL_nil, and_true]; exact le_ln (le_vns _)
    · simp only [push_cast, seval, -Nat.reducePow, decide_true, decide_false, imm_ln, imms_vns]
    · rw [srcs_parseF]
      simp only [push_cast, seval, -Nat.reducePow, decide_true, decide_false]
      refine callK_intro H.known (by simp only [push_cast, seval, -Nat.reducePow, decide_true, decide_false]) (by simp only [push_cast, seval, -Nat.reducePow, decide_true, decide_false]) ?_
      simp only [push_cast, seval, -Nat.reducePow, decide_true, decide_false, view]
theorem law51 (hf : Is51 P F T) (H : P4 P F) (s : List UInt8) : PTr P (F 51) [.str s] (.bool true) := by
  refine ptrC [] hf (by simp) rfl ?_
  simp only [c51, push_cast, seval, -Nat.reducePow, decide_true, decide_false]
  refine condK_dec (fun h => ?_) (fun h => ?_)
  · simp only [push_cast, seval, -Nat.reducePow, decide_true, decide_false]
    refine callK_intro H.known (by simp only [push_cast, seval, -Nat.reducePow, decide_true, decide_false]) (by simp only [push_cast, seval, -Nat.reducePow, decide_true, decide_false]) ?_
    simp only [push_cast, seval, -Nat.reducePow, decide_true, decide_false, view]
  · have hl : s.length ≤ 800 := by omega
    simp only [push_cast, seval, -Nat.reducePow, decide_true, decide_false]
    refine callK_intro (H.parse s (by omega)) (by simp only [push_cast, seval, -Nat.reducePow, decide_true, decide_false]) (by simp only [push_cast, seval, -Nat.reducePow, decide_true, decide_false]) ?_
    simp only [push_cast, seval, -Nat.reducePow, decide_true, decide_false]
    have hb := parseF_bulk s
    refine callK_le (H.join (parseF s) (by omega)) ?_ ?_ (by simp only [push_cast, seval, -Nat.reducePow, decide_true, decide_false]) ?_
    · simp only [leL_cons, leL_nil, and_true]; exact le_ln (le_vns _)
    · simp only [push_cast, seval, -Nat.reducePow, decide_true, decide_false, imm_ln, imms_vns]
    · rw [joinF_parseF]
      try simp only [push_cast, seval, -Nat.reducePow, decide_true, decide_false]
      refine callK_le (H.eq (parseF s) (parseF s) (by omega)) ?_ ?_ (by simp only [push_cast, seval, -Nat.reducePow, decide_true, decide_false]) ?_
      · simp only [leL_cons, leL_nil, and_true]; exact ⟨V.le_refl _, le_ln (le_vns _)⟩
      · simp only [push_cast, seval, -Nat.reducePow, decide_true, decide_false, imm_ln, imms_vns]
      · rw [eqB_self]
        simp only [push_cast, seval, -Nat.reducePow, decide_true, decide_false]
        refine callK_intro H.known (by simp only [push_cast, seval, -Nat.reducePow, decide_true, decide_false]) (by simp only [push_cast, seval, -Nat.reducePow, decide_true, decide_false]) ?_
        simp only [push_cast, seval, -Nat.reducePow, decide_true, decide_false, view]
end Go.Ab
