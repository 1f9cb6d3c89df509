/- Rights: the reference's May. No condition. -/
import Derived.Test.YtcmnepgnkcoiiaaGreatDoorAbCm
import Derived.Test.YtcmnepgnkcoiiaaGreatDoorAbCp
import Derived.Test.YtcmnepgnkcoiiaaGreatDoorAbCq
namespace Go.Ab
set_option linter.unusedVariables false
set_option linter.unusedSimpArgs false
variable {P : Program} {F T : Nat → Nat}
open Go.Lib
/-- the reference's May -/
theorem t192 (hf : Is192 P F T) {sp : Int} {s : List UInt8} {g : List (List UInt8)} (h199 : PTr P (F 199) [ttV sp s] (.bool (validF sp s))) (h194 : validF sp s = true → PTr P (F 194) [ttV sp s] (.lst 3 (scV (levF sp s)))) (h195 : ∀ a b : Scp, PTr P (F 195) [a.v, b.v] (.bool (covB a b))) (h193 : ∀ x, PTr P (F 193) [.lst 1 (g.map .str), .str x] (.bool (g.contains x)))
 (gv : List V) (rs : List Rul) (dv : List V) (hgv : V.imms gv = true) (hdv : V.imms dv = true) (hrs : rs.length ≤ 2 ^ 60) (right : Int) :
 PTr P (F 192) [polV gv rs dv, .lst 1 (g.map .str), .int .i64 right, ttV sp s] (.bool (mayF rs g right sp s)) := by
 refine ptrC [] hf (by simp) rfl ?_
 have hri := ruV_imm rs
 have hgi := imms_str g
 have hrl := ruV_len rs
 simp only [c192, push_cast, seval, -Nat.reducePow, polV, ttV, hgv, hdv, hri] at h199 h194 ⊢
 refine callK_intro h199 (by simp only [push_cast, seval, -Nat.reducePow]) (by simp only [push_cast, seval, -Nat.reducePow]) ?_
 by_cases hv : validF sp s = true
 rotate_left
 ·have hv' : validF sp s = false := by simpa using hv
  simp only [push_cast, seval, -Nat.reducePow, hv', view, mayF, Bool.false_and]
 by_cases a1 : right < 1
 ·have d1 : ¬ 1 ≤ right := by omega
  simp only [push_cast, seval, -Nat.reducePow, hv, a1, d1, view, mayF, Bool.true_and, Bool.false_and]
 by_cases a2 : 5 < right
 ·have d2 : ¬ right ≤ 5 := by omega
  simp only [push_cast, seval, -Nat.reducePow, hv, a1, a2, d2, view, mayF, Bool.true_and, Bool.false_and, Bool.and_false]
 have d1 : 1 ≤ right := by omega
 have d2 : right ≤ 5 := by omega
 have hm : mayF rs g right sp s = mayL rs g right (levF sp s) := by simp only [mayF, hv, d1, d2, decide_true, Bool.true_and]
 rw [hm]
 simp only [push_cast, seval, -Nat.reducePow, hv, a1, a2]
 refine callK_intro (h194 hv) (by simp only [push_cast, seval, -Nat.reducePow]) (by simp only [push_cast, seval, -Nat.reducePow, scV_imm]) ?_
 have hsl := valid_len hv
 have hll := levF_len sp s
 obtain ⟨LV, hLV⟩ : ∃ LV, levF sp s = LV := ⟨_, rfl⟩
 rw [hLV] at hll ⊢
 have hlen : (scV LV).length = LV.length := scV_len LV
 simp only [push_cast, seval, -Nat.reducePow, hlen]
 refine loopK_intro (fun m s1 => ∃ i, i ≤ LV.length ∧ m = LV.length - i ∧ mayL rs g right LV = mayL rs g right (LV.drop i) ∧ s1.env 1 = .lst 1 (g.map .str) ∧ s1.env 2 = .int .i64 right ∧ s1.env 4 = .ptr 4 0 ∧ s1.L 4 = some (.box (T 16) [.lst 2 gv, .lst 6 (ruV rs), .lst 5 dv]) ∧ s1.env 9 = .lst 3 (scV LV) ∧ s1.env 10 = .int .i64 i ∧ 5 ≤ s1.nx) LV.length ⟨0, ?_⟩ fun m s1 hJ => ?_
 ·simp only [push_cast, seval, -Nat.reducePow]
  rfl
 ·obtain ⟨i, hi, rfl, hma, j1, j2, j4, jB, j9, j10, jn⟩ := hJ
  by_cases h : i < LV.length
  ·have h' : ((i : Nat) : Int) < ((LV.length : Nat) : Int) := by omega
   obtain ⟨lv, hlv, hg⟩ := scV_at h
   have hdr := drop_at hlv
   rw [hdr, mayL] at hma
   simp only [push_cast, seval, -Nat.reducePow, j1, j2, j4, jB, j9, j10, h', hlen, hg]
   refine loopK_intro (fun m2 s2 => ∃ k a b, k ≤ rs.length ∧ m2 = rs.length - k ∧ atLev g right lv rs (false, true) = atLev g right lv (rs.drop k) (a, b) ∧ s2.env 1 = .lst 1 (g.map .str) ∧ s2.env 2 = .int .i64 right ∧ s2.env 4 = .ptr 4 0 ∧ s2.L 4 = some (.box (T 16) [.lst 2 gv, .lst 6 (ruV rs), .lst 5 dv]) ∧ s2.env 9 = .lst 3 (scV LV) ∧ s2.env 10 = .int .i64 i ∧ s2.env 11 = .bool a ∧ s2.env 12 = .bool b ∧ s2.env 13 = .int .i64 k ∧ 5 ≤ s2.nx) rs.length ⟨0, false, true, ?_⟩ fun m2 s2 hK => ?_
   ·simp only [push_cast, seval, -Nat.reducePow, j1, j2, j4, jB, j9, j10, hrl]
    rfl
   ·obtain ⟨k, a, b, hk, rfl, hat, k1, k2, k4, kB, k9, k10, k11, k12, k13, kn⟩ := hK
    have p4 : 4 ≠ s2.nx + 86 := by omega
    by_cases e : k < rs.length
    ·have e' : ((k : Nat) : Int) < ((rs.length : Nat) : Int) := by omega
     obtain ⟨r, hr, hgr⟩ := ruV_at e
     have hdk := drop_at hr
     rw [hdk, atLev] at hat
     by_cases e1 : r.ri = right
     rotate_left
     ·have hh : hitB g right lv r = false := by simp [hitB, e1]
      rw [hh] at hat
      simp only [push_cast, seval, -Nat.reducePow, k1, k2, k4, kB, k9, k10, k11, k12, k13, hlen, hg, e', hrl, hgr, e1, p4]
      repeat refine And.intro (by omega) ?_
      exact ⟨rs.length - (k + 1), by omega, k + 1, a, b, by omega, rfl, hat, rfl, rfl, by simp⟩
     ·simp only [push_cast, seval, -Nat.reducePow, k1, k2, k4, kB, k9, k10, k11, k12, k13, hlen, hg, e', hrl, hgr, e1, p4]
      refine ⟨e, callK_intro (h193 r.gr) (by simp only [push_cast, seval, -Nat.reducePow, hgi]) (by simp only [push_cast, seval, -Nat.reducePow]) ?_⟩
      cases e2 : g.contains r.gr with
      | false =>
        have hh : hitB g right lv r = false := by simp only [hitB, e2, Bool.and_false, Bool.false_and]
        rw [hh] at hat
        simp only [push_cast, seval, -Nat.reducePow, k1, k2, k4, kB, k9, k10, k11, k12, k13, hlen, hg, p4]
        repeat refine And.intro (by omega) ?_
        exact ⟨rs.length - (k + 1), by omega, k + 1, a, b, by omega, rfl, hat, rfl, rfl, by simp⟩
      | true =>
        simp only [push_cast, seval, -Nat.reducePow, k1, k2, k4, kB, k9, k10, k11, k12, k13, hlen, hg, p4]
        repeat refine And.intro (by omega) ?_
        refine callK_intro (h195 r.sc lv) (by simp only [push_cast, seval, -Nat.reducePow, Scp.v]) (by simp only [push_cast, seval, -Nat.reducePow]) ?_
        have hh : hitB g right lv r = covB r.sc lv := by simp only [hitB, e1, e2, decide_true, Bool.true_and]
        rw [hh] at hat
        cases e3 : covB r.sc lv with
        | false =>
          rw [e3] at hat
          simp only [push_cast, seval, -Nat.reducePow, k1, k2, k4, kB, k9, k10, k11, k12, k13, hlen, hg, p4]
          repeat refine And.intro (by omega) ?_
          exact ⟨rs.length - (k + 1), by omega, k + 1, a, b, by omega, rfl, hat, rfl, rfl, by simp⟩
        | true =>
          rw [e3] at hat
          cases b with
          | false =>
            simp only [push_cast, seval, -Nat.reducePow, k1, k2, k4, kB, k9, k10, k11, k12, k13, hlen, hg, p4]
            repeat refine And.intro (by omega) ?_
            exact ⟨rs.length - (k + 1), by omega, k + 1, true, false, by omega, rfl, hat, rfl, rfl, by simp⟩
          | true =>
            simp only [push_cast, seval, -Nat.reducePow, k1, k2, k4, kB, k9, k10, k11, k12, k13, hlen, hg, p4]
            repeat refine And.intro (by omega) ?_
            exact ⟨rs.length - (k + 1), by omega, k + 1, true, r.al, by omega, rfl, hat, rfl, rfl, by simp⟩
    ·have e' : ¬ ((k : Nat) : Int) < ((rs.length : Nat) : Int) := by omega
     obtain rfl : k = rs.length := by omega
     rw [List.drop_length, atLev] at hat
     rw [hat] at hma
     cases a with
     | true =>
       simp only [push_cast, seval, -Nat.reducePow, k1, k2, k4, kB, k9, k10, k11, k12, k13, hlen, hg, hrl, e', view]
       rw [hma]; rfl
     | false =>
       simp only [push_cast, seval, -Nat.reducePow, k1, k2, k4, kB, k9, k10, k11, k12, k13, hlen, hg, hrl, e']
       exact ⟨⟨by omega, by omega⟩, LV.length - (i + 1), by omega, i + 1, by omega, rfl, hma, by simp⟩
  ·have h' : ¬ ((i : Nat) : Int) < ((LV.length : Nat) : Int) := by omega
   obtain rfl : i = LV.length := by omega
   rw [List.drop_length, mayL] at hma
   simp only [push_cast, seval, -Nat.reducePow, j1, j2, j4, jB, j9, j10, h', hlen, hma, view]
end Go.Ab
