/- Rights: May. No condition. -/
import Derived.Test.YtcmnepgnkcoiiaaGreatDoorAbCl
namespace Go.Ab
set_option linter.unusedVariables false
set_option linter.unusedSimpArgs false
variable {P : Program} {F T : Nat → Nat}
open Go.Lib
theorem scV_at {l : List Scp} {i : Nat} (h : i < l.length) : ∃ q, l[i]? = some q ∧ (scV l).getD i .junk = .agg [.int .i64 q.k, .int .i64 q.sp, .str q.n] := ⟨l[i], by simp [h], by simp [scV, List.getD, h, Scp.v]⟩
theorem ruV_at {l : List Rul} {i : Nat} (h : i < l.length) : ∃ q, l[i]? = some q ∧ (ruV l).getD i .junk = .agg [.bool q.al, .int .i64 q.ri, .str q.gr, .int .i64 q.sc.k, .int .i64 q.sc.sp, .str q.sc.n] := ⟨l[i], by simp [h], by simp [ruV, List.getD, h, Rul.v]⟩
theorem ruV_len (l : List Rul) : (ruV l).length = l.length := List.length_map ..
theorem ruV_imm (l : List Rul) : V.imms (ruV l) = true := imms_map _ _ fun q => rfl
theorem drop_at {α : Type} {l : List α} {i : Nat} {q : α} (h : l[i]? = some q) : l.drop i = q :: l.drop (i + 1) := by
 obtain ⟨h1, rfl⟩ := List.getElem?_eq_some_iff.1 h
 exact List.drop_eq_getElem_cons h1
theorem levF_len (sp : Int) (s : List UInt8) : (levF sp s).length ≤ s.length + 3 := by
 have := anc_len sp s s.length
 simp [levF]; omega
theorem valid_len {sp : Int} {s : List UInt8} (h : validF sp s = true) : s.length ≤ 100 := by
 by_cases h1 : s.length ≤ 100
 ·exact h1
 ·exfalso; simp [validF, h1] at h
def polV (gv : List V) (rs : List Rul) (dv : List V) : V := .agg [.lst 2 gv, .lst 6 (ruV rs), .lst 5 dv]
/-- May -/
theorem t178 (hf : Is178 P F T) {sp : Int} {s : List UInt8} {g : List (List UInt8)} (h185 : PTr P (F 185) [ttV sp s] (.bool (validF sp s))) (h181 : validF sp s = true → PTr P (F 181) [ttV sp s] (.lst 3 (scV (levF sp s)))) (h182 : ∀ a b : Scp, PTr P (F 182) [a.v, b.v] (.bool (covB a b))) (h220 : ∀ x, PTr P (F 220) [.lst 1 (g.map .str), .str x] (.bool (g.contains x)))
 (gv : List V) (rs : List Rul) (dv : List V) (hgv : V.imms gv = true) (hdv : V.imms dv = true) (hrs : rs.length ≤ 2 ^ 60) (right : Int) :
 PTr P (F 178) [polV gv rs dv, .lst 1 (g.map .str), .int .i64 right, ttV sp s] (.bool (mayF rs g right sp s)) := by
 refine ptrC [] hf (by simp) rfl ?_
 have hri := ruV_imm rs
 have hgi := imms_str g
 have hrl := ruV_len rs
 simp only [c178, push_cast, seval, -Nat.reducePow, polV, ttV, hgv, hdv, hri] at h185 h181 ⊢
 refine callK_intro h185 (by simp only [push_cast, seval, -Nat.reducePow]) (by simp only [push_cast, seval, -Nat.reducePow]) ?_
 by_cases hv : validF sp s = true
 rotate_left
 ·have hv' : validF sp s = false := by simpa using hv
  simp only [push_cast, seval, -Nat.reducePow, hv', view, mayF, Bool.false_and]
 by_cases a1 : right < 1
 ·have d1 : ¬ 1 ≤ right := by omega
  simp only [push_cast, seval, -Nat.reducePow, hv, a1, d1, view, mayF, Bool.true_and, Bool.false_and]
 by_cases a2 : 5 < right
 ·have d2 : ¬ right ≤ 5 := by omega
  simp only [push_cast, seval, -Nat.reducePow, hv, a1, a2, d2, view, mayF, Bool.true_and, Bool.false_and, Bool.and_false]
 have d1 : 1 ≤ right := by omega
 have d2 : right ≤ 5 := by omega
 have hm : mayF rs g right sp s = mayL rs g right (levF sp s) := by simp only [mayF, hv, d1, d2, decide_true, Bool.true_and]
 rw [hm]
 simp only [push_cast, seval, -Nat.reducePow, hv, a1, a2]
 refine callK_intro (h181 hv) (by simp only [push_cast, seval, -Nat.reducePow]) (by simp only [push_cast, seval, -Nat.reducePow, scV_imm]) ?_
 have hsl := valid_len hv
 have hll := levF_len sp s
 obtain ⟨LV, hLV⟩ : ∃ LV, levF sp s = LV := ⟨_, rfl⟩
 rw [hLV] at hll ⊢
 have hlen : (scV LV).length = LV.length := scV_len LV
 simp only [push_cast, seval, -Nat.reducePow, hlen]
 refine loopK_intro (fun m s1 => ∃ i, i ≤ LV.length ∧ m = LV.length - i ∧ mayL rs g right LV = mayL rs g right (LV.drop i) ∧ s1.env 1 = .lst 1 (g.map .str) ∧ s1.env 2 = .int .i64 right ∧ s1.env 4 = .ptr 4 0 ∧ s1.L 4 = some (.box (T 16) [.lst 2 gv, .lst 6 (ruV rs), .lst 5 dv]) ∧ s1.env 27 = .lst 3 (scV LV) ∧ s1.env 28 = .int .i64 LV.length ∧ s1.env 29 = .int .i64 i ∧ 5 ≤ s1.nx) LV.length ⟨0, ?_⟩ fun m s1 hJ => ?_
 ·simp only [push_cast, seval, -Nat.reducePow]
  rfl
 ·obtain ⟨i, hi, rfl, hma, j1, j2, j4, jB, j27, j28, j29, jn⟩ := hJ
  by_cases h : i < LV.length
  ·have h' : ((i : Nat) : Int) < ((LV.length : Nat) : Int) := by omega
   obtain ⟨lv, hlv, hg⟩ := scV_at h
   have hdr := drop_at hlv
   rw [hdr, mayL] at hma
   have q4 : 4 ≠ s1.nx + 75 := by omega
   simp only [push_cast, seval, -Nat.reducePow, j1, j2, j4, jB, j27, j28, j29, h', hlen, hg, q4]
   refine ⟨h, ?_⟩
   refine loopK_intro (fun m2 s2 => ∃ k a b d, k ≤ rs.length ∧ m2 = rs.length - k ∧ atLev g right lv rs (false, true) = atLev g right lv (rs.drop k) (a, b) ∧ s2.env 1 = .lst 1 (g.map .str) ∧ s2.env 2 = .int .i64 right ∧ s2.env 4 = .ptr 4 0 ∧ s2.L 4 = some (.box (T 16) [.lst 2 gv, .lst 6 (ruV rs), .lst 5 dv]) ∧ s2.env 27 = .lst 3 (scV LV) ∧ s2.env 28 = .int .i64 LV.length ∧ s2.env 29 = .int .i64 i ∧ s2.env 10 = .ptr d 0 ∧ s2.L d = some (.box (T 18) [.int .i64 lv.k, .int .i64 lv.sp, .str lv.n]) ∧ s2.env 11 = .bool a ∧ s2.env 12 = .bool b ∧ s2.env 34 = .lst 6 (ruV rs) ∧ s2.env 35 = .int .i64 rs.length ∧ s2.env 36 = .int .i64 k ∧ 5 ≤ d ∧ d < s2.nx) rs.length ⟨0, false, true, s1.nx + 75, ?_⟩ fun m2 s2 hK => ?_
   ·simp only [push_cast, seval, -Nat.reducePow, j1, j2, j4, jB, j27, j28, j29, q4, hrl]
    exact ⟨rfl, by omega⟩
   ·obtain ⟨k, a, b, d, hk, rfl, hat, k1, k2, k4, kB, k27, k28, k29, k10, kD, k11, k12, k34, k35, k36, kd, kd2⟩ := hK
    have p4 : 4 ≠ s2.nx + 79 := by omega
    have pd : d ≠ s2.nx + 79 := by omega
    by_cases e : k < rs.length
    ·have e' : ((k : Nat) : Int) < ((rs.length : Nat) : Int) := by omega
     obtain ⟨r, hr, hgr⟩ := ruV_at e
     have hdk := drop_at hr
     rw [hdk, atLev] at hat
     by_cases e1 : r.ri = right
     rotate_left
     ·have hh : hitB g right lv r = false := by simp [hitB, e1]
      rw [hh] at hat
      simp only [push_cast, seval, -Nat.reducePow, k1, k2, k4, kB, k27, k28, k29, k10, kD, k11, k12, k34, k35, k36, e', hrl, hgr, e1, p4, pd]
      refine ⟨e, ⟨by omega, by omega⟩, rs.length - (k + 1), by omega, k + 1, a, b, d, by omega, rfl, hat, rfl, ?_, rfl, rfl, by simp, kd, by omega⟩
      repeat rw [upd_ne _ _ _ _ (by omega)]
      exact kD
     ·simp only [push_cast, seval, -Nat.reducePow, k1, k2, k4, kB, k27, k28, k29, k10, kD, k11, k12, k34, k35, k36, e', hrl, hgr, e1, p4, pd]
      refine ⟨e, callK_intro (h220 r.gr) (by simp only [push_cast, seval, -Nat.reducePow, hgi]) (by simp only [push_cast, seval, -Nat.reducePow]) ?_⟩
      cases e2 : g.contains r.gr with
      | false =>
        have hh : hitB g right lv r = false := by simp only [hitB, e2, Bool.and_false, Bool.false_and]
        rw [hh] at hat
        simp only [push_cast, seval, -Nat.reducePow, k1, k2, k4, kB, k27, k28, k29, k10, kD, k11, k12, k34, k35, k36, p4, pd]
        refine ⟨⟨by omega, by omega⟩, rs.length - (k + 1), by omega, k + 1, a, b, d, by omega, rfl, hat, rfl, ?_, rfl, rfl, by simp, kd, by omega⟩
        repeat rw [upd_ne _ _ _ _ (by omega)]
        exact kD
      | true =>
        simp only [push_cast, seval, -Nat.reducePow, k1, k2, k4, kB, k27, k28, k29, k10, kD, k11, k12, k34, k35, k36, p4, pd]
        refine callK_intro (h182 r.sc lv) (by simp only [push_cast, seval, -Nat.reducePow, Scp.v]) (by simp only [push_cast, seval, -Nat.reducePow]) ?_
        have hh : hitB g right lv r = covB r.sc lv := by simp only [hitB, e1, e2, decide_true, Bool.true_and]
        rw [hh] at hat
        cases e3 : covB r.sc lv with
        | false =>
          rw [e3] at hat
          simp only [push_cast, seval, -Nat.reducePow, k1, k2, k4, kB, k27, k28, k29, k10, kD, k11, k12, k34, k35, k36, p4, pd]
          refine ⟨⟨by omega, by omega⟩, rs.length - (k + 1), by omega, k + 1, a, b, d, by omega, rfl, hat, rfl, ?_, rfl, rfl, by simp, kd, by omega⟩
          repeat rw [upd_ne _ _ _ _ (by omega)]
          exact kD
        | true =>
          rw [e3] at hat
          cases b with
          | false =>
            simp only [push_cast, seval, -Nat.reducePow, k1, k2, k4, kB, k27, k28, k29, k10, kD, k11, k12, k34, k35, k36, p4, pd]
            refine ⟨⟨by omega, by omega⟩, rs.length - (k + 1), by omega, k + 1, true, false, d, by omega, rfl, hat, rfl, ?_, rfl, rfl, by simp, kd, by omega⟩
            repeat rw [upd_ne _ _ _ _ (by omega)]
            exact kD
          | true =>
            simp only [push_cast, seval, -Nat.reducePow, k1, k2, k4, kB, k27, k28, k29, k10, kD, k11, k12, k34, k35, k36, p4, pd]
            refine ⟨⟨by omega, by omega⟩, rs.length - (k + 1), by omega, k + 1, true, r.al, d, by omega, rfl, hat, rfl, ?_, rfl, rfl, by simp, kd, by omega⟩
            repeat rw [upd_ne _ _ _ _ (by omega)]
            exact kD
    ·have e' : ¬ ((k : Nat) : Int) < ((rs.length : Nat) : Int) := by omega
     obtain rfl : k = rs.length := by omega
     rw [List.drop_length, atLev] at hat
     rw [hat] at hma
     cases a with
     | true =>
       simp only [push_cast, seval, -Nat.reducePow, k1, k2, k4, kB, k27, k28, k29, k10, kD, k11, k12, k34, k35, k36, e', view]
       rw [hma]; rfl
     | false =>
       simp only [push_cast, seval, -Nat.reducePow, k1, k2, k4, kB, k27, k28, k29, k10, kD, k11, k12, k34, k35, k36, e']
       exact ⟨⟨by omega, by omega⟩, LV.length - (i + 1), by omega, i + 1, by omega, rfl, hma, by simp⟩
  ·have h' : ¬ ((i : Nat) : Int) < ((LV.length : Nat) : Int) := by omega
   obtain rfl : i = LV.length := by omega
   rw [List.drop_length, mayL] at hma
   simp only [push_cast, seval, -Nat.reducePow, j1, j2, j4, jB, j27, j28, j29, h', hma, view]
end Go.Ab
