/- AccessMay. No condition. -/
import Derived.Test.YtcmnepgnkcoiiaaGreatDoorAbCt
import Derived.Test.YtcmnepgnkcoiiaaGreatDoorAbCr
namespace Go.Ab
set_option linter.unusedVariables false
set_option linter.unusedSimpArgs false
variable {P : Program} {F T : Nat → Nat}
open Go.Lib
structure Gro where
 n : List UInt8
 m : List (List UInt8)
def Gro.v (x : Gro) : V := .agg [.str x.n, .lst 1 (x.m.map .str)]
def grV (l : List Gro) : List V := l.map Gro.v
theorem grV_at {l : List Gro} {i : Nat} (h : i < l.length) : ∃ q, l[i]? = some q ∧ (grV l).getD i .junk = .agg [.str q.n, .lst 1 (q.m.map .str)] := ⟨l[i], by simp [h], by simp [grV, List.getD, h, Gro.v]⟩
theorem grV_len (l : List Gro) : (grV l).length = l.length := List.length_map ..
theorem grV_imm (l : List Gro) : V.imms (grV l) = true := imms_map _ _ fun q => by simp [Gro.v, V.imm, V.imms, imms_str]
def largeB (gs : List Gro) (rs : List Rul) (dv : List V) : Bool := decide (12 < gs.length) || decide (30 < rs.length) || decide (12 < dv.length) || gs.any fun g => decide (12 < g.m.length)
/-- large -/
theorem t177 (hf : Is177 P F T) (gs : List Gro) (rs : List Rul) (dv : List V) (hdv : V.imms dv = true) : PTr P (F 177) [polV (grV gs) rs dv] (.bool (largeB gs rs dv)) := by
 refine ptrC [] hf (by simp) rfl ?_
 have hgi := grV_imm gs
 have hgl := grV_len gs
 have hri := ruV_imm rs
 have hrl := ruV_len rs
 simp only [c177, push_cast, seval, -Nat.reducePow, polV, hgi, hri, hdv, hgl, hrl]
 by_cases a1 : 12 < gs.length
 ·have a1' : (12 : Int) < ((gs.length : Nat) : Int) := by omega
  simp only [push_cast, seval, -Nat.reducePow, a1', largeB, decide_eq_true a1, Bool.true_or, view]
 have a1' : ¬ (12 : Int) < ((gs.length : Nat) : Int) := by omega
 by_cases a2 : 30 < rs.length
 ·have a2' : (30 : Int) < ((rs.length : Nat) : Int) := by omega
  simp only [push_cast, seval, -Nat.reducePow, a1', a2', hrl, largeB, decide_eq_true a2, Bool.true_or, Bool.or_true, view]
 have a2' : ¬ (30 : Int) < ((rs.length : Nat) : Int) := by omega
 by_cases a3 : 12 < dv.length
 ·have a3' : (12 : Int) < ((dv.length : Nat) : Int) := by omega
  simp only [push_cast, seval, -Nat.reducePow, a1', a2', a3', hrl, largeB, decide_eq_true a3, Bool.true_or, Bool.or_true, view]
 have a3' : ¬ (12 : Int) < ((dv.length : Nat) : Int) := by omega
 have hb : largeB gs rs dv = gs.any fun g => decide (12 < g.m.length) := by simp only [largeB, decide_eq_false a1, decide_eq_false a2, decide_eq_false a3, Bool.false_or]
 rw [hb]
 simp only [push_cast, seval, -Nat.reducePow, a1', a2', a3', hrl]
 refine loopK_intro (fun m s1 => ∃ i, i ≤ gs.length ∧ m = gs.length - i ∧ (gs.any fun g => decide (12 < g.m.length)) = ((gs.drop i).any fun g => decide (12 < g.m.length)) ∧ s1.env 1 = .ptr 1 0 ∧ s1.L 1 = some (.box (T 16) [.lst 2 (grV gs), .lst 6 (ruV rs), .lst 5 dv]) ∧ s1.env 3 = .int .i64 i) gs.length ⟨0, ?_⟩ fun m s1 hJ => ?_
 ·simp only [push_cast, seval, -Nat.reducePow]
  rfl
 ·obtain ⟨i, hi, rfl, hn, j1, jB, j3⟩ := hJ
  by_cases h : i < gs.length
  ·have h' : ((i : Nat) : Int) < ((gs.length : Nat) : Int) := by omega
   obtain ⟨q, hq, hg⟩ := grV_at h
   rw [drop_at hq, List.any_cons] at hn
   have hml : (q.m.map V.str).length = q.m.length := List.length_map ..
   by_cases e : 12 < q.m.length
   ·have e' : (12 : Int) < ((q.m.length : Nat) : Int) := by omega
    rw [decide_eq_true e, Bool.true_or] at hn
    simp only [push_cast, seval, -Nat.reducePow, j1, jB, j3, h', hgl, hg, hml, e', hn, view]
    exact h
   ·have e' : ¬ (12 : Int) < ((q.m.length : Nat) : Int) := by omega
    rw [decide_eq_false e, Bool.false_or] at hn
    simp only [push_cast, seval, -Nat.reducePow, j1, jB, j3, h', hgl, hg, hml, e']
    exact ⟨h, ⟨by omega, by omega⟩, gs.length - (i + 1), by omega, i + 1, by omega, rfl, hn, by simp⟩
  ·have h' : ¬ ((i : Nat) : Int) < ((gs.length : Nat) : Int) := by omega
   obtain rfl : i = gs.length := by omega
   rw [List.drop_length, List.any_nil] at hn
   simp only [push_cast, seval, -Nat.reducePow, j1, jB, j3, h', hgl, hn, view]
/-- the functions behind the reference's May -/
structure RMayC (P : Program) (F T : Nat → Nat) : Prop where
 h102 : Is102 P F T
 h201 : Is201 P F T
 h202 : Is202 P F T
 h203 : Is203 P F T
 h204 : Is204 P F T
 h205 : Is205 P F T
 h199 : Is199 P F T
 h200 : Is200 P F T
 h194 : Is194 P F T
 h195 : Is195 P F T
 h193 : Is193 P F T
 h192 : Is192 P F T
theorem rmay_ok (H : RMayC P F T) {sp : Int} {s : List UInt8} {g : List (List UInt8)} (hs : s.length ≤ 90000) (hg : g.length ≤ 2 ^ 60) (gv : List V) (rs : List Rul) (dv : List V) (hgv : V.imms gv = true) (hdv : V.imms dv = true) (hrs : rs.length ≤ 2 ^ 60) (right : Int) :
 PTr P (F 192) [polV gv rs dv, .lst 1 (g.map .str), .int .i64 right, ttV sp s] (.bool (mayF rs g right sp s)) := by
 have h199 := t199 H.h199 H.h102 H.h201 H.h202 H.h203 H.h204 H.h205 sp s (by omega)
 exact t192 H.h192 h199 (fun hv => t194 H.h194 H.h200 (by rw [hv] at h199; exact h199) hs) (t195 H.h195) (fun x => t193 H.h193 g x hg) gv rs dv hgv hdv hrs right
/-- AccessMay -/
theorem law174 (hf : Is174 P F T) (h177 : Is177 P F T) (M : MayC P F T) (R : RMayC P F T) (kn : PTr P (F 176) [] (.bool true)) (gs : List Gro) (rs : List Rul) (dv : List V) (hdv : V.imms dv = true) (g : List (List UInt8)) (right sp : Int) (s : List UInt8) :
 PTr P (F 174) [polV (grV gs) rs dv, .lst 1 (g.map .str), .int .i64 right, ttV sp s] (.bool true) := by
 refine ptrC [] hf (by simp) rfl ?_
 have hgi := grV_imm gs
 have hri := ruV_imm rs
 have hsi := imms_str g
 have hgl : (g.map V.str).length = g.length := List.length_map ..
 have hlb := t177 h177 gs rs dv hdv
 have c1 : s.length ≤ 90000 → g.length ≤ 2 ^ 60 → rs.length ≤ 2 ^ 60 → _ := fun a b c => may_ok M (sp := sp) (s := s) (g := g) a b (grV gs) rs dv hgi hdv c right
 have c2 : s.length ≤ 90000 → g.length ≤ 2 ^ 60 → rs.length ≤ 2 ^ 60 → _ := fun a b c => rmay_ok R (sp := sp) (s := s) (g := g) a b (grV gs) rs dv hgi hdv c right
 simp only [polV, ttV] at hlb c1 c2 ⊢
 simp only [c174, push_cast, seval, -Nat.reducePow, hgi, hri, hdv]
 refine callK_intro hlb (by simp only [push_cast, seval, -Nat.reducePow, hgi, hri, hdv]) (by simp only [push_cast, seval, -Nat.reducePow]) ?_
 cases hb : largeB gs rs dv with
 | true =>
   simp only [push_cast, seval, -Nat.reducePow]
   refine callK_intro kn (by simp only [push_cast, seval, -Nat.reducePow]) (by simp only [push_cast, seval, -Nat.reducePow]) ?_
   simp only [push_cast, seval, -Nat.reducePow, view]
 | false =>
   have hr30 : rs.length ≤ 30 := by
    by_cases e : 30 < rs.length
    ·simp [largeB, e] at hb
    ·omega
   by_cases a1 : 20 < g.length
   ·have a1' : (20 : Int) < ((g.length : Nat) : Int) := by omega
    simp only [push_cast, seval, -Nat.reducePow, hgl, a1']
    refine callK_intro kn (by simp only [push_cast, seval, -Nat.reducePow]) (by simp only [push_cast, seval, -Nat.reducePow]) ?_
    simp only [push_cast, seval, -Nat.reducePow, view]
   have a1' : ¬ (20 : Int) < ((g.length : Nat) : Int) := by omega
   by_cases a2 : 300 < s.length
   ·have a2' : (300 : Int) < ((s.length : Nat) : Int) := by omega
    simp only [push_cast, seval, -Nat.reducePow, hgl, a1', a2']
    refine callK_intro kn (by simp only [push_cast, seval, -Nat.reducePow]) (by simp only [push_cast, seval, -Nat.reducePow]) ?_
    simp only [push_cast, seval, -Nat.reducePow, view]
   have a2' : ¬ (300 : Int) < ((s.length : Nat) : Int) := by omega
   simp only [push_cast, seval, -Nat.reducePow, hgl, a1', a2']
   refine callK_intro (c1 (by omega) (by omega) (by omega)) (by simp only [push_cast, seval, -Nat.reducePow, hgi, hri, hdv, hsi]) (by simp only [push_cast, seval, -Nat.reducePow]) ?_
   simp only [push_cast, seval, -Nat.reducePow]
   refine callK_intro (c2 (by omega) (by omega) (by omega)) (by simp only [push_cast, seval, -Nat.reducePow, hgi, hri, hdv, hsi]) (by simp only [push_cast, seval, -Nat.reducePow]) ?_
   simp only [push_cast, seval, -Nat.reducePow, beq_self_eq_true]
   refine callK_intro kn (by simp only [push_cast, seval, -Nat.reducePow]) (by simp only [push_cast, seval, -Nat.reducePow]) ?_
   simp only [push_cast, seval, -Nat.reducePow, view]
end Go.Ab
