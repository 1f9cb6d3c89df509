/- SectionExact, SectionTexts, SectionBuilt, SectionReplaces. No condition. -/
import Derived.Test.YtchchhmmaioffaaGreatDoorAbZ4
import Derived.Test.YtchchhmmaioffaaGreatDoorAbR7
namespace Go.Ab
set_option linter.unusedVariables false
set_option linter.unusedSimpArgs false
variable {P : Program} {F T : Nat → Nat}
open Go.Lib
/-- the functions on sections -/
structure SecFns (P : Program) (F T : Nat → Nat) : Prop where
 s1 : SectC P (F 124)
 s2 : SectC P (F 159)
 h139 : Is139 P F T
 h141 : Is141 P F T
 h170 : Is170 P F T
 h132 : Is132 P F T
 h161 : Is161 P F T
 h162 : Is162 P F T
 h163 : Is163 P F T
 h131 : Is131 P F T
 h164 : Is164 P F T
 h134 : Is134 P F T
 h167 : Is167 P F T
 strc : StrC P F
 kn : PTr P (F 126) [] (.bool true)
/-- SectionExact -/
theorem law158 (hf : Is158 P F T) (Z : SecFns P F T) (s : List UInt8) : PTr P (F 158) [.str s] (.bool true) := by
 have hl2 := sect_len s
 refine ptrC [] hf (by simp) rfl ?_
 simp only [c158, push_cast, seval, -Nat.reducePow]
 by_cases h : 800 < s.length
 ·have h' : (800 : Int) < (s.length : Nat) := by omega
  simp only [push_cast, seval, -Nat.reducePow, h']
  refine callK_intro Z.kn (by simp only [push_cast, seval, -Nat.reducePow]) (by simp only [push_cast, seval, -Nat.reducePow]) ?_
  simp only [push_cast, seval, -Nat.reducePow, view]
 ·have h' : ¬ (800 : Int) < (s.length : Nat) := by omega
  simp only [push_cast, seval, -Nat.reducePow, h']
  refine callK_intro (Z.s1 s (by omega)) (by simp only [push_cast, seval, -Nat.reducePow]) (by simp only [push_cast, seval, -Nat.reducePow, secV_imm]) ?_
  simp only [push_cast, seval, -Nat.reducePow]
  refine callK_intro (Z.s2 s (by omega)) (by simp only [push_cast, seval, -Nat.reducePow]) (by simp only [push_cast, seval, -Nat.reducePow, secV_imm]) ?_
  simp only [push_cast, seval, -Nat.reducePow]
  refine callK_intro (t139 Z.h139 (sectF s) (by omega)) (by simp only [push_cast, seval, -Nat.reducePow, secV_imm]) (by simp only [push_cast, seval, -Nat.reducePow]) ?_
  simp only [push_cast, seval, -Nat.reducePow]
  refine callK_intro Z.kn (by simp only [push_cast, seval, -Nat.reducePow]) (by simp only [push_cast, seval, -Nat.reducePow]) ?_
  simp only [push_cast, seval, -Nat.reducePow, view]
/-- SectionTexts -/
theorem law165 (hf : Is165 P F T) (Z : SecFns P F T) (s : List UInt8) (i : Int) : PTr P (F 165) [.str s, .int .i64 i] (.bool true) := by
 refine ptrC [] hf (by simp) rfl ?_
 simp only [c165, push_cast, seval, -Nat.reducePow]
 by_cases h : 600 < s.length
 ·have h' : (600 : Int) < (s.length : Nat) := by omega
  simp only [push_cast, seval, -Nat.reducePow, h']
  refine callK_intro Z.kn (by simp only [push_cast, seval, -Nat.reducePow]) (by simp only [push_cast, seval, -Nat.reducePow]) ?_
  simp only [push_cast, seval, -Nat.reducePow, view]
 ·have h' : ¬ (600 : Int) < (s.length : Nat) := by omega
  simp only [push_cast, seval, -Nat.reducePow, h']
  refine callK_intro (t132 Z.h132 Z.h141 Z.s1 s (by omega) i) (by simp only [push_cast, seval, -Nat.reducePow]) (by simp only [push_cast, seval, -Nat.reducePow]) ?_
  simp only [push_cast, seval, -Nat.reducePow]
  refine callK_intro (t161 Z.h161 Z.h170 Z.s2 s (by omega) i) (by simp only [push_cast, seval, -Nat.reducePow]) (by simp only [push_cast, seval, -Nat.reducePow]) ?_
  simp only [push_cast, seval, -Nat.reducePow]
  refine callK_intro (t162 Z.h162 Z.h141 Z.s1 s (by omega) i) (by simp only [push_cast, seval, -Nat.reducePow]) (by simp only [push_cast, seval, -Nat.reducePow]) ?_
  simp only [push_cast, seval, -Nat.reducePow]
  refine callK_intro (t163 Z.h163 Z.h170 Z.s2 s (by omega) i) (by simp only [push_cast, seval, -Nat.reducePow]) (by simp only [push_cast, seval, -Nat.reducePow]) ?_
  simp only [push_cast, seval, -Nat.reducePow]
  refine callK_intro (t131 Z.h131 Z.s1 s (by omega)) (by simp only [push_cast, seval, -Nat.reducePow]) (by simp only [push_cast, seval, -Nat.reducePow]) ?_
  simp only [push_cast, seval, -Nat.reducePow]
  refine callK_intro (t164 Z.h164 Z.s2 s (by omega)) (by simp only [push_cast, seval, -Nat.reducePow]) (by simp only [push_cast, seval, -Nat.reducePow]) ?_
  simp only [push_cast, seval, -Nat.reducePow]
  refine callK_intro Z.kn (by simp only [push_cast, seval, -Nat.reducePow]) (by simp only [push_cast, seval, -Nat.reducePow]) ?_
  simp only [push_cast, seval, -Nat.reducePow, view]
theorem ptr_lenA {f : Nat} {sz : Nat} {es : List V} {ys : List V} {r : V} (h : es.length < 2 ^ 63 → PTr P f (.lst sz es :: ys) r) : PTr P f (.lst sz es :: ys) r := by
 intro D w vs hD hg hn hr
 have h0 := hr 0 (.lst sz es) rfl
 have hl : es.length < 2 ^ 63 := by
  revert h0
  generalize vs.getD 0 undef = v
  intro h0
  cases h0
  omega
 exact h hl D w vs hD hg hn hr
/-- SectionBuilt -/
theorem law160 (hf : Is160 P F T) (Z : SecFns P F T) (K : TC2 P F T) (h39 : Is39 P F T) (es : List V) (hi : V.imms es = true) (hes : ∀ e, e ∈ es → ∃ m, e = .int .i64 m) (i : Int) : PTr P (F 160) [.lst 1 es, .int .i64 i] (.bool true) := by
 refine ptr_lenA fun hl => ?_
 obtain ⟨k, hk, hv⟩ := and_small i 15 (by omega)
 have hv' : vbits .and .i64 i 15 = (k : Int) := hv
 refine ptrC [] hf (by simp [hi]) rfl ?_
 simp only [c160, push_cast, seval, -Nat.reducePow]
 refine ecallK_intro (n39 h39 es hi hes hl) ?_
 rintro v L0 n0 ⟨p, rfl, hp, hn, hT⟩
 refine ecallK_intro (n40 K 3 (by omega) hT (by omega)) ?_
 rintro v L1 n1 ⟨s, rfl, hq, hT1⟩
 have hl2 := sect_len s
 simp only [push_cast, seval, -Nat.reducePow]
 by_cases h : 1500 < s.length
 ·have h' : (1500 : Int) < (s.length : Nat) := by omega
  simp only [push_cast, seval, -Nat.reducePow, h']
  refine callK_intro Z.kn (by simp only [push_cast, seval, -Nat.reducePow]) (by simp only [push_cast, seval, -Nat.reducePow]) ?_
  simp only [push_cast, seval, -Nat.reducePow, view]
 ·have h' : ¬ (1500 : Int) < (s.length : Nat) := by omega
  simp only [push_cast, seval, -Nat.reducePow, h']
  refine callK_intro (Z.s1 s (by omega)) (by simp only [push_cast, seval, -Nat.reducePow]) (by simp only [push_cast, seval, -Nat.reducePow, secV_imm]) ?_
  simp only [push_cast, seval, -Nat.reducePow]
  refine callK_intro (Z.s2 s (by omega)) (by simp only [push_cast, seval, -Nat.reducePow]) (by simp only [push_cast, seval, -Nat.reducePow, secV_imm]) ?_
  simp only [push_cast, seval, -Nat.reducePow, hv']
  refine And.intro (by omega) ?_
  refine callK_intro (t132 Z.h132 Z.h141 Z.s1 s (by omega) _) (by simp only [push_cast, seval, -Nat.reducePow]) (by simp only [push_cast, seval, -Nat.reducePow]) ?_
  simp only [push_cast, seval, -Nat.reducePow]
  refine callK_intro (t161 Z.h161 Z.h170 Z.s2 s (by omega) _) (by simp only [push_cast, seval, -Nat.reducePow]) (by simp only [push_cast, seval, -Nat.reducePow]) ?_
  simp only [push_cast, seval, -Nat.reducePow]
  refine callK_intro (t162 Z.h162 Z.h141 Z.s1 s (by omega) _) (by simp only [push_cast, seval, -Nat.reducePow]) (by simp only [push_cast, seval, -Nat.reducePow]) ?_
  simp only [push_cast, seval, -Nat.reducePow]
  refine callK_intro (t163 Z.h163 Z.h170 Z.s2 s (by omega) _) (by simp only [push_cast, seval, -Nat.reducePow]) (by simp only [push_cast, seval, -Nat.reducePow]) ?_
  simp only [push_cast, seval, -Nat.reducePow]
  refine callK_intro (t131 Z.h131 Z.s1 s (by omega)) (by simp only [push_cast, seval, -Nat.reducePow]) (by simp only [push_cast, seval, -Nat.reducePow]) ?_
  simp only [push_cast, seval, -Nat.reducePow]
  refine callK_intro (t164 Z.h164 Z.s2 s (by omega)) (by simp only [push_cast, seval, -Nat.reducePow]) (by simp only [push_cast, seval, -Nat.reducePow]) ?_
  simp only [push_cast, seval, -Nat.reducePow]
  refine callK_intro (t139 Z.h139 (sectF s) (by omega)) (by simp only [push_cast, seval, -Nat.reducePow, secV_imm]) (by simp only [push_cast, seval, -Nat.reducePow]) ?_
  simp only [push_cast, seval, -Nat.reducePow]
  refine callK_intro Z.kn (by simp only [push_cast, seval, -Nat.reducePow]) (by simp only [push_cast, seval, -Nat.reducePow]) ?_
  simp only [push_cast, seval, -Nat.reducePow, view]
/-- SectionReplaces -/
theorem law166 (hf : Is166 P F T) (Z : SecFns P F T) (K : TC2 P F T) (h39 : Is39 P F T) (es : List V) (hi : V.imms es = true) (hes : ∀ e, e ∈ es → ∃ m, e = .int .i64 m) (i : Int) (t : List UInt8) : PTr P (F 166) [.lst 1 es, .int .i64 i, .str t] (.bool true) := by
 refine ptr_lenA fun hl => ?_
 obtain ⟨k, hk, hv⟩ := and_small i 15 (by omega)
 have hv' : vbits .and .i64 i 15 = (k : Int) := hv
 refine ptrC [] hf (by simp [hi]) rfl ?_
 simp only [c166, push_cast, seval, -Nat.reducePow]
 refine ecallK_intro (n39 h39 es hi hes hl) ?_
 rintro v L0 n0 ⟨p, rfl, hp, hn, hT⟩
 refine ecallK_intro (n40 K 2 (by omega) hT (by omega)) ?_
 rintro v L1 n1 ⟨s, rfl, hq, hT1⟩
 simp only [push_cast, seval, -Nat.reducePow]
 by_cases h : 1500 < s.length
 ·have h' : (1500 : Int) < (s.length : Nat) := by omega
  simp only [push_cast, seval, -Nat.reducePow, h']
  refine callK_intro Z.kn (by simp only [push_cast, seval, -Nat.reducePow]) (by simp only [push_cast, seval, -Nat.reducePow]) ?_
  simp only [push_cast, seval, -Nat.reducePow, view]
 ·have h' : ¬ (1500 : Int) < (s.length : Nat) := by omega
  by_cases h2 : 500 < t.length
  ·have h2' : (500 : Int) < (t.length : Nat) := by omega
   simp only [push_cast, seval, -Nat.reducePow, h', h2']
   refine callK_intro Z.kn (by simp only [push_cast, seval, -Nat.reducePow]) (by simp only [push_cast, seval, -Nat.reducePow]) ?_
   simp only [push_cast, seval, -Nat.reducePow, view]
  ·have h2' : ¬ (500 : Int) < (t.length : Nat) := by omega
   simp only [push_cast, seval, -Nat.reducePow, h', h2', hv']
   repeat refine And.intro (by omega) ?_
   refine callK_intro (t134 Z.h134 Z.strc Z.h141 Z.s1 s (by omega) _ t (by omega)) (by simp only [push_cast, seval, -Nat.reducePow]) (by simp only [push_cast, seval, -Nat.reducePow]) ?_
   simp only [push_cast, seval, -Nat.reducePow, hv']
   repeat refine And.intro (by omega) ?_
   refine callK_intro (t167 Z.h167 Z.h170 Z.s2 s (by omega) _ t (by omega)) (by simp only [push_cast, seval, -Nat.reducePow]) (by simp only [push_cast, seval, -Nat.reducePow]) ?_
   simp only [push_cast, seval, -Nat.reducePow]
   refine callK_intro Z.kn (by simp only [push_cast, seval, -Nat.reducePow]) (by simp only [push_cast, seval, -Nat.reducePow]) ?_
   simp only [push_cast, seval, -Nat.reducePow, view]
end Go.Ab
