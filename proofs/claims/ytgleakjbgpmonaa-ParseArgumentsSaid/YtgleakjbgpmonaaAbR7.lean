/- Several texts of one kind, merged. No condition. -/
import Derived.Test.YtgleakjbgpmonaaAbR1
import Derived.Test.YtgleakjbgpmonaaAbR5
import Derived.Test.YtgleakjbgpmonaaAbR3
/- Lowered code of the functions, by program. No condition. -/
namespace Go.Ab
set_option linter.unusedVariables false
def c39 (F T : Nat → Nat) : C :=
 .seq (.ops false [⟨none, [.mov (some 2) (.k .nilp)]⟩]) <|
 .seq (.ops false [⟨none, [.mov (some 3) (.t 0), .build (some 4) [.nils, (.int .i64 0)] [(0, 1, (.t 3))], .box 5 (T 10) (.t 4), .mov (some 2) (.t 5)]⟩]) <|
 .ret
abbrev Is39 (P : Program) (F T : Nat → Nat) : Prop := Fn P (F 39) 6 [(2, none)] (c39 F T)
def c45 (F T : Nat → Nat) : C :=
 .seq (.ops false [⟨none, [.mov (some 2) (.k (.bool false))]⟩]) <|
 .seq (.ops false [⟨none, [.mov (some 13) (.t 0), .ecall (some 14) 66 (F 39) [(.t 13)], .mov (some 3) (.t 14)]⟩]) <|
 .seq (.ops false [⟨none, [.mov (some 4) (.k (.str [123, 123, 110]))]⟩]) <|
 .seq (.gha (.own 5 (T 1) 3) <| .ops false [⟨none, [.mov (some 5) (.k .nils)]⟩]) <|
 .seq (.seq (.ops false [⟨none, [.mov (some 6) (.k (.int .i64 0))]⟩]) <|
 .block 0 <|
 .loop <|
 .seq (.seq (.ops false [⟨none, [.mov (some 15) (.t 6), .mov (some 16) (.t 3), .ecall (some 17) 66 (F 46) [(.t 16), (.k (.int .i64 5))], .bin (some 18) .lss (.t 15) (.t 17)]⟩]) <|
 .cond (.t 18)
 (.skip)
 (.exit 0)) <|
 .seq (.block 1 <|
 .seq (.ops false [⟨none, [.mov (some 21) (.t 3), .mkl (some 22) 1 [(.k (.str [])), (.k (.str [97])), (.k (.str [91, 91, 65, 124, 98, 61, 99, 93, 93])), (.k (.str [123, 123, 84, 124, 120, 61, 121, 125, 125])), (.k (.str [123, 123, 123, 49, 124, 100, 125, 125, 125])), (.k (.str [60, 110, 111, 119, 105, 107, 105, 62, 124, 61, 60, 47, 110, 111, 119, 105, 107, 105, 62])), (.k (.str [97, 93, 93, 98])), (.k (.str [60, 33, 45, 45, 124, 45, 45, 62]))], .ecall (some 23) 66 (F 47) [(.t 21), (.t 22)], .mov (some 7) (.t 23)]⟩]) <|
 .seq (.ops false [⟨none, [.mov (some 25) (.t 7), .call (some 26) true (F 37) [(.t 25)], .mov (some 24) (.t 26), .ext (some 27) 0 (.t 24), .ext (some 28) 1 (.t 24), .mov (some 8) (.t 27), .mov (some 9) (.t 28)]⟩]) <|
 .seq (.ops false [⟨none, [.mov (some 29) (.t 8), .build (some 30) [(.bool false), .nils, .nils] [(2, 1, (.t 29))], .alloc 10 (T 1) [(.bool false), .nils, .nils], .store 3 (.t 10) (.t 30)]⟩]) <|
 .seqc (.seq (.ops false [⟨none, [.mov (some 31) (.t 3), .ecall (some 32) 66 (F 46) [(.t 31), (.k (.int .i64 2))], .bin (some 33) .eql (.t 32) (.k (.int .i64 0))]⟩]) <|
 .cond (.t 33)
 (.seq (.ops false [⟨none, [.call (some 34) true (F 44) [(.k (.str [107]))], .fadr (some 35) 0 (.t 10), .store 1 (.t 35) (.k (.bool true)), .fadr (some 36) 1 (.t 10), .store 1 (.t 36) (.t 34)]⟩]) <|
 .ops false [⟨none, [.mov (some 37) (.t 7), .bin (some 38) .add (.k (.str [107, 61])) (.t 37), .mov (some 7) (.t 38)]⟩])
 (.skip)) <|
 .seq (.ops false [⟨none, [.mov (some 39) (.t 5), .load (some 40) false 3 true (.t 10), .mkl (some 41) 3 [(.t 40)], .app 42 (T 1) 3 (.t 39) (.t 41), .mov (some 5) (.t 42)]⟩]) <|
 .ops false [⟨none, [.mov (some 43) (.t 4), .bin (some 44) .add (.t 43) (.k (.str [124])), .mov (some 45) (.t 7), .bin (some 46) .add (.t 44) (.t 45), .mov (some 4) (.t 46)]⟩]) <|
 .ops false [⟨none, [.mov (some 19) (.t 6), .bin (some 20) .add (.t 19) (.k (.int .i64 1)), .mov (some 6) (.t 20)]⟩]) <|
 .seq (.gh .fz <| .ops false [⟨none, [.mov (some 48) (.t 4), .bin (some 49) .add (.t 48) (.k (.str [125, 125])), .call (some 50) true (F 36) [(.t 49)], .mov (some 47) (.t 50), .ext (some 51) 0 (.t 47), .ext (some 52) 1 (.t 47), .mov (some 11) (.t 51), .mov (some 12) (.t 52)]⟩]) <|
 .seq (.ops false [⟨none, [.mov (some 53) (.t 12), .bin (some 54) .eql (.t 53) (.k (.int .i64 0)), .mov (some 55) (.t 54)]⟩,
 ⟨some (55, true), [.mov (some 56) (.t 11), .call (some 57) true (F 44) [(.k (.str [110]))], .mov (some 58) (.t 5), .build (some 59) [(.int .i64 0), (.int .i64 0), (.str []), .nils, .nils] [(0, 1, (.k (.int .i64 4))), (3, 1, (.t 57)), (4, 1, (.t 58))], .mkl (some 60) 5 [(.t 59)], .call (some 61) true (F 7) [(.t 56), (.t 60)]]⟩,
 ⟨none, [.pick (some 62) (.t 55) (.t 61) (.k (.bool false)), .mov (some 63) (.t 62)]⟩,
 ⟨some (63, true), [.call (some 64) true (F 35) []]⟩,
 ⟨none, [.pick (some 65) (.t 63) (.t 64) (.k (.bool false)), .mov (some 2) (.t 65)]⟩]) <|
 .ret
abbrev Is45 (P : Program) (F T : Nat → Nat) : Prop := Fn P (F 45) 66 [(2, none)] (c45 F T)
def c46 (F T : Nat → Nat) : C :=
 .seq (.ops false [⟨none, [.mov (some 4) (.k (.int .i64 0))]⟩]) <|
 .seq (.seq (.ops true [⟨none, [.mov (some 6) (.t 0), .nchk (some 7) (.t 6), .fadr (some 8) 1 (.t 7), .load (some 9) false 1 false (.t 8), .mov (some 10) (.t 0), .nchk (some 11) (.t 10), .fadr (some 12) 0 (.t 11), .load (some 13) false 1 false (.t 12), .len (some 14) false (.t 13), .bin (some 15) .geq (.t 9) (.t 14)]⟩]) <|
 .cond (.t 15)
 (.seq (.ops false [⟨none, [.mov (some 4) (.k (.int .i64 0))]⟩]) <|
 .ret)
 (.skip)) <|
 .seq (.ops true [⟨none, [.mov (some 16) (.t 0), .nchk (some 17) (.t 16), .fadr (some 18) 0 (.t 17), .load (some 19) false 1 false (.t 18), .mov (some 20) (.t 0), .nchk (some 21) (.t 20), .fadr (some 22) 1 (.t 21), .load (some 23) false 1 false (.t 22), .iadr (some 24) 1 (.t 19) (.t 23), .load (some 25) false 1 false (.t 24), .bin (some 26) .and (.t 25) (.k (.int .i64 16777215)), .mov (some 5) (.t 26)]⟩]) <|
 .seq (.ops false [⟨none, [.mov (some 27) (.t 0), .nchk (some 28) (.t 27), .fadr (some 29) 1 (.t 28), .load (some 30) false 1 false (.t 29), .bin (some 31) .add (.t 30) (.k (.int .i64 1)), .nchk (some 32) (.t 27), .fadr (some 33) 1 (.t 32), .store 1 (.t 33) (.t 31)]⟩]) <|
 .seq (.ops false [⟨none, [.mov (some 34) (.t 5), .mov (some 35) (.t 1), .bin (some 36) .rem (.t 34) (.t 35), .mov (some 4) (.t 36)]⟩]) <|
 .ret
abbrev Is46 (P : Program) (F T : Nat → Nat) : Prop := Fn P (F 46) 37 [(4, none)] (c46 F T)
def c47 (F T : Nat → Nat) : C :=
 .seq (.ops false [⟨none, [.mov (some 4) (.k (.str []))]⟩]) <|
 .seq (.ops false [⟨none, [.mov (some 5) (.t 1), .mov (some 6) (.t 0), .mov (some 7) (.t 1), .len (some 8) false (.t 7), .ecall (some 9) 12 (F 46) [(.t 6), (.t 8)], .iadr (some 10) 1 (.t 5) (.t 9), .load (some 11) false 1 false (.t 10), .mov (some 4) (.t 11)]⟩]) <|
 .ret
abbrev Is47 (P : Program) (F T : Nat → Nat) : Prop := Fn P (F 47) 12 [(4, none)] (c47 F T)
end Go.Ab
/- Made texts: the tape. No condition. -/
namespace Go.Ab
set_option linter.unusedVariables false
set_option linter.unusedSimpArgs false

variable {P : Program} {F T : Nat → Nat}

def TB (T : Nat → Nat) (L : Heap) (p : Nat) : Prop := ∃ (es : List V) (a : Nat), L p = some (.box (T 10) [.lst 1 es, .int .i64 a]) ∧ (∀ e, e ∈ es → ∃ m, e = .int .i64 m) ∧ a ≤ es.length ∧ es.length < 2 ^ 63
structure TD (T : Nat → Nat) (L : Heap) (nx p : Nat) (L' : Heap) (nx' : Nat) : Prop where
  tb : TB T L' p
  le : nx ≤ nx'
  fr : ∀ b, b < nx → b ≠ p → L' b = L b
theorem TD.trans {L L1 L2 : Heap} {nx n1 n2 p : Nat} (h : TD T L nx p L1 n1) (k : TD T L1 n1 p L2 n2) : TD T L nx p L2 n2 :=
  ⟨k.tb, Nat.le_trans h.le k.le, fun b hb hbp => (k.fr b (Nat.lt_of_lt_of_le hb h.le) hbp).trans (h.fr b hb hbp)⟩
theorem TD.up {L L' : Heap} {nx n' m p : Nat} (h : TD T L nx p L' n') (hm : n' ≤ m) : TD T L nx p L' m := ⟨h.tb, Nat.le_trans h.le hm, h.fr⟩
theorem TD.dn {L L' : Heap} {nx n' m p : Nat} (h : TD T L m p L' n') (hm : nx ≤ m) : TD T L nx p L' n' := ⟨h.tb, Nat.le_trans hm h.le, fun b hb => h.fr b (Nat.lt_of_lt_of_le hb hm)⟩
structure TC (P : Program) (F T : Nat → Nat) : Prop where
  h46 : Is46 P F T
  h47 : Is47 P F T
theorem n46 (K : TC P F T) {L : Heap} {nx p : Nat} (h : TB T L p) (hp : p < nx) (n : Nat) (hn : 1 ≤ n) (hn2 : n ≤ 100) :
    ECall P (F 46) [.ptr p 0, .int .i64 n] L nx (fun v L' nx' => ∃ r : Nat, v = .int .i64 r ∧ r < n ∧ TD T L nx p L' nx') := by
  obtain ⟨es, a, hL, hes, ha, hl⟩ := h
  refine ecallC [] K.h46 (by simp) ?_
  by_cases hlt : a < es.length
  · have h1 : ¬ ((es.length : Nat) : Int) ≤ (a : Nat) := by omega
    obtain ⟨m, hm⟩ := hes (es[a]) (List.getElem_mem hlt)
    have hg : es.getD a .junk = .int .i64 m := by rw [← hm]; simp [List.getD, hlt]
    obtain ⟨k, hk, hv⟩ := and_small m 16777215 (by omega)
    have hv' : vbits .and .i64 m 16777215 = (k : Int) := hv
    have hu := fun (x : Option Blk) (M : Heap) => upd_same M p x
    have ht : ((k : Nat) : Int).tmod (n : Nat) = ((k % n : Nat) : Int) := by rw [Int.tmod_eq_emod_of_nonneg (by omega)]; simp
    have hn0 : ¬ ((n : Nat) : Int) = 0 := by omega
    simp only [c46, push_cast, seval, -Nat.reducePow, decide_true, decide_false, hL, h1, hg, hv', ht, hu, hn0]
    have hmod : k % n < n := Nat.mod_lt _ (by omega)
    refine ⟨hlt, ⟨by omega, by omega⟩, by omega, k % n, by simp, hmod, ⟨⟨es, a + 1, by rw [hu]; simp, hes, by omega, hl⟩, by omega, fun b hb hbp => upd_ne _ _ _ _ hbp⟩⟩
  · have h1 : ((es.length : Nat) : Int) ≤ (a : Nat) := by omega
    simp only [c46, push_cast, seval, -Nat.reducePow, decide_true, decide_false, hL, h1]
    exact ⟨by omega, 0, by simp, by omega, ⟨⟨es, a, hL, hes, ha, hl⟩, by omega, fun b _ _ => rfl⟩⟩
def strsB (B : Nat) (vs : List V) : Bool := vs.all fun | .str q => decide (q.length ≤ B) | _ => false
theorem strsB_at {B : Nat} {vs : List V} (h : strsB B vs = true) {i : Nat} (hi : i < vs.length) : ∃ q, vs.getD i .junk = .str q ∧ q.length ≤ B := by
  have := List.all_eq_true.1 h vs[i] (List.getElem_mem hi)
  have e : vs.getD i .junk = vs[i] := by simp [List.getD, hi]
  rw [e]
  revert this
  cases vs[i] with
  | str q => intro h; exact ⟨q, rfl, by simpa using h⟩
  | _ => intro h; simp at h
def TS (T : Nat → Nat) (L : Heap) (nx p B : Nat) (v : V) (L' : Heap) (nx' : Nat) : Prop := ∃ q, v = .str q ∧ q.length ≤ B ∧ TD T L nx p L' nx'
theorem n47 (K : TC P F T) {L : Heap} {nx p : Nat} (h : TB T L p) (hp : p < nx) (B : Nat) (vs : List V) (h1 : strsB B vs = true) (h2 : 1 ≤ vs.length) (h3 : vs.length ≤ 100) (hi : V.imms vs = true) :
    ECall P (F 47) [.ptr p 0, .lst 1 vs] L nx (TS T L nx p B) := by
  refine ecallC [] K.h47 (by simp) ?_
  simp only [c47, push_cast, seval, -Nat.reducePow, decide_true, decide_false]
  refine ecallK_intro (n46 K h (nx := nx + 24) (by omega) vs.length h2 h3) ?_
  rintro v L1 n1 ⟨r, rfl, hr, hT⟩
  obtain ⟨q, hq, hb⟩ := strsB_at h1 hr
  have z := hT.dn (nx := nx) (by omega)
  simp only [push_cast, seval, -Nat.reducePow, decide_true, decide_false, hq]
  exact ⟨hr, by have := z.le; omega, q, rfl, hb, z.up (by omega)⟩
theorem n39 (hf : Is39 P F T) {L : Heap} {nx : Nat} (es : List V) (hi : V.imms es = true) (hes : ∀ e, e ∈ es → ∃ m, e = .int .i64 m) (hl : es.length < 2 ^ 63) :
    ECall P (F 39) [.lst 1 es] L nx (fun v L' nx' => ∃ p, v = .ptr p 0 ∧ p < nx' ∧ nx ≤ nx' ∧ TB T L' p) := by
  refine ecallC [] hf (by simp) ?_
  simp only [c39, push_cast, seval, -Nat.reducePow, decide_true, decide_false]
  exact ⟨by omega, nx + 11, rfl, by omega, by omega, es, 0, upd_same _ _ _, hes, Nat.zero_le _, hl⟩
theorem ptr_len {f : Nat} {sz : Nat} {es : List V} {r : V} (h : es.length < 2 ^ 63 → PTr P f [.lst sz es] r) : PTr P f [.lst sz es] r := by
  intro D w vs hD hg hn hr
  have h0 := hr 0 (.lst sz es) rfl
  have hl : es.length < 2 ^ 63 := by
    revert h0
    generalize vs.getD 0 undef = v
    intro h0
    cases h0
    omega
  exact h hl D w vs hD hg hn hr
theorem arg_ints {P : Program} {t te : TypeId} {x : V} (hu : P.underlying t = some (.slice te)) (he : P.underlying te = some (.int .i64)) (hc : P.cellsOf te = 1) (h : ArgT P t x) : ∃ es, x = .lst 1 es ∧ ∀ e, e ∈ es → ∃ m, e = .int .i64 m := by
  obtain ⟨n, hn⟩ := arg_one (by simp [isAg, hu]) h
  cases n with
  | zero => exact (vt_zero hn).elim
  | succ n =>
    simp only [VT, hu, hc] at hn
    obtain ⟨es, h1, h2⟩ := hn
    simp only [List.cons.injEq, and_true] at h1
    refine ⟨es, h1, fun e hx => ?_⟩
    obtain ⟨ys, h3, h4, h5⟩ := h2 e hx
    have ha : isAg P te = false := by simp [isAg, he]
    cases n with
    | zero => exact (vt_zero h5).elim
    | succ n =>
      simp only [VT, he] at h5
      obtain ⟨m, h6, -⟩ := h5
      subst h6
      exact ⟨m, by rw [h3, ha]; rfl⟩
end Go.Ab
