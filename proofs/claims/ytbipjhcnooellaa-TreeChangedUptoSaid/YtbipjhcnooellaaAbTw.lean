/- tree.Source and what it calls. No condition. -/
import Derived.Test.YtbipjhcnooellaaAbBld
import Derived.Test.YtbipjhcnooellaaAbTree
namespace Go.Ab
set_option linter.unusedVariables false
set_option linter.unusedSimpArgs false

theorem Wrote.refl {L : Heap} {nx id tb ty : Nat} {bs : List UInt8} (h : L id = some (.bld tb ty bs)) : Wrote L nx id tb ty bs L nx := ⟨Nat.le_refl _, h, fun _ _ _ => rfl⟩
theorem Wrote.step {L L1 L2 L3 : Heap} {nx nx1 nx2 nx3 id tb ty : Nat} {b1 b2 : List UInt8} (h : Wrote L nx id tb ty b1 L1 nx1) (h2 : Wrote L2 nx2 id tb ty b2 L3 nx3) (hle : nx1 ≤ nx2) (hs : ∀ x, x < nx1 → x ≠ id → L2 x = L1 x) : Wrote L nx id tb ty b2 L3 nx3 :=
  ⟨by have := h.le; have := h2.le; omega, h2.at_, fun x hx hn => by have := h.le; rw [h2.old x (by omega) hn, hs x (by omega) hn, h.old x hx hn]⟩

variable {P : Program} {F T : Nat → Nat}

theorem t32 (hf : Is32 P F T) (t : Int) : PTr P (F 32) [.int .i64 t] (.str (tagName t)) := by
  refine ptrC [] hf (by simp) rfl ?_
  simp only [c32, push_cast, Nat.reduceEqDiff, Nat.reduceAdd, Nat.reduceLT, Nat.reduceLeDiff, Nat.reduceMul, Nat.reduceSub, reduceCtorEq, Int.reduceEq, Int.reduceLT, Int.reduceLE, Int.reduceAdd, Int.reduceSub, Int.reduceToNat, decide_true, decide_false]
  refine condK_dec (fun h => ?_) (fun h => ?_)
  · subst h
    simp only [push_cast, Nat.reduceEqDiff, Nat.reduceAdd, Nat.reduceLT, Nat.reduceLeDiff, Nat.reduceMul, Nat.reduceSub, reduceCtorEq, Int.reduceEq, Int.reduceLT, Int.reduceLE, Int.reduceAdd, Int.reduceSub, Int.reduceToNat, decide_true, decide_false]
    rfl
  · simp only [push_cast, Nat.reduceEqDiff, Nat.reduceAdd, Nat.reduceLT, Nat.reduceLeDiff, Nat.reduceMul, Nat.reduceSub, reduceCtorEq, Int.reduceEq, Int.reduceLT, Int.reduceLE, Int.reduceAdd, Int.reduceSub, Int.reduceToNat, decide_true, decide_false]
    refine condK_dec (fun h2 => ?_) (fun h2 => ?_)
    · subst h2
      simp only [push_cast, Nat.reduceEqDiff, Nat.reduceAdd, Nat.reduceLT, Nat.reduceLeDiff, Nat.reduceMul, Nat.reduceSub, reduceCtorEq, Int.reduceEq, Int.reduceLT, Int.reduceLE, Int.reduceAdd, Int.reduceSub, Int.reduceToNat, decide_true, decide_false]
      rfl
    · simp only [push_cast, Nat.reduceEqDiff, Nat.reduceAdd, Nat.reduceLT, Nat.reduceLeDiff, Nat.reduceMul, Nat.reduceSub, reduceCtorEq, Int.reduceEq, Int.reduceLT, Int.reduceLE, Int.reduceAdd, Int.reduceSub, Int.reduceToNat, decide_true, decide_false]
      refine condK_dec (fun h3 => ?_) (fun h3 => ?_)
      · subst h3
        simp only [push_cast, Nat.reduceEqDiff, Nat.reduceAdd, Nat.reduceLT, Nat.reduceLeDiff, Nat.reduceMul, Nat.reduceSub, reduceCtorEq, Int.reduceEq, Int.reduceLT, Int.reduceLE, Int.reduceAdd, Int.reduceSub, Int.reduceToNat, decide_true, decide_false]
        rfl
      · simp only [push_cast, Nat.reduceEqDiff, Nat.reduceAdd, Nat.reduceLT, Nat.reduceLeDiff, Nat.reduceMul, Nat.reduceSub, reduceCtorEq, Int.reduceEq, Int.reduceLT, Int.reduceLE, Int.reduceAdd, Int.reduceSub, Int.reduceToNat, decide_true, decide_false]
        simp [view, tagName, h, h2, h3]

def WA (P : Program) (F T : Nat → Nat) (n : Nat) : Prop := ∀ (l : List Node) (L : Heap) (nx id : Nat) (bs : List UInt8), bulks l < n → L id = some (.bld (T 2) (T 3) bs) → id < nx → bs.length + 27 * bulks l ≤ 2 ^ 32 →
  ECall P (F 22) [.ptr id 0, .lst 5 (encs l)] L nx fun _ L' nx' => Wrote L nx id (T 2) (T 3) (bs ++ srcs l) L' nx'
def WN (P : Program) (F T : Nat → Nat) (n : Nat) : Prop := ∀ (x : Node) (L : Heap) (nx id : Nat) (bs : List UInt8), x.bulk ≤ n → L id = some (.bld (T 2) (T 3) bs) → id < nx → bs.length + 27 * x.bulk ≤ 2 ^ 32 →
  ECall P (F 29) [.ptr id 0, .agg x.cs] L nx fun _ L' nx' => Wrote L nx id (T 2) (T 3) (bs ++ x.src) L' nx'

theorem t22 (hf : Is22 P F T) {n : Nat} (hN : WN P F T n) : WA P F T (n + 1) := by
  intro l L nx id bs hn hL hid hb
  refine ecallC [] hf (by simp) ?_
  simp only [c22, push_cast, Nat.reduceEqDiff, Nat.reduceAdd, Nat.reduceLT, Nat.reduceLeDiff, Nat.reduceMul, Nat.reduceSub, reduceCtorEq, Int.reduceEq, Int.reduceLT, Int.reduceLE, Int.reduceAdd, Int.reduceSub, Int.reduceToNat, decide_true, decide_false]
  refine loopK_intro (fun m s => ∃ a r, l = a ++ r ∧ m = r.length ∧ s.env 0 = .ptr id 0 ∧ s.env 6 = .lst 5 (encs (a ++ r)) ∧ s.env 7 = .int .i64 (a ++ r).length ∧ s.env 8 = .int .i64 a.length ∧ Wrote L nx id (T 2) (T 3) (bs ++ srcs a) s.L s.nx) l.length ⟨[], l, ?_⟩ fun m s hJ => ?_
  · simp only [push_cast, Nat.reduceEqDiff, Nat.reduceAdd, Nat.reduceLT, Nat.reduceLeDiff, Nat.reduceMul, Nat.reduceSub, reduceCtorEq, Int.reduceEq, Int.reduceLT, Int.reduceLE, Int.reduceAdd, Int.reduceSub, Int.reduceToNat, decide_true, decide_false, srcs]
    exact ⟨by omega, hL, fun _ _ _ => rfl⟩
  · obtain ⟨a, r, rfl, rfl, h0, h6, h7, h8, hw⟩ := hJ
    cases r with
    | nil =>
      simp only [push_cast, Nat.reduceEqDiff, Nat.reduceAdd, Nat.reduceLT, Nat.reduceLeDiff, Nat.reduceMul, Nat.reduceSub, reduceCtorEq, Int.reduceEq, Int.reduceLT, Int.reduceLE, Int.reduceAdd, Int.reduceSub, Int.reduceToNat, decide_true, decide_false, h0, h6, h7, h8]
      exact ⟨by have := hw.le; omega, by have := hw.le; omega, hw.at_, hw.old⟩
    | cons x r =>
      obtain ⟨k, t, s0, ks, as⟩ := x
      have hx := bulks_append a (.mk k t s0 ks as :: r)
      simp only [bulks] at hx
      have ha := srcs_bulk a
      have hl := len_bulks a
      have hwle := hw.le
      have hid2 : id < s.nx := by omega
      have n1 : id ≠ s.nx + 21 := by omega
      have hat := hw.at_
      simp only [push_cast, Nat.reduceEqDiff, Nat.reduceAdd, Nat.reduceLT, Nat.reduceLeDiff, Nat.reduceMul, Nat.reduceSub, reduceCtorEq, Int.reduceEq, Int.reduceLT, Int.reduceLE, Int.reduceAdd, Int.reduceSub, Int.reduceToNat, decide_true, decide_false, h0, h6, h7, h8, n1, Node.cs]
      refine ecallK_intro (hN (.mk k t s0 ks as) _ _ id (bs ++ srcs a) (by omega) (by simp only [push_cast, Nat.reduceEqDiff, Nat.reduceAdd, Nat.reduceLT, Nat.reduceLeDiff, Nat.reduceMul, Nat.reduceSub, reduceCtorEq, Int.reduceEq, Int.reduceLT, Int.reduceLE, Int.reduceAdd, Int.reduceSub, Int.reduceToNat, decide_true, decide_false, n1, hat]) (by omega) (by simp; omega)) ?_
      rintro q L' nx' hw2
      simp only [push_cast, Nat.reduceEqDiff, Nat.reduceAdd, Nat.reduceLT, Nat.reduceLeDiff, Nat.reduceMul, Nat.reduceSub, reduceCtorEq, Int.reduceEq, Int.reduceLT, Int.reduceLE, Int.reduceAdd, Int.reduceSub, Int.reduceToNat, decide_true, decide_false, h0, h6, h7, h8]
      refine ⟨by omega, r.length, by omega, a ++ [.mk k t s0 ks as], r, by simp, rfl, by simp, by simp, by simp, ?_⟩
      have hw3 := hw.step hw2 (by omega) (fun x hx hn => by simp [upd, show x ≠ s.nx + 21 by omega])
      simp only [srcs_append, srcs, List.append_nil, List.append_assoc] at hw3 ⊢
      exact ⟨by have := hw3.le; omega, hw3.at_, hw3.old⟩

/-- the braces around a node's parts -/
theorem t31 (hf : Is31 P F T) (h27 : Is27 P F T) (h33 : Is33 P F T) (h30 : Is30 P F T) {n : Nat} (hA : WA P F T n) (k t : Int) (s0 : List UInt8) (ks : List Node) (as : List Arg) (L : Heap) (nx id : Nat) (bs : List UInt8) (z : Nat) (hz : z = 2 ∨ z = 3)
    (hn : bulks ks + bulkA as < n) (hL : L id = some (.bld (T 2) (T 3) bs)) (hid : id < nx) (hb : bs.length + 27 * (bulks ks + bulkA as + 1) ≤ 2 ^ 32) :
    ECall P (F 31) [.ptr id 0, .agg (Node.mk k t s0 ks as).cs, .int .i64 z] L nx fun _ L' nx' => Wrote L nx id (T 2) (T 3) (bs ++ (List.replicate z 123 ++ srcs ks ++ srcA as ++ List.replicate z 125)) L' nx' := by
  refine ecallC [] hf (by simp) ?_
  have hks := srcs_bulk ks
  have n1 : id ≠ nx + 4 := by omega
  have z1 : (z : Int) ≤ 3 := by omega
  have z2 : z ≤ 3 := by omega
  simp only [c31, push_cast, Nat.reduceEqDiff, Nat.reduceAdd, Nat.reduceLT, Nat.reduceLeDiff, Nat.reduceMul, Nat.reduceSub, reduceCtorEq, Int.reduceEq, Int.reduceLT, Int.reduceLE, Int.reduceAdd, Int.reduceSub, Int.reduceToNat, decide_true, decide_false, Node.cs, n1, z2]
  have e1 : List.take z [(123 : UInt8), 123, 123] = List.replicate z 123 := by rcases hz with rfl | rfl <;> rfl
  have e2 : List.take z [(125 : UInt8), 125, 125] = List.replicate z 125 := by rcases hz with rfl | rfl <;> rfl
  rw [e1]
  refine ecallK_intro (t27 (bs := bs) (t := List.replicate z 123) h27 h30 (by simp only [push_cast, Nat.reduceEqDiff, Nat.reduceAdd, Nat.reduceLT, Nat.reduceLeDiff, Nat.reduceMul, Nat.reduceSub, reduceCtorEq, Int.reduceEq, Int.reduceLT, Int.reduceLE, Int.reduceAdd, Int.reduceSub, Int.reduceToNat, decide_true, decide_false, n1, hL]) (by omega) (by simp; omega)) ?_
  rintro q L1 nx1 ⟨a1, a2, a3⟩
  have b1 : L1 (nx + 4) = some (.box (T 0) (Node.mk k t s0 ks as).cs) := by rw [a3 _ (by omega) (by omega)]; simp only [push_cast, Nat.reduceEqDiff, Nat.reduceAdd, Nat.reduceLT, Nat.reduceLeDiff, Nat.reduceMul, Nat.reduceSub, reduceCtorEq, Int.reduceEq, Int.reduceLT, Int.reduceLE, Int.reduceAdd, Int.reduceSub, Int.reduceToNat, decide_true, decide_false, Node.cs]
  simp only [push_cast, Nat.reduceEqDiff, Nat.reduceAdd, Nat.reduceLT, Nat.reduceLeDiff, Nat.reduceMul, Nat.reduceSub, reduceCtorEq, Int.reduceEq, Int.reduceLT, Int.reduceLE, Int.reduceAdd, Int.reduceSub, Int.reduceToNat, decide_true, decide_false, Node.cs, n1, b1]
  refine ecallK_intro (hA ks L1 _ id _ (by omega) a2 (by omega) (by simp; omega)) ?_
  rintro q L2 nx2 ⟨d1, d2, d3⟩
  have b2 : L2 (nx + 4) = some (.box (T 0) (Node.mk k t s0 ks as).cs) := by rw [d3 _ (by omega) (by omega), b1]
  simp only [push_cast, Nat.reduceEqDiff, Nat.reduceAdd, Nat.reduceLT, Nat.reduceLeDiff, Nat.reduceMul, Nat.reduceSub, reduceCtorEq, Int.reduceEq, Int.reduceLT, Int.reduceLE, Int.reduceAdd, Int.reduceSub, Int.reduceToNat, decide_true, decide_false, Node.cs, n1, b2]
  have hw0 : Wrote L nx id (T 2) (T 3) (bs ++ List.replicate z 123 ++ srcs ks) L2 nx2 := ⟨by omega, d2, fun x hx hn => by rw [d3 x (by omega) hn, a3 x (by omega) hn]; simp [upd, show x ≠ nx + 4 by omega]⟩
  refine loopK_intro (fun m s => ∃ a r, as = a ++ r ∧ m = r.length ∧ s.env 0 = .ptr id 0 ∧ s.env 2 = .int .i64 z ∧ s.env 17 = .lst 3 (encA (a ++ r)) ∧ s.env 18 = .int .i64 (a ++ r).length ∧ s.env 19 = .int .i64 a.length ∧ Wrote L nx id (T 2) (T 3) (bs ++ List.replicate z 123 ++ srcs ks ++ srcA a) s.L s.nx) as.length ⟨[], as, ?_⟩ fun m s hJ => ?_
  · simp only [push_cast, Nat.reduceEqDiff, Nat.reduceAdd, Nat.reduceLT, Nat.reduceLeDiff, Nat.reduceMul, Nat.reduceSub, reduceCtorEq, Int.reduceEq, Int.reduceLT, Int.reduceLE, Int.reduceAdd, Int.reduceSub, Int.reduceToNat, decide_true, decide_false, srcA]
    exact ⟨by omega, hw0.at_, hw0.old⟩
  · obtain ⟨a, r, rfl, rfl, h0, h2, h17, h18, h19, hw⟩ := hJ
    have hwle := hw.le
    have hx := bulkA_append a r
    have ha := srcA_bulk a
    cases r with
    | nil =>
      simp only [push_cast, Nat.reduceEqDiff, Nat.reduceAdd, Nat.reduceLT, Nat.reduceLeDiff, Nat.reduceMul, Nat.reduceSub, reduceCtorEq, Int.reduceEq, Int.reduceLT, Int.reduceLE, Int.reduceAdd, Int.reduceSub, Int.reduceToNat, decide_true, decide_false, h0, h2, h17, h18, h19, z2]
      rw [e2]
      simp only [List.append_nil] at hn hb hx
      refine ecallK_intro (t27 h27 h30 hw.at_ (by omega) (by simp; omega)) ?_
      rintro q L3 nx3 ⟨f1, f2, f3⟩
      refine ⟨by omega, by omega, ?_, fun x hx hn => by rw [f3 x (by omega) hn, hw.old x hx hn]⟩
      simpa only [List.append_assoc] using f2
    | cons x r =>
      obtain ⟨xb, xn, xv⟩ := x
      have n2 : id ≠ s.nx + 49 := by omega
      have hl := len_bulkA a
      have hn1 := srcs_bulk xn
      have hv1 := srcs_bulk xv
      simp only [bulkA, Arg.bulk] at hx
      simp only [push_cast, Nat.reduceEqDiff, Nat.reduceAdd, Nat.reduceLT, Nat.reduceLeDiff, Nat.reduceMul, Nat.reduceSub, reduceCtorEq, Int.reduceEq, Int.reduceLT, Int.reduceLE, Int.reduceAdd, Int.reduceSub, Int.reduceToNat, decide_true, decide_false, h0, h2, h17, h18, h19, Arg.cs]
      refine ecallK_intro (t33 (b := 124) (bs := bs ++ List.replicate z 123 ++ srcs ks ++ srcA a) h33 h30 (by simp only [push_cast, Nat.reduceEqDiff, Nat.reduceAdd, Nat.reduceLT, Nat.reduceLeDiff, Nat.reduceMul, Nat.reduceSub, reduceCtorEq, Int.reduceEq, Int.reduceLT, Int.reduceLE, Int.reduceAdd, Int.reduceSub, Int.reduceToNat, decide_true, decide_false, n2, hw.at_]) (by omega) (by simp; omega)) ?_
      rintro q L3 nx3 hw3
      have c1 := hw3.le
      have b3 : L3 (s.nx + 49) = some (.box (T 1) (Arg.mk xb xn xv).cs) := by rw [hw3.old _ (by omega) (by omega)]; simp only [push_cast, Nat.reduceEqDiff, Nat.reduceAdd, Nat.reduceLT, Nat.reduceLeDiff, Nat.reduceMul, Nat.reduceSub, reduceCtorEq, Int.reduceEq, Int.reduceLT, Int.reduceLE, Int.reduceAdd, Int.reduceSub, Int.reduceToNat, decide_true, decide_false, Arg.cs]
      have hw4 := hw.step hw3 (by omega) (fun x hx hn => by simp [upd, show x ≠ s.nx + 49 by omega])
      simp only [push_cast, Nat.reduceEqDiff, Nat.reduceAdd, Nat.reduceLT, Nat.reduceLeDiff, Nat.reduceMul, Nat.reduceSub, reduceCtorEq, Int.reduceEq, Int.reduceLT, Int.reduceLE, Int.reduceAdd, Int.reduceSub, Int.reduceToNat, decide_true, decide_false, h0, h2, h17, h18, h19, Arg.cs, b3]
      refine condK_intro (fun hxb => ?_) (fun hxb => ?_)
      · subst hxb
        simp only [push_cast, Nat.reduceEqDiff, Nat.reduceAdd, Nat.reduceLT, Nat.reduceLeDiff, Nat.reduceMul, Nat.reduceSub, reduceCtorEq, Int.reduceEq, Int.reduceLT, Int.reduceLE, Int.reduceAdd, Int.reduceSub, Int.reduceToNat, decide_true, decide_false, h0, h2, h17, h18, h19, Arg.cs, b3]
        refine ecallK_intro (hA xn L3 _ id _ (by omega) hw3.at_ (by omega) (by simp; omega)) ?_
        rintro q L5 nx5 hw5
        have c5 := hw5.le
        have b5 : L5 (s.nx + 49) = some (.box (T 1) (Arg.mk true xn xv).cs) := by rw [hw5.old _ (by omega) (by omega), b3]
        have hw6 := hw4.step hw5 (by omega) (fun x hx hn => rfl)
        simp only [push_cast, Nat.reduceEqDiff, Nat.reduceAdd, Nat.reduceLT, Nat.reduceLeDiff, Nat.reduceMul, Nat.reduceSub, reduceCtorEq, Int.reduceEq, Int.reduceLT, Int.reduceLE, Int.reduceAdd, Int.reduceSub, Int.reduceToNat, decide_true, decide_false, h0, h2, h17, h18, h19, Arg.cs, b5]
        refine ecallK_intro (t33 (b := 61) h33 h30 hw5.at_ (by omega) (by simp; omega)) ?_
        rintro q L7 nx7 hw7
        have c7 := hw7.le
        have b7 : L7 (s.nx + 49) = some (.box (T 1) (Arg.mk true xn xv).cs) := by rw [hw7.old _ (by omega) (by omega), b5]
        have hw8 := hw6.step hw7 (by omega) (fun x hx hn => rfl)
        simp only [push_cast, Nat.reduceEqDiff, Nat.reduceAdd, Nat.reduceLT, Nat.reduceLeDiff, Nat.reduceMul, Nat.reduceSub, reduceCtorEq, Int.reduceEq, Int.reduceLT, Int.reduceLE, Int.reduceAdd, Int.reduceSub, Int.reduceToNat, decide_true, decide_false, h0, h2, h17, h18, h19, Arg.cs, b7]
        refine ecallK_intro (hA xv L7 _ id _ (by omega) hw7.at_ (by omega) (by simp; omega)) ?_
        rintro q L9 nx9 hw9
        have c9 := hw9.le
        have hw10 := hw8.step hw9 (by omega) (fun x hx hn => rfl)
        simp only [push_cast, Nat.reduceEqDiff, Nat.reduceAdd, Nat.reduceLT, Nat.reduceLeDiff, Nat.reduceMul, Nat.reduceSub, reduceCtorEq, Int.reduceEq, Int.reduceLT, Int.reduceLE, Int.reduceAdd, Int.reduceSub, Int.reduceToNat, decide_true, decide_false, h0, h2, h17, h18, h19]
        refine ⟨by omega, r.length, by omega, a ++ [.mk true xn xv], r, by simp, rfl, by simp, by simp, by simp, by omega, ?_, hw10.old⟩
        have := hw10.at_
        simpa only [srcA_append, srcA, Arg.src, List.append_assoc, if_true, List.append_nil, List.cons_append, List.nil_append, List.singleton_append] using this
      · subst hxb
        simp only [push_cast, Nat.reduceEqDiff, Nat.reduceAdd, Nat.reduceLT, Nat.reduceLeDiff, Nat.reduceMul, Nat.reduceSub, reduceCtorEq, Int.reduceEq, Int.reduceLT, Int.reduceLE, Int.reduceAdd, Int.reduceSub, Int.reduceToNat, decide_true, decide_false, h0, h2, h17, h18, h19, Arg.cs, b3]
        refine ecallK_intro (hA xv L3 _ id _ (by omega) hw3.at_ (by omega) (by simp; omega)) ?_
        rintro q L9 nx9 hw9
        have c9 := hw9.le
        have hw10 := hw4.step hw9 (by omega) (fun x hx hn => rfl)
        simp only [push_cast, Nat.reduceEqDiff, Nat.reduceAdd, Nat.reduceLT, Nat.reduceLeDiff, Nat.reduceMul, Nat.reduceSub, reduceCtorEq, Int.reduceEq, Int.reduceLT, Int.reduceLE, Int.reduceAdd, Int.reduceSub, Int.reduceToNat, decide_true, decide_false, h0, h2, h17, h18, h19]
        refine ⟨by omega, r.length, by omega, a ++ [.mk false xn xv], r, by simp, rfl, by simp, by simp, by simp, by omega, ?_, hw10.old⟩
        have := hw10.at_
        simpa [srcA_append, srcA, Arg.src, List.append_assoc] using this

theorem t29 (hf : Is29 P F T) (h27 : Is27 P F T) (h33 : Is33 P F T) (h30 : Is30 P F T) (h31 : Is31 P F T) (h32 : Is32 P F T) {n : Nat} (hA : WA P F T n) : WN P F T n := by
  intro x L nx id bs hn hL hid hb
  obtain ⟨k, t, s0, ks, as⟩ := x
  simp only [Node.bulk] at hn hb
  refine ecallC [] hf (by simp) ?_
  have hks := srcs_bulk ks
  have n1 : id ≠ nx + 3 := by omega
  have fr : ∀ {v : Option Blk} {L' : Heap} {nx' nx2 : Nat} {bs' : List UInt8}, nx ≤ nx2 → Wrote (upd L (nx + 3) v) nx2 id (T 2) (T 3) bs' L' nx' → nx ≤ nx' ∧ Wrote L nx id (T 2) (T 3) bs' L' nx' := fun h0 h => by
    have := h.le
    exact ⟨by omega, by omega, h.at_, fun x hx hn => by rw [h.old x (by omega) hn]; simp [upd, show x ≠ nx + 3 by omega]⟩
  have hL1 : ∀ v, (upd L (nx + 3) v) id = some (.bld (T 2) (T 3) bs) := fun v => by simp only [push_cast, Nat.reduceEqDiff, Nat.reduceAdd, Nat.reduceLT, Nat.reduceLeDiff, Nat.reduceMul, Nat.reduceSub, reduceCtorEq, Int.reduceEq, Int.reduceLT, Int.reduceLE, Int.reduceAdd, Int.reduceSub, Int.reduceToNat, decide_true, decide_false, n1, hL]
  have w27 : ∀ (t : List UInt8) (v : Option Blk) (m : Nat), bs.length + t.length ≤ 2 ^ 32 → id < m → ECall P (F 27) [.ptr id 0, .str t] (upd L (nx + 3) v) m fun _ L' nx' => Wrote (upd L (nx + 3) v) m id (T 2) (T 3) (bs ++ t) L' nx' := fun t v m h1 h2 => t27 h27 h30 (hL1 v) h2 h1
  by_cases k1 : k = 1
  · subst k1
    simp only [c29, push_cast, Nat.reduceEqDiff, Nat.reduceAdd, Nat.reduceLT, Nat.reduceLeDiff, Nat.reduceMul, Nat.reduceSub, reduceCtorEq, Int.reduceEq, Int.reduceLT, Int.reduceLE, Int.reduceAdd, Int.reduceSub, Int.reduceToNat, decide_true, decide_false, Node.cs]
    refine ecallK_intro (w27 s0 _ _ (by omega) (by omega)) ?_
    rintro q L1 nx1 hw
    have := hw.le
    simp only [Node.src]
    exact fr (by omega) ⟨by omega, hw.at_, hw.old⟩
  by_cases k2 : k = 2
  · subst k2
    simp only [c29, push_cast, Nat.reduceEqDiff, Nat.reduceAdd, Nat.reduceLT, Nat.reduceLeDiff, Nat.reduceMul, Nat.reduceSub, reduceCtorEq, Int.reduceEq, Int.reduceLT, Int.reduceLE, Int.reduceAdd, Int.reduceSub, Int.reduceToNat, decide_true, decide_false, Node.cs]
    refine ecallK_intro (w27 s0 _ _ (by omega) (by omega)) ?_
    rintro q L1 nx1 hw
    have := hw.le
    simp only [Node.src]
    exact fr (by omega) ⟨by omega, hw.at_, hw.old⟩
  by_cases k3 : k = 3
  · subst k3
    simp only [c29, push_cast, Nat.reduceEqDiff, Nat.reduceAdd, Nat.reduceLT, Nat.reduceLeDiff, Nat.reduceMul, Nat.reduceSub, reduceCtorEq, Int.reduceEq, Int.reduceLT, Int.reduceLE, Int.reduceAdd, Int.reduceSub, Int.reduceToNat, decide_true, decide_false, Node.cs]
    refine ⟨by omega, by simp; omega, ecallK_intro (w27 _ _ _ (by simp; omega) (by omega)) ?_⟩
    rintro q L1 nx1 hw
    have := hw.le
    have e : (Node.mk 3 t s0 ks as).src = [60, 110, 111, 119, 105, 107, 105, 62] ++ s0 ++ [60, 47, 110, 111, 119, 105, 107, 105, 62] := by simp [Node.src]
    rw [e]
    exact fr (by omega) ⟨by omega, hw.at_, hw.old⟩
  by_cases k4 : k = 4
  · subst k4
    simp only [c29, push_cast, Nat.reduceEqDiff, Nat.reduceAdd, Nat.reduceLT, Nat.reduceLeDiff, Nat.reduceMul, Nat.reduceSub, reduceCtorEq, Int.reduceEq, Int.reduceLT, Int.reduceLE, Int.reduceAdd, Int.reduceSub, Int.reduceToNat, decide_true, decide_false, Node.cs]
    refine ecallK_intro (t31 h31 h27 h33 h30 hA 4 t s0 ks as _ _ id bs 2 (.inl rfl) (by omega) (hL1 _) (by omega) (by omega)) ?_
    rintro q L1 nx1 hw
    have := hw.le
    have e : (Node.mk 4 t s0 ks as).src = [123, 123] ++ srcs ks ++ srcA as ++ [125, 125] := by simp [Node.src]
    rw [e]
    exact fr (by omega) ⟨by omega, hw.at_, hw.old⟩
  by_cases k5 : k = 5
  · subst k5
    simp only [c29, push_cast, Nat.reduceEqDiff, Nat.reduceAdd, Nat.reduceLT, Nat.reduceLeDiff, Nat.reduceMul, Nat.reduceSub, reduceCtorEq, Int.reduceEq, Int.reduceLT, Int.reduceLE, Int.reduceAdd, Int.reduceSub, Int.reduceToNat, decide_true, decide_false, Node.cs]
    refine ecallK_intro (t31 h31 h27 h33 h30 hA 5 t s0 ks as _ _ id bs 3 (.inr rfl) (by omega) (hL1 _) (by omega) (by omega)) ?_
    rintro q L1 nx1 hw
    have := hw.le
    have e : (Node.mk 5 t s0 ks as).src = [123, 123, 123] ++ srcs ks ++ srcA as ++ [125, 125, 125] := by simp [Node.src]
    rw [e]
    exact fr (by omega) ⟨by omega, hw.at_, hw.old⟩
  by_cases k6 : k = 6
  · subst k6
    simp only [c29, push_cast, Nat.reduceEqDiff, Nat.reduceAdd, Nat.reduceLT, Nat.reduceLeDiff, Nat.reduceMul, Nat.reduceSub, reduceCtorEq, Int.reduceEq, Int.reduceLT, Int.reduceLE, Int.reduceAdd, Int.reduceSub, Int.reduceToNat, decide_true, decide_false, Node.cs]
    refine callK_intro (t32 h32 t) (by simp only [push_cast, Nat.reduceEqDiff, Nat.reduceAdd, Nat.reduceLT, Nat.reduceLeDiff, Nat.reduceMul, Nat.reduceSub, reduceCtorEq, Int.reduceEq, Int.reduceLT, Int.reduceLE, Int.reduceAdd, Int.reduceSub, Int.reduceToNat, decide_true, decide_false]) (by simp only [push_cast, Nat.reduceEqDiff, Nat.reduceAdd, Nat.reduceLT, Nat.reduceLeDiff, Nat.reduceMul, Nat.reduceSub, reduceCtorEq, Int.reduceEq, Int.reduceLT, Int.reduceLE, Int.reduceAdd, Int.reduceSub, Int.reduceToNat, decide_true, decide_false]) ?_
    simp only [push_cast, Nat.reduceEqDiff, Nat.reduceAdd, Nat.reduceLT, Nat.reduceLeDiff, Nat.reduceMul, Nat.reduceSub, reduceCtorEq, Int.reduceEq, Int.reduceLT, Int.reduceLE, Int.reduceAdd, Int.reduceSub, Int.reduceToNat, decide_true, decide_false, Node.cs]
    by_cases ht : 1 ≤ t ∧ t ≤ 3
    · have e0 : tagName t ≠ [] := by unfold tagName; split <;> (try split) <;> (try split) <;> simp; omega
      have e : (Node.mk 6 t s0 ks as).src = [60] ++ tagName t ++ [62] ++ srcs ks ++ [60, 47] ++ tagName t ++ [62] := by simp [Node.src, ht]
      have hlt := tagName_len t
      simp only [push_cast, Nat.reduceEqDiff, Nat.reduceAdd, Nat.reduceLT, Nat.reduceLeDiff, Nat.reduceMul, Nat.reduceSub, reduceCtorEq, Int.reduceEq, Int.reduceLT, Int.reduceLE, Int.reduceAdd, Int.reduceSub, Int.reduceToNat, decide_true, decide_false, e0]
      refine ⟨by omega, by simp; omega, ecallK_intro (w27 ([60] ++ tagName t ++ [62]) _ _ (by simp; omega) (by omega)) ?_⟩
      rintro q L1 nx1 hw
      have h1 := hw.le
      have b1 : L1 (nx + 3) = some (.box (T 0) (Node.mk 6 t s0 ks as).cs) := by rw [hw.old _ (by omega) (by omega)]; simp only [push_cast, Nat.reduceEqDiff, Nat.reduceAdd, Nat.reduceLT, Nat.reduceLeDiff, Nat.reduceMul, Nat.reduceSub, reduceCtorEq, Int.reduceEq, Int.reduceLT, Int.reduceLE, Int.reduceAdd, Int.reduceSub, Int.reduceToNat, decide_true, decide_false, Node.cs]
      simp only [push_cast, Nat.reduceEqDiff, Nat.reduceAdd, Nat.reduceLT, Nat.reduceLeDiff, Nat.reduceMul, Nat.reduceSub, reduceCtorEq, Int.reduceEq, Int.reduceLT, Int.reduceLE, Int.reduceAdd, Int.reduceSub, Int.reduceToNat, decide_true, decide_false, Node.cs, b1]
      refine ecallK_intro (hA ks L1 _ id _ (by omega) hw.at_ (by omega) (by simp; omega)) ?_
      rintro q L2 nx2 hw2
      have h2 := hw2.le
      have hw3 := hw.step hw2 (by omega) (fun x hx hn => rfl)
      simp only [push_cast, Nat.reduceEqDiff, Nat.reduceAdd, Nat.reduceLT, Nat.reduceLeDiff, Nat.reduceMul, Nat.reduceSub, reduceCtorEq, Int.reduceEq, Int.reduceLT, Int.reduceLE, Int.reduceAdd, Int.reduceSub, Int.reduceToNat, decide_true, decide_false, Node.cs]
      refine ⟨by omega, by simp; omega, ecallK_intro (t27 (t := [60, 47] ++ tagName t ++ [62]) h27 h30 hw2.at_ (by omega) (by simp; omega)) ?_⟩
      rintro q L4 nx4 hw4
      have h4 := hw4.le
      have hw5 := hw3.step hw4 (by omega) (fun x hx hn => rfl)
      rw [e]
      refine fr (by omega) ⟨by omega, ?_, hw5.old⟩
      simpa only [List.append_assoc] using hw5.at_
    · have e0 : tagName t = [] := by unfold tagName; split <;> (try split) <;> (try split) <;> simp <;> omega
      have e : (Node.mk 6 t s0 ks as).src = [] := by simp [Node.src, ht]
      rw [e0, e, List.append_nil]
      simp only [push_cast, Nat.reduceEqDiff, Nat.reduceAdd, Nat.reduceLT, Nat.reduceLeDiff, Nat.reduceMul, Nat.reduceSub, reduceCtorEq, Int.reduceEq, Int.reduceLT, Int.reduceLE, Int.reduceAdd, Int.reduceSub, Int.reduceToNat, decide_true, decide_false]
      exact fr (by omega) ⟨Nat.le_refl _, hL1 _, fun _ _ _ => rfl⟩
  · simp only [c29, push_cast, Nat.reduceEqDiff, Nat.reduceAdd, Nat.reduceLT, Nat.reduceLeDiff, Nat.reduceMul, Nat.reduceSub, reduceCtorEq, Int.reduceEq, Int.reduceLT, Int.reduceLE, Int.reduceAdd, Int.reduceSub, Int.reduceToNat, decide_true, decide_false, Node.cs, k1, k2, k3, k4, k5, k6]
    have e : (Node.mk k t s0 ks as).src = [] := by simp [Node.src, k1, k2, k3, k4, k5, k6]
    rw [e, List.append_nil]
    exact fr (by omega) ⟨Nat.le_refl _, hL1 _, fun _ _ _ => rfl⟩

theorem tWA (h22 : Is22 P F T) (h29 : Is29 P F T) (h27 : Is27 P F T) (h33 : Is33 P F T) (h30 : Is30 P F T) (h31 : Is31 P F T) (h32 : Is32 P F T) : ∀ n, WA P F T n
  | 0 => fun l _ _ _ _ h => by omega
  | n + 1 => t22 h22 (t29 h29 h27 h33 h30 h31 h32 (tWA h22 h29 h27 h33 h30 h31 h32 n))

/-- tree.Source -/
theorem t2 (hf : Is2 P F T) (h23 : Is23 P F T) (h22 : Is22 P F T) (h29 : Is29 P F T) (h27 : Is27 P F T) (h33 : Is33 P F T) (h30 : Is30 P F T) (h31 : Is31 P F T) (h32 : Is32 P F T) (l : List Node) (hb : bulks l ≤ 2 ^ 26) :
    PTr P (F 2) [.lst 5 (encs l)] (.str (srcs l)) := by
  refine ptrC [] hf (by simp) rfl ?_
  simp only [c2, push_cast, Nat.reduceEqDiff, Nat.reduceAdd, Nat.reduceLT, Nat.reduceLeDiff, Nat.reduceMul, Nat.reduceSub, reduceCtorEq, Int.reduceEq, Int.reduceLT, Int.reduceLE, Int.reduceAdd, Int.reduceSub, Int.reduceToNat, decide_true, decide_false]
  refine ecallK_intro (tWA h22 h29 h27 h33 h30 h31 h32 (bulks l + 1) l _ _ _ [] (by omega) (by simp only [push_cast, Nat.reduceEqDiff, Nat.reduceAdd, Nat.reduceLT, Nat.reduceLeDiff, Nat.reduceMul, Nat.reduceSub, reduceCtorEq, Int.reduceEq, Int.reduceLT, Int.reduceLE, Int.reduceAdd, Int.reduceSub, Int.reduceToNat, decide_true, decide_false]) (by omega) (by simp; omega)) ?_
  rintro q L1 nx1 hw
  have := hw.le
  simp only [push_cast, Nat.reduceEqDiff, Nat.reduceAdd, Nat.reduceLT, Nat.reduceLeDiff, Nat.reduceMul, Nat.reduceSub, reduceCtorEq, Int.reduceEq, Int.reduceLT, Int.reduceLE, Int.reduceAdd, Int.reduceSub, Int.reduceToNat, decide_true, decide_false]
  refine ecallK_intro (t23 h23 hw.at_ (by omega)) ?_
  rintro q L2 nx2 ⟨rfl, h1, h2⟩
  simp only [push_cast, Nat.reduceEqDiff, Nat.reduceAdd, Nat.reduceLT, Nat.reduceLeDiff, Nat.reduceMul, Nat.reduceSub, reduceCtorEq, Int.reduceEq, Int.reduceLT, Int.reduceLE, Int.reduceAdd, Int.reduceSub, Int.reduceToNat, decide_true, decide_false]
  simp [view]
end Go.Ab
