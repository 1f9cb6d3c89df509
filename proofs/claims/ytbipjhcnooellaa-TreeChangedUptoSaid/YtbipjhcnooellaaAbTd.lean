/- Depths, plain texts. No condition. -/
import Derived.Test.YtbipjhcnooellaaAbTc
namespace Go.Ab
set_option linter.unusedVariables false
set_option linter.unusedSimpArgs false

def dm : List Node → Nat
  | [] => 0
  | n :: r => max n.dep (dm r)
theorem dm_append (a b : List Node) : dm (a ++ b) = max (dm a) (dm b) := by
  induction a with
  | nil => simp [dm]
  | cons x r ih => simp [dm, ih, Nat.max_assoc]
theorem deps_dm : ∀ (l : List Node), l ≠ [] → deps l = dm l + 1
  | [], h => absurd rfl h
  | [x], _ => by simp [deps, dm]
  | x :: y :: r, _ => by
    rw [deps, deps_dm (y :: r) (by simp)]
    simp only [dm]
    omega
theorem deps_bulks (l : List Node) : deps l ≤ bulks l := Nat.le_trans (deps_counts l) (counts_bulks l)
theorem dm_bulks : ∀ l : List Node, dm l ≤ bulks l
  | [] => by simp [dm]
  | x :: r => by have := deps_dm (x :: r) (by simp); have := deps_bulks (x :: r); omega
theorem max_bulkL (l : List (List Node)) : maxL deps l ≤ sumL bulks l := by
  induction l with
  | nil => simp [maxL]
  | cons x r ih => have := deps_bulks x; simp only [maxL, sumL_cons]; omega

variable {P : Program} {F T : Nat → Nat}

/-- tree.Depth -/
theorem t12' (hf : Is12 P F T) (h26 : Is26 P F T) : ∀ (n : Nat) (l : List Node), bulks l < n → bulks l ≤ 2 ^ 26 → PTr P (F 12) [.lst 5 (encs l)] (.int .i64 (deps l)) := by
    intro n
    induction n with
    | zero => intro l h _; omega
    | succ n ih =>
    intro l hn hb
    refine ptrC [] hf (by simp) rfl ?_
    by_cases hl : l = []
    · subst hl
      simp only [c12, push_cast, Nat.reduceEqDiff, Nat.reduceAdd, Nat.reduceLT, Nat.reduceLeDiff, Nat.reduceMul, Nat.reduceSub, reduceCtorEq, Int.reduceEq, Int.reduceLT, Int.reduceLE, Int.reduceAdd, Int.reduceSub, Int.reduceToNat, decide_true, decide_false, encs]
      simp [view, deps]
    have hl0 : ((l.length : Nat) : Int) ≠ 0 := by have := List.length_pos_iff.2 hl; omega
    simp only [c12, push_cast, Nat.reduceEqDiff, Nat.reduceAdd, Nat.reduceLT, Nat.reduceLeDiff, Nat.reduceMul, Nat.reduceSub, reduceCtorEq, Int.reduceEq, Int.reduceLT, Int.reduceLE, Int.reduceAdd, Int.reduceSub, Int.reduceToNat, decide_true, decide_false, hl0]
    refine loopK_intro (fun m s => ∃ a r, l = a ++ r ∧ m = r.length ∧ s.env 11 = .lst 5 (encs (a ++ r)) ∧ s.env 12 = .int .i64 (a ++ r).length ∧ s.env 13 = .int .i64 a.length ∧ s.env 3 = .int .i64 (dm a)) l.length ⟨[], l, ?_⟩ fun m s hJ => ?_
    · simp only [push_cast, Nat.reduceEqDiff, Nat.reduceAdd, Nat.reduceLT, Nat.reduceLeDiff, Nat.reduceMul, Nat.reduceSub, reduceCtorEq, Int.reduceEq, Int.reduceLT, Int.reduceLE, Int.reduceAdd, Int.reduceSub, Int.reduceToNat, decide_true, decide_false, dm]
    · obtain ⟨a, r, rfl, rfl, h11, h12, h13, h3⟩ := hJ
      cases r with
      | nil =>
        simp only [push_cast, Nat.reduceEqDiff, Nat.reduceAdd, Nat.reduceLT, Nat.reduceLeDiff, Nat.reduceMul, Nat.reduceSub, reduceCtorEq, Int.reduceEq, Int.reduceLT, Int.reduceLE, Int.reduceAdd, Int.reduceSub, Int.reduceToNat, decide_true, decide_false, h11, h12, h13, h3]
        have := dm_bulks a
        rw [List.append_nil] at hl hb
        rw [deps_dm a hl]
        refine ⟨by omega, ?_⟩
        simp [view]
      | cons x r =>
        obtain ⟨k, t, s0, ks, as⟩ := x
        have q3 := len_bulks a
        have q4 := len_bulkA as
        simp only [bulks_append, bulks, Node.bulk] at hn hb
        simp only [push_cast, Nat.reduceEqDiff, Nat.reduceAdd, Nat.reduceLT, Nat.reduceLeDiff, Nat.reduceMul, Nat.reduceSub, reduceCtorEq, Int.reduceEq, Int.reduceLT, Int.reduceLE, Int.reduceAdd, Int.reduceSub, Int.reduceToNat, decide_true, decide_false, h11, h12, h13, h3, Node.cs]
        refine callK_intro (t26 h26 k t s0 ks as (by omega)) (by simp only [push_cast, Nat.reduceEqDiff, Nat.reduceAdd, Nat.reduceLT, Nat.reduceLeDiff, Nat.reduceMul, Nat.reduceSub, reduceCtorEq, Int.reduceEq, Int.reduceLT, Int.reduceLE, Int.reduceAdd, Int.reduceSub, Int.reduceToNat, decide_true, decide_false, imms_cs]) (by simp only [push_cast, Nat.reduceEqDiff, Nat.reduceAdd, Nat.reduceLT, Nat.reduceLeDiff, Nat.reduceMul, Nat.reduceSub, reduceCtorEq, Int.reduceEq, Int.reduceLT, Int.reduceLE, Int.reduceAdd, Int.reduceSub, Int.reduceToNat, decide_true, decide_false]) ?_
        simp only [push_cast, Nat.reduceEqDiff, Nat.reduceAdd, Nat.reduceLT, Nat.reduceLeDiff, Nat.reduceMul, Nat.reduceSub, reduceCtorEq, Int.reduceEq, Int.reduceLT, Int.reduceLE, Int.reduceAdd, Int.reduceSub, Int.reduceToNat, decide_true, decide_false, h11, h12, h13, h3]
        have hal := argL_length as
        have hsm := max_argL as
        have hbm := bulk_argL as
        generalize hls : argL as = ls at hal hsm hbm ⊢
        refine loopK_intro (fun m s => ∃ b q, ks :: ls = b ++ q ∧ m = q.length ∧ s.env 11 = .lst 5 (encs (a ++ .mk k t s0 ks as :: r)) ∧ s.env 12 = .int .i64 (a ++ .mk k t s0 ks as :: r).length ∧ s.env 13 = .int .i64 a.length ∧ s.env 18 = .lst 1 (encL (b ++ q)) ∧ s.env 19 = .int .i64 (b ++ q).length ∧ s.env 20 = .int .i64 b.length ∧ s.env 3 = .int .i64 (max (dm a) (maxL deps b) : Nat)) (ls.length + 1) ⟨[], ks :: ls, ?_⟩ fun m s hJ => ?_
        · simp only [push_cast, Nat.reduceEqDiff, Nat.reduceAdd, Nat.reduceLT, Nat.reduceLeDiff, Nat.reduceMul, Nat.reduceSub, reduceCtorEq, Int.reduceEq, Int.reduceLT, Int.reduceLE, Int.reduceAdd, Int.reduceSub, Int.reduceToNat, decide_true, decide_false, maxL]
          simp [h11, h12, h13, h3]
        · obtain ⟨b, q, hbq, rfl, g11, g12, g13, g18, g19, g20, g3⟩ := hJ
          have s1 := congrArg (maxL deps) hbq
          have s2 := congrArg (sumL bulks) hbq
          have s3 := congrArg List.length hbq
          simp only [maxL, maxL_append, sumL_cons, sumL_append, List.length_cons, List.length_append] at s1 s2 s3
          cases q with
          | nil =>
            simp only [push_cast, Nat.reduceEqDiff, Nat.reduceAdd, Nat.reduceLT, Nat.reduceLeDiff, Nat.reduceMul, Nat.reduceSub, reduceCtorEq, Int.reduceEq, Int.reduceLT, Int.reduceLE, Int.reduceAdd, Int.reduceSub, Int.reduceToNat, decide_true, decide_false, g11, g12, g13, g18, g19, g20, g3]
            refine ⟨by omega, r.length, by omega, a ++ [.mk k t s0 ks as], r, by simp, rfl, by simp, by simp, by simp, ?_⟩
            congr 1
            simp only [dm_append, dm, Node.dep]
            simp only [maxL] at s1
            omega
          | cons y q =>
            simp only [sumL_cons, List.length_cons] at s1 s2 s3
            simp only [push_cast, Nat.reduceEqDiff, Nat.reduceAdd, Nat.reduceLT, Nat.reduceLeDiff, Nat.reduceMul, Nat.reduceSub, reduceCtorEq, Int.reduceEq, Int.reduceLT, Int.reduceLE, Int.reduceAdd, Int.reduceSub, Int.reduceToNat, decide_true, decide_false, g11, g12, g13, g18, g19, g20, g3]
            refine callK_intro (ih y (by omega) (by omega)) (by simp only [push_cast, Nat.reduceEqDiff, Nat.reduceAdd, Nat.reduceLT, Nat.reduceLeDiff, Nat.reduceMul, Nat.reduceSub, reduceCtorEq, Int.reduceEq, Int.reduceLT, Int.reduceLE, Int.reduceAdd, Int.reduceSub, Int.reduceToNat, decide_true, decide_false]) (by simp only [push_cast, Nat.reduceEqDiff, Nat.reduceAdd, Nat.reduceLT, Nat.reduceLeDiff, Nat.reduceMul, Nat.reduceSub, reduceCtorEq, Int.reduceEq, Int.reduceLT, Int.reduceLE, Int.reduceAdd, Int.reduceSub, Int.reduceToNat, decide_true, decide_false]) ?_
            simp only [push_cast, Nat.reduceEqDiff, Nat.reduceAdd, Nat.reduceLT, Nat.reduceLeDiff, Nat.reduceMul, Nat.reduceSub, reduceCtorEq, Int.reduceEq, Int.reduceLT, Int.reduceLE, Int.reduceAdd, Int.reduceSub, Int.reduceToNat, decide_true, decide_false, g11, g12, g13, g18, g19, g20, g3]
            refine ⟨by omega, q.length, by omega, b ++ [y], q, by simp [hbq], rfl, by simp, by simp, by simp, ?_⟩
            congr 1
            simp only [maxL_append, maxL]
            omega
theorem t12 (hf : Is12 P F T) (h26 : Is26 P F T) (l : List Node) (hb : bulks l ≤ 2 ^ 26) : PTr P (F 12) [.lst 5 (encs l)] (.int .i64 (deps l)) := t12' hf h26 _ l (Nat.lt_succ_self _) hb

/-- the reference's Depth -/
theorem t13' (hf : Is13 P F T) : ∀ (n : Nat) (l : List Node), bulks l < n → bulks l ≤ 2 ^ 26 → PTr P (F 13) [.lst 5 (encs l)] (.int .i64 (deps l)) := by
    intro n
    induction n with
    | zero => intro l h _; omega
    | succ n ih =>
    intro l hn hb
    refine ptrC [] hf (by simp) rfl ?_
    by_cases hl : l = []
    · subst hl
      simp only [c13, push_cast, Nat.reduceEqDiff, Nat.reduceAdd, Nat.reduceLT, Nat.reduceLeDiff, Nat.reduceMul, Nat.reduceSub, reduceCtorEq, Int.reduceEq, Int.reduceLT, Int.reduceLE, Int.reduceAdd, Int.reduceSub, Int.reduceToNat, decide_true, decide_false, encs]
      simp [view, deps]
    have hl0 : ((l.length : Nat) : Int) ≠ 0 := by have := List.length_pos_iff.2 hl; omega
    simp only [c13, push_cast, Nat.reduceEqDiff, Nat.reduceAdd, Nat.reduceLT, Nat.reduceLeDiff, Nat.reduceMul, Nat.reduceSub, reduceCtorEq, Int.reduceEq, Int.reduceLT, Int.reduceLE, Int.reduceAdd, Int.reduceSub, Int.reduceToNat, decide_true, decide_false, hl0]
    refine loopK_intro (fun m s => ∃ a r, l = a ++ r ∧ m = r.length ∧ s.env 0 = .lst 5 (encs (a ++ r)) ∧ s.env 3 = .int .i64 (dm a) ∧ s.env 4 = .int .i64 a.length) l.length ⟨[], l, ?_⟩ fun m s hJ => ?_
    · simp only [push_cast, Nat.reduceEqDiff, Nat.reduceAdd, Nat.reduceLT, Nat.reduceLeDiff, Nat.reduceMul, Nat.reduceSub, reduceCtorEq, Int.reduceEq, Int.reduceLT, Int.reduceLE, Int.reduceAdd, Int.reduceSub, Int.reduceToNat, decide_true, decide_false, dm]
    · obtain ⟨a, r, rfl, rfl, h0, h3, h4⟩ := hJ
      cases r with
      | nil =>
        simp only [push_cast, Nat.reduceEqDiff, Nat.reduceAdd, Nat.reduceLT, Nat.reduceLeDiff, Nat.reduceMul, Nat.reduceSub, reduceCtorEq, Int.reduceEq, Int.reduceLT, Int.reduceLE, Int.reduceAdd, Int.reduceSub, Int.reduceToNat, decide_true, decide_false, h0, h3, h4]
        have := dm_bulks a
        rw [List.append_nil] at hl hb
        rw [deps_dm a hl]
        refine ⟨by omega, ?_⟩
        simp [view]
      | cons x r =>
        obtain ⟨k, t, s0, ks, as⟩ := x
        have q3 := len_bulks a
        have q4 := len_bulkA as
        simp only [bulks_append, bulks, Node.bulk] at hn hb
        simp only [push_cast, Nat.reduceEqDiff, Nat.reduceAdd, Nat.reduceLT, Nat.reduceLeDiff, Nat.reduceMul, Nat.reduceSub, reduceCtorEq, Int.reduceEq, Int.reduceLT, Int.reduceLE, Int.reduceAdd, Int.reduceSub, Int.reduceToNat, decide_true, decide_false, h0, h3, h4, Node.cs]
        refine callK_intro (ih ks (by omega) (by omega)) (by simp only [push_cast, Nat.reduceEqDiff, Nat.reduceAdd, Nat.reduceLT, Nat.reduceLeDiff, Nat.reduceMul, Nat.reduceSub, reduceCtorEq, Int.reduceEq, Int.reduceLT, Int.reduceLE, Int.reduceAdd, Int.reduceSub, Int.reduceToNat, decide_true, decide_false]) (by simp only [push_cast, Nat.reduceEqDiff, Nat.reduceAdd, Nat.reduceLT, Nat.reduceLeDiff, Nat.reduceMul, Nat.reduceSub, reduceCtorEq, Int.reduceEq, Int.reduceLT, Int.reduceLE, Int.reduceAdd, Int.reduceSub, Int.reduceToNat, decide_true, decide_false]) ?_
        simp only [push_cast, Nat.reduceEqDiff, Nat.reduceAdd, Nat.reduceLT, Nat.reduceLeDiff, Nat.reduceMul, Nat.reduceSub, reduceCtorEq, Int.reduceEq, Int.reduceLT, Int.reduceLE, Int.reduceAdd, Int.reduceSub, Int.reduceToNat, decide_true, decide_false, h0, h3, h4]
        refine loopK_intro (fun m s => ∃ b q, as = b ++ q ∧ m = q.length ∧ s.env 0 = .lst 5 (encs (a ++ .mk k t s0 ks (b ++ q) :: r)) ∧ s.env 3 = .int .i64 (max (dm a) (max (deps ks) (depA b)) : Nat) ∧ s.env 4 = .int .i64 a.length ∧ s.env 5 = .int .i64 b.length) as.length ⟨[], as, ?_⟩ fun m s hJ => ?_
        · simp only [push_cast, Nat.reduceEqDiff, Nat.reduceAdd, Nat.reduceLT, Nat.reduceLeDiff, Nat.reduceMul, Nat.reduceSub, reduceCtorEq, Int.reduceEq, Int.reduceLT, Int.reduceLE, Int.reduceAdd, Int.reduceSub, Int.reduceToNat, decide_true, decide_false, h0, h3, h4]
          simp [depA]
          omega
        · obtain ⟨b, q, rfl, rfl, g0, g3, g4, g5⟩ := hJ
          cases q with
          | nil =>
            simp only [push_cast, Nat.reduceEqDiff, Nat.reduceAdd, Nat.reduceLT, Nat.reduceLeDiff, Nat.reduceMul, Nat.reduceSub, reduceCtorEq, Int.reduceEq, Int.reduceLT, Int.reduceLE, Int.reduceAdd, Int.reduceSub, Int.reduceToNat, decide_true, decide_false, Node.cs, g0, g3, g4, g5]
            refine ⟨by omega, r.length, by omega, a ++ [.mk k t s0 ks b], r, by simp, by simp, by simp, ?_, by simp⟩
            congr 1
            simp only [dm_append, dm, Node.dep]
            omega
          | cons y q =>
            obtain ⟨yb, yn, yv⟩ := y
            have q7 := len_bulkA b
            simp only [bulkA_append, bulkA, Arg.bulk] at hn hb
            simp only [push_cast, Nat.reduceEqDiff, Nat.reduceAdd, Nat.reduceLT, Nat.reduceLeDiff, Nat.reduceMul, Nat.reduceSub, reduceCtorEq, Int.reduceEq, Int.reduceLT, Int.reduceLE, Int.reduceAdd, Int.reduceSub, Int.reduceToNat, decide_true, decide_false, Node.cs, Arg.cs, g0, g3, g4, g5]
            refine callK_intro (ih yn (by omega) (by omega)) (by simp only [push_cast, Nat.reduceEqDiff, Nat.reduceAdd, Nat.reduceLT, Nat.reduceLeDiff, Nat.reduceMul, Nat.reduceSub, reduceCtorEq, Int.reduceEq, Int.reduceLT, Int.reduceLE, Int.reduceAdd, Int.reduceSub, Int.reduceToNat, decide_true, decide_false]) (by simp only [push_cast, Nat.reduceEqDiff, Nat.reduceAdd, Nat.reduceLT, Nat.reduceLeDiff, Nat.reduceMul, Nat.reduceSub, reduceCtorEq, Int.reduceEq, Int.reduceLT, Int.reduceLE, Int.reduceAdd, Int.reduceSub, Int.reduceToNat, decide_true, decide_false]) ?_
            simp only [push_cast, Nat.reduceEqDiff, Nat.reduceAdd, Nat.reduceLT, Nat.reduceLeDiff, Nat.reduceMul, Nat.reduceSub, reduceCtorEq, Int.reduceEq, Int.reduceLT, Int.reduceLE, Int.reduceAdd, Int.reduceSub, Int.reduceToNat, decide_true, decide_false, Node.cs, Arg.cs, g0, g3, g4, g5]
            refine callK_intro (ih yv (by omega) (by omega)) (by simp only [push_cast, Nat.reduceEqDiff, Nat.reduceAdd, Nat.reduceLT, Nat.reduceLeDiff, Nat.reduceMul, Nat.reduceSub, reduceCtorEq, Int.reduceEq, Int.reduceLT, Int.reduceLE, Int.reduceAdd, Int.reduceSub, Int.reduceToNat, decide_true, decide_false]) (by simp only [push_cast, Nat.reduceEqDiff, Nat.reduceAdd, Nat.reduceLT, Nat.reduceLeDiff, Nat.reduceMul, Nat.reduceSub, reduceCtorEq, Int.reduceEq, Int.reduceLT, Int.reduceLE, Int.reduceAdd, Int.reduceSub, Int.reduceToNat, decide_true, decide_false]) ?_
            simp only [push_cast, Nat.reduceEqDiff, Nat.reduceAdd, Nat.reduceLT, Nat.reduceLeDiff, Nat.reduceMul, Nat.reduceSub, reduceCtorEq, Int.reduceEq, Int.reduceLT, Int.reduceLE, Int.reduceAdd, Int.reduceSub, Int.reduceToNat, decide_true, decide_false, Node.cs, Arg.cs, g0, g3, g4, g5]
            refine ⟨by omega, q.length, by omega, b ++ [.mk yb yn yv], q, by simp, rfl, by simp, ?_, by simp⟩
            congr 1
            simp only [depA_append, depA, Arg.dep]
            omega
theorem t13 (hf : Is13 P F T) (l : List Node) (hb : bulks l ≤ 2 ^ 26) : PTr P (F 13) [.lst 5 (encs l)] (.int .i64 (deps l)) := t13' hf _ l (Nat.lt_succ_self _) hb

/-- the text of a plain tree, and whether it is one -/
def plainV (l : List Node) : V := match plains l with
  | some s => .tup [.str s, .bool true]
  | none => .tup [.str [], .bool false]
theorem plains_bulk : ∀ (l : List Node) (s : List UInt8), plains l = some s → s.length ≤ bulks l
  | [], s, h => by simp [plains] at h; subst h; simp
  | .mk k t s0 ks as :: r, s, h => by
    have ih := plains_bulk r
    simp only [plains] at h
    simp only [bulks, Node.bulk]
    split at h
    · cases hp : plains r with
      | none => rw [hp] at h; simp at h
      | some q => rw [hp] at h; simp at h; subst h; have := ih q hp; simp; omega
    · split at h
      · have := ih s h; omega
      · simp at h
theorem plains_append (a b : List Node) : plains (a ++ b) = (plains a).bind fun s => (plains b).map (s ++ ·) := by
  induction a with
  | nil => simp [plains]
  | cons x r ih =>
    obtain ⟨k, t, s0, ks, as⟩ := x
    simp only [List.cons_append, plains, ih]
    split
    · cases plains r <;> cases plains b <;> simp
    · split <;> simp

/-- tree.Plain -/
theorem t17 (hf : Is17 P F T) (h27 : Is27 P F T) (h30 : Is30 P F T) (h23 : Is23 P F T) (l : List Node) (hb : bulks l ≤ 2 ^ 26) : PTr P (F 17) [.lst 5 (encs l)] (plainV l) := by
  refine ptrC [] hf (by simp) (by unfold plainV; split <;> rfl) ?_
  simp only [c17, push_cast, Nat.reduceEqDiff, Nat.reduceAdd, Nat.reduceLT, Nat.reduceLeDiff, Nat.reduceMul, Nat.reduceSub, reduceCtorEq, Int.reduceEq, Int.reduceLT, Int.reduceLE, Int.reduceAdd, Int.reduceSub, Int.reduceToNat, decide_true, decide_false]
  refine loopK_intro (fun m s => ∃ a r q id, l = a ++ r ∧ m = r.length ∧ plains a = some q ∧ s.env 4 = .ptr id 0 ∧ s.env 7 = .lst 5 (encs (a ++ r)) ∧ s.env 8 = .int .i64 (a ++ r).length ∧ s.env 9 = .int .i64 a.length ∧ s.L id = some (.bld (T 2) (T 3) q) ∧ id < s.nx) l.length ⟨[], l, [], 29, ?_⟩ fun m s hJ => ?_
  · simp only [push_cast, Nat.reduceEqDiff, Nat.reduceAdd, Nat.reduceLT, Nat.reduceLeDiff, Nat.reduceMul, Nat.reduceSub, reduceCtorEq, Int.reduceEq, Int.reduceLT, Int.reduceLE, Int.reduceAdd, Int.reduceSub, Int.reduceToNat, decide_true, decide_false, plains]
  · obtain ⟨a, r, q, id, rfl, rfl, hq, h4, h7, h8, h9, hL, hnx⟩ := hJ
    have hql := plains_bulk _ _ hq
    cases r with
    | nil =>
      simp only [push_cast, Nat.reduceEqDiff, Nat.reduceAdd, Nat.reduceLT, Nat.reduceLeDiff, Nat.reduceMul, Nat.reduceSub, reduceCtorEq, Int.reduceEq, Int.reduceLT, Int.reduceLE, Int.reduceAdd, Int.reduceSub, Int.reduceToNat, decide_true, decide_false, h4, h7, h8, h9]
      refine ecallK_intro (t23 h23 hL (by omega)) ?_
      rintro u L1 nx1 ⟨rfl, g1, g2⟩
      simp only [push_cast, Nat.reduceEqDiff, Nat.reduceAdd, Nat.reduceLT, Nat.reduceLeDiff, Nat.reduceMul, Nat.reduceSub, reduceCtorEq, Int.reduceEq, Int.reduceLT, Int.reduceLE, Int.reduceAdd, Int.reduceSub, Int.reduceToNat, decide_true, decide_false]
      simp only [plainV, hq]
      rfl
    | cons x r =>
      obtain ⟨k, t, s0, ks, as⟩ := x
      have q3 := len_bulks a
      have n1 : id ≠ s.nx + 31 := by omega
      simp only [bulks_append, bulks, Node.bulk] at hb
      by_cases k1 : k = 1 ∨ k = 3
      · have hk : plains [Node.mk k t s0 ks as] = some s0 := by simp [plains, k1]
        rcases k1 with rfl | rfl
        all_goals
          simp only [push_cast, Nat.reduceEqDiff, Nat.reduceAdd, Nat.reduceLT, Nat.reduceLeDiff, Nat.reduceMul, Nat.reduceSub, reduceCtorEq, Int.reduceEq, Int.reduceLT, Int.reduceLE, Int.reduceAdd, Int.reduceSub, Int.reduceToNat, decide_true, decide_false, h4, h7, h8, h9, Node.cs]
          refine ecallK_intro (t27 (bs := q) h27 h30 (by simp only [push_cast, Nat.reduceEqDiff, Nat.reduceAdd, Nat.reduceLT, Nat.reduceLeDiff, Nat.reduceMul, Nat.reduceSub, reduceCtorEq, Int.reduceEq, Int.reduceLT, Int.reduceLE, Int.reduceAdd, Int.reduceSub, Int.reduceToNat, decide_true, decide_false, n1, hL]) (by omega) (by omega)) ?_
          rintro u L1 nx1 hw
          have := hw.le
          simp only [push_cast, Nat.reduceEqDiff, Nat.reduceAdd, Nat.reduceLT, Nat.reduceLeDiff, Nat.reduceMul, Nat.reduceSub, reduceCtorEq, Int.reduceEq, Int.reduceLT, Int.reduceLE, Int.reduceAdd, Int.reduceSub, Int.reduceToNat, decide_true, decide_false, h4, h7, h8, h9]
          refine ⟨by omega, r.length, by omega, a ++ [.mk _ t s0 ks as], r, q ++ s0, id, List.append_cons _ _ _, rfl, by rw [plains_append, hq, hk]; rfl, rfl, by simp, by simp, by simp, hw.at_, by omega⟩
      · by_cases k2 : k = 2
        · subst k2
          have hk : plains [Node.mk 2 t s0 ks as] = some [] := by simp [plains]
          simp only [push_cast, Nat.reduceEqDiff, Nat.reduceAdd, Nat.reduceLT, Nat.reduceLeDiff, Nat.reduceMul, Nat.reduceSub, reduceCtorEq, Int.reduceEq, Int.reduceLT, Int.reduceLE, Int.reduceAdd, Int.reduceSub, Int.reduceToNat, decide_true, decide_false, h4, h7, h8, h9, Node.cs]
          refine ⟨by omega, r.length, by omega, a ++ [.mk _ t s0 ks as], r, q, id, List.append_cons _ _ _, rfl, by rw [plains_append, hq, hk]; simp, rfl, by simp, by simp, by simp, by simp only [push_cast, Nat.reduceEqDiff, Nat.reduceAdd, Nat.reduceLT, Nat.reduceLeDiff, Nat.reduceMul, Nat.reduceSub, reduceCtorEq, Int.reduceEq, Int.reduceLT, Int.reduceLE, Int.reduceAdd, Int.reduceSub, Int.reduceToNat, decide_true, decide_false, n1, hL], by omega⟩
        · have hk : plains (a ++ .mk k t s0 ks as :: r) = none := by rw [plains_append]; simp [plains, k1, k2]
          have e1 : k ≠ 1 := fun h => k1 (.inl h)
          have e3 : k ≠ 3 := fun h => k1 (.inr h)
          simp only [push_cast, Nat.reduceEqDiff, Nat.reduceAdd, Nat.reduceLT, Nat.reduceLeDiff, Nat.reduceMul, Nat.reduceSub, reduceCtorEq, Int.reduceEq, Int.reduceLT, Int.reduceLE, Int.reduceAdd, Int.reduceSub, Int.reduceToNat, decide_true, decide_false, h4, h7, h8, h9, Node.cs, e1, e3, k2]
          simp only [plainV, hk]
          rfl
/-- the reference's Plain -/
theorem t18 (hf : Is18 P F T) (l : List Node) (hb : bulks l ≤ 2 ^ 26) : PTr P (F 18) [.lst 5 (encs l)] (plainV l) := by
  refine ptrC [] hf (by simp) (by unfold plainV; split <;> rfl) ?_
  simp only [c18, push_cast, Nat.reduceEqDiff, Nat.reduceAdd, Nat.reduceLT, Nat.reduceLeDiff, Nat.reduceMul, Nat.reduceSub, reduceCtorEq, Int.reduceEq, Int.reduceLT, Int.reduceLE, Int.reduceAdd, Int.reduceSub, Int.reduceToNat, decide_true, decide_false]
  refine loopK_intro (fun m s => ∃ a r q, l = a ++ r ∧ m = r.length ∧ plains a = some q ∧ s.env 4 = .str q ∧ s.env 0 = .lst 5 (encs (a ++ r)) ∧ s.env 5 = .int .i64 a.length) l.length ⟨[], l, [], ?_⟩ fun m s hJ => ?_
  · simp only [push_cast, Nat.reduceEqDiff, Nat.reduceAdd, Nat.reduceLT, Nat.reduceLeDiff, Nat.reduceMul, Nat.reduceSub, reduceCtorEq, Int.reduceEq, Int.reduceLT, Int.reduceLE, Int.reduceAdd, Int.reduceSub, Int.reduceToNat, decide_true, decide_false, plains]
  · obtain ⟨a, r, q, rfl, rfl, hq, h4, h0, h5⟩ := hJ
    have hql := plains_bulk _ _ hq
    cases r with
    | nil =>
      simp only [push_cast, Nat.reduceEqDiff, Nat.reduceAdd, Nat.reduceLT, Nat.reduceLeDiff, Nat.reduceMul, Nat.reduceSub, reduceCtorEq, Int.reduceEq, Int.reduceLT, Int.reduceLE, Int.reduceAdd, Int.reduceSub, Int.reduceToNat, decide_true, decide_false, h4, h0, h5]
      simp only [plainV, hq]
      rfl
    | cons x r =>
      obtain ⟨k, t, s0, ks, as⟩ := x
      have q3 := len_bulks a
      simp only [bulks_append, bulks, Node.bulk] at hb
      by_cases k1 : k = 1 ∨ k = 3
      · have hk : plains [Node.mk k t s0 ks as] = some s0 := by simp [plains, k1]
        rcases k1 with rfl | rfl
        all_goals
          simp only [push_cast, Nat.reduceEqDiff, Nat.reduceAdd, Nat.reduceLT, Nat.reduceLeDiff, Nat.reduceMul, Nat.reduceSub, reduceCtorEq, Int.reduceEq, Int.reduceLT, Int.reduceLE, Int.reduceAdd, Int.reduceSub, Int.reduceToNat, decide_true, decide_false, h4, h0, h5, Node.cs]
          refine ⟨by omega, by omega, r.length, by omega, a ++ [.mk _ t s0 ks as], r, q ++ s0, List.append_cons _ _ _, rfl, by rw [plains_append, hq, hk]; rfl, rfl, by simp, by simp⟩
      · by_cases k2 : k = 2
        · subst k2
          have hk : plains [Node.mk 2 t s0 ks as] = some [] := by simp [plains]
          simp only [push_cast, Nat.reduceEqDiff, Nat.reduceAdd, Nat.reduceLT, Nat.reduceLeDiff, Nat.reduceMul, Nat.reduceSub, reduceCtorEq, Int.reduceEq, Int.reduceLT, Int.reduceLE, Int.reduceAdd, Int.reduceSub, Int.reduceToNat, decide_true, decide_false, h4, h0, h5, Node.cs]
          refine ⟨by omega, r.length, by omega, a ++ [.mk _ t s0 ks as], r, q, List.append_cons _ _ _, rfl, by rw [plains_append, hq, hk]; simp, rfl, by simp, by simp⟩
        · have hk : plains (a ++ .mk k t s0 ks as :: r) = none := by rw [plains_append]; simp [plains, k1, k2]
          have e1 : k ≠ 1 := fun h => k1 (.inl h)
          have e3 : k ≠ 3 := fun h => k1 (.inr h)
          simp only [push_cast, Nat.reduceEqDiff, Nat.reduceAdd, Nat.reduceLT, Nat.reduceLeDiff, Nat.reduceMul, Nat.reduceSub, reduceCtorEq, Int.reduceEq, Int.reduceLT, Int.reduceLE, Int.reduceAdd, Int.reduceSub, Int.reduceToNat, decide_true, decide_false, h4, h0, h5, Node.cs, e1, e3, k2]
          simp only [plainV, hk]
          rfl
end Go.Ab
