/- Numbers of nodes, depths. No condition. -/
import Derived.Test.YtbipjhcnooellaaAbTw
namespace Go.Ab
set_option linter.unusedVariables false
set_option linter.unusedSimpArgs false

theorem view_imm {L : Heap} : ∀ (n : Nat) (v : V), v.imm = true → view L n v = v
  | 0, v, _ => by unfold view; cases v <;> rfl
  | n + 1, v, h => by
    cases v <;> try rfl
    · simp [V.imm] at h
    · rename_i cs
      simp only [V.imm] at h
      simp only [view]
      rw [show cs.map (view L n) = cs.map id from List.map_congr_left fun x hx => view_imm n x (imms_mem h hx), List.map_id]
    · rename_i cs
      simp only [V.imm] at h
      simp only [view]
      rw [show cs.map (view L n) = cs.map id from List.map_congr_left fun x hx => view_imm n x (imms_mem h hx), List.map_id]
theorem view_own {L : Heap} {i ty z sz n : Nat} {es : List V} (h : L i = some (.vec ty z es)) (hn : n ≤ es.length) (hi : V.imms es = true) : view L 3 (.own i sz 0 n) = .lst sz (es.take n) := by
  simp only [view, h, Nat.zero_add, hn, if_true, List.drop_zero]
  rw [show (es.take n).map (view L 2) = (es.take n).map id from List.map_congr_left fun x hx => view_imm 2 x (imms_mem hi (List.mem_of_mem_take hx)), List.map_id]
theorem view_own' {L : Heap} {id ty z sz : Nat} {es : List V} (h : L id = some (.vec ty z es)) (hi : V.imms es = true) : view L 3 (.own id sz 0 es.length) = .lst sz es := by
  rw [view_own h (Nat.le_refl _) hi, List.take_length]

def encL (l : List (List Node)) : List V := l.map fun x => .lst 5 (encs x)
def argL (l : List Arg) : List (List Node) := l.flatMap fun | .mk _ n v => [n, v]
theorem encL_append (a b : List (List Node)) : encL (a ++ b) = encL a ++ encL b := by simp [encL]
theorem encL_length (a : List (List Node)) : (encL a).length = a.length := by simp [encL]
theorem imms_encL (l : List (List Node)) : V.imms (encL l) = true := imms_map _ _ fun a => by simp [V.imm, imms_encs]
theorem encL_at (a : List (List Node)) (x : List Node) (r : List (List Node)) : (encL (a ++ x :: r)).getD a.length .junk = .lst 5 (encs x) := by
  rw [encL_append, ← encL_length a, List.getD_eq_getElem?_getD, List.getElem?_append_right (Nat.le_refl _)]; simp [encL]
attribute [push_cast] encL_length imms_encL encL_at
theorem argL_length (l : List Arg) : (argL l).length = 2 * l.length := by
  induction l with
  | nil => rfl
  | cons x r ih => obtain ⟨b, n, v⟩ := x; simp only [argL] at ih; simp [argL, ih]; omega
def sumL (f : List Node → Nat) (l : List (List Node)) : Nat := (l.map f).sum
def maxL (f : List Node → Nat) : List (List Node) → Nat
  | [] => 0
  | x :: r => max (f x) (maxL f r)
theorem sumL_append (f : List Node → Nat) (a b : List (List Node)) : sumL f (a ++ b) = sumL f a + sumL f b := by simp [sumL]
theorem maxL_append (f : List Node → Nat) (a b : List (List Node)) : maxL f (a ++ b) = max (maxL f a) (maxL f b) := by
  induction a with
  | nil => simp [maxL]
  | cons x r ih => simp [maxL, ih, Nat.max_assoc]
theorem sum_argL (l : List Arg) : sumL counts (argL l) = countA l := by
  induction l with
  | nil => rfl
  | cons x r ih => obtain ⟨b, n, v⟩ := x; simp only [argL, sumL] at ih; simp [argL, sumL, ih, countA, Arg.count]; omega
theorem max_argL (l : List Arg) : maxL deps (argL l) = depA l := by
  induction l with
  | nil => rfl
  | cons x r ih => obtain ⟨b, n, v⟩ := x; simp only [argL] at ih; simp [argL, maxL, ih, depA, Arg.dep, Nat.max_assoc]
theorem bulk_argL (l : List Arg) : sumL bulks (argL l) ≤ bulkA l := by
  induction l with
  | nil => simp [sumL, argL]
  | cons x r ih => obtain ⟨b, n, v⟩ := x; simp only [argL, sumL] at ih; simp [argL, sumL, bulkA, Arg.bulk]; omega

variable {P : Program} {F T : Nat → Nat}

/-- tree.lists -/
theorem t26 (hf : Is26 P F T) (k t : Int) (s0 : List UInt8) (ks : List Node) (as : List Arg) (hb : as.length ≤ 2 ^ 26) :
    PTr P (F 26) [.agg (Node.mk k t s0 ks as).cs] (.lst 1 (encL (ks :: argL as))) := by
  refine ptrC [] hf (by simp) (by simp only [push_cast, Nat.reduceEqDiff, Nat.reduceAdd, Nat.reduceLT, Nat.reduceLeDiff, Nat.reduceMul, Nat.reduceSub, reduceCtorEq, Int.reduceEq, Int.reduceLT, Int.reduceLE, Int.reduceAdd, Int.reduceSub, Int.reduceToNat, decide_true, decide_false]) ?_
  simp only [c26, push_cast, Nat.reduceEqDiff, Nat.reduceAdd, Nat.reduceLT, Nat.reduceLeDiff, Nat.reduceMul, Nat.reduceSub, reduceCtorEq, Int.reduceEq, Int.reduceLT, Int.reduceLE, Int.reduceAdd, Int.reduceSub, Int.reduceToNat, decide_true, decide_false, Node.cs]
  refine loopK_intro (fun m s => ∃ a r id, as = a ++ r ∧ m = r.length ∧ s.env 3 = .own id 1 0 (ks :: argL a).length ∧ s.L id = some (.vec (T 4) 1 (encL (ks :: argL a))) ∧ id < s.nx ∧ s.env 10 = .lst 3 (encA (a ++ r)) ∧ s.env 11 = .int .i64 (a ++ r).length ∧ s.env 12 = .int .i64 a.length) as.length ⟨[], as, 8 + 25, ?_⟩ fun m s hJ => ?_
  · simp only [push_cast, Nat.reduceEqDiff, Nat.reduceAdd, Nat.reduceLT, Nat.reduceLeDiff, Nat.reduceMul, Nat.reduceSub, reduceCtorEq, Int.reduceEq, Int.reduceLT, Int.reduceLE, Int.reduceAdd, Int.reduceSub, Int.reduceToNat, decide_true, decide_false, argL, encL, List.flatMap_nil]
  · obtain ⟨a, r, id, rfl, rfl, h3, hL, hid, h10, h11, h12⟩ := hJ
    cases r with
    | nil =>
      simp only [push_cast, Nat.reduceEqDiff, Nat.reduceAdd, Nat.reduceLT, Nat.reduceLeDiff, Nat.reduceMul, Nat.reduceSub, reduceCtorEq, Int.reduceEq, Int.reduceLT, Int.reduceLE, Int.reduceAdd, Int.reduceSub, Int.reduceToNat, decide_true, decide_false, h3, h10, h11, h12, hL]
      rw [← encL_length]
      exact view_own' hL (imms_encL _)
    | cons x r =>
      obtain ⟨xb, xn, xv⟩ := x
      have n1 : id ≠ s.nx + 30 := by omega
      have hal := argL_length a
      have e : encL (ks :: argL (a ++ [.mk xb xn xv])) = encL (ks :: argL a) ++ [.lst 5 (encs xn), .lst 5 (encs xv)] := by simp [argL, encL]
      simp only [push_cast, Nat.reduceEqDiff, Nat.reduceAdd, Nat.reduceLT, Nat.reduceLeDiff, Nat.reduceMul, Nat.reduceSub, reduceCtorEq, Int.reduceEq, Int.reduceLT, Int.reduceLE, Int.reduceAdd, Int.reduceSub, Int.reduceToNat, decide_true, decide_false, h3, h10, h11, h12, n1, hL, Arg.cs]
      simp only [List.length_append, List.length_cons] at hb
      refine ⟨by omega, by omega, r.length, by omega, a ++ [.mk xb xn xv], r, s.nx + 72, by simp, rfl, ?_, ?_, by omega, by simp, by simp, by simp⟩
      · simp only [argL_length, List.length_append, List.length_cons, List.length_nil]
        congr 1
      · rw [updL_same, e, List.take_of_length_le (by simp [encL])]

theorem sumL_cons (f : List Node → Nat) (x : List Node) (r : List (List Node)) : sumL f (x :: r) = f x + sumL f r := by simp [sumL]

/-- tree.Count -/
theorem t10' (hf : Is10 P F T) (h26 : Is26 P F T) : ∀ (n : Nat) (l : List Node), bulks l < n → bulks l ≤ 2 ^ 26 → PTr P (F 10) [.lst 5 (encs l)] (.int .i64 (counts l)) := by
    intro n
    induction n with
    | zero => intro l h _; omega
    | succ n ih =>
    intro l hn hb
    refine ptrC [] hf (by simp) rfl ?_
    simp only [c10, push_cast, Nat.reduceEqDiff, Nat.reduceAdd, Nat.reduceLT, Nat.reduceLeDiff, Nat.reduceMul, Nat.reduceSub, reduceCtorEq, Int.reduceEq, Int.reduceLT, Int.reduceLE, Int.reduceAdd, Int.reduceSub, Int.reduceToNat, decide_true, decide_false]
    refine loopK_intro (fun m s => ∃ a r, l = a ++ r ∧ m = r.length ∧ s.env 10 = .lst 5 (encs (a ++ r)) ∧ s.env 11 = .int .i64 (a ++ r).length ∧ s.env 12 = .int .i64 a.length ∧ s.env 3 = .int .i64 (r.length + counts a)) l.length ⟨[], l, ?_⟩ fun m s hJ => ?_
    · simp only [push_cast, Nat.reduceEqDiff, Nat.reduceAdd, Nat.reduceLT, Nat.reduceLeDiff, Nat.reduceMul, Nat.reduceSub, reduceCtorEq, Int.reduceEq, Int.reduceLT, Int.reduceLE, Int.reduceAdd, Int.reduceSub, Int.reduceToNat, decide_true, decide_false, counts]
      simp
    · obtain ⟨a, r, rfl, rfl, h10, h11, h12, h3⟩ := hJ
      cases r with
      | nil =>
        simp only [push_cast, Nat.reduceEqDiff, Nat.reduceAdd, Nat.reduceLT, Nat.reduceLeDiff, Nat.reduceMul, Nat.reduceSub, reduceCtorEq, Int.reduceEq, Int.reduceLT, Int.reduceLE, Int.reduceAdd, Int.reduceSub, Int.reduceToNat, decide_true, decide_false, h10, h11, h12, h3]
        simp [view]
      | cons x r =>
        obtain ⟨k, t, s0, ks, as⟩ := x
        have q1 := counts_bulks a
        have q2 := len_bulks r
        have q3 := len_bulks a
        have q4 := len_bulkA as
        have q5 := counts_bulks ks
        have q6 := countA_bulkA as
        simp only [bulks_append, bulks, Node.bulk] at hn hb
        simp only [push_cast, Nat.reduceEqDiff, Nat.reduceAdd, Nat.reduceLT, Nat.reduceLeDiff, Nat.reduceMul, Nat.reduceSub, reduceCtorEq, Int.reduceEq, Int.reduceLT, Int.reduceLE, Int.reduceAdd, Int.reduceSub, Int.reduceToNat, decide_true, decide_false, h10, h11, h12, h3, Node.cs]
        refine callK_intro (t26 h26 k t s0 ks as (by omega)) (by simp only [push_cast, Nat.reduceEqDiff, Nat.reduceAdd, Nat.reduceLT, Nat.reduceLeDiff, Nat.reduceMul, Nat.reduceSub, reduceCtorEq, Int.reduceEq, Int.reduceLT, Int.reduceLE, Int.reduceAdd, Int.reduceSub, Int.reduceToNat, decide_true, decide_false, imms_cs]) (by simp only [push_cast, Nat.reduceEqDiff, Nat.reduceAdd, Nat.reduceLT, Nat.reduceLeDiff, Nat.reduceMul, Nat.reduceSub, reduceCtorEq, Int.reduceEq, Int.reduceLT, Int.reduceLE, Int.reduceAdd, Int.reduceSub, Int.reduceToNat, decide_true, decide_false]) ?_
        simp only [push_cast, Nat.reduceEqDiff, Nat.reduceAdd, Nat.reduceLT, Nat.reduceLeDiff, Nat.reduceMul, Nat.reduceSub, reduceCtorEq, Int.reduceEq, Int.reduceLT, Int.reduceLE, Int.reduceAdd, Int.reduceSub, Int.reduceToNat, decide_true, decide_false, h10, h11, h12, h3]
        have hal := argL_length as
        have hsm := sum_argL as
        have hbm := bulk_argL as
        generalize hls : argL as = ls at hal hsm hbm ⊢
        refine loopK_intro (fun m s => ∃ b q, ks :: ls = b ++ q ∧ m = q.length ∧ s.env 10 = .lst 5 (encs (a ++ .mk k t s0 ks as :: r)) ∧ s.env 11 = .int .i64 (a ++ .mk k t s0 ks as :: r).length ∧ s.env 12 = .int .i64 a.length ∧ s.env 17 = .lst 1 (encL (b ++ q)) ∧ s.env 18 = .int .i64 (b ++ q).length ∧ s.env 19 = .int .i64 b.length ∧ s.env 3 = .int .i64 (r.length + 1 + counts a + sumL counts b)) (ls.length + 1) ⟨[], ks :: ls, ?_⟩ fun m s hJ => ?_
        · simp only [push_cast, Nat.reduceEqDiff, Nat.reduceAdd, Nat.reduceLT, Nat.reduceLeDiff, Nat.reduceMul, Nat.reduceSub, reduceCtorEq, Int.reduceEq, Int.reduceLT, Int.reduceLE, Int.reduceAdd, Int.reduceSub, Int.reduceToNat, decide_true, decide_false, sumL]
          simp [h10, h11, h12, h3]
        · obtain ⟨b, q, hbq, rfl, g10, g11, g12, g17, g18, g19, g3⟩ := hJ
          have s1 := congrArg (sumL counts) hbq
          have s2 := congrArg (sumL bulks) hbq
          have s3 := congrArg List.length hbq
          simp only [sumL_cons, sumL_append, List.length_cons, List.length_append] at s1 s2 s3
          cases q with
          | nil =>
            simp only [push_cast, Nat.reduceEqDiff, Nat.reduceAdd, Nat.reduceLT, Nat.reduceLeDiff, Nat.reduceMul, Nat.reduceSub, reduceCtorEq, Int.reduceEq, Int.reduceLT, Int.reduceLE, Int.reduceAdd, Int.reduceSub, Int.reduceToNat, decide_true, decide_false, g10, g11, g12, g17, g18, g19, g3]
            refine ⟨by omega, r.length, by omega, a ++ [.mk k t s0 ks as], r, by simp, rfl, by simp, by simp, by simp, ?_⟩
            congr 1
            simp only [counts_append, counts, Node.count]
            simp only [sumL, List.map_nil, List.sum_nil] at s1 hsm
            simp only [sumL]
            omega
          | cons y q =>
            simp only [sumL_cons, List.length_cons] at s1 s2 s3
            simp only [push_cast, Nat.reduceEqDiff, Nat.reduceAdd, Nat.reduceLT, Nat.reduceLeDiff, Nat.reduceMul, Nat.reduceSub, reduceCtorEq, Int.reduceEq, Int.reduceLT, Int.reduceLE, Int.reduceAdd, Int.reduceSub, Int.reduceToNat, decide_true, decide_false, g10, g11, g12, g17, g18, g19, g3]
            refine callK_intro (ih y (by omega) (by omega)) (by simp only [push_cast, Nat.reduceEqDiff, Nat.reduceAdd, Nat.reduceLT, Nat.reduceLeDiff, Nat.reduceMul, Nat.reduceSub, reduceCtorEq, Int.reduceEq, Int.reduceLT, Int.reduceLE, Int.reduceAdd, Int.reduceSub, Int.reduceToNat, decide_true, decide_false]) (by simp only [push_cast, Nat.reduceEqDiff, Nat.reduceAdd, Nat.reduceLT, Nat.reduceLeDiff, Nat.reduceMul, Nat.reduceSub, reduceCtorEq, Int.reduceEq, Int.reduceLT, Int.reduceLE, Int.reduceAdd, Int.reduceSub, Int.reduceToNat, decide_true, decide_false]) ?_
            simp only [push_cast, Nat.reduceEqDiff, Nat.reduceAdd, Nat.reduceLT, Nat.reduceLeDiff, Nat.reduceMul, Nat.reduceSub, reduceCtorEq, Int.reduceEq, Int.reduceLT, Int.reduceLE, Int.reduceAdd, Int.reduceSub, Int.reduceToNat, decide_true, decide_false, g10, g11, g12, g17, g18, g19, g3]
            refine ⟨by omega, by omega, q.length, by omega, b ++ [y], q, by simp [hbq], rfl, by simp, by simp, by simp, ?_⟩
            congr 1
            simp [sumL_append, sumL]
            omega
theorem t10 (hf : Is10 P F T) (h26 : Is26 P F T) (l : List Node) (hb : bulks l ≤ 2 ^ 26) : PTr P (F 10) [.lst 5 (encs l)] (.int .i64 (counts l)) := t10' hf h26 _ l (Nat.lt_succ_self _) hb

/-- the reference's Count -/
theorem t11' (hf : Is11 P F T) : ∀ (n : Nat) (l : List Node), bulks l < n → bulks l ≤ 2 ^ 26 → PTr P (F 11) [.lst 5 (encs l)] (.int .i64 (counts l)) := by
    intro n
    induction n with
    | zero => intro l h _; omega
    | succ n ih =>
    intro l hn hb
    refine ptrC [] hf (by simp) rfl ?_
    simp only [c11, push_cast, Nat.reduceEqDiff, Nat.reduceAdd, Nat.reduceLT, Nat.reduceLeDiff, Nat.reduceMul, Nat.reduceSub, reduceCtorEq, Int.reduceEq, Int.reduceLT, Int.reduceLE, Int.reduceAdd, Int.reduceSub, Int.reduceToNat, decide_true, decide_false]
    refine loopK_intro (fun m s => ∃ a r, l = a ++ r ∧ m = r.length ∧ s.env 0 = .lst 5 (encs (a ++ r)) ∧ s.env 3 = .int .i64 (r.length + counts a) ∧ s.env 4 = .int .i64 a.length) l.length ⟨[], l, ?_⟩ fun m s hJ => ?_
    · simp only [push_cast, Nat.reduceEqDiff, Nat.reduceAdd, Nat.reduceLT, Nat.reduceLeDiff, Nat.reduceMul, Nat.reduceSub, reduceCtorEq, Int.reduceEq, Int.reduceLT, Int.reduceLE, Int.reduceAdd, Int.reduceSub, Int.reduceToNat, decide_true, decide_false, counts]
      simp
    · obtain ⟨a, r, rfl, rfl, h0, h3, h4⟩ := hJ
      cases r with
      | nil =>
        simp only [push_cast, Nat.reduceEqDiff, Nat.reduceAdd, Nat.reduceLT, Nat.reduceLeDiff, Nat.reduceMul, Nat.reduceSub, reduceCtorEq, Int.reduceEq, Int.reduceLT, Int.reduceLE, Int.reduceAdd, Int.reduceSub, Int.reduceToNat, decide_true, decide_false, h0, h3, h4]
        simp [view]
      | cons x r =>
        obtain ⟨k, t, s0, ks, as⟩ := x
        have q1 := counts_bulks a
        have q2 := len_bulks r
        have q3 := len_bulks a
        have q4 := len_bulkA as
        have q5 := counts_bulks ks
        have q6 := countA_bulkA as
        simp only [bulks_append, bulks, Node.bulk] at hn hb
        simp only [push_cast, Nat.reduceEqDiff, Nat.reduceAdd, Nat.reduceLT, Nat.reduceLeDiff, Nat.reduceMul, Nat.reduceSub, reduceCtorEq, Int.reduceEq, Int.reduceLT, Int.reduceLE, Int.reduceAdd, Int.reduceSub, Int.reduceToNat, decide_true, decide_false, h0, h3, h4, Node.cs]
        refine callK_intro (ih ks (by omega) (by omega)) (by simp only [push_cast, Nat.reduceEqDiff, Nat.reduceAdd, Nat.reduceLT, Nat.reduceLeDiff, Nat.reduceMul, Nat.reduceSub, reduceCtorEq, Int.reduceEq, Int.reduceLT, Int.reduceLE, Int.reduceAdd, Int.reduceSub, Int.reduceToNat, decide_true, decide_false]) (by simp only [push_cast, Nat.reduceEqDiff, Nat.reduceAdd, Nat.reduceLT, Nat.reduceLeDiff, Nat.reduceMul, Nat.reduceSub, reduceCtorEq, Int.reduceEq, Int.reduceLT, Int.reduceLE, Int.reduceAdd, Int.reduceSub, Int.reduceToNat, decide_true, decide_false]) ?_
        simp only [push_cast, Nat.reduceEqDiff, Nat.reduceAdd, Nat.reduceLT, Nat.reduceLeDiff, Nat.reduceMul, Nat.reduceSub, reduceCtorEq, Int.reduceEq, Int.reduceLT, Int.reduceLE, Int.reduceAdd, Int.reduceSub, Int.reduceToNat, decide_true, decide_false, h0, h3, h4]
        refine ⟨by omega, ?_⟩
        refine loopK_intro (fun m s => ∃ b q, as = b ++ q ∧ m = q.length ∧ s.env 0 = .lst 5 (encs (a ++ .mk k t s0 ks (b ++ q) :: r)) ∧ s.env 3 = .int .i64 (r.length + 1 + counts a + counts ks + countA b) ∧ s.env 4 = .int .i64 a.length ∧ s.env 5 = .int .i64 b.length) as.length ⟨[], as, ?_⟩ fun m s hJ => ?_
        · simp only [push_cast, Nat.reduceEqDiff, Nat.reduceAdd, Nat.reduceLT, Nat.reduceLeDiff, Nat.reduceMul, Nat.reduceSub, reduceCtorEq, Int.reduceEq, Int.reduceLT, Int.reduceLE, Int.reduceAdd, Int.reduceSub, Int.reduceToNat, decide_true, decide_false, h0, h3, h4]
          simp [countA]
        · obtain ⟨b, q, rfl, rfl, g0, g3, g4, g5⟩ := hJ
          cases q with
          | nil =>
            simp only [push_cast, Nat.reduceEqDiff, Nat.reduceAdd, Nat.reduceLT, Nat.reduceLeDiff, Nat.reduceMul, Nat.reduceSub, reduceCtorEq, Int.reduceEq, Int.reduceLT, Int.reduceLE, Int.reduceAdd, Int.reduceSub, Int.reduceToNat, decide_true, decide_false, Node.cs, g0, g3, g4, g5]
            refine ⟨by omega, r.length, by omega, a ++ [.mk k t s0 ks b], r, by simp, by simp, by simp, ?_, by simp⟩
            congr 1
            simp [counts_append, counts, Node.count]
            omega
          | cons y q =>
            obtain ⟨yb, yn, yv⟩ := y
            have q7 := len_bulkA b
            have q8 := countA_bulkA b
            have q9 := counts_bulks yn
            have q10 := counts_bulks yv
            simp only [bulkA_append, bulkA, Arg.bulk] at hn hb
            simp only [push_cast, Nat.reduceEqDiff, Nat.reduceAdd, Nat.reduceLT, Nat.reduceLeDiff, Nat.reduceMul, Nat.reduceSub, reduceCtorEq, Int.reduceEq, Int.reduceLT, Int.reduceLE, Int.reduceAdd, Int.reduceSub, Int.reduceToNat, decide_true, decide_false, Node.cs, Arg.cs, g0, g3, g4, g5]
            refine callK_intro (ih yn (by omega) (by omega)) (by simp only [push_cast, Nat.reduceEqDiff, Nat.reduceAdd, Nat.reduceLT, Nat.reduceLeDiff, Nat.reduceMul, Nat.reduceSub, reduceCtorEq, Int.reduceEq, Int.reduceLT, Int.reduceLE, Int.reduceAdd, Int.reduceSub, Int.reduceToNat, decide_true, decide_false]) (by simp only [push_cast, Nat.reduceEqDiff, Nat.reduceAdd, Nat.reduceLT, Nat.reduceLeDiff, Nat.reduceMul, Nat.reduceSub, reduceCtorEq, Int.reduceEq, Int.reduceLT, Int.reduceLE, Int.reduceAdd, Int.reduceSub, Int.reduceToNat, decide_true, decide_false]) ?_
            simp only [push_cast, Nat.reduceEqDiff, Nat.reduceAdd, Nat.reduceLT, Nat.reduceLeDiff, Nat.reduceMul, Nat.reduceSub, reduceCtorEq, Int.reduceEq, Int.reduceLT, Int.reduceLE, Int.reduceAdd, Int.reduceSub, Int.reduceToNat, decide_true, decide_false, Node.cs, Arg.cs, g0, g3, g4, g5]
            refine ⟨by omega, callK_intro (ih yv (by omega) (by omega)) (by simp only [push_cast, Nat.reduceEqDiff, Nat.reduceAdd, Nat.reduceLT, Nat.reduceLeDiff, Nat.reduceMul, Nat.reduceSub, reduceCtorEq, Int.reduceEq, Int.reduceLT, Int.reduceLE, Int.reduceAdd, Int.reduceSub, Int.reduceToNat, decide_true, decide_false]) (by simp only [push_cast, Nat.reduceEqDiff, Nat.reduceAdd, Nat.reduceLT, Nat.reduceLeDiff, Nat.reduceMul, Nat.reduceSub, reduceCtorEq, Int.reduceEq, Int.reduceLT, Int.reduceLE, Int.reduceAdd, Int.reduceSub, Int.reduceToNat, decide_true, decide_false]) ?_⟩
            simp only [push_cast, Nat.reduceEqDiff, Nat.reduceAdd, Nat.reduceLT, Nat.reduceLeDiff, Nat.reduceMul, Nat.reduceSub, reduceCtorEq, Int.reduceEq, Int.reduceLT, Int.reduceLE, Int.reduceAdd, Int.reduceSub, Int.reduceToNat, decide_true, decide_false, Node.cs, Arg.cs, g0, g3, g4, g5]
            refine ⟨by omega, by omega, q.length, by omega, b ++ [.mk yb yn yv], q, by simp, rfl, by simp, ?_, by simp⟩
            congr 1
            simp [countA_append, countA, Arg.count]
            omega
theorem t11 (hf : Is11 P F T) (l : List Node) (hb : bulks l ≤ 2 ^ 26) : PTr P (F 11) [.lst 5 (encs l)] (.int .i64 (counts l)) := t11' hf _ l (Nat.lt_succ_self _) hb
end Go.Ab
