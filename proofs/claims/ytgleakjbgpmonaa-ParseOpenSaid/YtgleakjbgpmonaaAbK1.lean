/- Several texts of one kind, merged. No condition. -/
import Derived.Test.YtgleakjbgpmonaaAbE5
/- Numbers of nodes, depths. No condition. -/
namespace Go.Ab
set_option linter.unusedVariables false
set_option linter.unusedSimpArgs false

theorem view_imm {L : Heap} : ∀ (n : Nat) (v : V), v.imm = true → view L n v = v
  | 0, v, _ => by unfold view; cases v <;> rfl
  | n + 1, v, h => by
    cases v <;> try rfl
    · simp [V.imm] at h
    · rename_i cs
      simp only [V.imm] at h
      simp only [view]
      rw [show cs.map (view L n) = cs.map id from List.map_congr_left fun x hx => view_imm n x (imms_mem h hx), List.map_id]
    · rename_i cs
      simp only [V.imm] at h
      simp only [view]
      rw [show cs.map (view L n) = cs.map id from List.map_congr_left fun x hx => view_imm n x (imms_mem h hx), List.map_id]
theorem view_own {L : Heap} {i ty z sz n : Nat} {es : List V} (h : L i = some (.vec ty z es)) (hn : n ≤ es.length) (hi : V.imms es = true) : view L 3 (.own i sz 0 n) = .lst sz (es.take n) := by
  simp only [view, h, Nat.zero_add, hn, if_true, List.drop_zero]
  rw [show (es.take n).map (view L 2) = (es.take n).map id from List.map_congr_left fun x hx => view_imm 2 x (imms_mem hi (List.mem_of_mem_take hx)), List.map_id]
theorem view_own' {L : Heap} {id ty z sz : Nat} {es : List V} (h : L id = some (.vec ty z es)) (hi : V.imms es = true) : view L 3 (.own id sz 0 es.length) = .lst sz es := by
  rw [view_own h (Nat.le_refl _) hi, List.take_length]

def encL (l : List (List Node)) : List V := l.map fun x => .lst 5 (encs x)
def argL (l : List Arg) : List (List Node) := l.flatMap fun | .mk _ n v => [n, v]
theorem encL_append (a b : List (List Node)) : encL (a ++ b) = encL a ++ encL b := by simp [encL]
theorem encL_length (a : List (List Node)) : (encL a).length = a.length := by simp [encL]
theorem imms_encL (l : List (List Node)) : V.imms (encL l) = true := imms_map _ _ fun a => by simp [V.imm, imms_encs]
theorem encL_at (a : List (List Node)) (x : List Node) (r : List (List Node)) : (encL (a ++ x :: r)).getD a.length .junk = .lst 5 (encs x) := by
  rw [encL_append, ← encL_length a, List.getD_eq_getElem?_getD, List.getElem?_append_right (Nat.le_refl _)]; simp [encL]
attribute [push_cast] encL_length imms_encL encL_at
theorem argL_length (l : List Arg) : (argL l).length = 2 * l.length := by
  induction l with
  | nil => rfl
  | cons x r ih => obtain ⟨b, n, v⟩ := x; simp only [argL] at ih; simp [argL, ih]; omega
def sumL (f : List Node → Nat) (l : List (List Node)) : Nat := (l.map f).sum
def maxL (f : List Node → Nat) : List (List Node) → Nat
  | [] => 0
  | x :: r => max (f x) (maxL f r)
theorem sumL_append (f : List Node → Nat) (a b : List (List Node)) : sumL f (a ++ b) = sumL f a + sumL f b := by simp [sumL]
theorem maxL_append (f : List Node → Nat) (a b : List (List Node)) : maxL f (a ++ b) = max (maxL f a) (maxL f b) := by
  induction a with
  | nil => simp [maxL]
  | cons x r ih => simp [maxL, ih, Nat.max_assoc]
theorem sum_argL (l : List Arg) : sumL counts (argL l) = countA l := by
  induction l with
  | nil => rfl
  | cons x r ih => obtain ⟨b, n, v⟩ := x; simp only [argL, sumL] at ih; simp [argL, sumL, ih, countA, Arg.count]; omega
theorem max_argL (l : List Arg) : maxL deps (argL l) = depA l := by
  induction l with
  | nil => rfl
  | cons x r ih => obtain ⟨b, n, v⟩ := x; simp only [argL] at ih; simp [argL, maxL, ih, depA, Arg.dep, Nat.max_assoc]
theorem bulk_argL (l : List Arg) : sumL bulks (argL l) ≤ bulkA l := by
  induction l with
  | nil => simp [sumL, argL]
  | cons x r ih => obtain ⟨b, n, v⟩ := x; simp only [argL, sumL] at ih; simp [argL, sumL, bulkA, Arg.bulk]; omega

variable {P : Program} {F T : Nat → Nat}

theorem t26 (hf : Is26 P F T) (k t : Int) (s0 : List UInt8) (ks : List Node) (as : List Arg) (hb : as.length ≤ 2 ^ 26) :
    PTr P (F 26) [.agg (Node.mk k t s0 ks as).cs] (.lst 1 (encL (ks :: argL as))) := by
  refine ptrC [] hf (by simp) (by simp only [push_cast, seval, -Nat.reducePow, decide_true, decide_false]) ?_
  simp only [c26, push_cast, seval, -Nat.reducePow, decide_true, decide_false, Node.cs]
  refine loopK_intro (fun m s => ∃ a r id, as = a ++ r ∧ m = r.length ∧ s.env 3 = .own id 1 0 (ks :: argL a).length ∧ s.L id = some (.vec (T 4) 1 (encL (ks :: argL a))) ∧ id < s.nx ∧ s.env 10 = .lst 3 (encA (a ++ r)) ∧ s.env 11 = .int .i64 (a ++ r).length ∧ s.env 12 = .int .i64 a.length) as.length ⟨[], as, 8 + 25, ?_⟩ fun m s hJ => ?_
  · simp only [push_cast, seval, -Nat.reducePow, decide_true, decide_false, argL, encL, List.flatMap_nil]
  · obtain ⟨a, r, id, rfl, rfl, h3, hL, hid, h10, h11, h12⟩ := hJ
    cases r with
    | nil =>
      simp only [push_cast, seval, -Nat.reducePow, decide_true, decide_false, h3, h10, h11, h12, hL]
      rw [← encL_length]
      exact view_own' hL (imms_encL _)
    | cons x r =>
      obtain ⟨xb, xn, xv⟩ := x
      have n1 : id ≠ s.nx + 30 := by omega
      have hal := argL_length a
      have e : encL (ks :: argL (a ++ [.mk xb xn xv])) = encL (ks :: argL a) ++ [.lst 5 (encs xn), .lst 5 (encs xv)] := by simp [argL, encL]
      simp only [push_cast, seval, -Nat.reducePow, decide_true, decide_false, h3, h10, h11, h12, n1, hL, Arg.cs]
      simp only [List.length_append, List.length_cons] at hb
      refine ⟨by omega, by omega, r.length, by omega, a ++ [.mk xb xn xv], r, s.nx + 72, by simp, rfl, ?_, ?_, by omega, by simp, by simp, by simp⟩
      · simp only [argL_length, List.length_append, List.length_cons, List.length_nil]
        congr 1
      · rw [updL_same, e, List.take_of_length_le (by simp [encL])]

theorem sumL_cons (f : List Node → Nat) (x : List Node) (r : List (List Node)) : sumL f (x :: r) = f x + sumL f r := by simp [sumL]

theorem t10' (hf : Is10 P F T) (h26 : Is26 P F T) : ∀ (n : Nat) (l : List Node), bulks l < n → bulks l ≤ 2 ^ 26 → PTr P (F 10) [.lst 5 (encs l)] (.int .i64 (counts l)) := by
    intro n
    induction n with
    | zero => intro l h _; omega
    | succ n ih =>
    intro l hn hb
    refine ptrC [] hf (by simp) rfl ?_
    simp only [c10, push_cast, seval, -Nat.reducePow, decide_true, decide_false]
    refine loopK_intro (fun m s => ∃ a r, l = a ++ r ∧ m = r.length ∧ s.env 10 = .lst 5 (encs (a ++ r)) ∧ s.env 11 = .int .i64 (a ++ r).length ∧ s.env 12 = .int .i64 a.length ∧ s.env 3 = .int .i64 (r.length + counts a)) l.length ⟨[], l, ?_⟩ fun m s hJ => ?_
    · simp only [push_cast, seval, -Nat.reducePow, decide_true, decide_false, counts]
      simp
    · obtain ⟨a, r, rfl, rfl, h10, h11, h12, h3⟩ := hJ
      cases r with
      | nil =>
        simp only [push_cast, seval, -Nat.reducePow, decide_true, decide_false, h10, h11, h12, h3]
        simp [view]
      | cons x r =>
        obtain ⟨k, t, s0, ks, as⟩ := x
        have q1 := counts_bulks a
        have q2 := len_bulks r
        have q3 := len_bulks a
        have q4 := len_bulkA as
        have q5 := counts_bulks ks
        have q6 := countA_bulkA as
        simp only [bulks_append, bulks, Node.bulk] at hn hb
        simp only [push_cast, seval, -Nat.reducePow, decide_true, decide_false, h10, h11, h12, h3, Node.cs]
        refine callK_intro (t26 h26 k t s0 ks as (by omega)) (by simp only [push_cast, seval, -Nat.reducePow, decide_true, decide_false, imms_cs]) (by simp only [push_cast, seval, -Nat.reducePow, decide_true, decide_false]) ?_
        simp only [push_cast, seval, -Nat.reducePow, decide_true, decide_false, h10, h11, h12, h3]
        have hal := argL_length as
        have hsm := sum_argL as
        have hbm := bulk_argL as
        generalize hls : argL as = ls at hal hsm hbm ⊢
        refine loopK_intro (fun m s => ∃ b q, ks :: ls = b ++ q ∧ m = q.length ∧ s.env 10 = .lst 5 (encs (a ++ .mk k t s0 ks as :: r)) ∧ s.env 11 = .int .i64 (a ++ .mk k t s0 ks as :: r).length ∧ s.env 12 = .int .i64 a.length ∧ s.env 17 = .lst 1 (encL (b ++ q)) ∧ s.env 18 = .int .i64 (b ++ q).length ∧ s.env 19 = .int .i64 b.length ∧ s.env 3 = .int .i64 (r.length + 1 + counts a + sumL counts b)) (ls.length + 1) ⟨[], ks :: ls, ?_⟩ fun m s hJ => ?_
        · simp only [push_cast, seval, -Nat.reducePow, decide_true, decide_false, sumL]
          simp [h10, h11, h12, h3]
        · obtain ⟨b, q, hbq, rfl, g10, g11, g12, g17, g18, g19, g3⟩ := hJ
          have s1 := congrArg (sumL counts) hbq
          have s2 := congrArg (sumL bulks) hbq
          have s3 := congrArg List.length hbq
          simp only [sumL_cons, sumL_append, List.length_cons, List.length_append] at s1 s2 s3
          cases q with
          | nil =>
            simp only [push_cast, seval, -Nat.reducePow, decide_true, decide_false, g10, g11, g12, g17, g18, g19, g3]
            refine ⟨by omega, r.length, by omega, a ++ [.mk k t s0 ks as], r, by simp, rfl, by simp, by simp, by simp, ?_⟩
            congr 1
            simp only [counts_append, counts, Node.count]
            simp only [sumL, List.map_nil, List.sum_nil] at s1 hsm
            simp only [sumL]
            omega
          | cons y q =>
            simp only [sumL_cons, List.length_cons] at s1 s2 s3
            simp only [push_cast, seval, -Nat.reducePow, decide_true, decide_false, g10, g11, g12, g17, g18, g19, g3]
            refine callK_intro (ih y (by omega) (by omega)) (by simp only [push_cast, seval, -Nat.reducePow, decide_true, decide_false]) (by simp only [push_cast, seval, -Nat.reducePow, decide_true, decide_false]) ?_
            simp only [push_cast, seval, -Nat.reducePow, decide_true, decide_false, g10, g11, g12, g17, g18, g19, g3]
            refine ⟨by omega, by omega, q.length, by omega, b ++ [y], q, by simp [hbq], rfl, by simp, by simp, by simp, ?_⟩
            congr 1
            simp [sumL_append, sumL]
            omega
theorem t10 (hf : Is10 P F T) (h26 : Is26 P F T) (l : List Node) (hb : bulks l ≤ 2 ^ 26) : PTr P (F 10) [.lst 5 (encs l)] (.int .i64 (counts l)) := t10' hf h26 _ l (Nat.lt_succ_self _) hb

theorem t11' (hf : Is11 P F T) : ∀ (n : Nat) (l : List Node), bulks l < n → bulks l ≤ 2 ^ 26 → PTr P (F 11) [.lst 5 (encs l)] (.int .i64 (counts l)) := by
    intro n
    induction n with
    | zero => intro l h _; omega
    | succ n ih =>
    intro l hn hb
    refine ptrC [] hf (by simp) rfl ?_
    simp only [c11, push_cast, seval, -Nat.reducePow, decide_true, decide_false]
    refine loopK_intro (fun m s => ∃ a r, l = a ++ r ∧ m = r.length ∧ s.env 0 = .lst 5 (encs (a ++ r)) ∧ s.env 3 = .int .i64 (r.length + counts a) ∧ s.env 4 = .int .i64 a.length) l.length ⟨[], l, ?_⟩ fun m s hJ => ?_
    · simp only [push_cast, seval, -Nat.reducePow, decide_true, decide_false, counts]
      simp
    · obtain ⟨a, r, rfl, rfl, h0, h3, h4⟩ := hJ
      cases r with
      | nil =>
        simp only [push_cast, seval, -Nat.reducePow, decide_true, decide_false, h0, h3, h4]
        simp [view]
      | cons x r =>
        obtain ⟨k, t, s0, ks, as⟩ := x
        have q1 := counts_bulks a
        have q2 := len_bulks r
        have q3 := len_bulks a
        have q4 := len_bulkA as
        have q5 := counts_bulks ks
        have q6 := countA_bulkA as
        simp only [bulks_append, bulks, Node.bulk] at hn hb
        simp only [push_cast, seval, -Nat.reducePow, decide_true, decide_false, h0, h3, h4, Node.cs]
        refine callK_intro (ih ks (by omega) (by omega)) (by simp only [push_cast, seval, -Nat.reducePow, decide_true, decide_false]) (by simp only [push_cast, seval, -Nat.reducePow, decide_true, decide_false]) ?_
        simp only [push_cast, seval, -Nat.reducePow, decide_true, decide_false, h0, h3, h4]
        refine ⟨by omega, ?_⟩
        refine loopK_intro (fun m s => ∃ b q, as = b ++ q ∧ m = q.length ∧ s.env 0 = .lst 5 (encs (a ++ .mk k t s0 ks (b ++ q) :: r)) ∧ s.env 3 = .int .i64 (r.length + 1 + counts a + counts ks + countA b) ∧ s.env 4 = .int .i64 a.length ∧ s.env 5 = .int .i64 b.length) as.length ⟨[], as, ?_⟩ fun m s hJ => ?_
        · simp only [push_cast, seval, -Nat.reducePow, decide_true, decide_false, h0, h3, h4]
          simp [countA]
        · obtain ⟨b, q, rfl, rfl, g0, g3, g4, g5⟩ := hJ
          cases q with
          | nil =>
            simp only [push_cast, seval, -Nat.reducePow, decide_true, decide_false, Node.cs, g0, g3, g4, g5]
            refine ⟨by omega, r.length, by omega, a ++ [.mk k t s0 ks b], r, by simp, by simp, by simp, ?_, by simp⟩
            congr 1
            simp [counts_append, counts, Node.count]
            omega
          | cons y q =>
            obtain ⟨yb, yn, yv⟩ := y
            have q7 := len_bulkA b
            have q8 := countA_bulkA b
            have q9 := counts_bulks yn
            have q10 := counts_bulks yv
            simp only [bulkA_append, bulkA, Arg.bulk] at hn hb
            simp only [push_cast, seval, -Nat.reducePow, decide_true, decide_false, Node.cs, Arg.cs, g0, g3, g4, g5]
            refine callK_intro (ih yn (by omega) (by omega)) (by simp only [push_cast, seval, -Nat.reducePow, decide_true, decide_false]) (by simp only [push_cast, seval, -Nat.reducePow, decide_true, decide_false]) ?_
            simp only [push_cast, seval, -Nat.reducePow, decide_true, decide_false, Node.cs, Arg.cs, g0, g3, g4, g5]
            refine ⟨by omega, callK_intro (ih yv (by omega) (by omega)) (by simp only [push_cast, seval, -Nat.reducePow, decide_true, decide_false]) (by simp only [push_cast, seval, -Nat.reducePow, decide_true, decide_false]) ?_⟩
            simp only [push_cast, seval, -Nat.reducePow, decide_true, decide_false, Node.cs, Arg.cs, g0, g3, g4, g5]
            refine ⟨by omega, by omega, q.length, by omega, b ++ [.mk yb yn yv], q, by simp, rfl, by simp, ?_, by simp⟩
            congr 1
            simp [countA_append, countA, Arg.count]
            omega
theorem t11 (hf : Is11 P F T) (l : List Node) (hb : bulks l ≤ 2 ^ 26) : PTr P (F 11) [.lst 5 (encs l)] (.int .i64 (counts l)) := t11' hf _ l (Nat.lt_succ_self _) hb
end Go.Ab
/- Depths, plain texts. No condition. -/
namespace Go.Ab
set_option linter.unusedVariables false
set_option linter.unusedSimpArgs false

def dm : List Node → Nat
  | [] => 0
  | n :: r => max n.dep (dm r)
theorem dm_append (a b : List Node) : dm (a ++ b) = max (dm a) (dm b) := by
  induction a with
  | nil => simp [dm]
  | cons x r ih => simp [dm, ih, Nat.max_assoc]
theorem deps_dm : ∀ (l : List Node), l ≠ [] → deps l = dm l + 1
  | [], h => absurd rfl h
  | [x], _ => by simp [deps, dm]
  | x :: y :: r, _ => by
    rw [deps, deps_dm (y :: r) (by simp)]
    simp only [dm]
    omega
theorem deps_bulks (l : List Node) : deps l ≤ bulks l := Nat.le_trans (deps_counts l) (counts_bulks l)
theorem dm_bulks : ∀ l : List Node, dm l ≤ bulks l
  | [] => by simp [dm]
  | x :: r => by have := deps_dm (x :: r) (by simp); have := deps_bulks (x :: r); omega
theorem max_bulkL (l : List (List Node)) : maxL deps l ≤ sumL bulks l := by
  induction l with
  | nil => simp [maxL]
  | cons x r ih => have := deps_bulks x; simp only [maxL, sumL_cons]; omega

variable {P : Program} {F T : Nat → Nat}

theorem t12' (hf : Is12 P F T) (h26 : Is26 P F T) : ∀ (n : Nat) (l : List Node), bulks l < n → bulks l ≤ 2 ^ 26 → PTr P (F 12) [.lst 5 (encs l)] (.int .i64 (deps l)) := by
    intro n
    induction n with
    | zero => intro l h _; omega
    | succ n ih =>
    intro l hn hb
    refine ptrC [] hf (by simp) rfl ?_
    by_cases hl : l = []
    · subst hl
      simp only [c12, push_cast, seval, -Nat.reducePow, decide_true, decide_false, encs]
      simp [view, deps]
    have hl0 : ((l.length : Nat) : Int) ≠ 0 := by have := List.length_pos_iff.2 hl; omega
    simp only [c12, push_cast, seval, -Nat.reducePow, decide_true, decide_false, hl0]
    refine loopK_intro (fun m s => ∃ a r, l = a ++ r ∧ m = r.length ∧ s.env 11 = .lst 5 (encs (a ++ r)) ∧ s.env 12 = .int .i64 (a ++ r).length ∧ s.env 13 = .int .i64 a.length ∧ s.env 3 = .int .i64 (dm a)) l.length ⟨[], l, ?_⟩ fun m s hJ => ?_
    · simp only [push_cast, seval, -Nat.reducePow, decide_true, decide_false, dm]
    · obtain ⟨a, r, rfl, rfl, h11, h12, h13, h3⟩ := hJ
      cases r with
      | nil =>
        simp only [push_cast, seval, -Nat.reducePow, decide_true, decide_false, h11, h12, h13, h3]
        have := dm_bulks a
        rw [List.append_nil] at hl hb
        rw [deps_dm a hl]
        refine ⟨by omega, ?_⟩
        simp [view]
      | cons x r =>
        obtain ⟨k, t, s0, ks, as⟩ := x
        have q3 := len_bulks a
        have q4 := len_bulkA as
        simp only [bulks_append, bulks, Node.bulk] at hn hb
        simp only [push_cast, seval, -Nat.reducePow, decide_true, decide_false, h11, h12, h13, h3, Node.cs]
        refine callK_intro (t26 h26 k t s0 ks as (by omega)) (by simp only [push_cast, seval, -Nat.reducePow, decide_true, decide_false, imms_cs]) (by simp only [push_cast, seval, -Nat.reducePow, decide_true, decide_false]) ?_
        simp only [push_cast, seval, -Nat.reducePow, decide_true, decide_false, h11, h12, h13, h3]
        have hal := argL_length as
        have hsm := max_argL as
        have hbm := bulk_argL as
        generalize hls : argL as = ls at hal hsm hbm ⊢
        refine loopK_intro (fun m s => ∃ b q, ks :: ls = b ++ q ∧ m = q.length ∧ s.env 11 = .lst 5 (encs (a ++ .mk k t s0 ks as :: r)) ∧ s.env 12 = .int .i64 (a ++ .mk k t s0 ks as :: r).length ∧ s.env 13 = .int .i64 a.length ∧ s.env 18 = .lst 1 (encL (b ++ q)) ∧ s.env 19 = .int .i64 (b ++ q).length ∧ s.env 20 = .int .i64 b.length ∧ s.env 3 = .int .i64 (max (dm a) (maxL deps b) : Nat)) (ls.length + 1) ⟨[], ks :: ls, ?_⟩ fun m s hJ => ?_
        · simp only [push_cast, seval, -Nat.reducePow, decide_true, decide_false, maxL]
          simp [h11, h12, h13, h3]
        · obtain ⟨b, q, hbq, rfl, g11, g12, g13, g18, g19, g20, g3⟩ := hJ
          have s1 := congrArg (maxL deps) hbq
          have s2 := congrArg (sumL bulks) hbq
          have s3 := congrArg List.length hbq
          simp only [maxL, maxL_append, sumL_cons, sumL_append, List.length_cons, List.length_append] at s1 s2 s3
          cases q with
          | nil =>
            simp only [push_cast, seval, -Nat.reducePow, decide_true, decide_false, g11, g12, g13, g18, g19, g20, g3]
            refine ⟨by omega, r.length, by omega, a ++ [.mk k t s0 ks as], r, by simp, rfl, by simp, by simp, by simp, ?_⟩
            congr 1
            simp only [dm_append, dm, Node.dep]
            simp only [maxL] at s1
            omega
          | cons y q =>
            simp only [sumL_cons, List.length_cons] at s1 s2 s3
            simp only [push_cast, seval, -Nat.reducePow, decide_true, decide_false, g11, g12, g13, g18, g19, g20, g3]
            refine callK_intro (ih y (by omega) (by omega)) (by simp only [push_cast, seval, -Nat.reducePow, decide_true, decide_false]) (by simp only [push_cast, seval, -Nat.reducePow, decide_true, decide_false]) ?_
            simp only [push_cast, seval, -Nat.reducePow, decide_true, decide_false, g11, g12, g13, g18, g19, g20, g3]
            refine ⟨by omega, q.length, by omega, b ++ [y], q, by simp [hbq], rfl, by simp, by simp, by simp, ?_⟩
            congr 1
            simp only [maxL_append, maxL]
            omega
theorem t12 (hf : Is12 P F T) (h26 : Is26 P F T) (l : List Node) (hb : bulks l ≤ 2 ^ 26) : PTr P (F 12) [.lst 5 (encs l)] (.int .i64 (deps l)) := t12' hf h26 _ l (Nat.lt_succ_self _) hb

theorem t13' (hf : Is13 P F T) : ∀ (n : Nat) (l : List Node), bulks l < n → bulks l ≤ 2 ^ 26 → PTr P (F 13) [.lst 5 (encs l)] (.int .i64 (deps l)) := by
    intro n
    induction n with
    | zero => intro l h _; omega
    | succ n ih =>
    intro l hn hb
    refine ptrC [] hf (by simp) rfl ?_
    by_cases hl : l = []
    · subst hl
      simp only [c13, push_cast, seval, -Nat.reducePow, decide_true, decide_false, encs]
      simp [view, deps]
    have hl0 : ((l.length : Nat) : Int) ≠ 0 := by have := List.length_pos_iff.2 hl; omega
    simp only [c13, push_cast, seval, -Nat.reducePow, decide_true, decide_false, hl0]
    refine loopK_intro (fun m s => ∃ a r, l = a ++ r ∧ m = r.length ∧ s.env 0 = .lst 5 (encs (a ++ r)) ∧ s.env 3 = .int .i64 (dm a) ∧ s.env 4 = .int .i64 a.length) l.length ⟨[], l, ?_⟩ fun m s hJ => ?_
    · simp only [push_cast, seval, -Nat.reducePow, decide_true, decide_false, dm]
    · obtain ⟨a, r, rfl, rfl, h0, h3, h4⟩ := hJ
      cases r with
      | nil =>
        simp only [push_cast, seval, -Nat.reducePow, decide_true, decide_false, h0, h3, h4]
        have := dm_bulks a
        rw [List.append_nil] at hl hb
        rw [deps_dm a hl]
        refine ⟨by omega, ?_⟩
        simp [view]
      | cons x r =>
        obtain ⟨k, t, s0, ks, as⟩ := x
        have q3 := len_bulks a
        have q4 := len_bulkA as
        simp only [bulks_append, bulks, Node.bulk] at hn hb
        simp only [push_cast, seval, -Nat.reducePow, decide_true, decide_false, h0, h3, h4, Node.cs]
        refine callK_intro (ih ks (by omega) (by omega)) (by simp only [push_cast, seval, -Nat.reducePow, decide_true, decide_false]) (by simp only [push_cast, seval, -Nat.reducePow, decide_true, decide_false]) ?_
        simp only [push_cast, seval, -Nat.reducePow, decide_true, decide_false, h0, h3, h4]
        refine loopK_intro (fun m s => ∃ b q, as = b ++ q ∧ m = q.length ∧ s.env 0 = .lst 5 (encs (a ++ .mk k t s0 ks (b ++ q) :: r)) ∧ s.env 3 = .int .i64 (max (dm a) (max (deps ks) (depA b)) : Nat) ∧ s.env 4 = .int .i64 a.length ∧ s.env 5 = .int .i64 b.length) as.length ⟨[], as, ?_⟩ fun m s hJ => ?_
        · simp only [push_cast, seval, -Nat.reducePow, decide_true, decide_false, h0, h3, h4]
          simp [depA]
          omega
        · obtain ⟨b, q, rfl, rfl, g0, g3, g4, g5⟩ := hJ
          cases q with
          | nil =>
            simp only [push_cast, seval, -Nat.reducePow, decide_true, decide_false, Node.cs, g0, g3, g4, g5]
            refine ⟨by omega, r.length, by omega, a ++ [.mk k t s0 ks b], r, by simp, by simp, by simp, ?_, by simp⟩
            congr 1
            simp only [dm_append, dm, Node.dep]
            omega
          | cons y q =>
            obtain ⟨yb, yn, yv⟩ := y
            have q7 := len_bulkA b
            simp only [bulkA_append, bulkA, Arg.bulk] at hn hb
            simp only [push_cast, seval, -Nat.reducePow, decide_true, decide_false, Node.cs, Arg.cs, g0, g3, g4, g5]
            refine callK_intro (ih yn (by omega) (by omega)) (by simp only [push_cast, seval, -Nat.reducePow, decide_true, decide_false]) (by simp only [push_cast, seval, -Nat.reducePow, decide_true, decide_false]) ?_
            simp only [push_cast, seval, -Nat.reducePow, decide_true, decide_false, Node.cs, Arg.cs, g0, g3, g4, g5]
            refine callK_intro (ih yv (by omega) (by omega)) (by simp only [push_cast, seval, -Nat.reducePow, decide_true, decide_false]) (by simp only [push_cast, seval, -Nat.reducePow, decide_true, decide_false]) ?_
            simp only [push_cast, seval, -Nat.reducePow, decide_true, decide_false, Node.cs, Arg.cs, g0, g3, g4, g5]
            refine ⟨by omega, q.length, by omega, b ++ [.mk yb yn yv], q, by simp, rfl, by simp, ?_, by simp⟩
            congr 1
            simp only [depA_append, depA, Arg.dep]
            omega
theorem t13 (hf : Is13 P F T) (l : List Node) (hb : bulks l ≤ 2 ^ 26) : PTr P (F 13) [.lst 5 (encs l)] (.int .i64 (deps l)) := t13' hf _ l (Nat.lt_succ_self _) hb

def plainV (l : List Node) : V := match plains l with
  | some s => .tup [.str s, .bool true]
  | none => .tup [.str [], .bool false]
theorem plains_bulk : ∀ (l : List Node) (s : List UInt8), plains l = some s → s.length ≤ bulks l
  | [], s, h => by simp [plains] at h; subst h; simp
  | .mk k t s0 ks as :: r, s, h => by
    have ih := plains_bulk r
    simp only [plains] at h
    simp only [bulks, Node.bulk]
    split at h
    · cases hp : plains r with
      | none => rw [hp] at h; simp at h
      | some q => rw [hp] at h; simp at h; subst h; have := ih q hp; simp; omega
    · split at h
      · have := ih s h; omega
      · simp at h
theorem plains_append (a b : List Node) : plains (a ++ b) = (plains a).bind fun s => (plains b).map (s ++ ·) := by
  induction a with
  | nil => simp [plains]
  | cons x r ih =>
    obtain ⟨k, t, s0, ks, as⟩ := x
    simp only [List.cons_append, plains, ih]
    split
    · cases plains r <;> cases plains b <;> simp
    · split <;> simp

theorem t17 (hf : Is17 P F T) (h27 : Is27 P F T) (h30 : Is30 P F T) (h23 : Is23 P F T) (l : List Node) (hb : bulks l ≤ 2 ^ 26) : PTr P (F 17) [.lst 5 (encs l)] (plainV l) := by
  refine ptrC [] hf (by simp) (by unfold plainV; split <;> rfl) ?_
  simp only [c17, push_cast, seval, -Nat.reducePow, decide_true, decide_false]
  refine loopK_intro (fun m s => ∃ a r q id, l = a ++ r ∧ m = r.length ∧ plains a = some q ∧ s.env 4 = .ptr id 0 ∧ s.env 7 = .lst 5 (encs (a ++ r)) ∧ s.env 8 = .int .i64 (a ++ r).length ∧ s.env 9 = .int .i64 a.length ∧ s.L id = some (.bld (T 2) (T 3) q) ∧ id < s.nx) l.length ⟨[], l, [], 29, ?_⟩ fun m s hJ => ?_
  · simp only [push_cast, seval, -Nat.reducePow, decide_true, decide_false, plains]
  · obtain ⟨a, r, q, id, rfl, rfl, hq, h4, h7, h8, h9, hL, hnx⟩ := hJ
    have hql := plains_bulk _ _ hq
    cases r with
    | nil =>
      simp only [push_cast, seval, -Nat.reducePow, decide_true, decide_false, h4, h7, h8, h9]
      refine ecallK_intro (t23 h23 hL (by omega)) ?_
      rintro u L1 nx1 ⟨rfl, g1, g2⟩
      try simp only [push_cast, seval, -Nat.reducePow, decide_true, decide_false]
      simp only [plainV, hq]
      rfl
    | cons x r =>
      obtain ⟨k, t, s0, ks, as⟩ := x
      have q3 := len_bulks a
      have n1 : id ≠ s.nx + 31 := by omega
      simp only [bulks_append, bulks, Node.bulk] at hb
      by_cases k1 : k = 1 ∨ k = 3
      · have hk : plains [Node.mk k t s0 ks as] = some s0 := by simp [plains, k1]
        rcases k1 with rfl | rfl
        all_goals
          simp only [push_cast, seval, -Nat.reducePow, decide_true, decide_false, h4, h7, h8, h9, Node.cs]
          refine ecallK_intro (t27 (bs := q) h27 h30 (by simp only [push_cast, seval, -Nat.reducePow, decide_true, decide_false, n1, hL]) (by omega) (by omega)) ?_
          rintro u L1 nx1 hw
          have := hw.le
          simp only [push_cast, seval, -Nat.reducePow, decide_true, decide_false, h4, h7, h8, h9]
          refine ⟨by omega, r.length, by omega, a ++ [.mk _ t s0 ks as], r, q ++ s0, id, List.append_cons _ _ _, rfl, by rw [plains_append, hq, hk]; rfl, rfl, by simp, by simp, by simp, hw.at_, by omega⟩
      · by_cases k2 : k = 2
        · subst k2
          have hk : plains [Node.mk 2 t s0 ks as] = some [] := by simp [plains]
          simp only [push_cast, seval, -Nat.reducePow, decide_true, decide_false, h4, h7, h8, h9, Node.cs]
          refine ⟨by omega, r.length, by omega, a ++ [.mk _ t s0 ks as], r, q, id, List.append_cons _ _ _, rfl, by rw [plains_append, hq, hk]; simp, rfl, by simp, by simp, by simp, by simp only [push_cast, seval, -Nat.reducePow, decide_true, decide_false, n1, hL], by omega⟩
        · have hk : plains (a ++ .mk k t s0 ks as :: r) = none := by rw [plains_append]; simp [plains, k1, k2]
          have e1 : k ≠ 1 := fun h => k1 (.inl h)
          have e3 : k ≠ 3 := fun h => k1 (.inr h)
          simp only [push_cast, seval, -Nat.reducePow, decide_true, decide_false, h4, h7, h8, h9, Node.cs, e1, e3, k2]
          simp only [plainV, hk]
          rfl
theorem t18 (hf : Is18 P F T) (l : List Node) (hb : bulks l ≤ 2 ^ 26) : PTr P (F 18) [.lst 5 (encs l)] (plainV l) := by
  refine ptrC [] hf (by simp) (by unfold plainV; split <;> rfl) ?_
  simp only [c18, push_cast, seval, -Nat.reducePow, decide_true, decide_false]
  refine loopK_intro (fun m s => ∃ a r q, l = a ++ r ∧ m = r.length ∧ plains a = some q ∧ s.env 4 = .str q ∧ s.env 0 = .lst 5 (encs (a ++ r)) ∧ s.env 5 = .int .i64 a.length) l.length ⟨[], l, [], ?_⟩ fun m s hJ => ?_
  · simp only [push_cast, seval, -Nat.reducePow, decide_true, decide_false, plains]
  · obtain ⟨a, r, q, rfl, rfl, hq, h4, h0, h5⟩ := hJ
    have hql := plains_bulk _ _ hq
    cases r with
    | nil =>
      simp only [push_cast, seval, -Nat.reducePow, decide_true, decide_false, h4, h0, h5]
      simp only [plainV, hq]
      rfl
    | cons x r =>
      obtain ⟨k, t, s0, ks, as⟩ := x
      have q3 := len_bulks a
      simp only [bulks_append, bulks, Node.bulk] at hb
      by_cases k1 : k = 1 ∨ k = 3
      · have hk : plains [Node.mk k t s0 ks as] = some s0 := by simp [plains, k1]
        rcases k1 with rfl | rfl
        all_goals
          simp only [push_cast, seval, -Nat.reducePow, decide_true, decide_false, h4, h0, h5, Node.cs]
          refine ⟨by omega, by omega, r.length, by omega, a ++ [.mk _ t s0 ks as], r, q ++ s0, List.append_cons _ _ _, rfl, by rw [plains_append, hq, hk]; rfl, rfl, by simp, by simp⟩
      · by_cases k2 : k = 2
        · subst k2
          have hk : plains [Node.mk 2 t s0 ks as] = some [] := by simp [plains]
          simp only [push_cast, seval, -Nat.reducePow, decide_true, decide_false, h4, h0, h5, Node.cs]
          refine ⟨by omega, r.length, by omega, a ++ [.mk _ t s0 ks as], r, q, List.append_cons _ _ _, rfl, by rw [plains_append, hq, hk]; simp, rfl, by simp, by simp⟩
        · have hk : plains (a ++ .mk k t s0 ks as :: r) = none := by rw [plains_append]; simp [plains, k1, k2]
          have e1 : k ≠ 1 := fun h => k1 (.inl h)
          have e3 : k ≠ 3 := fun h => k1 (.inr h)
          simp only [push_cast, seval, -Nat.reducePow, decide_true, decide_false, h4, h0, h5, Node.cs, e1, e3, k2]
          simp only [plainV, hk]
          rfl
end Go.Ab
/- Equal trees. No condition. -/
namespace Go.Ab
set_option linter.unusedVariables false
set_option linter.unusedSimpArgs false

noncomputable def eqB (a b : List Node) : Bool := @decide (a = b) (Classical.propDecidable _)
theorem eqB_eq {a b : List Node} (h : a = b) : eqB a b = true := by unfold eqB; simp [h]
theorem eqB_ne {a b : List Node} (h : a ≠ b) : eqB a b = false := by unfold eqB; simp [h]
theorem cons_ne {p r r' : List Node} {x y : Node} (h : x ≠ y) : eqB (p ++ x :: r) (p ++ y :: r') = false := eqB_ne fun e => h (by simpa using (List.cons.inj (List.append_cancel_left e)).1)
theorem eqB_self (a : List Node) : eqB a a = true := eqB_eq rfl

variable {P : Program} {F T : Nat → Nat}
theorem view_b {L : Heap} {b : Bool} {n : Nat} : view L n (.bool b) = .bool b := view_imm n _ rfl

theorem t6' (hf : Is6 P F T) : ∀ (n : Nat) (l l' : List Node), bulks l < n → bulks l ≤ 2 ^ 26 → PTr P (F 6) [.lst 5 (encs l), .lst 5 (encs l')] (.bool (eqB l l')) := by
    intro n
    induction n with
    | zero => intro l l' h _; omega
    | succ n ih =>
    intro l l' hn hb
    refine ptrC [] hf (by simp) rfl ?_
    by_cases hl : l.length = l'.length
    case neg =>
      have hl' : ((l.length : Nat) : Int) ≠ ((l'.length : Nat) : Int) := by omega
      simp only [c6, push_cast, seval, -Nat.reducePow, decide_true, decide_false, hl', view_b]
      rw [eqB_ne fun e => hl (by rw [e])]
    have hl' : ((l.length : Nat) : Int) = ((l'.length : Nat) : Int) := by omega
    simp only [c6, push_cast, seval, -Nat.reducePow, decide_true, decide_false, hl']
    refine loopK_intro (fun m s => ∃ p r r', l = p ++ r ∧ l' = p ++ r' ∧ r.length = r'.length ∧ m = r.length ∧ s.env 1 = .lst 5 (encs (p ++ r')) ∧ s.env 16 = .lst 5 (encs (p ++ r)) ∧ s.env 17 = .int .i64 (p ++ r).length ∧ s.env 18 = .int .i64 p.length) l.length ⟨[], l, l', ?_⟩ fun m s hJ => ?_
    · simp only [push_cast, seval, -Nat.reducePow, decide_true, decide_false, List.nil_append, hl']
      simp [hl]
    obtain ⟨p, r, r', rfl, rfl, hrr, rfl, h1, h16, h17, h18⟩ := hJ
    cases r with
    | nil =>
      obtain rfl : r' = [] := by cases r' with | nil => rfl | cons a b => simp at hrr
      simp only [push_cast, seval, -Nat.reducePow, decide_true, decide_false, h1, h16, h17, h18, view_b]
      rw [eqB_self]
    | cons x r =>
      cases r' with
      | nil => simp at hrr
      | cons y r' =>
        obtain ⟨k, t, s0, ks, as⟩ := x
        obtain ⟨k', t', s0', ks', as'⟩ := y
        have q3 := len_bulks p
        simp only [bulks_append, bulks, Node.bulk] at hn hb
        by_cases e1 : k = k'
        case neg =>
          simp only [push_cast, seval, -Nat.reducePow, decide_true, decide_false, h1, h16, h17, h18, Node.cs, e1, view_b]
          rw [cons_ne (by simp [e1])]
        by_cases e2 : t = t'
        case neg =>
          simp only [push_cast, seval, -Nat.reducePow, decide_true, decide_false, h1, h16, h17, h18, Node.cs, e1, e2, view_b]
          rw [cons_ne (by simp [e2])]
        by_cases e3 : s0 = s0'
        case neg =>
          simp only [push_cast, seval, -Nat.reducePow, decide_true, decide_false, h1, h16, h17, h18, Node.cs, e1, e2, e3, view_b]
          rw [cons_ne (by simp [e3])]
        subst e1 e2 e3
        by_cases e4 : as.length = as'.length
        case neg =>
          have e4' : ((as.length : Nat) : Int) ≠ ((as'.length : Nat) : Int) := by omega
          simp only [push_cast, seval, -Nat.reducePow, decide_true, decide_false, h1, h16, h17, h18, Node.cs, e4', view_b]
          rw [cons_ne (fun e => e4 (by simp at e; rw [e.2]))]
        have e4' : ((as.length : Nat) : Int) = ((as'.length : Nat) : Int) := by omega
        simp only [push_cast, seval, -Nat.reducePow, decide_true, decide_false, h1, h16, h17, h18, Node.cs, e4']
        refine callK_intro (ih ks ks' (by omega) (by omega)) (by simp only [push_cast, seval, -Nat.reducePow, decide_true, decide_false]) (by simp only [push_cast, seval, -Nat.reducePow, decide_true, decide_false]) ?_
        by_cases e5 : ks = ks'
        case neg =>
          simp only [push_cast, seval, -Nat.reducePow, decide_true, decide_false, h1, h16, h17, h18, Node.cs, eqB_ne e5, view_b]
          rw [cons_ne (by simp [e5])]
        subst e5
        simp only [push_cast, seval, -Nat.reducePow, decide_true, decide_false, h1, h16, h17, h18, Node.cs, eqB_self]
        refine loopK_intro (fun m s => ∃ c q q' i6 i7, as = c ++ q ∧ as' = c ++ q' ∧ q.length = q'.length ∧ m = q.length ∧ s.env 1 = .lst 5 (encs (p ++ .mk k t s0 ks as' :: r')) ∧ s.env 16 = .lst 5 (encs (p ++ .mk k t s0 ks as :: r)) ∧ s.env 17 = .int .i64 (p ++ .mk k t s0 ks as :: r).length ∧ s.env 18 = .int .i64 p.length ∧
          s.env 7 = .ptr i7 0 ∧ s.L i7 = some (.box (T 0) (Node.mk k t s0 ks as').cs) ∧ i7 < s.nx ∧ s.env 64 = .lst 3 (encA (c ++ q)) ∧ s.env 65 = .int .i64 (c ++ q).length ∧ s.env 66 = .int .i64 c.length) as.length ⟨[], as, as', s.nx + 105, s.nx + 205, ?_⟩ fun m s2 hJ => ?_
        · simp only [push_cast, seval, -Nat.reducePow, decide_true, decide_false, List.nil_append, h1, h16, h17, h18, Node.cs]
          simp [e4, e4']
        obtain ⟨c, q, q', i6, i7, rfl, rfl, hqq, rfl, g1, g16, g17, g18, g7, gL, gi, g64, g65, g66⟩ := hJ
        cases q with
        | nil =>
          obtain rfl : q' = [] := by cases q' with | nil => rfl | cons a b => simp at hqq
          simp only [push_cast, seval, -Nat.reducePow, decide_true, decide_false, g1, g16, g17, g18, g64, g65, g66]
          refine ⟨by omega, r.length, by omega, p ++ [.mk k t s0 ks c], r, r', List.append_cons _ _ _, List.append_cons _ _ _, by simpa using hrr, rfl, ?_, ?_, ?_, ?_⟩
          · simp
          · simp
          · simp
          · simp
        | cons u q =>
          cases q' with
          | nil => simp at hqq
          | cons v q' =>
            obtain ⟨ub, un, uv⟩ := u
            obtain ⟨vb, vn, vv⟩ := v
            have n1 : i7 ≠ s2.nx + 108 := by omega
            have n2 : i7 ≠ s2.nx + 208 := by omega
            have q7 := len_bulkA c
            simp only [bulkA_append, bulkA, Arg.bulk] at hn hb
            have hne : ∀ {u v : Arg}, u ≠ v → eqB (p ++ .mk k t s0 ks (c ++ u :: q) :: r) (p ++ .mk k t s0 ks (c ++ v :: q') :: r') = false := fun h => cons_ne fun e => h (by simp at e; exact e.1)
            by_cases e6 : ub = vb
            case neg =>
              have e6' : (ub == vb) = false := by cases ub <;> cases vb <;> simp_all
              simp only [push_cast, seval, -Nat.reducePow, decide_true, decide_false, g1, g16, g17, g18, g7, gL, g64, g65, g66, n1, n2, Node.cs, Arg.cs, e6', view_b]
              rw [hne (by simp [e6])]
            subst e6
            have e6' : (ub == ub) = true := by simp
            simp only [push_cast, seval, -Nat.reducePow, decide_true, decide_false, g1, g16, g17, g18, g7, gL, g64, g65, g66, n1, n2, Node.cs, Arg.cs, e6']
            refine callK_intro (ih un vn (by omega) (by omega)) (by simp only [push_cast, seval, -Nat.reducePow, decide_true, decide_false]) (by simp only [push_cast, seval, -Nat.reducePow, decide_true, decide_false]) ?_
            by_cases e7 : un = vn
            case neg =>
              simp only [push_cast, seval, -Nat.reducePow, decide_true, decide_false, g1, g16, g17, g18, g7, gL, g64, g65, g66, n1, n2, Node.cs, Arg.cs, eqB_ne e7, view_b]
              rw [hne (by simp [e7])]
            subst e7
            simp only [push_cast, seval, -Nat.reducePow, decide_true, decide_false, g1, g16, g17, g18, g7, gL, g64, g65, g66, n1, n2, Node.cs, Arg.cs, eqB_self]
            refine callK_intro (ih uv vv (by omega) (by omega)) (by simp only [push_cast, seval, -Nat.reducePow, decide_true, decide_false]) (by simp only [push_cast, seval, -Nat.reducePow, decide_true, decide_false]) ?_
            by_cases e8 : uv = vv
            case neg =>
              simp only [push_cast, seval, -Nat.reducePow, decide_true, decide_false, g1, g16, g17, g18, g7, gL, g64, g65, g66, n1, n2, Node.cs, Arg.cs, eqB_ne e8, view_b]
              rw [hne (by simp [e8])]
            subst e8
            simp only [push_cast, seval, -Nat.reducePow, decide_true, decide_false, g1, g16, g17, g18, g7, gL, g64, g65, g66, n1, n2, Node.cs, Arg.cs, eqB_self]
            refine ⟨by omega, q.length, by omega, c ++ [.mk ub un uv], q, q', i6, i7, List.append_cons _ _ _, List.append_cons _ _ _, by simpa using hqq, rfl, ?_⟩
            simp [n1, n2, gL, upd, Node.cs]
            omega
theorem t6 (hf : Is6 P F T) (l l' : List Node) (hb : bulks l ≤ 2 ^ 26) : PTr P (F 6) [.lst 5 (encs l), .lst 5 (encs l')] (.bool (eqB l l')) := t6' hf _ l l' (Nat.lt_succ_self _) hb
end Go.Ab
