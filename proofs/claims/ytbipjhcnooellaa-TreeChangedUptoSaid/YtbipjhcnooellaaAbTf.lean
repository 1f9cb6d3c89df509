/- The reference's trees: equal trees, source texts. No condition. -/
import Derived.Test.YtbipjhcnooellaaAbTe
namespace Go.Ab
set_option linter.unusedVariables false
set_option linter.unusedSimpArgs false

variable {P : Program} {F T : Nat → Nat}

/-- the reference's Equal -/
theorem t7' (hf : Is7 P F T) : ∀ (n : Nat) (l l' : List Node), bulks l < n → bulks l ≤ 2 ^ 26 → PTr P (F 7) [.lst 5 (encs l), .lst 5 (encs l')] (.bool (eqB l l')) := by
  intro n
  induction n with
  | zero => intro l l' h _; omega
  | succ n ih =>
    intro l l' hn hb
    refine ptrC [] hf (by simp) rfl ?_
    by_cases hl : l.length = l'.length
    case neg =>
      have hl' : ((l.length : Nat) : Int) ≠ ((l'.length : Nat) : Int) := by omega
      simp only [c7, push_cast, Nat.reduceEqDiff, Nat.reduceAdd, Nat.reduceLT, Nat.reduceLeDiff, Nat.reduceMul, Nat.reduceSub, reduceCtorEq, Int.reduceEq, Int.reduceLT, Int.reduceLE, Int.reduceAdd, Int.reduceSub, Int.reduceToNat, decide_true, decide_false, hl', view_b]
      rw [eqB_ne fun e => hl (by rw [e])]
    have hl' : ((l.length : Nat) : Int) = ((l'.length : Nat) : Int) := by omega
    simp only [c7, push_cast, Nat.reduceEqDiff, Nat.reduceAdd, Nat.reduceLT, Nat.reduceLeDiff, Nat.reduceMul, Nat.reduceSub, reduceCtorEq, Int.reduceEq, Int.reduceLT, Int.reduceLE, Int.reduceAdd, Int.reduceSub, Int.reduceToNat, decide_true, decide_false, hl']
    refine loopK_intro (fun m s => ∃ p r r', l = p ++ r ∧ l' = p ++ r' ∧ r.length = r'.length ∧ m = r.length ∧ s.env 1 = .lst 5 (encs (p ++ r')) ∧ s.env 0 = .lst 5 (encs (p ++ r)) ∧ s.env 5 = .int .i64 p.length) l.length ⟨[], l, l', ?_⟩ fun m s hJ => ?_
    · simp only [push_cast, Nat.reduceEqDiff, Nat.reduceAdd, Nat.reduceLT, Nat.reduceLeDiff, Nat.reduceMul, Nat.reduceSub, reduceCtorEq, Int.reduceEq, Int.reduceLT, Int.reduceLE, Int.reduceAdd, Int.reduceSub, Int.reduceToNat, decide_true, decide_false]
      simp [hl]
    obtain ⟨p, r, r', rfl, rfl, hrr, rfl, h1, h0, h5⟩ := hJ
    cases r with
    | nil =>
      obtain rfl : r' = [] := by cases r' with | nil => rfl | cons a b => simp at hrr
      simp only [push_cast, Nat.reduceEqDiff, Nat.reduceAdd, Nat.reduceLT, Nat.reduceLeDiff, Nat.reduceMul, Nat.reduceSub, reduceCtorEq, Int.reduceEq, Int.reduceLT, Int.reduceLE, Int.reduceAdd, Int.reduceSub, Int.reduceToNat, decide_true, decide_false, h1, h0, h5, view_b]
      rw [eqB_self]
    | cons x r =>
      cases r' with
      | nil => simp at hrr
      | cons y r' =>
        obtain ⟨k, t, s0, ks, as⟩ := x
        obtain ⟨k', t', s0', ks', as'⟩ := y
        have q3 := len_bulks p
        simp only [bulks_append, bulks, Node.bulk] at hn hb
        simp only [push_cast, Nat.reduceEqDiff, Nat.reduceAdd, Nat.reduceLT, Nat.reduceLeDiff, Nat.reduceMul, Nat.reduceSub, reduceCtorEq, Int.reduceEq, Int.reduceLT, Int.reduceLE, Int.reduceAdd, Int.reduceSub, Int.reduceToNat, decide_true, decide_false, h1, h0, h5, Node.cs]
        refine condK_dec (fun e1 => ?_) (fun e1 => ?_)
        rotate_left
        · simp only [push_cast, Nat.reduceEqDiff, Nat.reduceAdd, Nat.reduceLT, Nat.reduceLeDiff, Nat.reduceMul, Nat.reduceSub, reduceCtorEq, Int.reduceEq, Int.reduceLT, Int.reduceLE, Int.reduceAdd, Int.reduceSub, Int.reduceToNat, decide_true, decide_false, view_b]
          rw [cons_ne (by simp [e1])]
        simp only [push_cast, Nat.reduceEqDiff, Nat.reduceAdd, Nat.reduceLT, Nat.reduceLeDiff, Nat.reduceMul, Nat.reduceSub, reduceCtorEq, Int.reduceEq, Int.reduceLT, Int.reduceLE, Int.reduceAdd, Int.reduceSub, Int.reduceToNat, decide_true, decide_false]
        refine condK_dec (fun e2 => ?_) (fun e2 => ?_)
        rotate_left
        · simp only [push_cast, Nat.reduceEqDiff, Nat.reduceAdd, Nat.reduceLT, Nat.reduceLeDiff, Nat.reduceMul, Nat.reduceSub, reduceCtorEq, Int.reduceEq, Int.reduceLT, Int.reduceLE, Int.reduceAdd, Int.reduceSub, Int.reduceToNat, decide_true, decide_false, view_b]
          rw [cons_ne (by simp [e2])]
        simp only [push_cast, Nat.reduceEqDiff, Nat.reduceAdd, Nat.reduceLT, Nat.reduceLeDiff, Nat.reduceMul, Nat.reduceSub, reduceCtorEq, Int.reduceEq, Int.reduceLT, Int.reduceLE, Int.reduceAdd, Int.reduceSub, Int.reduceToNat, decide_true, decide_false]
        refine condK_dec (fun e3 => ?_) (fun e3 => ?_)
        rotate_left
        · simp only [push_cast, Nat.reduceEqDiff, Nat.reduceAdd, Nat.reduceLT, Nat.reduceLeDiff, Nat.reduceMul, Nat.reduceSub, reduceCtorEq, Int.reduceEq, Int.reduceLT, Int.reduceLE, Int.reduceAdd, Int.reduceSub, Int.reduceToNat, decide_true, decide_false, view_b]
          rw [cons_ne (by simp [e3])]
        simp only [push_cast, Nat.reduceEqDiff, Nat.reduceAdd, Nat.reduceLT, Nat.reduceLeDiff, Nat.reduceMul, Nat.reduceSub, reduceCtorEq, Int.reduceEq, Int.reduceLT, Int.reduceLE, Int.reduceAdd, Int.reduceSub, Int.reduceToNat, decide_true, decide_false]
        refine condK_dec (fun e4 => ?_) (fun e4 => ?_)
        rotate_left
        · simp only [push_cast, Nat.reduceEqDiff, Nat.reduceAdd, Nat.reduceLT, Nat.reduceLeDiff, Nat.reduceMul, Nat.reduceSub, reduceCtorEq, Int.reduceEq, Int.reduceLT, Int.reduceLE, Int.reduceAdd, Int.reduceSub, Int.reduceToNat, decide_true, decide_false, view_b]
          rw [cons_ne (fun e => e4 (by simp at e; rw [e.2.2.2.2]))]
        simp only [push_cast, Nat.reduceEqDiff, Nat.reduceAdd, Nat.reduceLT, Nat.reduceLeDiff, Nat.reduceMul, Nat.reduceSub, reduceCtorEq, Int.reduceEq, Int.reduceLT, Int.reduceLE, Int.reduceAdd, Int.reduceSub, Int.reduceToNat, decide_true, decide_false]
        refine callK_intro (ih ks ks' (by omega) (by omega)) (by simp only [push_cast, Nat.reduceEqDiff, Nat.reduceAdd, Nat.reduceLT, Nat.reduceLeDiff, Nat.reduceMul, Nat.reduceSub, reduceCtorEq, Int.reduceEq, Int.reduceLT, Int.reduceLE, Int.reduceAdd, Int.reduceSub, Int.reduceToNat, decide_true, decide_false]) (by simp only [push_cast, Nat.reduceEqDiff, Nat.reduceAdd, Nat.reduceLT, Nat.reduceLeDiff, Nat.reduceMul, Nat.reduceSub, reduceCtorEq, Int.reduceEq, Int.reduceLT, Int.reduceLE, Int.reduceAdd, Int.reduceSub, Int.reduceToNat, decide_true, decide_false]) ?_
        simp only [push_cast, Nat.reduceEqDiff, Nat.reduceAdd, Nat.reduceLT, Nat.reduceLeDiff, Nat.reduceMul, Nat.reduceSub, reduceCtorEq, Int.reduceEq, Int.reduceLT, Int.reduceLE, Int.reduceAdd, Int.reduceSub, Int.reduceToNat, decide_true, decide_false]
        by_cases e5 : ks = ks'
        case neg =>
          simp only [push_cast, Nat.reduceEqDiff, Nat.reduceAdd, Nat.reduceLT, Nat.reduceLeDiff, Nat.reduceMul, Nat.reduceSub, reduceCtorEq, Int.reduceEq, Int.reduceLT, Int.reduceLE, Int.reduceAdd, Int.reduceSub, Int.reduceToNat, decide_true, decide_false, eqB_ne e5, view_b]
          rw [cons_ne (by simp [e5])]
        subst e1 e2 e3 e5
        have e4' : as.length = as'.length := by omega
        simp only [push_cast, Nat.reduceEqDiff, Nat.reduceAdd, Nat.reduceLT, Nat.reduceLeDiff, Nat.reduceMul, Nat.reduceSub, reduceCtorEq, Int.reduceEq, Int.reduceLT, Int.reduceLE, Int.reduceAdd, Int.reduceSub, Int.reduceToNat, decide_true, decide_false, h1, h0, h5, Node.cs, eqB_self]
        refine loopK_intro (fun m s => ∃ c q q' i6 i7, as = c ++ q ∧ as' = c ++ q' ∧ q.length = q'.length ∧ m = q.length ∧ s.env 1 = .lst 5 (encs (p ++ .mk k t s0 ks as' :: r')) ∧ s.env 0 = .lst 5 (encs (p ++ .mk k t s0 ks as :: r)) ∧ s.env 5 = .int .i64 p.length ∧
          s.env 7 = .ptr i7 0 ∧ s.L i7 = some (.box (T 0) (Node.mk k t s0 ks (c ++ q')).cs) ∧ s.env 6 = .ptr i6 0 ∧ s.L i6 = some (.box (T 0) (Node.mk k t s0 ks (c ++ q)).cs) ∧ s.env 8 = .int .i64 c.length) as.length ⟨[], as, as', s.nx + 116 + 6, s.nx + 116 + 7, ?_⟩ fun m s2 hJ => ?_
        · simp only [push_cast, Nat.reduceEqDiff, Nat.reduceAdd, Nat.reduceLT, Nat.reduceLeDiff, Nat.reduceMul, Nat.reduceSub, reduceCtorEq, Int.reduceEq, Int.reduceLT, Int.reduceLE, Int.reduceAdd, Int.reduceSub, Int.reduceToNat, decide_true, decide_false, List.nil_append, h1, h0, h5, Node.cs]
          simp [e4, e4']
        obtain ⟨c, q, q', i6, i7, rfl, rfl, hqq, rfl, g1, g0, g5, g7, gL7, g6, gL6, g8⟩ := hJ
        cases q with
        | nil =>
          obtain rfl : q' = [] := by cases q' with | nil => rfl | cons a b => simp at hqq
          simp only [push_cast, Nat.reduceEqDiff, Nat.reduceAdd, Nat.reduceLT, Nat.reduceLeDiff, Nat.reduceMul, Nat.reduceSub, reduceCtorEq, Int.reduceEq, Int.reduceLT, Int.reduceLE, Int.reduceAdd, Int.reduceSub, Int.reduceToNat, decide_true, decide_false, g1, g0, g5, g6, g7, gL7, gL6, g8, Node.cs]
          refine ⟨by omega, r.length, by omega, p ++ [.mk k t s0 ks c], r, r', List.append_cons _ _ _, List.append_cons _ _ _, by simpa using hrr, rfl, ?_, ?_, ?_⟩
          · simp
          · simp
          · simp
        | cons u q =>
          cases q' with
          | nil => simp at hqq
          | cons v q' =>
            obtain ⟨ub, un, uv⟩ := u
            obtain ⟨vb, vn, vv⟩ := v
            have q7 := len_bulkA c
            simp only [bulkA_append, bulkA, Arg.bulk] at hn hb
            have hne : ∀ {u v : Arg}, u ≠ v → eqB (p ++ .mk k t s0 ks (c ++ u :: q) :: r) (p ++ .mk k t s0 ks (c ++ v :: q') :: r') = false := fun h => cons_ne fun e => h (by simp at e; exact e.1)
            simp only [push_cast, Nat.reduceEqDiff, Nat.reduceAdd, Nat.reduceLT, Nat.reduceLeDiff, Nat.reduceMul, Nat.reduceSub, reduceCtorEq, Int.reduceEq, Int.reduceLT, Int.reduceLE, Int.reduceAdd, Int.reduceSub, Int.reduceToNat, decide_true, decide_false, g1, g0, g5, g6, g7, gL7, gL6, g8, Node.cs, Arg.cs]
            by_cases e6 : ub = vb
            case neg =>
              have e6' : (ub == vb) = false := by cases ub <;> cases vb <;> simp_all
              simp only [push_cast, Nat.reduceEqDiff, Nat.reduceAdd, Nat.reduceLT, Nat.reduceLeDiff, Nat.reduceMul, Nat.reduceSub, reduceCtorEq, Int.reduceEq, Int.reduceLT, Int.reduceLE, Int.reduceAdd, Int.reduceSub, Int.reduceToNat, decide_true, decide_false, e6', view_b]
              rw [hne (by simp [e6])]
            subst e6
            have e6' : (ub == ub) = true := by simp
            simp only [push_cast, Nat.reduceEqDiff, Nat.reduceAdd, Nat.reduceLT, Nat.reduceLeDiff, Nat.reduceMul, Nat.reduceSub, reduceCtorEq, Int.reduceEq, Int.reduceLT, Int.reduceLE, Int.reduceAdd, Int.reduceSub, Int.reduceToNat, decide_true, decide_false, g1, g0, g5, g6, g7, gL7, gL6, g8, Node.cs, Arg.cs, e6']
            refine callK_intro (ih un vn (by omega) (by omega)) (by simp only [push_cast, Nat.reduceEqDiff, Nat.reduceAdd, Nat.reduceLT, Nat.reduceLeDiff, Nat.reduceMul, Nat.reduceSub, reduceCtorEq, Int.reduceEq, Int.reduceLT, Int.reduceLE, Int.reduceAdd, Int.reduceSub, Int.reduceToNat, decide_true, decide_false]) (by simp only [push_cast, Nat.reduceEqDiff, Nat.reduceAdd, Nat.reduceLT, Nat.reduceLeDiff, Nat.reduceMul, Nat.reduceSub, reduceCtorEq, Int.reduceEq, Int.reduceLT, Int.reduceLE, Int.reduceAdd, Int.reduceSub, Int.reduceToNat, decide_true, decide_false]) ?_
            by_cases e7 : un = vn
            case neg =>
              simp only [push_cast, Nat.reduceEqDiff, Nat.reduceAdd, Nat.reduceLT, Nat.reduceLeDiff, Nat.reduceMul, Nat.reduceSub, reduceCtorEq, Int.reduceEq, Int.reduceLT, Int.reduceLE, Int.reduceAdd, Int.reduceSub, Int.reduceToNat, decide_true, decide_false, g1, g0, g5, g6, g7, gL7, gL6, g8, Node.cs, Arg.cs, eqB_ne e7, view_b]
              rw [hne (by simp [e7])]
            subst e7
            simp only [push_cast, Nat.reduceEqDiff, Nat.reduceAdd, Nat.reduceLT, Nat.reduceLeDiff, Nat.reduceMul, Nat.reduceSub, reduceCtorEq, Int.reduceEq, Int.reduceLT, Int.reduceLE, Int.reduceAdd, Int.reduceSub, Int.reduceToNat, decide_true, decide_false, g1, g0, g5, g6, g7, gL7, gL6, g8, Node.cs, Arg.cs, eqB_self]
            refine callK_intro (ih uv vv (by omega) (by omega)) (by simp only [push_cast, Nat.reduceEqDiff, Nat.reduceAdd, Nat.reduceLT, Nat.reduceLeDiff, Nat.reduceMul, Nat.reduceSub, reduceCtorEq, Int.reduceEq, Int.reduceLT, Int.reduceLE, Int.reduceAdd, Int.reduceSub, Int.reduceToNat, decide_true, decide_false]) (by simp only [push_cast, Nat.reduceEqDiff, Nat.reduceAdd, Nat.reduceLT, Nat.reduceLeDiff, Nat.reduceMul, Nat.reduceSub, reduceCtorEq, Int.reduceEq, Int.reduceLT, Int.reduceLE, Int.reduceAdd, Int.reduceSub, Int.reduceToNat, decide_true, decide_false]) ?_
            by_cases e8 : uv = vv
            case neg =>
              simp only [push_cast, Nat.reduceEqDiff, Nat.reduceAdd, Nat.reduceLT, Nat.reduceLeDiff, Nat.reduceMul, Nat.reduceSub, reduceCtorEq, Int.reduceEq, Int.reduceLT, Int.reduceLE, Int.reduceAdd, Int.reduceSub, Int.reduceToNat, decide_true, decide_false, g1, g0, g5, g6, g7, gL7, gL6, g8, Node.cs, Arg.cs, eqB_ne e8, view_b]
              rw [hne (by simp [e8])]
            subst e8
            simp only [push_cast, Nat.reduceEqDiff, Nat.reduceAdd, Nat.reduceLT, Nat.reduceLeDiff, Nat.reduceMul, Nat.reduceSub, reduceCtorEq, Int.reduceEq, Int.reduceLT, Int.reduceLE, Int.reduceAdd, Int.reduceSub, Int.reduceToNat, decide_true, decide_false, g1, g0, g5, g6, g7, gL7, gL6, g8, Node.cs, Arg.cs, eqB_self]
            refine ⟨by omega, q.length, by omega, c ++ [.mk ub un uv], q, q', i6, i7, List.append_cons _ _ _, List.append_cons _ _ _, by simpa using hqq, rfl, ?_⟩
            simp [gL6, gL7, Node.cs]
theorem t7 (hf : Is7 P F T) (l l' : List Node) (hb : bulks l ≤ 2 ^ 26) : PTr P (F 7) [.lst 5 (encs l), .lst 5 (encs l')] (.bool (eqB l l')) := t7' hf _ l l' (Nat.lt_succ_self _) hb

/-- a tag's text -/
def tagText (t : Int) (c : Bool) : List UInt8 := if 1 ≤ t ∧ t ≤ 3 then (if c then [60, 47] else [60]) ++ tagName t ++ [62] else []
theorem t25 (hf : Is25 P F T) (t : Int) (c : Bool) : PTr P (F 25) [.int .i64 t, .bool c] (.str (tagText t c)) := by
  refine ptrC [] hf (by simp) rfl ?_
  by_cases h1 : t < 1
  · simp only [c25, push_cast, Nat.reduceEqDiff, Nat.reduceAdd, Nat.reduceLT, Nat.reduceLeDiff, Nat.reduceMul, Nat.reduceSub, reduceCtorEq, Int.reduceEq, Int.reduceLT, Int.reduceLE, Int.reduceAdd, Int.reduceSub, Int.reduceToNat, decide_true, decide_false, h1]
    have : ¬ (1 ≤ t ∧ t ≤ 3) := by omega
    simp [view, tagText, this]
  · by_cases h2 : 3 < t
    · simp only [c25, push_cast, Nat.reduceEqDiff, Nat.reduceAdd, Nat.reduceLT, Nat.reduceLeDiff, Nat.reduceMul, Nat.reduceSub, reduceCtorEq, Int.reduceEq, Int.reduceLT, Int.reduceLE, Int.reduceAdd, Int.reduceSub, Int.reduceToNat, decide_true, decide_false, h1, h2]
      have : ¬ (1 ≤ t ∧ t ≤ 3) := by omega
      simp [view, tagText, this]
    · have ht : t = 1 ∨ t = 2 ∨ t = 3 := by omega
      rcases ht with rfl | rfl | rfl <;> cases c
      all_goals
        simp only [c25, push_cast, Nat.reduceEqDiff, Nat.reduceAdd, Nat.reduceLT, Nat.reduceLeDiff, Nat.reduceMul, Nat.reduceSub, reduceCtorEq, Int.reduceEq, Int.reduceLT, Int.reduceLE, Int.reduceAdd, Int.reduceSub, Int.reduceToNat, decide_true, decide_false]
        simp [view, tagText, tagName]

def PS (P : Program) (F : Nat → Nat) (n : Nat) : Prop := ∀ (l : List Node), bulks l < n → bulks l ≤ 2 ^ 26 → PTr P (F 3) [.lst 5 (encs l)] (.str (srcs l))
def PA (P : Program) (F : Nat → Nat) (n : Nat) : Prop := ∀ (l : List Arg), bulkA l < n → bulkA l ≤ 2 ^ 26 → PTr P (F 24) [.lst 3 (encA l)] (.str (srcA l))
theorem tPA (hf : Is24 P F T) {n : Nat} (hS : PS P F n) : PA P F (n + 1) := by
  intro l hn hb
  refine ptrC [] hf (by simp) rfl ?_
  simp only [c24, push_cast, Nat.reduceEqDiff, Nat.reduceAdd, Nat.reduceLT, Nat.reduceLeDiff, Nat.reduceMul, Nat.reduceSub, reduceCtorEq, Int.reduceEq, Int.reduceLT, Int.reduceLE, Int.reduceAdd, Int.reduceSub, Int.reduceToNat, decide_true, decide_false]
  refine loopK_intro (fun m s => ∃ a r, l = a ++ r ∧ m = r.length ∧ s.env 0 = .lst 3 (encA (a ++ r)) ∧ s.env 3 = .str (srcA a) ∧ s.env 4 = .int .i64 a.length) l.length ⟨[], l, ?_⟩ fun m s hJ => ?_
  · simp only [push_cast, Nat.reduceEqDiff, Nat.reduceAdd, Nat.reduceLT, Nat.reduceLeDiff, Nat.reduceMul, Nat.reduceSub, reduceCtorEq, Int.reduceEq, Int.reduceLT, Int.reduceLE, Int.reduceAdd, Int.reduceSub, Int.reduceToNat, decide_true, decide_false, srcA]
  obtain ⟨a, r, rfl, rfl, h0, h3, h4⟩ := hJ
  cases r with
  | nil =>
    simp only [push_cast, Nat.reduceEqDiff, Nat.reduceAdd, Nat.reduceLT, Nat.reduceLeDiff, Nat.reduceMul, Nat.reduceSub, reduceCtorEq, Int.reduceEq, Int.reduceLT, Int.reduceLE, Int.reduceAdd, Int.reduceSub, Int.reduceToNat, decide_true, decide_false, h0, h3, h4]
    simp [view]
  | cons x r =>
    obtain ⟨b, xn, xv⟩ := x
    have q1 := srcA_bulk a
    have q2 := srcs_bulk xn
    have q3 := srcs_bulk xv
    have q4 := len_bulkA a
    simp only [bulkA_append, bulkA, Arg.bulk] at hn hb
    cases b
    · simp only [push_cast, Nat.reduceEqDiff, Nat.reduceAdd, Nat.reduceLT, Nat.reduceLeDiff, Nat.reduceMul, Nat.reduceSub, reduceCtorEq, Int.reduceEq, Int.reduceLT, Int.reduceLE, Int.reduceAdd, Int.reduceSub, Int.reduceToNat, decide_true, decide_false, h0, h3, h4, Arg.cs]
      refine ⟨by omega, callK_intro (hS xv (by omega) (by omega)) (by simp only [push_cast, Nat.reduceEqDiff, Nat.reduceAdd, Nat.reduceLT, Nat.reduceLeDiff, Nat.reduceMul, Nat.reduceSub, reduceCtorEq, Int.reduceEq, Int.reduceLT, Int.reduceLE, Int.reduceAdd, Int.reduceSub, Int.reduceToNat, decide_true, decide_false]) (by simp only [push_cast, Nat.reduceEqDiff, Nat.reduceAdd, Nat.reduceLT, Nat.reduceLeDiff, Nat.reduceMul, Nat.reduceSub, reduceCtorEq, Int.reduceEq, Int.reduceLT, Int.reduceLE, Int.reduceAdd, Int.reduceSub, Int.reduceToNat, decide_true, decide_false]) ?_⟩
      simp only [push_cast, Nat.reduceEqDiff, Nat.reduceAdd, Nat.reduceLT, Nat.reduceLeDiff, Nat.reduceMul, Nat.reduceSub, reduceCtorEq, Int.reduceEq, Int.reduceLT, Int.reduceLE, Int.reduceAdd, Int.reduceSub, Int.reduceToNat, decide_true, decide_false, h0, h3, h4, Arg.cs]
      refine ⟨by simp; omega, by omega, r.length, by omega, a ++ [.mk false xn xv], r, List.append_cons _ _ _, rfl, ?_, ?_, ?_⟩
      · simp
      · simp [srcA_append, srcA, Arg.src]
      · simp
    · simp only [push_cast, Nat.reduceEqDiff, Nat.reduceAdd, Nat.reduceLT, Nat.reduceLeDiff, Nat.reduceMul, Nat.reduceSub, reduceCtorEq, Int.reduceEq, Int.reduceLT, Int.reduceLE, Int.reduceAdd, Int.reduceSub, Int.reduceToNat, decide_true, decide_false, h0, h3, h4, Arg.cs]
      refine ⟨by omega, callK_intro (hS xn (by omega) (by omega)) (by simp only [push_cast, Nat.reduceEqDiff, Nat.reduceAdd, Nat.reduceLT, Nat.reduceLeDiff, Nat.reduceMul, Nat.reduceSub, reduceCtorEq, Int.reduceEq, Int.reduceLT, Int.reduceLE, Int.reduceAdd, Int.reduceSub, Int.reduceToNat, decide_true, decide_false]) (by simp only [push_cast, Nat.reduceEqDiff, Nat.reduceAdd, Nat.reduceLT, Nat.reduceLeDiff, Nat.reduceMul, Nat.reduceSub, reduceCtorEq, Int.reduceEq, Int.reduceLT, Int.reduceLE, Int.reduceAdd, Int.reduceSub, Int.reduceToNat, decide_true, decide_false]) ?_⟩
      simp only [push_cast, Nat.reduceEqDiff, Nat.reduceAdd, Nat.reduceLT, Nat.reduceLeDiff, Nat.reduceMul, Nat.reduceSub, reduceCtorEq, Int.reduceEq, Int.reduceLT, Int.reduceLE, Int.reduceAdd, Int.reduceSub, Int.reduceToNat, decide_true, decide_false, h0, h3, h4, Arg.cs]
      refine ⟨by simp; omega, by simp; omega, callK_intro (hS xv (by omega) (by omega)) (by simp only [push_cast, Nat.reduceEqDiff, Nat.reduceAdd, Nat.reduceLT, Nat.reduceLeDiff, Nat.reduceMul, Nat.reduceSub, reduceCtorEq, Int.reduceEq, Int.reduceLT, Int.reduceLE, Int.reduceAdd, Int.reduceSub, Int.reduceToNat, decide_true, decide_false]) (by simp only [push_cast, Nat.reduceEqDiff, Nat.reduceAdd, Nat.reduceLT, Nat.reduceLeDiff, Nat.reduceMul, Nat.reduceSub, reduceCtorEq, Int.reduceEq, Int.reduceLT, Int.reduceLE, Int.reduceAdd, Int.reduceSub, Int.reduceToNat, decide_true, decide_false]) ?_⟩
      simp only [push_cast, Nat.reduceEqDiff, Nat.reduceAdd, Nat.reduceLT, Nat.reduceLeDiff, Nat.reduceMul, Nat.reduceSub, reduceCtorEq, Int.reduceEq, Int.reduceLT, Int.reduceLE, Int.reduceAdd, Int.reduceSub, Int.reduceToNat, decide_true, decide_false, h0, h3, h4, Arg.cs]
      refine ⟨by simp; omega, by omega, r.length, by omega, a ++ [.mk true xn xv], r, List.append_cons _ _ _, rfl, ?_, ?_, ?_⟩
      · simp
      · simp [srcA_append, srcA, Arg.src]
      · simp
theorem tPS (hf : Is3 P F T) (h25 : Is25 P F T) {n : Nat} (hS : PS P F n) (hA : PA P F n) : PS P F (n + 1) := by
  intro l hn hb
  refine ptrC [] hf (by simp) rfl ?_
  simp only [c3, push_cast, Nat.reduceEqDiff, Nat.reduceAdd, Nat.reduceLT, Nat.reduceLeDiff, Nat.reduceMul, Nat.reduceSub, reduceCtorEq, Int.reduceEq, Int.reduceLT, Int.reduceLE, Int.reduceAdd, Int.reduceSub, Int.reduceToNat, decide_true, decide_false]
  refine loopK_intro (fun m s => ∃ a r, l = a ++ r ∧ m = r.length ∧ s.env 0 = .lst 5 (encs (a ++ r)) ∧ s.env 3 = .str (srcs a) ∧ s.env 4 = .int .i64 a.length) l.length ⟨[], l, ?_⟩ fun m s hJ => ?_
  · simp only [push_cast, Nat.reduceEqDiff, Nat.reduceAdd, Nat.reduceLT, Nat.reduceLeDiff, Nat.reduceMul, Nat.reduceSub, reduceCtorEq, Int.reduceEq, Int.reduceLT, Int.reduceLE, Int.reduceAdd, Int.reduceSub, Int.reduceToNat, decide_true, decide_false, srcs]
  obtain ⟨a, r, rfl, rfl, h0, h3, h4⟩ := hJ
  cases r with
  | nil =>
    simp only [push_cast, Nat.reduceEqDiff, Nat.reduceAdd, Nat.reduceLT, Nat.reduceLeDiff, Nat.reduceMul, Nat.reduceSub, reduceCtorEq, Int.reduceEq, Int.reduceLT, Int.reduceLE, Int.reduceAdd, Int.reduceSub, Int.reduceToNat, decide_true, decide_false, h0, h3, h4]
    simp [view]
  | cons x r =>
    obtain ⟨k, t, s0, ks, as⟩ := x
    have q1 := srcs_bulk a
    have q2 := srcs_bulk ks
    have q3 := srcA_bulk as
    have q4 := len_bulks a
    have q5 := tagName_len t
    simp only [bulks_append, bulks, Node.bulk] at hn hb
    have fin : ∀ (k : Int) (q : List UInt8), (Node.mk k t s0 ks as).src = q → srcs (a ++ [.mk k t s0 ks as]) = srcs a ++ q := fun k q h => by rw [srcs_append, srcs, srcs, h, List.append_nil]
    by_cases k1 : k = 1
    · subst k1
      simp only [push_cast, Nat.reduceEqDiff, Nat.reduceAdd, Nat.reduceLT, Nat.reduceLeDiff, Nat.reduceMul, Nat.reduceSub, reduceCtorEq, Int.reduceEq, Int.reduceLT, Int.reduceLE, Int.reduceAdd, Int.reduceSub, Int.reduceToNat, decide_true, decide_false, h0, h3, h4, Node.cs]
      refine ⟨by omega, by omega, r.length, by omega, a ++ [.mk 1 t s0 ks as], r, List.append_cons _ _ _, rfl, ?_, ?_, ?_⟩
      · simp
      · rw [fin 1 s0 (by simp [Node.src])]
      · simp
    by_cases k2 : k = 2
    · subst k2
      simp only [push_cast, Nat.reduceEqDiff, Nat.reduceAdd, Nat.reduceLT, Nat.reduceLeDiff, Nat.reduceMul, Nat.reduceSub, reduceCtorEq, Int.reduceEq, Int.reduceLT, Int.reduceLE, Int.reduceAdd, Int.reduceSub, Int.reduceToNat, decide_true, decide_false, h0, h3, h4, Node.cs]
      refine ⟨by omega, by omega, r.length, by omega, a ++ [.mk 2 t s0 ks as], r, List.append_cons _ _ _, rfl, ?_, ?_, ?_⟩
      · simp
      · rw [fin 2 s0 (by simp [Node.src])]
      · simp
    by_cases k3 : k = 3
    · subst k3
      simp only [push_cast, Nat.reduceEqDiff, Nat.reduceAdd, Nat.reduceLT, Nat.reduceLeDiff, Nat.reduceMul, Nat.reduceSub, reduceCtorEq, Int.reduceEq, Int.reduceLT, Int.reduceLE, Int.reduceAdd, Int.reduceSub, Int.reduceToNat, decide_true, decide_false, h0, h3, h4, Node.cs]
      refine ⟨by omega, by simp; omega, by simp; omega, by omega, r.length, by omega, a ++ [.mk 3 t s0 ks as], r, List.append_cons _ _ _, rfl, ?_, ?_, ?_⟩
      · simp
      · rw [fin 3 _ (by simp [Node.src]; rfl)]; simp
      · simp
    by_cases k4 : k = 4
    · subst k4
      simp only [push_cast, Nat.reduceEqDiff, Nat.reduceAdd, Nat.reduceLT, Nat.reduceLeDiff, Nat.reduceMul, Nat.reduceSub, reduceCtorEq, Int.reduceEq, Int.reduceLT, Int.reduceLE, Int.reduceAdd, Int.reduceSub, Int.reduceToNat, decide_true, decide_false, h0, h3, h4, Node.cs]
      refine ⟨by omega, callK_intro (hS ks (by omega) (by omega)) (by simp only [push_cast, Nat.reduceEqDiff, Nat.reduceAdd, Nat.reduceLT, Nat.reduceLeDiff, Nat.reduceMul, Nat.reduceSub, reduceCtorEq, Int.reduceEq, Int.reduceLT, Int.reduceLE, Int.reduceAdd, Int.reduceSub, Int.reduceToNat, decide_true, decide_false]) (by simp only [push_cast, Nat.reduceEqDiff, Nat.reduceAdd, Nat.reduceLT, Nat.reduceLeDiff, Nat.reduceMul, Nat.reduceSub, reduceCtorEq, Int.reduceEq, Int.reduceLT, Int.reduceLE, Int.reduceAdd, Int.reduceSub, Int.reduceToNat, decide_true, decide_false]) ?_⟩
      simp only [push_cast, Nat.reduceEqDiff, Nat.reduceAdd, Nat.reduceLT, Nat.reduceLeDiff, Nat.reduceMul, Nat.reduceSub, reduceCtorEq, Int.reduceEq, Int.reduceLT, Int.reduceLE, Int.reduceAdd, Int.reduceSub, Int.reduceToNat, decide_true, decide_false, h0, h3, h4, Node.cs]
      refine ⟨by simp; omega, callK_intro (hA as (by omega) (by omega)) (by simp only [push_cast, Nat.reduceEqDiff, Nat.reduceAdd, Nat.reduceLT, Nat.reduceLeDiff, Nat.reduceMul, Nat.reduceSub, reduceCtorEq, Int.reduceEq, Int.reduceLT, Int.reduceLE, Int.reduceAdd, Int.reduceSub, Int.reduceToNat, decide_true, decide_false]) (by simp only [push_cast, Nat.reduceEqDiff, Nat.reduceAdd, Nat.reduceLT, Nat.reduceLeDiff, Nat.reduceMul, Nat.reduceSub, reduceCtorEq, Int.reduceEq, Int.reduceLT, Int.reduceLE, Int.reduceAdd, Int.reduceSub, Int.reduceToNat, decide_true, decide_false]) ?_⟩
      simp only [push_cast, Nat.reduceEqDiff, Nat.reduceAdd, Nat.reduceLT, Nat.reduceLeDiff, Nat.reduceMul, Nat.reduceSub, reduceCtorEq, Int.reduceEq, Int.reduceLT, Int.reduceLE, Int.reduceAdd, Int.reduceSub, Int.reduceToNat, decide_true, decide_false, h0, h3, h4, Node.cs]
      refine ⟨by simp; omega, by simp; omega, by omega, r.length, by omega, a ++ [.mk 4 t s0 ks as], r, List.append_cons _ _ _, rfl, ?_, ?_, ?_⟩
      · simp
      · rw [fin 4 _ (by simp [Node.src]; rfl)]; simp
      · simp
    by_cases k5 : k = 5
    · subst k5
      simp only [push_cast, Nat.reduceEqDiff, Nat.reduceAdd, Nat.reduceLT, Nat.reduceLeDiff, Nat.reduceMul, Nat.reduceSub, reduceCtorEq, Int.reduceEq, Int.reduceLT, Int.reduceLE, Int.reduceAdd, Int.reduceSub, Int.reduceToNat, decide_true, decide_false, h0, h3, h4, Node.cs]
      refine ⟨by omega, callK_intro (hS ks (by omega) (by omega)) (by simp only [push_cast, Nat.reduceEqDiff, Nat.reduceAdd, Nat.reduceLT, Nat.reduceLeDiff, Nat.reduceMul, Nat.reduceSub, reduceCtorEq, Int.reduceEq, Int.reduceLT, Int.reduceLE, Int.reduceAdd, Int.reduceSub, Int.reduceToNat, decide_true, decide_false]) (by simp only [push_cast, Nat.reduceEqDiff, Nat.reduceAdd, Nat.reduceLT, Nat.reduceLeDiff, Nat.reduceMul, Nat.reduceSub, reduceCtorEq, Int.reduceEq, Int.reduceLT, Int.reduceLE, Int.reduceAdd, Int.reduceSub, Int.reduceToNat, decide_true, decide_false]) ?_⟩
      simp only [push_cast, Nat.reduceEqDiff, Nat.reduceAdd, Nat.reduceLT, Nat.reduceLeDiff, Nat.reduceMul, Nat.reduceSub, reduceCtorEq, Int.reduceEq, Int.reduceLT, Int.reduceLE, Int.reduceAdd, Int.reduceSub, Int.reduceToNat, decide_true, decide_false, h0, h3, h4, Node.cs]
      refine ⟨by simp; omega, callK_intro (hA as (by omega) (by omega)) (by simp only [push_cast, Nat.reduceEqDiff, Nat.reduceAdd, Nat.reduceLT, Nat.reduceLeDiff, Nat.reduceMul, Nat.reduceSub, reduceCtorEq, Int.reduceEq, Int.reduceLT, Int.reduceLE, Int.reduceAdd, Int.reduceSub, Int.reduceToNat, decide_true, decide_false]) (by simp only [push_cast, Nat.reduceEqDiff, Nat.reduceAdd, Nat.reduceLT, Nat.reduceLeDiff, Nat.reduceMul, Nat.reduceSub, reduceCtorEq, Int.reduceEq, Int.reduceLT, Int.reduceLE, Int.reduceAdd, Int.reduceSub, Int.reduceToNat, decide_true, decide_false]) ?_⟩
      simp only [push_cast, Nat.reduceEqDiff, Nat.reduceAdd, Nat.reduceLT, Nat.reduceLeDiff, Nat.reduceMul, Nat.reduceSub, reduceCtorEq, Int.reduceEq, Int.reduceLT, Int.reduceLE, Int.reduceAdd, Int.reduceSub, Int.reduceToNat, decide_true, decide_false, h0, h3, h4, Node.cs]
      refine ⟨by simp; omega, by simp; omega, by omega, r.length, by omega, a ++ [.mk 5 t s0 ks as], r, List.append_cons _ _ _, rfl, ?_, ?_, ?_⟩
      · simp
      · rw [fin 5 _ (by simp [Node.src]; rfl)]; simp
      · simp
    by_cases k6 : k = 6
    · subst k6
      by_cases t1 : 1 ≤ t
      · by_cases t3 : t ≤ 3
        · have ht : 1 ≤ t ∧ t ≤ 3 := ⟨t1, t3⟩
          have l1 : (tagText t false).length ≤ 14 := by simp [tagText, ht]; omega
          have l2 : (tagText t true).length ≤ 14 := by simp [tagText, ht]; omega
          simp only [push_cast, Nat.reduceEqDiff, Nat.reduceAdd, Nat.reduceLT, Nat.reduceLeDiff, Nat.reduceMul, Nat.reduceSub, reduceCtorEq, Int.reduceEq, Int.reduceLT, Int.reduceLE, Int.reduceAdd, Int.reduceSub, Int.reduceToNat, decide_true, decide_false, h0, h3, h4, Node.cs, t1, t3]
          refine callK_intro (t25 h25 t false) (by simp only [push_cast, Nat.reduceEqDiff, Nat.reduceAdd, Nat.reduceLT, Nat.reduceLeDiff, Nat.reduceMul, Nat.reduceSub, reduceCtorEq, Int.reduceEq, Int.reduceLT, Int.reduceLE, Int.reduceAdd, Int.reduceSub, Int.reduceToNat, decide_true, decide_false]) (by simp only [push_cast, Nat.reduceEqDiff, Nat.reduceAdd, Nat.reduceLT, Nat.reduceLeDiff, Nat.reduceMul, Nat.reduceSub, reduceCtorEq, Int.reduceEq, Int.reduceLT, Int.reduceLE, Int.reduceAdd, Int.reduceSub, Int.reduceToNat, decide_true, decide_false]) ?_
          simp only [push_cast, Nat.reduceEqDiff, Nat.reduceAdd, Nat.reduceLT, Nat.reduceLeDiff, Nat.reduceMul, Nat.reduceSub, reduceCtorEq, Int.reduceEq, Int.reduceLT, Int.reduceLE, Int.reduceAdd, Int.reduceSub, Int.reduceToNat, decide_true, decide_false, h0, h3, h4, Node.cs]
          refine ⟨by omega, callK_intro (hS ks (by omega) (by omega)) (by simp only [push_cast, Nat.reduceEqDiff, Nat.reduceAdd, Nat.reduceLT, Nat.reduceLeDiff, Nat.reduceMul, Nat.reduceSub, reduceCtorEq, Int.reduceEq, Int.reduceLT, Int.reduceLE, Int.reduceAdd, Int.reduceSub, Int.reduceToNat, decide_true, decide_false]) (by simp only [push_cast, Nat.reduceEqDiff, Nat.reduceAdd, Nat.reduceLT, Nat.reduceLeDiff, Nat.reduceMul, Nat.reduceSub, reduceCtorEq, Int.reduceEq, Int.reduceLT, Int.reduceLE, Int.reduceAdd, Int.reduceSub, Int.reduceToNat, decide_true, decide_false]) ?_⟩
          simp only [push_cast, Nat.reduceEqDiff, Nat.reduceAdd, Nat.reduceLT, Nat.reduceLeDiff, Nat.reduceMul, Nat.reduceSub, reduceCtorEq, Int.reduceEq, Int.reduceLT, Int.reduceLE, Int.reduceAdd, Int.reduceSub, Int.reduceToNat, decide_true, decide_false, h0, h3, h4, Node.cs]
          refine ⟨by simp; omega, callK_intro (t25 h25 t true) (by simp only [push_cast, Nat.reduceEqDiff, Nat.reduceAdd, Nat.reduceLT, Nat.reduceLeDiff, Nat.reduceMul, Nat.reduceSub, reduceCtorEq, Int.reduceEq, Int.reduceLT, Int.reduceLE, Int.reduceAdd, Int.reduceSub, Int.reduceToNat, decide_true, decide_false]) (by simp only [push_cast, Nat.reduceEqDiff, Nat.reduceAdd, Nat.reduceLT, Nat.reduceLeDiff, Nat.reduceMul, Nat.reduceSub, reduceCtorEq, Int.reduceEq, Int.reduceLT, Int.reduceLE, Int.reduceAdd, Int.reduceSub, Int.reduceToNat, decide_true, decide_false]) ?_⟩
          simp only [push_cast, Nat.reduceEqDiff, Nat.reduceAdd, Nat.reduceLT, Nat.reduceLeDiff, Nat.reduceMul, Nat.reduceSub, reduceCtorEq, Int.reduceEq, Int.reduceLT, Int.reduceLE, Int.reduceAdd, Int.reduceSub, Int.reduceToNat, decide_true, decide_false, h0, h3, h4, Node.cs]
          refine ⟨by simp; omega, by omega, r.length, by omega, a ++ [.mk 6 t s0 ks as], r, List.append_cons _ _ _, rfl, ?_, ?_, ?_⟩
          · simp
          · rw [fin 6 (tagText t false ++ srcs ks ++ tagText t true) (by simp [Node.src, tagText, ht])]; simp
          · simp
        · simp only [push_cast, Nat.reduceEqDiff, Nat.reduceAdd, Nat.reduceLT, Nat.reduceLeDiff, Nat.reduceMul, Nat.reduceSub, reduceCtorEq, Int.reduceEq, Int.reduceLT, Int.reduceLE, Int.reduceAdd, Int.reduceSub, Int.reduceToNat, decide_true, decide_false, h0, h3, h4, Node.cs, t1, t3]
          refine ⟨by omega, r.length, by omega, a ++ [.mk 6 t s0 ks as], r, List.append_cons _ _ _, rfl, ?_, ?_, ?_⟩
          · simp
          · rw [fin 6 [] (by simp [Node.src, t3])]; simp
          · simp
      · simp only [push_cast, Nat.reduceEqDiff, Nat.reduceAdd, Nat.reduceLT, Nat.reduceLeDiff, Nat.reduceMul, Nat.reduceSub, reduceCtorEq, Int.reduceEq, Int.reduceLT, Int.reduceLE, Int.reduceAdd, Int.reduceSub, Int.reduceToNat, decide_true, decide_false, h0, h3, h4, Node.cs, t1]
        refine ⟨by omega, r.length, by omega, a ++ [.mk 6 t s0 ks as], r, List.append_cons _ _ _, rfl, ?_, ?_, ?_⟩
        · simp
        · rw [fin 6 [] (by simp [Node.src, t1])]; simp
        · simp
    · simp only [push_cast, Nat.reduceEqDiff, Nat.reduceAdd, Nat.reduceLT, Nat.reduceLeDiff, Nat.reduceMul, Nat.reduceSub, reduceCtorEq, Int.reduceEq, Int.reduceLT, Int.reduceLE, Int.reduceAdd, Int.reduceSub, Int.reduceToNat, decide_true, decide_false, h0, h3, h4, Node.cs, k1, k2, k3, k4, k5, k6]
      refine ⟨by omega, r.length, by omega, a ++ [.mk k t s0 ks as], r, List.append_cons _ _ _, rfl, ?_, ?_, ?_⟩
      · simp
      · rw [fin k [] (by simp [Node.src, k1, k2, k3, k4, k5, k6])]; simp
      · simp
theorem tPSA (h3 : Is3 P F T) (h24 : Is24 P F T) (h25 : Is25 P F T) : ∀ n, PS P F n ∧ PA P F n
  | 0 => ⟨fun l h => by omega, fun l h => by omega⟩
  | n + 1 => ⟨tPS h3 h25 (tPSA h3 h24 h25 n).1 (tPSA h3 h24 h25 n).2, tPA h24 (tPSA h3 h24 h25 n).1⟩
theorem t3 (h3 : Is3 P F T) (h24 : Is24 P F T) (h25 : Is25 P F T) (l : List Node) (hb : bulks l ≤ 2 ^ 26) : PTr P (F 3) [.lst 5 (encs l)] (.str (srcs l)) := (tPSA h3 h24 h25 _).1 l (Nat.lt_succ_self _) hb
end Go.Ab
