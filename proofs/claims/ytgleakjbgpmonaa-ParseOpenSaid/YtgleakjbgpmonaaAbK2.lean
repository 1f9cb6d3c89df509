/- Several texts of one kind, merged. No condition. -/
import Derived.Test.YtgleakjbgpmonaaAbK1
import Derived.Test.YtgleakjbgpmonaaAbE4
/- The reference's trees: equal trees, source texts. No condition. -/
namespace Go.Ab
set_option linter.unusedVariables false
set_option linter.unusedSimpArgs false

variable {P : Program} {F T : Nat → Nat}

theorem t7' (hf : Is7 P F T) : ∀ (n : Nat) (l l' : List Node), bulks l < n → bulks l ≤ 2 ^ 26 → PTr P (F 7) [.lst 5 (encs l), .lst 5 (encs l')] (.bool (eqB l l')) := by
  intro n
  induction n with
  | zero => intro l l' h _; omega
  | succ n ih =>
    intro l l' hn hb
    refine ptrC [] hf (by simp) rfl ?_
    by_cases hl : l.length = l'.length
    case neg =>
      have hl' : ((l.length : Nat) : Int) ≠ ((l'.length : Nat) : Int) := by omega
      simp only [c7, push_cast, seval, -Nat.reducePow, decide_true, decide_false, hl', view_b]
      rw [eqB_ne fun e => hl (by rw [e])]
    have hl' : ((l.length : Nat) : Int) = ((l'.length : Nat) : Int) := by omega
    simp only [c7, push_cast, seval, -Nat.reducePow, decide_true, decide_false, hl']
    refine loopK_intro (fun m s => ∃ p r r', l = p ++ r ∧ l' = p ++ r' ∧ r.length = r'.length ∧ m = r.length ∧ s.env 1 = .lst 5 (encs (p ++ r')) ∧ s.env 0 = .lst 5 (encs (p ++ r)) ∧ s.env 5 = .int .i64 p.length) l.length ⟨[], l, l', ?_⟩ fun m s hJ => ?_
    · simp only [push_cast, seval, -Nat.reducePow, decide_true, decide_false]
      simp [hl]
    obtain ⟨p, r, r', rfl, rfl, hrr, rfl, h1, h0, h5⟩ := hJ
    cases r with
    | nil =>
      obtain rfl : r' = [] := by cases r' with | nil => rfl | cons a b => simp at hrr
      simp only [push_cast, seval, -Nat.reducePow, decide_true, decide_false, h1, h0, h5, view_b]
      rw [eqB_self]
    | cons x r =>
      cases r' with
      | nil => simp at hrr
      | cons y r' =>
        obtain ⟨k, t, s0, ks, as⟩ := x
        obtain ⟨k', t', s0', ks', as'⟩ := y
        have q3 := len_bulks p
        simp only [bulks_append, bulks, Node.bulk] at hn hb
        simp only [push_cast, seval, -Nat.reducePow, decide_true, decide_false, h1, h0, h5, Node.cs]
        refine condK_dec (fun e1 => ?_) (fun e1 => ?_)
        rotate_left
        · simp only [push_cast, seval, -Nat.reducePow, decide_true, decide_false, view_b]
          rw [cons_ne (by simp [e1])]
        simp only [push_cast, seval, -Nat.reducePow, decide_true, decide_false]
        refine condK_dec (fun e2 => ?_) (fun e2 => ?_)
        rotate_left
        · simp only [push_cast, seval, -Nat.reducePow, decide_true, decide_false, view_b]
          rw [cons_ne (by simp [e2])]
        simp only [push_cast, seval, -Nat.reducePow, decide_true, decide_false]
        refine condK_dec (fun e3 => ?_) (fun e3 => ?_)
        rotate_left
        · simp only [push_cast, seval, -Nat.reducePow, decide_true, decide_false, view_b]
          rw [cons_ne (by simp [e3])]
        simp only [push_cast, seval, -Nat.reducePow, decide_true, decide_false]
        refine condK_dec (fun e4 => ?_) (fun e4 => ?_)
        rotate_left
        · simp only [push_cast, seval, -Nat.reducePow, decide_true, decide_false, view_b]
          rw [cons_ne (fun e => e4 (by simp at e; rw [e.2.2.2.2]))]
        simp only [push_cast, seval, -Nat.reducePow, decide_true, decide_false]
        refine callK_intro (ih ks ks' (by omega) (by omega)) (by simp only [push_cast, seval, -Nat.reducePow, decide_true, decide_false]) (by simp only [push_cast, seval, -Nat.reducePow, decide_true, decide_false]) ?_
        simp only [push_cast, seval, -Nat.reducePow, decide_true, decide_false]
        by_cases e5 : ks = ks'
        case neg =>
          simp only [push_cast, seval, -Nat.reducePow, decide_true, decide_false, eqB_ne e5, view_b]
          rw [cons_ne (by simp [e5])]
        subst e1 e2 e3 e5
        have e4' : as.length = as'.length := by omega
        simp only [push_cast, seval, -Nat.reducePow, decide_true, decide_false, h1, h0, h5, Node.cs, eqB_self]
        refine loopK_intro (fun m s => ∃ c q q' i6 i7, as = c ++ q ∧ as' = c ++ q' ∧ q.length = q'.length ∧ m = q.length ∧ s.env 1 = .lst 5 (encs (p ++ .mk k t s0 ks as' :: r')) ∧ s.env 0 = .lst 5 (encs (p ++ .mk k t s0 ks as :: r)) ∧ s.env 5 = .int .i64 p.length ∧
          s.env 7 = .ptr i7 0 ∧ s.L i7 = some (.box (T 0) (Node.mk k t s0 ks (c ++ q')).cs) ∧ s.env 6 = .ptr i6 0 ∧ s.L i6 = some (.box (T 0) (Node.mk k t s0 ks (c ++ q)).cs) ∧ s.env 8 = .int .i64 c.length) as.length ⟨[], as, as', s.nx + 116 + 6, s.nx + 116 + 7, ?_⟩ fun m s2 hJ => ?_
        · simp only [push_cast, seval, -Nat.reducePow, decide_true, decide_false, List.nil_append, h1, h0, h5, Node.cs]
          simp [e4, e4']
        obtain ⟨c, q, q', i6, i7, rfl, rfl, hqq, rfl, g1, g0, g5, g7, gL7, g6, gL6, g8⟩ := hJ
        cases q with
        | nil =>
          obtain rfl : q' = [] := by cases q' with | nil => rfl | cons a b => simp at hqq
          simp only [push_cast, seval, -Nat.reducePow, decide_true, decide_false, g1, g0, g5, g6, g7, gL7, gL6, g8, Node.cs]
          refine ⟨by omega, r.length, by omega, p ++ [.mk k t s0 ks c], r, r', List.append_cons _ _ _, List.append_cons _ _ _, by simpa using hrr, rfl, ?_, ?_, ?_⟩
          · simp
          · simp
          · simp
        | cons u q =>
          cases q' with
          | nil => simp at hqq
          | cons v q' =>
            obtain ⟨ub, un, uv⟩ := u
            obtain ⟨vb, vn, vv⟩ := v
            have q7 := len_bulkA c
            simp only [bulkA_append, bulkA, Arg.bulk] at hn hb
            have hne : ∀ {u v : Arg}, u ≠ v → eqB (p ++ .mk k t s0 ks (c ++ u :: q) :: r) (p ++ .mk k t s0 ks (c ++ v :: q') :: r') = false := fun h => cons_ne fun e => h (by simp at e; exact e.1)
            simp only [push_cast, seval, -Nat.reducePow, decide_true, decide_false, g1, g0, g5, g6, g7, gL7, gL6, g8, Node.cs, Arg.cs]
            by_cases e6 : ub = vb
            case neg =>
              have e6' : (ub == vb) = false := by cases ub <;> cases vb <;> simp_all
              simp only [push_cast, seval, -Nat.reducePow, decide_true, decide_false, e6', view_b]
              rw [hne (by simp [e6])]
            subst e6
            have e6' : (ub == ub) = true := by simp
            simp only [push_cast, seval, -Nat.reducePow, decide_true, decide_false, g1, g0, g5, g6, g7, gL7, gL6, g8, Node.cs, Arg.cs, e6']
            refine callK_intro (ih un vn (by omega) (by omega)) (by simp only [push_cast, seval, -Nat.reducePow, decide_true, decide_false]) (by simp only [push_cast, seval, -Nat.reducePow, decide_true, decide_false]) ?_
            by_cases e7 : un = vn
            case neg =>
              simp only [push_cast, seval, -Nat.reducePow, decide_true, decide_false, g1, g0, g5, g6, g7, gL7, gL6, g8, Node.cs, Arg.cs, eqB_ne e7, view_b]
              rw [hne (by simp [e7])]
            subst e7
            simp only [push_cast, seval, -Nat.reducePow, decide_true, decide_false, g1, g0, g5, g6, g7, gL7, gL6, g8, Node.cs, Arg.cs, eqB_self]
            refine callK_intro (ih uv vv (by omega) (by omega)) (by simp only [push_cast, seval, -Nat.reducePow, decide_true, decide_false]) (by simp only [push_cast, seval, -Nat.reducePow, decide_true, decide_false]) ?_
            by_cases e8 : uv = vv
            case neg =>
              simp only [push_cast, seval, -Nat.reducePow, decide_true, decide_false, g1, g0, g5, g6, g7, gL7, gL6, g8, Node.cs, Arg.cs, eqB_ne e8, view_b]
              rw [hne (by simp [e8])]
            subst e8
            simp only [push_cast, seval, -Nat.reducePow, decide_true, decide_false, g1, g0, g5, g6, g7, gL7, gL6, g8, Node.cs, Arg.cs, eqB_self]
            refine ⟨by omega, q.length, by omega, c ++ [.mk ub un uv], q, q', i6, i7, List.append_cons _ _ _, List.append_cons _ _ _, by simpa using hqq, rfl, ?_⟩
            simp [gL6, gL7, Node.cs]
theorem t7 (hf : Is7 P F T) (l l' : List Node) (hb : bulks l ≤ 2 ^ 26) : PTr P (F 7) [.lst 5 (encs l), .lst 5 (encs l')] (.bool (eqB l l')) := t7' hf _ l l' (Nat.lt_succ_self _) hb

def tagText (t : Int) (c : Bool) : List UInt8 := if 1 ≤ t ∧ t ≤ 3 then (if c then [60, 47] else [60]) ++ tagName t ++ [62] else []
theorem t25 (hf : Is25 P F T) (t : Int) (c : Bool) : PTr P (F 25) [.int .i64 t, .bool c] (.str (tagText t c)) := by
  refine ptrC [] hf (by simp) rfl ?_
  by_cases h1 : t < 1
  · simp only [c25, push_cast, seval, -Nat.reducePow, decide_true, decide_false, h1]
    have : ¬ (1 ≤ t ∧ t ≤ 3) := by omega
    simp [view, tagText, this]
  · by_cases h2 : 3 < t
    · simp only [c25, push_cast, seval, -Nat.reducePow, decide_true, decide_false, h1, h2]
      have : ¬ (1 ≤ t ∧ t ≤ 3) := by omega
      simp [view, tagText, this]
    · have ht : t = 1 ∨ t = 2 ∨ t = 3 := by omega
      rcases ht with rfl | rfl | rfl <;> cases c
      all_goals
        simp only [c25, push_cast, seval, -Nat.reducePow, decide_true, decide_false]
        simp [view, tagText, tagName]

def PS (P : Program) (F : Nat → Nat) (n : Nat) : Prop := ∀ (l : List Node), bulks l < n → bulks l ≤ 2 ^ 26 → PTr P (F 3) [.lst 5 (encs l)] (.str (srcs l))
def PA (P : Program) (F : Nat → Nat) (n : Nat) : Prop := ∀ (l : List Arg), bulkA l < n → bulkA l ≤ 2 ^ 26 → PTr P (F 24) [.lst 3 (encA l)] (.str (srcA l))
theorem tPA (hf : Is24 P F T) {n : Nat} (hS : PS P F n) : PA P F (n + 1) := by
  intro l hn hb
  refine ptrC [] hf (by simp) rfl ?_
  simp only [c24, push_cast, seval, -Nat.reducePow, decide_true, decide_false]
  refine loopK_intro (fun m s => ∃ a r, l = a ++ r ∧ m = r.length ∧ s.env 0 = .lst 3 (encA (a ++ r)) ∧ s.env 3 = .str (srcA a) ∧ s.env 4 = .int .i64 a.length) l.length ⟨[], l, ?_⟩ fun m s hJ => ?_
  · simp only [push_cast, seval, -Nat.reducePow, decide_true, decide_false, srcA]
  obtain ⟨a, r, rfl, rfl, h0, h3, h4⟩ := hJ
  cases r with
  | nil =>
    simp only [push_cast, seval, -Nat.reducePow, decide_true, decide_false, h0, h3, h4]
    simp [view]
  | cons x r =>
    obtain ⟨b, xn, xv⟩ := x
    have q1 := srcA_bulk a
    have q2 := srcs_bulk xn
    have q3 := srcs_bulk xv
    have q4 := len_bulkA a
    simp only [bulkA_append, bulkA, Arg.bulk] at hn hb
    cases b
    · simp only [push_cast, seval, -Nat.reducePow, decide_true, decide_false, h0, h3, h4, Arg.cs]
      refine ⟨by omega, callK_intro (hS xv (by omega) (by omega)) (by simp only [push_cast, seval, -Nat.reducePow, decide_true, decide_false]) (by simp only [push_cast, seval, -Nat.reducePow, decide_true, decide_false]) ?_⟩
      simp only [push_cast, seval, -Nat.reducePow, decide_true, decide_false, h0, h3, h4, Arg.cs]
      refine ⟨by simp; omega, by omega, r.length, by omega, a ++ [.mk false xn xv], r, List.append_cons _ _ _, rfl, ?_, ?_, ?_⟩
      · simp
      · simp [srcA_append, srcA, Arg.src]
      · simp
    · simp only [push_cast, seval, -Nat.reducePow, decide_true, decide_false, h0, h3, h4, Arg.cs]
      refine ⟨by omega, callK_intro (hS xn (by omega) (by omega)) (by simp only [push_cast, seval, -Nat.reducePow, decide_true, decide_false]) (by simp only [push_cast, seval, -Nat.reducePow, decide_true, decide_false]) ?_⟩
      simp only [push_cast, seval, -Nat.reducePow, decide_true, decide_false, h0, h3, h4, Arg.cs]
      refine ⟨by simp; omega, by simp; omega, callK_intro (hS xv (by omega) (by omega)) (by simp only [push_cast, seval, -Nat.reducePow, decide_true, decide_false]) (by simp only [push_cast, seval, -Nat.reducePow, decide_true, decide_false]) ?_⟩
      simp only [push_cast, seval, -Nat.reducePow, decide_true, decide_false, h0, h3, h4, Arg.cs]
      refine ⟨by simp; omega, by omega, r.length, by omega, a ++ [.mk true xn xv], r, List.append_cons _ _ _, rfl, ?_, ?_, ?_⟩
      · simp
      · simp [srcA_append, srcA, Arg.src]
      · simp
theorem tPS (hf : Is3 P F T) (h25 : Is25 P F T) {n : Nat} (hS : PS P F n) (hA : PA P F n) : PS P F (n + 1) := by
  intro l hn hb
  refine ptrC [] hf (by simp) rfl ?_
  simp only [c3, push_cast, seval, -Nat.reducePow, decide_true, decide_false]
  refine loopK_intro (fun m s => ∃ a r, l = a ++ r ∧ m = r.length ∧ s.env 0 = .lst 5 (encs (a ++ r)) ∧ s.env 3 = .str (srcs a) ∧ s.env 4 = .int .i64 a.length) l.length ⟨[], l, ?_⟩ fun m s hJ => ?_
  · simp only [push_cast, seval, -Nat.reducePow, decide_true, decide_false, srcs]
  obtain ⟨a, r, rfl, rfl, h0, h3, h4⟩ := hJ
  cases r with
  | nil =>
    simp only [push_cast, seval, -Nat.reducePow, decide_true, decide_false, h0, h3, h4]
    simp [view]
  | cons x r =>
    obtain ⟨k, t, s0, ks, as⟩ := x
    have q1 := srcs_bulk a
    have q2 := srcs_bulk ks
    have q3 := srcA_bulk as
    have q4 := len_bulks a
    have q5 := tagName_len t
    simp only [bulks_append, bulks, Node.bulk] at hn hb
    have fin : ∀ (k : Int) (q : List UInt8), (Node.mk k t s0 ks as).src = q → srcs (a ++ [.mk k t s0 ks as]) = srcs a ++ q := fun k q h => by rw [srcs_append, srcs, srcs, h, List.append_nil]
    by_cases k1 : k = 1
    · subst k1
      simp only [push_cast, seval, -Nat.reducePow, decide_true, decide_false, h0, h3, h4, Node.cs]
      refine ⟨by omega, by omega, r.length, by omega, a ++ [.mk 1 t s0 ks as], r, List.append_cons _ _ _, rfl, ?_, ?_, ?_⟩
      · simp
      · rw [fin 1 s0 (by simp [Node.src])]
      · simp
    by_cases k2 : k = 2
    · subst k2
      simp only [push_cast, seval, -Nat.reducePow, decide_true, decide_false, h0, h3, h4, Node.cs]
      refine ⟨by omega, by omega, r.length, by omega, a ++ [.mk 2 t s0 ks as], r, List.append_cons _ _ _, rfl, ?_, ?_, ?_⟩
      · simp
      · rw [fin 2 s0 (by simp [Node.src])]
      · simp
    by_cases k3 : k = 3
    · subst k3
      simp only [push_cast, seval, -Nat.reducePow, decide_true, decide_false, h0, h3, h4, Node.cs]
      refine ⟨by omega, by simp; omega, by simp; omega, by omega, r.length, by omega, a ++ [.mk 3 t s0 ks as], r, List.append_cons _ _ _, rfl, ?_, ?_, ?_⟩
      · simp
      · rw [fin 3 _ (by simp [Node.src]; rfl)]; simp
      · simp
    by_cases k4 : k = 4
    · subst k4
      simp only [push_cast, seval, -Nat.reducePow, decide_true, decide_false, h0, h3, h4, Node.cs]
      refine ⟨by omega, callK_intro (hS ks (by omega) (by omega)) (by simp only [push_cast, seval, -Nat.reducePow, decide_true, decide_false]) (by simp only [push_cast, seval, -Nat.reducePow, decide_true, decide_false]) ?_⟩
      simp only [push_cast, seval, -Nat.reducePow, decide_true, decide_false, h0, h3, h4, Node.cs]
      refine ⟨by simp; omega, callK_intro (hA as (by omega) (by omega)) (by simp only [push_cast, seval, -Nat.reducePow, decide_true, decide_false]) (by simp only [push_cast, seval, -Nat.reducePow, decide_true, decide_false]) ?_⟩
      simp only [push_cast, seval, -Nat.reducePow, decide_true, decide_false, h0, h3, h4, Node.cs]
      refine ⟨by simp; omega, by simp; omega, by omega, r.length, by omega, a ++ [.mk 4 t s0 ks as], r, List.append_cons _ _ _, rfl, ?_, ?_, ?_⟩
      · simp
      · rw [fin 4 _ (by simp [Node.src]; rfl)]; simp
      · simp
    by_cases k5 : k = 5
    · subst k5
      simp only [push_cast, seval, -Nat.reducePow, decide_true, decide_false, h0, h3, h4, Node.cs]
      refine ⟨by omega, callK_intro (hS ks (by omega) (by omega)) (by simp only [push_cast, seval, -Nat.reducePow, decide_true, decide_false]) (by simp only [push_cast, seval, -Nat.reducePow, decide_true, decide_false]) ?_⟩
      simp only [push_cast, seval, -Nat.reducePow, decide_true, decide_false, h0, h3, h4, Node.cs]
      refine ⟨by simp; omega, callK_intro (hA as (by omega) (by omega)) (by simp only [push_cast, seval, -Nat.reducePow, decide_true, decide_false]) (by simp only [push_cast, seval, -Nat.reducePow, decide_true, decide_false]) ?_⟩
      simp only [push_cast, seval, -Nat.reducePow, decide_true, decide_false, h0, h3, h4, Node.cs]
      refine ⟨by simp; omega, by simp; omega, by omega, r.length, by omega, a ++ [.mk 5 t s0 ks as], r, List.append_cons _ _ _, rfl, ?_, ?_, ?_⟩
      · simp
      · rw [fin 5 _ (by simp [Node.src]; rfl)]; simp
      · simp
    by_cases k6 : k = 6
    · subst k6
      by_cases t1 : 1 ≤ t
      · by_cases t3 : t ≤ 3
        · have ht : 1 ≤ t ∧ t ≤ 3 := ⟨t1, t3⟩
          have l1 : (tagText t false).length ≤ 14 := by simp [tagText, ht]; omega
          have l2 : (tagText t true).length ≤ 14 := by simp [tagText, ht]; omega
          simp only [push_cast, seval, -Nat.reducePow, decide_true, decide_false, h0, h3, h4, Node.cs, t1, t3]
          refine callK_intro (t25 h25 t false) (by simp only [push_cast, seval, -Nat.reducePow, decide_true, decide_false]) (by simp only [push_cast, seval, -Nat.reducePow, decide_true, decide_false]) ?_
          simp only [push_cast, seval, -Nat.reducePow, decide_true, decide_false, h0, h3, h4, Node.cs]
          refine ⟨by omega, callK_intro (hS ks (by omega) (by omega)) (by simp only [push_cast, seval, -Nat.reducePow, decide_true, decide_false]) (by simp only [push_cast, seval, -Nat.reducePow, decide_true, decide_false]) ?_⟩
          simp only [push_cast, seval, -Nat.reducePow, decide_true, decide_false, h0, h3, h4, Node.cs]
          refine ⟨by simp; omega, callK_intro (t25 h25 t true) (by simp only [push_cast, seval, -Nat.reducePow, decide_true, decide_false]) (by simp only [push_cast, seval, -Nat.reducePow, decide_true, decide_false]) ?_⟩
          simp only [push_cast, seval, -Nat.reducePow, decide_true, decide_false, h0, h3, h4, Node.cs]
          refine ⟨by simp; omega, by omega, r.length, by omega, a ++ [.mk 6 t s0 ks as], r, List.append_cons _ _ _, rfl, ?_, ?_, ?_⟩
          · simp
          · rw [fin 6 (tagText t false ++ srcs ks ++ tagText t true) (by simp [Node.src, tagText, ht])]; simp
          · simp
        · simp only [push_cast, seval, -Nat.reducePow, decide_true, decide_false, h0, h3, h4, Node.cs, t1, t3]
          refine ⟨by omega, r.length, by omega, a ++ [.mk 6 t s0 ks as], r, List.append_cons _ _ _, rfl, ?_, ?_, ?_⟩
          · simp
          · rw [fin 6 [] (by simp [Node.src, t3])]; simp
          · simp
      · simp only [push_cast, seval, -Nat.reducePow, decide_true, decide_false, h0, h3, h4, Node.cs, t1]
        refine ⟨by omega, r.length, by omega, a ++ [.mk 6 t s0 ks as], r, List.append_cons _ _ _, rfl, ?_, ?_, ?_⟩
        · simp
        · rw [fin 6 [] (by simp [Node.src, t1])]; simp
        · simp
    · simp only [push_cast, seval, -Nat.reducePow, decide_true, decide_false, h0, h3, h4, Node.cs, k1, k2, k3, k4, k5, k6]
      refine ⟨by omega, r.length, by omega, a ++ [.mk k t s0 ks as], r, List.append_cons _ _ _, rfl, ?_, ?_, ?_⟩
      · simp
      · rw [fin k [] (by simp [Node.src, k1, k2, k3, k4, k5, k6])]; simp
      · simp
theorem tPSA (h3 : Is3 P F T) (h24 : Is24 P F T) (h25 : Is25 P F T) : ∀ n, PS P F n ∧ PA P F n
  | 0 => ⟨fun l h => by omega, fun l h => by omega⟩
  | n + 1 => ⟨tPS h3 h25 (tPSA h3 h24 h25 n).1 (tPSA h3 h24 h25 n).2, tPA h24 (tPSA h3 h24 h25 n).1⟩
theorem t3 (h3 : Is3 P F T) (h24 : Is24 P F T) (h25 : Is25 P F T) (l : List Node) (hb : bulks l ≤ 2 ^ 26) : PTr P (F 3) [.lst 5 (encs l)] (.str (srcs l)) := (tPSA h3 h24 h25 _).1 l (Nat.lt_succ_self _) hb
end Go.Ab
/- Joined trees. No condition. -/
namespace Go.Ab
set_option linter.unusedVariables false
set_option linter.unusedSimpArgs false

mutual
theorem le_imm : ∀ {x y : V}, x.le y → y.imm = true → x.imm = true
  | .agg a, y, h, hy => by simp only [V.le] at h; obtain ⟨b, rfl, hb⟩ := h; simp only [V.imm] at hy ⊢; exact leL_imm hb hy
  | .lst sz a, y, h, hy => by simp only [V.le] at h; obtain ⟨b, rfl, hb⟩ := h; simp only [V.imm] at hy ⊢; exact leL_imm hb hy
  | .tup a, y, h, hy => by simp only [V.le] at h; obtain ⟨b, rfl, hb⟩ := h; simp only [V.imm] at hy ⊢; exact leL_imm hb hy
  | .nils, y, h, hy => rfl
  | .junk, y, h, hy => rfl
  | .bool b, y, h, hy => rfl
  | .int k n, y, h, hy => rfl
  | .str s, y, h, hy => rfl
  | .nilp, y, h, hy => rfl
  | .ptr a b, y, h, hy => by simp only [V.le] at h; subst h; exact hy
  | .eptr a b c, y, h, hy => by simp only [V.le] at h; subst h; exact hy
  | .cptr a, y, h, hy => by simp only [V.le] at h; subst h; exact hy
  | .own a b c d, y, h, hy => by simp only [V.le] at h; subst h; exact hy
  | .fn f c, y, h, hy => by simp only [V.le] at h; subst h; exact hy
  | .map i, y, h, hy => by simp only [V.le] at h; subst h; exact hy
  | .nilm, y, h, hy => rfl
  | .raw v, y, h, hy => rfl
theorem leL_imm : ∀ {a b : List V}, V.leL a b → V.imms b = true → V.imms a = true
  | [], b, h, hb => by simp [V.imms]
  | x :: r, b, h, hb => by
    simp only [V.leL] at h
    obtain ⟨z, q, rfl, h1, h2⟩ := h
    simp only [V.imms, Bool.and_eq_true] at hb ⊢
    exact ⟨le_imm h1 hb.1, leL_imm h2 hb.2⟩
end
theorem leL_append : ∀ {a b c d : List V}, V.leL a b → V.leL c d → V.leL (a ++ c) (b ++ d)
  | [], b, c, d, h, k => by simp only [V.leL] at h; subst h; exact k
  | x :: r, b, c, d, h, k => by
    simp only [V.leL] at h
    obtain ⟨z, q, rfl, h1, h2⟩ := h
    simp only [List.cons_append, leL_cons]
    exact ⟨h1, leL_append h2 k⟩
theorem ptrL {P : Program} {n f : Nat} {rs : List RV} {c : C} (wr : List Nat) {args : List V} {r : V} (hf : Fn P f n rs c) (hn : args.length ≤ n) (hi : r.imm = true)
    (h : awpC P n wr c (endK rs fun r' L' _ => V.le (view L' 3 r') r) (.enter args (fun _ => none) 0)) : PTr P f args r := by
  have hE : ECall P f args (fun _ => none) 0 fun r' L' _ => V.le (view L' 3 r') r := by
    refine ecallC wr hf hn ?_
    have : (endK rs fun r' L' nx' => 0 ≤ nx' ∧ V.le (view L' 3 r') r) = endK rs fun r' L' _ => V.le (view L' 3 r') r := by
      funext x s
      cases x <;> simp [endK]
    rw [this]
    exact h
  intro D w vs hD hgl hl hr
  have hp : Hp P D 0 ⟨fun _ => .junk, fun _ => none, 0⟩ (fun _ => none) w := ⟨fun _ _ => rfl, fun id b h => by simp at h, fun id id' b b' g g' x h => by simp at h, fun x ho => by
    obtain ⟨id, b, g, h, _⟩ := ho
    simp at h, hD, GlW.start hgl⟩
  refine (hE.2 D (fun _ => none) w vs hp hl fun i x hx => (hr i x hx).mono (Ghost.le_refl _) (fun b _ hn hd => ?_) (Same.refl _ _)).mono ?_
  · rcases hd with hd | ⟨id, b, g, h, _⟩
    · exact hn hd
    · simp at h
  · rintro e w' ⟨v, r', L', nx', G', rfl, hpost, hp', _, hx, hrep⟩
    refine ⟨v, rfl, ⟨hx.os, hx.tape, hx.output, hx.same.1, fun b hb => hx.same.2 b hb ?_⟩, ?_⟩
    · rintro ⟨id, b, g, h, _⟩
      simp at h
    · have := rep_view hp' 3 hrep 3 (Nat.le_refl _)
      exact (this.free (le_imm hpost hi) _).le hpost

theorem joinF_append : ∀ (a b out : List Node), joinF out (a ++ b) = joinF (joinF out a) b
  | [], b, out => by simp [joinF]
  | x :: r, b, out => by simp [joinF, joinF_append r b]
theorem joinA_append (a b : List Arg) : joinA (a ++ b) = joinA a ++ joinA b := by
  induction a with
  | nil => rfl
  | cons x r ih => simp [joinA, ih]
theorem joinA_length (a : List Arg) : (joinA a).length = a.length := by
  induction a with
  | nil => rfl
  | cons x r ih => simp [joinA, ih]
theorem bulks_dropLast (l : List Node) (x : Node) (h : l.getLast? = some x) : l = l.dropLast ++ [x] := by
  rw [List.getLast?_eq_some_iff] at h
  obtain ⟨ys, rfl⟩ := h
  simp
mutual
theorem joinF_bulk : ∀ (l out : List Node), bulks (joinF out l) ≤ bulks out + bulks l
  | [], out => by simp [joinF]
  | n :: r, out => by
    have h1 := jstep_bulk n out
    have h2 := joinF_bulk r (n.jstep out)
    simp only [joinF, bulks]
    omega
theorem jstep_bulk : ∀ (n : Node) (out : List Node), bulks (n.jstep out) ≤ bulks out + n.bulk
  | .mk k t s ks as, out => by
    have h1 := joinF_bulk ks []
    have h2 := joinA_bulk as
    simp only [Node.jstep, Node.bulk]
    simp only [bulks] at h1
    split
    · split
      · omega
      · unfold pushT
        split
        · rename_i k' t' q ks' as' hl
          have e := bulks_dropLast _ _ hl
          have : bulks out = bulks out.dropLast + (q.length + bulks ks' + bulkA as' + 1) := by
            conv => lhs; rw [e]
            rw [bulks_append]
            simp [bulks, Node.bulk]
          split <;> simp [bulks_append, bulks, Node.bulk, bulkA] <;> omega
        · simp [bulks_append, bulks, Node.bulk, bulkA]; omega
    · simp [bulks_append, bulks, Node.bulk]; omega
theorem jarg_bulk : ∀ (n : Arg), n.jn.bulk ≤ n.bulk
  | .mk b n v => by
    have h1 := joinF_bulk n []
    have h2 := joinF_bulk v []
    simp only [Arg.jn, Arg.bulk]
    simp only [bulks] at h1 h2
    omega
theorem joinA_bulk : ∀ (l : List Arg), bulkA (joinA l) ≤ bulkA l
  | [] => by simp [joinA]
  | n :: r => by
    have h1 := jarg_bulk n
    have h2 := joinA_bulk r
    simp only [joinA, bulkA]
    omega
end
theorem le_node {e : V} {k t : Int} {s : List UInt8} {ks : List Node} {as : List Arg} (h : e.le (.agg (Node.mk k t s ks as).cs)) : ∃ x y, e = .agg [.int .i64 k, .int .i64 t, .str s, x, y] ∧ x.le (.lst 5 (encs ks)) ∧ y.le (.lst 3 (encA as)) := by
  have int : ∀ {x : V} {k : IntKind} {n : Int}, x.le (.int k n) → x = .int k n := fun {x k n} h => by
    cases x <;> simp only [V.le] at h <;> first | (exact h.symm) | (rcases h with h | ⟨_, h⟩ <;> cases h) | (obtain ⟨_, h, _⟩ := h; cases h) | cases h
  have str : ∀ {x : V} {n : List UInt8}, x.le (.str n) → x = .str n := fun {x n} h => by
    cases x <;> simp only [V.le] at h <;> first | (exact h.symm) | (rcases h with h | ⟨_, h⟩ <;> cases h) | (obtain ⟨_, h, _⟩ := h; cases h) | cases h
  cases e <;> simp only [V.le] at h
  case agg a =>
    obtain ⟨b, hb, h⟩ := h
    simp only [V.agg.injEq] at hb
    subst hb
    match a, leL_length h with
    | [x1, x2, x3, x4, x5], _ =>
      simp only [Node.cs, leL_cons, leL_nil, and_true] at h
      obtain ⟨h1, h2, h3, h4, h5⟩ := h
      exact ⟨x4, x5, by rw [int h1, int h2, str h3], h4, h5⟩
  all_goals first | (rcases h with h | ⟨_, h⟩ <;> cases h; done) | (obtain ⟨_, h, _⟩ := h; cases h; done) | (cases h; done)

variable {P : Program} {F T : Nat → Nat}

def JF (P : Program) (F : Nat → Nat) (n : Nat) : Prop := ∀ l : List Node, bulks l < n → bulks l ≤ 2 ^ 26 → PTr P (F 20) [.lst 5 (encs l)] (.lst 5 (encs (joinF [] l)))
theorem t28 (hf : Is28 P F T) {n : Nat} (hJ : JF P F n) (k t : Int) (s0 : List UInt8) (ks : List Node) (as : List Arg) (hn : bulks ks + bulkA as < n) (hb : bulks ks + bulkA as ≤ 2 ^ 26) : PTr P (F 28) [.agg (Node.mk k t s0 ks as).cs] (.agg (Node.mk k t s0 (joinF [] ks) (joinA as)).cs) := by
  refine ptrC [] hf (by simp) (by simp only [push_cast, seval, -Nat.reducePow, decide_true, decide_false, imms_cs]) ?_
  simp only [c28, push_cast, seval, -Nat.reducePow, decide_true, decide_false, Node.cs]
  refine callK_intro (hJ ks (by omega) (by omega)) (by simp only [push_cast, seval, -Nat.reducePow, decide_true, decide_false]) (by simp only [push_cast, seval, -Nat.reducePow, decide_true, decide_false]) ?_
  simp only [push_cast, seval, -Nat.reducePow, decide_true, decide_false]
  refine loopK_intro (fun m s => ∃ b q id, as = b ++ q ∧ m = q.length ∧ s.env 1 = .ptr 1 0 ∧ s.env 2 = .ptr 2 0 ∧ s.env 3 = .own id 3 0 b.length ∧ s.L id = some (.vec (T 1) 3 (encA (joinA b))) ∧ 2 < id ∧ id < s.nx ∧ s.L 1 = some (.box (T 0) (Node.mk k t s0 (joinF [] ks) as).cs) ∧ s.L 2 = some (.box (T 0) [.int .i64 0, .int .i64 0, .str [], .nils, .nils]) ∧
    s.env 11 = .lst 3 (encA (b ++ q)) ∧ s.env 12 = .int .i64 (b ++ q).length ∧ s.env 13 = .int .i64 b.length) as.length ⟨[], as, 99, ?_⟩ fun m s hJ2 => ?_
  · simp only [push_cast, seval, -Nat.reducePow, decide_true, decide_false, joinA, encA, Node.cs]
  obtain ⟨b, q, id, rfl, rfl, h1, h2, h3, hL, hid, hnx, hL1, hL2, h11, h12, h13⟩ := hJ2
  have hbl := len_bulkA b
  have n1 : id ≠ 1 := by omega
  have n2 : id ≠ 2 := by omega
  have n3 : 1 ≠ id := by omega
  have n4 : 2 ≠ id := by omega
  cases q with
  | nil =>
    have hl : b.length ≤ (encA (joinA b)).length := by rw [encA_length, joinA_length]; exact Nat.le_refl _
    have e : List.take b.length (encA (joinA b)) = encA (joinA b) := List.take_of_length_le (by rw [encA_length, joinA_length]; exact Nat.le_refl _)
    simp only [push_cast, seval, -Nat.reducePow, decide_true, decide_false, h1, h2, h3, h11, h12, h13, hL, hL1, hL2, n1, n2, n3, n4, Node.cs, hl, e]
    exact ⟨by rw [joinA_length]; exact Nat.le_refl _, view_imm 3 _ (by simp only [push_cast, seval, -Nat.reducePow, decide_true, decide_false])⟩
  | cons y q =>
    obtain ⟨yb, yn, yv⟩ := y
    simp only [bulkA_append, bulkA, Arg.bulk] at hn hb
    have n5 : id ≠ s.nx + 38 := by omega
    have n6 : 1 ≠ s.nx + 38 := by omega
    have n7 : 2 ≠ s.nx + 38 := by omega
    simp only [push_cast, seval, -Nat.reducePow, decide_true, decide_false, h1, h2, h3, h11, h12, h13, Arg.cs]
    refine callK_intro (hJ yn (by omega) (by omega)) (by simp only [push_cast, seval, -Nat.reducePow, decide_true, decide_false]) (by simp only [push_cast, seval, -Nat.reducePow, decide_true, decide_false]) ?_
    simp only [push_cast, seval, -Nat.reducePow, decide_true, decide_false, h1, h2, h3, h11, h12, h13, Arg.cs]
    refine callK_intro (hJ yv (by omega) (by omega)) (by simp only [push_cast, seval, -Nat.reducePow, decide_true, decide_false]) (by simp only [push_cast, seval, -Nat.reducePow, decide_true, decide_false]) ?_
    simp only [push_cast, seval, -Nat.reducePow, decide_true, decide_false, h1, h2, h3, h11, h12, h13, Arg.cs, hL, hL1, hL2, n5, n6, n7]
    have e : List.take b.length (encA (joinA b)) = encA (joinA b) := List.take_of_length_le (by rw [encA_length, joinA_length]; exact Nat.le_refl _)
    refine ⟨by rw [joinA_length]; exact Nat.le_refl _, by omega, by omega, q.length, by omega, b ++ [.mk yb yn yv], q, s.nx + 94, List.append_cons _ _ _, rfl, ?_, ?_, by omega, by omega, ?_⟩
    · simp
    · simp only [push_cast, seval, -Nat.reducePow, decide_true, decide_false, e, joinA_append, joinA, Arg.jn, encA_append, encA, Arg.cs]
    · have m1 : 1 ≠ s.nx + 94 := by omega
      have m2 : 2 ≠ s.nx + 94 := by omega
      simp only [push_cast, seval, -Nat.reducePow, decide_true, decide_false, hL1, hL2, n3, n4, n6, n7, m1, m2, Node.cs]
      simp

theorem leL_snoc : ∀ {b a : List V} {y : V}, V.leL a (b ++ [y]) → ∃ a0 x, a = a0 ++ [x] ∧ V.leL a0 b ∧ x.le y
  | [], a, y, h => by
    match a, leL_length h with
    | [x], _ => simp only [List.nil_append, leL_cons, leL_nil, and_true] at h; exact ⟨[], x, rfl, by simp only [V.leL], h⟩
  | z :: b, a, y, h => by
    match a, leL_length h with
    | x :: a, _ =>
      simp only [List.cons_append, leL_cons] at h
      obtain ⟨a0, x', rfl, h1, h2⟩ := leL_snoc h.2
      exact ⟨x :: a0, x', rfl, by simp only [leL_cons]; exact ⟨h.1, h1⟩, h2⟩
theorem text_le (s : List UInt8) : V.leL [V.agg [.int .i64 1, .int .i64 0, .str s, .nils, .nils]] (encs [.mk 1 0 s [] []]) := by
  simp only [push_cast, seval, -Nat.reducePow, decide_true, decide_false, encs, Node.cs, encA]
theorem jf_step (a : List Node) (x : Node) : joinF [] (a ++ [x]) = x.jstep (joinF [] a) := by rw [joinF_append]; rfl

theorem t20' (hf : Is20 P F T) (h28 : Is28 P F T) : ∀ n, JF P F n := by
  intro n
  induction n with
  | zero => intro l h; omega
  | succ n ih =>
    intro l hn hb
    refine ptrL [] hf (by simp) (by simp only [push_cast, seval, -Nat.reducePow, decide_true, decide_false]) ?_
    simp only [c20, push_cast, seval, -Nat.reducePow, decide_true, decide_false]
    refine loopK_intro (fun m s => ∃ a r id es, l = a ++ r ∧ m = r.length ∧ s.env 3 = .own id 5 0 (joinF [] a).length ∧ s.L id = some (.vec (T 0) 5 es) ∧ V.leL es (encs (joinF [] a)) ∧ id < s.nx ∧ s.env 7 = .lst 5 (encs (a ++ r)) ∧ s.env 8 = .int .i64 (a ++ r).length ∧ s.env 9 = .int .i64 a.length) l.length ⟨[], l, 114, [], ?_⟩ fun m s hJ => ?_
    · simp only [push_cast, seval, -Nat.reducePow, decide_true, decide_false, joinF, encs]
    obtain ⟨a, r, id, es, rfl, rfl, h3, hL, hle, hid, h7, h8, h9⟩ := hJ
    have hel : es.length = (joinF [] a).length := by rw [leL_length hle, encs_length]
    cases r with
    | nil =>
      simp only [push_cast, seval, -Nat.reducePow, decide_true, decide_false, h3, h7, h8, h9]
      rw [← hel, view_own' hL (leL_imm hle (imms_encs _))]
      simp only [push_cast, seval, -Nat.reducePow, decide_true, decide_false]
      exact hle
    | cons x r =>
      obtain ⟨k, t, s0, ks, as⟩ := x
      have n1 : id ≠ s.nx + 62 := by omega
      have q3 := len_bulks a
      have jb := joinF_bulk a []
      have jl := len_bulks (joinF [] a)
      simp only [bulks] at jb
      simp only [bulks_append, bulks, Node.bulk] at hn hb
      have tk : List.take (joinF [] a).length es = es := List.take_of_length_le (by omega)
      have hst := jf_step a (.mk k t s0 ks as)
      have imm : V.imms es = true := leL_imm hle (imms_encs _)
      by_cases k1 : k = 1
      · subst k1
        by_cases s1 : s0 = []
        · subst s1
          simp only [Node.jstep, if_true] at hst
          simp only [push_cast, seval, -Nat.reducePow, decide_true, decide_false, h3, h7, h8, h9, Node.cs]
          refine ⟨by omega, r.length, by omega, a ++ [.mk 1 t [] ks as], r, id, es, List.append_cons _ _ _, rfl, by rw [hst], ?_, by rw [hst]; exact hle, by omega, ?_⟩
          · simp only [push_cast, seval, -Nat.reducePow, decide_true, decide_false, n1, hL]
          · simp
        · simp only [Node.jstep, if_true, s1, if_false] at hst
          rcases List.eq_nil_or_concat (joinF [] a) with ho | ⟨o, z, ho⟩
          · rw [ho] at hst hle h3 jl
            simp only [List.length_nil] at h3
            have hes : es = [] := by simp only [encs] at hle; cases es with | nil => rfl | cons _ _ => have := leL_length hle; simp at this
            subst hes
            simp only [push_cast, seval, -Nat.reducePow, decide_true, decide_false, h3, h7, h8, h9, Node.cs, s1, n1, hL]
            refine ⟨by omega, by omega, r.length, by omega, a ++ [.mk 1 t s0 ks as], r, s.nx + 396, [V.agg [.int .i64 1, .int .i64 0, .str s0, .nils, .nils]], List.append_cons _ _ _, rfl, ?_, ?_, ?_, by omega, ?_⟩
            · rw [hst]; simp [pushT]
            · simp only [push_cast, seval, -Nat.reducePow, decide_true, decide_false]
            · rw [hst]; simpa [pushT] using text_le s0
            · simp
          · obtain ⟨k', t', q', ks', as'⟩ := z
            rw [ho] at hst hle h3 jl jb tk hel
            have hcl : (o.concat (Node.mk k' t' q' ks' as')).length = o.length + 1 := by simp
            rw [List.concat_eq_append, encs_append] at hle
            obtain ⟨es0, e, rfl, hle0, hlez⟩ := leL_snoc hle
            obtain ⟨xk, xa, rfl, hxk, hxa⟩ := le_node hlez
            have e0 : es0.length = o.length := by rw [leL_length hle0, encs_length]
            have hget : (es0 ++ [V.agg [.int .i64 k', .int .i64 t', .str q', xk, xa]]).getD o.length .junk = V.agg [.int .i64 k', .int .i64 t', .str q', xk, xa] := by rw [← e0]; simp
            have hlo : ((o.concat (Node.mk k' t' q' ks' as')).length : Int) = (o.length : Int) + 1 := by simp
            have hi1 : (o.length : Int) + 1 - 1 = o.length := by omega
            by_cases k2 : k' = 1
            · subst k2
              simp only [push_cast, seval, -Nat.reducePow, decide_true, decide_false, h3, h7, h8, h9, Node.cs, s1, n1, hL, hlo, hi1, hget]
              have hpt : pushT (o.concat (.mk 1 t' q' ks' as')) s0 = o ++ [.mk 1 0 (q' ++ s0) [] []] := by simp [pushT]
              have hbo := bulks_append a [.mk 1 t s0 ks as]
              have hq : q'.length + s0.length < 2 ^ 63 := by
                have : bulks (o.concat (.mk 1 t' q' ks' as')) = bulks o + (q'.length + bulks ks' + bulkA as' + 1) := by rw [List.concat_eq_append, bulks_append]; simp [bulks, Node.bulk]
                omega
              have l1 : o.length < (o.concat (.mk 1 t' q' ks' as')).length := by simp
              have l2 : ∀ y : V, o.length < (es0 ++ [y]).length := fun y => by simp [e0]
              refine ⟨by omega, l1, l2 _, l1, l2 _, hq, l1, l2 _, by omega, r.length, by omega, a ++ [.mk 1 t s0 ks as], r, id, es0 ++ [V.agg [.int .i64 1, .int .i64 0, .str (q' ++ s0), .nils, .nils]], List.append_cons _ _ _, rfl, ?_, ?_, ?_, by omega, ?_⟩
              · rw [hst, hpt]; simp
              · simp only [push_cast, seval, -Nat.reducePow, decide_true, decide_false, n1, hget]
                rw [← e0, List.set_append_right _ _ (Nat.le_refl _)]
                simp
              · rw [hst, hpt, encs_append]; exact leL_append hle0 (text_le _)
              · simp
            · simp only [push_cast, seval, -Nat.reducePow, decide_true, decide_false, h3, h7, h8, h9, Node.cs, s1, n1, hL, hlo, hi1, hget, k2]
              have hpt : pushT (o.concat (.mk k' t' q' ks' as')) s0 = o.concat (.mk k' t' q' ks' as') ++ [.mk 1 0 s0 [] []] := by simp [pushT, k2]
              have l1 : o.length < (o.concat (.mk k' t' q' ks' as')).length := by simp
              have l2 : ∀ y : V, o.length < (es0 ++ [y]).length := fun y => by simp [e0]
              refine ⟨by omega, l1, l2 _, by simp [e0], by omega, by omega, r.length, by omega, a ++ [.mk 1 t s0 ks as], r, s.nx + 396, (es0 ++ [V.agg [.int .i64 k', .int .i64 t', .str q', xk, xa]]) ++ [V.agg [.int .i64 1, .int .i64 0, .str s0, .nils, .nils]], List.append_cons _ _ _, rfl, ?_, ?_, ?_, by omega, ?_⟩
              · rw [hst, hpt]; simp
              · simp only [push_cast, seval, -Nat.reducePow, decide_true, decide_false, tk]
              · rw [hst, hpt, encs_append]; refine leL_append ?_ (text_le _); rw [List.concat_eq_append, encs_append]; exact hle
              · simp
      · simp only [push_cast, seval, -Nat.reducePow, decide_true, decide_false, h3, h7, h8, h9, Node.cs, k1, n1, hL]
        refine callK_intro (t28 h28 ih k t s0 ks as (by omega) (by omega)) (by simp only [push_cast, seval, -Nat.reducePow, decide_true, decide_false]) (by simp only [push_cast, seval, -Nat.reducePow, decide_true, decide_false, imms_cs]) ?_
        simp only [push_cast, seval, -Nat.reducePow, decide_true, decide_false, h3, h7, h8, h9, Node.cs, k1, n1, hL, tk]
        simp only [Node.jstep, k1, if_false] at hst
        refine ⟨by omega, by omega, by omega, r.length, by omega, a ++ [.mk k t s0 ks as], r, s.nx + 191, es ++ [V.agg (Node.mk k t s0 (joinF [] ks) (joinA as)).cs], List.append_cons _ _ _, rfl, ?_, ?_, ?_, by omega, ?_⟩
        · rw [hst]; simp
        · simp only [push_cast, seval, -Nat.reducePow, decide_true, decide_false, Node.cs]
        · rw [hst, encs_append]; refine leL_append hle ?_; simp only [push_cast, seval, -Nat.reducePow, decide_true, decide_false, encs]
        · simp

def Node.tn : Node → Prop
  | .mk k t _ ks as => k = 1 → t = 0 ∧ ks = [] ∧ as = []
theorem pushT_tn {out : List Node} {s : List UInt8} (h : ∀ n, n ∈ out → n.tn) : ∀ n, n ∈ pushT out s → n.tn := by
  intro n hn
  unfold pushT at hn
  split at hn
  · split at hn
    · rcases List.mem_append.1 hn with hn | hn
      · exact h n ((List.dropLast_sublist _).subset hn)
      · simp at hn; subst hn; simp [Node.tn]
    · rcases List.mem_append.1 hn with hn | hn
      · exact h n hn
      · simp at hn; subst hn; simp [Node.tn]
  · rcases List.mem_append.1 hn with hn | hn
    · exact h n hn
    · simp at hn; subst hn; simp [Node.tn]
theorem joinF_tn : ∀ (l out : List Node), (∀ n, n ∈ out → n.tn) → ∀ n, n ∈ joinF out l → n.tn
  | [], out, h => by simpa [joinF] using h
  | .mk k t s ks as :: r, out, h => by
    simp only [joinF]
    refine joinF_tn r _ ?_
    simp only [Node.jstep]
    split
    · split
      · exact h
      · exact pushT_tn h
    · rename_i hk
      intro n hn
      rcases List.mem_append.1 hn with hn | hn
      · exact h n hn
      · simp at hn; subst hn; simp [Node.tn, hk]

theorem fz_own {s : St} {K : St → Prop} {id ty z : Nat} {es : List V} (hL : s.L id = some (.vec ty z es)) (hi : V.imms es = true)
    (h : ∀ s' : St, s'.nx = s.nx → (∀ j, s'.env j = (s.env j).fz id es) → (∀ j b, j ≠ id → s.L j = some b → s'.L j = some (b.fz id es)) → K s') : ∃ s', FzS s s' ∧ K s' :=
  ⟨s.fz id es, .step id ty z es hL hi (.refl _), h _ rfl (fun _ => rfl) fun j b hj hb => by simp [St.fz, fzHeap, hj, hb]⟩

def JR (P : Program) (F : Nat → Nat) (n : Nat) : Prop := ∀ l : List Node, bulks l < n → bulks l ≤ 2 ^ 26 → PTr P (F 21) [.lst 5 (encs l)] (.lst 5 (encs (joinF [] l)))
theorem t21' (hf : Is21 P F T) : ∀ n, JR P F n := by
  intro n
  induction n with
  | zero => intro l h; omega
  | succ n ih =>
    intro l hn hb
    refine ptrL [] hf (by simp) (by simp only [push_cast, seval, -Nat.reducePow, decide_true, decide_false]) ?_
    simp only [c21, push_cast, seval, -Nat.reducePow, decide_true, decide_false]
    refine loopK_intro (fun m s => ∃ a r id es, l = a ++ r ∧ m = r.length ∧ s.env 3 = .own id 5 0 (joinF [] a).length ∧ s.L id = some (.vec (T 0) 5 es) ∧ V.leL es (encs (joinF [] a)) ∧ id < s.nx ∧ s.env 0 = .lst 5 (encs (a ++ r)) ∧ s.env 4 = .int .i64 a.length) l.length ⟨[], l, 214, [], ?_⟩ fun m s hJ => ?_
    · simp only [push_cast, seval, -Nat.reducePow, decide_true, decide_false, joinF, encs]
    obtain ⟨a, r, id, es, rfl, rfl, h3, hL, hle, hid, h0, h4⟩ := hJ
    have hel : es.length = (joinF [] a).length := by rw [leL_length hle, encs_length]
    cases r with
    | nil =>
      simp only [push_cast, seval, -Nat.reducePow, decide_true, decide_false, h3, h0, h4]
      rw [← hel, view_own' hL (leL_imm hle (imms_encs _))]
      simp only [push_cast, seval, -Nat.reducePow, decide_true, decide_false]
      exact hle
    | cons x r =>
      obtain ⟨k, t, s0, ks, as⟩ := x
      have n1 : id ≠ s.nx + 112 := by omega
      have q3 := len_bulks a
      have jb := joinF_bulk a []
      have jl := len_bulks (joinF [] a)
      have jt := joinF_tn a [] (by simp)
      simp only [bulks] at jb
      simp only [bulks_append, bulks, Node.bulk] at hn hb
      have tk : List.take (joinF [] a).length es = es := List.take_of_length_le (by omega)
      have hst := jf_step a (.mk k t s0 ks as)
      have imm : V.imms es = true := leL_imm hle (imms_encs _)
      by_cases k1 : k = 1
      · subst k1
        by_cases s1 : s0 = []
        · subst s1
          simp only [Node.jstep, if_true] at hst
          simp only [push_cast, seval, -Nat.reducePow, decide_true, decide_false, h3, h0, h4, Node.cs]
          refine ⟨by omega, r.length, by omega, a ++ [.mk 1 t [] ks as], r, id, es, List.append_cons _ _ _, rfl, by rw [hst], ?_, by rw [hst]; exact hle, by omega, ?_⟩
          · simp only [push_cast, seval, -Nat.reducePow, decide_true, decide_false, n1, hL]
          · simp
        · simp only [Node.jstep, if_true, s1, if_false] at hst
          rcases List.eq_nil_or_concat (joinF [] a) with ho | ⟨o, z, ho⟩
          · rw [ho] at hst hle h3 jl
            simp only [List.length_nil] at h3
            have hes : es = [] := by simp only [encs] at hle; cases es with | nil => rfl | cons _ _ => have := leL_length hle; simp at this
            subst hes
            simp only [push_cast, seval, -Nat.reducePow, decide_true, decide_false, h3, h0, h4, Node.cs, s1, n1, hL]
            refine ⟨by omega, by omega, r.length, by omega, a ++ [.mk 1 t s0 ks as], r, s.nx + 593, [V.agg [.int .i64 1, .int .i64 0, .str s0, .nils, .nils]], List.append_cons _ _ _, rfl, ?_, ?_, ?_, by omega, ?_⟩
            · rw [hst]; simp [pushT]
            · simp only [push_cast, seval, -Nat.reducePow, decide_true, decide_false]
            · rw [hst]; simpa [pushT] using text_le s0
            · simp
          · obtain ⟨k', t', q', ks', as'⟩ := z
            rw [ho] at hst hle h3 jl jb tk hel jt
            have hcl : (o.concat (Node.mk k' t' q' ks' as')).length = o.length + 1 := by simp
            have htn := jt (.mk k' t' q' ks' as') (by simp)
            rw [List.concat_eq_append, encs_append] at hle
            obtain ⟨es0, e, rfl, hle0, hlez⟩ := leL_snoc hle
            obtain ⟨xk, xa, rfl, hxk, hxa⟩ := le_node hlez
            have e0 : es0.length = o.length := by rw [leL_length hle0, encs_length]
            have hget : (es0 ++ [V.agg [.int .i64 k', .int .i64 t', .str q', xk, xa]]).getD o.length .junk = V.agg [.int .i64 k', .int .i64 t', .str q', xk, xa] := by rw [← e0]; simp
            have hlo : ((o.concat (Node.mk k' t' q' ks' as')).length : Int) = (o.length : Int) + 1 := by simp
            have hi1 : (o.length : Int) + 1 - 1 = o.length := by omega
            have hpos : (0 : Int) < (o.length : Int) + 1 := by omega
            by_cases k2 : k' = 1
            · subst k2
              obtain ⟨rfl, rfl, rfl⟩ := htn rfl
              simp only [push_cast, seval, -Nat.reducePow, decide_true, decide_false, h3, h0, h4, Node.cs, s1, n1, hL, hlo, hi1, hget, hpos]
              have hpt : pushT (o.concat (.mk 1 0 q' [] [])) s0 = o ++ [.mk 1 0 (q' ++ s0) [] []] := by simp [pushT]
              have hq : q'.length + s0.length < 2 ^ 63 := by
                have : bulks (o.concat (.mk 1 0 q' [] [])) = bulks o + (q'.length + 1) := by rw [List.concat_eq_append, bulks_append]; simp [bulks, Node.bulk, bulkA]
                omega
              have l1 : o.length < (o.concat (.mk 1 0 q' [] [])).length := by simp
              have l2 : ∀ y : V, o.length < (es0 ++ [y]).length := fun y => by simp [e0]
              refine ⟨by omega, l1, l2 _, by omega, by omega, l1, l2 _, hq, l1, l2 _, by omega, r.length, by omega, a ++ [.mk 1 t s0 ks as], r, id, es0 ++ [V.agg [.int .i64 1, .int .i64 0, .str (q' ++ s0), xk, xa]], List.append_cons _ _ _, rfl, ?_, ?_, ?_, by omega, ?_⟩
              · rw [hst, hpt]; simp
              · simp only [push_cast, seval, -Nat.reducePow, decide_true, decide_false, n1, hget]
                rw [← e0, List.set_append_right _ _ (Nat.le_refl _)]
                simp
              · rw [hst, hpt, encs_append]; refine leL_append hle0 ?_; simp only [push_cast, seval, -Nat.reducePow, decide_true, decide_false, encs, Node.cs]; exact ⟨hxk, hxa⟩
              · simp
            · simp only [push_cast, seval, -Nat.reducePow, decide_true, decide_false, h3, h0, h4, Node.cs, s1, n1, hL, hlo, hi1, hget, k2, hpos]
              have hpt : pushT (o.concat (.mk k' t' q' ks' as')) s0 = o.concat (.mk k' t' q' ks' as') ++ [.mk 1 0 s0 [] []] := by simp [pushT, k2]
              have l1 : o.length < (o.concat (.mk k' t' q' ks' as')).length := by simp
              have l2 : ∀ y : V, o.length < (es0 ++ [y]).length := fun y => by simp [e0]
              refine ⟨by omega, l1, l2 _, by simp [e0], by omega, by omega, r.length, by omega, a ++ [.mk 1 t s0 ks as], r, s.nx + 593, (es0 ++ [V.agg [.int .i64 k', .int .i64 t', .str q', xk, xa]]) ++ [V.agg [.int .i64 1, .int .i64 0, .str s0, .nils, .nils]], List.append_cons _ _ _, rfl, ?_, ?_, ?_, by omega, ?_⟩
              · rw [hst, hpt]; simp
              · simp only [push_cast, seval, -Nat.reducePow, decide_true, decide_false, tk]
              · rw [hst, hpt, encs_append]; refine leL_append ?_ (text_le _); rw [List.concat_eq_append, encs_append]; exact hle
              · simp
      · simp only [push_cast, seval, -Nat.reducePow, decide_true, decide_false, h3, h0, h4, Node.cs, k1, n1, hL]
        refine callK_intro (ih ks (by omega) (by omega)) (by simp only [push_cast, seval, -Nat.reducePow, decide_true, decide_false]) (by simp only [push_cast, seval, -Nat.reducePow, decide_true, decide_false]) ?_
        simp only [push_cast, seval, -Nat.reducePow, decide_true, decide_false, h3, h0, h4, Node.cs, k1, n1, hL, tk]
        simp only [Node.jstep, k1, if_false] at hst
        refine loopK_intro (fun m s => ∃ b q i5 i6 v, as = b ++ q ∧ m = q.length ∧ s.env 0 = .lst 5 (encs (a ++ .mk k t s0 ks as :: r)) ∧ s.env 3 = .own id 5 0 (joinF [] a).length ∧ s.L id = some (.vec (T 0) 5 es) ∧ id < i5 ∧ s.env 4 = .int .i64 a.length ∧ s.env 5 = .ptr i5 0 ∧ s.env 6 = .ptr i6 0 ∧ i5 < i6 ∧ i6 < s.nx ∧
          s.L i5 = some (.box (T 0) (Node.mk k t s0 ks (b ++ q)).cs) ∧ s.L i6 = some (.box (T 0) [.int .i64 k, .int .i64 t, .str s0, .lst 5 (encs (joinF [] ks)), v]) ∧ s.env 7 = .int .i64 b.length ∧ (v = .nils ∧ b = [] ∨ ∃ ia, v = .own ia 3 0 b.length ∧ s.L ia = some (.vec (T 1) 3 (encA (joinA b))) ∧ i6 < ia ∧ ia < s.nx)) as.length ⟨[], as, s.nx + 112, s.nx + 327, .nils, ?_⟩ fun m s2 hJ2 => ?_
        · have n9 : id ≠ s.nx + 327 := by omega
          simp only [push_cast, seval, -Nat.reducePow, decide_true, decide_false, Node.cs, n1, n9, hL, h0, h3, h4]
          exact ⟨by omega, by omega⟩
        obtain ⟨b, q, i5, i6, v, rfl, rfl, g0, g3, gL, gid, g4, g5, g6, g56, g6n, gL5, gL6, g7, hv⟩ := hJ2
        have m1 : id ≠ i5 := by omega
        have m2 : id ≠ i6 := by omega
        have m3 : i5 ≠ i6 := by omega
        have m4 : i5 ≠ id := by omega
        have m5 : i6 ≠ id := by omega
        have m6 : i6 ≠ i5 := by omega
        cases q with
        | nil =>
          simp only [push_cast, seval, -Nat.reducePow, decide_true, decide_false, g0, g3, g4, g5, g6, g7, gL5, gL6, Node.cs]
          have hjb : (encA (joinA b)).length = b.length := by rw [encA_length, joinA_length]
          have tkA : List.take b.length (encA (joinA b)) = encA (joinA b) := List.take_of_length_le (by omega)
          simp only [List.append_nil] at hst
          rcases hv with ⟨rfl, rfl⟩ | ⟨ia, rfl, gLa, hia, hia2⟩
          · refine ⟨_, .refl _, ?_⟩
            simp only [push_cast, seval, -Nat.reducePow, decide_true, decide_false, g0, g3, g4, g6, gL6, gL, m1, m2, m5, tk]
            refine ⟨by omega, by omega, by omega, r.length, by omega, a ++ [.mk k t s0 ks []], r, s2.nx + 212, es ++ [V.agg [.int .i64 k, .int .i64 t, .str s0, .lst 5 (encs (joinF [] ks)), .nils]], List.append_cons _ _ _, rfl, ?_, ?_, ?_, by omega, ?_⟩
            · rw [hst]; simp
            · simp only [push_cast, seval, -Nat.reducePow, decide_true, decide_false]
            · rw [hst, encs_append]; refine leL_append hle ?_; simp only [push_cast, seval, -Nat.reducePow, decide_true, decide_false, encs, Node.cs, joinA, encA]
            · simp
          · have x1 : i6 ≠ ia := by omega
            have x2 : id ≠ ia := by omega
            refine fz_own (id := ia) (ty := T 1) (z := 3) (es := encA (joinA b)) (by simp only [push_cast, seval, -Nat.reducePow, decide_true, decide_false, gLa]) (imms_encA _) fun s' f1 f2 f3 => ?_
            have e3 := f2 3
            have e0 := f2 0
            have e4 := f2 4
            have e6 := f2 6
            have eL6 := f3 i6 _ x1 (by simp only [push_cast, seval, -Nat.reducePow, decide_true, decide_false]; exact gL6)
            have eL := f3 id _ x2 (by simp only [push_cast, seval, -Nat.reducePow, decide_true, decide_false]; exact gL)
            simp only [push_cast, seval, -Nat.reducePow, decide_true, decide_false] at f1
            simp only [push_cast, seval, -Nat.reducePow, decide_true, decide_false, g0, g3, g4, g6, V.fz, x2, false_and] at e3 e0 e4 e6
            simp only [Blk.fz, V.fzL, V.fz] at eL6 eL
            rw [fzL_imm _ _ _ (imms_encs _)] at e0 eL6
            rw [fzL_imm _ _ _ imm] at eL
            simp only [push_cast, seval, -Nat.reducePow, decide_true, decide_false, hjb, tkA] at eL6
            simp only [push_cast, seval, -Nat.reducePow, decide_true, decide_false, e0, e3, e4, e6, eL6, eL, tk, f1]
            refine ⟨by omega, by omega, by omega, r.length, by omega, a ++ [.mk k t s0 ks b], r, s2.nx + 212, es ++ [V.agg (Node.mk k t s0 (joinF [] ks) (joinA b)).cs], List.append_cons _ _ _, rfl, ?_, ?_, ?_, by omega, ?_⟩
            · rw [hst]; simp
            · simp only [push_cast, seval, -Nat.reducePow, decide_true, decide_false, Node.cs]
            · rw [hst, encs_append]; refine leL_append hle ?_; simp only [push_cast, seval, -Nat.reducePow, decide_true, decide_false, encs]
            · simp
        | cons y q =>
          obtain ⟨yb, yn, yv⟩ := y
          simp only [bulkA_append, bulkA, Arg.bulk] at hn hb
          simp only [push_cast, seval, -Nat.reducePow, decide_true, decide_false, g0, g3, g4, g5, g6, g7, gL5, gL6, Node.cs, Arg.cs]
          refine callK_intro (ih yn (by omega) (by omega)) (by simp only [push_cast, seval, -Nat.reducePow, decide_true, decide_false]) (by simp only [push_cast, seval, -Nat.reducePow, decide_true, decide_false]) ?_
          simp only [push_cast, seval, -Nat.reducePow, decide_true, decide_false, g0, g3, g4, g5, g6, g7, gL5, gL6, Node.cs, Arg.cs]
          refine callK_intro (ih yv (by omega) (by omega)) (by simp only [push_cast, seval, -Nat.reducePow, decide_true, decide_false]) (by simp only [push_cast, seval, -Nat.reducePow, decide_true, decide_false]) ?_
          simp only [push_cast, seval, -Nat.reducePow, decide_true, decide_false, g0, g3, g4, g5, g6, g7, gL5, gL6, Node.cs, Arg.cs]
          rcases hv with ⟨rfl, rfl⟩ | ⟨ia, rfl, gLa, hia, hia2⟩
          · refine v_app_n ?_
            simp only [push_cast, seval, -Nat.reducePow, decide_true, decide_false, g0, g3, g4, g5, g6, g7, gL5, gL6, Node.cs, Arg.cs]
            have y1 : i6 ≠ s2.nx + 207 := by omega
            have y2 : i5 ≠ s2.nx + 207 := by omega
            have y3 : id ≠ s2.nx + 207 := by omega
            simp only [push_cast, seval, -Nat.reducePow, decide_true, decide_false, y1, gL6, g7]
            refine ⟨by omega, q.length, by omega, [.mk yb yn yv], q, i5, i6, .own (s2.nx + 207) 3 0 1, rfl, rfl, ?_⟩
            simp only [push_cast, seval, -Nat.reducePow, decide_true, decide_false, g0, g3, g4, g5, g6, gL, gL5, m1, m2, m3, y1, y2, y3, Node.cs]
            refine ⟨by omega, by omega, by omega, .inr ⟨s2.nx + 207, rfl, ?_, by omega, by omega⟩⟩
            simp only [push_cast, seval, -Nat.reducePow, decide_true, decide_false, y1, joinA, Arg.jn, encA, Arg.cs, show s2.nx + 207 ≠ i6 by omega]
          · simp only [push_cast, seval, -Nat.reducePow, decide_true, decide_false, g0, g3, g4, g5, g6, g7, gL5, gL6, gLa, Node.cs, Arg.cs]
            have hjb : (encA (joinA b)).length = b.length := by rw [encA_length, joinA_length]
            have tkA : List.take b.length (encA (joinA b)) = encA (joinA b) := List.take_of_length_le (by omega)
            have q9 := len_bulkA b
            have y1 : i6 ≠ s2.nx + 207 := by omega
            have y2 : i5 ≠ s2.nx + 207 := by omega
            have y3 : id ≠ s2.nx + 207 := by omega
            have x1 : i6 ≠ ia := by omega
            have x2 : id ≠ ia := by omega
            have x3 : i5 ≠ ia := by omega
            simp only [push_cast, seval, -Nat.reducePow, decide_true, decide_false, y1, x1, gL6, tkA, g7]
            refine ⟨by rw [joinA_length]; exact Nat.le_refl _, by omega, by omega, q.length, by omega, b ++ [.mk yb yn yv], q, i5, i6, .own (s2.nx + 207) 3 0 (b.length + 1), List.append_cons _ _ _, rfl, ?_⟩
            simp only [push_cast, seval, -Nat.reducePow, decide_true, decide_false, g0, g3, g4, g5, g6, gL, gL5, m1, m2, m3, y1, y2, y3, x1, x2, x3, Node.cs]
            refine ⟨by omega, by omega, by omega, by simp, by simp, .inr ⟨s2.nx + 207, by simp, ?_, by omega, by omega⟩⟩
            simp only [push_cast, seval, -Nat.reducePow, decide_true, decide_false, joinA_append, joinA, Arg.jn, encA_append, encA, Arg.cs, show s2.nx + 207 ≠ i6 by omega]
end Go.Ab
