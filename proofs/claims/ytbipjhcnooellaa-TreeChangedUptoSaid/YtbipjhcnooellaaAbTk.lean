/- What joining trees keeps. No condition. -/
import Derived.Test.YtbipjhcnooellaaAbTl
import Derived.Test.YtbipjhcnooellaaAbTj
namespace Go.Ab
set_option linter.unusedVariables false
set_option linter.unusedSimpArgs false

theorem srcs_pushT (out : List Node) (s : List UInt8) : srcs (pushT out s) = srcs out ++ s := by
  unfold pushT
  split
  · rename_i k t q ks as hl
    have e := bulks_dropLast _ _ hl
    split
    · rename_i hk
      subst hk
      conv => rhs; rw [e]
      simp [srcs_append, srcs, Node.src]
    · simp [srcs_append, srcs, Node.src]
  · simp [srcs_append, srcs, Node.src]
mutual
theorem srcs_joinF : ∀ (l out : List Node), srcs (joinF out l) = srcs out ++ srcs l
  | [], out => by simp [joinF, srcs]
  | n :: r, out => by
    simp only [joinF, srcs]
    rw [srcs_joinF r, src_jstep n out, List.append_assoc]
theorem src_jstep : ∀ (n : Node) (out : List Node), srcs (n.jstep out) = srcs out ++ n.src
  | .mk k t s ks as, out => by
    have h1 := srcs_joinF ks []
    have h2 := srcA_joinA as
    simp only [srcs, List.nil_append] at h1
    simp only [Node.jstep]
    split
    · rename_i hk
      subst hk
      split
      · rename_i hs; subst hs; simp [Node.src]
      · rw [srcs_pushT]; simp [Node.src]
    · rw [srcs_append, srcs, srcs, List.append_nil]
      simp only [Node.src, h1, h2]
theorem src_jn : ∀ (n : Arg), n.jn.src = n.src
  | .mk b n v => by
    have h1 := srcs_joinF n []
    have h2 := srcs_joinF v []
    simp only [srcs, List.nil_append] at h1 h2
    simp only [Arg.jn, Arg.src, h1, h2]
theorem srcA_joinA : ∀ (l : List Arg), srcA (joinA l) = srcA l
  | [] => by simp [joinA]
  | n :: r => by simp only [joinA, srcA, src_jn n, srcA_joinA r]
end

def Node.isT : Node → Prop
  | .mk k _ _ _ _ => k = 1
def Node.nn : Node → Prop
  | .mk k t s ks as => (k = 1 → s ≠ [] ∧ t = 0 ∧ ks = [] ∧ as = []) ∧ (k ≠ 1 → joinF [] ks = ks ∧ joinA as = as)
/-- no two texts behind one another -/
def adj : List Node → Prop
  | [] => True
  | [_] => True
  | x :: y :: r => ¬ (x.isT ∧ y.isT) ∧ adj (y :: r)
theorem adj_snoc : ∀ (o : List Node) (x : Node), adj (o ++ [x]) ↔ adj o ∧ ∀ y, o.getLast? = some y → ¬ (y.isT ∧ x.isT)
  | [], x => by simp [adj]
  | [z], x => by simp [adj]
  | z :: y :: r, x => by
    have ih := adj_snoc (y :: r) x
    simp only [List.cons_append] at ih ⊢
    simp only [adj, ih, List.getLast?_cons_cons, and_assoc]
def good (l : List Node) : Prop := (∀ n, n ∈ l → n.nn) ∧ adj l
theorem good_nil : good [] := ⟨by simp, trivial⟩
theorem good_snoc {o : List Node} {x : Node} (h : good o) (hx : x.nn) (ha : ∀ y, o.getLast? = some y → ¬ (y.isT ∧ x.isT)) : good (o ++ [x]) :=
  ⟨fun n hn => by rcases List.mem_append.1 hn with hn | hn; · exact h.1 n hn
                  · simp at hn; subst hn; exact hx, (adj_snoc o x).2 ⟨h.2, ha⟩⟩
/-- a list in order stays as it is -/
theorem joinF_fix : ∀ (l out : List Node), good l → (∀ x y, out.getLast? = some x → l.head? = some y → ¬ (x.isT ∧ y.isT)) → joinF out l = out ++ l
  | [], out, _, _ => by simp [joinF]
  | .mk k t s ks as :: r, out, h, ha => by
    have hn := h.1 (.mk k t s ks as) (by simp)
    have hr : good r := ⟨fun n hn => h.1 n (by simp [hn]), by cases r with | nil => trivial | cons y q => exact h.2.2⟩
    have e : (Node.mk k t s ks as).jstep out = out ++ [.mk k t s ks as] := by
      simp only [Node.jstep]
      split
      · rename_i hk
        obtain ⟨h1, rfl, rfl, rfl⟩ := hn.1 hk
        subst hk
        simp only [h1, if_false]
        unfold pushT
        split
        · rename_i k' t' q ks' as' hl
          have := ha _ _ hl rfl
          simp only [Node.isT, and_true] at this
          simp [this]
        · rfl
      · rename_i hk
        obtain ⟨h1, h2⟩ := hn.2 hk
        rw [h1, h2]
    simp only [joinF, e]
    rw [joinF_fix r _ hr ?_, List.append_assoc]; · rfl
    intro x y hx hy
    rw [List.getLast?_append] at hx
    simp at hx
    subst hx
    cases r with
    | nil => simp at hy
    | cons z q => simp at hy; subst hy; exact h.2.1
theorem pushT_good {out : List Node} {s : List UInt8} (h : good out) (hs : s ≠ []) : good (pushT out s) := by
  have hx : (Node.mk 1 0 s [] []).nn := ⟨fun _ => ⟨hs, rfl, rfl, rfl⟩, fun h => absurd rfl h⟩
  unfold pushT
  split
  · rename_i k t q ks as hl
    have e := bulks_dropLast _ _ hl
    split
    · rename_i hk
      subst hk
      rw [e] at h
      have h2 := (adj_snoc _ _).1 h.2
      refine good_snoc ⟨fun n hn => h.1 n (by simp [hn]), h2.1⟩ ⟨fun _ => ⟨by simp [hs], rfl, rfl, rfl⟩, fun h => absurd rfl h⟩ fun y hy => ?_
      exact h2.2 y hy
    · rename_i hk
      refine good_snoc h hx fun y hy => ?_
      rw [hl] at hy
      cases hy
      exact fun hh => hk hh.1
  · rename_i hl
    refine good_snoc h hx fun y hy => ?_
    rw [hl] at hy
    cases hy
mutual
theorem joinF_good : ∀ (l out : List Node), good out → good (joinF out l)
  | [], out, h => by simpa [joinF] using h
  | n :: r, out, h => by simp only [joinF]; exact joinF_good r _ (jstep_good n out h)
theorem jstep_good : ∀ (n : Node) (out : List Node), good out → good (n.jstep out)
  | .mk k t s ks as, out, h => by
    have h1 := joinF_fix _ [] (joinF_good ks [] good_nil) (by simp)
    have h2 := joinA_idem as
    simp only [Node.jstep]
    split
    · split
      · exact h
      · rename_i hs; exact pushT_good h hs
    · rename_i hk
      exact good_snoc h ⟨fun h => absurd h hk, fun _ => ⟨by simpa using h1, h2⟩⟩ fun y _ hh => hk hh.2
theorem jn_idem : ∀ (n : Arg), n.jn.jn = n.jn
  | .mk b n v => by
    have h1 := joinF_fix _ [] (joinF_good n [] good_nil) (by simp)
    have h2 := joinF_fix _ [] (joinF_good v [] good_nil) (by simp)
    simp only [List.nil_append] at h1 h2
    simp only [Arg.jn, h1, h2]
theorem joinA_idem : ∀ (l : List Arg), joinA (joinA l) = joinA l
  | [] => rfl
  | n :: r => by simp only [joinA, jn_idem n, joinA_idem r]
end
theorem joinF_idem (l : List Node) : joinF [] (joinF [] l) = joinF [] l := by simpa using joinF_fix _ [] (joinF_good l [] good_nil) (by simp)

variable {P : Program} {F T : Nat → Nat}
/-- TreeJoin -/
theorem law19 (hf : Is19 P F T) (H : TreeFns P F) (h20 : ∀ l : List Node, bulks l ≤ 2 ^ 26 → PTr P (F 20) [.lst 5 (encs l)] (.lst 5 (encs (joinF [] l)))) (h21 : ∀ l : List Node, bulks l ≤ 2 ^ 26 → PTr P (F 21) [.lst 5 (encs l)] (.lst 5 (encs (joinF [] l))))
    (l : List Node) (hb : bulks l ≤ 2 ^ 24) : PTr P (F 19) [.lst 5 (encs l)] (.bool true) := by
  refine ptrC [] hf (by simp) rfl ?_
  simp only [c19, push_cast, Nat.reduceEqDiff, Nat.reduceAdd, Nat.reduceLT, Nat.reduceLeDiff, Nat.reduceMul, Nat.reduceSub, reduceCtorEq, Int.reduceEq, Int.reduceLT, Int.reduceLE, Int.reduceAdd, Int.reduceSub, Int.reduceToNat, decide_true, decide_false]
  refine callK_intro (H.s1 l (by omega)) (by simp only [push_cast, Nat.reduceEqDiff, Nat.reduceAdd, Nat.reduceLT, Nat.reduceLeDiff, Nat.reduceMul, Nat.reduceSub, reduceCtorEq, Int.reduceEq, Int.reduceLT, Int.reduceLE, Int.reduceAdd, Int.reduceSub, Int.reduceToNat, decide_true, decide_false]) (by simp only [push_cast, Nat.reduceEqDiff, Nat.reduceAdd, Nat.reduceLT, Nat.reduceLeDiff, Nat.reduceMul, Nat.reduceSub, reduceCtorEq, Int.reduceEq, Int.reduceLT, Int.reduceLE, Int.reduceAdd, Int.reduceSub, Int.reduceToNat, decide_true, decide_false]) ?_
  simp only [push_cast, Nat.reduceEqDiff, Nat.reduceAdd, Nat.reduceLT, Nat.reduceLeDiff, Nat.reduceMul, Nat.reduceSub, reduceCtorEq, Int.reduceEq, Int.reduceLT, Int.reduceLE, Int.reduceAdd, Int.reduceSub, Int.reduceToNat, decide_true, decide_false]
  refine condK_intro (fun h => ?_) (fun h => ?_)
  · simp only [push_cast, Nat.reduceEqDiff, Nat.reduceAdd, Nat.reduceLT, Nat.reduceLeDiff, Nat.reduceMul, Nat.reduceSub, reduceCtorEq, Int.reduceEq, Int.reduceLT, Int.reduceLE, Int.reduceAdd, Int.reduceSub, Int.reduceToNat, decide_true, decide_false]
    refine callK_intro H.s4 (by simp only [push_cast, Nat.reduceEqDiff, Nat.reduceAdd, Nat.reduceLT, Nat.reduceLeDiff, Nat.reduceMul, Nat.reduceSub, reduceCtorEq, Int.reduceEq, Int.reduceLT, Int.reduceLE, Int.reduceAdd, Int.reduceSub, Int.reduceToNat, decide_true, decide_false]) (by simp only [push_cast, Nat.reduceEqDiff, Nat.reduceAdd, Nat.reduceLT, Nat.reduceLeDiff, Nat.reduceMul, Nat.reduceSub, reduceCtorEq, Int.reduceEq, Int.reduceLT, Int.reduceLE, Int.reduceAdd, Int.reduceSub, Int.reduceToNat, decide_true, decide_false]) ?_
    simp only [push_cast, Nat.reduceEqDiff, Nat.reduceAdd, Nat.reduceLT, Nat.reduceLeDiff, Nat.reduceMul, Nat.reduceSub, reduceCtorEq, Int.reduceEq, Int.reduceLT, Int.reduceLE, Int.reduceAdd, Int.reduceSub, Int.reduceToNat, decide_true, decide_false]
  have jb := joinF_bulk l []
  simp only [bulks] at jb
  have e1 := srcs_joinF l []
  simp only [srcs, List.nil_append] at e1
  simp only [push_cast, Nat.reduceEqDiff, Nat.reduceAdd, Nat.reduceLT, Nat.reduceLeDiff, Nat.reduceMul, Nat.reduceSub, reduceCtorEq, Int.reduceEq, Int.reduceLT, Int.reduceLE, Int.reduceAdd, Int.reduceSub, Int.reduceToNat, decide_true, decide_false]
  refine callK_intro (h20 l (by omega)) (by simp only [push_cast, Nat.reduceEqDiff, Nat.reduceAdd, Nat.reduceLT, Nat.reduceLeDiff, Nat.reduceMul, Nat.reduceSub, reduceCtorEq, Int.reduceEq, Int.reduceLT, Int.reduceLE, Int.reduceAdd, Int.reduceSub, Int.reduceToNat, decide_true, decide_false]) (by simp only [push_cast, Nat.reduceEqDiff, Nat.reduceAdd, Nat.reduceLT, Nat.reduceLeDiff, Nat.reduceMul, Nat.reduceSub, reduceCtorEq, Int.reduceEq, Int.reduceLT, Int.reduceLE, Int.reduceAdd, Int.reduceSub, Int.reduceToNat, decide_true, decide_false]) ?_
  simp only [push_cast, Nat.reduceEqDiff, Nat.reduceAdd, Nat.reduceLT, Nat.reduceLeDiff, Nat.reduceMul, Nat.reduceSub, reduceCtorEq, Int.reduceEq, Int.reduceLT, Int.reduceLE, Int.reduceAdd, Int.reduceSub, Int.reduceToNat, decide_true, decide_false]
  refine callK_intro (h21 l (by omega)) (by simp only [push_cast, Nat.reduceEqDiff, Nat.reduceAdd, Nat.reduceLT, Nat.reduceLeDiff, Nat.reduceMul, Nat.reduceSub, reduceCtorEq, Int.reduceEq, Int.reduceLT, Int.reduceLE, Int.reduceAdd, Int.reduceSub, Int.reduceToNat, decide_true, decide_false]) (by simp only [push_cast, Nat.reduceEqDiff, Nat.reduceAdd, Nat.reduceLT, Nat.reduceLeDiff, Nat.reduceMul, Nat.reduceSub, reduceCtorEq, Int.reduceEq, Int.reduceLT, Int.reduceLE, Int.reduceAdd, Int.reduceSub, Int.reduceToNat, decide_true, decide_false]) ?_
  simp only [push_cast, Nat.reduceEqDiff, Nat.reduceAdd, Nat.reduceLT, Nat.reduceLeDiff, Nat.reduceMul, Nat.reduceSub, reduceCtorEq, Int.reduceEq, Int.reduceLT, Int.reduceLE, Int.reduceAdd, Int.reduceSub, Int.reduceToNat, decide_true, decide_false]
  refine callK_intro (H.s6 (joinF [] l) (joinF [] l) (by omega)) (by simp only [push_cast, Nat.reduceEqDiff, Nat.reduceAdd, Nat.reduceLT, Nat.reduceLeDiff, Nat.reduceMul, Nat.reduceSub, reduceCtorEq, Int.reduceEq, Int.reduceLT, Int.reduceLE, Int.reduceAdd, Int.reduceSub, Int.reduceToNat, decide_true, decide_false]) (by simp only [push_cast, Nat.reduceEqDiff, Nat.reduceAdd, Nat.reduceLT, Nat.reduceLeDiff, Nat.reduceMul, Nat.reduceSub, reduceCtorEq, Int.reduceEq, Int.reduceLT, Int.reduceLE, Int.reduceAdd, Int.reduceSub, Int.reduceToNat, decide_true, decide_false]) ?_
  simp only [push_cast, Nat.reduceEqDiff, Nat.reduceAdd, Nat.reduceLT, Nat.reduceLeDiff, Nat.reduceMul, Nat.reduceSub, reduceCtorEq, Int.reduceEq, Int.reduceLT, Int.reduceLE, Int.reduceAdd, Int.reduceSub, Int.reduceToNat, decide_true, decide_false, eqB_self]
  refine callK_intro (H.s2 (joinF [] l) (by omega)) (by simp only [push_cast, Nat.reduceEqDiff, Nat.reduceAdd, Nat.reduceLT, Nat.reduceLeDiff, Nat.reduceMul, Nat.reduceSub, reduceCtorEq, Int.reduceEq, Int.reduceLT, Int.reduceLE, Int.reduceAdd, Int.reduceSub, Int.reduceToNat, decide_true, decide_false]) (by simp only [push_cast, Nat.reduceEqDiff, Nat.reduceAdd, Nat.reduceLT, Nat.reduceLeDiff, Nat.reduceMul, Nat.reduceSub, reduceCtorEq, Int.reduceEq, Int.reduceLT, Int.reduceLE, Int.reduceAdd, Int.reduceSub, Int.reduceToNat, decide_true, decide_false]) ?_
  simp only [push_cast, Nat.reduceEqDiff, Nat.reduceAdd, Nat.reduceLT, Nat.reduceLeDiff, Nat.reduceMul, Nat.reduceSub, reduceCtorEq, Int.reduceEq, Int.reduceLT, Int.reduceLE, Int.reduceAdd, Int.reduceSub, Int.reduceToNat, decide_true, decide_false, e1]
  refine callK_intro (H.s2 l (by omega)) (by simp only [push_cast, Nat.reduceEqDiff, Nat.reduceAdd, Nat.reduceLT, Nat.reduceLeDiff, Nat.reduceMul, Nat.reduceSub, reduceCtorEq, Int.reduceEq, Int.reduceLT, Int.reduceLE, Int.reduceAdd, Int.reduceSub, Int.reduceToNat, decide_true, decide_false]) (by simp only [push_cast, Nat.reduceEqDiff, Nat.reduceAdd, Nat.reduceLT, Nat.reduceLeDiff, Nat.reduceMul, Nat.reduceSub, reduceCtorEq, Int.reduceEq, Int.reduceLT, Int.reduceLE, Int.reduceAdd, Int.reduceSub, Int.reduceToNat, decide_true, decide_false]) ?_
  simp only [push_cast, Nat.reduceEqDiff, Nat.reduceAdd, Nat.reduceLT, Nat.reduceLeDiff, Nat.reduceMul, Nat.reduceSub, reduceCtorEq, Int.reduceEq, Int.reduceLT, Int.reduceLE, Int.reduceAdd, Int.reduceSub, Int.reduceToNat, decide_true, decide_false]
  refine condK_dec (fun _ => ?_) (fun hne => absurd e1 hne)
  simp only [push_cast, Nat.reduceEqDiff, Nat.reduceAdd, Nat.reduceLT, Nat.reduceLeDiff, Nat.reduceMul, Nat.reduceSub, reduceCtorEq, Int.reduceEq, Int.reduceLT, Int.reduceLE, Int.reduceAdd, Int.reduceSub, Int.reduceToNat, decide_true, decide_false]
  refine callK_intro (h20 (joinF [] l) (by omega)) (by simp only [push_cast, Nat.reduceEqDiff, Nat.reduceAdd, Nat.reduceLT, Nat.reduceLeDiff, Nat.reduceMul, Nat.reduceSub, reduceCtorEq, Int.reduceEq, Int.reduceLT, Int.reduceLE, Int.reduceAdd, Int.reduceSub, Int.reduceToNat, decide_true, decide_false]) (by simp only [push_cast, Nat.reduceEqDiff, Nat.reduceAdd, Nat.reduceLT, Nat.reduceLeDiff, Nat.reduceMul, Nat.reduceSub, reduceCtorEq, Int.reduceEq, Int.reduceLT, Int.reduceLE, Int.reduceAdd, Int.reduceSub, Int.reduceToNat, decide_true, decide_false]) ?_
  rw [joinF_idem]
  simp only [push_cast, Nat.reduceEqDiff, Nat.reduceAdd, Nat.reduceLT, Nat.reduceLeDiff, Nat.reduceMul, Nat.reduceSub, reduceCtorEq, Int.reduceEq, Int.reduceLT, Int.reduceLE, Int.reduceAdd, Int.reduceSub, Int.reduceToNat, decide_true, decide_false]
  refine callK_intro (H.s6 (joinF [] l) (joinF [] l) (by omega)) (by simp only [push_cast, Nat.reduceEqDiff, Nat.reduceAdd, Nat.reduceLT, Nat.reduceLeDiff, Nat.reduceMul, Nat.reduceSub, reduceCtorEq, Int.reduceEq, Int.reduceLT, Int.reduceLE, Int.reduceAdd, Int.reduceSub, Int.reduceToNat, decide_true, decide_false]) (by simp only [push_cast, Nat.reduceEqDiff, Nat.reduceAdd, Nat.reduceLT, Nat.reduceLeDiff, Nat.reduceMul, Nat.reduceSub, reduceCtorEq, Int.reduceEq, Int.reduceLT, Int.reduceLE, Int.reduceAdd, Int.reduceSub, Int.reduceToNat, decide_true, decide_false]) ?_
  simp only [push_cast, Nat.reduceEqDiff, Nat.reduceAdd, Nat.reduceLT, Nat.reduceLeDiff, Nat.reduceMul, Nat.reduceSub, reduceCtorEq, Int.reduceEq, Int.reduceLT, Int.reduceLE, Int.reduceAdd, Int.reduceSub, Int.reduceToNat, decide_true, decide_false, eqB_self]
  refine callK_intro H.s4 (by simp only [push_cast, Nat.reduceEqDiff, Nat.reduceAdd, Nat.reduceLT, Nat.reduceLeDiff, Nat.reduceMul, Nat.reduceSub, reduceCtorEq, Int.reduceEq, Int.reduceLT, Int.reduceLE, Int.reduceAdd, Int.reduceSub, Int.reduceToNat, decide_true, decide_false]) (by simp only [push_cast, Nat.reduceEqDiff, Nat.reduceAdd, Nat.reduceLT, Nat.reduceLeDiff, Nat.reduceMul, Nat.reduceSub, reduceCtorEq, Int.reduceEq, Int.reduceLT, Int.reduceLE, Int.reduceAdd, Int.reduceSub, Int.reduceToNat, decide_true, decide_false]) ?_
  simp only [push_cast, Nat.reduceEqDiff, Nat.reduceAdd, Nat.reduceLT, Nat.reduceLeDiff, Nat.reduceMul, Nat.reduceSub, reduceCtorEq, Int.reduceEq, Int.reduceLT, Int.reduceLE, Int.reduceAdd, Int.reduceSub, Int.reduceToNat, decide_true, decide_false]
end Go.Ab
