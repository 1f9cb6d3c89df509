/- A changed tree. No condition. -/
import Derived.Test.YtbipjhcnooellaaAbTk
namespace Go.Ab
set_option linter.unusedVariables false
set_option linter.unusedSimpArgs false

theorem wrap_bv (n : Nat) (h : n < 2 ^ 64) : BitVec.ofInt 64 (IntKind.wrap .i64 (n : Int)) = BitVec.ofNat 64 n := by
  apply BitVec.eq_of_toNat_eq
  rw [BitVec.toNat_ofInt, BitVec.toNat_ofNat]
  have e : (IntKind.wrap .i64 (n : Int)) = (n : Int) - (if n < 2 ^ 63 then 0 else 2 ^ 64) := by
    have e2 : (n : Int) % (2 ^ 64 : Int) = n := by omega
    by_cases hn : n < 2 ^ 63
    · rw [if_pos hn]; exact (InR.wrap (k := .i64) (by simp only [InR]; omega)).trans (by omega)
    · rw [if_neg hn]
      show (if (true && decide ((n : Int) % (2 ^ 64 : Int) ≥ 2 ^ 63)) = true then (n : Int) % (2 ^ 64 : Int) - 2 ^ 64 else (n : Int) % (2 ^ 64 : Int)) = _
      rw [e2, if_pos (by simp; omega)]
  rw [e]
  split <;> omega
theorem xor_ne (k : Int) : vbits .xor .i64 k 1 ≠ k := by
  intro h
  have e := congrArg (BitVec.ofInt 64) h
  have e2 : BitVec.ofInt 64 (vbits .xor .i64 k 1) = BitVec.ofInt 64 k ^^^ BitVec.ofInt 64 1 := by
    show BitVec.ofInt 64 (IntKind.wrap .i64 (((BitVec.ofInt 64 k ^^^ BitVec.ofInt 64 1).toNat : Nat) : Int)) = _
    rw [wrap_bv _ (BitVec.isLt _), BitVec.ofNat_toNat, BitVec.setWidth_eq]
  rw [e2] at e
  have e3 : BitVec.ofInt 64 k ^^^ (BitVec.ofInt 64 k ^^^ BitVec.ofInt 64 1) = 0 := by rw [e]; simp
  rw [← BitVec.xor_assoc, BitVec.xor_self, BitVec.zero_xor] at e3
  exact absurd e3 (by decide)

theorem at_l {l : List Node} {i : Nat} (h : i < l.length) : ∃ a x r, l = a ++ x :: r ∧ a.length = i := by
  refine ⟨l.take i, l[i], l.drop (i + 1), ?_, by simp; omega⟩
  rw [List.getElem_cons_drop, List.take_append_drop]
theorem encs_get (a : List Node) (x : Node) (r : List Node) : (encs (a ++ x :: r)).getD a.length .junk = .agg x.cs := encs_at a x r
theorem encs_set (a : List Node) (x : Node) (r : List Node) (v : V) : (encs (a ++ x :: r)).set a.length v = encs a ++ v :: encs r := by
  rw [encs_append, ← encs_length a, List.set_append_right _ _ (Nat.le_refl _), Nat.sub_self]; rfl

theorem appN_ne {d ty sz : Nat} {ys : List V} {s : St} {K : St → Prop} (h : ys ≠ []) : appN d ty sz ys s K = (ys.length ≤ 2 ^ 32 ∧ K ((s.add (s.nx + d) (.vec ty sz ys)).set d (.own (s.nx + d) sz 0 ys.length))) := by
  cases ys with
  | nil => exact absurd rfl h
  | cons => rw [appN_cons]

theorem view_chg {L : Heap} {i ty z n : Nat} {a r : List Node} {c c' : List V} {x : Node} (hL : L i = some (.vec ty z (encs a ++ .agg c :: encs r))) (hn : n = (a ++ x :: r).length) (hc : c.map (view L 1) = c') (hx : V.leL c' x.cs) :
    V.leL [view L 3 (.own i 5 0 n)] [.lst 5 (encs (a ++ x :: r))] ∧ V.imms [view L 3 (.own i 5 0 n)] = true := by
  have e : view L 3 (.own i 5 0 n) = .lst 5 (encs a ++ .agg c' :: encs r) := by
    have hlen : (encs a ++ V.agg c :: encs r).length = n := by rw [hn]; simp [encs_length]
    simp only [view, hL, Nat.zero_add, hlen, Nat.le_refl, if_true, List.drop_zero]
    rw [List.take_of_length_le (by omega), List.map_append, List.map_cons]
    rw [show (encs a).map (view L 2) = (encs a).map id from List.map_congr_left fun x hx => view_imm 2 x (imms_mem (imms_encs a) hx), List.map_id]
    rw [show (encs r).map (view L 2) = (encs r).map id from List.map_congr_left fun x hx => view_imm 2 x (imms_mem (imms_encs r) hx), List.map_id]
    simp only [view, hc]
  have h2 : V.leL [view L 3 (.own i 5 0 n)] [.lst 5 (encs (a ++ x :: r))] := by
    rw [e, leL_cons, le_lst, leL_nil, encs_append, encs]
    exact ⟨leL_append (V.leL_refl _) (by rw [leL_cons, le_agg]; exact ⟨hx, V.leL_refl _⟩), trivial⟩
  exact ⟨h2, leL_imm h2 (by simp only [push_cast, Nat.reduceEqDiff, Nat.reduceAdd, Nat.reduceLT, Nat.reduceLeDiff, Nat.reduceMul, Nat.reduceSub, reduceCtorEq, Int.reduceEq, Int.reduceLT, Int.reduceLE, Int.reduceAdd, Int.reduceSub, Int.reduceToNat, decide_true, decide_false, imms_encs])⟩
theorem view_own1 {L : Heap} {id ty z sz n : Nat} {es : List V} (h : L id = some (.vec ty z es)) (hn : n = es.length) : view L 1 (.own id sz 0 n) = .lst sz es := by
  subst hn
  simp only [view, h, Nat.zero_add, Nat.le_refl, if_true, List.drop_zero, List.take_length]
  have e : es.map (view L 0) = es := (List.map_congr_left fun x _ => by cases x <;> rfl).trans (List.map_id' es)
  exact congrArg _ e
theorem zero_le : V.leL [V.agg [.int .i64 0, .int .i64 0, .str [], .nils, .nils]] (encs [.mk 0 0 [] [] []]) := by
  simp only [encs, encA, Node.cs, leL_cons, le_agg, leL_nil, le_nils, le_rfl', and_self]
theorem zeroA_le : V.leL [V.agg [.bool false, .nils, .nils]] (encA [.mk false [] []]) := by
  simp only [encs, encA, Arg.cs, leL_cons, le_agg, leL_nil, le_nils, le_rfl', and_self]
theorem updU {L : Heap} {i : Nat} {b : Option Blk} : (upd L i b) i = b := by simp [upd]

variable {P : Program} {F T : Nat → Nat}
theorem chg1 (H : TreeFns P F) {l : List Node} {L : Heap} {i ty z n : Nat} {a r : List Node} {c : List V} (x : Node) {K : V → Prop} {t : Tg K} (hL : L i = some (.vec ty z (encs a ++ .agg c :: encs r))) (hn : n = (a ++ x :: r).length) (hx : V.leL (c.map (view L 1)) x.cs)
    (hb : bulks l ≤ 2 ^ 26) (hne : l ≠ a ++ x :: r) (hK : K (.bool false)) : vcallK P (F 6) [.lst 5 (encs l), view L 3 (.own i 5 0 n)] t := by
  obtain ⟨hv, hi⟩ := view_chg hL hn rfl hx
  refine vcallK_le (H.s6 l (a ++ x :: r) hb) ?_ ?_ rfl (by rw [eqB_ne hne]; exact hK)
  · rw [leL_cons]; exact ⟨V.le_refl _, hv⟩
  · simp only [V.imms] at hi ⊢; simp [hi, V.imm, imms_encs]
theorem chg2 (H : TreeFns P F) {l : List Node} {L : Heap} {i ty z n : Nat} {a r : List Node} {c : List V} (x : Node) {K : V → Prop} {t : Tg K} (hL : L i = some (.vec ty z (encs a ++ .agg c :: encs r))) (hn : n = (a ++ x :: r).length) (hx : V.leL (c.map (view L 1)) x.cs)
    (hb : bulks (a ++ x :: r) ≤ 2 ^ 26) (hne : l ≠ a ++ x :: r) (hK : K (.bool false)) : vcallK P (F 6) [view L 3 (.own i 5 0 n), .lst 5 (encs l)] t := by
  obtain ⟨hv, hi⟩ := view_chg hL hn rfl hx
  refine vcallK_le (H.s6 (a ++ x :: r) l hb) ?_ ?_ rfl (by rw [eqB_ne hne.symm]; exact hK)
  · rw [leL_cons] at hv ⊢; exact ⟨hv.1, V.leL_refl _⟩
  · simp only [V.imms] at hi ⊢; simp [hi, V.imm, imms_encs]
/-- TreeChanged -/
theorem law8 (hf : Is8 P F T) (H : TreeFns P F) (l : List Node) (i how : Int) (hb : bulks l ≤ 2 ^ 24) : PTr P (F 8) [.lst 5 (encs l), .int .i64 i, .int .i64 how] (.bool true) := by
  refine ptrC [] hf (by simp) rfl ?_
  simp only [c8, push_cast, Nat.reduceEqDiff, Nat.reduceAdd, Nat.reduceLT, Nat.reduceLeDiff, Nat.reduceMul, Nat.reduceSub, reduceCtorEq, Int.reduceEq, Int.reduceLT, Int.reduceLE, Int.reduceAdd, Int.reduceSub, Int.reduceToNat, decide_true, decide_false]
  refine callK_intro (H.s1 l (by omega)) (by simp only [push_cast, Nat.reduceEqDiff, Nat.reduceAdd, Nat.reduceLT, Nat.reduceLeDiff, Nat.reduceMul, Nat.reduceSub, reduceCtorEq, Int.reduceEq, Int.reduceLT, Int.reduceLE, Int.reduceAdd, Int.reduceSub, Int.reduceToNat, decide_true, decide_false]) (by simp only [push_cast, Nat.reduceEqDiff, Nat.reduceAdd, Nat.reduceLT, Nat.reduceLeDiff, Nat.reduceMul, Nat.reduceSub, reduceCtorEq, Int.reduceEq, Int.reduceLT, Int.reduceLE, Int.reduceAdd, Int.reduceSub, Int.reduceToNat, decide_true, decide_false]) ?_
  simp only [push_cast, Nat.reduceEqDiff, Nat.reduceAdd, Nat.reduceLT, Nat.reduceLeDiff, Nat.reduceMul, Nat.reduceSub, reduceCtorEq, Int.reduceEq, Int.reduceLT, Int.reduceLE, Int.reduceAdd, Int.reduceSub, Int.reduceToNat, decide_true, decide_false]
  refine condK_intro (fun h => ?_) (fun h => ?_)
  · simp only [push_cast, Nat.reduceEqDiff, Nat.reduceAdd, Nat.reduceLT, Nat.reduceLeDiff, Nat.reduceMul, Nat.reduceSub, reduceCtorEq, Int.reduceEq, Int.reduceLT, Int.reduceLE, Int.reduceAdd, Int.reduceSub, Int.reduceToNat, decide_true, decide_false]
    refine callK_intro H.s4 (by simp only [push_cast, Nat.reduceEqDiff, Nat.reduceAdd, Nat.reduceLT, Nat.reduceLeDiff, Nat.reduceMul, Nat.reduceSub, reduceCtorEq, Int.reduceEq, Int.reduceLT, Int.reduceLE, Int.reduceAdd, Int.reduceSub, Int.reduceToNat, decide_true, decide_false]) (by simp only [push_cast, Nat.reduceEqDiff, Nat.reduceAdd, Nat.reduceLT, Nat.reduceLeDiff, Nat.reduceMul, Nat.reduceSub, reduceCtorEq, Int.reduceEq, Int.reduceLT, Int.reduceLE, Int.reduceAdd, Int.reduceSub, Int.reduceToNat, decide_true, decide_false]) ?_
    simp only [push_cast, Nat.reduceEqDiff, Nat.reduceAdd, Nat.reduceLT, Nat.reduceLeDiff, Nat.reduceMul, Nat.reduceSub, reduceCtorEq, Int.reduceEq, Int.reduceLT, Int.reduceLE, Int.reduceAdd, Int.reduceSub, Int.reduceToNat, decide_true, decide_false]
  simp only [push_cast, Nat.reduceEqDiff, Nat.reduceAdd, Nat.reduceLT, Nat.reduceLeDiff, Nat.reduceMul, Nat.reduceSub, reduceCtorEq, Int.reduceEq, Int.reduceLT, Int.reduceLE, Int.reduceAdd, Int.reduceSub, Int.reduceToNat, decide_true, decide_false]
  refine condK_intro (fun h2 => ?_) (fun h2 => ?_)
  · simp only [push_cast, Nat.reduceEqDiff, Nat.reduceAdd, Nat.reduceLT, Nat.reduceLeDiff, Nat.reduceMul, Nat.reduceSub, reduceCtorEq, Int.reduceEq, Int.reduceLT, Int.reduceLE, Int.reduceAdd, Int.reduceSub, Int.reduceToNat, decide_true, decide_false]
    refine callK_intro H.s4 (by simp only [push_cast, Nat.reduceEqDiff, Nat.reduceAdd, Nat.reduceLT, Nat.reduceLeDiff, Nat.reduceMul, Nat.reduceSub, reduceCtorEq, Int.reduceEq, Int.reduceLT, Int.reduceLE, Int.reduceAdd, Int.reduceSub, Int.reduceToNat, decide_true, decide_false]) (by simp only [push_cast, Nat.reduceEqDiff, Nat.reduceAdd, Nat.reduceLT, Nat.reduceLeDiff, Nat.reduceMul, Nat.reduceSub, reduceCtorEq, Int.reduceEq, Int.reduceLT, Int.reduceLE, Int.reduceAdd, Int.reduceSub, Int.reduceToNat, decide_true, decide_false]) ?_
    simp only [push_cast, Nat.reduceEqDiff, Nat.reduceAdd, Nat.reduceLT, Nat.reduceLeDiff, Nat.reduceMul, Nat.reduceSub, reduceCtorEq, Int.reduceEq, Int.reduceLT, Int.reduceLE, Int.reduceAdd, Int.reduceSub, Int.reduceToNat, decide_true, decide_false]
  have hne : l ≠ [] := fun e => by subst e; simp at h2
  have hl := len_bulks l
  obtain ⟨k, hk, hk2⟩ := and_le i 65535 (by omega)
  obtain ⟨w, hw, hw2⟩ := and_le how 7 (by omega)
  have hk' : vbits .and .i64 i 65535 = (k : Int) := hk
  have hw' : vbits .and .i64 how 7 = (w : Int) := hw
  have hpos : 0 < l.length := List.length_pos_iff.2 hne
  obtain ⟨a, x, r, rfl, ha⟩ := at_l (Nat.mod_lt k hpos)
  obtain ⟨q, t, s0, ks, as⟩ := x
  have hm : (k : Int).tmod ((a ++ Node.mk q t s0 ks as :: r).length : Int) = (a.length : Int) := by rw [ha]; exact (Int.ofNat_tmod _ _).symm
  have hE1 := encs_get a (.mk q t s0 ks as) r
  have hE2 := encs_length (a ++ Node.mk q t s0 ks as :: r)
  have hE3 : encs (a ++ Node.mk q t s0 ks as :: r) ≠ [] := fun e => by rw [e] at hE2; simp at hE2
  have hE4 := encs_set a (.mk q t s0 ks as) r
  have hal : a.length < (a ++ Node.mk q t s0 ks as :: r).length := by simp
  simp only [push_cast, Nat.reduceEqDiff, Nat.reduceAdd, Nat.reduceLT, Nat.reduceLeDiff, Nat.reduceMul, Nat.reduceSub, reduceCtorEq, Int.reduceEq, Int.reduceLT, Int.reduceLE, Int.reduceAdd, Int.reduceSub, Int.reduceToNat, decide_true, decide_false]
  refine v_app_n ?_
  rw [elemsOf_l, appN_ne hE3]
  refine ⟨by omega, ?_⟩
  rw [hE2]
  rcases (show w = 0 ∨ w = 1 ∨ w = 2 ∨ w = 3 ∨ w = 4 ∨ 5 ≤ w by omega) with rfl | rfl | rfl | rfl | rfl | hw5
  · simp only [push_cast, Nat.reduceEqDiff, Nat.reduceAdd, Nat.reduceLT, Nat.reduceLeDiff, Nat.reduceMul, Nat.reduceSub, reduceCtorEq, Int.reduceEq, Int.reduceLT, Int.reduceLE, Int.reduceAdd, Int.reduceSub, Int.reduceToNat, decide_true, decide_false, hk', hw', hm, hE1, hE2, hE4, Node.cs]
    have hne1 : a ++ Node.mk q t s0 ks as :: r ≠ a ++ (Node.mk (vbits .xor .i64 q 1) t s0 ks as) :: r := fun e => by have := (List.cons.inj (List.append_cancel_left e)).1; exact xor_ne q (Node.mk.inj this).1.symm
    have hbx : bulks (a ++ (Node.mk (vbits .xor .i64 q 1) t s0 ks as) :: r) ≤ 2 ^ 26 := by simp only [bulks_append, bulks, Node.bulk, bulkA_append, bulkA, Arg.bulk] at hb ⊢; simp; omega
    refine ⟨by omega, ?_⟩
    refine chg1 H (Node.mk (vbits .xor .i64 q 1) t s0 ks as) updU (by simp) (by simp only [List.map, view_int, view_str, view_lst, Node.cs]; exact V.leL_refl _) (by omega) hne1 ?_
    simp only [push_cast, Nat.reduceEqDiff, Nat.reduceAdd, Nat.reduceLT, Nat.reduceLeDiff, Nat.reduceMul, Nat.reduceSub, reduceCtorEq, Int.reduceEq, Int.reduceLT, Int.reduceLE, Int.reduceAdd, Int.reduceSub, Int.reduceToNat, decide_true, decide_false, hk', hw', hm, hE1, hE2, hE4, Node.cs]
    refine chg2 H (Node.mk (vbits .xor .i64 q 1) t s0 ks as) updU (by simp) (by simp only [List.map, view_int, view_str, view_lst, Node.cs]; exact V.leL_refl _) hbx hne1 ?_
    simp only [push_cast, Nat.reduceEqDiff, Nat.reduceAdd, Nat.reduceLT, Nat.reduceLeDiff, Nat.reduceMul, Nat.reduceSub, reduceCtorEq, Int.reduceEq, Int.reduceLT, Int.reduceLE, Int.reduceAdd, Int.reduceSub, Int.reduceToNat, decide_true, decide_false, hk', hw', hm, hE1, hE2, hE4, Node.cs]
    refine callK_intro H.s4 (by simp only [push_cast, Nat.reduceEqDiff, Nat.reduceAdd, Nat.reduceLT, Nat.reduceLeDiff, Nat.reduceMul, Nat.reduceSub, reduceCtorEq, Int.reduceEq, Int.reduceLT, Int.reduceLE, Int.reduceAdd, Int.reduceSub, Int.reduceToNat, decide_true, decide_false]) (by simp only [push_cast, Nat.reduceEqDiff, Nat.reduceAdd, Nat.reduceLT, Nat.reduceLeDiff, Nat.reduceMul, Nat.reduceSub, reduceCtorEq, Int.reduceEq, Int.reduceLT, Int.reduceLE, Int.reduceAdd, Int.reduceSub, Int.reduceToNat, decide_true, decide_false]) ?_
    simp only [push_cast, Nat.reduceEqDiff, Nat.reduceAdd, Nat.reduceLT, Nat.reduceLeDiff, Nat.reduceMul, Nat.reduceSub, reduceCtorEq, Int.reduceEq, Int.reduceLT, Int.reduceLE, Int.reduceAdd, Int.reduceSub, Int.reduceToNat, decide_true, decide_false]
  · simp only [push_cast, Nat.reduceEqDiff, Nat.reduceAdd, Nat.reduceLT, Nat.reduceLeDiff, Nat.reduceMul, Nat.reduceSub, reduceCtorEq, Int.reduceEq, Int.reduceLT, Int.reduceLE, Int.reduceAdd, Int.reduceSub, Int.reduceToNat, decide_true, decide_false, hk', hw', hm, hE1, hE2, hE4, Node.cs]
    have hne1 : a ++ Node.mk q t s0 ks as :: r ≠ a ++ (Node.mk q (vbits .xor .i64 t 1) s0 ks as) :: r := fun e => by have := (List.cons.inj (List.append_cancel_left e)).1; exact xor_ne t (Node.mk.inj this).2.1.symm
    have hbx : bulks (a ++ (Node.mk q (vbits .xor .i64 t 1) s0 ks as) :: r) ≤ 2 ^ 26 := by simp only [bulks_append, bulks, Node.bulk, bulkA_append, bulkA, Arg.bulk] at hb ⊢; simp; omega
    refine ⟨by omega, ?_⟩
    refine chg1 H (Node.mk q (vbits .xor .i64 t 1) s0 ks as) updU (by simp) (by simp only [List.map, view_int, view_str, view_lst, Node.cs]; exact V.leL_refl _) (by omega) hne1 ?_
    simp only [push_cast, Nat.reduceEqDiff, Nat.reduceAdd, Nat.reduceLT, Nat.reduceLeDiff, Nat.reduceMul, Nat.reduceSub, reduceCtorEq, Int.reduceEq, Int.reduceLT, Int.reduceLE, Int.reduceAdd, Int.reduceSub, Int.reduceToNat, decide_true, decide_false, hk', hw', hm, hE1, hE2, hE4, Node.cs]
    refine chg2 H (Node.mk q (vbits .xor .i64 t 1) s0 ks as) updU (by simp) (by simp only [List.map, view_int, view_str, view_lst, Node.cs]; exact V.leL_refl _) hbx hne1 ?_
    simp only [push_cast, Nat.reduceEqDiff, Nat.reduceAdd, Nat.reduceLT, Nat.reduceLeDiff, Nat.reduceMul, Nat.reduceSub, reduceCtorEq, Int.reduceEq, Int.reduceLT, Int.reduceLE, Int.reduceAdd, Int.reduceSub, Int.reduceToNat, decide_true, decide_false, hk', hw', hm, hE1, hE2, hE4, Node.cs]
    refine callK_intro H.s4 (by simp only [push_cast, Nat.reduceEqDiff, Nat.reduceAdd, Nat.reduceLT, Nat.reduceLeDiff, Nat.reduceMul, Nat.reduceSub, reduceCtorEq, Int.reduceEq, Int.reduceLT, Int.reduceLE, Int.reduceAdd, Int.reduceSub, Int.reduceToNat, decide_true, decide_false]) (by simp only [push_cast, Nat.reduceEqDiff, Nat.reduceAdd, Nat.reduceLT, Nat.reduceLeDiff, Nat.reduceMul, Nat.reduceSub, reduceCtorEq, Int.reduceEq, Int.reduceLT, Int.reduceLE, Int.reduceAdd, Int.reduceSub, Int.reduceToNat, decide_true, decide_false]) ?_
    simp only [push_cast, Nat.reduceEqDiff, Nat.reduceAdd, Nat.reduceLT, Nat.reduceLeDiff, Nat.reduceMul, Nat.reduceSub, reduceCtorEq, Int.reduceEq, Int.reduceLT, Int.reduceLE, Int.reduceAdd, Int.reduceSub, Int.reduceToNat, decide_true, decide_false]
  · simp only [push_cast, Nat.reduceEqDiff, Nat.reduceAdd, Nat.reduceLT, Nat.reduceLeDiff, Nat.reduceMul, Nat.reduceSub, reduceCtorEq, Int.reduceEq, Int.reduceLT, Int.reduceLE, Int.reduceAdd, Int.reduceSub, Int.reduceToNat, decide_true, decide_false, hk', hw', hm, hE1, hE2, hE4, Node.cs]
    have hne1 : a ++ Node.mk q t s0 ks as :: r ≠ a ++ (Node.mk q t (s0 ++ [120]) ks as) :: r := fun e => by have := (List.cons.inj (List.append_cancel_left e)).1; simp at this
    have hbx : bulks (a ++ (Node.mk q t (s0 ++ [120]) ks as) :: r) ≤ 2 ^ 26 := by simp only [bulks_append, bulks, Node.bulk, bulkA_append, bulkA, Arg.bulk] at hb ⊢; simp; omega
    refine ⟨by omega, by simp only [bulks_append, bulks, Node.bulk] at hb; omega, ?_⟩
    refine chg1 H (Node.mk q t (s0 ++ [120]) ks as) updU (by simp) (by simp only [List.map, view_int, view_str, view_lst, Node.cs]; exact V.leL_refl _) (by omega) hne1 ?_
    simp only [push_cast, Nat.reduceEqDiff, Nat.reduceAdd, Nat.reduceLT, Nat.reduceLeDiff, Nat.reduceMul, Nat.reduceSub, reduceCtorEq, Int.reduceEq, Int.reduceLT, Int.reduceLE, Int.reduceAdd, Int.reduceSub, Int.reduceToNat, decide_true, decide_false, hk', hw', hm, hE1, hE2, hE4, Node.cs]
    refine chg2 H (Node.mk q t (s0 ++ [120]) ks as) updU (by simp) (by simp only [List.map, view_int, view_str, view_lst, Node.cs]; exact V.leL_refl _) hbx hne1 ?_
    simp only [push_cast, Nat.reduceEqDiff, Nat.reduceAdd, Nat.reduceLT, Nat.reduceLeDiff, Nat.reduceMul, Nat.reduceSub, reduceCtorEq, Int.reduceEq, Int.reduceLT, Int.reduceLE, Int.reduceAdd, Int.reduceSub, Int.reduceToNat, decide_true, decide_false, hk', hw', hm, hE1, hE2, hE4, Node.cs]
    refine callK_intro H.s4 (by simp only [push_cast, Nat.reduceEqDiff, Nat.reduceAdd, Nat.reduceLT, Nat.reduceLeDiff, Nat.reduceMul, Nat.reduceSub, reduceCtorEq, Int.reduceEq, Int.reduceLT, Int.reduceLE, Int.reduceAdd, Int.reduceSub, Int.reduceToNat, decide_true, decide_false]) (by simp only [push_cast, Nat.reduceEqDiff, Nat.reduceAdd, Nat.reduceLT, Nat.reduceLeDiff, Nat.reduceMul, Nat.reduceSub, reduceCtorEq, Int.reduceEq, Int.reduceLT, Int.reduceLE, Int.reduceAdd, Int.reduceSub, Int.reduceToNat, decide_true, decide_false]) ?_
    simp only [push_cast, Nat.reduceEqDiff, Nat.reduceAdd, Nat.reduceLT, Nat.reduceLeDiff, Nat.reduceMul, Nat.reduceSub, reduceCtorEq, Int.reduceEq, Int.reduceLT, Int.reduceLE, Int.reduceAdd, Int.reduceSub, Int.reduceToNat, decide_true, decide_false]
  · simp only [push_cast, Nat.reduceEqDiff, Nat.reduceAdd, Nat.reduceLT, Nat.reduceLeDiff, Nat.reduceMul, Nat.reduceSub, reduceCtorEq, Int.reduceEq, Int.reduceLT, Int.reduceLE, Int.reduceAdd, Int.reduceSub, Int.reduceToNat, decide_true, decide_false, hk', hw', hm, hE1, hE2, hE4, Node.cs]
    have hne1 : a ++ Node.mk q t s0 ks as :: r ≠ a ++ (Node.mk q t s0 (ks ++ [.mk 0 0 [] [] []]) as) :: r := fun e => by have := (List.cons.inj (List.append_cancel_left e)).1; simp at this
    have hbx : bulks (a ++ (Node.mk q t s0 (ks ++ [.mk 0 0 [] [] []]) as) :: r) ≤ 2 ^ 26 := by simp only [bulks_append, bulks, Node.bulk, bulkA_append, bulkA, Arg.bulk] at hb ⊢; simp; omega
    refine ⟨by omega, ?_⟩
    refine v_app_n ?_
    rw [elemsOf_l]
    have hkl : ks.length ≤ 2 ^ 24 := by have := len_bulks ks; simp only [bulks_append, bulks, Node.bulk] at hb; omega
    have hT : (encs ks).take ks.length = encs ks := List.take_of_length_le (by rw [encs_length]; omega)
    by_cases hks : ks = []
    · subst hks
      simp only [push_cast, Nat.reduceEqDiff, Nat.reduceAdd, Nat.reduceLT, Nat.reduceLeDiff, Nat.reduceMul, Nat.reduceSub, reduceCtorEq, Int.reduceEq, Int.reduceLT, Int.reduceLE, Int.reduceAdd, Int.reduceSub, Int.reduceToNat, decide_true, decide_false, encs]
      refine v_app_n ?_
      rw [elemsOf_l, appN_ne (by simp)]
      simp only [push_cast, Nat.reduceEqDiff, Nat.reduceAdd, Nat.reduceLT, Nat.reduceLeDiff, Nat.reduceMul, Nat.reduceSub, reduceCtorEq, Int.reduceEq, Int.reduceLT, Int.reduceLE, Int.reduceAdd, Int.reduceSub, Int.reduceToNat, decide_true, decide_false, hk', hw', hm, hE1, hE2, hE4, Node.cs]
      refine ⟨by omega, ?_⟩
      refine chg1 H (Node.mk q t s0 ([] ++ [.mk 0 0 [] [] []]) as) updU (by simp) (by simp only [List.map, view_int, view_str, view_lst, Node.cs]; rw [view_own1 (ty := T 0) (z := 5) (es := [V.agg [.int .i64 0, .int .i64 0, .str [], .nils, .nils]]) (by simp [upd]) (by simp [encs_length])]; simp only [push_cast, Nat.reduceEqDiff, Nat.reduceAdd, Nat.reduceLT, Nat.reduceLeDiff, Nat.reduceMul, Nat.reduceSub, reduceCtorEq, Int.reduceEq, Int.reduceLT, Int.reduceLE, Int.reduceAdd, Int.reduceSub, Int.reduceToNat, decide_true, decide_false, V.leL_refl, List.nil_append]; exact zero_le) (by omega) hne1 ?_
      simp only [push_cast, Nat.reduceEqDiff, Nat.reduceAdd, Nat.reduceLT, Nat.reduceLeDiff, Nat.reduceMul, Nat.reduceSub, reduceCtorEq, Int.reduceEq, Int.reduceLT, Int.reduceLE, Int.reduceAdd, Int.reduceSub, Int.reduceToNat, decide_true, decide_false, hk', hw', hm, hE1, hE2, hE4, Node.cs]
      refine chg2 H (Node.mk q t s0 ([] ++ [.mk 0 0 [] [] []]) as) updU (by simp) (by simp only [List.map, view_int, view_str, view_lst, Node.cs]; rw [view_own1 (ty := T 0) (z := 5) (es := [V.agg [.int .i64 0, .int .i64 0, .str [], .nils, .nils]]) (by simp [upd]) (by simp [encs_length])]; simp only [push_cast, Nat.reduceEqDiff, Nat.reduceAdd, Nat.reduceLT, Nat.reduceLeDiff, Nat.reduceMul, Nat.reduceSub, reduceCtorEq, Int.reduceEq, Int.reduceLT, Int.reduceLE, Int.reduceAdd, Int.reduceSub, Int.reduceToNat, decide_true, decide_false, V.leL_refl, List.nil_append]; exact zero_le) hbx hne1 ?_
      simp only [push_cast, Nat.reduceEqDiff, Nat.reduceAdd, Nat.reduceLT, Nat.reduceLeDiff, Nat.reduceMul, Nat.reduceSub, reduceCtorEq, Int.reduceEq, Int.reduceLT, Int.reduceLE, Int.reduceAdd, Int.reduceSub, Int.reduceToNat, decide_true, decide_false, hk', hw', hm, hE1, hE2, hE4, Node.cs]
      refine callK_intro H.s4 (by simp only [push_cast, Nat.reduceEqDiff, Nat.reduceAdd, Nat.reduceLT, Nat.reduceLeDiff, Nat.reduceMul, Nat.reduceSub, reduceCtorEq, Int.reduceEq, Int.reduceLT, Int.reduceLE, Int.reduceAdd, Int.reduceSub, Int.reduceToNat, decide_true, decide_false]) (by simp only [push_cast, Nat.reduceEqDiff, Nat.reduceAdd, Nat.reduceLT, Nat.reduceLeDiff, Nat.reduceMul, Nat.reduceSub, reduceCtorEq, Int.reduceEq, Int.reduceLT, Int.reduceLE, Int.reduceAdd, Int.reduceSub, Int.reduceToNat, decide_true, decide_false]) ?_
      simp only [push_cast, Nat.reduceEqDiff, Nat.reduceAdd, Nat.reduceLT, Nat.reduceLeDiff, Nat.reduceMul, Nat.reduceSub, reduceCtorEq, Int.reduceEq, Int.reduceLT, Int.reduceLE, Int.reduceAdd, Int.reduceSub, Int.reduceToNat, decide_true, decide_false]
    · have hke : encs ks ≠ [] := fun e => hks (by have := encs_length ks; rw [e] at this; exact List.eq_nil_of_length_eq_zero this.symm)
      rw [appN_ne hke]
      refine ⟨by rw [encs_length]; omega, ?_⟩
      simp only [push_cast, Nat.reduceEqDiff, Nat.reduceAdd, Nat.reduceLT, Nat.reduceLeDiff, Nat.reduceMul, Nat.reduceSub, reduceCtorEq, Int.reduceEq, Int.reduceLT, Int.reduceLE, Int.reduceAdd, Int.reduceSub, Int.reduceToNat, decide_true, decide_false, hk', hw', hm, hE1, hE2, hE4, Node.cs, hT]
      refine ⟨by omega, ?_⟩
      refine chg1 H (Node.mk q t s0 (ks ++ [.mk 0 0 [] [] []]) as) updU (by simp) (by simp only [List.map, view_int, view_str, view_lst, Node.cs]; rw [view_own1 (ty := T 0) (z := 5) (es := encs ks ++ [V.agg [.int .i64 0, .int .i64 0, .str [], .nils, .nils]]) (by simp [upd]) (by simp [encs_length])]; simp only [push_cast, Nat.reduceEqDiff, Nat.reduceAdd, Nat.reduceLT, Nat.reduceLeDiff, Nat.reduceMul, Nat.reduceSub, reduceCtorEq, Int.reduceEq, Int.reduceLT, Int.reduceLE, Int.reduceAdd, Int.reduceSub, Int.reduceToNat, decide_true, decide_false, V.leL_refl, List.nil_append]; exact by rw [encs_append]; exact leL_append (V.leL_refl _) zero_le) (by omega) hne1 ?_
      simp only [push_cast, Nat.reduceEqDiff, Nat.reduceAdd, Nat.reduceLT, Nat.reduceLeDiff, Nat.reduceMul, Nat.reduceSub, reduceCtorEq, Int.reduceEq, Int.reduceLT, Int.reduceLE, Int.reduceAdd, Int.reduceSub, Int.reduceToNat, decide_true, decide_false, hk', hw', hm, hE1, hE2, hE4, Node.cs, hT]
      refine chg2 H (Node.mk q t s0 (ks ++ [.mk 0 0 [] [] []]) as) updU (by simp) (by simp only [List.map, view_int, view_str, view_lst, Node.cs]; rw [view_own1 (ty := T 0) (z := 5) (es := encs ks ++ [V.agg [.int .i64 0, .int .i64 0, .str [], .nils, .nils]]) (by simp [upd]) (by simp [encs_length])]; simp only [push_cast, Nat.reduceEqDiff, Nat.reduceAdd, Nat.reduceLT, Nat.reduceLeDiff, Nat.reduceMul, Nat.reduceSub, reduceCtorEq, Int.reduceEq, Int.reduceLT, Int.reduceLE, Int.reduceAdd, Int.reduceSub, Int.reduceToNat, decide_true, decide_false, V.leL_refl, List.nil_append]; exact by rw [encs_append]; exact leL_append (V.leL_refl _) zero_le) hbx hne1 ?_
      simp only [push_cast, Nat.reduceEqDiff, Nat.reduceAdd, Nat.reduceLT, Nat.reduceLeDiff, Nat.reduceMul, Nat.reduceSub, reduceCtorEq, Int.reduceEq, Int.reduceLT, Int.reduceLE, Int.reduceAdd, Int.reduceSub, Int.reduceToNat, decide_true, decide_false, hk', hw', hm, hE1, hE2, hE4, Node.cs, hT]
      refine callK_intro H.s4 (by simp only [push_cast, Nat.reduceEqDiff, Nat.reduceAdd, Nat.reduceLT, Nat.reduceLeDiff, Nat.reduceMul, Nat.reduceSub, reduceCtorEq, Int.reduceEq, Int.reduceLT, Int.reduceLE, Int.reduceAdd, Int.reduceSub, Int.reduceToNat, decide_true, decide_false]) (by simp only [push_cast, Nat.reduceEqDiff, Nat.reduceAdd, Nat.reduceLT, Nat.reduceLeDiff, Nat.reduceMul, Nat.reduceSub, reduceCtorEq, Int.reduceEq, Int.reduceLT, Int.reduceLE, Int.reduceAdd, Int.reduceSub, Int.reduceToNat, decide_true, decide_false]) ?_
      simp only [push_cast, Nat.reduceEqDiff, Nat.reduceAdd, Nat.reduceLT, Nat.reduceLeDiff, Nat.reduceMul, Nat.reduceSub, reduceCtorEq, Int.reduceEq, Int.reduceLT, Int.reduceLE, Int.reduceAdd, Int.reduceSub, Int.reduceToNat, decide_true, decide_false]
  · simp only [push_cast, Nat.reduceEqDiff, Nat.reduceAdd, Nat.reduceLT, Nat.reduceLeDiff, Nat.reduceMul, Nat.reduceSub, reduceCtorEq, Int.reduceEq, Int.reduceLT, Int.reduceLE, Int.reduceAdd, Int.reduceSub, Int.reduceToNat, decide_true, decide_false, hk', hw', hm, hE1, hE2, hE4, Node.cs]
    have hne1 : a ++ Node.mk q t s0 ks as :: r ≠ a ++ (Node.mk q t s0 ks (as ++ [.mk false [] []])) :: r := fun e => by have := (List.cons.inj (List.append_cancel_left e)).1; simp at this
    have hbx : bulks (a ++ (Node.mk q t s0 ks (as ++ [.mk false [] []])) :: r) ≤ 2 ^ 26 := by simp only [bulks_append, bulks, Node.bulk, bulkA_append, bulkA, Arg.bulk] at hb ⊢; simp; omega
    refine ⟨by omega, ?_⟩
    refine v_app_n ?_
    rw [elemsOf_l]
    have hkl : as.length ≤ 2 ^ 24 := by have := len_bulkA as; simp only [bulks_append, bulks, Node.bulk] at hb; omega
    have hT : (encA as).take as.length = encA as := List.take_of_length_le (by rw [encA_length]; omega)
    by_cases hks : as = []
    · subst hks
      simp only [push_cast, Nat.reduceEqDiff, Nat.reduceAdd, Nat.reduceLT, Nat.reduceLeDiff, Nat.reduceMul, Nat.reduceSub, reduceCtorEq, Int.reduceEq, Int.reduceLT, Int.reduceLE, Int.reduceAdd, Int.reduceSub, Int.reduceToNat, decide_true, decide_false, encA]
      refine v_app_n ?_
      rw [elemsOf_l, appN_ne (by simp)]
      simp only [push_cast, Nat.reduceEqDiff, Nat.reduceAdd, Nat.reduceLT, Nat.reduceLeDiff, Nat.reduceMul, Nat.reduceSub, reduceCtorEq, Int.reduceEq, Int.reduceLT, Int.reduceLE, Int.reduceAdd, Int.reduceSub, Int.reduceToNat, decide_true, decide_false, hk', hw', hm, hE1, hE2, hE4, Node.cs]
      refine ⟨by omega, ?_⟩
      refine chg1 H (Node.mk q t s0 ks ([] ++ [.mk false [] []])) updU (by simp) (by simp only [List.map, view_int, view_str, view_lst, Node.cs]; rw [view_own1 (ty := T 1) (z := 3) (es := [V.agg [.bool false, .nils, .nils]]) (by simp [upd]) (by simp [encA_length])]; simp only [push_cast, Nat.reduceEqDiff, Nat.reduceAdd, Nat.reduceLT, Nat.reduceLeDiff, Nat.reduceMul, Nat.reduceSub, reduceCtorEq, Int.reduceEq, Int.reduceLT, Int.reduceLE, Int.reduceAdd, Int.reduceSub, Int.reduceToNat, decide_true, decide_false, V.leL_refl, List.nil_append]; exact zeroA_le) (by omega) hne1 ?_
      simp only [push_cast, Nat.reduceEqDiff, Nat.reduceAdd, Nat.reduceLT, Nat.reduceLeDiff, Nat.reduceMul, Nat.reduceSub, reduceCtorEq, Int.reduceEq, Int.reduceLT, Int.reduceLE, Int.reduceAdd, Int.reduceSub, Int.reduceToNat, decide_true, decide_false, hk', hw', hm, hE1, hE2, hE4, Node.cs]
      refine chg2 H (Node.mk q t s0 ks ([] ++ [.mk false [] []])) updU (by simp) (by simp only [List.map, view_int, view_str, view_lst, Node.cs]; rw [view_own1 (ty := T 1) (z := 3) (es := [V.agg [.bool false, .nils, .nils]]) (by simp [upd]) (by simp [encA_length])]; simp only [push_cast, Nat.reduceEqDiff, Nat.reduceAdd, Nat.reduceLT, Nat.reduceLeDiff, Nat.reduceMul, Nat.reduceSub, reduceCtorEq, Int.reduceEq, Int.reduceLT, Int.reduceLE, Int.reduceAdd, Int.reduceSub, Int.reduceToNat, decide_true, decide_false, V.leL_refl, List.nil_append]; exact zeroA_le) hbx hne1 ?_
      simp only [push_cast, Nat.reduceEqDiff, Nat.reduceAdd, Nat.reduceLT, Nat.reduceLeDiff, Nat.reduceMul, Nat.reduceSub, reduceCtorEq, Int.reduceEq, Int.reduceLT, Int.reduceLE, Int.reduceAdd, Int.reduceSub, Int.reduceToNat, decide_true, decide_false, hk', hw', hm, hE1, hE2, hE4, Node.cs]
      refine callK_intro H.s4 (by simp only [push_cast, Nat.reduceEqDiff, Nat.reduceAdd, Nat.reduceLT, Nat.reduceLeDiff, Nat.reduceMul, Nat.reduceSub, reduceCtorEq, Int.reduceEq, Int.reduceLT, Int.reduceLE, Int.reduceAdd, Int.reduceSub, Int.reduceToNat, decide_true, decide_false]) (by simp only [push_cast, Nat.reduceEqDiff, Nat.reduceAdd, Nat.reduceLT, Nat.reduceLeDiff, Nat.reduceMul, Nat.reduceSub, reduceCtorEq, Int.reduceEq, Int.reduceLT, Int.reduceLE, Int.reduceAdd, Int.reduceSub, Int.reduceToNat, decide_true, decide_false]) ?_
      simp only [push_cast, Nat.reduceEqDiff, Nat.reduceAdd, Nat.reduceLT, Nat.reduceLeDiff, Nat.reduceMul, Nat.reduceSub, reduceCtorEq, Int.reduceEq, Int.reduceLT, Int.reduceLE, Int.reduceAdd, Int.reduceSub, Int.reduceToNat, decide_true, decide_false]
    · have hke : encA as ≠ [] := fun e => hks (by have := encA_length as; rw [e] at this; exact List.eq_nil_of_length_eq_zero this.symm)
      rw [appN_ne hke]
      refine ⟨by rw [encA_length]; omega, ?_⟩
      simp only [push_cast, Nat.reduceEqDiff, Nat.reduceAdd, Nat.reduceLT, Nat.reduceLeDiff, Nat.reduceMul, Nat.reduceSub, reduceCtorEq, Int.reduceEq, Int.reduceLT, Int.reduceLE, Int.reduceAdd, Int.reduceSub, Int.reduceToNat, decide_true, decide_false, hk', hw', hm, hE1, hE2, hE4, Node.cs, hT]
      refine ⟨by omega, ?_⟩
      refine chg1 H (Node.mk q t s0 ks (as ++ [.mk false [] []])) updU (by simp) (by simp only [List.map, view_int, view_str, view_lst, Node.cs]; rw [view_own1 (ty := T 1) (z := 3) (es := encA as ++ [V.agg [.bool false, .nils, .nils]]) (by simp [upd]) (by simp [encA_length])]; simp only [push_cast, Nat.reduceEqDiff, Nat.reduceAdd, Nat.reduceLT, Nat.reduceLeDiff, Nat.reduceMul, Nat.reduceSub, reduceCtorEq, Int.reduceEq, Int.reduceLT, Int.reduceLE, Int.reduceAdd, Int.reduceSub, Int.reduceToNat, decide_true, decide_false, V.leL_refl, List.nil_append]; exact by rw [encA_append]; exact leL_append (V.leL_refl _) zeroA_le) (by omega) hne1 ?_
      simp only [push_cast, Nat.reduceEqDiff, Nat.reduceAdd, Nat.reduceLT, Nat.reduceLeDiff, Nat.reduceMul, Nat.reduceSub, reduceCtorEq, Int.reduceEq, Int.reduceLT, Int.reduceLE, Int.reduceAdd, Int.reduceSub, Int.reduceToNat, decide_true, decide_false, hk', hw', hm, hE1, hE2, hE4, Node.cs, hT]
      refine chg2 H (Node.mk q t s0 ks (as ++ [.mk false [] []])) updU (by simp) (by simp only [List.map, view_int, view_str, view_lst, Node.cs]; rw [view_own1 (ty := T 1) (z := 3) (es := encA as ++ [V.agg [.bool false, .nils, .nils]]) (by simp [upd]) (by simp [encA_length])]; simp only [push_cast, Nat.reduceEqDiff, Nat.reduceAdd, Nat.reduceLT, Nat.reduceLeDiff, Nat.reduceMul, Nat.reduceSub, reduceCtorEq, Int.reduceEq, Int.reduceLT, Int.reduceLE, Int.reduceAdd, Int.reduceSub, Int.reduceToNat, decide_true, decide_false, V.leL_refl, List.nil_append]; exact by rw [encA_append]; exact leL_append (V.leL_refl _) zeroA_le) hbx hne1 ?_
      simp only [push_cast, Nat.reduceEqDiff, Nat.reduceAdd, Nat.reduceLT, Nat.reduceLeDiff, Nat.reduceMul, Nat.reduceSub, reduceCtorEq, Int.reduceEq, Int.reduceLT, Int.reduceLE, Int.reduceAdd, Int.reduceSub, Int.reduceToNat, decide_true, decide_false, hk', hw', hm, hE1, hE2, hE4, Node.cs, hT]
      refine callK_intro H.s4 (by simp only [push_cast, Nat.reduceEqDiff, Nat.reduceAdd, Nat.reduceLT, Nat.reduceLeDiff, Nat.reduceMul, Nat.reduceSub, reduceCtorEq, Int.reduceEq, Int.reduceLT, Int.reduceLE, Int.reduceAdd, Int.reduceSub, Int.reduceToNat, decide_true, decide_false]) (by simp only [push_cast, Nat.reduceEqDiff, Nat.reduceAdd, Nat.reduceLT, Nat.reduceLeDiff, Nat.reduceMul, Nat.reduceSub, reduceCtorEq, Int.reduceEq, Int.reduceLT, Int.reduceLE, Int.reduceAdd, Int.reduceSub, Int.reduceToNat, decide_true, decide_false]) ?_
      simp only [push_cast, Nat.reduceEqDiff, Nat.reduceAdd, Nat.reduceLT, Nat.reduceLeDiff, Nat.reduceMul, Nat.reduceSub, reduceCtorEq, Int.reduceEq, Int.reduceLT, Int.reduceLE, Int.reduceAdd, Int.reduceSub, Int.reduceToNat, decide_true, decide_false]
  · have w0 : ((w : Int) = 0) = False := by simp; omega
    have w1 : ((w : Int) = 1) = False := by simp; omega
    have w2 : ((w : Int) = 2) = False := by simp; omega
    have w3 : ((w : Int) = 3) = False := by simp; omega
    have w4 : ((w : Int) = 4) = False := by simp; omega
    have hT : (encs (a ++ Node.mk q t s0 ks as :: r)).take (a ++ Node.mk q t s0 ks as :: r).length ++ [V.agg [.int .i64 0, .int .i64 0, .str [], .nils, .nils]] = encs (a ++ Node.mk q t s0 ks as :: r) ++ V.agg [.int .i64 0, .int .i64 0, .str [], .nils, .nils] :: encs [] := by
      rw [List.take_of_length_le (by omega)]; simp only [encs]
    have hne1 : a ++ Node.mk q t s0 ks as :: r ≠ (a ++ Node.mk q t s0 ks as :: r) ++ Node.mk 0 0 [] [] [] :: [] := fun e => by have := congrArg List.length e; simp at this
    have hbx : bulks ((a ++ Node.mk q t s0 ks as :: r) ++ Node.mk 0 0 [] [] [] :: []) ≤ 2 ^ 26 := by rw [bulks_append]; simp only [bulks, bulkA, Node.bulk]; simp; omega
    have hz := zero_le
    simp only [encs, leL_cons, le_agg] at hz
    simp only [push_cast, Nat.reduceEqDiff, Nat.reduceAdd, Nat.reduceLT, Nat.reduceLeDiff, Nat.reduceMul, Nat.reduceSub, reduceCtorEq, Int.reduceEq, Int.reduceLT, Int.reduceLE, Int.reduceAdd, Int.reduceSub, Int.reduceToNat, decide_true, decide_false, hk', hw', hm, hE1, hE2, hE4, Node.cs, w0, w1, w2, w3, w4, hT]
    refine ⟨by omega, by omega, ?_⟩
    refine chg1 H (r := []) (.mk 0 0 [] [] []) updU (by simp; omega) hz.1 (by omega) hne1 ?_
    simp only [push_cast, Nat.reduceEqDiff, Nat.reduceAdd, Nat.reduceLT, Nat.reduceLeDiff, Nat.reduceMul, Nat.reduceSub, reduceCtorEq, Int.reduceEq, Int.reduceLT, Int.reduceLE, Int.reduceAdd, Int.reduceSub, Int.reduceToNat, decide_true, decide_false, hk', hw', hm, hE1, hE2, hE4, Node.cs, w0, w1, w2, w3, w4, hT]
    refine chg2 H (r := []) (.mk 0 0 [] [] []) updU (by simp; omega) hz.1 hbx hne1 ?_
    simp only [push_cast, Nat.reduceEqDiff, Nat.reduceAdd, Nat.reduceLT, Nat.reduceLeDiff, Nat.reduceMul, Nat.reduceSub, reduceCtorEq, Int.reduceEq, Int.reduceLT, Int.reduceLE, Int.reduceAdd, Int.reduceSub, Int.reduceToNat, decide_true, decide_false, hk', hw', hm, hE1, hE2, hE4, Node.cs, w0, w1, w2, w3, w4, hT]
    refine callK_intro H.s4 (by simp only [push_cast, Nat.reduceEqDiff, Nat.reduceAdd, Nat.reduceLT, Nat.reduceLeDiff, Nat.reduceMul, Nat.reduceSub, reduceCtorEq, Int.reduceEq, Int.reduceLT, Int.reduceLE, Int.reduceAdd, Int.reduceSub, Int.reduceToNat, decide_true, decide_false]) (by simp only [push_cast, Nat.reduceEqDiff, Nat.reduceAdd, Nat.reduceLT, Nat.reduceLeDiff, Nat.reduceMul, Nat.reduceSub, reduceCtorEq, Int.reduceEq, Int.reduceLT, Int.reduceLE, Int.reduceAdd, Int.reduceSub, Int.reduceToNat, decide_true, decide_false]) ?_
    simp only [push_cast, Nat.reduceEqDiff, Nat.reduceAdd, Nat.reduceLT, Nat.reduceLeDiff, Nat.reduceMul, Nat.reduceSub, reduceCtorEq, Int.reduceEq, Int.reduceLT, Int.reduceLE, Int.reduceAdd, Int.reduceSub, Int.reduceToNat, decide_true, decide_false]
end Go.Ab
