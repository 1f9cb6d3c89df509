/- The library's builder. No condition. -/
import Derived.Test.YtbipjhcnooellaaAbG1
namespace Go.Ab
set_option linter.unusedVariables false
set_option linter.unusedSimpArgs false

/-- the builder id holds the bytes bs; what else there was is as it was -/
structure Wrote (L : Heap) (nx id tb ty : Nat) (bs : List UInt8) (L' : Heap) (nx' : Nat) : Prop where
  le : nx ≤ nx'
  at_ : L' id = some (.bld tb ty bs)
  old : ∀ x, x < nx → x ≠ id → L' x = L x

theorem bytesV_take (bs : List UInt8) : (bytesV bs).take bs.length = bytesV bs := by
  rw [← bytesV_length bs, List.take_length]
theorem bytesV_append (a b : List UInt8) : bytesV (a ++ b) = bytesV a ++ bytesV b := by simp [bytesV]
theorem bytesV_nil_iff {t : List UInt8} : bytesV t = [] ↔ t = [] := by simp [bytesV]

variable {P : Program} {F T : Nat → Nat}

theorem t30 (hf : Is30 P F T) {L : Heap} {nx id : Nat} {bs : List UInt8} (hL : L id = some (.bld (T 2) (T 3) bs)) (hid : id < nx) :
    ECall P (F 30) [.ptr id 0] L nx fun _ L' nx' => Wrote L nx id (T 2) (T 3) bs L' nx' := by
  refine ecallC [] hf (by simp) ?_
  have hne : nx ≠ id := by omega
  have hne' : id ≠ nx := by omega
  simp only [c30, St.enter, w_gh, ghstep, List.getD_cons_zero, hL]
  intro a ha
  have fin : ∀ (L2 : Heap) (nx2 : Nat) (bs2 : List UInt8), nx ≤ nx2 → (∀ x, x < nx → x ≠ id → L2 x = L x) → bs2 = bs → L2 id = some (.bld (T 2) (T 3) bs2) → nx ≤ nx2 ∧ Wrote L nx id (T 2) (T 3) bs L2 nx2 := fun L2 nx2 bs2 h1 h2 h3 h4 => ⟨h1, h1, h3 ▸ h4, h2⟩
  refine ⟨fun hb => ?_, fun hb => ?_⟩
  · subst hb
    rcases ha with rfl | rfl
    all_goals
      simp only [push_cast, Nat.reduceEqDiff, Nat.reduceAdd, Nat.reduceLT, Nat.reduceLeDiff, Nat.reduceMul, Nat.reduceSub, reduceCtorEq, Int.reduceEq, Int.reduceLT, Int.reduceLE, Int.reduceAdd, Int.reduceSub, Int.reduceToNat, decide_true, decide_false, hne, hne']
      exact fin _ _ [] (by omega) (fun x hx hn => by simp [upd, hn]) rfl (by simp [upd])
  · have hpos : 0 < bs.length := List.length_pos_iff.2 hb
    rcases ha with rfl | rfl
    all_goals
      simp only [push_cast, Nat.reduceEqDiff, Nat.reduceAdd, Nat.reduceLT, Nat.reduceLeDiff, Nat.reduceMul, Nat.reduceSub, reduceCtorEq, Int.reduceEq, Int.reduceLT, Int.reduceLE, Int.reduceAdd, Int.reduceSub, Int.reduceToNat, decide_true, decide_false, hne, hne', bytesV_length, bytesV_take]
      refine ⟨hpos, bs, rfl, fin _ _ bs (by omega) (fun x hx hn => ?_) rfl (by simp [upd])⟩
      simp [upd, hn, show x ≠ nx by omega]

theorem t27 (hf : Is27 P F T) (hc : Is30 P F T) {L : Heap} {nx id : Nat} {bs t : List UInt8} (hL : L id = some (.bld (T 2) (T 3) bs)) (hid : id < nx) (hlen : bs.length + t.length ≤ 2 ^ 32) :
    ECall P (F 27) [.ptr id 0, .str t] L nx fun _ L' nx' => Wrote L nx id (T 2) (T 3) (bs ++ t) L' nx' := by
  refine ecallC [] hf (by simp) ?_
  simp only [c27, push_cast, Nat.reduceEqDiff, Nat.reduceAdd, Nat.reduceLT, Nat.reduceLeDiff, Nat.reduceMul, Nat.reduceSub, reduceCtorEq, Int.reduceEq, Int.reduceLT, Int.reduceLE, Int.reduceAdd, Int.reduceSub, Int.reduceToNat, decide_true, decide_false]
  refine ecallK_intro (t30 hc hL (by omega)) ?_
  rintro r L' nx' ⟨h1, h3, h4⟩
  have n1 : nx' + 19 + 14 ≠ id := by omega
  have n2 : id ≠ nx' + 19 + 14 := by omega
  have n3 : nx' + 19 ≠ id := by omega
  have n4 : id ≠ nx' + 19 := by omega
  have n5 : nx' + 19 + 1 + 14 ≠ id := by omega
  have n6 : id ≠ nx' + 19 + 1 + 14 := by omega
  have n7 : nx' + 19 + 1 + 14 ≠ nx' + 19 := by omega
  simp only [push_cast, Nat.reduceEqDiff, Nat.reduceAdd, Nat.reduceLT, Nat.reduceLeDiff, Nat.reduceMul, Nat.reduceSub, reduceCtorEq, Int.reduceEq, Int.reduceLT, Int.reduceLE, Int.reduceAdd, Int.reduceSub, Int.reduceToNat, decide_true, decide_false, h3]
  intro a ha
  have fin : ∀ (L2 : Heap) (nx2 : Nat) (bs2 : List UInt8), nx' ≤ nx2 → bs2 = bs ++ t → (∀ x, x < nx → x ≠ id → L2 x = L' x) → L2 id = some (.bld (T 2) (T 3) bs2) → nx ≤ nx2 ∧ Wrote L nx id (T 2) (T 3) (bs ++ t) L2 nx2 := fun L2 nx2 bs2 q1 q2 q3 q4 => by
    subst q2
    exact ⟨by omega, by omega, q4, fun x hx hn => by rw [q3 x hx hn]; exact h4 x (by omega) hn⟩
  refine ⟨fun hb => ?_, fun hb => ?_⟩
  · subst hb
    refine v_app_n ?_
    cases t with
    | nil =>
      simp only [push_cast, Nat.reduceEqDiff, Nat.reduceAdd, Nat.reduceLT, Nat.reduceLeDiff, Nat.reduceMul, Nat.reduceSub, reduceCtorEq, Int.reduceEq, Int.reduceLT, Int.reduceLE, Int.reduceAdd, Int.reduceSub, Int.reduceToNat, decide_true, decide_false]
      exact ⟨ha, fin _ _ [] (by omega) rfl (fun x hx hn => by simp [upd, hn]) (by simp [upd])⟩
    | cons c t =>
      simp only [push_cast, Nat.reduceEqDiff, Nat.reduceAdd, Nat.reduceLT, Nat.reduceLeDiff, Nat.reduceMul, Nat.reduceSub, reduceCtorEq, Int.reduceEq, Int.reduceLT, Int.reduceLE, Int.reduceAdd, Int.reduceSub, Int.reduceToNat, decide_true, decide_false, n1, n2, n3, n4]
      refine ⟨by simpa using hlen, ha, by simp, c :: t, by rw [bytesV_cons, ← bytesV_length t, List.take_length], fin _ _ (c :: t) (by omega) rfl (fun x hx hn => ?_) (by simp [upd])⟩
      simp [upd, hn, show x ≠ nx' + 19 + 14 by omega]
  · have hpos : 0 < bs.length := List.length_pos_iff.2 hb
    have e1 : (bytesV bs).take bs.length ++ bytesV t = bytesV (bs ++ t) := by rw [bytesV_take, bytesV_append]
    have e2 : bs.length + (bytesV t).length = (bs ++ t).length := by rw [bytesV_length, List.length_append]
    simp only [push_cast, Nat.reduceEqDiff, Nat.reduceAdd, Nat.reduceLT, Nat.reduceLeDiff, Nat.reduceMul, Nat.reduceSub, reduceCtorEq, Int.reduceEq, Int.reduceLT, Int.reduceLE, Int.reduceAdd, Int.reduceSub, Int.reduceToNat, decide_true, decide_false, n1, n2, n3, n4, n5, n6, n7]
    rw [e1]
    refine ⟨hlen, ha, by omega, by rw [bytesV_length, List.length_append]; exact Nat.le_refl _, bs ++ t, by rw [← List.length_append]; exact bytesV_take _, fin _ _ (bs ++ t) (by omega) rfl (fun x hx hn => ?_) (by simp [upd])⟩
    simp [upd, hn, show x ≠ nx' + 19 + 1 + 14 by omega, show x ≠ nx' + 19 by omega]

theorem t33 (hf : Is33 P F T) (hc : Is30 P F T) {L : Heap} {nx id : Nat} {bs : List UInt8} {b : UInt8} (hL : L id = some (.bld (T 2) (T 3) bs)) (hid : id < nx) (hlen : bs.length + 1 ≤ 2 ^ 32) :
    ECall P (F 33) [.ptr id 0, .int .u8 b.toNat] L nx fun _ L' nx' => Wrote L nx id (T 2) (T 3) (bs ++ [b]) L' nx' := by
  refine ecallC [] hf (by simp) ?_
  simp only [c33, push_cast, Nat.reduceEqDiff, Nat.reduceAdd, Nat.reduceLT, Nat.reduceLeDiff, Nat.reduceMul, Nat.reduceSub, reduceCtorEq, Int.reduceEq, Int.reduceLT, Int.reduceLE, Int.reduceAdd, Int.reduceSub, Int.reduceToNat, decide_true, decide_false]
  refine ecallK_intro (t30 hc hL (by omega)) ?_
  rintro r L' nx' ⟨h1, h3, h4⟩
  have n1 : nx' + 17 + 14 ≠ id := by omega
  have n2 : id ≠ nx' + 17 + 14 := by omega
  have n3 : nx' + 17 ≠ id := by omega
  have n4 : id ≠ nx' + 17 := by omega
  have n5 : nx' + 17 + 1 + 14 ≠ id := by omega
  have n6 : id ≠ nx' + 17 + 1 + 14 := by omega
  have n7 : nx' + 17 + 1 + 14 ≠ nx' + 17 := by omega
  simp only [push_cast, Nat.reduceEqDiff, Nat.reduceAdd, Nat.reduceLT, Nat.reduceLeDiff, Nat.reduceMul, Nat.reduceSub, reduceCtorEq, Int.reduceEq, Int.reduceLT, Int.reduceLE, Int.reduceAdd, Int.reduceSub, Int.reduceToNat, decide_true, decide_false, h3]
  intro a ha
  have fin : ∀ (L2 : Heap) (nx2 : Nat) (bs2 : List UInt8), nx' ≤ nx2 → bs2 = bs ++ [b] → (∀ x, x < nx → x ≠ id → L2 x = L' x) → L2 id = some (.bld (T 2) (T 3) bs2) → nx ≤ nx2 ∧ Wrote L nx id (T 2) (T 3) (bs ++ [b]) L2 nx2 := fun L2 nx2 bs2 q1 q2 q3 q4 => by
    subst q2
    exact ⟨by omega, by omega, q4, fun x hx hn => by rw [q3 x hx hn]; exact h4 x (by omega) hn⟩
  refine ⟨fun hb => ?_, fun hb => ?_⟩
  · subst hb
    refine v_app_n ?_
    simp only [push_cast, Nat.reduceEqDiff, Nat.reduceAdd, Nat.reduceLT, Nat.reduceLeDiff, Nat.reduceMul, Nat.reduceSub, reduceCtorEq, Int.reduceEq, Int.reduceLT, Int.reduceLE, Int.reduceAdd, Int.reduceSub, Int.reduceToNat, decide_true, decide_false, n1, n2, n3, n4]
    refine ⟨by simp, ha, [b], rfl, fin _ _ [b] (by omega) rfl (fun x hx hn => ?_) (by simp [upd])⟩
    simp [upd, hn, show x ≠ nx' + 17 + 14 by omega]
  · have e1 : (bytesV bs).take bs.length ++ [V.int .u8 b.toNat] = bytesV (bs ++ [b]) := by rw [bytesV_take, bytesV_append]; rfl
    have e2 : bs.length + 1 = (bs ++ [b]).length := by simp
    simp only [push_cast, Nat.reduceEqDiff, Nat.reduceAdd, Nat.reduceLT, Nat.reduceLeDiff, Nat.reduceMul, Nat.reduceSub, reduceCtorEq, Int.reduceEq, Int.reduceLT, Int.reduceLE, Int.reduceAdd, Int.reduceSub, Int.reduceToNat, decide_true, decide_false, n1, n2, n3, n4, n5, n6, n7]
    rw [e1]
    refine ⟨hlen, ha, by omega, by rw [bytesV_length]; simp, bs ++ [b], by rw [e2]; exact bytesV_take _, fin _ _ (bs ++ [b]) (by omega) rfl (fun x hx hn => ?_) (by simp [upd])⟩
    simp [upd, hn, show x ≠ nx' + 17 + 1 + 14 by omega, show x ≠ nx' + 17 by omega]

theorem t23 (hf : Is23 P F T) {L : Heap} {nx id : Nat} {bs : List UInt8} (hL : L id = some (.bld (T 2) (T 3) bs)) (hid : id < nx) :
    ECall P (F 23) [.ptr id 0] L nx fun r L' nx' => r = .str bs ∧ nx ≤ nx' ∧ ∀ x, x < nx → x ≠ id → L' x = L x := by
  refine ecallC [] hf (by simp) ?_
  have n1 : nx + 14 ≠ id := by omega
  have n2 : id ≠ nx + 14 := by omega
  simp only [c23, push_cast, Nat.reduceEqDiff, Nat.reduceAdd, Nat.reduceLT, Nat.reduceLeDiff, Nat.reduceMul, Nat.reduceSub, reduceCtorEq, Int.reduceEq, Int.reduceLT, Int.reduceLE, Int.reduceAdd, Int.reduceSub, Int.reduceToNat, decide_true, decide_false, hL]
  intro a ha
  refine ⟨fun hb => ?_, fun hb => ?_⟩
  · subst hb
    simp only [push_cast, Nat.reduceEqDiff, Nat.reduceAdd, Nat.reduceLT, Nat.reduceLeDiff, Nat.reduceMul, Nat.reduceSub, reduceCtorEq, Int.reduceEq, Int.reduceLT, Int.reduceLE, Int.reduceAdd, Int.reduceSub, Int.reduceToNat, decide_true, decide_false, n1, n2]
    exact ⟨by omega, by omega, fun x _ hn => by simp [upd, hn]⟩
  · have hpos : 0 < bs.length := List.length_pos_iff.2 hb
    simp only [push_cast, Nat.reduceEqDiff, Nat.reduceAdd, Nat.reduceLT, Nat.reduceLeDiff, Nat.reduceMul, Nat.reduceSub, reduceCtorEq, Int.reduceEq, Int.reduceLT, Int.reduceLE, Int.reduceAdd, Int.reduceSub, Int.reduceToNat, decide_true, decide_false, n1, n2, bytesV_length]
    refine ⟨hpos, by omega, bs, bytesV_take bs, by omega, rfl, by omega, fun x hx hn => ?_⟩
    simp [upd, hn, show x ≠ nx + 14 by omega]
end Go.Ab
