/- Whatever order a region draws: it comes to what the text's order comes to. No condition. -/
import Derived.Test.YtbipjhcnooellaaAbR
import Derived.Orders
namespace Go.Ab
open Go.RowKit
set_option linter.unusedVariables false
set_option linter.unusedSimpArgs false

theorem push_getD_lt (acc : Array Nat) (v : Nat) {i : Nat} (h : i < acc.size) : (acc.push v).getD i 0 = acc.getD i 0 := by
  simp [Array.getD_eq_getD_getElem?, Array.getElem?_push, Nat.ne_of_lt h]
theorem push_getD_eq (acc : Array Nat) (v : Nat) {i : Nat} (h : i = acc.size) : (acc.push v).getD i 0 = v := by
  subst h
  simp [Array.getD_eq_getD_getElem?]

theorem before_closed {ops : Array Oper} {S : Nat → Prop} (hS : ∀ k o, S k → ops[k]? = some o → ∀ e, e ∈ o.after → Region.binds .any e = true → S e.on)
    {i : Nat} {o : Oper} (hi : ops[i]? = some o) (hd : ∀ e, e ∈ o.after → Region.binds .any e = true → S e.on) {j : Nat} (hj : ancOf ops j i = true) : S j := by
  have key : (fun (n : Nat) (acc : Array Nat) => acc.size = n ∧ ∀ i o, i < n → ops[i]? = some o → (∀ e, e ∈ o.after → Region.binds .any e = true → S e.on) → ∀ j, (acc.getD i 0).testBit j = true → S j)
      ops.size (Region.before ops) := by
    unfold Region.before
    refine Array.foldl_induction (motive := fun (n : Nat) (acc : Array Nat) => acc.size = n ∧ ∀ i o, i < n → ops[i]? = some o → (∀ e, e ∈ o.after → Region.binds .any e = true → S e.on) → ∀ j, (acc.getD i 0).testBit j = true → S j) ?_ ?_
    · exact ⟨rfl, fun i o h => absurd h (Nat.not_lt_zero _)⟩
    · rintro ⟨n, hn⟩ acc ⟨hsz, hacc⟩
      simp only at hsz hacc ⊢
      refine ⟨by simp [hsz], fun i o hi ho hd j hj => ?_⟩
      rcases Nat.lt_or_ge i n with h | h
      · have e1 : i < acc.size := by omega
        rw [push_getD_lt _ _ e1] at hj
        exact hacc i o h ho hd j hj
      · obtain rfl : i = n := by omega
        rw [push_getD_eq _ _ hsz.symm] at hj
        have ho' : ops[i] = o := by
          rw [Array.getElem?_eq_getElem hn] at ho
          exact Option.some.inj ho
        have hj : (Array.foldl (fun s e => if Region.binds Region.Mode.any e = true then s ||| 2 ^ e.on ||| acc.getD e.on 0 else s) 0 ops[i].after).testBit j = true := hj
        rw [ho', ← Array.foldl_toList] at hj
        have hd' : ∀ e, e ∈ o.after.toList → Region.binds .any e = true → S e.on := fun e he => hd e (Array.mem_toList_iff.1 he)
        have fold : ∀ (l : List Edge) (s0 : Nat), (∀ e, e ∈ l → Region.binds .any e = true → S e.on) → (l.foldl (fun s e => if Region.binds Region.Mode.any e = true then s ||| 2 ^ e.on ||| acc.getD e.on 0 else s) s0).testBit j = true → s0.testBit j = true ∨ S j := by
          intro l
          induction l with
          | nil => intro s0 _ h; exact .inl h
          | cons e r ih =>
            intro s0 hl h
            rw [List.foldl_cons] at h
            rcases ih _ (fun e he => hl e (by simp [he])) h with h | h
            · by_cases hb : Region.binds Region.Mode.any e = true
              · rw [if_pos hb] at h
                simp only [Nat.testBit_or, Bool.or_eq_true] at h
                have hse := hl e (by simp) hb
                rcases h with (h | h) | h
                · exact .inl h
                · rw [Nat.testBit_two_pow] at h
                  have : e.on = j := by simpa using h
                  exact .inr (this ▸ hse)
                · rcases Nat.lt_or_ge e.on i with hlt | hge
                  · have hlt' : e.on < ops.size := by omega
                    exact .inr (hacc e.on ops[e.on] hlt (Array.getElem?_eq_getElem hlt') (hS e.on _ hse (Array.getElem?_eq_getElem hlt')) j h)
                  · have : acc.getD e.on 0 = 0 := by simp [Array.getD_eq_getD_getElem?, Array.getElem?_eq_none (show acc.size ≤ e.on by omega)]
                    rw [this] at h
                    simp at h
              · rw [if_neg hb] at h
                exact .inl h
            · exact .inr h
        rcases fold _ 0 hd' hj with h | h
        · simp at h
        · exact h
  exact key.2 i o (Array.getElem?_eq_some_iff.1 hi).1 hi hd j hj

theorem agree_refl (i : I) (s : St) : Agree i s s := ⟨fun _ _ => rfl, fun _ => rfl, .inr (.inr (.inr rfl))⟩

theorem nodup_mks_perm {l r : List GI} (h : l.Perm r) (hn : (mks l).Nodup) : (mks r).Nodup := (h.filterMap _).nodup_iff.1 hn

/-- the places that are not listed yet -/
def remOf (ops : Array Oper) (listed : Array Bool) : List Nat := (List.range ops.size).filter fun i => !listed.getD i true

theorem getD_true_false {l : Array Bool} {i : Nat} (h : i < l.size) : l.getD i true = l.getD i false := by simp [h]

theorem filter_split {p q : Nat → Bool} {i : Nat} : ∀ (l : List Nat), l.Pairwise (· < ·) → i ∈ l → p i = true → (∀ j, j ≠ i → q j = p j) → q i = false →
    ∃ a b, l.filter p = a ++ i :: b ∧ l.filter q = a ++ b ∧ (∀ j, j ∈ a → j < i)
  | [], _, h, _, _, _ => by simp at h
  | x :: r, hp, h, hpi, hq, hqi => by
    by_cases e : x = i
    · subst e
      have hr : ∀ j, j ∈ r → j ≠ x := fun j hj => Nat.ne_of_gt (List.rel_of_pairwise_cons hp hj)
      refine ⟨[], r.filter p, by simp [List.filter_cons, hpi], ?_, by simp⟩
      simp only [List.filter_cons, hqi, Bool.false_eq_true, if_false, List.nil_append]
      exact List.filter_congr fun j hj => by rw [hq j (hr j hj)]
    · have hi : i ∈ r := by
        rcases List.mem_cons.1 h with h | h
        · exact absurd h.symm e
        · exact h
      obtain ⟨a, b, h1, h2, h3⟩ := filter_split r (List.Pairwise.of_cons hp) hi hpi hq hqi
      by_cases hx : p x = true
      · refine ⟨x :: a, b, by simp [List.filter_cons, hx, h1], by simp [List.filter_cons, hq x e, hx, h2], fun j hj => ?_⟩
        rcases List.mem_cons.1 hj with rfl | hj
        · exact List.rel_of_pairwise_cons hp hi
        · exact h3 j hj
      · refine ⟨a, b, by simp [List.filter_cons, hx, h1], by simp [List.filter_cons, hq x e, hx, h2], h3⟩

section
variable {P : Program} {ops : Array Oper} {l : List GI} {K : St → Prop}

/-- the operations at some places -/
def at_ (l : List GI) (is : List Nat) : List GI := is.map fun i => l.getD i default

end
end Go.Ab
