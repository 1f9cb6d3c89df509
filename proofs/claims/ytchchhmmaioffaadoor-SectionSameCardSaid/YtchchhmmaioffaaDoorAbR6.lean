/- Several texts of one kind, merged. No condition. -/
import Derived.Test.YtchchhmmaioffaaDoorAbP4
/- The plain parser at a text between a tag and its end. No condition. -/
namespace Go.Ab
set_option linter.unusedVariables false
set_option linter.unusedSimpArgs false

def No60 (s : List UInt8) : Prop := ∀ x, x ∈ s → x ≠ 60
theorem runL_app {c : UInt8} (hc : c ≠ 60) (z : List UInt8) : ∀ u : List UInt8, runL c (u ++ 60 :: z) = runL c u
  | [] => by simp [runL, Ne.symm hc]
  | x :: r => by simp only [List.cons_append, runL]; rw [runL_app hc z r]
theorem firstF_app {u z : List UInt8} (h : No60 u) (hne : u ≠ []) : firstF (u ++ 60 :: z) = firstF u ∧ (firstF u).1 < 9 := by
  cases u with
  | nil => exact absurd rfl hne
  | cons c r =>
    have hc : c ≠ 60 := h c (by simp)
    have e : ∀ d : UInt8, d ≠ 60 → runL d (c :: (r ++ 60 :: z)) = runL d (c :: r) := fun d hd => runL_app hd z (c :: r)
    simp only [List.cons_append, firstF, hc, if_false, e 123 (by decide), e 125 (by decide), e 91 (by decide), e 93 (by decide), true_and]
    have b : ∀ (p : Prop) [Decidable p] (x y : Nat × Nat), x.1 < 9 → y.1 < 9 → (if p then x else y).1 < 9 := fun p _ x y h1 h2 => by split <;> assumption
    exact b _ _ _ (b _ _ _ (by simp) (by simp)) (b _ _ _ (b _ _ _ (by simp) (by simp)) (b _ _ _ (b _ _ _ (by simp) (by simp)) (b _ _ _ (b _ _ _ (by simp) (by simp)) (b _ _ _ (by simp) (b _ _ _ (by simp) (b _ _ _ (by simp) (by simp)))))))
def Tok.sh (a : Nat) (t : Tok) : Tok := ⟨t.kind, a + t.fr, a + t.to⟩
theorem text_sh {A s z : List UInt8} {t : Tok} (h : t.to ≤ s.length) : Tok.text (A ++ s ++ z) (t.sh A.length) = Tok.text s t := by
  simp only [Tok.text, Tok.sh, List.append_assoc]
  rw [List.take_append, List.drop_append]
  have e1 : A.length + t.to - A.length = t.to := by omega
  have e2 : (A.take (A.length + t.to)) = A := List.take_of_length_le (by omega)
  rw [e1, e2]
  have e3 : A.drop (A.length + t.fr) = [] := List.drop_eq_nil_of_le (by omega)
  have e4 : A.length + t.fr - A.length = t.fr := by omega
  rw [e3, e4, List.take_append_of_le_length h]
  rfl
theorem takeF_text {s s' : List UInt8} {t t' : Tok} (hk : t.kind = t'.kind) (ht : t.text s = t'.text s') (st : List El) : takeF s t st = takeF s' t' st := by
  simp only [takeF, Tok.tag, hk, ht]
theorem runF_cons {s : List UInt8} {t : Tok} {r : List Tok} {st : List El} : runF s (t :: r) st = runF s r (takeF s t st) := rfl
theorem runF_app {s : List UInt8} {a b : List Tok} {st : List El} : runF s (a ++ b) st = runF s b (runF s a st) := by simp [runF, List.foldl_append]
theorem runF_sh {A s z : List UInt8} : ∀ (l : List Tok) (st : List El), (∀ t, t ∈ l → t.to ≤ s.length) → runF (A ++ s ++ z) (l.map (Tok.sh A.length)) st = runF s l st
  | [], st, _ => rfl
  | t :: r, st, h => by
    rw [List.map_cons, runF_cons, runF_cons, runF_sh r _ fun x hx => h x (by simp [hx])]
    rw [takeF_text (s := A ++ s ++ z) (s' := s) (t := t.sh A.length) (t' := t) rfl (text_sh (h t (by simp)))]
theorem drop_mid {A s z : List UInt8} {i : Nat} (h : i ≤ s.length) : (A ++ s ++ z).drop (A.length + i) = s.drop i ++ z := by
  rw [List.append_assoc, ← List.drop_drop, List.drop_left, List.drop_append_of_le_length h]
theorem scanF_mid {A s z : List UInt8} (hs : No60 s) {q : Nat} (hq : 1 ≤ q) (hz : firstF (60 :: z) = (q, (60 :: z).length)) : ∀ (n m t i : Nat), t ≤ i → i ≤ s.length → s.length < n + i →
    scanF (A ++ s ++ 60 :: z) (n + m) (A.length + t) (A.length + i) = (scanF s n t i).map (Tok.sh A.length) ++ [⟨q, A.length + s.length, (A ++ s ++ 60 :: z).length⟩]
  | 0, m, t, i, h1, h2, h3 => by omega
  | n + 1, m, t, i, h1, h2, h3 => by
    have hlen : (A ++ s ++ 60 :: z).length = A.length + s.length + (60 :: z).length := by simp [Nat.add_assoc]
    have hpz : 0 < (60 :: z).length := by simp
    have en : n + 1 + m = (n + m) + 1 := by omega
    rw [en, scanF, if_pos (by omega), drop_mid h2]
    by_cases hi : i < s.length
    · have hn : No60 (s.drop i) := fun x hx => hs x (List.mem_of_mem_drop hx)
      have hne : s.drop i ≠ [] := by intro e; have := congrArg List.length e; simp at this; omega
      rw [(firstF_app hn hne).1, scanF, if_pos hi]
      split
      · rename_i h0
        exact scanF_mid (A := A) hs hq hz n m t (i + 1) (by omega) (by omega) (by omega)
      · rename_i h0
        have fs := firstF_fst h0
        have hle := fs.le
        have hpos := fs.pos
        rw [List.length_drop] at hle
        have ih := scanF_mid (A := A) hs hq hz n m (i + (firstF (s.drop i)).2) (i + (firstF (s.drop i)).2) (Nat.le_refl _) (by omega) (by omega)
        rw [Nat.add_assoc, ih]
        simp only [List.map_append, List.map_cons, List.append_assoc, List.cons_append]
        congr 1
        by_cases ht : t < i
        · rw [if_pos (by omega), if_pos ht]; rfl
        · rw [if_neg (by omega), if_neg ht]; rfl
    · have he : i = s.length := by omega
      subst he
      have e0 : s.drop s.length ++ 60 :: z = 60 :: z := by simp
      rw [e0, hz, if_neg (by simp; omega), scanF, if_neg hi]
      have ee : A.length + s.length + (60 :: z).length = (A ++ s ++ 60 :: z).length := hlen.symm
      simp only [ee]
      have hend : ∀ k, scanF (A ++ s ++ 60 :: z) k (A ++ s ++ 60 :: z).length (A ++ s ++ 60 :: z).length = [] := by
        intro k
        cases k with
        | zero => rfl
        | succ k => rw [scanF, if_neg (by omega), if_neg (by omega)]
      rw [hend]
      by_cases ht : t < s.length
      · rw [if_pos (by omega), if_pos ht]; rfl
      · rw [if_neg (by omega), if_neg ht]; rfl
theorem tagO_eq {k : Nat} (h1 : 1 ≤ k) (h2 : k ≤ 3) (y : List UInt8) : firstF (tagO k ++ y) = (11, (tagO k).length) := by
  obtain rfl | rfl | rfl : k = 1 ∨ k = 2 ∨ k = 3 := by omega
  all_goals simp [firstF, angleF, tagTok, tagAt, tagO, tagName, nowikiO]
theorem tagC_eq {k : Nat} (h1 : 1 ≤ k) (h2 : k ≤ 3) : firstF (tagC k) = (12, (tagC k).length) := by
  obtain rfl | rfl | rfl : k = 1 ∨ k = 2 ∨ k = 3 := by omega
  all_goals simp [firstF, angleF, tagTok, tagAt, tagO, tagC, tagName, nowikiO]
theorem scan_tag {s : List UInt8} (hs : No60 s) {k : Nat} (h1 : 1 ≤ k) (h2 : k ≤ 3) :
    scan (tagO k ++ s ++ tagC k) = ⟨11, 0, (tagO k).length⟩ :: ((scan s).map (Tok.sh (tagO k).length) ++ [⟨12, (tagO k).length + s.length, (tagO k ++ s ++ tagC k).length⟩]) := by
  obtain ⟨z, hz⟩ : ∃ z, tagC k = 60 :: z := ⟨_, rfl⟩
  have hO : 0 < (tagO k).length := by simp [tagO]
  have hl : (tagO k ++ s ++ tagC k).length = (tagO k).length + s.length + (tagC k).length := by simp [Nat.add_assoc]
  rw [scan, scanF, if_pos (by omega)]
  have e0 : (tagO k ++ s ++ tagC k).drop 0 = tagO k ++ (s ++ tagC k) := by simp
  rw [e0, tagO_eq h1 h2]
  simp only [Nat.zero_add, Nat.lt_irrefl, if_false, List.nil_append]
  rw [if_neg (by decide)]
  congr 1
  have hc := tagC_eq h1 h2
  rw [hz] at hc ⊢
  have := scanF_mid (A := tagO k) hs (q := 12) (by omega) hc (s.length + 1) ((tagO k ++ s ++ 60 :: z).length - (s.length + 1)) 0 0 (Nat.le_refl _) (Nat.zero_le _) (by omega)
  have e1 : s.length + 1 + ((tagO k ++ s ++ 60 :: z).length - (s.length + 1)) = (tagO k ++ s ++ 60 :: z).length := by
    have : (tagO k ++ s ++ 60 :: z).length = (tagO k).length + s.length + (60 :: z).length := by simp [Nat.add_assoc]
    have : 0 < (60 :: z).length := by simp
    omega
  rw [e1] at this
  simpa [scan] using this
end Go.Ab
/- The plain parser between a tag and its end: the stack with the bottom turned into the tag's element. No condition. -/
namespace Go.Ab
set_option linter.unusedVariables false
set_option linter.unusedSimpArgs false

def bot (k : Nat) (e : El) : El := { e with kind := 2, tag := k }
def emb (k : Nat) : List El → List El
  | [] => []
  | [e] => [bot k e, root]
  | e :: b :: r => e :: emb k (b :: r)
def Bt : List El → Prop
  | [] => False
  | [e] => e.kind = 0 ∧ e.count = 0 ∧ e.args = []
  | e :: b :: r => (e.kind = 1 ∨ e.kind = 3) ∧ Bt (b :: r)
theorem Bt.ne {st : List El} (h : Bt st) : st ≠ [] := by rintro rfl; exact h
theorem Bt.cons {e : El} {r : List El} (hk : e.kind = 1 ∨ e.kind = 3) (h : Bt r) : Bt (e :: r) := by
  cases r with
  | nil => exact h.elim
  | cons b r => exact ⟨hk, h⟩
theorem Bt.tail {e : El} {r : List El} (h : Bt (e :: r)) (hr : r ≠ []) : (e.kind = 1 ∨ e.kind = 3) ∧ Bt r := by
  cases r with
  | nil => exact absurd rfl hr
  | cons b r => exact h
theorem emb_cons {k : Nat} {e : El} {r : List El} (hr : r ≠ []) : emb k (e :: r) = e :: emb k r := by
  cases r with
  | nil => exact absurd rfl hr
  | cons b r => rfl
theorem emb_length (k : Nat) : ∀ {st : List El}, st ≠ [] → (emb k st).length = st.length + 1
  | [], h => absurd rfl h
  | [_], _ => rfl
  | e :: b :: r, _ => by simp [emb, emb_length k (st := b :: r) (by simp)]
theorem emb_ne {k : Nat} {st : List El} (h : st ≠ []) : emb k st ≠ [] := by
  intro e
  have := emb_length k h
  rw [e] at this
  simp at this
theorem bot_add {k : Nat} {e : El} (h : e.kind = 0) (n : Node) : bot k (e.add n) = (bot k e).add n := by
  have h1 : ¬ (e.kind = 3 ∧ e.args ≠ []) := fun x => by omega
  have h2 : ¬ ((bot k e).kind = 3 ∧ (bot k e).args ≠ []) := fun x => by simp [bot] at x
  unfold El.add
  rw [if_neg h1, if_neg h2]
  rfl
theorem Bt.add {st : List El} (h : Bt st) (n : Node) : Bt (addS n st) := by
  match st, h with
  | [e], h =>
    have h1 : ¬ (e.kind = 3 ∧ e.args ≠ []) := fun x => by have := h.1; omega
    simp only [addS, El.add, if_neg h1]
    exact h
  | e :: b :: r, h =>
    simp only [addS]
    refine ⟨?_, h.2⟩
    unfold El.add
    split <;> exact h.1
theorem emb_add {k : Nat} {st : List El} (h : Bt st) (n : Node) : emb k (addS n st) = addS n (emb k st) := by
  match st, h with
  | [e], h => simp only [addS, emb, bot_add h.1]
  | e :: b :: r, h => simp only [addS, emb]
theorem emb_adds {k : Nat} (l : List Node) : ∀ {st : List El}, Bt st → Bt (addsS l st) ∧ emb k (addsS l st) = addsS l (emb k st) := by
  induction l with
  | nil => intro st h; exact ⟨h, rfl⟩
  | cons n r ih =>
    intro st h
    rw [addsS_cons, addsS_cons, ← emb_add h]
    exact ih (h.add n)
theorem emb_flat1 {k : Nat} {e : El} {r : List El} (h : Bt (e :: r)) (hr : r ≠ []) : Bt (flat1 (e :: r)) ∧ emb k (flat1 (e :: r)) = flat1 (emb k (e :: r)) := by
  rw [emb_cons hr]
  exact emb_adds e.pieces (h.tail hr).2
theorem emb_flatN {k : Nat} : ∀ (n : Nat) {st : List El}, Bt st → n < st.length → Bt (flatN n st) ∧ emb k (flatN n st) = flatN n (emb k st)
  | 0, st, h, _ => ⟨h, rfl⟩
  | n + 1, st, h, hn => by
    cases st with
    | nil => simp at hn
    | cons e r =>
      simp only [List.length_cons] at hn
      have hr : r ≠ [] := by rintro rfl; simp at hn
      obtain ⟨h1, h2⟩ := emb_flat1 (k := k) h hr
      obtain ⟨h3, h4⟩ := emb_flatN n h1 (by rw [flat1_length]; simp; omega)
      exact ⟨h3, by rw [flatN, h4, h2]; rfl⟩
theorem emb_open {k : Nat} {st : List El} (h : Bt st) (hl : st.length ≤ 19) {e : El} (hk : e.kind = 1 ∨ e.kind = 3) (s : List UInt8) : Bt (openF e s st) ∧ emb k (openF e s st) = openF e s (emb k st) := by
  have h1 : ¬ 20 < st.length := by omega
  have h2 : ¬ 20 < (emb k st).length := by rw [emb_length k h.ne]; omega
  simp only [openF, if_neg h1, if_neg h2, emb_cons h.ne, and_true]
  exact Bt.cons hk h
theorem emb_bar {k : Nat} {st : List El} (h : Bt st) : Bt (barF st) ∧ emb k (barF st) = barF (emb k st) := by
  match st, h with
  | [e], h =>
    have h1 : ¬ e.kind = 3 := by have := h.1; omega
    have h2 : ¬ (bot k e).kind = 3 := by simp [bot]
    simp only [barF, if_neg h1, emb, if_neg h2]
    exact ⟨Bt.add (st := [e]) h _, emb_add (st := [e]) h _⟩
  | e :: b :: r, h =>
    simp only [barF, emb]
    split
    · exact ⟨⟨h.1, h.2⟩, rfl⟩
    · exact ⟨Bt.add (st := e :: b :: r) h _, emb_add (st := e :: b :: r) h _⟩
theorem emb_eq {k : Nat} {st : List El} (h : Bt st) : Bt (eqF st) ∧ emb k (eqF st) = eqF (emb k st) := by
  match st, h with
  | [e], h =>
    have h1 : ¬ (e.kind = 3 ∧ lastNamed e.args = false) := fun x => by have := h.1; omega
    have h2 : ¬ ((bot k e).kind = 3 ∧ lastNamed (bot k e).args = false) := fun x => by simp [bot] at x
    simp only [eqF, if_neg h1, emb, if_neg h2]
    exact ⟨Bt.add (st := [e]) h _, emb_add (st := [e]) h _⟩
  | e :: b :: r, h =>
    simp only [eqF, emb]
    split
    · exact ⟨⟨h.1, h.2⟩, rfl⟩
    · exact ⟨Bt.add (st := e :: b :: r) h _, emb_add (st := e :: b :: r) h _⟩
theorem emb_link {k : Nat} {st : List El} (h : Bt st) : Bt (linkF st) ∧ emb k (linkF st) = linkF (emb k st) := by
  match st, h with
  | [e], h =>
    have h1 : ¬ e.kind = 1 := by have := h.1; omega
    have h2 : ¬ (bot k e).kind = 1 := by simp [bot]
    simp only [linkF, if_neg h1, emb, if_neg h2]
    exact ⟨Bt.add (st := [e]) h _, emb_add (st := [e]) h _⟩
  | e :: b :: r, h =>
    simp only [linkF, emb]
    split
    · exact emb_adds _ h.2
    · exact ⟨Bt.add (st := e :: b :: r) h _, emb_add (st := e :: b :: r) h _⟩
theorem braceIdx_cons {e : El} {w : List El} (hw : w ≠ []) : braceIdx (e :: w) = if e.kind = 2 then none else if e.kind = 3 then some 0 else (braceIdx w).map (· + 1) := by
  cases w with
  | nil => exact absurd rfl hw
  | cons b r => rfl
theorem tagIdx_cons {t : Nat} {e : El} {w : List El} (hw : w ≠ []) : tagIdx t (e :: w) = if e.kind = 2 ∧ e.tag = t then some 0 else (tagIdx t w).map (· + 1) := by
  cases w with
  | nil => exact absurd rfl hw
  | cons b r => rfl
theorem emb_brace {k : Nat} : ∀ {st : List El}, Bt st → braceIdx (emb k st) = braceIdx st
  | [], h => h.elim
  | [e], h => by simp [emb, braceIdx, bot]
  | e :: b :: r, h => by
    have ih := emb_brace (k := k) (st := b :: r) h.2
    have h2 : ¬ e.kind = 2 := by have := h.1; omega
    rw [emb_cons (by simp), braceIdx_cons (emb_ne (by simp)), braceIdx_cons (by simp), ih]
theorem emb_close {k : Nat} : ∀ (n c : Nat) {st : List El}, Bt st → Bt (closeF n c st) ∧ emb k (closeF n c st) = closeF n c (emb k st)
  | 0, c, st, h => ⟨h.add _, emb_add h _⟩
  | n + 1, c, st, h => by
    have stop : Bt (addS (tx (List.replicate c 125)) st) ∧ emb k (addS (tx (List.replicate c 125)) st) = addS (tx (List.replicate c 125)) (emb k st) := ⟨h.add _, emb_add h _⟩
    rw [closeF, closeF]
    by_cases h2 : 2 ≤ c
    · rw [if_pos h2, if_pos h2, emb_brace h]
      cases hb : braceIdx st with
      | none => exact stop
      | some j =>
        have hj := braceIdx_lt hb
        obtain ⟨b1, b2⟩ := emb_flatN (k := k) j h (by omega)
        have hl := flatN_length j (els := st)
        cases hf : flatN j st with
        | nil => rw [hf] at hl; simp at hl; omega
        | cons e r =>
          rw [hf] at b1 b2 hl
          have hr : r ≠ [] := by rintro rfl; simp at hl; omega
          rw [emb_cons hr] at b2
          simp only [hf, ← b2]
          obtain ⟨hk, hB⟩ := b1.tail hr
          split
          · have hB2 : Bt ({ e with count := e.count - useK c e.count, list := [useN c e], args := [] } :: r) := Bt.cons hk hB
            obtain ⟨i1, i2⟩ := emb_close n (c - useK c e.count) hB2
            refine ⟨i1, i2.trans ?_⟩
            rw [emb_cons hr]
          · have hB2 : Bt (if e.count - useK c e.count = 1 then addS (tx [123]) r else r) ∧ emb k (if e.count - useK c e.count = 1 then addS (tx [123]) r else r) = if e.count - useK c e.count = 1 then addS (tx [123]) (emb k r) else emb k r := by
              split
              · exact ⟨hB.add _, emb_add hB _⟩
              · exact ⟨hB, rfl⟩
            obtain ⟨i1, i2⟩ := emb_close n (c - useK c e.count) (hB2.1.add (useN c e))
            refine ⟨i1, i2.trans ?_⟩
            rw [emb_add hB2.1, hB2.2]
    · rw [if_neg h2, if_neg h2]
      exact stop
def Tok.opens (t : Tok) : Nat := if t.kind = 3 ∨ t.kind = 5 then 1 else 0
def opensL : List Tok → Nat
  | [] => 0
  | t :: r => t.opens + opensL r
theorem emb_take {k : Nat} {s : List UInt8} {t : Tok} {st : List El} (h : Bt st) (h11 : t.kind ≠ 11) (h12 : t.kind ≠ 12) (hl : st.length + t.opens ≤ 20) : Bt (takeF s t st) ∧ emb k (takeF s t st) = takeF s t (emb k st) := by
  have txt : ∀ n : Node, Bt (addS n st) ∧ emb k (addS n st) = addS n (emb k st) := fun n => ⟨h.add n, emb_add h n⟩
  unfold takeF
  split
  · exact txt _
  split
  · exact txt _
  split
  · rename_i h3
    have : t.opens = 1 := by simp [Tok.opens, h3]
    exact emb_open h (by omega) (.inr rfl) _
  split
  · rename_i h5
    have : t.opens = 1 := by simp [Tok.opens, h5]
    exact emb_open h (by omega) (.inl rfl) _
  split
  · exact emb_bar h
  split
  · exact emb_eq h
  split
  · exact emb_link h
  split
  · exact emb_close _ _ h
  · exact txt _
theorem closeF_len : ∀ (n c : Nat) (st : List El), (closeF n c st).length ≤ st.length
  | 0, c, st => by simp [closeF, addS_length]
  | n + 1, c, st => by
    rw [closeF]
    split
    · cases hb : braceIdx st with
      | none => simp [addS_length]
      | some j =>
        have hl := flatN_length j (els := st)
        cases hf : flatN j st with
        | nil => simp only [hf, List.length_nil]; omega
        | cons e r =>
          rw [hf] at hl
          simp only [List.length_cons] at hl
          simp only [hf]
          split
          · have := closeF_len n (c - useK c e.count) ({ e with count := e.count - useK c e.count, list := [useN c e], args := [] } :: r)
            simp only [List.length_cons] at this
            omega
          · have := closeF_len n (c - useK c e.count) (addS (useN c e) (if e.count - useK c e.count = 1 then addS (tx [123]) r else r))
            have h2 : (addS (useN c e) (if e.count - useK c e.count = 1 then addS (tx [123]) r else r)).length = r.length := by
              rw [addS_length]; split
              · exact addS_length
              · rfl
            omega
    · simp [addS_length]
theorem takeF_len {s : List UInt8} {t : Tok} {st : List El} (h11 : t.kind ≠ 11) (h12 : t.kind ≠ 12) : (takeF s t st).length ≤ st.length + t.opens := by
  unfold takeF
  split
  · simp [addS_length]
  split
  · simp [addS_length]
  split
  · rename_i h3
    have : t.opens = 1 := by simp [Tok.opens, h3]
    unfold openF; split <;> simp [addS_length] <;> omega
  split
  · rename_i h5
    have : t.opens = 1 := by simp [Tok.opens, h5]
    unfold openF; split <;> simp [addS_length] <;> omega
  split
  · cases st with
    | nil => simp [barF]
    | cons e r => simp only [barF]; split <;> simp [addS_length] <;> omega
  split
  · cases st with
    | nil => simp [eqF]
    | cons e r => simp only [eqF]; split <;> simp [addS_length] <;> omega
  split
  · cases st with
    | nil => simp [linkF]
    | cons e r => simp only [linkF]; split <;> simp [addS_length, addsS_length] <;> omega
  split
  · have := closeF_len (t.text s).length (t.text s).length st; omega
  · simp [addS_length]
theorem emb_run {k : Nat} {s : List UInt8} : ∀ (l : List Tok) {st : List El}, Bt st → (∀ t, t ∈ l → t.kind ≠ 11 ∧ t.kind ≠ 12) → st.length + opensL l ≤ 20 → Bt (runF s l st) ∧ emb k (runF s l st) = runF s l (emb k st)
  | [], st, h, _, _ => ⟨h, rfl⟩
  | t :: r, st, h, hk, hl => by
    have h1 := hk t (by simp)
    simp only [opensL] at hl
    obtain ⟨b1, b2⟩ := emb_take (k := k) (s := s) h h1.1 h1.2 (by omega)
    have hlen := takeF_len (s := s) (st := st) h1.1 h1.2
    obtain ⟨c1, c2⟩ := emb_run r b1 (fun x hx => hk x (by simp [hx])) (by omega)
    rw [runF_cons, runF_cons]
    exact ⟨c1, by rw [c2, b2]⟩
theorem emb_tag {k : Nat} : ∀ {st : List El}, Bt st → tagIdx k (emb k st) = some (st.length - 1)
  | [], h => h.elim
  | [e], h => by simp [emb, tagIdx, bot]
  | e :: b :: r, h => by
    have ih := emb_tag (k := k) (st := b :: r) h.2
    have h2 : ¬ (e.kind = 2 ∧ e.tag = k) := fun x => by have := h.1; omega
    rw [emb_cons (by simp), tagIdx_cons (emb_ne (by simp)), ih, if_neg h2]
    simp
theorem no_tag {s : List UInt8} (hs : No60 s) : ∀ t, t ∈ scan s → t.kind ≠ 11 ∧ t.kind ≠ 12 := by
  intro t ht
  have hg := (scan_good s).1 t ht
  have hmem : ∀ x, x ∈ t.text s → x ≠ 60 := fun x hx => hs x (by
    rw [Tok.text] at hx
    exact List.mem_of_mem_take (List.mem_of_mem_drop hx))
  constructor
  · intro h
    obtain ⟨j, -, -, e⟩ := hg.tagO h
    exact hmem 60 (by rw [e]; simp [tagO]) rfl
  · intro h
    obtain ⟨j, -, -, e⟩ := hg.tagC h
    exact hmem 60 (by rw [e]; simp [tagC]) rfl
theorem parse_tag {s : List UInt8} (hs : No60 s) {k : Nat} (h1 : 1 ≤ k) (h2 : k ≤ 3) (ho : opensL (scan s) < 20) : parseF (tagO k ++ s ++ tagC k) = [.mk 6 k [] (parseF s) []] := by
  have hbt : Bt [root] := ⟨rfl, rfl, rfl⟩
  obtain ⟨b1, b2⟩ := emb_run (k := k) (s := s) (scan s) hbt (no_tag hs) (by simp; omega)
  rw [parseF, scan_tag hs h1 h2, runF_cons, runF_app]
  have e1 : takeF (tagO k ++ s ++ tagC k) ⟨11, 0, (tagO k).length⟩ [root] = emb k [root] := by
    have ht : Tok.text (tagO k ++ s ++ tagC k) ⟨11, 0, (tagO k).length⟩ = tagO k := by
      simp [Tok.text, List.append_assoc]
    have hg : Tok.tag (tagO k ++ s ++ tagC k) ⟨11, 0, (tagO k).length⟩ = k := by
      rw [Tok.tag, if_pos rfl, ht]; exact tagO_at h1 h2
    have h3 : takeF (tagO k ++ s ++ tagC k) ⟨11, 0, (tagO k).length⟩ [root] = openF ⟨2, Tok.tag (tagO k ++ s ++ tagC k) ⟨11, 0, (tagO k).length⟩, 0, [], []⟩ (Tok.text (tagO k ++ s ++ tagC k) ⟨11, 0, (tagO k).length⟩) [root] := rfl
    rw [h3, hg]
    rfl
  rw [e1, runF_sh (A := tagO k) (z := tagC k) (scan s) _ (fun t ht => ((scan_good s).1 t ht).le), ← b2]
  generalize hst : runF s (scan s) [root] = st at b1 b2
  have hp : parseF s = finF st := by rw [parseF, hst]
  have hpos := List.length_pos_iff.2 b1.ne
  obtain ⟨c1, c2⟩ := emb_flatN (k := k) (st.length - 1) b1 (by omega)
  have hl := flatN_length (st.length - 1) (els := st)
  have e2 : runF (tagO k ++ s ++ tagC k) [⟨12, (tagO k).length + s.length, (tagO k ++ s ++ tagC k).length⟩] (emb k st) = tagF k (tagC k) (emb k st) := by
    have ht : Tok.text (tagO k ++ s ++ tagC k) ⟨12, (tagO k).length + s.length, (tagO k ++ s ++ tagC k).length⟩ = tagC k := by
      simp only [Tok.text, List.take_length]
      rw [show (tagO k).length + s.length = (tagO k ++ s).length by simp, List.drop_left]
    have hg : Tok.tag (tagO k ++ s ++ tagC k) ⟨12, (tagO k).length + s.length, (tagO k ++ s ++ tagC k).length⟩ = k := by
      rw [Tok.tag, if_neg (by simp), if_pos rfl, ht]; exact tagC_at h1 h2
    rw [runF_cons, runF_nil]
    have h3 : takeF (tagO k ++ s ++ tagC k) ⟨12, (tagO k).length + s.length, (tagO k ++ s ++ tagC k).length⟩ (emb k st) = tagF (Tok.tag (tagO k ++ s ++ tagC k) ⟨12, (tagO k).length + s.length, (tagO k ++ s ++ tagC k).length⟩) (Tok.text (tagO k ++ s ++ tagC k) ⟨12, (tagO k).length + s.length, (tagO k ++ s ++ tagC k).length⟩) (emb k st) := rfl
    rw [h3, hg, ht]
  rw [e2, tagF, emb_tag b1]
  simp only [← c2]
  cases hf : flatN (st.length - 1) st with
  | nil => rw [hf] at hl; simp at hl; omega
  | cons e r =>
    have hr : r = [] := List.length_eq_zero_iff.1 (by rw [hf] at hl; simp at hl; omega)
    subst hr
    have hfin : finF st = e.list := by simp only [finF, hf]
    rw [hp, hfin]
    simp [emb, bot, addS, El.add, root, addN, Node.kind, finF, flatN]
end Go.Ab
