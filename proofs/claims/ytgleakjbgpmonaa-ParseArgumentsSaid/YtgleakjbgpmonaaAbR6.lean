/- Several texts of one kind, merged. No condition. -/
import Derived.Test.YtgleakjbgpmonaaAbP4
import Derived.KernelRfl
import Derived.Test.YtgleakjbgpmonaaAbR7
import Derived.Test.YtgleakjbgpmonaaAbK2
/- The plain parser at a text between a tag and its end. No condition. -/
namespace Go.Ab
set_option linter.unusedVariables false
set_option linter.unusedSimpArgs false

def No60 (s : List UInt8) : Prop := ∀ x, x ∈ s → x ≠ 60
theorem runL_app {c : UInt8} (hc : c ≠ 60) (z : List UInt8) : ∀ u : List UInt8, runL c (u ++ 60 :: z) = runL c u
  | [] => by simp [runL, Ne.symm hc]
  | x :: r => by simp only [List.cons_append, runL]; rw [runL_app hc z r]
theorem firstF_app {u z : List UInt8} (h : No60 u) (hne : u ≠ []) : firstF (u ++ 60 :: z) = firstF u ∧ (firstF u).1 < 9 := by
  cases u with
  | nil => exact absurd rfl hne
  | cons c r =>
    have hc : c ≠ 60 := h c (by simp)
    have e : ∀ d : UInt8, d ≠ 60 → runL d (c :: (r ++ 60 :: z)) = runL d (c :: r) := fun d hd => runL_app hd z (c :: r)
    simp only [List.cons_append, firstF, hc, if_false, e 123 (by decide), e 125 (by decide), e 91 (by decide), e 93 (by decide), true_and]
    have b : ∀ (p : Prop) [Decidable p] (x y : Nat × Nat), x.1 < 9 → y.1 < 9 → (if p then x else y).1 < 9 := fun p _ x y h1 h2 => by split <;> assumption
    exact b _ _ _ (b _ _ _ (by simp) (by simp)) (b _ _ _ (b _ _ _ (by simp) (by simp)) (b _ _ _ (b _ _ _ (by simp) (by simp)) (b _ _ _ (b _ _ _ (by simp) (by simp)) (b _ _ _ (by simp) (b _ _ _ (by simp) (b _ _ _ (by simp) (by simp)))))))
def Tok.sh (a : Nat) (t : Tok) : Tok := ⟨t.kind, a + t.fr, a + t.to⟩
theorem text_sh {A s z : List UInt8} {t : Tok} (h : t.to ≤ s.length) : Tok.text (A ++ s ++ z) (t.sh A.length) = Tok.text s t := by
  simp only [Tok.text, Tok.sh, List.append_assoc]
  rw [List.take_append, List.drop_append]
  have e1 : A.length + t.to - A.length = t.to := by omega
  have e2 : (A.take (A.length + t.to)) = A := List.take_of_length_le (by omega)
  rw [e1, e2]
  have e3 : A.drop (A.length + t.fr) = [] := List.drop_eq_nil_of_le (by omega)
  have e4 : A.length + t.fr - A.length = t.fr := by omega
  rw [e3, e4, List.take_append_of_le_length h]
  rfl
theorem takeF_text {s s' : List UInt8} {t t' : Tok} (hk : t.kind = t'.kind) (ht : t.text s = t'.text s') (st : List El) : takeF s t st = takeF s' t' st := by
  simp only [takeF, Tok.tag, hk, ht]
theorem runF_cons {s : List UInt8} {t : Tok} {r : List Tok} {st : List El} : runF s (t :: r) st = runF s r (takeF s t st) := rfl
theorem runF_app {s : List UInt8} {a b : List Tok} {st : List El} : runF s (a ++ b) st = runF s b (runF s a st) := by simp [runF, List.foldl_append]
theorem runF_sh {A s z : List UInt8} : ∀ (l : List Tok) (st : List El), (∀ t, t ∈ l → t.to ≤ s.length) → runF (A ++ s ++ z) (l.map (Tok.sh A.length)) st = runF s l st
  | [], st, _ => rfl
  | t :: r, st, h => by
    rw [List.map_cons, runF_cons, runF_cons, runF_sh r _ fun x hx => h x (by simp [hx])]
    rw [takeF_text (s := A ++ s ++ z) (s' := s) (t := t.sh A.length) (t' := t) rfl (text_sh (h t (by simp)))]
theorem drop_mid {A s z : List UInt8} {i : Nat} (h : i ≤ s.length) : (A ++ s ++ z).drop (A.length + i) = s.drop i ++ z := by
  rw [List.append_assoc, ← List.drop_drop, List.drop_left, List.drop_append_of_le_length h]
theorem scanF_mid {A s z : List UInt8} (hs : No60 s) {q : Nat} (hq : 1 ≤ q) (hz : firstF (60 :: z) = (q, (60 :: z).length)) : ∀ (n m t i : Nat), t ≤ i → i ≤ s.length → s.length < n + i →
    scanF (A ++ s ++ 60 :: z) (n + m) (A.length + t) (A.length + i) = (scanF s n t i).map (Tok.sh A.length) ++ [⟨q, A.length + s.length, (A ++ s ++ 60 :: z).length⟩]
  | 0, m, t, i, h1, h2, h3 => by omega
  | n + 1, m, t, i, h1, h2, h3 => by
    have hlen : (A ++ s ++ 60 :: z).length = A.length + s.length + (60 :: z).length := by simp [Nat.add_assoc]
    have hpz : 0 < (60 :: z).length := by simp
    have en : n + 1 + m = (n + m) + 1 := by omega
    rw [en, scanF, if_pos (by omega), drop_mid h2]
    by_cases hi : i < s.length
    · have hn : No60 (s.drop i) := fun x hx => hs x (List.mem_of_mem_drop hx)
      have hne : s.drop i ≠ [] := by intro e; have := congrArg List.length e; simp at this; omega
      rw [(firstF_app hn hne).1, scanF, if_pos hi]
      split
      · rename_i h0
        exact scanF_mid (A := A) hs hq hz n m t (i + 1) (by omega) (by omega) (by omega)
      · rename_i h0
        have fs := firstF_fst h0
        have hle := fs.le
        have hpos := fs.pos
        rw [List.length_drop] at hle
        have ih := scanF_mid (A := A) hs hq hz n m (i + (firstF (s.drop i)).2) (i + (firstF (s.drop i)).2) (Nat.le_refl _) (by omega) (by omega)
        rw [Nat.add_assoc, ih]
        simp only [List.map_append, List.map_cons, List.append_assoc, List.cons_append]
        congr 1
        by_cases ht : t < i
        · rw [if_pos (by omega), if_pos ht]; rfl
        · rw [if_neg (by omega), if_neg ht]; rfl
    · have he : i = s.length := by omega
      subst he
      have e0 : s.drop s.length ++ 60 :: z = 60 :: z := by simp
      rw [e0, hz, if_neg (by simp; omega), scanF, if_neg hi]
      have ee : A.length + s.length + (60 :: z).length = (A ++ s ++ 60 :: z).length := hlen.symm
      simp only [ee]
      have hend : ∀ k, scanF (A ++ s ++ 60 :: z) k (A ++ s ++ 60 :: z).length (A ++ s ++ 60 :: z).length = [] := by
        intro k
        cases k with
        | zero => rfl
        | succ k => rw [scanF, if_neg (by omega), if_neg (by omega)]
      rw [hend]
      by_cases ht : t < s.length
      · rw [if_pos (by omega), if_pos ht]; rfl
      · rw [if_neg (by omega), if_neg ht]; rfl
theorem tagO_eq {k : Nat} (h1 : 1 ≤ k) (h2 : k ≤ 3) (y : List UInt8) : firstF (tagO k ++ y) = (11, (tagO k).length) := by
  obtain rfl | rfl | rfl : k = 1 ∨ k = 2 ∨ k = 3 := by omega
  all_goals simp [firstF, angleF, tagTok, tagAt, tagO, tagName, nowikiO]
theorem tagC_eq {k : Nat} (h1 : 1 ≤ k) (h2 : k ≤ 3) : firstF (tagC k) = (12, (tagC k).length) := by
  obtain rfl | rfl | rfl : k = 1 ∨ k = 2 ∨ k = 3 := by omega
  all_goals simp [firstF, angleF, tagTok, tagAt, tagO, tagC, tagName, nowikiO]
theorem scan_tag {s : List UInt8} (hs : No60 s) {k : Nat} (h1 : 1 ≤ k) (h2 : k ≤ 3) :
    scan (tagO k ++ s ++ tagC k) = ⟨11, 0, (tagO k).length⟩ :: ((scan s).map (Tok.sh (tagO k).length) ++ [⟨12, (tagO k).length + s.length, (tagO k ++ s ++ tagC k).length⟩]) := by
  obtain ⟨z, hz⟩ : ∃ z, tagC k = 60 :: z := ⟨_, rfl⟩
  have hO : 0 < (tagO k).length := by simp [tagO]
  have hl : (tagO k ++ s ++ tagC k).length = (tagO k).length + s.length + (tagC k).length := by simp [Nat.add_assoc]
  rw [scan, scanF, if_pos (by omega)]
  have e0 : (tagO k ++ s ++ tagC k).drop 0 = tagO k ++ (s ++ tagC k) := by simp
  rw [e0, tagO_eq h1 h2]
  simp only [Nat.zero_add, Nat.lt_irrefl, if_false, List.nil_append]
  rw [if_neg (by decide)]
  congr 1
  have hc := tagC_eq h1 h2
  rw [hz] at hc ⊢
  have := scanF_mid (A := tagO k) hs (q := 12) (by omega) hc (s.length + 1) ((tagO k ++ s ++ 60 :: z).length - (s.length + 1)) 0 0 (Nat.le_refl _) (Nat.zero_le _) (by omega)
  have e1 : s.length + 1 + ((tagO k ++ s ++ 60 :: z).length - (s.length + 1)) = (tagO k ++ s ++ 60 :: z).length := by
    have : (tagO k ++ s ++ 60 :: z).length = (tagO k).length + s.length + (60 :: z).length := by simp [Nat.add_assoc]
    have : 0 < (60 :: z).length := by simp
    omega
  rw [e1] at this
  simpa [scan] using this
end Go.Ab
/- The plain parser with arguments kept in reverse, step by step. No condition. -/
namespace Go.Ab
set_option linter.unusedVariables false
set_option linter.unusedSimpArgs false

def rv (e : El) : El := { e with args := e.args.reverse }
def zadd (n : Node) (e : El) : El :=
  match e.args with
  | [] => { e with list := addN n e.list }
  | a :: r => if e.kind = 3 then { e with args := a.setVal (addN n a.val) :: r } else { e with list := addN n e.list }
def zaddS (n : Node) : List El → List El
  | [] => []
  | e :: r => zadd n e :: r
def zaddsS : List Node → List El → List El
  | [], st => st
  | n :: l, st => zaddsS l (zaddS n st)
def zpieces (e : El) : List Node := tx e.head :: (e.list ++ e.args.reverse.flatMap Arg.pieces)
def zflat1 : List El → List El
  | [] => []
  | e :: r => zaddsS (zpieces e) r
def zflatN : Nat → List El → List El
  | 0, st => st
  | n + 1, st => zflatN n (zflat1 st)
def zopen (e : El) (s : List UInt8) (st : List El) : List El := if 20 < st.length then zaddS (tx s) st else e :: st
def zbar : List El → List El
  | [] => []
  | e :: r => if e.kind = 3 then { e with args := .mk false [] [] :: e.args } :: r else zaddS (tx [124]) (e :: r)
def zeq : List El → List El
  | [] => []
  | e :: r => match e.args with
    | .mk false x v :: q => if e.kind = 3 then { e with args := .mk true v [] :: q } :: r else zaddS (tx [61]) (e :: r)
    | _ => zaddS (tx [61]) (e :: r)
def zlink : List El → List El
  | [] => []
  | e :: r => if e.kind = 1 then zaddsS (tx [91, 91] :: (e.list ++ [tx [93, 93]])) r else zaddS (tx [93, 93]) (e :: r)
def ztag (t : Nat) (s : List UInt8) (st : List El) : List El :=
  match tagIdx t st with
  | none => zaddS (tx s) st
  | some k => match zflatN k st with
    | [] => []
    | e :: r => zaddS (.mk 6 t [] e.list []) r
def zuse (c n : Nat) (e : El) : Node := .mk (if useK c n = 3 then 5 else 4) 0 [] e.list e.args.reverse
def zclose : Nat → Nat → List El → List El
  | 0, c, st => zaddS (tx (List.replicate c 125)) st
  | n + 1, c, st =>
    if 2 ≤ c then match braceIdx st with
      | none => zaddS (tx (List.replicate c 125)) st
      | some k => match zflatN k st with
        | [] => []
        | e :: r =>
          if 2 ≤ e.count - useK c e.count then zclose n (c - useK c e.count) ({ e with count := e.count - useK c e.count, list := [zuse c e.count e], args := [] } :: r)
          else zclose n (c - useK c e.count) (zaddS (zuse c e.count e) (if e.count - useK c e.count = 1 then zaddS (tx [123]) r else r))
    else zaddS (tx (List.replicate c 125)) st
def ztake (k : Nat) (q : List UInt8) (st : List El) : List El :=
  if k = 9 then zaddS (.mk 2 0 q [] []) st
  else if k = 10 then zaddS (.mk 3 0 ((q.take (q.length - 9)).drop 8) [] []) st
  else if k = 3 then zopen ⟨3, 0, q.length, [], []⟩ q st
  else if k = 5 then zopen ⟨1, 0, 0, [], []⟩ q st
  else if k = 11 then zopen ⟨2, tagAt tagO q, 0, [], []⟩ q st
  else if k = 7 then zbar st
  else if k = 8 then zeq st
  else if k = 6 then zlink st
  else if k = 12 then ztag (tagAt tagC q) q st
  else if k = 4 then zclose q.length q.length st
  else zaddS (tx q) st
def zrun : Nat → List UInt8 → List UInt8 → List El → List El
  | 0, _, _, st => st
  | n + 1, acc, u, st =>
    match u with
    | [] => match acc with
      | [] => st
      | _ :: _ => ztake 1 acc st
    | c :: r => match firstF (c :: r) with
      | (0, _) => zrun n (acc ++ [c]) r st
      | (k + 1, j) => zrun n [] ((c :: r).drop j) (ztake (k + 1) ((c :: r).take j) (match acc with | [] => st | _ :: _ => ztake 1 acc st))

theorem z_add (n : Node) (e : El) : rv (zadd n e) = (rv e).add n := by
  obtain ⟨k, t, c, l, as⟩ := e
  cases as with
  | nil => simp [zadd, rv, El.add]
  | cons a r =>
    by_cases hk : k = 3
    · subst hk
      simp [zadd, rv, El.add, onLast_snoc]
    · simp [zadd, rv, El.add, hk]
theorem z_addS (n : Node) (st : List El) : (zaddS n st).map rv = addS n (st.map rv) := by
  cases st with
  | nil => rfl
  | cons e r => simp [zaddS, addS, z_add]
theorem z_addsS : ∀ (l : List Node) (st : List El), (zaddsS l st).map rv = addsS l (st.map rv)
  | [], st => rfl
  | n :: l, st => by rw [zaddsS, z_addsS l, z_addS, addsS_cons]
theorem z_pieces (e : El) : zpieces e = (rv e).pieces := rfl
theorem z_flat1 (st : List El) : (zflat1 st).map rv = flat1 (st.map rv) := by
  cases st with
  | nil => rfl
  | cons e r => simp only [zflat1, List.map_cons, flat1, z_addsS, z_pieces]
theorem z_flatN : ∀ (n : Nat) (st : List El), (zflatN n st).map rv = flatN n (st.map rv)
  | 0, st => rfl
  | n + 1, st => by rw [zflatN, z_flatN n, z_flat1]; rfl
theorem z_brace : ∀ st : List El, braceIdx (st.map rv) = braceIdx st
  | [] => rfl
  | [_] => rfl
  | e :: b :: r => by
    have ih := z_brace (b :: r)
    simp only [List.map_cons] at ih
    simp only [List.map_cons, braceIdx, ih]
    rfl
theorem z_tagI (t : Nat) : ∀ st : List El, tagIdx t (st.map rv) = tagIdx t st
  | [] => rfl
  | [_] => rfl
  | e :: b :: r => by
    have ih := z_tagI t (b :: r)
    simp only [List.map_cons] at ih
    simp only [List.map_cons, tagIdx, ih]
    rfl
theorem z_use (c : Nat) (e : El) : zuse c e.count e = useN c (rv e) := rfl
theorem z_close : ∀ (n c : Nat) (st : List El), (zclose n c st).map rv = closeF n c (st.map rv)
  | 0, c, st => by simp only [zclose, closeF, z_addS]
  | n + 1, c, st => by
    rw [zclose, closeF, z_brace]
    split
    · cases hb : braceIdx st with
      | none => simp only [z_addS]
      | some k =>
        have hf := z_flatN k st
        simp only
        rw [← hf]
        cases zflatN k st with
        | nil => rfl
        | cons e r =>
          simp only [List.map_cons]
          have hc : (rv e).count = e.count := rfl
          rw [hc]
          split
          · rw [z_close n]
            congr 1
          · rw [z_close n, z_addS, z_use]
            congr 2
            split
            · exact z_addS _ _
            · rfl
    · simp only [z_addS]
theorem z_open (e : El) (he : e.args = []) (q : List UInt8) (st : List El) : (zopen e q st).map rv = openF e q (st.map rv) := by
  obtain ⟨kd, t, c, l, as⟩ := e
  simp only at he
  subst he
  simp only [zopen, openF, List.length_map]
  split
  · exact z_addS _ _
  · rfl
theorem z_bar (st : List El) : (zbar st).map rv = barF (st.map rv) := by
  cases st with
  | nil => rfl
  | cons e r =>
    simp only [zbar, List.map_cons, barF]
    have hk : (rv e).kind = e.kind := rfl
    rw [hk]
    split
    · simp [rv]
    · exact z_addS _ (e :: r)
theorem z_eq (st : List El) : (zeq st).map rv = eqF (st.map rv) := by
  cases st with
  | nil => rfl
  | cons e r =>
    obtain ⟨kd, t, c, l, as⟩ := e
    simp only [zeq, List.map_cons, eqF]
    match as with
    | [] =>
      have h1 : ¬ ((rv ⟨kd, t, c, l, []⟩).kind = 3 ∧ lastNamed (rv ⟨kd, t, c, l, []⟩).args = false) := by simp [rv, lastNamed]
      rw [if_neg h1]
      exact z_addS _ (⟨kd, t, c, l, []⟩ :: r)
    | .mk true x v :: qq =>
      have h1 : ¬ ((rv ⟨kd, t, c, l, .mk true x v :: qq⟩).kind = 3 ∧ lastNamed (rv ⟨kd, t, c, l, .mk true x v :: qq⟩).args = false) := by simp [rv, lastNamed_snoc, Arg.named]
      rw [if_neg h1]
      exact z_addS _ (⟨kd, t, c, l, .mk true x v :: qq⟩ :: r)
    | .mk false x v :: qq =>
      by_cases hk : kd = 3
      · have h1 : (rv ⟨kd, t, c, l, .mk false x v :: qq⟩).kind = 3 ∧ lastNamed (rv ⟨kd, t, c, l, .mk false x v :: qq⟩).args = false := by simp [rv, lastNamed_snoc, Arg.named, hk]
        rw [if_pos h1]
        simp only [if_pos hk]
        simp [rv, onLast_snoc, Arg.val]
      · have h1 : ¬ ((rv ⟨kd, t, c, l, .mk false x v :: qq⟩).kind = 3 ∧ lastNamed (rv ⟨kd, t, c, l, .mk false x v :: qq⟩).args = false) := by simp [rv, hk]
        rw [if_neg h1]
        simp only [if_neg hk]
        exact z_addS _ (⟨kd, t, c, l, .mk false x v :: qq⟩ :: r)
theorem z_link (st : List El) : (zlink st).map rv = linkF (st.map rv) := by
  cases st with
  | nil => rfl
  | cons e r =>
    simp only [zlink, List.map_cons, linkF]
    have hk : (rv e).kind = e.kind := rfl
    rw [hk]
    split
    · exact z_addsS _ _
    · exact z_addS _ (e :: r)
theorem z_tag (t : Nat) (q : List UInt8) (st : List El) : (ztag t q st).map rv = tagF t q (st.map rv) := by
  unfold ztag tagF
  rw [z_tagI]
  cases tagIdx t st with
  | none => exact z_addS _ _
  | some j =>
    have hf := z_flatN j st
    simp only
    rw [← hf]
    cases zflatN j st with
    | nil => rfl
    | cons e r => exact z_addS _ _
theorem z_take (k : Nat) (q : List UInt8) (st : List El) : (ztake k q st).map rv = takeF q ⟨k, 0, q.length⟩ (st.map rv) := by
  have ht : Tok.text q ⟨k, 0, q.length⟩ = q := by simp [Tok.text]
  have h11 : k = 11 → Tok.tag q ⟨k, 0, q.length⟩ = tagAt tagO q := fun h => by rw [Tok.tag, if_pos h, ht]
  have h12 : k = 12 → Tok.tag q ⟨k, 0, q.length⟩ = tagAt tagC q := fun h => by rw [Tok.tag, if_neg (by simp only; omega), if_pos h, ht]
  unfold ztake takeF
  rw [ht]
  generalize Tok.tag q ⟨k, 0, q.length⟩ = tg at h11 h12
  have e : (Tok.mk k 0 q.length).kind = k := rfl
  rw [e]
  by_cases c9 : k = 9
  · rw [if_pos c9, if_pos c9]; exact z_addS _ _
  rw [if_neg c9, if_neg c9]
  by_cases c10 : k = 10
  · rw [if_pos c10, if_pos c10]; exact z_addS _ _
  rw [if_neg c10, if_neg c10]
  by_cases c3 : k = 3
  · rw [if_pos c3, if_pos c3]; exact z_open _ rfl _ _
  rw [if_neg c3, if_neg c3]
  by_cases c5 : k = 5
  · rw [if_pos c5, if_pos c5]; exact z_open _ rfl _ _
  rw [if_neg c5, if_neg c5]
  by_cases c11 : k = 11
  · rw [if_pos c11, if_pos c11, h11 c11]; exact z_open _ rfl _ _
  rw [if_neg c11, if_neg c11]
  by_cases c7 : k = 7
  · rw [if_pos c7, if_pos c7]; exact z_bar _
  rw [if_neg c7, if_neg c7]
  by_cases c8 : k = 8
  · rw [if_pos c8, if_pos c8]; exact z_eq _
  rw [if_neg c8, if_neg c8]
  by_cases c6 : k = 6
  · rw [if_pos c6, if_pos c6]; exact z_link _
  rw [if_neg c6, if_neg c6]
  by_cases c12 : k = 12
  · rw [if_pos c12, if_pos c12, h12 c12]; exact z_tag _ _ _
  rw [if_neg c12, if_neg c12]
  by_cases c4 : k = 4
  · rw [if_pos c4, if_pos c4]; exact z_close _ _ _
  rw [if_neg c4, if_neg c4]
  exact z_addS _ _
def zflush (acc : List UInt8) (st : List El) : List El := match acc with | [] => st | _ :: _ => ztake 1 acc st
theorem zflush_ne {acc : List UInt8} {st : List El} (h : acc ≠ []) : zflush acc st = ztake 1 acc st := by cases acc with | nil => exact absurd rfl h | cons a r => rfl
theorem zrun_nil (n : Nat) (acc : List UInt8) (st : List El) : zrun (n + 1) acc [] st = zflush acc st := by cases acc <;> rfl
theorem zrun_text {n : Nat} {acc r : List UInt8} {c : UInt8} {st : List El} (h : (firstF (c :: r)).1 = 0) : zrun (n + 1) acc (c :: r) st = zrun n (acc ++ [c]) r st := by
  simp only [zrun]
  generalize firstF (c :: r) = q at h
  obtain ⟨a, b⟩ := q
  simp only at h
  subst h
  rfl
theorem zrun_tok {n : Nat} {acc r : List UInt8} {c : UInt8} {st : List El} (h : (firstF (c :: r)).1 ≠ 0) : zrun (n + 1) acc (c :: r) st = zrun n [] ((c :: r).drop (firstF (c :: r)).2) (ztake (firstF (c :: r)).1 ((c :: r).take (firstF (c :: r)).2) (zflush acc st)) := by
  simp only [zrun]
  generalize firstF (c :: r) = q at h
  obtain ⟨a, b⟩ := q
  cases a with
  | zero => exact absurd rfl h
  | succ a => rfl
theorem z_run (s : List UInt8) : ∀ (n t i : Nat) (st : List El), t ≤ i → i ≤ s.length → s.length < n + i → runF s (scanF s n t i) (st.map rv) = (zrun n ((s.take i).drop t) (s.drop i) st).map rv
  | 0, t, i, st, h1, h2, h3 => by omega
  | n + 1, t, i, st, h1, h2, h3 => by
    have hk1 : ∀ (q : List UInt8) (kk a b : Nat) (st : List El), Tok.text s ⟨kk, a, b⟩ = q → takeF s ⟨kk, a, b⟩ (st.map rv) = (ztake kk q st).map rv := by
      intro q kk a b st hq
      rw [z_take]
      have hq2 : Tok.text q ⟨kk, 0, q.length⟩ = q := by simp [Tok.text]
      simp only [takeF, Tok.tag, hq, hq2]
    have htxt : ∀ (j : Nat) (st : List El), runF s (if t < j then [(⟨1, t, j⟩ : Tok)] else []) (st.map rv) = (zflush ((s.take j).drop t) st).map rv ∨ j > s.length := by
      intro j st
      by_cases hj : j > s.length
      · exact .inr hj
      left
      by_cases htj : t < j
      · rw [if_pos htj, zflush_ne (by intro e; have := congrArg List.length e; simp at this; omega), runF_cons, runF_nil]
        exact hk1 _ 1 t j st rfl
      · rw [if_neg htj]
        have : (s.take j).drop t = [] := List.drop_eq_nil_of_le (by simp; omega)
        rw [this]; rfl
    rw [scanF]
    by_cases hi : i < s.length
    · rw [if_pos hi]
      have hd : s.drop i = s[i] :: s.drop (i + 1) := List.drop_eq_getElem_cons hi
      have hacc : (s.take (i + 1)).drop t = (s.take i).drop t ++ [s[i]] := by
        rw [List.take_succ_eq_append_getElem hi, List.drop_append_of_le_length (by simp; omega)]
      by_cases h0 : (firstF (s.drop i)).1 = 0
      · rw [if_pos h0, z_run s n t (i + 1) st (by omega) (by omega) (by omega), hacc]
        rw [hd] at h0 ⊢
        rw [zrun_text h0]
      · rw [if_neg h0]
        have fs := firstF_fst h0
        have hle := fs.le
        have hpos := fs.pos
        rw [List.length_drop] at hle
        have ih := fun st => z_run s n (i + (firstF (s.drop i)).2) (i + (firstF (s.drop i)).2) st (Nat.le_refl _) (by omega) (by omega)
        have hself : ∀ j : Nat, (s.take j).drop j = [] := fun j => List.drop_eq_nil_of_le (by simp; omega)
        have hz : zrun (n + 1) ((s.take i).drop t) (s.drop i) st = zrun n [] ((s.drop i).drop (firstF (s.drop i)).2) (ztake (firstF (s.drop i)).1 ((s.drop i).take (firstF (s.drop i)).2) (zflush ((s.take i).drop t) st)) := by
          rw [hd] at h0 ⊢
          exact zrun_tok h0
        rw [hz, runF_app, (htxt i st).resolve_right (by omega), runF_cons, hk1 ((s.drop i).take (firstF (s.drop i)).2) _ _ _ _ (by rw [Tok.text_eq]; congr 1; simp only; omega), ih, hself, List.drop_drop]
    · rw [if_neg hi]
      have he : i = s.length := by omega
      subst he
      have hd : s.drop s.length = [] := List.drop_length
      rw [hd, zrun_nil]
      exact (htxt s.length st).resolve_right (by omega)
theorem z_parse (s : List UInt8) : parseF s = finF ((zrun (s.length + 1) [] s [root]).map rv) := by
  have h := z_run s (s.length + 1) 0 0 [root] (Nat.le_refl _) (Nat.zero_le _) (by omega)
  simp only [List.take_zero, List.drop_zero, List.drop_nil] at h
  rw [parseF, scan, ← h]
  rfl
theorem zrun_fuel : ∀ (n m : Nat) (acc u : List UInt8) (st : List El), u.length < n → u.length < m → zrun n acc u st = zrun m acc u st
  | 0, m, acc, u, st, h, _ => by omega
  | n + 1, 0, acc, u, st, _, h => by omega
  | n + 1, m + 1, acc, [], st, _, _ => by rw [zrun_nil, zrun_nil]
  | n + 1, m + 1, acc, c :: r, st, h1, h2 => by
    simp only [List.length_cons] at h1 h2
    by_cases h0 : (firstF (c :: r)).1 = 0
    · rw [zrun_text h0, zrun_text h0]
      exact zrun_fuel n m _ _ _ (by omega) (by omega)
    · rw [zrun_tok h0, zrun_tok h0]
      have hpos := (firstF_fst h0).pos
      exact zrun_fuel n m _ _ _ (by simp; omega) (by simp; omega)
end Go.Ab
/- The pieces of ParseArguments, each by the kernel (by program: tools/genva.py). No condition. -/
namespace Go.Ab
set_option linter.unusedVariables false
set_option linter.unusedSimpArgs false

def Sa (R : List Arg) : List El := [⟨3, 0, 2, [tx [110]], .mk false [] [] :: R⟩, root]
def Da (A : List Arg) : List El := [{ root with list := [.mk 4 0 [] [tx [110]] A] }]
theorem z_start (m : Nat) (z : List UInt8) : zrun (m + 3) [] (123 :: 123 :: 110 :: 124 :: z) [root] = zrun m [] z (Sa []) := by kernel_rfl
theorem z_none (m : Nat) : zrun (m + 4) [] [123, 123, 110, 125, 125] [root] = Da [] := by kernel_rfl
theorem z_mid0 (m : Nat) (z : List UInt8) (R : List Arg) : zrun (m + 1) [] (124 :: z) (Sa R) = zrun m [] z (Sa (Arg.mk false [] (parseF []) :: R)) := by kernel_rfl
theorem z_end0 (m : Nat) (R : List Arg) : zrun (m + 2) [] [125, 125] (Sa R) = Da (Arg.mk false [] (parseF []) :: R).reverse := by kernel_rfl
theorem z_mid1 (m : Nat) (z : List UInt8) (R : List Arg) : zrun (m + 2) [] (97 :: 124 :: z) (Sa R) = zrun m [] z (Sa (Arg.mk false [] (parseF [97]) :: R)) := by kernel_rfl
theorem z_end1 (m : Nat) (R : List Arg) : zrun (m + 3) [] [97, 125, 125] (Sa R) = Da (Arg.mk false [] (parseF [97]) :: R).reverse := by kernel_rfl
theorem z_mid2 (m : Nat) (z : List UInt8) (R : List Arg) : zrun (m + 8) [] (91 :: 91 :: 65 :: 124 :: 98 :: 61 :: 99 :: 93 :: 93 :: 124 :: z) (Sa R) = zrun m [] z (Sa (Arg.mk false [] (parseF [91, 91, 65, 124, 98, 61, 99, 93, 93]) :: R)) := by kernel_rfl
theorem z_end2 (m : Nat) (R : List Arg) : zrun (m + 9) [] [91, 91, 65, 124, 98, 61, 99, 93, 93, 125, 125] (Sa R) = Da (Arg.mk false [] (parseF [91, 91, 65, 124, 98, 61, 99, 93, 93]) :: R).reverse := by kernel_rfl
theorem z_mid3 (m : Nat) (z : List UInt8) (R : List Arg) : zrun (m + 8) [] (123 :: 123 :: 84 :: 124 :: 120 :: 61 :: 121 :: 125 :: 125 :: 124 :: z) (Sa R) = zrun m [] z (Sa (Arg.mk false [] (parseF [123, 123, 84, 124, 120, 61, 121, 125, 125]) :: R)) := by kernel_rfl
theorem z_end3 (m : Nat) (R : List Arg) : zrun (m + 8) [] [123, 123, 84, 124, 120, 61, 121, 125, 125, 125, 125] (Sa R) = Da (Arg.mk false [] (parseF [123, 123, 84, 124, 120, 61, 121, 125, 125]) :: R).reverse := by kernel_rfl
theorem z_mid4 (m : Nat) (z : List UInt8) (R : List Arg) : zrun (m + 6) [] (123 :: 123 :: 123 :: 49 :: 124 :: 100 :: 125 :: 125 :: 125 :: 124 :: z) (Sa R) = zrun m [] z (Sa (Arg.mk false [] (parseF [123, 123, 123, 49, 124, 100, 125, 125, 125]) :: R)) := by kernel_rfl
theorem z_end4 (m : Nat) (R : List Arg) : zrun (m + 6) [] [123, 123, 123, 49, 124, 100, 125, 125, 125, 125, 125] (Sa R) = Da (Arg.mk false [] (parseF [123, 123, 123, 49, 124, 100, 125, 125, 125]) :: R).reverse := by kernel_rfl
theorem z_mid5 (m : Nat) (z : List UInt8) (R : List Arg) : zrun (m + 2) [] (60 :: 110 :: 111 :: 119 :: 105 :: 107 :: 105 :: 62 :: 124 :: 61 :: 60 :: 47 :: 110 :: 111 :: 119 :: 105 :: 107 :: 105 :: 62 :: 124 :: z) (Sa R) = zrun m [] z (Sa (Arg.mk false [] (parseF [60, 110, 111, 119, 105, 107, 105, 62, 124, 61, 60, 47, 110, 111, 119, 105, 107, 105, 62]) :: R)) := by kernel_rfl
theorem z_end5 (m : Nat) (R : List Arg) : zrun (m + 3) [] [60, 110, 111, 119, 105, 107, 105, 62, 124, 61, 60, 47, 110, 111, 119, 105, 107, 105, 62, 125, 125] (Sa R) = Da (Arg.mk false [] (parseF [60, 110, 111, 119, 105, 107, 105, 62, 124, 61, 60, 47, 110, 111, 119, 105, 107, 105, 62]) :: R).reverse := by kernel_rfl
theorem z_mid6 (m : Nat) (z : List UInt8) (R : List Arg) : zrun (m + 4) [] (97 :: 93 :: 93 :: 98 :: 124 :: z) (Sa R) = zrun m [] z (Sa (Arg.mk false [] (parseF [97, 93, 93, 98]) :: R)) := by kernel_rfl
theorem z_end6 (m : Nat) (R : List Arg) : zrun (m + 5) [] [97, 93, 93, 98, 125, 125] (Sa R) = Da (Arg.mk false [] (parseF [97, 93, 93, 98]) :: R).reverse := by kernel_rfl
theorem z_mid7 (m : Nat) (z : List UInt8) (R : List Arg) : zrun (m + 2) [] (60 :: 33 :: 45 :: 45 :: 124 :: 45 :: 45 :: 62 :: 124 :: z) (Sa R) = zrun m [] z (Sa (Arg.mk false [] (parseF [60, 33, 45, 45, 124, 45, 45, 62]) :: R)) := by kernel_rfl
theorem z_end7 (m : Nat) (R : List Arg) : zrun (m + 3) [] [60, 33, 45, 45, 124, 45, 45, 62, 125, 125] (Sa R) = Da (Arg.mk false [] (parseF [60, 33, 45, 45, 124, 45, 45, 62]) :: R).reverse := by kernel_rfl
theorem z_mid8 (m : Nat) (z : List UInt8) (R : List Arg) : zrun (m + 3) [] (107 :: 61 :: 124 :: z) (Sa R) = zrun m [] z (Sa (Arg.mk true [tx [107]] (parseF []) :: R)) := by kernel_rfl
theorem z_end8 (m : Nat) (R : List Arg) : zrun (m + 4) [] [107, 61, 125, 125] (Sa R) = Da (Arg.mk true [tx [107]] (parseF []) :: R).reverse := by kernel_rfl
theorem z_mid9 (m : Nat) (z : List UInt8) (R : List Arg) : zrun (m + 4) [] (107 :: 61 :: 97 :: 124 :: z) (Sa R) = zrun m [] z (Sa (Arg.mk true [tx [107]] (parseF [97]) :: R)) := by kernel_rfl
theorem z_end9 (m : Nat) (R : List Arg) : zrun (m + 5) [] [107, 61, 97, 125, 125] (Sa R) = Da (Arg.mk true [tx [107]] (parseF [97]) :: R).reverse := by kernel_rfl
theorem z_mid10 (m : Nat) (z : List UInt8) (R : List Arg) : zrun (m + 10) [] (107 :: 61 :: 91 :: 91 :: 65 :: 124 :: 98 :: 61 :: 99 :: 93 :: 93 :: 124 :: z) (Sa R) = zrun m [] z (Sa (Arg.mk true [tx [107]] (parseF [91, 91, 65, 124, 98, 61, 99, 93, 93]) :: R)) := by kernel_rfl
theorem z_end10 (m : Nat) (R : List Arg) : zrun (m + 11) [] [107, 61, 91, 91, 65, 124, 98, 61, 99, 93, 93, 125, 125] (Sa R) = Da (Arg.mk true [tx [107]] (parseF [91, 91, 65, 124, 98, 61, 99, 93, 93]) :: R).reverse := by kernel_rfl
theorem z_mid11 (m : Nat) (z : List UInt8) (R : List Arg) : zrun (m + 10) [] (107 :: 61 :: 123 :: 123 :: 84 :: 124 :: 120 :: 61 :: 121 :: 125 :: 125 :: 124 :: z) (Sa R) = zrun m [] z (Sa (Arg.mk true [tx [107]] (parseF [123, 123, 84, 124, 120, 61, 121, 125, 125]) :: R)) := by kernel_rfl
theorem z_end11 (m : Nat) (R : List Arg) : zrun (m + 10) [] [107, 61, 123, 123, 84, 124, 120, 61, 121, 125, 125, 125, 125] (Sa R) = Da (Arg.mk true [tx [107]] (parseF [123, 123, 84, 124, 120, 61, 121, 125, 125]) :: R).reverse := by kernel_rfl
theorem z_mid12 (m : Nat) (z : List UInt8) (R : List Arg) : zrun (m + 8) [] (107 :: 61 :: 123 :: 123 :: 123 :: 49 :: 124 :: 100 :: 125 :: 125 :: 125 :: 124 :: z) (Sa R) = zrun m [] z (Sa (Arg.mk true [tx [107]] (parseF [123, 123, 123, 49, 124, 100, 125, 125, 125]) :: R)) := by kernel_rfl
theorem z_end12 (m : Nat) (R : List Arg) : zrun (m + 8) [] [107, 61, 123, 123, 123, 49, 124, 100, 125, 125, 125, 125, 125] (Sa R) = Da (Arg.mk true [tx [107]] (parseF [123, 123, 123, 49, 124, 100, 125, 125, 125]) :: R).reverse := by kernel_rfl
theorem z_mid13 (m : Nat) (z : List UInt8) (R : List Arg) : zrun (m + 4) [] (107 :: 61 :: 60 :: 110 :: 111 :: 119 :: 105 :: 107 :: 105 :: 62 :: 124 :: 61 :: 60 :: 47 :: 110 :: 111 :: 119 :: 105 :: 107 :: 105 :: 62 :: 124 :: z) (Sa R) = zrun m [] z (Sa (Arg.mk true [tx [107]] (parseF [60, 110, 111, 119, 105, 107, 105, 62, 124, 61, 60, 47, 110, 111, 119, 105, 107, 105, 62]) :: R)) := by kernel_rfl
theorem z_end13 (m : Nat) (R : List Arg) : zrun (m + 5) [] [107, 61, 60, 110, 111, 119, 105, 107, 105, 62, 124, 61, 60, 47, 110, 111, 119, 105, 107, 105, 62, 125, 125] (Sa R) = Da (Arg.mk true [tx [107]] (parseF [60, 110, 111, 119, 105, 107, 105, 62, 124, 61, 60, 47, 110, 111, 119, 105, 107, 105, 62]) :: R).reverse := by kernel_rfl
theorem z_mid14 (m : Nat) (z : List UInt8) (R : List Arg) : zrun (m + 6) [] (107 :: 61 :: 97 :: 93 :: 93 :: 98 :: 124 :: z) (Sa R) = zrun m [] z (Sa (Arg.mk true [tx [107]] (parseF [97, 93, 93, 98]) :: R)) := by kernel_rfl
theorem z_end14 (m : Nat) (R : List Arg) : zrun (m + 7) [] [107, 61, 97, 93, 93, 98, 125, 125] (Sa R) = Da (Arg.mk true [tx [107]] (parseF [97, 93, 93, 98]) :: R).reverse := by kernel_rfl
theorem z_mid15 (m : Nat) (z : List UInt8) (R : List Arg) : zrun (m + 4) [] (107 :: 61 :: 60 :: 33 :: 45 :: 45 :: 124 :: 45 :: 45 :: 62 :: 124 :: z) (Sa R) = zrun m [] z (Sa (Arg.mk true [tx [107]] (parseF [60, 33, 45, 45, 124, 45, 45, 62]) :: R)) := by kernel_rfl
theorem z_end15 (m : Nat) (R : List Arg) : zrun (m + 5) [] [107, 61, 60, 33, 45, 45, 124, 45, 45, 62, 125, 125] (Sa R) = Da (Arg.mk true [tx [107]] (parseF [60, 33, 45, 45, 124, 45, 45, 62]) :: R).reverse := by kernel_rfl
def pcs : List (List UInt8 × Arg) := [([], Arg.mk false [] (parseF [])), ([97], Arg.mk false [] (parseF [97])), ([91, 91, 65, 124, 98, 61, 99, 93, 93], Arg.mk false [] (parseF [91, 91, 65, 124, 98, 61, 99, 93, 93])), ([123, 123, 84, 124, 120, 61, 121, 125, 125], Arg.mk false [] (parseF [123, 123, 84, 124, 120, 61, 121, 125, 125])), ([123, 123, 123, 49, 124, 100, 125, 125, 125], Arg.mk false [] (parseF [123, 123, 123, 49, 124, 100, 125, 125, 125])), ([60, 110, 111, 119, 105, 107, 105, 62, 124, 61, 60, 47, 110, 111, 119, 105, 107, 105, 62], Arg.mk false [] (parseF [60, 110, 111, 119, 105, 107, 105, 62, 124, 61, 60, 47, 110, 111, 119, 105, 107, 105, 62])), ([97, 93, 93, 98], Arg.mk false [] (parseF [97, 93, 93, 98])), ([60, 33, 45, 45, 124, 45, 45, 62], Arg.mk false [] (parseF [60, 33, 45, 45, 124, 45, 45, 62])), ([107, 61], Arg.mk true [tx [107]] (parseF [])), ([107, 61, 97], Arg.mk true [tx [107]] (parseF [97])), ([107, 61, 91, 91, 65, 124, 98, 61, 99, 93, 93], Arg.mk true [tx [107]] (parseF [91, 91, 65, 124, 98, 61, 99, 93, 93])), ([107, 61, 123, 123, 84, 124, 120, 61, 121, 125, 125], Arg.mk true [tx [107]] (parseF [123, 123, 84, 124, 120, 61, 121, 125, 125])), ([107, 61, 123, 123, 123, 49, 124, 100, 125, 125, 125], Arg.mk true [tx [107]] (parseF [123, 123, 123, 49, 124, 100, 125, 125, 125])), ([107, 61, 60, 110, 111, 119, 105, 107, 105, 62, 124, 61, 60, 47, 110, 111, 119, 105, 107, 105, 62], Arg.mk true [tx [107]] (parseF [60, 110, 111, 119, 105, 107, 105, 62, 124, 61, 60, 47, 110, 111, 119, 105, 107, 105, 62])), ([107, 61, 97, 93, 93, 98], Arg.mk true [tx [107]] (parseF [97, 93, 93, 98])), ([107, 61, 60, 33, 45, 45, 124, 45, 45, 62], Arg.mk true [tx [107]] (parseF [60, 33, 45, 45, 124, 45, 45, 62]))]
end Go.Ab
/- A call made of pieces. No condition. -/
namespace Go.Ab
set_option linter.unusedVariables false
set_option linter.unusedSimpArgs false

theorem pcs_mid {p : List UInt8 × Arg} (h : p ∈ pcs) : ∃ j, ∀ (m : Nat) (z : List UInt8) (R : List Arg), zrun (m + j) [] (p.1 ++ 124 :: z) (Sa R) = zrun m [] z (Sa (p.2 :: R)) := by
  simp only [pcs, List.mem_cons, List.not_mem_nil, or_false] at h
  rcases h with rfl | rfl | rfl | rfl | rfl | rfl | rfl | rfl | rfl | rfl | rfl | rfl | rfl | rfl | rfl | rfl
  · exact ⟨_, z_mid0⟩
  · exact ⟨_, z_mid1⟩
  · exact ⟨_, z_mid2⟩
  · exact ⟨_, z_mid3⟩
  · exact ⟨_, z_mid4⟩
  · exact ⟨_, z_mid5⟩
  · exact ⟨_, z_mid6⟩
  · exact ⟨_, z_mid7⟩
  · exact ⟨_, z_mid8⟩
  · exact ⟨_, z_mid9⟩
  · exact ⟨_, z_mid10⟩
  · exact ⟨_, z_mid11⟩
  · exact ⟨_, z_mid12⟩
  · exact ⟨_, z_mid13⟩
  · exact ⟨_, z_mid14⟩
  · exact ⟨_, z_mid15⟩
theorem pcs_end {p : List UInt8 × Arg} (h : p ∈ pcs) : ∃ j, ∀ (m : Nat) (R : List Arg), zrun (m + j) [] (p.1 ++ [125, 125]) (Sa R) = Da (p.2 :: R).reverse := by
  simp only [pcs, List.mem_cons, List.not_mem_nil, or_false] at h
  rcases h with rfl | rfl | rfl | rfl | rfl | rfl | rfl | rfl | rfl | rfl | rfl | rfl | rfl | rfl | rfl | rfl
  · exact ⟨_, z_end0⟩
  · exact ⟨_, z_end1⟩
  · exact ⟨_, z_end2⟩
  · exact ⟨_, z_end3⟩
  · exact ⟨_, z_end4⟩
  · exact ⟨_, z_end5⟩
  · exact ⟨_, z_end6⟩
  · exact ⟨_, z_end7⟩
  · exact ⟨_, z_end8⟩
  · exact ⟨_, z_end9⟩
  · exact ⟨_, z_end10⟩
  · exact ⟨_, z_end11⟩
  · exact ⟨_, z_end12⟩
  · exact ⟨_, z_end13⟩
  · exact ⟨_, z_end14⟩
  · exact ⟨_, z_end15⟩
def restP : List (List UInt8 × Arg) → List UInt8
  | [] => []
  | [p] => p.1 ++ [125, 125]
  | p :: q :: r => p.1 ++ 124 :: restP (q :: r)
theorem z_rest : ∀ (ps : List (List UInt8 × Arg)) (R : List Arg) (N : Nat), ps ≠ [] → (∀ p, p ∈ ps → p ∈ pcs) → (restP ps).length < N → zrun N [] (restP ps) (Sa R) = Da (R.reverse ++ ps.map (·.2))
  | [], _, _, h, _, _ => absurd rfl h
  | [p], R, N, _, hp, hl => by
    obtain ⟨j, hj⟩ := pcs_end (hp p (by simp))
    simp only [restP] at hl ⊢
    rw [zrun_fuel N (N + j) _ _ _ hl (by omega), hj]
    simp
  | p :: q :: r, R, N, _, hp, hl => by
    obtain ⟨j, hj⟩ := pcs_mid (hp p (by simp))
    simp only [restP] at hl ⊢
    rw [zrun_fuel N (N + j) _ _ _ hl (by omega), hj]
    rw [z_rest (q :: r) (p.2 :: R) N (by simp) (fun x hx => hp x (by simp [hx])) (by simp at hl; omega)]
    simp
theorem join_rest : ∀ (ps : List (List UInt8 × Arg)), ps ≠ [] → ps.flatMap (fun p => 124 :: p.1) ++ [125, 125] = 124 :: restP ps
  | [], h => absurd rfl h
  | [p], _ => by simp [restP]
  | p :: q :: r, _ => by
    have ih := join_rest (q :: r) (by simp)
    rw [List.flatMap_cons, List.append_assoc, ih]
    simp [restP]
theorem parse_pcs (ps : List (List UInt8 × Arg)) (hp : ∀ p, p ∈ ps → p ∈ pcs) : parseF ([123, 123, 110] ++ ps.flatMap (fun p => 124 :: p.1) ++ [125, 125]) = [.mk 4 0 [] [tx [110]] (ps.map (·.2))] := by
  have fin : ∀ A : List Arg, finF ((Da A).map rv) = [.mk 4 0 [] [tx [110]] A] := fun A => rfl
  rw [z_parse]
  cases ps with
  | nil => rw [show ([123, 123, 110] ++ ([] : List (List UInt8 × Arg)).flatMap (fun p => 124 :: p.1) ++ [125, 125] : List UInt8) = [123, 123, 110, 125, 125] from rfl, show ([123, 123, 110, 125, 125] : List UInt8).length + 1 = 2 + 4 from rfl, z_none, fin]; rfl
  | cons p r =>
    have hj := join_rest (p :: r) (by simp)
    have e : [123, 123, 110] ++ (p :: r).flatMap (fun p => 124 :: p.1) ++ [125, 125] = 123 :: 123 :: 110 :: 124 :: restP (p :: r) := by
      rw [List.append_assoc, hj]; rfl
    rw [e]
    have e2 : (123 :: 123 :: 110 :: 124 :: restP (p :: r) : List UInt8).length + 1 = ((restP (p :: r)).length + 2) + 3 := by simp
    rw [e2, z_start, z_rest (p :: r) [] _ (by simp) hp (by omega), fin]
    simp
end Go.Ab
/- ParseArguments. No condition. -/
namespace Go.Ab
set_option linter.unusedVariables false
set_option linter.unusedSimpArgs false

variable {P : Program} {F T : Nat → Nat}

theorem n47x (K : TC P F T) {L : Heap} {nx p : Nat} (h : TB T L p) (hp : p < nx) (vs : List V) (h2 : 1 ≤ vs.length) (h3 : vs.length ≤ 100) (hi : V.imms vs = true) (hs : strsB 100 vs = true) :
    ECall P (F 47) [.ptr p 0, .lst 1 vs] L nx (fun v L' nx' => (∃ i, i < vs.length ∧ v = vs.getD i .junk) ∧ TD T L nx p L' nx') := by
  refine ecallC [] K.h47 (by simp) ?_
  simp only [c47, push_cast, seval, -Nat.reducePow, decide_true, decide_false]
  refine ecallK_intro (n46 K h (nx := nx + 24) (by omega) vs.length h2 h3) ?_
  rintro v L1 n1 ⟨r, rfl, hr, hT⟩
  obtain ⟨q, hq, hb⟩ := strsB_at hs hr
  have z := hT.dn (nx := nx) (by omega)
  simp only [push_cast, seval, -Nat.reducePow, decide_true, decide_false, hq]
  exact ⟨hr, by have := z.le; omega, ⟨r, hr, hq.symm⟩, z.up (by omega)⟩
def vals : List (List UInt8) := [[], [97], [91, 91, 65, 124, 98, 61, 99, 93, 93], [123, 123, 84, 124, 120, 61, 121, 125, 125], [123, 123, 123, 49, 124, 100, 125, 125, 125], [60, 110, 111, 119, 105, 107, 105, 62, 124, 61, 60, 47, 110, 111, 119, 105, 107, 105, 62], [97, 93, 93, 98], [60, 33, 45, 45, 124, 45, 45, 62]]
theorem vals_at {i : Nat} (hi : i < (vals.map V.str).length) : ∃ v, v ∈ vals ∧ (vals.map V.str).getD i .junk = .str v := by
  have h : i < vals.length := by simpa using hi
  exact ⟨vals[i], List.getElem_mem h, by simp [List.getD, h]⟩
theorem vals_pcs {v : List UInt8} (h : v ∈ vals) : (v, Arg.mk false [] (parseF v)) ∈ pcs ∧ ([107, 61] ++ v, Arg.mk true [tx [107]] (parseF v)) ∈ pcs ∧ v.length ≤ 20 := by
  simp only [vals, List.mem_cons, List.not_mem_nil, or_false] at h
  rcases h with rfl | rfl | rfl | rfl | rfl | rfl | rfl | rfl <;> simp [pcs]
theorem pcs_len {p : List UInt8 × Arg} (h : p ∈ pcs) : p.1.length ≤ 24 := by
  simp only [pcs, List.mem_cons, List.not_mem_nil, or_false] at h
  rcases h with rfl | rfl | rfl | rfl | rfl | rfl | rfl | rfl | rfl | rfl | rfl | rfl | rfl | rfl | rfl | rfl <;> simp
theorem flat_len : ∀ {ps : List (List UInt8 × Arg)}, (∀ p, p ∈ ps → p ∈ pcs) → (ps.flatMap (fun p => 124 :: p.1)).length ≤ 25 * ps.length
  | [], _ => by simp
  | p :: r, h => by
    have h1 := pcs_len (h p (by simp))
    have h2 := flat_len (ps := r) (fun x hx => h x (by simp [hx]))
    simp only [List.flatMap_cons, List.length_append, List.length_cons]
    omega
theorem law45 (hf : Is45 P F T) (H : P4 P F) (R : RC P F T) (K : TC P F T) (h39 : Is39 P F T) (es : List V) (hi : V.imms es = true) (hes : ∀ e, e ∈ es → ∃ m, e = .int .i64 m) : PTr P (F 45) [.lst 1 es] (.bool true) := by
  refine ptr_len fun hl => ?_
  refine ptrC [] hf (by simp [hi]) rfl ?_
  simp only [c45, push_cast, seval, -Nat.reducePow, decide_true, decide_false]
  refine ecallK_intro (n39 h39 es hi hes hl) ?_
  rintro v L0 n0 ⟨p, rfl, hp, hn, hT⟩
  simp only [push_cast, seval, -Nat.reducePow, decide_true, decide_false]
  refine loopK_intro (fun m s => ∃ ps id vs, (∀ p, p ∈ ps → p ∈ pcs) ∧ ps.length ≤ 4 ∧ m = 5 - ps.length ∧ s.env 3 = .ptr p 0 ∧ s.env 4 = .str ([123, 123, 110] ++ ps.flatMap (fun p => 124 :: p.1)) ∧ s.env 5 = .own id 3 0 ps.length ∧ s.L id = some (.vec (T 1) 3 vs) ∧ V.leL vs (encA (ps.map (·.2))) ∧ V.imms vs = true ∧ s.env 6 = .int .i64 ps.length ∧ id < s.nx ∧ p < s.nx ∧ id ≠ p ∧ TB T s.L p) 5 ⟨[], n0 + 198, [], ?_⟩ fun m s hJ => ?_
  · simp only [push_cast, seval, -Nat.reducePow, decide_true, decide_false]
    refine ⟨by simp, by simp [encA, V.leL], by omega, by omega, by omega, ?_⟩
    obtain ⟨es, a, q1, q2⟩ := hT
    exact ⟨es, a, by rw [upd_ne _ _ _ _ (by omega)]; exact q1, q2⟩
  · obtain ⟨ps, id, vs, hps, hpl, rfl, j3, j4, j5, hL, hle, hvi, j6, hid, hpn, hne, hTB⟩ := hJ
    simp only [push_cast, seval, -Nat.reducePow, decide_true, decide_false, j3, j4, j5, j6]
    refine ecallK_intro (n46 K (nx := s.nx + 66) hTB (by omega) 5 (by omega) (by omega)) ?_
    rintro v L1 n1 ⟨r, rfl, hr, hT1⟩
    by_cases hjr : ps.length < r
    · have hjr' : ((ps.length : Nat) : Int) < (r : Nat) := by omega
      simp only [push_cast, seval, -Nat.reducePow, decide_true, decide_false, j3, j4, j5, j6, hjr']
      refine ecallK_intro (n47x K (nx := n1 + 132) hT1.tb (by have := hT1.le; omega) (vals.map V.str) (by decide) (by decide) rfl rfl) ?_
      rintro v L2 n2 ⟨⟨i, hi2, rfl⟩, hT2⟩
      obtain ⟨w, hw, hw2⟩ := vals_at hi2
      obtain ⟨w1, w2, w3⟩ := vals_pcs hw
      rw [hw2]
      refine callK_intro (r37 R w (by omega)) (by simp only [push_cast, seval, -Nat.reducePow, decide_true, decide_false]) (by simp only [push_cast, seval, -Nat.reducePow, decide_true, decide_false, imms_encs]) ?_
      simp only [push_cast, seval, -Nat.reducePow, decide_true, decide_false, j3, j4, j5, j6]
      have le1 := hT1.le
      have le2 := hT2.le
      have hL2 : L2 id = some (.vec (T 1) 3 vs) := by rw [hT2.fr id (by omega) hne, hT1.fr id (by omega) hne]; exact hL
      refine cutK_intro (fun s1 => ∃ q b bb nm v, (q, Arg.mk bb nm v) ∈ pcs ∧ s1.env 3 = .ptr p 0 ∧ s1.env 4 = .str ([123, 123, 110] ++ ps.flatMap (fun p => 124 :: p.1)) ∧ s1.env 5 = .own id 3 0 ps.length ∧ s1.env 6 = .int .i64 ps.length ∧ s1.env 7 = .str q ∧ s1.env 10 = .ptr b 0 ∧ s1.L b = some (.box (T 1) [.bool bb, ln 5 (vns nm), .lst 5 (encs v)]) ∧ b ≠ id ∧ b < s1.nx ∧ s1.L id = some (.vec (T 1) 3 vs) ∧ id < s1.nx ∧ p < s1.nx ∧ TB T s1.L p) ?_ ?_
      · have hTB2 : ∀ x y, TB T (upd (upd L2 (n2 + 142) x) (n2 + 142) y) p := fun x y => by
          obtain ⟨es, a, q1, q2⟩ := hT2.tb
          exact ⟨es, a, by rw [upd_ne _ _ _ _ (by omega), upd_ne _ _ _ _ (by omega)]; exact q1, q2⟩
        simp only [push_cast, seval, -Nat.reducePow, decide_true, decide_false, j3, j4, j5, j6]
        refine ecallK_intro (n46 K (nx := n2 + 264) (hTB2 _ _) (by omega) 2 (by omega) (by omega)) ?_
        rintro v L3 n3 ⟨r3, rfl, hr3, hT3⟩
        have le3 := hT3.le
        have hb3 : L3 (n2 + 142) = some (.box (T 1) [.bool false, .nils, .lst 5 (encs (parseF w))]) := by rw [hT3.fr _ (by omega) (by omega)]; exact upd_same _ _ _
        have hi3 : L3 id = some (.vec (T 1) 3 vs) := by rw [hT3.fr id (by omega) hne, upd_ne _ _ _ _ (by omega), upd_ne _ _ _ _ (by omega)]; exact hL2
        simp only [push_cast, seval, -Nat.reducePow, decide_true, decide_false, j3, j4, j5, j6]
        refine condK_dec (fun g => ?_) (fun g => ?_)
        · simp only [push_cast, seval, -Nat.reducePow, decide_true, decide_false, j3, j4, j5, j6]
          refine callK_intro (H.word [107]) (by simp only [push_cast, seval, -Nat.reducePow, decide_true, decide_false]) imm_lv ?_
          simp only [push_cast, seval, -Nat.reducePow, decide_true, decide_false, j3, j4, j5, j6, hb3]
          refine ⟨by omega, [107, 61] ++ w, n2 + 142, true, [tx [107]], parseF w, w2, rfl, rfl, upd_same _ _ _, by omega, by omega, ?_, by omega, by omega, ?_⟩
          · rw [upd_ne _ _ _ _ (by omega), upd_ne _ _ _ _ (by omega)]; exact hi3
          · obtain ⟨es, a, q1, q2⟩ := hT3.tb
            exact ⟨es, a, by rw [upd_ne _ _ _ _ (by omega), upd_ne _ _ _ _ (by omega)]; exact q1, q2⟩
        · simp only [push_cast, seval, -Nat.reducePow, decide_true, decide_false, j3, j4, j5, j6, hb3]
          exact ⟨w, n2 + 142, false, [], parseF w, w1, rfl, rfl, hb3, by omega, by omega, hi3, by omega, by omega, hT3.tb⟩
      · rintro s1 ⟨q, b, bb, nm, v, hqa, k3, k4, k5, k6, k7, k10, kb, hbi, hbn, kid, kin, kpn, kTB⟩
        simp only [push_cast, seval, -Nat.reducePow, decide_true, decide_false, k3, k4, k5, k6, k7, k10, kb, kid, imm_ln, imms_vns]
        have hfl := flat_len hps
        have hql := pcs_len hqa
        have hvl : vs.length = ps.length := by rw [leL_length hle, encA_length, List.length_map]
        have x2 : List.take ps.length vs = vs := List.take_of_length_le (by omega)
        have hql' : q.length ≤ 24 := hql
        rw [x2]
        refine ⟨by omega, by omega, by omega, by simp only [List.length_append, List.length_singleton]; omega, ⟨by omega, by omega⟩, 5 - (ps.length + 1), by omega, ps ++ [(q, .mk bb nm v)], s1.nx + 42, vs ++ [.agg [.bool bb, ln 5 (vns nm), .lst 5 (encs v)]], ?_, ?_, ?_, ?_, ?_, upd_same _ _ _, ?_, ?_, ?_, by omega, by omega, by omega, ?_⟩
        · intro y hy
          rw [List.mem_append] at hy
          rcases hy with hy | hy
          · exact hps y hy
          · rw [List.mem_singleton.1 hy]; exact hqa
        · simp; omega
        · simp
        · simp
        · simp
        · rw [List.map_append, encA_append]
          refine leL_append hle ?_
          simp only [List.map_cons, List.map_nil, encA, Arg.cs, leL_cons, leL_nil, and_true, le_agg]
          exact ⟨V.le_refl _, le_ln (le_vns _), V.le_refl _⟩
        · simp [imms_append, hvi, V.imms, V.imm, imm_ln, imms_vns, imms_encs]
        · simp
        · obtain ⟨es, a, q1, q2⟩ := kTB
          exact ⟨es, a, by rw [upd_ne _ _ _ _ (by omega), upd_ne _ _ _ _ (by omega)]; exact q1, q2⟩
    · have hjr' : ¬ ((ps.length : Nat) : Int) < (r : Nat) := by omega
      simp only [push_cast, seval, -Nat.reducePow, decide_true, decide_false, j3, j4, j5, j6, hjr']
      have hle1 := hT1.le
      refine fz_own (id := id) (ty := T 1) (z := 3) (es := vs) (by simp only [push_cast, seval, -Nat.reducePow, decide_true, decide_false]; rw [hT1.fr id (by omega) hne]; exact hL) hvi fun s' f1 f2 f3 => ?_
      have hfl := flat_len hps
      have hvl : vs.length = ps.length := by rw [leL_length hle, encA_length, List.length_map]
      have e4 := f2 4
      have e5 := f2 5
      have x2 : List.take ps.length vs = vs := List.take_of_length_le (by omega)
      simp only [push_cast, seval, -Nat.reducePow, decide_true, decide_false, j4, j5, V.fz, x2] at e4 e5
      have hpp := parse_pcs ps hps
      have hvl2 : ps.length ≤ vs.length := by omega
      rw [if_pos hvl2] at e5
      simp only [push_cast, seval, -Nat.reducePow, decide_true, decide_false, e4, e5]
      refine ⟨by omega, ?_⟩
      have hT0 : (123 :: 123 :: 110 :: (ps.flatMap (fun p => 124 :: p.1) ++ [125, 125]) : List UInt8) = [123, 123, 110] ++ ps.flatMap (fun p => 124 :: p.1) ++ [125, 125] := by simp
      rw [hT0]
      have hTl : ([123, 123, 110] ++ ps.flatMap (fun p => 124 :: p.1) ++ [125, 125] : List UInt8).length ≤ 200 := by simp only [List.length_append, List.length_cons, List.length_nil]; omega
      have hb := parseF_bulk ([123, 123, 110] ++ ps.flatMap (fun p => 124 :: p.1) ++ [125, 125])
      generalize ([123, 123, 110] ++ ps.flatMap (fun p => 124 :: p.1) ++ [125, 125] : List UInt8) = W at *
      refine callK_intro (H.parse W (by omega)) (by simp only [push_cast, seval, -Nat.reducePow, decide_true, decide_false]) (by simp only [push_cast, seval, -Nat.reducePow, decide_true, decide_false, imm_ln, imms_vns]) ?_
      rw [hpp] at hb ⊢
      simp only [push_cast, seval, -Nat.reducePow, decide_true, decide_false, e4, e5]
      refine callK_intro (H.word [110]) (by simp only [push_cast, seval, -Nat.reducePow, decide_true, decide_false]) imm_lv ?_
      simp only [push_cast, seval, -Nat.reducePow, decide_true, decide_false, e4, e5]
      refine callK_le (H.eq [.mk 4 0 [] [tx [110]] (ps.map (·.2))] [.mk 4 0 [] [tx [110]] (ps.map (·.2))] (by omega)) ?_ ?_ (by simp only [push_cast, seval, -Nat.reducePow, decide_true, decide_false]) ?_
      · simp only [leL_cons, leL_nil, and_true]
        refine ⟨le_ln (le_vns _), ?_⟩
        simp only [le_lst, encs, Node.cs, leL_cons, leL_nil, and_true, le_agg]
        exact ⟨V.le_refl _, V.le_refl _, V.le_refl _, le_vns _, hle⟩
      · simp only [push_cast, seval, -Nat.reducePow, decide_true, decide_false, imm_ln, imms_vns, hvi]
      · rw [eqB_self]
        simp only [push_cast, seval, -Nat.reducePow, decide_true, decide_false]
        refine callK_intro H.known (by simp only [push_cast, seval, -Nat.reducePow, decide_true, decide_false]) (by simp only [push_cast, seval, -Nat.reducePow, decide_true, decide_false]) ?_
        simp only [push_cast, seval, -Nat.reducePow, decide_true, decide_false, view]
end Go.Ab
