/- Several texts of one kind, merged. No condition. -/
import Derived.Test.YtchchhmmaioffaaDoorAbZ1
import Derived.KernelRfl
import Derived.Test.YtchchhmmaioffaaDoorAbR6
import Derived.Test.YtchchhmmaioffaaDoorAbR8
/- Sections: headings by their numbers; texts that have none. No condition. -/
namespace Go.Ab
set_option linter.unusedVariables false
set_option linter.unusedSimpArgs false

def hName (n : Nat) : List UInt8 := if n = 0 then [120] else if n = 1 then [97, 32, 98] else if n = 2 then [49] else [120, 61, 121]
def hBlank (n : Nat) : List UInt8 := if n = 0 then [] else if n = 1 then [32] else if n = 2 then [9] else [32, 32]
def hText (a b n m : Nat) : List UInt8 := List.replicate a 61 ++ hBlank m ++ hName n ++ hBlank m ++ List.replicate b 61 ++ hBlank m ++ [10]
def hLev (a b : Nat) : Nat := min a (min b 6)
def hWant (a b n m : Nat) : List UInt8 := List.replicate (a - hLev a b) 61 ++ hBlank m ++ hName n ++ hBlank m ++ List.replicate (b - hLev a b) 61
def hOk (a b n m : Nat) : Bool := (hText a b n m).all (fun c => c != 125 && c != 93 && c != 60) && match rawF (hText a b n m) (List.replicate (hText a b n m).length true) ((hText a b n m).length + 1) 0 with
  | [x] => x.lev == hLev a b && x.title == Go.Lib.trimS (hWant a b n m) wsp && x.fr == 0 && x.bd == x.to
  | _ => false
def hAll : Bool := (List.range 8).all fun a => (List.range 8).all fun b => (List.range 4).all fun n => (List.range 4).all fun m => hOk (a + 1) (b + 1) n m
theorem h_all : hAll = true := by kernel_rfl
theorem h_ok {a b n m : Nat} (ha : 1 ≤ a) (ha8 : a ≤ 8) (hb : 1 ≤ b) (hb8 : b ≤ 8) (hn : n < 4) (hm : m < 4) : hOk a b n m = true := by
  have h := h_all
  unfold hAll at h
  have h1 := List.all_eq_true.1 h (a - 1) (List.mem_range.2 (by omega))
  have h2 := List.all_eq_true.1 h1 (b - 1) (List.mem_range.2 (by omega))
  have h3 := List.all_eq_true.1 h2 n (List.mem_range.2 hn)
  have h4 := List.all_eq_true.1 h3 m (List.mem_range.2 hm)
  rwa [show a - 1 + 1 = a by omega, show b - 1 + 1 = b by omega] at h4
theorem plain_tx (s : List UInt8) : plainF [tx s] = List.replicate s.length true := by
  simp [plainF, src_tx, tx, Node.kind]
  simp [Node.src]
theorem sect_head {a b n m : Nat} (ha : 1 ≤ a) (ha8 : a ≤ 8) (hb : 1 ≤ b) (hb8 : b ≤ 8) (hn : n < 4) (hm : m < 4) :
    ∃ d, sectF (hText a b n m) = [⟨hLev a b, Go.Lib.trimS (hWant a b n m) wsp, 0, d, d⟩] := by
  have h := h_ok ha ha8 hb hb8 hn hm
  simp only [hOk, Bool.and_eq_true] at h
  obtain ⟨h1, h2⟩ := h
  have hne : hText a b n m ≠ [] := by simp [hText]
  have hp := parse_open (s := hText a b n m) (fun c hc => by
    have := List.all_eq_true.1 h1 c hc
    simp only [Bool.and_eq_true, bne_iff_ne, ne_eq] at this
    exact ⟨this.1.1, this.1.2, this.2⟩)
  rw [if_neg hne] at hp
  have hs : sectF (hText a b n m) = toF (rawF (hText a b n m) (List.replicate (hText a b n m).length true) ((hText a b n m).length + 1) 0) := by rw [sectF, hp, plain_tx]
  rw [hs]
  split at h2
  · rename_i x hx
    rw [hx]
    simp only [Bool.and_eq_true, beq_iff_eq] at h2
    obtain ⟨⟨⟨g1, g2⟩, g3⟩, g4⟩ := h2
    refine ⟨x.to, ?_⟩
    obtain ⟨l, t, f, d, o⟩ := x
    simp only at g1 g2 g3 g4
    subst g1 g2 g3 g4
    rfl
  · cases h2
end Go.Ab
/- Sections: comments, calls and tags hide them. No condition. -/
namespace Go.Ab
set_option linter.unusedVariables false
set_option linter.unusedSimpArgs false

def NoSp (s : List UInt8) : Prop := ∀ b, b ∈ s → b ≠ 123 ∧ b ≠ 125 ∧ b ≠ 91 ∧ b ≠ 93 ∧ b ≠ 60 ∧ b ≠ 62
theorem idxF_end : ∀ (s : List UInt8) (i : Nat), (∀ b, b ∈ s → b ≠ 62) → idxF [45, 45, 62] (s ++ [45, 45, 62]) i = some (i + s.length)
  | [], i, _ => by simp [idxF, List.isPrefixOf]
  | x :: r, i, h => by
    have ih := idxF_end r (i + 1) (fun b hb => h b (by simp [hb]))
    have hno : List.isPrefixOf [45, 45, 62] (x :: r ++ [45, 45, 62]) = false := by
      match r, h with
      | [], _ => simp [List.isPrefixOf]
      | [y], _ => simp [List.isPrefixOf]
      | y :: z :: w, h =>
        have hz := h z (by simp)
        simp only [List.cons_append, List.isPrefixOf, Bool.and_eq_false_imp]
        intro _ _
        have : ((62 : UInt8) == z) = false := by rw [beq_eq_false_iff_ne]; exact fun e => hz e.symm
        rw [this]; simp
    simp only [List.cons_append, idxF]
    rw [List.cons_append] at hno
    rw [hno]
    simp only [Bool.false_eq_true, if_false, ih, List.length_cons]
    congr 1
    omega
theorem parse_comment {s : List UInt8} (h : NoSp s) : ∃ q, parseF ([60, 33, 45, 45] ++ s ++ [45, 45, 62]) = [.mk 2 0 q [] []] := by
  have h1 : firstF ([60, 33, 45, 45] ++ s ++ [45, 45, 62]) = (9, s.length + 7) := by
    have e : idxF [45, 45, 62] (([60, 33, 45, 45] ++ s ++ [45, 45, 62] : List UInt8).drop 4) 0 = some s.length := by
      have := idxF_end s 0 (fun b hb => (h b hb).2.2.2.2.2)
      simpa using this
    show angleF ([60, 33, 45, 45] ++ s ++ [45, 45, 62]) = _
    unfold angleF
    rw [if_pos (by simp [List.isPrefixOf]), e]
    simp only [Prod.mk.injEq, true_and]
    omega
  have hl : ([60, 33, 45, 45] ++ s ++ [45, 45, 62] : List UInt8).length = s.length + 7 := by simp
  generalize ([60, 33, 45, 45] ++ s ++ [45, 45, 62] : List UInt8) = t at *
  have hs : scan t = [⟨9, 0, t.length⟩] := by
    rw [scan, hl]
    show scanF t (s.length + 7 + 1) 0 0 = _
    rw [scanF]
    rw [if_pos (by omega), List.drop_zero, h1]
    simp only [Nat.reduceEqDiff, if_false, Nat.lt_irrefl, List.nil_append, Nat.zero_add]
    rw [scanF, if_neg (by omega), if_neg (by omega)]
  refine ⟨(Tok.mk 9 0 t.length).text t, ?_⟩
  rw [parseF, hs]
  rfl
def Tok.mid (t : Tok) : Prop := t.kind = 1 ∨ t.kind = 2 ∨ t.kind = 7 ∨ t.kind = 8
theorem takeF_mid {s : List UInt8} {t : Tok} (h : t.mid) (e : El) (he : e.kind = 3) (hc : e.count = 2) (r : List El) : ∃ e', takeF s t (e :: r) = e' :: r ∧ e'.kind = 3 ∧ e'.count = 2 := by
  have add : ∀ q, ∃ e', addS (tx q) (e :: r) = e' :: r ∧ e'.kind = 3 ∧ e'.count = 2 := fun q => by
    refine ⟨e.add (tx q), rfl, ?_, ?_⟩ <;> (simp only [El.add]; split <;> assumption)
  rcases h with h | h | h | h
  · simp only [takeF, h, Nat.reduceEqDiff, if_false]; exact add _
  · simp only [takeF, h, Nat.reduceEqDiff, if_false]; exact add _
  · simp only [takeF, h, Nat.reduceEqDiff, if_false, if_true, barF, he]
    exact ⟨_, rfl, rfl, hc⟩
  · simp only [takeF, h, Nat.reduceEqDiff, if_false, if_true, eqF]
    split
    · exact ⟨_, rfl, he, hc⟩
    · exact add _
theorem runF_mid {s : List UInt8} : ∀ {l : List Tok} (e : El) (r : List El), (∀ t, t ∈ l → t.mid) → e.kind = 3 → e.count = 2 → ∃ e', runF s l (e :: r) = e' :: r ∧ e'.kind = 3 ∧ e'.count = 2
  | [], e, r, _, he, hc => ⟨e, rfl, he, hc⟩
  | t :: l, e, r, h, he, hc => by
    obtain ⟨e1, h1, h2, h3⟩ := takeF_mid (s := s) (h t (by simp)) e he hc r
    obtain ⟨e2, h4, h5⟩ := runF_mid (s := s) (l := l) e1 r (fun x hx => h x (by simp [hx])) h2 h3
    refine ⟨e2, ?_, h5⟩
    rw [← h4, ← h1]; rfl
theorem first_mid {c : UInt8} {r : List UInt8} (h : c ≠ 123 ∧ c ≠ 125 ∧ c ≠ 91 ∧ c ≠ 93 ∧ c ≠ 60) : firstF (c :: r) = (0, 0) ∨ firstF (c :: r) = (7, 1) ∨ firstF (c :: r) = (8, 1) ∨ firstF (c :: r) = (2, 1) := by
  obtain ⟨h1, h2, h3, h4, h5⟩ := h
  simp only [firstF, h1, h2, h3, h4, h5, if_false]
  split
  · exact .inr (.inl rfl)
  · split
    · exact .inr (.inr (.inl rfl))
    · split
      · exact .inr (.inr (.inr rfl))
      · exact .inl rfl
theorem scan_mid {T m : List UInt8} (hT : T = [123, 123] ++ m ++ [125, 125]) (hm : ∀ b, b ∈ m → b ≠ 123 ∧ b ≠ 125 ∧ b ≠ 91 ∧ b ≠ 93 ∧ b ≠ 60) :
    ∀ (n t i : Nat), 2 ≤ i → i ≤ m.length + 2 → t ≤ i → m.length + 4 < n + i → ∃ l, scanF T n t i = l ++ [⟨4, m.length + 2, m.length + 4⟩] ∧ ∀ x, x ∈ l → x.mid
  | 0, t, i, h2, hi, ht, hn => by omega
  | n + 1, t, i, h2, hi, ht, hn => by
    have hl : T.length = m.length + 4 := by rw [hT]; simp
    rw [scanF, if_pos (by omega)]
    by_cases he : i = m.length + 2
    · have hd : T.drop i = [125, 125] := by
        rw [hT, he, List.append_assoc, List.drop_append, List.drop_append]
        simp
      rw [hd]
      have hf : firstF [125, 125] = (4, 2) := by decide
      rw [hf]
      simp only [Nat.reduceEqDiff, if_false]
      have hz : scanF T n (i + 2) (i + 2) = [] := by
        cases n with
        | zero => rfl
        | succ n => rw [scanF, if_neg (by omega), if_neg (by omega)]
      rw [hz]
      refine ⟨if t < i then [⟨1, t, i⟩] else [], by rw [he], fun x hx => ?_⟩
      split at hx
      · rw [List.mem_singleton] at hx; subst hx; exact .inl rfl
      · simp at hx
    · obtain ⟨c, r, hd, hc⟩ : ∃ c r, T.drop i = c :: r ∧ c ∈ m := by
        have hlt : i - 2 < m.length := by omega
        refine ⟨m[i - 2], m.drop (i - 2 + 1) ++ [125, 125], ?_, List.getElem_mem hlt⟩
        rw [hT, List.append_assoc, List.drop_append]
        have e1 : List.drop i [123, 123] = ([] : List UInt8) := List.drop_eq_nil_of_le (by simpa using h2)
        rw [e1, List.nil_append]
        simp only [List.length_cons, List.length_nil, Nat.zero_add, Nat.reduceAdd]
        rw [List.drop_append_of_le_length (by omega), List.drop_eq_getElem_cons hlt]
        rfl
      rw [hd]
      have hk := first_mid (r := r) (hm c hc)
      by_cases h0 : firstF (c :: r) = (0, 0)
      · rw [h0]
        simp only [if_true]
        exact scan_mid hT hm n t (i + 1) (by omega) (by omega) (by omega) (by omega)
      · obtain ⟨k, hkk, hf⟩ : ∃ k, (k = 7 ∨ k = 8 ∨ k = 2) ∧ firstF (c :: r) = (k, 1) := by
          rcases hk with hk | hk | hk | hk
          · exact absurd hk h0
          · exact ⟨7, by simp, hk⟩
          · exact ⟨8, by simp, hk⟩
          · exact ⟨2, by simp, hk⟩
        rw [hf]
        have hk0 : ¬ k = 0 := by omega
        simp only [hk0, if_false]
        obtain ⟨l, hl2, hlm⟩ := scan_mid hT hm n (i + 1) (i + 1) (by omega) (by omega) (by omega) (by omega)
        rw [hl2]
        refine ⟨(if t < i then [⟨1, t, i⟩] else []) ++ ⟨k, i, i + 1⟩ :: l, by simp, fun x hx => ?_⟩
        rw [List.mem_append, List.mem_cons] at hx
        rcases hx with hx | rfl | hx
        · split at hx
          · rw [List.mem_singleton] at hx; subst hx; exact .inl rfl
          · simp at hx
        · rcases hkk with rfl | rfl | rfl
          · exact .inr (.inr (.inl rfl))
          · exact .inr (.inr (.inr rfl))
          · exact .inr (.inl rfl)
        · exact hlm x hx
theorem parse_call {x : UInt8} {m : List UInt8} (hm : ∀ b, b ∈ x :: m → b ≠ 123 ∧ b ≠ 125 ∧ b ≠ 91 ∧ b ≠ 93 ∧ b ≠ 60) : ∃ ks av, parseF ([123, 123] ++ x :: m ++ [125, 125]) = [.mk 4 0 [] ks av] := by
  obtain ⟨T, hT⟩ : ∃ T : List UInt8, T = [123, 123] ++ x :: m ++ [125, 125] := ⟨_, rfl⟩
  have hl : T.length = (x :: m).length + 4 := by rw [hT]; simp
  have hf : firstF T = (3, 2) := by
    have hx := (hm x (by simp)).1
    rw [hT]
    simp [firstF, runL, hx]
  obtain ⟨l, hs, hlm⟩ := scan_mid hT hm ((x :: m).length + 4) 2 2 (by omega) (by omega) (by omega) (by omega)
  have hsc : scan T = ⟨3, 0, 2⟩ :: (l ++ [⟨4, (x :: m).length + 2, (x :: m).length + 4⟩]) := by
    rw [scan, hl, scanF, if_pos (by rw [hl]; omega), List.drop_zero, hf]
    simp only [Nat.reduceEqDiff, if_false, Nat.lt_irrefl, List.nil_append, Nat.zero_add]
    rw [hs]
  have ht1 : (Tok.mk 3 0 2).text T = [123, 123] := by rw [hT]; simp [Tok.text]
  have ht2 : (Tok.mk 4 ((x :: m).length + 2) ((x :: m).length + 4)).text T = [125, 125] := by
    rw [hT]
    simp only [Tok.text]
    rw [List.take_of_length_le (by simp), List.append_assoc, List.drop_append, List.drop_append]
    simp
  rw [← hT, parseF, hsc]
  have e1 : takeF T ⟨3, 0, 2⟩ [root] = [⟨3, 0, 2, [], []⟩, root] := by
    simp only [takeF, Nat.reduceEqDiff, if_false, if_true, ht1]
    rfl
  obtain ⟨e', h1, h2, h3⟩ := runF_mid (s := T) (l := l) ⟨3, 0, 2, [], []⟩ [root] hlm rfl rfl
  have e2 : runF T (⟨3, 0, 2⟩ :: (l ++ [⟨4, (x :: m).length + 2, (x :: m).length + 4⟩])) [root] = takeF T ⟨4, (x :: m).length + 2, (x :: m).length + 4⟩ [e', root] := by
    have : runF T (⟨3, 0, 2⟩ :: (l ++ [⟨4, (x :: m).length + 2, (x :: m).length + 4⟩])) [root] = runF T (l ++ [⟨4, (x :: m).length + 2, (x :: m).length + 4⟩]) (takeF T ⟨3, 0, 2⟩ [root]) := rfl
    rw [this, e1, runF, List.foldl_append]
    rw [runF] at h1
    rw [h1]; rfl
  rw [e2]
  have e3 : takeF T ⟨4, (x :: m).length + 2, (x :: m).length + 4⟩ [e', root] = closeF 2 2 [e', root] := by
    simp only [takeF, Nat.reduceEqDiff, if_false, if_true, ht2]
    rfl
  rw [e3]
  obtain ⟨k, tg, c, ls, av⟩ := e'
  simp only at h2 h3
  subst h2 h3
  exact ⟨ls, av, rfl⟩

theorem scanF_mids {s : List UInt8} (h : ∀ b, b ∈ s → b ≠ 123 ∧ b ≠ 125 ∧ b ≠ 91 ∧ b ≠ 93 ∧ b ≠ 60) : ∀ (n t i : Nat), t ≤ i → ∀ x, x ∈ scanF s n t i → x.mid
  | 0, t, i, _, x, hx => by simp [scanF] at hx
  | n + 1, t, i, ht, x, hx => by
    rw [scanF] at hx
    by_cases hi : i < s.length
    · rw [if_pos hi, List.drop_eq_getElem_cons hi] at hx
      have hk := first_mid (r := s.drop (i + 1)) (h s[i] (List.getElem_mem hi))
      by_cases h0 : firstF (s[i] :: s.drop (i + 1)) = (0, 0)
      · rw [h0] at hx
        simp only [if_true] at hx
        exact scanF_mids h n t (i + 1) (by omega) x hx
      · obtain ⟨k, hkk, hf⟩ : ∃ k, (k = 7 ∨ k = 8 ∨ k = 2) ∧ firstF (s[i] :: s.drop (i + 1)) = (k, 1) := by
          rcases hk with hk | hk | hk | hk
          · exact absurd hk h0
          · exact ⟨7, by simp, hk⟩
          · exact ⟨8, by simp, hk⟩
          · exact ⟨2, by simp, hk⟩
        rw [hf] at hx
        have hk0 : ¬ k = 0 := by omega
        simp only [hk0, if_false] at hx
        rw [List.mem_append, List.mem_cons] at hx
        rcases hx with hx | rfl | hx
        · split at hx
          · rw [List.mem_singleton] at hx; subst hx; exact .inl rfl
          · simp at hx
        · rcases hkk with rfl | rfl | rfl
          · exact .inr (.inr (.inl rfl))
          · exact .inr (.inr (.inr rfl))
          · exact .inr (.inl rfl)
        · exact scanF_mids h n _ _ (Nat.le_refl _) x hx
    · rw [if_neg hi] at hx
      split at hx
      · rw [List.mem_singleton] at hx; subst hx; exact .inl rfl
      · simp at hx
theorem opensL_mid : ∀ {l : List Tok}, (∀ x, x ∈ l → x.mid) → opensL l = 0
  | [], _ => rfl
  | t :: l, h => by
    have ih := opensL_mid (l := l) (fun x hx => h x (by simp [hx]))
    have ht := h t (by simp)
    have : t.opens = 0 := by
      rcases ht with h | h | h | h <;> simp [Tok.opens, h]
    simp [opensL, ih, this]
theorem hid1 {s : List UInt8} (h : NoSp s) : sectF ([60, 33, 45, 45] ++ s ++ [45, 45, 62]) = [] := by
  obtain ⟨q, hq⟩ := parse_comment h
  exact sect_none hq (by simp [Node.kind])
theorem hid2 {s : List UInt8} (h : NoSp s) : sectF ([123, 123, 120, 124, 10] ++ s ++ [10, 125, 125]) = [] := by
  have e : [123, 123, 120, 124, 10] ++ s ++ [10, 125, 125] = [123, 123] ++ 120 :: ([124, 10] ++ s ++ [10]) ++ [125, 125] := by simp
  obtain ⟨ks, av, hq⟩ := parse_call (x := 120) (m := [124, 10] ++ s ++ [10]) (by
    intro b hb
    simp only [List.mem_cons, List.mem_append, List.not_mem_nil, or_false] at hb
    rcases hb with rfl | ((rfl | rfl) | hb) | rfl
    · decide
    · decide
    · decide
    · exact ⟨(h b hb).1, (h b hb).2.1, (h b hb).2.2.1, (h b hb).2.2.2.1, (h b hb).2.2.2.2.1⟩
    · decide)
  rw [e]
  exact sect_none hq (by simp [Node.kind])
theorem hid3 {s : List UInt8} (h : NoSp s) : sectF ([60, 110, 111, 105, 110, 99, 108, 117, 100, 101, 62] ++ s ++ [60, 47, 110, 111, 105, 110, 99, 108, 117, 100, 101, 62]) = [] := by
  have hm : ∀ b, b ∈ s → b ≠ 123 ∧ b ≠ 125 ∧ b ≠ 91 ∧ b ≠ 93 ∧ b ≠ 60 := fun b hb => ⟨(h b hb).1, (h b hb).2.1, (h b hb).2.2.1, (h b hb).2.2.2.1, (h b hb).2.2.2.2.1⟩
  have hq := parse_tag (s := s) (fun b hb => (h b hb).2.2.2.2.1) (k := 1) (by omega) (by omega) (by have := opensL_mid (scanF_mids hm (s.length + 1) 0 0 (Nat.le_refl _)); rw [scan, this]; omega)
  exact sect_none (n := .mk 6 1 [] (parseF s) []) hq (by simp [Node.kind])
end Go.Ab
/- SectionFind, SectionHeadings, SectionHidden. No condition. -/
namespace Go.Ab
set_option linter.unusedVariables false
set_option linter.unusedSimpArgs false

variable {P : Program} {F T : Nat → Nat}
open Go.Lib

structure QSec where
  a : Int
  t : List UInt8
  b : Int
  c : Int
  d : Int
def QSec.v (q : QSec) : V := .agg [.int .i64 q.a, .str q.t, .int .i64 q.b, .int .i64 q.c, .int .i64 q.d]
def quV (l : List QSec) : List V := l.map QSec.v
theorem quV_len (l : List QSec) : (quV l).length = l.length := by simp [quV]
theorem quV_imm : ∀ l : List QSec, V.imms (quV l) = true
  | [] => rfl
  | x :: r => by simp [quV, V.imms, V.imm, QSec.v]; exact quV_imm r
theorem quV_at (d : List QSec) (x : QSec) (r : List QSec) : (quV (d ++ x :: r)).getD d.length .junk = x.v := by simp [quV, List.getD]
def findIx (n : List UInt8) : List QSec → Nat → Int × Bool
  | [], _ => (0, false)
  | q :: r, i => if q.t = n then (i, true) else findIx n r (i + 1)
theorem t128 (hf : Is128 P F T) (S : StrC P F) (l : List QSec) (s : List UInt8) (hl : l.length ≤ 1000) (hs : s.length ≤ 1000) :
    PTr P (F 128) [.lst 5 (quV l), .str s] (.tup [.int .i64 (findIx (trimS s wsp) l 0).1, .bool (findIx (trimS s wsp) l 0).2]) := by
  refine ptrC [] hf (by simp [quV_imm]) rfl ?_
  simp only [c128, push_cast, seval, -Nat.reducePow, decide_true, decide_false]
  refine callK_intro (S.trim s (by omega)) (by simp only [push_cast, seval, -Nat.reducePow, decide_true, decide_false]) (by simp only [push_cast, seval, -Nat.reducePow, decide_true, decide_false]) ?_
  generalize trimS s wsp = n
  simp only [push_cast, seval, -Nat.reducePow, decide_true, decide_false]
  refine loopK_intro (fun m s1 => ∃ d r, l = d ++ r ∧ m = r.length ∧ findIx n l 0 = findIx n r d.length ∧ s1.env 1 = .str n ∧ s1.env 10 = .lst 5 (quV l) ∧ s1.env 11 = .int .i64 l.length ∧ s1.env 12 = .int .i64 d.length) l.length ⟨[], l, ?_⟩ fun m s1 hJ => ?_
  · simp only [push_cast, seval, -Nat.reducePow, decide_true, decide_false, quV_len]
  · obtain ⟨d, r, rfl, rfl, hfi, j1, j10, j11, j12⟩ := hJ
    have hql := quV_len (d ++ r)
    rw [hfi]
    rw [List.length_append] at hql hl
    cases r with
    | nil =>
      have h : ¬ ((d.length : Nat) : Int) < (((d ++ []).length : Nat) : Int) := by simp
      simp only [push_cast, seval, -Nat.reducePow, decide_true, decide_false, j1, j10, j11, j12, h, findIx, view]
    | cons x r =>
      have h : ((d.length : Nat) : Int) < (((d ++ x :: r).length : Nat) : Int) := by simp; omega
      have hx := quV_at d x r
      simp only [List.length_cons] at hql hl
      obtain ⟨a, t, b, c, e⟩ := x
      simp only [QSec.v] at hx
      by_cases hn : t = n
      · subst hn
        simp only [push_cast, seval, -Nat.reducePow, decide_true, decide_false, j1, j10, j11, j12, h, hx, findIx, view, if_true]
        omega
      · simp only [push_cast, seval, -Nat.reducePow, decide_true, decide_false, j1, j10, j11, j12, h, hx, hn, findIx, view]
        refine ⟨by omega, by omega, r.length, by omega, d ++ [⟨a, t, b, c, e⟩], r, by simp, rfl, ?_, by simp⟩
        simp [findIx]
theorem t129 (hf : Is129 P F T) (h125 : Is125 P F T) (h138 : Is138 P F T) (l : List QSec) (s : List UInt8) (hl : l.length ≤ 1000) (hs : s.length ≤ 1000) :
    PTr P (F 129) [.lst 5 (quV l), .str s] (.tup [.int .i64 (findIx (trimS s wsp) l 0).1, .bool (findIx (trimS s wsp) l 0).2]) := by
  have ht := t125 h125 h138 s (by omega)
  refine ptrC [] hf (by simp [quV_imm]) rfl ?_
  generalize trimS s wsp = n at *
  simp only [c129, push_cast, seval, -Nat.reducePow, decide_true, decide_false]
  refine loopK_intro (fun m s1 => ∃ d r, l = d ++ r ∧ m = r.length ∧ findIx n l 0 = findIx n r d.length ∧ s1.env 1 = .str s ∧ s1.env 0 = .lst 5 (quV l) ∧ s1.env 6 = .int .i64 d.length) l.length ⟨[], l, ?_⟩ fun m s1 hJ => ?_
  · simp only [push_cast, seval, -Nat.reducePow, decide_true, decide_false]
  · obtain ⟨d, r, rfl, rfl, hfi, j1, j0, j6⟩ := hJ
    have hql := quV_len (d ++ r)
    rw [hfi]
    rw [List.length_append] at hl
    cases r with
    | nil =>
      have h : ¬ ((d.length : Nat) : Int) < (((quV d).length : Nat) : Int) := by rw [quV_len]; omega
      simp only [push_cast, seval, -Nat.reducePow, decide_true, decide_false, j1, j0, j6, h, findIx, view]
    | cons x r =>
      have h : ((d.length : Nat) : Int) < (((quV (d ++ x :: r)).length : Nat) : Int) := by rw [hql]; simp; omega
      have hx := quV_at d x r
      simp only [List.length_cons, List.length_append] at hql hl
      obtain ⟨a, t, b, c, e⟩ := x
      simp only [QSec.v] at hx
      simp only [push_cast, seval, -Nat.reducePow, decide_true, decide_false, j1, j0, j6, h, hx]
      refine And.intro (by omega) ?_
      refine callK_intro ht (by simp only [push_cast, seval, -Nat.reducePow, decide_true, decide_false]) (by simp only [push_cast, seval, -Nat.reducePow, decide_true, decide_false]) ?_
      by_cases hn : t = n
      · simp only [push_cast, seval, -Nat.reducePow, decide_true, decide_false, j1, j0, j6, h, hx, hn, findIx, view]
      · simp only [push_cast, seval, -Nat.reducePow, decide_true, decide_false, j1, j0, j6, h, hx, hn, findIx, view]
        refine ⟨by omega, r.length, by omega, d ++ [⟨a, t, b, c, e⟩], r, by simp, rfl, ?_, by simp⟩
        simp [findIx]
theorem law127 (hf : Is127 P F T) (S : StrC P F) (h128 : Is128 P F T) (h129 : Is129 P F T) (h125 : Is125 P F T) (h138 : Is138 P F T) (kn : PTr P (F 126) [] (.bool true)) (l : List QSec) (s : List UInt8) : PTr P (F 127) [.lst 5 (quV l), .str s] (.bool true) := by
  have hql := quV_len l
  refine ptrC [] hf (by simp [quV_imm]) rfl ?_
  simp only [c127, push_cast, seval, -Nat.reducePow, decide_true, decide_false]
  by_cases h1 : 100 < l.length
  · have h1' : (100 : Int) < ((quV l).length : Nat) := by omega
    simp only [push_cast, seval, -Nat.reducePow, decide_true, decide_false, h1']
    refine callK_intro kn (by simp only [push_cast, seval, -Nat.reducePow, decide_true, decide_false]) (by simp only [push_cast, seval, -Nat.reducePow, decide_true, decide_false]) ?_
    simp only [push_cast, seval, -Nat.reducePow, decide_true, decide_false, view]
  · have h1' : ¬ (100 : Int) < ((quV l).length : Nat) := by omega
    by_cases h2 : 300 < s.length
    · have h2' : (300 : Int) < (s.length : Nat) := by omega
      simp only [push_cast, seval, -Nat.reducePow, decide_true, decide_false, h1', h2']
      refine callK_intro kn (by simp only [push_cast, seval, -Nat.reducePow, decide_true, decide_false]) (by simp only [push_cast, seval, -Nat.reducePow, decide_true, decide_false]) ?_
      simp only [push_cast, seval, -Nat.reducePow, decide_true, decide_false, view]
    · have h2' : ¬ (300 : Int) < (s.length : Nat) := by omega
      have c1 := t128 h128 S l s (by omega) (by omega)
      have c2 := t129 h129 h125 h138 l s (by omega) (by omega)
      generalize findIx (trimS s wsp) l 0 = y at *
      obtain ⟨k, b⟩ := y
      simp only [push_cast, seval, -Nat.reducePow, decide_true, decide_false, h1', h2']
      refine callK_intro c1 (by simp only [push_cast, seval, -Nat.reducePow, decide_true, decide_false, quV_imm]) (by simp only [push_cast, seval, -Nat.reducePow, decide_true, decide_false]) ?_
      simp only [push_cast, seval, -Nat.reducePow, decide_true, decide_false]
      refine callK_intro c2 (by simp only [push_cast, seval, -Nat.reducePow, decide_true, decide_false, quV_imm]) (by simp only [push_cast, seval, -Nat.reducePow, decide_true, decide_false]) ?_
      cases b with
      | true =>
        simp only [push_cast, seval, -Nat.reducePow, decide_true, decide_false, beq_self_eq_true]
        refine callK_intro kn (by simp only [push_cast, seval, -Nat.reducePow, decide_true, decide_false]) (by simp only [push_cast, seval, -Nat.reducePow, decide_true, decide_false]) ?_
        simp only [push_cast, seval, -Nat.reducePow, decide_true, decide_false, view]
      | false =>
        simp only [push_cast, seval, -Nat.reducePow, decide_true, decide_false, beq_self_eq_true]
        refine callK_intro kn (by simp only [push_cast, seval, -Nat.reducePow, decide_true, decide_false]) (by simp only [push_cast, seval, -Nat.reducePow, decide_true, decide_false]) ?_
        simp only [push_cast, seval, -Nat.reducePow, decide_true, decide_false, view]
theorem law135 (hf : Is135 P F T) (h124 : SectC P (F 124)) (A : AnyC P F) (kn : PTr P (F 126) [] (.bool true)) (s : List UInt8) : PTr P (F 135) [.str s] (.bool true) := by
  refine ptrC [] hf (by simp) rfl ?_
  simp only [c135, push_cast, seval, -Nat.reducePow, decide_true, decide_false]
  by_cases h1 : 500 < s.length
  · have h1' : (500 : Int) < (s.length : Nat) := by omega
    simp only [push_cast, seval, -Nat.reducePow, decide_true, decide_false, h1']
    refine callK_intro kn (by simp only [push_cast, seval, -Nat.reducePow, decide_true, decide_false]) (by simp only [push_cast, seval, -Nat.reducePow, decide_true, decide_false]) ?_
    simp only [push_cast, seval, -Nat.reducePow, decide_true, decide_false, view]
  · have h1' : ¬ (500 : Int) < (s.length : Nat) := by omega
    have hA := A s [123, 125, 91, 93, 60, 62] (by decide) (by decide) (by omega) (by decide)
    simp only [push_cast, seval, -Nat.reducePow, decide_true, decide_false, h1']
    cases hc : Go.Lib.containsAny s [123, 125, 91, 93, 60, 62] with
    | true =>
      rw [hc] at hA
      refine callK_intro hA (by simp only [push_cast, seval, -Nat.reducePow, decide_true, decide_false]) (by simp only [push_cast, seval, -Nat.reducePow, decide_true, decide_false]) ?_
      simp only [push_cast, seval, -Nat.reducePow, decide_true, decide_false]
      refine callK_intro kn (by simp only [push_cast, seval, -Nat.reducePow, decide_true, decide_false]) (by simp only [push_cast, seval, -Nat.reducePow, decide_true, decide_false]) ?_
      simp only [push_cast, seval, -Nat.reducePow, decide_true, decide_false, view]
    | false =>
      rw [hc] at hA
      have hno : NoSp s := fun b hb => by
        have := contains_no hc b hb
        refine ⟨?_, ?_, ?_, ?_, ?_, ?_⟩ <;> (rintro rfl; revert this; decide)
      refine callK_intro hA (by simp only [push_cast, seval, -Nat.reducePow, decide_true, decide_false]) (by simp only [push_cast, seval, -Nat.reducePow, decide_true, decide_false]) ?_
      have c1 := h124 ([60, 33, 45, 45] ++ s ++ [45, 45, 62]) (by simp; omega)
      have c2 := h124 ([123, 123, 120, 124, 10] ++ s ++ [10, 125, 125]) (by simp; omega)
      have c3 := h124 ([60, 110, 111, 105, 110, 99, 108, 117, 100, 101, 62] ++ s ++ [60, 47, 110, 111, 105, 110, 99, 108, 117, 100, 101, 62]) (by simp; omega)
      rw [hid1 hno] at c1
      rw [hid2 hno] at c2
      rw [hid3 hno] at c3
      simp only [push_cast, seval, -Nat.reducePow, decide_true, decide_false, secV, List.map_nil] at c1 c2 c3 ⊢
      repeat refine And.intro (by first | omega | (simp; omega)) ?_
      refine callK_intro c1 (by simp only [push_cast, seval, -Nat.reducePow, decide_true, decide_false]) (by simp only [push_cast, seval, -Nat.reducePow, decide_true, decide_false]) ?_
      simp only [push_cast, seval, -Nat.reducePow, decide_true, decide_false]
      repeat refine And.intro (by first | omega | (simp; omega)) ?_
      refine callK_intro c2 (by simp only [push_cast, seval, -Nat.reducePow, decide_true, decide_false]) (by simp only [push_cast, seval, -Nat.reducePow, decide_true, decide_false]) ?_
      simp only [push_cast, seval, -Nat.reducePow, decide_true, decide_false]
      repeat refine And.intro (by first | omega | (simp; omega)) ?_
      refine callK_intro c3 (by simp only [push_cast, seval, -Nat.reducePow, decide_true, decide_false]) (by simp only [push_cast, seval, -Nat.reducePow, decide_true, decide_false]) ?_
      simp only [push_cast, seval, -Nat.reducePow, decide_true, decide_false]
      refine callK_intro kn (by simp only [push_cast, seval, -Nat.reducePow, decide_true, decide_false]) (by simp only [push_cast, seval, -Nat.reducePow, decide_true, decide_false]) ?_
      simp only [push_cast, seval, -Nat.reducePow, decide_true, decide_false, view]
end Go.Ab
