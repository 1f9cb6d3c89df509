/- A nil slice is an empty one for those who do not ask. No condition. -/
import Derived.Test.YtbipjhcnooellaaAbSx
namespace Go.Ab
set_option linter.unusedVariables false
set_option linter.unusedSimpArgs false

mutual
def V.le : V → V → Prop
  | .nils, y => y = .nils ∨ ∃ sz, y = .lst sz []
  | .agg a, y => ∃ b, y = .agg b ∧ V.leL a b
  | .lst sz a, y => ∃ b, y = .lst sz b ∧ V.leL a b
  | .tup a, y => ∃ b, y = .tup b ∧ V.leL a b
  | .junk, y => y = .junk
  | .bool b, y => y = .bool b
  | .int k n, y => y = .int k n
  | .str s, y => y = .str s
  | .nilp, y => y = .nilp
  | .ptr a b, y => y = .ptr a b
  | .eptr a b c, y => y = .eptr a b c
  | .cptr a, y => y = .cptr a
  | .own a b c d, y => y = .own a b c d
  | .fn f c, y => y = .fn f c
  | .map i, y => y = .map i
  | .nilm, y => y = .nilm
  | .raw v, y => y = .raw v
def V.leL : List V → List V → Prop
  | [], y => y = []
  | x :: r, y => ∃ z q, y = z :: q ∧ x.le z ∧ V.leL r q
end
mutual
theorem V.le_refl : ∀ x : V, x.le x
  | .nils => by simp [V.le]
  | .agg a => by simp [V.le, V.leL_refl a]
  | .lst sz a => by simp [V.le, V.leL_refl a]
  | .tup a => by simp [V.le, V.leL_refl a]
  | .junk => by simp [V.le]
  | .bool b => by simp [V.le]
  | .int k n => by simp [V.le]
  | .str s => by simp [V.le]
  | .nilp => by simp [V.le]
  | .ptr a b => by simp [V.le]
  | .eptr a b c => by simp [V.le]
  | .cptr a => by simp [V.le]
  | .own a b c d => by simp [V.le]
  | .fn f c => by simp [V.le]
  | .map i => by simp [V.le]
  | .nilm => by simp [V.le]
  | .raw v => by simp [V.le]
theorem V.leL_refl : ∀ l : List V, V.leL l l
  | [] => by simp [V.leL]
  | x :: r => by simp only [V.leL]; exact ⟨x, r, rfl, V.le_refl x, V.leL_refl r⟩
end
theorem leL_cons {x y : V} {r q : List V} : V.leL (x :: r) (y :: q) = (x.le y ∧ V.leL r q) := by
  simp only [V.leL]
  exact propext ⟨fun ⟨z, q', h, h1, h2⟩ => by cases h; exact ⟨h1, h2⟩, fun ⟨h1, h2⟩ => ⟨y, q, rfl, h1, h2⟩⟩
theorem leL_nil : V.leL [] [] = True := by simp [V.leL]
theorem le_agg {a b : List V} : V.le (.agg a) (.agg b) = V.leL a b := by simp [V.le]
theorem le_lst {s : Nat} {a b : List V} : V.le (.lst s a) (.lst s b) = V.leL a b := by simp [V.le]
theorem le_nils {s : Nat} : V.le .nils (.lst s []) = True := by simp [V.le]
theorem le_rfl' {x : V} : V.le x x = True := eq_true (V.le_refl x)
theorem leL_rfl {x : List V} : V.leL x x = True := eq_true (V.leL_refl x)
attribute [push_cast] leL_cons leL_nil le_agg le_lst le_nils le_rfl' leL_rfl
theorem leL_length : ∀ {a b : List V}, V.leL a b → a.length = b.length
  | [], b, h => by simp [V.leL] at h; simp [h]
  | x :: r, b, h => by obtain ⟨z, q, rfl, _, h2⟩ := h; simp [leL_length h2]
theorem leL_get : ∀ {a b : List V} {i : Nat} {y : V}, V.leL a b → b[i]? = some y → ∃ x, a[i]? = some x ∧ x.le y
  | [], b, i, y, h, hy => by simp [V.leL] at h; subst h; simp at hy
  | x :: r, b, i, y, h, hy => by
    obtain ⟨z, q, rfl, h1, h2⟩ := h
    cases i with
    | zero => simp at hy; subst hy; exact ⟨x, rfl, h1⟩
    | succ i => simpa using leL_get h2 (by simpa using hy)
theorem le_one {x y : V} (h : x.le y) (h1 : x.one = true) : y.one = true := by
  cases x <;> simp only [V.le] at h
  case nils => rcases h with rfl | ⟨sz, rfl⟩ <;> rfl
  case agg => simp [V.one] at h1
  case tup => simp [V.one] at h1
  case lst => obtain ⟨b, rfl, _⟩ := h; rfl
  all_goals (subst h; exact h1)
theorem leL_one : ∀ {a b : List V}, V.leL a b → a.all V.one = true → b.all V.one = true
  | [], b, h, _ => by simp [V.leL] at h; simp [h]
  | x :: r, b, h, h1 => by
    obtain ⟨z, q, rfl, h2, h3⟩ := h
    simp only [List.all_cons, Bool.and_eq_true] at h1 ⊢
    exact ⟨le_one h2 h1.1, leL_one h3 h1.2⟩
theorem le_ncells {x y : V} {sz : Nat} (h : x.le y) (h1 : x.ncells = some sz) : y.ncells = some sz := by
  cases x <;> simp only [V.le] at h
  case nils => rcases h with rfl | ⟨sz, rfl⟩ <;> simpa [V.ncells, V.one] using h1
  case agg a =>
    obtain ⟨b, rfl, h2⟩ := h
    simp only [V.ncells] at h1 ⊢
    split at h1
    · rename_i h3
      rw [if_pos (leL_one h2 h3), ← leL_length h2]
      exact h1
    · simp at h1
  case tup => simp [V.ncells, V.one] at h1
  case lst => obtain ⟨b, rfl, _⟩ := h; simpa [V.ncells, V.one] using h1
  all_goals (subst h; exact h1)
theorem le_cells {x y : V} (h : x.le y) {sz : Nat} (h1 : x.ncells = some sz) : V.leL x.cells y.cells := by
  cases x <;> simp only [V.le] at h
  case nils => rcases h with rfl | ⟨sz, rfl⟩ <;> simp [V.cells, V.leL, V.le]
  case agg a => obtain ⟨b, rfl, h2⟩ := h; exact h2
  case tup => simp [V.ncells, V.one] at h1
  case lst => obtain ⟨b, rfl, h2⟩ := h; simp [V.cells, V.leL, V.le, h2]
  all_goals (subst h; exact V.leL_refl _)

theorem Rep.le {G : Ghost} {D : Nat → Prop} {w : World} {x : V} {v : Value} (h : Rep G D w x v) : ∀ {y : V}, x.le y → Rep G D w y v := by
  induction h with
  | nils =>
    intro y hy
    simp only [V.le] at hy
    rcases hy with rfl | ⟨sz, rfl⟩
    · exact .nils
    · exact .lst sz [] none 0 0 0 (by simp) (by omega) (by simp) (by simp) (by simp) (by simp)
  | agg cs vs hn hr ih =>
    intro y hy
    obtain ⟨b, rfl, hb⟩ := hy
    refine .agg _ _ (by rw [← leL_length hb]; exact hn) fun i c hc => ?_
    obtain ⟨x, hx, hle⟩ := leL_get hb hc
    exact ih i x hx hle
  | tup cs vs hn hr ih =>
    intro y hy
    obtain ⟨b, rfl, hb⟩ := hy
    refine .tup _ _ (by rw [← leL_length hb]; exact hn) fun i c hc => ?_
    obtain ⟨x, hx, hle⟩ := leL_get hb hc
    exact ih i x hx hle
  | lst sz es a cap b o hc hl ha hz hs hr ih =>
    intro y hy
    obtain ⟨es', rfl, hb⟩ := hy
    have hlen := leL_length hb
    have key : ∀ (i j : Nat) (c : V), (es'[i]?.bind fun e : V => e.cells[j]?) = some c → ∃ c' : V, (es[i]?.bind fun e : V => e.cells[j]?) = some c' ∧ c'.le c := by
      intro i j c hx
      cases he : es'[i]? with
      | none => simp [he] at hx
      | some e' =>
        obtain ⟨e, he2, hle⟩ := leL_get hb he
        simp only [he, Option.bind_some] at hx
        obtain ⟨c', hc', hle'⟩ := leL_get (le_cells hle (hz e (mem_of_getElem? he2))) hx
        exact ⟨c', by simp [he2, hc'], hle'⟩
    rw [hlen]
    refine .lst sz es' a cap b o (by omega) hl (fun h0 => ha (by omega)) (fun e he => ?_) (fun i j c hx => ?_) (fun i j c hx => ?_)
    · obtain ⟨i, hi, he⟩ := List.getElem_of_mem he
      obtain ⟨e2, he2, hle⟩ := leL_get hb (show es'[i]? = some e by rw [← he]; exact List.getElem?_eq_getElem hi)
      exact le_ncells hle (hz e2 (mem_of_getElem? he2))
    · obtain ⟨c', hc', _⟩ := key i j c hx
      exact hs i j c' hc'
    · obtain ⟨c', hc', hle⟩ := key i j c hx
      exact ih i j c' hc' hle
  | junk v => intro y hy; simp only [V.le] at hy; subst hy; exact .junk v
  | bool b => intro y hy; simp only [V.le] at hy; subst hy; exact .bool b
  | int k n => intro y hy; simp only [V.le] at hy; subst hy; exact .int k n
  | str s h => intro y hy; simp only [V.le] at hy; subst hy; exact .str s h
  | nilp => intro y hy; simp only [V.le] at hy; subst hy; exact .nilp
  | ptr id off g h => intro y hy; simp only [V.le] at hy; subst hy; exact .ptr id off g h
  | eptr id i j g h => intro y hy; simp only [V.le] at hy; subst hy; exact .eptr id i j g h
  | cptr cs b o hb hd hs hr ih => intro y hy; simp only [V.le] at hy; subst hy; exact .cptr cs b o hb hd hs hr
  | own id sz off len g a cap h hz hc hg hl ha => intro y hy; simp only [V.le] at hy; subst hy; exact .own id sz off len g a cap h hz hc hg hl ha
  | fn f cs vs hn hr ih => intro y hy; simp only [V.le] at hy; subst hy; exact .fn f cs vs hn hr
  | map id g h => intro y hy; simp only [V.le] at hy; subst hy; exact .map id g h
  | nilm => intro y hy; simp only [V.le] at hy; subst hy; exact .nilm
  | raw v => intro y hy; simp only [V.le] at hy; subst hy; exact .raw v

theorem PTr.le {P : Program} {f : FuncId} {args args' : List V} {r : V} (h : PTr P f args' r) (hl : V.leL args args') : PTr P f args r := by
  intro D w vs hD hn hr
  refine h D w vs hD (by rw [← leL_length hl]; exact hn) fun i x hx => ?_
  obtain ⟨x', hx', hle⟩ := leL_get hl hx
  exact (hr i x' hx').le hle
theorem callK_le {P : Program} {f : Nat} {args args' : List V} {K : V → Prop} {x : Tg K} {r : V} (h : PTr P f args' r) (hl : V.leL args args') (h1 : V.imms args = true) (h2 : r.imm = true) (h3 : K r) : callK P f args x := callK_intro (h.le hl) h1 h2 h3
theorem vcallK_le {P : Program} {f : Nat} {args args' : List V} {K : V → Prop} {x : Tg K} {r : V} (h : PTr P f args' r) (hl : V.leL args args') (h1 : V.imms args = true) (h2 : r.flat = true) (h3 : K r) : vcallK P f args x := vcallK_intro (h.le hl) h1 h2 h3
end Go.Ab
