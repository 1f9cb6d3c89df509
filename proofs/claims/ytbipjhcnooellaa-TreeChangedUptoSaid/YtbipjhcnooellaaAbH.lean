/- Composite values; loads and stores; new blocks. No condition. -/
import Derived.Test.YtbipjhcnooellaaAbG
namespace Go.Ab
open Go.RowKit
set_option linter.unusedVariables false
set_option linter.unusedSimpArgs false

def RepC (G : Ghost) (D : Nat → Prop) (w : World) (cs : List V) (vs : Array Value) : Prop := cs.length = vs.size ∧ ∀ i c, cs[i]? = some c → Rep G D w c (vs.getD i undef)

section
variable {P : Program} {D : Nat → Prop} {n : Nat} {hint : Nat → Nat} {s : St} {G : Ghost} {a : Act} {w : World} {o : Oper} {K : St → Prop} {next : Act → World → Prop} {Q : Exit → Act → World → Prop} {m : Option Nat}

theorem rep_one {x : V} {v : Value} (h : Rep G D w x v) (h1 : x.one = true) : v.oneCell' = true ∧ v.cells = #[v] ∧ x.cells = [x] := by
  cases h <;> simp [V.one] at h1 <;> first
    | exact ⟨rfl, rfl, rfl⟩
    | (refine ⟨h1, ?_, rfl⟩; cases v <;> first | rfl | simp [Value.oneCell'] at h1)

theorem rep_cells {x : V} {v : Value} {k : Nat} (h : Rep G D w x v) (hk : x.ncells = some k) : RepC G D w x.cells v.cells ∧ x.cells.length = k ∧ ∀ u ∈ v.cells.toList, u.oneCell' = true := by
  unfold V.ncells at hk
  split at hk
  · rename_i cs
    split at hk
    · rename_i hall
      simp only [Option.some.injEq] at hk
      obtain ⟨vs, rfl, hl, hr⟩ := rep_agg h
      refine ⟨⟨hl, hr⟩, hk, fun u hu => ?_⟩
      obtain ⟨i, hi, rfl⟩ := List.mem_iff_getElem.1 hu
      simp only [Value.cells, Array.length_toList] at hi
      have hc : i < cs.length := by omega
      have := hr i cs[i] (by simp [hc])
      have h1 := List.all_eq_true.1 hall cs[i] (by simp)
      have h2 := (rep_one this h1).1
      simpa [Array.getD_eq_getD_getElem?, hi, Value.cells] using h2
    · simp at hk
  · split at hk
    · rename_i h1
      simp only [Option.some.injEq] at hk
      obtain ⟨e1, e2, e3⟩ := rep_one h h1
      rw [e2, e3]
      refine ⟨⟨rfl, fun i c hc => ?_⟩, hk, fun u hu => ?_⟩
      · match i, hc with
        | 0, hc => simp at hc; subst hc; exact h
      · simp at hu; subst hu; exact e1
    · simp at hk

theorem setAt_length {zero : List V} {off : Nat} {cs : List V} (h : off + cs.length ≤ zero.length) : (setAt zero off cs).length = zero.length := by
  simp [setAt]; omega

theorem setAt_get {zero : List V} {off : Nat} {cs : List V} (h : off + cs.length ≤ zero.length) (i : Nat) :
    (setAt zero off cs)[i]? = if off ≤ i ∧ i < off + cs.length then cs[i - off]? else zero[i]? := by
  unfold setAt
  by_cases h1 : i < off
  · rw [if_neg (by omega), List.append_assoc, List.getElem?_append_left (by simp; omega), List.getElem?_take_of_lt h1]
  · by_cases h2 : i < off + cs.length
    · rw [if_pos (by omega), List.append_assoc, List.getElem?_append_right (by simp; omega)]
      have e : i - (zero.take off).length = i - off := by simp; omega
      rw [e, List.getElem?_append_left (by omega)]
    · rw [if_neg (by omega), List.getElem?_append_right (by simp; omega), List.getElem?_drop]
      congr 1
      simp; omega

theorem foldl_put (off : Nat) : ∀ (l : List Value) (k : Nat) (cells : Array Value), off + k + l.length ≤ cells.size →
    ((l.zipIdx k).foldl (fun cs (x : Value × Nat) => cs.setIfInBounds (off + x.2) x.1) cells).size = cells.size ∧
    ∀ i, ((l.zipIdx k).foldl (fun cs (x : Value × Nat) => cs.setIfInBounds (off + x.2) x.1) cells).getD i undef = if off + k ≤ i ∧ i < off + k + l.length then l.getD (i - off - k) undef else cells.getD i undef
  | [], k, cells, _ => by simp; intro i h1 h2; omega
  | v :: r, k, cells, h => by
    obtain ⟨h1, h2⟩ := foldl_put off r (k + 1) (cells.setIfInBounds (off + k) v) (by simp at h ⊢; omega)
    simp only [List.zipIdx_cons, List.foldl_cons]
    refine ⟨by rw [h1]; simp, fun i => ?_⟩
    rw [h2]
    simp only [List.length_cons] at h ⊢
    by_cases e : i = off + k
    · subst e
      rw [if_neg (by omega), if_pos (by omega)]
      simp [Array.getD_eq_getD_getElem?, Array.getElem?_setIfInBounds_self_of_lt (show off + k < cells.size by omega)]
    · by_cases h3 : off + (k + 1) ≤ i ∧ i < off + (k + 1) + r.length
      · rw [if_pos h3, if_pos (by omega)]
        have e2 : i - off - k = (i - off - (k + 1)) + 1 := by omega
        rw [e2]; rfl
      · rw [if_neg h3, if_neg (by omega)]
        have hne : off + k ≠ i := fun h => e h.symm
        simp [Array.getD_eq_getD_getElem?, Array.getElem?_setIfInBounds_ne hne]

theorem repC_set {cs xs : List V} {cells vs : Array Value} {off : Nat} (h : RepC G D w cs cells) (hx : RepC G D w xs vs) (hf : off + xs.length ≤ cs.length) :
    RepC G D w (setAt cs off xs) (vs.zipIdx.foldl (fun cs (x : Value × Nat) => cs.setIfInBounds (off + x.2) x.1) cells) := by
  obtain ⟨h1, h2⟩ := foldl_put off vs.toList 0 cells (by simp [← hx.1, ← h.1]; omega)
  rw [← Array.foldl_toList, Array.toList_zipIdx]
  refine ⟨by rw [setAt_length hf, h1, h.1], fun i c hc => ?_⟩
  rw [h2, Nat.add_zero]
  rw [setAt_get hf] at hc
  have e : vs.toList.length = xs.length := by simp [hx.1]
  rw [e]
  split at hc
  · rename_i hi
    rw [if_pos hi]
    have := hx.2 _ _ hc
    simpa [Array.getD_eq_getD_getElem?, List.getD] using this
  · rename_i hi
    rw [if_neg hi]
    exact h.2 _ _ hc

theorem ofValues_rep : ∀ {l : List Value} {cs : List V}, ofValues l = some cs → RepC G D w cs l.toArray
  | [], cs, h => by simp [ofValues] at h; subst h; exact ⟨rfl, fun i c hc => by simp at hc⟩
  | v :: r, cs, h => by
    simp only [ofValues] at h
    split at h
    · rename_i x y hx hy
      simp only [Option.some.injEq] at h
      subst h
      have ih := ofValues_rep hy
      refine ⟨by simp [ih.1], fun i c hc => ?_⟩
      cases i with
      | zero => simp at hc; subst hc; simpa using ofValue_rep hx G D w
      | succ i =>
        have := ih.2 i c (by simpa using hc)
        simpa [Array.getD_eq_getD_getElem?] using this
    · simp at h

theorem zeroOf_rep {t : TypeId} {z : List V} (h : zeroOf P t = some z) (G : Ghost) (D : Nat → Prop) (w : World) : ∃ v, (∃ i, P.info? t = some i ∧ i.zero = some v) ∧ (zeroValue t).run P w = .ok v w ∧ RepC G D w z v.cells := by
  simp only [zeroOf, Option.bind_eq_some_iff] at h
  obtain ⟨v, ⟨i, hi, hz⟩, hv⟩ := h
  refine ⟨v, ⟨i, hi, hz⟩, by simp [zeroValue, typeInfo, hi, hz], ?_⟩
  have := ofValues_rep (G := G) (D := D) (w := w) hv
  simpa using this

theorem fill_rep (hg : Good D n s G a w) {t : TypeId} : ∀ {ps : List (Nat × Operand)} {qs : List (Nat × Nat × Src)} {zero : List V} {cells : Array Value}, partsOf P n t ps = some qs → RepC G (Dp D s.L G) w zero cells →
    (∀ p ∈ qs, (s.ev p.2.2).ncells = some p.2.1) → fitsAll zero.length qs = true →
    ∃ cells', Instr.fill (placeOf P t) cells (ps.map fun p => (p.1, a.eval p.2)) = some cells' ∧ RepC G (Dp D s.L G) w (qs.foldl (fun cs p => setAt cs p.1 (s.ev p.2.2).cells) zero) cells'
  | [], qs, zero, cells, h, hz, _, _ => by
    simp [partsOf] at h; subst h
    exact ⟨cells, rfl, hz⟩
  | (i, x) :: r, qs, zero, cells, h, hz, hp, hf => by
    simp only [partsOf] at h
    split at h
    · rename_i off z y rest h1 h2 h3
      simp only [Option.some.injEq] at h
      subst h
      have hk := hp (off, z, y) (by simp)
      obtain ⟨c1, c2, c3⟩ := rep_cells (eval_rep hg h2) hk
      simp only [fitsAll, List.all_cons, Bool.and_eq_true, decide_eq_true_eq] at hf
      have c4 : (a.eval x).cells.size = z := by rw [← c1.1]; exact c2
      have hfit : off + (s.ev y).cells.length ≤ zero.length := by rw [c2]; exact hf.1
      have step := repC_set hz c1 hfit
      have hl : (setAt zero off (s.ev y).cells).length = zero.length := setAt_length hfit
      obtain ⟨cells', e1, e2⟩ := fill_rep hg h3 step (fun p hm => hp p (by simp [hm])) (by simp only [fitsAll]; rw [hl]; exact hf.2)
      refine ⟨cells', ?_, e2⟩
      have c5 : ¬ (off + z > cells.size) := by rw [← hz.1]; omega
      simp only [List.map_cons, Instr.fill, h1, c4, ne_eq, not_true_eq_false, decide_false, Bool.false_or, decide_eq_true_eq, c5, if_false]
      exact e1
    · simp at h

theorem s_build (hd : dstOk n o.dst = true) {t : TypeId} {parts : Array (Nat × Operand)} {z : List V} {ps : List (Nat × Nat × Src)} (hz : zeroOf P t = some z) (hps : partsOf P n t parts.toList = some ps) (hpl : placed P t = true) (hf : fitsAll z.length ps = true)
    (ho : o.op = .build t parts) : Sound P D n o (.build o.dst z ps) := by
  intro s G a w K next Q h hg hn hfree
  simp only [istep] at h
  obtain ⟨zv, ⟨it, hit, hzv⟩, _, hrep⟩ := zeroOf_rep hz G (Dp D s.L G) w
  obtain ⟨cells, e1, e2⟩ := fill_rep hg hps hrep h.1 hf
  have hb : P.built t ((parts.map fun (i, x) => (i, a.eval x)).toList) = some cells := by
    have e3 : (parts.map fun (x : Nat × Operand) => match x with | (i, x) => (i, a.eval x)).toList = parts.toList.map fun p => (p.1, a.eval p.2) := by simp
    unfold Program.built
    rw [e3]
    cases hu : P.underlying t with
    | none => simp [placed, hu] at hpl
    | some d =>
      cases d <;> try (simp [placed, hu] at hpl; done)
      case array m e =>
        simp only [placed, hu, Option.isSome_iff_exists] at hpl
        obtain ⟨ie, hie⟩ := hpl
        simp only [hit, hzv, hie]
        have : placeOf P t = fun i => some (i * ie.size, ie.size) := by funext i; simp [placeOf, hu, hie]
        rw [← this]; exact e1
      case struct fields =>
        simp only [placed, hu, Option.isSome_iff_exists] at hpl
        obtain ⟨pl, hpl⟩ := hpl
        simp only [hit, hzv, hpl]
        have : placeOf P t = (pl.toArray[·]?) := by funext i; simp [placeOf, hu, hpl]
        rw [← this]; exact e1
  refine val_step hg hd hn ?_ (.agg _ _ e2.1 e2.2) h.2
  simp only [execOp, ho, run_v, run_build w t _ cells hb]
  rfl

end
end Go.Ab
