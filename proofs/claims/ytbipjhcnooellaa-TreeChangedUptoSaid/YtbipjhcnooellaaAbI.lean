/- Loads and stores; new blocks. No condition. -/
import Derived.Test.YtbipjhcnooellaaAbH
import Derived.Laws.IdiomCopy
namespace Go.Ab
open Go.RowKit
set_option linter.unusedVariables false
set_option linter.unusedSimpArgs false

section
variable {P : Program} {D : Nat → Prop} {n : Nat} {hint : Nat → Nat} {s : St} {G : Ghost} {a : Act} {w : World} {o : Oper} {K : St → Prop} {next : Act → World → Prop} {Q : Exit → Act → World → Prop} {m : Option Nat}

theorem cell_of_blk {b q : Nat} {c : Array Value} {ty : TypeId} {fr : Nat × Nat} (h : w.heap[b]? = some (.cells c ty fr)) : w.cell? ⟨b, q, none⟩ = c[q]? := by simp [World.cell?, h]
theorem cellD_of_blk {b q : Nat} {c : Array Value} {ty : TypeId} {fr : Nat × Nat} (h : w.heap[b]? = some (.cells c ty fr)) : cellD w b q = c.getD q undef := by simp [cellD, cell_of_blk h, Array.getD_eq_getD_getElem?]

theorem ncells_length {x : V} {k : Nat} (h : x.ncells = some k) : x.cells.length = k := by
  unfold V.ncells at h
  split at h
  · split at h
    · simpa [V.cells] using h
    · simp at h
  · rename_i hx
    split at h
    · rename_i h1
      cases x <;> simp [V.one] at h1 <;> simpa [V.cells] using h
    · simp at h

theorem s_load (hd : dstOk n o.dst = true) {t : TypeId} {z : Nat} {ag c : Bool} {x : Operand} {x' : Src} (hx : opd n x = some x') (hz : szOf P t = some z) (ha : isAg? P t = some ag) (h1 : ag = true ∨ z = 1) (ho : o.op = .load t x) :
    Sound P D n o (.load o.dst c z ag x') := by
  intro s G a w K next Q h hg hn hfree
  have rx := eval_rep hg hx
  have fin : ∀ b q (cs : List V), a.eval x = .pointer (some ⟨b, q, none⟩) → cs.length = z → (∀ j c, cs[j]? = some c → (w.cell? ⟨b, q + j, none⟩).isSome = true) → (∀ j c, cs[j]? = some c → Rep G (Dp D s.L G) w c (cellD w b (q + j))) →
      K (s.setO o.dst (pack ag cs)) → o.upon P a next Q ((execOp a.eval o).run P w) := by
    intro b q cs hv hl hs hr hK
    refine val_step hg hd hn (x := pack ag cs) ?_ (rep_pack hl h1 hr) hK
    simp only [execOp, ho, hv, run_v, Instr.loadAt, Instr.sureAddr, Sem.run_bind, Sem.run_pure, Result.andThen_ok]
    rw [run_loadVar hz ha h1 fun j hj => hs j cs[j] (by simp [hl, hj])]
    rfl
  simp only [istep] at h
  split at h
  · rename_i cs hb
    rw [hb] at rx
    obtain ⟨b, q, ev, r1, r2, r3, r4⟩ := rep_cptr rx
    refine fin b q (cs.take z) ev (by simp; omega) (fun j c hc => ?_) (fun j c hc => ?_) h.2
    · exact r3 j c (by rw [List.getElem?_take] at hc; split at hc <;> first | exact hc | cases hc)
    · exact r4 j c (by rw [List.getElem?_take] at hc; split at hc <;> first | exact hc | cases hc)
  · rename_i id off hb
    rw [hb] at rx
    obtain ⟨g, r1, ev⟩ := rep_ptr rx
    split at h
    · rename_i cs hL
      obtain ⟨g', k1, c', ty, fr, k2, k3, k4, _, k5⟩ := hg.hp.blk _ _ hL
      obtain rfl : g = g' := Option.some.inj (r1.symm.trans k1)
      have q0 : g.off + off = off := by omega
      rw [q0] at ev
      refine fin _ _ ((cs.drop off).take z) ev (by simp; omega) (fun j c hc => ?_) (fun j c hc => ?_) h.2.2
      · have hc' : cs[off + j]? = some c := by rw [List.getElem?_take] at hc; split at hc <;> first | exact getElem?_drop' hc | cases hc
        rw [cell_of_blk k2]
        have := (List.getElem?_eq_some_iff.1 hc').1
        simp; omega
      · have hc' : cs[off + j]? = some c := by rw [List.getElem?_take] at hc; split at hc <;> first | exact getElem?_drop' hc | cases hc
        rw [cellD_of_blk k2]; exact k5 _ _ hc'
    · exact h.elim
  · rename_i id i j hb
    rw [hb] at rx
    obtain ⟨g, r1, ev⟩ := rep_eptr rx
    split at h
    · rename_i sz' es hL
      obtain ⟨_, p1, p2, p3⟩ := h
      obtain ⟨g', k1, e1, e2, e3, e4, e5⟩ := hg.hp.blk _ _ hL
      obtain rfl : g = g' := Option.some.inj (r1.symm.trans k1)
      obtain ⟨c', ty, fr, k2, k3, k4, k5⟩ := e5 (by omega)
      have hei : es[i]? = some (es.getD i .junk) := by simp [p1]
      have hlen : (es.getD i .junk).cells.length = sz' := ncells_length (e4 _ (mem_of_getElem? hei))
      rw [e1] at ev
      have get : ∀ m c, (((es.getD i .junk).cells.drop j).take z)[m]? = some c → (es[i]?.bind fun e => e.cells[j + m]?) = some c ∧ m < z := by
        intro m c hc
        rw [List.getElem?_take] at hc
        split at hc
        · rename_i hm; rw [hei]; exact ⟨getElem?_drop' hc, hm⟩
        · cases hc
      refine fin _ _ (((es.getD i .junk).cells.drop j).take z) ev (by simp [-List.getD_eq_getElem?_getD]; omega) (fun m c hc => ?_) (fun m c hc => ?_) p3
      · obtain ⟨q1, q2⟩ := get m c hc
        rw [cell_of_blk k2]
        have : (i + 1) * sz' ≤ g.cap * sz' := Nat.mul_le_mul_right _ (by omega)
        rw [Nat.add_mul] at this
        simp; omega
      · obtain ⟨q1, q2⟩ := get m c hc
        rw [cellD_of_blk k2]
        have := k5 _ _ _ q1
        rwa [← Nat.add_assoc] at this
    · exact h.elim
  · exact h.elim

/-- a row of cells with others put in from o on -/
def putL (c : Array Value) (q : Nat) : List Value → Array Value
  | [] => c
  | v :: r => putL (c.setIfInBounds q v) (q + 1) r

theorem putL_spec : ∀ (l : List Value) (c : Array Value) (q : Nat), q + l.length ≤ c.size →
    (putL c q l).size = c.size ∧ ∀ i, (putL c q l).getD i undef = if q ≤ i ∧ i < q + l.length then l.getD (i - q) undef else c.getD i undef
  | [], c, q, _ => by simp [putL]; intro i h1 h2; omega
  | v :: r, c, q, h => by
    obtain ⟨h1, h2⟩ := putL_spec r (c.setIfInBounds q v) (q + 1) (by simp at h ⊢; omega)
    simp only [putL]
    refine ⟨by rw [h1]; simp, fun i => ?_⟩
    rw [h2]
    simp only [List.length_cons] at h ⊢
    by_cases e : i = q
    · subst e
      rw [if_neg (by omega), if_pos (by omega)]
      simp [Array.getD_eq_getD_getElem?, Array.getElem?_setIfInBounds_self_of_lt (show i < c.size by omega)]
    · by_cases h3 : q + 1 ≤ i ∧ i < q + 1 + r.length
      · rw [if_pos h3, if_pos (by omega)]
        have e2 : i - q = (i - (q + 1)) + 1 := by omega
        rw [e2]; rfl
      · rw [if_neg h3, if_neg (by omega)]
        have hne : q ≠ i := fun h => e h.symm
        simp [Array.getD_eq_getD_getElem?, Array.getElem?_setIfInBounds_ne hne]

theorem setCell_heap (w : World) (b q : Nat) (v : Value) {c : Array Value} {ty : TypeId} {fr : Nat × Nat} (h : w.heap[b]? = some (.cells c ty fr)) :
    (w.setCell ⟨b, q, none⟩ v).heap[b]? = some (.cells (c.setIfInBounds q v) ty fr) := by
  have hlt : b < w.heap.size := (Array.getElem?_eq_some_iff.1 h).1
  have hv : w.heap[b] = .cells c ty fr := (Array.getElem?_eq_some_iff.1 h).2
  unfold World.setCell
  rw [Array.getElem?_eq_getElem (by simpa using hlt), Array.getElem_modify]
  simp [hv]

theorem setCells_spec (b : Nat) : ∀ (vs : List Value) (q : Nat) (w : World) {c : Array Value} {ty : TypeId} {fr : Nat × Nat}, w.heap[b]? = some (.cells c ty fr) →
    (w.setCells b q vs).heap[b]? = some (.cells (putL c q vs) ty fr) ∧ (∀ x, x ≠ b → (w.setCells b q vs).heap[x]? = w.heap[x]?) ∧ (w.setCells b q vs).heap.size = w.heap.size ∧
      (w.setCells b q vs).os = w.os ∧ (w.setCells b q vs).tape = w.tape ∧ (w.setCells b q vs).output = w.output
  | [], q, w, c, ty, fr, h => ⟨h, fun _ _ => rfl, rfl, rfl, rfl, rfl⟩
  | v :: r, q, w, c, ty, fr, h => by
    obtain ⟨h1, h2, h3, h4, h5, h6⟩ := setCells_spec b r (q + 1) (w.setCell ⟨b, q, none⟩ v) (setCell_heap w b q v h)
    refine ⟨h1, fun x hx => (h2 x hx).trans (Below.heap_setCell w _ _ _ hx), h3.trans (by simp [World.setCell]), h4, h5, h6⟩

theorem run_storeVar {t : TypeId} {z b q : Nat} {v : Value} {c : Array Value} {ty : TypeId} {fr : Nat × Nat} (hz : szOf P t = some z) (hv : v.cells.size = z) (h1 : ∀ u ∈ v.cells.toList, u.oneCell' = true)
    (h : w.heap[b]? = some (.cells c ty fr)) (hq : q + z ≤ c.size) (hf : ∀ i, i < z → ¬ (fr.1 ≤ q + i ∧ q + i < fr.2)) :
    (storeVar t ⟨b, q, none⟩ v).run P w = .ok () (w.setCells b q v.cells.toList) := by
  have := run_storeCells_cells (P := P) b q v.cells.toList 0 w (fun j hj => by rw [cell_of_blk h]; simp at hj ⊢; omega) (fun j hj => by
    have h3 := hf j (by simp at hj; omega)
    simp only [World.frozen?, h, Nat.add_zero]
    simpa [Nat.add_assoc] using h3) h1
  simp only [storeVar, Sem.run_bind, run_szOf hz, Result.andThen_ok, hv, ne_eq, not_true_eq_false, if_false, Nat.add_zero] at this ⊢
  simpa using this

/-- one owned block is turned in place -/
theorem Good.turnBlk (hg : Good D n s G a w) {id : Nat} {b b' : Blk} {g : GB} {w' : World} (hL : s.L id = some b) (hG : G id = some g) (hocc : ∀ x, Occ g b' x ↔ Occ g b x)
    (hb : ∀ x, Occ g b x → x = g.blk) (hother : ∀ x, x ≠ g.blk → w'.heap[x]? = w.heap[x]?) (hne : Occ g b g.blk) (hsz : w'.heap.size = w.heap.size) (hos : w'.os = w.os) (htape : w'.tape = w.tape) (hout : w'.output = w.output)
    (hok : ∀ G' D', (∀ x v, Rep G (Dp D s.L G) w x v → Rep G' D' w' x v) → BlkOk G' D' w' g b') :
    Good D n (s.put id b') G a w' ∧ Nxt s.L G w (s.put id b').L G w' := by
  have hown : ∀ x, Own (s.put id b').L G x → Own s.L G x := by
    rintro x ⟨i, bi, gi, h1, h2, h3⟩
    by_cases e : i = id
    · subst e
      simp only [St.put, upd_same, Option.some.injEq] at h1
      subst h1
      obtain rfl : gi = g := Option.some.inj (h2.symm.trans hG)
      exact ⟨i, b, gi, hL, h2, (hocc x).1 h3⟩
    · simp only [St.put, upd_ne _ _ _ _ e] at h1
      exact ⟨i, bi, gi, h1, h2, h3⟩
  have hx : Nxt s.L G w (s.put id b').L G w' := by
    refine ⟨G.le_refl, ⟨by omega, fun x hx hn => hother x fun e => hn ?_⟩, fun x _ => hown x, hos, htape, hout⟩
    subst e
    exact ⟨id, b, g, hL, hG, hne⟩
  refine ⟨hg.later hx ?_, hx⟩
  refine hg.hp.turn (· = id) hx hg.hp.fin (fun i bi hl hne => ?_) (fun i bi gi x hl hne hgi ho => ?_) (fun _ _ _ _ _ h => h) (fun i j hi hj => hi.trans hj.symm) (fun i bi hl hi => ?_)
  · simpa only [St.put, upd_ne _ _ _ _ hne] using hl
  · refine hother x fun e => ?_
    subst e
    simp only [St.put, upd_ne _ _ _ _ hne] at hl
    exact hg.hp.apart i id bi b gi g _ hl hL hgi hG hne ho ‹_›
  · subst hi
    simp only [St.put, upd_same, Option.some.injEq] at hl
    subst hl
    refine ⟨g, hG, hok _ _ fun x v hr => hx.rep hr, fun x ho => ?_⟩
    have ho' := (hocc x).1 ho
    have := hg.hp.away x ⟨i, b, g, hL, hG, ho'⟩
    refine ⟨by omega, this.2, fun i2 b2 g2 hl2 hn2 hg2 ho2 => ?_⟩
    simp only [St.put, upd_ne _ _ _ _ hn2] at hl2
    exact hg.hp.apart i2 i b2 b g2 g x hl2 hL hg2 hG hn2 ho2 ho'

theorem ncells_ones {x : V} {k : Nat} (h : x.ncells = some k) : ∀ c, c ∈ x.cells → c.one = true := by
  unfold V.ncells at h
  split at h
  · split at h
    · rename_i hall; intro c hc; exact List.all_eq_true.1 hall c hc
    · simp at h
  · split at h
    · rename_i hx h1
      intro c hc
      cases x <;> simp [V.one] at h1 <;> simp [V.cells] at hc <;> subst hc <;> simp [V.one, h1]
    · simp at h

theorem recell_ok {e : V} {cs : List V} {k : Nat} (he : e.ncells = some k) (hl : cs.length = k) (ho : ∀ c, c ∈ cs → c.one = true) : (e.recell cs).ncells = some k ∧ (e.recell cs).cells = cs := by
  unfold V.ncells at he
  split at he
  · split at he
    · rename_i hall
      simp only [V.recell, V.ncells, V.cells]
      rw [if_pos (List.all_eq_true.2 ho), hl]
      exact ⟨rfl, trivial⟩
    · simp at he
  · rename_i hx
    split at he
    · rename_i h1
      simp only [Option.some.injEq] at he
      subst he
      match cs, hl with
      | [c], _ =>
        have hc := ho c (by simp)
        have er : e.recell [c] = c := by cases e <;> first | rfl | exact absurd rfl (hx _)
        rw [er]
        refine ⟨?_, ?_⟩
        · unfold V.ncells
          split
          · simp [V.one] at hc
          · simp [hc]
        · cases c <;> first | rfl | simp [V.one] at hc
    · simp at he

theorem mem_setAt {zero : List V} {off : Nat} {cs : List V} {c : V} (h : c ∈ setAt zero off cs) : c ∈ zero ∨ c ∈ cs := by
  simp only [setAt, List.mem_append] at h
  rcases h with (h | h) | h
  · exact .inl (List.mem_of_mem_take h)
  · exact .inr h
  · exact .inl (List.mem_of_mem_drop h)

theorem s_store {t : TypeId} {z : Nat} {x y : Operand} {x' y' : Src} (hx : opd n x = some x') (hy : opd n y = some y') (hz : szOf P t = some z) (hdst : o.dst = none) (ho : o.op = .store t x y) : Sound P D n o (.store z x' y') := by
  intro s G a w K next Q h hg hn hfree
  have rx := eval_rep hg hx
  have ry := eval_rep hg hy
  have run : ∀ b q w', a.eval x = .pointer (some ⟨b, q, none⟩) → (storeVar t ⟨b, q, none⟩ (a.eval y)).run P w = .ok () w' → (execOp a.eval o).run P w = .ok .skip w' := by
    intro b q w' hv hr
    simp only [execOp, ho, hv, Instr.storeAt, Instr.sureAddr, Sem.run_bind, Sem.run_pure, Result.andThen_ok, hr]
  simp only [istep] at h
  split at h
  · rename_i id off hb
    rw [hb] at rx
    obtain ⟨g, r1, ev⟩ := rep_ptr rx
    split at h
    · rename_i ty0 cs hL
      obtain ⟨p1, p2, p3⟩ := h
      obtain ⟨g', k1, c', ty, fr, k2, k3, k4, k5, k6⟩ := hg.hp.blk _ _ hL
      obtain rfl : g = g' := Option.some.inj (r1.symm.trans k1)
      have q0 : g.off + off = off := by omega
      rw [q0] at ev
      obtain ⟨c1, c2, c3⟩ := rep_cells ry p1
      have c4 : (a.eval y).cells.size = z := by rw [← c1.1]; exact c2
      have hrun := run_storeVar (P := P) hz c4 c3 k2 (q := off) (by omega) (fun i hi => by have := k5 (off + i) (by omega); simpa using this)
      obtain ⟨s1, s2, s3, s4, s5, s6⟩ := setCells_spec g.blk (a.eval y).cells.toList off w k2
      have fit : off + (s.ev y').cells.length ≤ cs.length := by omega
      have hl1 : (a.eval y).cells.toList.length = z := by simpa using c4
      obtain ⟨u1, u2⟩ := putL_spec (a.eval y).cells.toList c' off (by omega)
      obtain ⟨g1, g2⟩ := hg.turnBlk (b' := .box ty0 (setAt cs off (s.ev y').cells)) hL r1 (fun x => Iff.rfl) (fun x h => h) s2 rfl s3 s4 s5 s6 (fun G' D' hm => by
        refine ⟨_, ty, fr, s1, ⟨by rw [u1, setAt_length fit, k3.1], k3.2⟩, k4, by rw [u1]; exact k5, fun i x hi => ?_⟩
        rw [u2, hl1]
        rw [setAt_get fit, c2] at hi
        split at hi
        · rename_i hh; rw [if_pos hh]
          have := c1.2 _ _ hi
          exact hm _ _ (by simpa [Array.getD_eq_getD_getElem?, List.getD] using this)
        · rename_i hh; rw [if_neg hh]; exact hm _ _ (k6 _ _ hi))
      rw [run _ _ _ ev hrun]
      simp only [Oper.upon, hdst, Act.put]
      exact hn _ _ _ _ p3 g1 g2 (New.same rfl)
    · exact h.elim
  · rename_i id i j hb
    rw [hb] at rx
    obtain ⟨g, r1, ev⟩ := rep_eptr rx
    split at h
    · rename_i ty0 sz' es hL
      obtain ⟨p0, p1, p2, p3⟩ := h
      obtain ⟨g', k1, e1, e2, e3, e4, e5⟩ := hg.hp.blk _ _ hL
      obtain rfl : g = g' := Option.some.inj (r1.symm.trans k1)
      have hcap : 0 < g.cap := by omega
      obtain ⟨c', ty, fr, k2, k3, k4, k5⟩ := e5 hcap
      have hei : es[i]? = some (es.getD i .junk) := by simp [p1]
      have hne := e4 _ (mem_of_getElem? hei)
      have hlen : (es.getD i .junk).cells.length = sz' := ncells_length hne
      rw [e1] at ev
      have hmul : (i + 1) * sz' ≤ g.cap * sz' := Nat.mul_le_mul_right _ (by omega)
      rw [Nat.add_mul] at hmul
      obtain ⟨c1, c2, c3⟩ := rep_cells ry p0
      have c4 : (a.eval y).cells.size = z := by rw [← c1.1]; exact c2
      have hrun := run_storeVar (P := P) hz c4 c3 k2 (q := g.off + i * sz' + j) (by omega) (fun m hm => by have := k4 (i * sz' + j + m) (by omega); simpa [Nat.add_assoc] using this)
      obtain ⟨s1, s2, s3, s4, s5, s6⟩ := setCells_spec g.blk (a.eval y).cells.toList (g.off + i * sz' + j) w k2
      have fit : j + (s.ev y').cells.length ≤ (es.getD i .junk).cells.length := by omega
      have hl1 : (a.eval y).cells.toList.length = z := by simpa using c4
      obtain ⟨u1, u2⟩ := putL_spec (a.eval y).cells.toList c' (g.off + i * sz' + j) (by omega)
      obtain ⟨v1, v2⟩ := recell_ok (cs := setAt (es.getD i .junk).cells j (s.ev y').cells) hne (by rw [setAt_length fit, hlen]) (fun c hc => (mem_setAt hc).elim (ncells_ones hne c) (ncells_ones p0 c))
      obtain ⟨g1, g2⟩ := hg.turnBlk (b' := .vec ty0 sz' (es.set i ((es.getD i .junk).recell (setAt (es.getD i .junk).cells j (s.ev y').cells)))) hL r1 (fun x => Iff.rfl) (fun x h => h.2) s2 ⟨hcap, rfl⟩ s3 s4 s5 s6 (fun G' D' hm => by
        refine ⟨e1, by simpa using e2, e3, fun e he => ?_, fun _ => ⟨_, ty, fr, s1, by rw [u1]; exact k3, k4, fun i' j' x hi => ?_⟩⟩
        · rcases List.mem_or_eq_of_mem_set he with he | rfl
          · exact e4 e he
          · exact v1
        · rw [u2, hl1]
          by_cases hii : i' = i
          · subst hii
            rw [List.getElem?_set_self (by simpa using p1), Option.bind_some, v2, setAt_get fit, c2] at hi
            split at hi
            · rename_i hh
              rw [if_pos (by omega)]
              have := c1.2 _ _ hi
              have e : g.off + i' * sz' + j' - (g.off + i' * sz' + j) = j' - j := by omega
              rw [e]
              exact hm _ _ (by simpa [Array.getD_eq_getD_getElem?, List.getD] using this)
            · rename_i hh
              rw [if_neg (by omega)]
              exact hm _ _ (k5 i' j' x (by rw [hei]; exact hi))
          · rw [List.getElem?_set_ne (fun h => hii h.symm)] at hi
            have hj' : j' < sz' := by
              cases he : es[i']? with
              | none => rw [he] at hi; simp at hi
              | some e =>
                rw [he, Option.bind_some] at hi
                have := (List.getElem?_eq_some_iff.1 hi).1
                rw [ncells_length (e4 e (mem_of_getElem? he))] at this
                exact this
            rw [if_neg]
            · exact hm _ _ (k5 i' j' x hi)
            · rcases Nat.lt_or_gt_of_ne hii with hlt | hgt
              · have := Nat.mul_le_mul_right sz' (show i' + 1 ≤ i by omega)
                rw [Nat.add_mul] at this; omega
              · have := Nat.mul_le_mul_right sz' (show i + 1 ≤ i' by omega)
                rw [Nat.add_mul] at this; omega)
      rw [run _ _ _ ev hrun]
      simp only [Oper.upon, hdst, Act.put]
      exact hn _ _ _ _ p3 g1 g2 (New.same rfl)
    · exact h.elim
  · exact h.elim

end
end Go.Ab
