/- New blocks; slice literals. No condition. -/
import Derived.Test.YtbipjhcnooellaaAbI
import Derived.Laws.IdiomRangeMap
namespace Go.Ab
open Go.RowKit
set_option linter.unusedVariables false
set_option linter.unusedSimpArgs false

section
variable {P : Program} {D : Nat → Prop} {n : Nat} {hint : Nat → Nat} {s : St} {G : Ghost} {a : Act} {w : World} {o : Oper} {K : St → Prop} {next : Act → World → Prop} {Q : Exit → Act → World → Prop} {m : Option Nat}

theorem below_alloc (w : World) (ob : Obj) : Below w.heap.size w (w.alloc ob) := ⟨rfl, rfl, rfl, by show w.heap.size ≤ (w.heap.push ob).size; simp, fun k hk => heap_alloc_old w ob hk⟩
theorem heap_alloc_self (w : World) (ob : Obj) : (w.alloc ob).heap[w.heap.size]? = some ob := heap_alloc_new w ob
theorem size_alloc (w : World) (ob : Obj) : (w.alloc ob).heap.size = w.heap.size + 1 := by show (w.heap.push ob).size = _; simp

theorem upd_le {G : Ghost} {id : Nat} (h : G id = none) (g : GB) : G.le (upd G id (some g)) := fun i x hx => by
  exact ⟨x.aux, by rw [upd_ne _ _ _ _ (fun e => by subst e; rw [h] at hx; cases hx)]; exact hx⟩

theorem new_add {s s' : St} {id d : Nat} (gb : GB) (hn : s'.nx = s.nx) (hid : id = s.nx + d) : New (some d) s G s' (upd G id (some gb)) := by
  refine ⟨hn, fun i hi => ?_⟩
  by_cases e : i = id
  · subst e; exact .inr ⟨d, rfl, hid⟩
  · rw [upd_ne _ _ _ _ e] at hi; exact .inl hi

/-- a name for a new block, or for none -/
theorem Good.newBlk (hg : Good D n s G a w) {w' : World} (hb : Below w.heap.size w w') {id : Nat} (hid : G id = none) (hU : id < s.nx + n) (b : Blk) (gb : GB)
    (hocc : ∀ x, Occ gb b x → w.heap.size ≤ x ∧ x < w'.heap.size)
    (hok : ∀ G' D', (∀ x v, Rep G (Dp D s.L G) w x v → Rep G' D' w' x v) → BlkOk G' D' w' gb b) :
    Good D n (s.add id b) (upd G id (some gb)) a w' ∧ Nxt s.L G w (s.add id b).L (upd G id (some gb)) w' := by
  have hLid : s.L id = none := by
    cases h : s.L id with
    | none => rfl
    | some b' =>
      obtain ⟨g, h1, _⟩ := hg.hp.blk id b' h
      rw [hid] at h1; cases h1
  have hx : Nxt s.L G w (s.add id b).L (upd G id (some gb)) w' := by
    refine ⟨upd_le hid gb, ⟨hb.size, fun x h _ => hb.block x h⟩, ?_, hb.os, hb.tape, hb.output⟩
    rintro x hx ⟨i, bi, gi, h1, h2, h3⟩
    by_cases e : i = id
    · subst e
      simp only [St.add, upd_same, Option.some.injEq] at h1 h2
      subst h1 h2
      have := hocc x h3
      omega
    · simp only [St.add, upd_ne _ _ _ _ e] at h1 h2
      exact ⟨i, bi, gi, h1, h2, h3⟩
  refine ⟨hg.later hx ?_, hx⟩
  refine hg.hp.turn (· = id) hx (fun i hi => (upd_ne _ _ _ _ (show i ≠ id from fun e => by subst e; exact absurd hi (Nat.not_le.2 hU))).trans (hg.hp.fin i hi)) (fun i bi hl hne => ?_) (fun i bi gi x hl hne hgi ho => ?_) (fun i bi gi _ hne hgi => by rw [upd_ne _ _ _ _ hne]; exact hgi) (fun i j hi hj => hi.trans hj.symm) (fun i bi hl hi => ?_)
  · simpa only [St.add, upd_ne _ _ _ _ hne] using hl
  · simp only [St.add, upd_ne _ _ _ _ hne] at hl
    exact hb.block x (hg.hp.away x ⟨i, bi, gi, hl, hgi, ho⟩).1
  · subst hi
    simp only [St.add, upd_same, Option.some.injEq] at hl
    subst hl
    refine ⟨gb, upd_same _ _ _, hok _ _ fun x v hr => hx.rep hr, fun x ho => ?_⟩
    have h1 := hocc x ho
    refine ⟨h1.2, fun hd => ?_, fun i2 b2 g2 hl2 hn2 hg2 ho2 => ?_⟩
    · have := hg.hp.dlt x hd; omega
    · simp only [St.add, upd_ne _ _ _ _ hn2] at hl2
      have := (hg.hp.away x ⟨i2, b2, g2, hl2, hg2, ho2⟩).1
      omega

theorem put_some (d : Nat) (x : V) (s : St) : s.setO (some d) x = s.set d x := rfl

theorem s_alloc {d : Nat} (hd : d < n) (hdst : o.dst = some d) {e : TypeId} {z : List V} (hz : zeroOf P e = some z) (ho : o.op = .alloc e) : Sound P D n o (.alloc d e z) := by
  intro s G a w K next Q h hg hn hfree
  have hG := hfree d rfl
  obtain ⟨zv, _, hrun, hrep⟩ := zeroOf_rep hz G (Dp D s.L G) w
  simp only [istep] at h
  have hK := h
  have run : (execOp a.eval o).run P w = .ok (.value (.pointer (some ⟨w.heap.size, 0, none⟩))) (w.alloc (.cells zv.cells e)) := by
    simp only [execOp, ho, run_v, Instr.alloc, Sem.run_bind, hrun, Result.andThen_ok]
    simp [newVar, newRow]
  obtain ⟨g1, g2⟩ := hg.newBlk (below_alloc w (.cells zv.cells e)) hG (by omega) (.box e z) ⟨w.heap.size, 0, 0, 0, 0⟩ (fun x hx => (by simp only [Occ] at hx; subst hx; rw [size_alloc]; omega)) (fun G' D' hm =>
    ⟨_, _, _, heap_alloc_self _ _, ⟨hrep.1.symm, rfl⟩, rfl, fun i _ => (by simp), fun i x hx => hm _ _ (hrep.2 i x hx)⟩)
  rw [run]
  simp only [Oper.upon, hdst]
  have g3 := g1.put (d := some d) (x := .ptr (s.nx + d) 0) (v := .pointer (some ⟨w.heap.size, 0, none⟩)) (by simpa [dstOk] using hd) (.ptr (s.nx + d) 0 _ (upd_same _ _ _))
  exact hn _ _ _ _ hK g3 g2 (new_add _ rfl rfl)

theorem s_box {d : Nat} (hd : d < n) (hdst : o.dst = some d) {e : TypeId} {x : Operand} {x' : Src} (hx : opd n x = some x') (ho : o.op = .box e x) : Sound P D n o (.box d e x') := by
  intro s G a w K next Q h hg hn hfree
  have hG := hfree d rfl
  simp only [istep] at h
  obtain ⟨h1, h2⟩ := h
  obtain ⟨k, hk⟩ := Option.isSome_iff_exists.1 h1
  obtain ⟨c1, c2, c3⟩ := rep_cells (eval_rep hg hx) hk
  have hK := h2
  have run : (execOp a.eval o).run P w = .ok (.value (.pointer (some ⟨w.heap.size, 0, none⟩))) (w.alloc (.cells (a.eval x).cells e)) := by
    simp only [execOp, ho, run_v, Instr.box]
    simp [newVar, newRow]
  obtain ⟨g1, g2⟩ := hg.newBlk (below_alloc w (.cells (a.eval x).cells e)) hG (by omega) (.box e (s.ev x').cells) ⟨w.heap.size, 0, 0, 0, 0⟩ (fun x hx => (by simp only [Occ] at hx; subst hx; rw [size_alloc]; omega)) (fun G' D' hm =>
    ⟨_, _, _, heap_alloc_self _ _, ⟨c1.1.symm, rfl⟩, rfl, fun i _ => (by simp), fun i x hx => hm _ _ (c1.2 i x hx)⟩)
  rw [run]
  simp only [Oper.upon, hdst]
  have g3 := g1.put (d := some d) (x := .ptr (s.nx + d) 0) (v := .pointer (some ⟨w.heap.size, 0, none⟩)) (by simpa [dstOk] using hd) (.ptr (s.nx + d) 0 _ (upd_same _ _ _))
  exact hn _ _ _ _ hK g3 g2 (new_add _ rfl rfl)

/-- what the parts of a slice literal come to -/
theorem fillS (hg : Good D n s G a w) (z : Nat) : ∀ (xs : List Operand) (qs : List Src) (k : Nat) (cells : Array Value), opds n xs = some qs → (∀ p ∈ qs, (s.ev p).ncells = some z) → (k + xs.length) * z ≤ cells.size →
    ∃ cells', Instr.fill (fun i => some (i * z, z)) cells ((xs.zipIdx k).map fun p => (p.2, a.eval p.1)) = some cells' ∧ cells'.size = cells.size ∧ (∀ m, m < k * z → cells'.getD m undef = cells.getD m undef) ∧ qs.length = xs.length ∧
      ∀ i j c, (((qs.map s.ev)[i]?).bind fun e => e.cells[j]?) = some c → Rep G (Dp D s.L G) w c (cells'.getD ((k + i) * z + j) undef)
  | [], qs, k, cells, h, _, _ => by
    simp [opds] at h; subst h
    exact ⟨cells, rfl, rfl, fun _ _ => rfl, rfl, fun i j c hc => by simp at hc⟩
  | x :: r, qs, k, cells, h, hp, hf => by
    simp only [opds] at h
    split at h
    · rename_i y rest h1 h2
      simp only [Option.some.injEq] at h
      subst h
      obtain ⟨c1, c2, c3⟩ := rep_cells (eval_rep hg h1) (hp y (by simp))
      have c4 : (a.eval x).cells.size = z := by rw [← c1.1]; exact c2
      have hf' : (k + 1 + r.length) * z ≤ cells.size := by simp only [List.length_cons] at hf; rw [show k + 1 + r.length = k + (r.length + 1) by omega]; exact hf
      have hkz : k * z + z ≤ cells.size := by
        have : (k + 1) * z ≤ (k + 1 + r.length) * z := Nat.mul_le_mul_right _ (by omega)
        rw [Nat.add_mul, Nat.one_mul] at this; omega
      obtain ⟨p1, p2⟩ := foldl_put (k * z) (a.eval x).cells.toList 0 cells (by simp [c4]; omega)
      rw [← Array.toList_zipIdx, Array.foldl_toList] at p1 p2
      obtain ⟨cells', e1, e2, e3, e4, e5⟩ := fillS hg z r rest (k + 1) ((a.eval x).cells.zipIdx.foldl (fun cs (x : Value × Nat) => cs.setIfInBounds (k * z + x.2) x.1) cells) h2 (fun p hm => hp p (by simp [hm])) (by rw [p1]; exact hf')
      have c5 : ¬ (k * z + z > cells.size) := by omega
      refine ⟨cells', ?_, by rw [e2, p1], fun m hm => ?_, by simp [e4], fun i j c hc => ?_⟩
      · simp only [List.zipIdx_cons, List.map_cons, Instr.fill, c4, ne_eq, not_true_eq_false, decide_false, Bool.false_or, decide_eq_true_eq, c5, if_false]
        exact e1
      · rw [e3 m (by rw [Nat.add_mul]; omega), p2, if_neg (by omega)]
      · cases i with
        | zero =>
          simp only [List.map_cons, List.getElem?_cons_zero, Option.bind_some] at hc
          have hj : j < z := by rw [← c2]; exact (List.getElem?_eq_some_iff.1 hc).1
          rw [Nat.add_zero, e3 _ (by rw [Nat.add_mul]; omega), p2, if_pos (by simp [c4]; omega)]
          have := c1.2 _ _ hc
          simpa [Array.getD_eq_getD_getElem?, List.getD] using this
        | succ i =>
          have := e5 i j c (by simpa using hc)
          rwa [show k + 1 + i = k + (i + 1) by omega] at this
    · simp at h

theorem zip_of : ∀ (l : List (Nat × Operand)) (k : Nat), l.map (·.1) = (List.range l.length).map (k + ·) → l = ((l.map (·.2)).zipIdx k).map fun p => (p.2, p.1)
  | [], _, _ => rfl
  | (i, x) :: r, k, h => by
    simp only [List.length_cons, List.range_succ_eq_map, List.map_cons, List.map_map, List.cons.injEq] at h
    obtain ⟨h1, h2⟩ := h
    simp only [Nat.add_zero] at h1
    subst h1
    simp only [List.map_cons, List.zipIdx_cons]
    rw [← zip_of r (i + 1) (by rw [h2]; apply List.map_congr_left; intro x _; simp; omega)]

theorem run_mk (hg : Good D n s G a w) {t e : TypeId} {len z : Nat} {parts : Array (Nat × Operand)} {qs : List Src} (hu : P.underlying t = some (.slice e)) (hz : szOf P e = some z) (hqs : opds n (parts.toList.map (·.2)) = some qs)
    (hi : parts.toList.map (·.1) = List.range len) (hs : len * z ≤ 2 ^ 24) (h0 : 0 < z) (hzero : ∃ zs, zeroOf P e = some zs ∧ zs.length = z) (hp : ∀ p ∈ qs, (s.ev p).ncells = some z) (ho : o.op = .buildSlice t len parts) :
    ∃ cells, (execOp a.eval o).run P w = .ok (.value (.slice (some ⟨w.heap.size, 0, none⟩) len len)) (w.alloc (.cells cells e)) ∧ cells.size = len * z ∧ qs.length = len ∧
      ∀ i j c, (((qs.map s.ev)[i]?).bind fun e => e.cells[j]?) = some c → Rep G (Dp D s.L G) w c (cells.getD (i * z + j) undef) := by
  obtain ⟨zs, hzs, hzl⟩ := hzero
  obtain ⟨zv, _, hzrun, hzrep⟩ := zeroOf_rep hzs G (Dp D s.L G) w
  have hzz : zv.cells.size = z := by rw [← hzrep.1, hzl]
  have hlen : parts.toList.length = len := by have := congrArg List.length hi; simpa using this
  have hparts : (parts.map fun (x : Nat × Operand) => match x with | (i, x) => (i, a.eval x)).toList = ((parts.toList.map (·.2)).zipIdx 0).map fun p => (p.2, a.eval p.1) := by
    rw [Array.toList_map]
    have := zip_of parts.toList 0 (by rw [hlen, hi]; simp)
    conv => lhs; rw [this]
    rw [List.map_map]; rfl
  have hsz : (P.info? e).map (·.size) = some z := hz
  generalize hc0 : (if len * z = 0 then (#[] : Array Value) else (Array.range (len * z)).map (zv.cells[· % zv.cells.size]!)) = cells0
  have hs0 : cells0.size = len * z := by
    rw [← hc0]; split
    · rename_i h; simp [h]
    · simp
  obtain ⟨cells, e1, e2, e3, e4, e5⟩ := fillS hg z (parts.toList.map (·.2)) qs 0 cells0 hqs hp (by rw [hs0]; simp [← hlen])
  refine ⟨cells, ?_, by rw [e2, hs0], by rw [e4]; simpa using hlen, fun i j c hc => by simpa using e5 i j c hc⟩
  simp only [execOp, ho, run_v, Instr.buildSlice, Sem.run_bind, run_underlying hu, Result.andThen_ok, run_szOf hz]
  rw [if_neg (by omega)]
  by_cases hl0 : len * z = 0
  · have hc1 : cells0 = #[] := by rw [← hc0, if_pos hl0]
    rw [hc1] at e1
    simp only [hl0, if_true, Sem.run_bind, Sem.run_pure, Result.andThen_ok]
    have e6 : (Array.map (fun x => (#[] : Array Value)[x % (#[] : Array Value).size]!) (Array.range 0)) = #[] := by simp
    rw [e6, hparts, e1]
    simp [newRow]
  · have hc1 : cells0 = (Array.range (len * z)).map (zv.cells[· % zv.cells.size]!) := by rw [← hc0, if_neg hl0]
    rw [hc1] at e1
    simp only [hl0, if_false, Sem.run_bind, hzrun, Sem.run_pure, Result.andThen_ok]
    rw [hparts, e1]
    simp [newRow]

end
end Go.Ab
