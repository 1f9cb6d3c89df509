/- Further operations that leave memory alone. No condition. -/
import Derived.Test.YtbipjhcnooellaaAbF
import Derived.Laws.Tables
namespace Go.Ab
open Go.RowKit
set_option linter.unusedVariables false
set_option linter.unusedSimpArgs false

section
variable {P : Program} {D : Nat → Prop} {n : Nat} {hint : Nat → Nat} {s : St} {G : Ghost} {a : Act} {w : World} {o : Oper} {K : St → Prop} {next : Act → World → Prop} {Q : Exit → Act → World → Prop} {m : Option Nat}

theorem rep_part {G : Ghost} {D : Nat → Prop} {cs : List V} {vs : Array Value} (hl : cs.length = vs.size) (hr : ∀ i c, cs[i]? = some c → Rep G D w c (vs.getD i undef)) {off z : Nat} {ag : Bool} (h : off + z ≤ cs.length) (h1 : ag = true ∨ z = 1) :
    Rep G D w (pack ag ((cs.drop off).take z)) (if ag then .agg (vs.extract off (off + z)) else vs.getD off undef) := by
  cases ag with
  | true =>
    simp only [pack, if_true]
    refine .agg _ _ (by simp; omega) fun i c hc => ?_
    have hi : i < z := by
      have := (List.getElem?_eq_some_iff.1 hc).1
      simp at this; omega
    rw [List.getElem?_take_of_lt hi] at hc
    have hc' : cs[off + i]? = some c := by simpa using hc
    have h3 := hr _ _ hc'
    have h4 : off + i < vs.size := by omega
    have h5 : i < (vs.extract off (off + z)).size := by simp; omega
    have e1 : (vs.extract off (off + z)).getD i undef = vs.getD (off + i) undef := by
      simp only [Array.getD_eq_getD_getElem?, Array.getElem?_eq_getElem h5, Array.getElem?_eq_getElem h4, Array.getElem_extract]
    rw [e1]; exact h3
  | false =>
    have h1 : z = 1 := by simpa using h1
    subst h1
    simp only [pack, Bool.false_eq_true, if_false]
    have h2 : off < cs.length := by omega
    have h3 := hr off cs[off] (by simp [h2])
    have h4 : ((cs.drop off).take 1).headD .junk = cs[off] := by
      rw [List.drop_eq_getElem_cons h2]; rfl
    rw [h4]; exact h3

theorem run_part {t : TypeId} {ag : Bool} {z off : Nat} {vs : Array Value} (hz : szOf P t = some z) (ha : isAg? P t = some ag) (h1 : ag = true ∨ z = 1) (h : off + z ≤ vs.size) :
    (part t vs off).run P w = .ok (if ag then .agg (vs.extract off (off + z)) else vs.getD off undef) w := by
  simp only [part, Sem.run_bind, run_isAg? ha, Result.andThen_ok]
  cases ag with
  | true => simp [run_szOf hz]
  | false =>
    have h1 : z = 1 := by simpa using h1
    subst h1
    have h2 : off < vs.size := by omega
    simp [h2, Array.getD_eq_getD_getElem?]

theorem s_field (hd : dstOk n o.dst = true) {t : TypeId} {f : Nat} {fd : Field} {z : Nat} {ag : Bool} {x : Operand} {x' : Src} (hx : opd n x = some x') (hf : fieldOf? P t f = some fd) (hz : szOf P fd.type = some z) (ha : isAg? P fd.type = some ag)
    (h1 : ag = true ∨ z = 1) (ho : o.op = .field t x f) : Sound P D n o (.field o.dst fd.offset z ag x') := by
  intro s G a w K next Q h hg hn hfree
  have rx := eval_rep hg hx
  obtain ⟨fs, hu, hfs⟩ := fieldOf_spec hf
  simp only [istep] at h
  split at h
  · rename_i cs hb
    rw [hb] at rx
    obtain ⟨vs, ev, hl, hr⟩ := rep_agg rx
    refine val_step hg hd hn (x := pack ag ((cs.drop fd.offset).take z)) (v := if ag then .agg (vs.extract fd.offset (fd.offset + z)) else vs.getD fd.offset undef) ?_ (rep_part hl hr h.1 h1) h.2
    simp only [execOp, ho, ev, run_v]
    simp [Instr.field, run_underlying hu, hfs, asAgg, run_part hz ha h1 (hl ▸ h.1)]
  · exact h.elim

theorem s_idxA (hd : dstOk n o.dst = true) {t e : TypeId} {m z : Nat} {ag : Bool} {x i : Operand} {x' i' : Src} (hx : opd n x = some x') (hi : opd n i = some i') (hu : P.underlying t = some (.array m e)) (hz : szOf P e = some z) (ha : isAg? P e = some ag)
    (h1 : ag = true ∨ z = 1) (ho : o.op = .index t x i) : Sound P D n o (.idxA o.dst m z ag x' i') := by
  intro s G a w K next Q h hg hn hfree
  have rx := eval_rep hg hx
  have ri := eval_rep hg hi
  simp only [istep] at h
  split at h
  · rename_i cs k j hb hc
    rw [hb] at rx
    rw [hc] at ri
    obtain ⟨vs, ev, hl, hr⟩ := rep_agg rx
    obtain ⟨p1, p2, p3, p4⟩ := h
    have hfit : j.toNat * z + z ≤ cs.length := by
      have : (j.toNat + 1) * z ≤ m * z := Nat.mul_le_mul_right _ (by omega)
      rw [Nat.add_mul] at this
      omega
    refine val_step hg hd hn (x := pack ag ((cs.drop (j.toNat * z)).take z)) (v := if ag then .agg (vs.extract (j.toNat * z) (j.toNat * z + z)) else vs.getD (j.toNat * z) undef) ?_ (rep_part hl hr hfit h1) p4
    simp only [execOp, ho, ev, rep_int ri, run_v]
    simp [Instr.index, asIntOf, run_underlying hu, p1, p2, run_szOf hz, run_part hz ha h1 (hl ▸ hfit)]
  · exact h.elim

theorem s_iadr (hd : dstOk n o.dst = true) {t e : TypeId} {z : Nat} {x i : Operand} {x' i' : Src} (hx : opd n x = some x') (hi : opd n i = some i') (hu : P.underlying t = some (.slice e)) (hz : szOf P e = some z)
    (h0 : 0 < z) (ho : o.op = .indexAddr t x i) : Sound P D n o (.iadr o.dst z x' i') := by
  intro s G a w K next Q h hg hn hfree
  have rx := eval_rep hg hx
  have ri := eval_rep hg hi
  have fin : ∀ b q l c k j X, a.eval x = .slice (some ⟨b, q, none⟩) l c → a.eval i = .int k j → 0 ≤ j → j.toNat < l → Rep G (Dp D s.L G) w X (.pointer (some ⟨b, q + j.toNat * z, none⟩)) → K (s.setO o.dst X) →
      o.upon P a next Q ((execOp a.eval o).run P w) := by
    intro b q l c k j X hv hw p1 p2 hX hK
    refine val_step hg hd hn (x := X) (v := .pointer (some ⟨b, q + j.toNat * z, none⟩)) ?_ hX hK
    have p3 : j < l := by omega
    simp only [execOp, ho, hv, hw, run_v]
    simp [Instr.indexAt, asIntOf, run_underlying hu, p1, p3, run_szOf hz, addr_add]
  simp only [istep] at h
  split at h
  · rename_i sz' es k j hb hc
    rw [hb] at rx
    rw [hc] at ri
    obtain ⟨rfl, p1, p2, p3⟩ := h
    obtain ⟨a0, cap, b, q, ev, _, _, r1, r2, r3, r4⟩ := rep_lst rx
    obtain ⟨rfl, r5, r6⟩ := r1 (by omega)
    have he : es[j.toNat]? = some (es.getD j.toNat .junk) := by simp [p2]
    refine fin _ _ _ _ _ _ _ ev (rep_int ri) p1 p2 (.cptr _ _ _ r5 r6 (fun m c hc => ?_) (fun m c hc => ?_)) p3
    · exact r3 j.toNat m c (by rw [he]; exact hc)
    · exact r4 j.toNat m c (by rw [he]; exact hc)
  · rename_i id sz' off len k j hb hc
    rw [hb] at rx
    rw [hc] at ri
    obtain ⟨rfl, p1, p2, p3⟩ := h
    obtain ⟨g, a0, cap, ev, r1, r2, r3, r4, r5, r6⟩ := rep_own rx
    obtain rfl := r6 (by omega)
    have e1 : g.off + off * sz' + j.toNat * sz' = g.off + (off + j.toNat) * g.sz + 0 := by rw [r2, Nat.add_mul, Nat.add_zero, Nat.add_assoc]
    exact fin _ _ _ _ _ _ _ ev (rep_int ri) p1 p2 (by rw [e1]; exact .eptr _ _ _ g r1) p3
  · exact h.elim

theorem s_iadrA (hd : dstOk n o.dst = true) {t e : TypeId} {m z : Nat} {x i : Operand} {x' i' : Src} (hx : opd n x = some x') (hi : opd n i = some i') (hu : P.underlying t = some (.array m e)) (hz : szOf P e = some z)
    (ho : o.op = .indexAddr t x i) : Sound P D n o (.iadrA o.dst m z x' i') := by
  intro s G a w K next Q h hg hn hfree
  have rx := eval_rep hg hx
  have ri := eval_rep hg hi
  have fin : ∀ b q k j X, a.eval x = .pointer (some ⟨b, q, none⟩) → a.eval i = .int k j → 0 ≤ j → j < m → Rep G (Dp D s.L G) w X (.pointer (some ⟨b, q + j.toNat * z, none⟩)) → K (s.setO o.dst X) →
      o.upon P a next Q ((execOp a.eval o).run P w) := by
    intro b q k j X hv hw p1 p2 hX hK
    refine val_step hg hd hn (x := X) (v := .pointer (some ⟨b, q + j.toNat * z, none⟩)) ?_ hX hK
    simp only [execOp, ho, hv, hw, run_v]
    simp [Instr.indexAt, asIntOf, run_underlying hu, Instr.sureAddr, p1, p2, run_szOf hz, addr_add]
  simp only [istep] at h
  split at h
  · rename_i cs k j hb hc
    rw [hb] at rx
    rw [hc] at ri
    obtain ⟨p1, p2, p3⟩ := h
    obtain ⟨b, q, ev, r1, r2, r3, r4⟩ := rep_cptr rx
    refine fin _ _ _ _ _ ev (rep_int ri) p1 p2 (.cptr _ _ _ r1 r2 (fun m c hc => ?_) (fun m c hc => ?_)) p3
    · have := r3 _ _ (getElem?_drop' hc); rwa [Nat.add_assoc]
    · have := r4 _ _ (getElem?_drop' hc); rwa [Nat.add_assoc]
  · rename_i id off k j hb hc
    rw [hb] at rx
    rw [hc] at ri
    obtain ⟨p1, p2, p3⟩ := h
    obtain ⟨g, r1, ev⟩ := rep_ptr rx
    exact fin _ _ _ _ _ ev (rep_int ri) p1 p2 (by rw [Nat.add_assoc]; exact .ptr _ _ g r1) p3
  · exact h.elim

theorem drop_take_get {es : List V} {l h i : Nat} {e : V} (hh : ((es.take h).drop l)[i]? = some e) : es[l + i]? = some e := by
  rw [List.getElem?_drop, List.getElem?_take] at hh
  split at hh
  · exact hh
  · cases hh

theorem bind_get {es : List V} {l h i j : Nat} {c : V} (hh : ((((es.take h).drop l)[i]?).bind fun e => e.cells[j]?) = some c) : ((es[l + i]?).bind fun e => e.cells[j]?) = some c := by
  cases he : ((es.take h).drop l)[i]? with
  | none => rw [he] at hh; simp at hh
  | some e => rw [drop_take_get he]; rw [he] at hh; exact hh

theorem rep_sub {sz : Nat} {es : List V} {a0 : Option Addr} {cap l h : Nat} {G : Ghost} {D : Nat → Prop} (hr : Rep G D w (.lst sz es) (.slice a0 es.length cap)) (h1 : l ≤ h) (h2 : h ≤ es.length) :
    Rep G D w (.lst sz ((es.take h).drop l)) (.slice (if cap = l then a0 else a0.map (·.add (l * sz))) (h - l) (cap - l)) := by
  obtain ⟨a1, cap', b, q, ev, r1, r2, r3, r4, r5, r6⟩ := rep_lst hr
  simp only [Value.slice.injEq, true_and] at ev
  obtain ⟨rfl, rfl⟩ := ev
  have hlen : ((es.take h).drop l).length = h - l := by simp; omega
  have key : Rep G D w (.lst sz ((es.take h).drop l)) (.slice (if cap = l then a0 else a0.map (·.add (l * sz))) ((es.take h).drop l).length (cap - l)) := by
    refine .lst _ _ _ _ b (q + l * sz) (by omega) (by omega) (fun h0 => ?_) (fun e he => r4 e (List.mem_of_mem_take (List.mem_of_mem_drop he))) (fun i j c hc => ?_) (fun i j c hc => ?_)
    · obtain ⟨rfl, k2, k3⟩ := r3 (by omega)
      rw [if_neg (by omega)]
      exact ⟨by simp [addr_add], k2, k3⟩
    · have := r5 _ _ _ (bind_get hc)
      rwa [Nat.add_mul, ← Nat.add_assoc] at this
    · have := r6 _ _ _ (bind_get hc)
      rwa [Nat.add_mul, ← Nat.add_assoc] at this
  rwa [hlen] at key

theorem s_slc (hd : dstOk n o.dst = true) {t e : TypeId} {z : Nat} {x : Operand} {lo hi : Option Operand} {x' : Src} {lo' hi' : Option Src} (hx : opd n x = some x') (hlo : opdO n lo = some lo') (hhi : opdO n hi = some hi')
    (hu : P.underlying t = some (.slice e)) (hz : szOf P e = some z) (ho : o.op = .slice t x lo hi none) : Sound P D n o (.slc o.dst z x' lo' hi') := by
  intro s G a w K next Q h hg hn hfree
  have rx := eval_rep hg hx
  have fin : ∀ b len cap l h X, a.eval x = .slice b len cap → (Instr.sliceBounds true len cap (lo.map a.eval) (hi.map a.eval) none).run P w = .ok (l, h, cap) w →
      Rep G (Dp D s.L G) w X (.slice (if cap = l then b else b.map (·.add (l * z))) (h - l) (cap - l)) → K (s.setO o.dst X) → o.upon P a next Q ((execOp a.eval o).run P w) := by
    intro b len cap l h X hv hb hX hK
    refine val_step hg hd hn (x := X) ?_ hX hK
    simp only [execOp, ho, hv, run_v]
    simp [Instr.sliceAt, run_underlying hu, Instr.slice, hb, run_szOf hz]
  simp only [istep] at h
  split at h
  · rename_i hb
    rw [hb] at rx
    obtain ⟨l, h', h1, h2, h3, h4⟩ := run_bounds (P := P) true 0 0 hlo hhi hg (Nat.le_refl _) h
    have e1 : l = 0 := by omega
    have e2 : h' = 0 := by omega
    subst e1 e2
    exact fin _ _ _ _ _ _ (rep_nils rx) h4 .nils h3
  · rename_i sz' es hb
    rw [hb] at rx
    obtain ⟨rfl, h⟩ := h
    obtain ⟨a0, cap, b, q, ev, r1, _⟩ := rep_lst rx
    rw [ev] at rx
    obtain ⟨l, h', h1, h2, h3, h4⟩ := run_bounds (P := P) true es.length cap hlo hhi hg r1 h
    exact fin _ _ _ _ _ _ ev h4 (rep_sub rx h1 h2) h3
  · rename_i id sz' off m hb
    rw [hb] at rx
    obtain ⟨rfl, h⟩ := h
    obtain ⟨g, a0, cap, ev, r1, r2, r3, r4, r5, r6⟩ := rep_own rx
    obtain ⟨l, h', h1, h2, h3, h4⟩ := run_bounds (P := P) true m cap hlo hhi hg r3 h
    refine fin _ _ _ _ _ _ ev h4 (.own _ _ _ _ g _ _ r1 r2 (by omega) (by omega) r5 fun h0 => ?_) h3
    rw [if_neg (by omega), r6 (by omega)]
    simp [addr_add, Nat.add_mul, Nat.add_assoc]
  · exact h.elim

theorem s_mx (hd : dstOk n o.dst = true) {isMax : Bool} {c : Call} {x y : Operand} {x' y' : Src} (hx : opd n x = some x') (hy : opd n y = some y') (hc : c.callee = .builtin (if isMax then .max else .min)) (ha : c.args.toList = [x, y])
    (ho : o.op = .call c) : Sound P D n o (.mx o.dst isMax x' y') := by
  intro s G a w K next Q h hg hn hfree
  have rx := eval_rep hg hx
  have ry := eval_rep hg hy
  have ha' : c.args = #[x, y] := by rw [← Array.toArray_toList (xs := c.args), ha]
  simp only [istep] at h
  split at h
  · rename_i k p k' q hb hc'
    rw [hb] at rx
    rw [hc'] at ry
    obtain ⟨rfl, h⟩ := h
    refine val_step hg hd hn ?_ (.int _ _) h
    simp only [execOp, ho, resolve, hc, ha']
    cases isMax <;> simp [invoke, builtin, Builtin.max_, Builtin.min_, Builtin.max2, Builtin.min2, rep_int rx, rep_int ry, mxI]
  · exact h.elim

theorem s_mx3 (hd : dstOk n o.dst = true) {isMax : Bool} {c : Call} {x y z : Operand} {x' y' z' : Src} (hx : opd n x = some x') (hy : opd n y = some y') (hz : opd n z = some z') (hc : c.callee = .builtin (if isMax then .max else .min)) (ha : c.args.toList = [x, y, z])
    (ho : o.op = .call c) : Sound P D n o (.mx3 o.dst isMax x' y' z') := by
  intro s G a w K next Q h hg hn hfree
  have rx := eval_rep hg hx
  have ry := eval_rep hg hy
  have rz := eval_rep hg hz
  have ha' : c.args = #[x, y, z] := by rw [← Array.toArray_toList (xs := c.args), ha]
  simp only [istep] at h
  split at h
  · rename_i k p k' q k'' r hb hc' hd'
    rw [hb] at rx
    rw [hc'] at ry
    rw [hd'] at rz
    obtain ⟨rfl, rfl, h⟩ := h
    refine val_step hg hd hn ?_ (.int _ _) h
    simp only [execOp, ho, resolve, hc, ha']
    cases isMax
    · by_cases e1 : q < p <;> by_cases e2 : r < (if q < p then q else p) <;> simp_all [invoke, builtin, Builtin.max_, Builtin.min_, Builtin.max2, Builtin.min2, rep_int rx, rep_int ry, rep_int rz, mxI]
    · by_cases e1 : q > p <;> by_cases e2 : r > (if q > p then q else p) <;> simp_all [invoke, builtin, Builtin.max_, Builtin.min_, Builtin.max2, Builtin.min2, rep_int rx, rep_int ry, rep_int rz, mxI]
  · exact h.elim

end
end Go.Ab
