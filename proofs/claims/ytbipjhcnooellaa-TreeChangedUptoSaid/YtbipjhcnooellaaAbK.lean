/- Slice literals, append, calls. No condition. -/
import Derived.Test.YtbipjhcnooellaaAbJ
import Derived.Laws.Append
namespace Go.Ab
open Go.RowKit
set_option linter.unusedVariables false
set_option linter.unusedSimpArgs false

section
variable {P : Program} {D : Nat → Prop} {n : Nat} {hint : Nat → Nat} {s : St} {G : Ghost} {a : Act} {w : World} {o : Oper} {K : St → Prop} {next : Act → World → Prop} {Q : Exit → Act → World → Prop} {m : Option Nat}

theorem Good.grow (hg : Good D n s G a w) {w' : World} (hb : Below w.heap.size w w') : Good D n s G a w' ∧ Nxt s.L G w s.L G w' :=
  ⟨⟨hg.size, hg.defers, fun i => (Nxt.grow hb).rep (hg.env i), hg.hp.grow hb⟩, Nxt.grow hb⟩

/-- a value in new memory -/
theorem grow_step (hg : Good D n s G a w) (hd : dstOk n o.dst = true) (hn : ∀ s' G' a' w', K s' → Good D n s' G' a' w' → Nxt s.L G w s'.L G' w' → New m s G s' G' → next a' w')
    {x : V} {v : Value} {w' : World} (hb : Below w.heap.size w w') (hr : (execOp a.eval o).run P w = .ok (.value v) w') (hv : Rep G (Dp D s.L G) w' x v) (hK : K (s.setO o.dst x)) :
    o.upon P a next Q ((execOp a.eval o).run P w) := by
  obtain ⟨g1, g2⟩ := hg.grow hb
  rw [hr]
  exact hn _ _ _ _ hK (g1.put hd hv) (by rw [setO_L]; exact g2) (New.same (setO_nx _ _ _))

theorem s_mkl (hd : dstOk n o.dst = true) {t e : TypeId} {len z : Nat} {parts : Array (Nat × Operand)} {qs : List Src} (hu : P.underlying t = some (.slice e)) (hz : szOf P e = some z) (hqs : opds n (parts.toList.map (·.2)) = some qs)
    (hi : parts.toList.map (·.1) = List.range len) (hs : len * z ≤ 2 ^ 24) (h0 : 0 < z) (hzero : ∃ zs, zeroOf P e = some zs ∧ zs.length = z) (ho : o.op = .buildSlice t len parts) : Sound P D n o (.mkl o.dst z qs) := by
  intro s G a w K next Q h hg hn hfree
  simp only [istep] at h
  obtain ⟨cells, hrun, hc, hl, hr⟩ := run_mk hg hu hz hqs hi hs h0 hzero h.1 ho
  have hb := below_alloc w (.cells cells e)
  have hlen : (qs.map s.ev).length = len := by simpa using hl
  refine grow_step hg hd hn hb hrun ?_ h.2
  have hx := Nxt.grow (L := s.L) (G := G) hb
  have key : Rep G (Dp D s.L G) (w.alloc (.cells cells e)) (.lst z (qs.map s.ev)) (.slice (some ⟨w.heap.size, 0, none⟩) (qs.map s.ev).length len) := by
    have hnd : ¬ Dp D s.L G w.heap.size := fun hd => by
      rcases hd with hd | hd
      · have := hg.hp.dlt _ hd; omega
      · have := (hg.hp.away _ hd).1; omega
    refine .lst _ _ _ _ w.heap.size 0 (by omega) ?_ (fun _ => ⟨rfl, by rw [size_alloc]; omega, hnd⟩) (fun e he => ?_) (fun i j c hc' => ?_) (fun i j c hc' => ?_)
    · have : len * 1 ≤ len * z := Nat.mul_le_mul_left _ h0
      omega
    · obtain ⟨p, hp, rfl⟩ := List.mem_map.1 he
      exact h.1 p hp
    · rw [cell_of_blk (heap_alloc_self w _)]
      have hi' : i < len := by
        cases he : (qs.map s.ev)[i]? with
        | none => rw [he] at hc'; simp at hc'
        | some e' => rw [← hlen]; exact (List.getElem?_eq_some_iff.1 he).1
      have hj : j < z := by
        cases he : (qs.map s.ev)[i]? with
        | none => rw [he] at hc'; simp at hc'
        | some e' =>
          rw [he, Option.bind_some] at hc'
          obtain ⟨p, hp, rfl⟩ := List.mem_map.1 (mem_of_getElem? he)
          rw [← ncells_length (h.1 p hp)]
          exact (List.getElem?_eq_some_iff.1 hc').1
      have : (i + 1) * z ≤ len * z := Nat.mul_le_mul_right _ (by omega)
      rw [Nat.add_mul] at this
      simp; omega
    · rw [cellD_of_blk (heap_alloc_self w _), Nat.zero_add]
      exact hx.rep (hr i j c hc')
  rwa [hlen] at key

theorem s_mkv {d : Nat} (hd : d < n) (hdst : o.dst = some d) {t e : TypeId} {len z : Nat} {parts : Array (Nat × Operand)} {qs : List Src} (hu : P.underlying t = some (.slice e)) (hz : szOf P e = some z) (hqs : opds n (parts.toList.map (·.2)) = some qs)
    (hi : parts.toList.map (·.1) = List.range len) (hs : len * z ≤ 2 ^ 24) (h0 : 0 < z) (hzero : ∃ zs, zeroOf P e = some zs ∧ zs.length = z) (ho : o.op = .buildSlice t len parts) : Sound P D n o (.mkv d e z qs) := by
  intro s G a w K next Q h hg hn hfree
  have hG := hfree d rfl
  simp only [istep] at h
  obtain ⟨h1, h2⟩ := h
  obtain ⟨cells, hrun, hc, hl, hr⟩ := run_mk hg hu hz hqs hi hs h0 hzero h1 ho
  have hb := below_alloc w (.cells cells e)
  have hlen : (qs.map s.ev).length = len := by simpa using hl
  have hle : len * 1 ≤ len * z := Nat.mul_le_mul_left _ h0
  have hK := h2
  obtain ⟨g1, g2⟩ := hg.newBlk hb hG (by omega) (.vec e z (qs.map s.ev)) ⟨w.heap.size, 0, len, z, 0⟩ (fun x hx => by simp only [Occ] at hx; rw [hx.2, size_alloc]; omega) (fun G' D' hm => by
    refine ⟨rfl, by simp only [hlen]; exact Nat.le_refl _, by show len < 2 ^ 63; omega, fun e he => ?_, fun _ => ⟨_, _, _, heap_alloc_self _ _, ⟨by show 0 + len * z ≤ cells.size; omega, rfl⟩, fun i _ => (by simp), fun i j x hx => ?_⟩⟩
    · obtain ⟨p, hp, rfl⟩ := List.mem_map.1 he
      exact h1 p hp
    · have := hm _ _ (hr i j x hx)
      simpa using this)
  rw [hrun]
  simp only [Oper.upon, hdst]
  have g3 := g1.put (d := some d) (x := .own (s.nx + d) z 0 qs.length) (v := .slice (some ⟨w.heap.size, 0, none⟩) len len) (by simpa [dstOk] using hd) (by
    rw [hl]
    exact .own _ _ _ _ ⟨w.heap.size, 0, len, z, 0⟩ _ _ (upd_same _ _ _) rfl (Nat.le_refl _) rfl (by show len < 2 ^ 63; omega) (fun _ => by simp))
  exact hn _ _ _ _ hK g3 g2 (new_add _ rfl rfl)

/-- what an append takes from its second operand -/
theorem elems_spec (hg : Good D n s G a w) {y : Operand} {y' : Src} (hy : opd n y = some y') {z : Nat} {K' : List V → Prop} (h : elemsOf z s.L (s.ev y') K') :
    ∃ ys news, K' ys ∧ (Builtin.lenOf (a.eval y)).run P w = .ok ys.length w ∧ (∀ w' : World, w'.heap = w.heap → (Builtin.firstCells z ys.length (a.eval y)).run P w' = .ok news w') ∧ news.size = ys.length * z ∧ (∀ u ∈ news.toList, u.oneCell' = true) ∧
      (∀ e, e ∈ ys → e.ncells = some z) ∧ (∀ i j c, (ys[i]?.bind fun e => e.cells[j]?) = some c → Rep G (Dp D s.L G) w c (news.getD (i * z + j) undef)) := by
  have ry := eval_rep hg hy
  have rows : ∀ (ys : List V) (b q len cap : Nat), a.eval y = .slice (some ⟨b, q, none⟩) len cap → ys.length = len → (∀ e, e ∈ ys → e.ncells = some z) →
      (∀ i j c, (ys[i]?.bind fun e => e.cells[j]?) = some c → (w.cell? ⟨b, q + i * z + j, none⟩).isSome = true) → (∀ i j c, (ys[i]?.bind fun e => e.cells[j]?) = some c → Rep G (Dp D s.L G) w c (cellD w b (q + i * z + j))) → K' ys →
      ∃ ys news, K' ys ∧ (Builtin.lenOf (a.eval y)).run P w = .ok ys.length w ∧ (∀ w' : World, w'.heap = w.heap → (Builtin.firstCells z ys.length (a.eval y)).run P w' = .ok news w') ∧ news.size = ys.length * z ∧ (∀ u ∈ news.toList, u.oneCell' = true) ∧
      (∀ e, e ∈ ys → e.ncells = some z) ∧ (∀ i j c, (ys[i]?.bind fun e => e.cells[j]?) = some c → Rep G (Dp D s.L G) w c (news.getD (i * z + j) undef)) := by
    intro ys b q len cap hv hl hz hs hr hK
    have at_ : ∀ m, m < ys.length * z → ∃ i j c, m = i * z + j ∧ i < ys.length ∧ j < z ∧ (ys[i]?.bind fun e => e.cells[j]?) = some c := by
      intro m hm
      have hz0 : 0 < z := by
        rcases Nat.eq_zero_or_pos z with h | h
        · subst h; simp at hm
        · exact h
      have hi : m / z < ys.length := Nat.div_lt_of_lt_mul (by rwa [Nat.mul_comm] at hm)
      have hj : m % z < z := Nat.mod_lt _ hz0
      have he : ys[m / z]? = some ys[m / z] := by simp [hi]
      have hlen := ncells_length (hz _ (mem_of_getElem? he))
      refine ⟨m / z, m % z, (ys[m / z].cells)[m % z]'(by rw [hlen]; exact hj), by rw [Nat.mul_comm]; exact (Nat.div_add_mod m z).symm, hi, hj, ?_⟩
      rw [he, Option.bind_some]
      simp [hlen, hj]
    have run : ∀ w' : World, w'.heap = w.heap → _ := fun w' hw => run_loadCells (P := P) w' ⟨b, q, none⟩ (ys.length * z) (fun m => cellD w b (q + m)) (fun m hm => by
      obtain ⟨i, j, c, e, _, _, hc⟩ := at_ m hm
      rw [addr_add, show w'.cell? ⟨b, q + m, none⟩ = w.cell? ⟨b, q + m, none⟩ by simp [World.cell?, hw]]
      have := hs i j c hc
      rw [Nat.add_assoc, ← e] at this
      exact cellD_of this)
    refine ⟨ys, _, hK, by simp [hv, Builtin.lenOf, hl], fun w' hw => by simp only [hv, Builtin.firstCells]; exact run w' hw, by simp, fun u hu => ?_, hz, fun i j c hc => ?_⟩
    · simp only [List.mem_map, List.mem_range] at hu
      obtain ⟨m, hm, rfl⟩ := hu
      obtain ⟨i, j, c, e, hi, hj, hc⟩ := at_ m hm
      have h1 := hr i j c hc
      rw [Nat.add_assoc, ← e] at h1
      have he : ys[i]? = some ys[i] := by simp [hi]
      rw [he, Option.bind_some] at hc
      exact (rep_one h1 (ncells_ones (hz _ (mem_of_getElem? he)) c (mem_of_getElem? hc))).1
    · have hi : i < ys.length := by
        cases he : ys[i]? with
        | none => rw [he] at hc; simp at hc
        | some e' => exact (List.getElem?_eq_some_iff.1 he).1
      have hj : j < z := by
        have he : ys[i]? = some ys[i] := by simp [hi]
        rw [he, Option.bind_some] at hc
        rw [← ncells_length (hz _ (mem_of_getElem? he))]
        exact (List.getElem?_eq_some_iff.1 hc).1
      have hm : i * z + j < ys.length * z := by
        have : (i + 1) * z ≤ ys.length * z := Nat.mul_le_mul_right _ (by omega)
        rw [Nat.add_mul] at this; omega
      have := hr i j c hc
      rw [Nat.add_assoc] at this
      simpa [Array.getD_eq_getD_getElem?, hm] using this
  have none_ : ∀ (b : Option Addr) (cap : Nat), a.eval y = .slice b 0 cap → K' [] →
      ∃ ys news, K' ys ∧ (Builtin.lenOf (a.eval y)).run P w = .ok ys.length w ∧ (∀ w' : World, w'.heap = w.heap → (Builtin.firstCells z ys.length (a.eval y)).run P w' = .ok news w') ∧ news.size = ys.length * z ∧ (∀ u ∈ news.toList, u.oneCell' = true) ∧
      (∀ e, e ∈ ys → e.ncells = some z) ∧ (∀ i j c, (ys[i]?.bind fun e => e.cells[j]?) = some c → Rep G (Dp D s.L G) w c (news.getD (i * z + j) undef)) := by
    intro b cap hv hK
    refine ⟨[], #[], hK, by simp [hv, Builtin.lenOf], fun w' _ => ?_, by simp, by simp, by simp, by simp⟩
    cases b <;> simp [hv, Builtin.firstCells, loadCells, loadCellsFrom]
  unfold elemsOf at h
  split at h
  · rename_i hb
    rw [hb] at ry
    exact none_ _ _ (rep_nils ry) h
  · rename_i z' es hb
    rw [hb] at ry
    obtain ⟨rfl, hK⟩ := h
    obtain ⟨b, cap, bb, q, ev, r1, r2, r3, r4, r5, r6⟩ := rep_lst ry
    rcases Nat.eq_zero_or_pos es.length with h0 | h0
    · have : es = [] := List.length_eq_zero_iff.1 h0
      subst this
      exact none_ _ _ ev hK
    · obtain ⟨rfl, _, _⟩ := r3 h0
      exact rows es bb q _ cap ev rfl r4 r5 r6 hK
  · rename_i id z' off len hb
    rw [hb] at ry
    obtain ⟨g, b, cap, ev, r1, r2, r3, r4, r5, r6⟩ := rep_own ry
    split at h
    · rename_i sz es hL
      obtain ⟨rfl, h1, hK⟩ := h
      have hlen : ((es.drop off).take len).length = len := by simp; omega
      rcases Nat.eq_zero_or_pos len with h0 | h0
      · subst h0
        simp only [List.take_zero] at hK
        exact none_ _ _ ev hK
      · obtain rfl := r6 (by omega)
        obtain ⟨g', k1, e1, e2, e3, e4, e5⟩ := hg.hp.blk _ _ hL
        obtain rfl : g = g' := Option.some.inj (r1.symm.trans k1)
        obtain rfl : z' = sz := r2.symm.trans e1
        obtain ⟨c', ty, fr, k2, k3, k4, k5⟩ := e5 (by omega)
        have get : ∀ (i j : Nat) (c : V), ((((es.drop off).take len)[i]?).bind fun e => e.cells[j]?) = some c → ((es[off + i]?).bind fun e => e.cells[j]?) = some c ∧ i < len := by
          intro i j c hc
          rw [List.getElem?_take] at hc
          split at hc
          · rename_i hi; rw [List.getElem?_drop] at hc; exact ⟨hc, hi⟩
          · simp at hc
        refine rows _ g.blk (g.off + off * z') len cap ev hlen (fun e he => e4 e (List.mem_of_mem_drop (List.mem_of_mem_take he))) (fun i j c hc => ?_) (fun i j c hc => ?_) hK
        · obtain ⟨q1, q2⟩ := get i j c hc
          rw [cell_of_blk k2]
          have hj : j < z' := by
            cases he : es[off + i]? with
            | none => rw [he] at q1; simp at q1
            | some e' =>
              rw [he, Option.bind_some] at q1
              rw [← ncells_length (e4 e' (mem_of_getElem? he))]
              exact (List.getElem?_eq_some_iff.1 q1).1
          have : (off + i + 1) * z' ≤ g.cap * z' := Nat.mul_le_mul_right _ (by omega)
          rw [Nat.add_mul, Nat.add_mul] at this
          simp; omega
        · obtain ⟨q1, q2⟩ := get i j c hc
          rw [cellD_of_blk k2]
          have := k5 _ _ _ q1
          rw [Nat.add_mul] at this
          rwa [show g.off + off * z' + i * z' + j = g.off + (off * z' + i * z') + j by omega]
    · exact h.elim
  · rename_i t hb
    rw [hb] at ry
    obtain ⟨rfl, hK⟩ := h
    obtain ⟨ev, hlen⟩ := rep_str ry
    have hz' : (⟨t.toArray⟩ : ByteArray).size = t.length := by simp [ByteArray.size]
    have hx : ((⟨t.toArray⟩ : ByteArray).extract 0 t.length) = ⟨t.toArray⟩ := by rw [mk_extract]; simp
    refine ⟨_, (t.toArray.map fun b => Value.int .u8 b.toNat), hK, by simp [ev, Builtin.lenOf, hz'], fun w' _ => ?_, by simp, fun u hu => ?_, fun e he => ?_, fun i j c hc => ?_⟩
    · simp only [ev, Builtin.firstCells, List.length_map, hx]; rfl
    · simp only [List.map_toArray, List.mem_map] at hu
      obtain ⟨b, _, rfl⟩ := hu; rfl
    · obtain ⟨b, _, rfl⟩ := List.mem_map.1 he; rfl
    · cases hb' : t[i]? with
      | none => simp [hb'] at hc
      | some b =>
        simp only [List.getElem?_map, hb', Option.map_some, Option.bind_some, V.cells] at hc
        match j, hc with
        | 0, hc =>
          simp at hc; subst hc
          have hi : i < t.length := (List.getElem?_eq_some_iff.1 hb').1
          have hbb := (List.getElem?_eq_some_iff.1 hb').2
          have : (t.toArray.map fun b => Value.int .u8 b.toNat).getD (i * 1 + 0) undef = Value.int .u8 b.toNat := by
            simp [Array.getD_eq_getD_getElem?, hi, hbb]
          rw [this]; exact .int _ _
  · exact h.elim

end
end Go.Ab
