/- Calls; equality of structs; every lowered operation is sound. No condition. -/
import Derived.Test.YtbipjhcnooellaaAbM
namespace Go.Ab
open Go.RowKit
set_option linter.unusedVariables false
set_option linter.unusedSimpArgs false

section
variable {P : Program} {D : Nat → Prop} {n : Nat} {hint : Nat → Nat} {s : St} {G : Ghost} {a : Act} {w : World} {o : Oper} {K : St → Prop} {next : Act → World → Prop} {Q : Exit → Act → World → Prop} {m : Option Nat}

theorem opds_rep (hg : Good D n s G a w) : ∀ {xs : List Operand} {qs : List Src}, opds n xs = some qs → qs.length = xs.length ∧ ∀ (i : Nat) (y : V), (qs.map s.ev)[i]? = some y → Rep G (Dp D s.L G) w y ((xs.map a.eval)[i]?.getD undef)
  | [], qs, h => by simp [opds] at h; subst h; simp
  | x :: r, qs, h => by
    simp only [opds] at h
    split at h
    · rename_i y z h1 h2
      simp only [Option.some.injEq] at h
      subst h
      obtain ⟨l1, l2⟩ := opds_rep hg h2
      refine ⟨by simp [l1], fun i u hu => ?_⟩
      cases i with
      | zero => simp at hu; subst hu; simpa using eval_rep hg h1
      | succ i => simpa using l2 i u (by simpa using hu)
    · simp at h

theorem run_call {c : Call} {f : Nat} (hc : c.callee = .value (.func f)) (hb : bodied P f = true) (ho : o.op = .call c) : (execOp a.eval o).run P w = .ok (.enter f (c.args.map a.eval)) w := by
  unfold bodied at hb
  split at hb
  · rename_i fn hf
    simp only [Bool.and_eq_true, bne_iff_ne, ne_eq, Option.isSome_iff_exists] at hb
    obtain ⟨⟨body, hb⟩, hnm⟩ := hb
    simp only [execOp, ho, resolve, hc]
    simp [Act.eval, Deferred.ofValue, invoke, callFunc, hf, hb, hnm]
  · simp at hb

theorem s_callI (hd : dstOk n o.dst = true) {c : Call} {f : Nat} {qs : List Src} (hc : c.callee = .value (.func f)) (hb : bodied P f = true) (hq : opds n c.args.toList = some qs) (ho : o.op = .call c) : Sound P D n o (.call o.dst true f qs) := by
  intro s G a w K next Q h hg hn hfree
  obtain ⟨l1, l2⟩ := opds_rep hg hq
  simp only [istep, if_true] at h
  obtain ⟨r, hp, hi, _, hK⟩ := h
  rw [run_call hc hb ho]
  simp only [Oper.upon]
  have hlt : ∀ b, Dp D s.L G b → b < w.heap.size := fun b hb => hb.elim (hg.hp.dlt b) fun h => (hg.hp.away b h).1
  refine (hp (Dp D s.L G) w (c.args.map a.eval) hlt (by simp [l1]) fun i y hy => ?_).mono ?_
  · have h1 := l2 i y hy
    have : (c.args.map a.eval).getD i undef = (c.args.toList.map a.eval)[i]?.getD undef := by simp [Array.getD_eq_getD_getElem?]
    rw [this]
    exact h1.free (imms_mem hi (mem_of_getElem? hy)) _
  · rintro e w' ⟨v, rfl, hb', hr⟩
    obtain ⟨g1, g2⟩ := hg.grow hb'
    have hr' : Rep G (Dp D s.L G) w' r v := hr.mono (fun _ _ h => by cases h) (fun b _ h => h) (Same.refl _ _)
    exact hn _ _ _ _ hK (g1.put hd hr') (by rw [setO_L]; exact g2) (New.same (setO_nx _ _ _))

theorem one_view (L : Heap) : ∀ (k : Nat) {x : V}, x.one = true → (view L k x).one = true
  | 0, x, h => by cases x <;> simpa [view] using h
  | k + 1, x, h => by
    cases x with
    | own id sz off len =>
      simp only [view]
      cases hb : L id with
      | none => rfl
      | some b =>
        cases b with
        | vec ty0 sz' es =>
          by_cases hf : off + len ≤ es.length
          · simp only [hf, if_true]; rfl
          · simp only [hf, if_false]; rfl
        | _ => rfl
    | _ => simp [V.one] at h <;> simp [view, V.one, h]

theorem view_cells (L : Heap) (k : Nat) {x : V} {z : Nat} (h : x.ncells = some z) : (view L k x).ncells = some z ∧ ∀ (j : Nat) (c : V), (view L k x).cells[j]? = some c → ∃ c0 m, m ≤ k ∧ x.cells[j]? = some c0 ∧ c = view L m c0 := by
  cases k with
  | zero =>
    have e : view L 0 x = x := by cases x <;> rfl
    rw [e]
    exact ⟨h, fun j c hc => ⟨c, 0, Nat.le_refl _, hc, by cases c <;> rfl⟩⟩
  | succ k =>
    unfold V.ncells at h
    split at h
    · rename_i cs
      split at h
      · rename_i hall
        simp only [view, V.ncells, V.cells, List.length_map]
        rw [if_pos]
        · refine ⟨h, fun j c hc => ?_⟩
          simp only [List.getElem?_map, Option.map_eq_some_iff] at hc
          obtain ⟨c0, h0, rfl⟩ := hc
          exact ⟨c0, k, by omega, h0, rfl⟩
        · simp only [List.all_eq_true, List.mem_map] at hall ⊢
          rintro c ⟨c0, h0, rfl⟩
          exact one_view L k (hall c0 h0)
      · simp at h
    · rename_i hx
      split at h
      · rename_i h1
        have h2 := one_view L (k + 1) h1
        have hc : ∀ y : V, y.one = true → y.cells = [y] ∧ y.ncells = some 1 := by
          intro y hy
          cases y <;> simp [V.one] at hy <;> simp [V.cells, V.ncells, V.one, hy]
        rw [(hc _ h2).1, (hc _ h2).2, (hc _ h1).1]
        refine ⟨h, fun j c hc => ?_⟩
        match j, hc with
        | 0, hc => simp at hc; exact ⟨x, k + 1, Nat.le_refl _, rfl, hc.symm⟩
      · simp at h

theorem rep_view (hp : Hp D n s G w) : ∀ (k : Nat) {x : V} {v : Value}, Rep G (Dp D s.L G) w x v → ∀ m, m ≤ k → Rep G D w (view s.L m x) v := by
  intro k
  induction k with
  | zero =>
    intro x v h m hm
    obtain rfl : m = 0 := by omega
    have e : view s.L 0 x = x := by cases x <;> rfl
    rw [e]
    exact h.mono G.le_refl (fun b _ hn hd => hn (.inl hd)) (Same.refl _ _)
  | succ k ih =>
    intro x v h m hm
    rcases Nat.lt_or_ge m (k + 1) with hlt | hge
    · exact ih h m (by omega)
    obtain rfl : m = k + 1 := by omega
    have plain : Rep G D w x v := h.mono G.le_refl (fun b _ hn hd => hn (.inl hd)) (Same.refl _ _)
    cases x with
    | own id sz off len =>
      simp only [view]
      split
      · rename_i sz' es hL
        split
        · rename_i hfit
          obtain ⟨g, base, cap, ev, r1, r2, r3, r4, r5, r6⟩ := rep_own h
          obtain ⟨g', k1, e1, e2, e3, e4, e5⟩ := hp.blk _ _ hL
          obtain rfl : g = g' := Option.some.inj (r1.symm.trans k1)
          obtain rfl : sz = sz' := r2.symm.trans e1
          rw [ev]
          have hlen : (((es.drop off).take len).map (view s.L k)).length = len := by simp; omega
          have get : ∀ (i j : Nat) (c : V), (((((es.drop off).take len).map (view s.L k))[i]?).bind fun e => e.cells[j]?) = some c → ∃ c0 m, m ≤ k ∧ ((es[off + i]?).bind fun e => e.cells[j]?) = some c0 ∧ c = view s.L m c0 ∧ i < len ∧ j < sz := by
            intro i j c hc
            cases he : ((es.drop off).take len)[i]? with
            | none => rw [List.getElem?_map, he] at hc; simp at hc
            | some e =>
              simp only [List.getElem?_map, he, Option.map_some, Option.bind_some] at hc
              have hmem : e ∈ es := List.mem_of_mem_drop (List.mem_of_mem_take (mem_of_getElem? he))
              obtain ⟨q1, q2⟩ := view_cells s.L k (e4 e hmem)
              obtain ⟨c0, m, hm, h1, h2⟩ := q2 j c hc
              have hi : i < len := by
                have := (List.getElem?_eq_some_iff.1 he).1
                simp at this; omega
              rw [List.getElem?_take_of_lt hi, List.getElem?_drop] at he
              refine ⟨c0, m, hm, by rw [he]; exact h1, h2, hi, ?_⟩
              rw [← ncells_length (e4 e hmem)]
              exact (List.getElem?_eq_some_iff.1 h1).1
          have key : Rep G D w (.lst sz (((es.drop off).take len).map (view s.L k))) (.slice base (((es.drop off).take len).map (view s.L k)).length cap) := by
            refine .lst _ _ _ _ g.blk (g.off + off * sz) (by omega) (by omega) (fun h0 => ⟨r6 (by omega), ?_⟩) (fun e he => ?_) (fun i j c hc => ?_) (fun i j c hc => ?_)
            · exact hp.away _ ⟨id, _, g, hL, r1, ⟨by omega, rfl⟩⟩
            · obtain ⟨e0, h0, rfl⟩ := List.mem_map.1 he
              exact (view_cells s.L k (e4 e0 (List.mem_of_mem_drop (List.mem_of_mem_take h0)))).1
            · obtain ⟨c0, m, _, q1, _, q3, q4⟩ := get i j c hc
              obtain ⟨c', ty, fr, k2, k3, k4, k5⟩ := e5 (by omega)
              rw [cell_of_blk k2]
              have : (off + i + 1) * sz ≤ g.cap * sz := Nat.mul_le_mul_right _ (by omega)
              rw [Nat.add_mul, Nat.add_mul] at this
              simp; omega
            · obtain ⟨c0, m, hm, q1, rfl, q3, q4⟩ := get i j c hc
              obtain ⟨c', ty, fr, k2, k3, k4, k5⟩ := e5 (by omega)
              rw [cellD_of_blk k2]
              have := k5 _ _ _ q1
              rw [Nat.add_mul] at this
              have e : g.off + off * sz + i * sz + j = g.off + (off * sz + i * sz) + j := by omega
              rw [e]; exact ih this m hm
          rwa [hlen] at key
        · exact plain
      · exact plain
    | agg cs =>
      obtain ⟨vs, rfl, hl, hr⟩ := rep_agg h
      simp only [view]
      refine .agg _ _ (by simpa using hl) fun i c hc => ?_
      simp only [List.getElem?_map, Option.map_eq_some_iff] at hc
      obtain ⟨c0, h0, rfl⟩ := hc
      exact ih (hr i c0 h0) k (Nat.le_refl _)
    | tup cs =>
      obtain ⟨vs, rfl, hl, hr⟩ := rep_tup h
      simp only [view]
      refine .tup _ _ (by simpa using hl) fun i c hc => ?_
      simp only [List.getElem?_map, Option.map_eq_some_iff] at hc
      obtain ⟨c0, h0, rfl⟩ := hc
      exact ih (hr i c0 h0) k (Nat.le_refl _)
    | _ => exact plain

theorem s_callV (hd : dstOk n o.dst = true) {c : Call} {f : Nat} {qs : List Src} (hc : c.callee = .value (.func f)) (hb : bodied P f = true) (hq : opds n c.args.toList = some qs) (ho : o.op = .call c) : Sound P D n o (.call o.dst false f qs) := by
  intro s G a w K next Q h hg hn hfree
  obtain ⟨l1, l2⟩ := opds_rep hg hq
  simp only [istep, Bool.false_eq_true, if_false] at h
  obtain ⟨r, hp, hi, hf, hK⟩ := h
  rw [run_call hc hb ho]
  simp only [Oper.upon]
  refine (hp D w (c.args.map a.eval) hg.hp.dlt (by simp [l1]) fun i y hy => ?_).mono ?_
  · simp only [List.getElem?_map, Option.map_eq_some_iff] at hy
    obtain ⟨q, hq', rfl⟩ := hy
    have h1 := l2 i (s.ev q) (by simp [hq'])
    have : (c.args.map a.eval).getD i undef = (c.args.toList.map a.eval)[i]?.getD undef := by simp [Array.getD_eq_getD_getElem?]
    rw [this]
    refine (rep_view hg.hp 3 h1 3 (Nat.le_refl _)).free (imms_mem hi (List.mem_map.2 ⟨q, List.mem_of_getElem? hq', rfl⟩)) _
  · rintro e w' ⟨v, rfl, hb', hr⟩
    obtain ⟨g1, g2⟩ := hg.grow hb'
    exact hn _ _ _ _ hK (g1.put hd (hr.flat hf _ _ _)) (by rw [setO_L]; exact g2) (New.same (setO_nx _ _ _))

theorem cellsEq_append : ∀ {ks qs : List Nat} {a b : List V} {t : Bool}, cellsEq (ks ++ qs) a b = some t → ∃ a1 a2 b1 b2 t1 t2, a = a1 ++ a2 ∧ b = b1 ++ b2 ∧ a1.length = ks.length ∧ b1.length = ks.length ∧ cellsEq ks a1 b1 = some t1 ∧ cellsEq qs a2 b2 = some t2 ∧ t = (t1 && t2)
  | [], qs, a, b, t, h => ⟨[], a, [], b, true, t, rfl, rfl, rfl, rfl, rfl, h, by simp⟩
  | k :: ks, qs, a, b, t, h => by
    cases a with
    | nil => cases b <;> simp [cellsEq] at h
    | cons x r =>
      cases b with
      | nil => simp [cellsEq] at h
      | cons y q =>
        simp only [List.cons_append, cellsEq] at h
        split at h
        · rename_i u v h1 h2
          simp only [Option.some.injEq] at h
          subst h
          obtain ⟨a1, a2, b1, b2, t1, t2, rfl, rfl, l1, l2, k1, k2, rfl⟩ := cellsEq_append h2
          exact ⟨x :: a1, a2, y :: b1, b2, u && t1, t2, rfl, rfl, by simp [l1], by simp [l2], by simp only [cellsEq, h1, k1], k2, by rw [Bool.and_assoc]⟩
        · simp at h

theorem cellsEq_length : ∀ {ks : List Nat} {a b : List V} {t : Bool}, cellsEq ks a b = some t → a.length = ks.length ∧ b.length = ks.length
  | [], a, b, t, h => by cases a <;> cases b <;> simp [cellsEq] at h <;> simp
  | k :: ks, a, b, t, h => by
    cases a with
    | nil => cases b <;> simp [cellsEq] at h
    | cons x r =>
      cases b with
      | nil => simp [cellsEq] at h
      | cons y q =>
        simp only [cellsEq] at h
        split at h
        · rename_i u v h1 h2
          obtain ⟨l1, l2⟩ := cellsEq_length h2
          simp [l1, l2]
        · simp at h

theorem eqFields_run (d k : Nat) {G : Ghost} {D : Nat → Prop} {cs ds : List V} {vs us : Array Value} (hv : RepC G D w cs vs) (hu : RepC G D w ds us)
    (ih : ∀ (t : TypeId) (z : List Nat) (ag : Bool) (c e : List V) (X Y : Value) (b : Bool), flatEq P d t = some z → isAg? P t = some ag → Rep G D w (pack ag c) X → Rep G D w (pack ag e) Y → cellsEq z c e = some b → (Op.equalIn (d + k) t X Y).run P w = .ok b w) :
    ∀ (fs : List Field) (acc : Nat) (z : List Nat) (b : Bool), acc ≤ cs.length → acc ≤ ds.length → flatF P (flatEq P d) acc fs = some z → cellsEq z (cs.drop acc) (ds.drop acc) = some b → (Op.eqFields (d + k) vs us fs).run P w = .ok b w
  | [], acc, z, b, _, _, h, hb => by
    simp only [flatF, Option.some.injEq] at h
    subst h
    generalize cs.drop acc = p at hb
    generalize ds.drop acc = q at hb
    cases p <;> cases q <;> simp [cellsEq] at hb
    subst hb
    rfl
  | f :: r, acc, z, b, hc1, hc2, h, hb => by
    simp only [flatF] at h
    split at h
    · rename_i zf ag h1 h2
      split at h
      · rename_i hc
        simp only [Bool.and_eq_true, bne_iff_ne, ne_eq, decide_eq_true_eq, Bool.or_eq_true] at hc
        obtain ⟨⟨⟨n1, n2⟩, n3⟩, n4⟩ := hc
        simp only [Option.map_eq_some_iff] at h
        obtain ⟨zr, h, rfl⟩ := h
        obtain ⟨a1, a2, b1, b2, t1, t2, e1, e2, l1, l2, k1, k2, rfl⟩ := cellsEq_append hb
        have m1 : acc + zf.length ≤ cs.length := by
          have := congrArg List.length e1; simp at this; omega
        have m2 : acc + zf.length ≤ ds.length := by
          have := congrArg List.length e2; simp at this; omega
        have l3 : (cs.drop acc).take zf.length = a1 := by rw [e1, ← l1, List.take_left]
        have l4 : (ds.drop acc).take zf.length = b1 := by rw [e2, ← l2, List.take_left]
        have l5 : cs.drop (acc + zf.length) = a2 := by rw [← List.drop_drop, e1, ← l1, List.drop_left]
        have l6 : ds.drop (acc + zf.length) = b2 := by rw [← List.drop_drop, e2, ← l2, List.drop_left]
        have p1 := run_part (P := P) (w := w) (vs := vs) (off := acc) n3 h2 n4 (by rw [← hv.1]; exact m1)
        have p2 := run_part (P := P) (w := w) (vs := us) (off := acc) n3 h2 n4 (by rw [← hu.1]; exact m2)
        have q1 := rep_part (w := w) hv.1 hv.2 (off := acc) (z := zf.length) (ag := ag) m1 n4
        have q2 := rep_part (w := w) hu.1 hu.2 (off := acc) (z := zf.length) (ag := ag) m2 n4
        rw [l3] at q1
        rw [l4] at q2
        have e := ih _ _ _ _ _ _ _ t1 h1 h2 q1 q2 k1
        have rest := eqFields_run d k hv hu ih r (acc + zf.length) zr t2 m1 m2 h (by rw [l5, l6]; exact k2)
        simp only [Op.eqFields, n1, not_false_eq_true, ne_eq, if_true, Sem.run_bind, n2, p1, p2, Result.andThen_ok, e]
        cases t1
        · rfl
        · simp only [Bool.not_true, Bool.false_eq_true, if_false, Bool.true_and]; exact rest
      · simp at h
    · simp at h

theorem equal_run {G : Ghost} {D : Nat → Prop} : ∀ (d k : Nat) (t : TypeId) (z : List Nat) (ag : Bool) (c e : List V) (X Y : Value) (b : Bool), flatEq P d t = some z → isAg? P t = some ag → Rep G D w (pack ag c) X → Rep G D w (pack ag e) Y → cellsEq z c e = some b → (Op.equalIn (d + k) t X Y).run P w = .ok b w
  | 0, k, t, z, ag, c, e, X, Y, b, h, _, _, _, _ => by simp [flatEq] at h
  | d + 1, k, t, z, ag, c, e, X, Y, b, h, hag, hX, hY, hb => by
    have one : ∀ q, z = [q] → ag = false → ∃ x y, cellEq q x y = some b ∧ Rep G D w x X ∧ Rep G D w y Y := by
      intro q hz hagf
      subst hz hagf
      obtain ⟨l1, l2⟩ := cellsEq_length hb
      match c, e, l1, l2 with
      | [x], [y], _, _ =>
        simp only [cellsEq] at hb
        split at hb
        · rename_i u v h1 h2
          simp only [Option.some.injEq] at h2 hb
          subst h2 hb
          exact ⟨x, y, by simpa using h1, hX, hY⟩
        · simp at hb
    rw [show d + 1 + k = (d + k) + 1 by omega]
    simp only [flatEq] at h
    split at h
    · rename_i fs hu
      split at h
      · simp at h
      · rename_i hst
        have : ag = true := by simp [isAg?, hu] at hag; exact hag
        subst this
        simp only [pack, if_true] at hX hY
        obtain ⟨vs, rfl, v1, v2⟩ := rep_agg hX
        obtain ⟨us, rfl, u1, u2⟩ := rep_agg hY
        have hf : P.fieldsOf t = fs := by simp [Program.fieldsOf, hu]
        rw [run_equalIn_struct w (d + k) t vs us (by rw [hf]; exact hu) (by simpa using hst), hf]
        exact eqFields_run d k (cs := c) (ds := e) ⟨v1, v2⟩ ⟨u1, u2⟩ (fun t z ag c e X Y b => equal_run d k t z ag c e X Y b) fs.toList 0 z b (Nat.zero_le _) (Nat.zero_le _) h (by simpa using hb)
    · rename_i kk hu
      simp only [Option.some.injEq] at h
      obtain ⟨x, y, hxy, hx, hy⟩ := one _ h.symm (by simp [isAg?, hu] at hag; exact hag)
      cases x <;> cases y <;> simp [cellEq] at hxy
      obtain ⟨rfl, rfl⟩ := hxy
      obtain rfl := rep_int hx
      obtain rfl := rep_int hy
      rw [run_equalIn_int w (d + k) t _ _ _ _ hu, beq_dec]
    · rename_i hu
      simp only [Option.some.injEq] at h
      obtain ⟨x, y, hxy, hx, hy⟩ := one _ h.symm (by simp [isAg?, hu] at hag; exact hag)
      cases x <;> cases y <;> simp [cellEq] at hxy
      subst hxy
      obtain ⟨rfl, _⟩ := rep_str hx
      obtain ⟨rfl, _⟩ := rep_str hy
      rw [run_equalIn_string w (d + k) t _ _ hu, toList_mk, toList_mk, beq_dec]
    · rename_i hu
      simp only [Option.some.injEq] at h
      obtain ⟨x, y, hxy, hx, hy⟩ := one _ h.symm (by simp [isAg?, hu] at hag; exact hag)
      cases x <;> cases y <;> simp [cellEq] at hxy
      subst hxy
      obtain rfl := rep_bool hx
      obtain rfl := rep_bool hy
      rw [run_equalIn_bool w (d + k) t _ _ hu]
    · simp at h

theorem s_eqA (hd : dstOk n o.dst = true) {op : BinOp} {t t' : TypeId} {fs : Array Field} {x y : Operand} {x' y' : Src} {ks : List Nat} (hx : opd n x = some x') (hy : opd n y = some y') (hop : op = .eql ∨ op = .neq)
    (hu : P.underlying t = some (.struct fs)) (hk : flatEq P 100 t = some ks) (hgd : P.eqGuardType P.depth t = false) (ho : o.op = .binOp op t x y t') : Sound P D n o (.eqA o.dst (op == .neq) ks x' y') := by
  intro s G a w K next Q h hg hn hfree
  have rx := eval_rep hg hx
  have ry := eval_rep hg hy
  simp only [istep] at h
  split at h
  · rename_i p q hp hq
    rw [hp] at rx
    rw [hq] at ry
    obtain ⟨b, hb, hK⟩ := h
    have hag : isAg? P t = some true := by simp [isAg?, hu]
    have e := equal_run (w := w) 100 9900 t ks true p q (a.eval x) (a.eval y) b hk hag rx ry hb
    obtain ⟨vs, ex, _⟩ := rep_agg rx
    obtain ⟨us, ey, _⟩ := rep_agg ry
    refine val_step hg hd hn (x := .bool (b != (op == .neq))) (v := .bool (b != (op == .neq))) ?_ (.bool _) hK
    rw [ex, ey] at e
    simp only [execOp, ho, ex, ey]
    rw [run_v, Sem.run_bind, run_eqGuard_agg w op t x y vs us hgd, Result.andThen_ok, run_eq_nil hop e (by simp) (by simp) (by simp) (by simp)]
    rfl
  · exact h.elim

end
end Go.Ab
