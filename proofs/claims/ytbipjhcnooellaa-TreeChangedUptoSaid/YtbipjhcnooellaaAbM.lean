/- Append, whole; calls. No condition. -/
import Derived.Test.YtbipjhcnooellaaAbL
namespace Go.Ab
open Go.RowKit
set_option linter.unusedVariables false
set_option linter.unusedSimpArgs false

section
variable {P : Program} {D : Nat → Prop} {n : Nat} {hint : Nat → Nat} {s : St} {G : Ghost} {a : Act} {w : World} {o : Oper} {K : St → Prop} {next : Act → World → Prop} {Q : Exit → Act → World → Prop} {m : Option Nat}

theorem Good.drop (hg : Good D n s G a w) (id : Nat) : Good D n (s.drop id) G a w ∧ Nxt s.L G w (s.drop id).L G w := by
  have hx : Nxt s.L G w (s.drop id).L G w := by
    refine ⟨G.le_refl, Same.refl _ _, ?_, rfl, rfl, rfl⟩
    rintro x _ ⟨i, bi, gi, h1, h2, h3⟩
    by_cases e : i = id
    · subst e; simp [St.drop, upd_same] at h1
    · simp only [St.drop, upd_ne _ _ _ _ e] at h1
      exact ⟨i, bi, gi, h1, h2, h3⟩
  refine ⟨hg.later hx ?_, hx⟩
  refine hg.hp.turn (fun _ => False) hx hg.hp.fin (fun i bi hl _ => ?_) (fun _ _ _ _ _ _ _ _ => rfl) (fun _ _ _ _ _ h => h) (fun _ _ h => h.elim) (fun _ _ _ h => h.elim)
  by_cases e : i = id
  · subst e; simp [St.drop, upd_same] at hl
  · simpa only [St.drop, upd_ne _ _ _ _ e] using hl

theorem bind_append {l ys : List V} {i j : Nat} {c : V} (h : (((l ++ ys)[i]?).bind fun e => e.cells[j]?) = some c) :
    (i < l.length ∧ ((l[i]?).bind fun e => e.cells[j]?) = some c) ∨ (l.length ≤ i ∧ ((ys[i - l.length]?).bind fun e => e.cells[j]?) = some c) := by
  rcases Nat.lt_or_ge i l.length with hi | hi
  · rw [List.getElem?_append_left hi] at h; exact .inl ⟨hi, h⟩
  · rw [List.getElem?_append_right hi] at h; exact .inr ⟨hi, h⟩

theorem bind_lt {ys : List V} {i j z : Nat} {c : V} (hz : ∀ e, e ∈ ys → e.ncells = some z) (h : ((ys[i]?).bind fun e => e.cells[j]?) = some c) : i < ys.length ∧ j < z := by
  cases he : ys[i]? with
  | none => rw [he] at h; simp at h
  | some e =>
    rw [he, Option.bind_some] at h
    rw [← ncells_length (hz e (mem_of_getElem? he))]
    exact ⟨(List.getElem?_eq_some_iff.1 he).1, (List.getElem?_eq_some_iff.1 h).1⟩

theorem lt_mul {i j k z : Nat} (hi : i < k) (hj : j < z) : i * z + j < k * z := by
  have : (i + 1) * z ≤ k * z := Nat.mul_le_mul_right _ (by omega)
  rw [Nat.add_mul] at this; omega

theorem getD_append_left {u v : Array Value} {i : Nat} (h : i < u.size) : (u ++ v).getD i undef = u.getD i undef := by
  simp [Array.getD_eq_getD_getElem?, Array.getElem?_append_left h]
theorem getD_append_right {u v : Array Value} {i : Nat} (h : u.size ≤ i) : (u ++ v).getD i undef = v.getD (i - u.size) undef := by
  simp [Array.getD_eq_getD_getElem?, Array.getElem?_append_right h]

theorem frozen_of {b q : Nat} {c : Array Value} {ty : TypeId} {fr : Nat × Nat} (h : w.heap[b]? = some (.cells c ty fr)) (hf : ¬ (fr.1 ≤ q ∧ q < fr.2)) : w.frozen? ⟨b, q, none⟩ = false := by
  simp only [World.frozen?, h]
  simpa using hf

/-- the grown slice -/
theorem app_grow (hg : Good D n s G a w) {d : Nat} (hd : d < n) (hdst : o.dst = some d) (hn : ∀ s' G' a' w', K s' → Good D n s' G' a' w' → Nxt s.L G w s'.L G' w' → New (some d) s G s' G' → next a' w') {c : Call} {z : Nat} (T : AppT P c z) {x y : Operand} (hc : c.callee = .builtin .append) (ha : c.args.toList = [x, y]) (ho : o.op = .call c)
    {base : Option Addr} {cap : Nat} {l ys : List V} {olds news : Array Value} (hx : a.eval x = .slice base l.length cap) (hroom : ¬ l.length + ys.length ≤ cap) (hsmall : l.length + ys.length ≤ 2 ^ 32)
    (hl : (Builtin.lenOf (a.eval y)).run P w = .ok ys.length w) (hfo : ∀ w' : World, w'.heap = w.heap → (Builtin.firstCells z l.length (a.eval x)).run P w' = .ok olds w') (hf : ∀ w' : World, w'.heap = w.heap → (Builtin.firstCells z ys.length (a.eval y)).run P w' = .ok news w')
    (so : olds.size = l.length * z) (sn : news.size = ys.length * z) (no : ∀ e, e ∈ l → e.ncells = some z) (nn : ∀ e, e ∈ ys → e.ncells = some z)
    (ro : ∀ i j c, (l[i]?.bind fun e => e.cells[j]?) = some c → Rep G (Dp D s.L G) w c (olds.getD (i * z + j) undef)) (rn : ∀ i j c, (ys[i]?.bind fun e => e.cells[j]?) = some c → Rep G (Dp D s.L G) w c (news.getD (i * z + j) undef))
    (hfree : G (s.nx + d) = none) (hK : K ((s.add (s.nx + d) (.vec T.e z (l ++ ys))).set d (.own (s.nx + d) z 0 (l.length + ys.length)))) : o.upon P a next Q ((execOp a.eval o).run P w) := by
  rw [hx] at hfo
  obtain ⟨newCap, rest, w1, h1, h2, h3, h4, h5, h6, h7, h8⟩ := run_app_grow T o.type hl hroom hsmall hfo hf
  have hG := hfree
  have hb : Below w.heap.size w (w1.alloc (.cells (olds ++ news ++ rest) T.e)) := by
    have := below_alloc w1 (.cells (olds ++ news ++ rest) T.e)
    rw [h4] at this
    exact ⟨this.os.trans h5, this.tape.trans h6, this.output.trans h7, by rw [size_alloc, h4]; omega, fun k hk => (this.block k hk).trans (by rw [h4])⟩
  have hself := heap_alloc_self w1 (.cells (olds ++ news ++ rest) T.e)
  rw [h4] at hself
  have hcap : olds.size + news.size + rest.size = newCap * z := by rw [so, sn, h3, ← Nat.add_mul, ← Nat.add_mul]; congr 1; omega
  obtain ⟨g1, g2⟩ := hg.newBlk hb hG (by omega) (.vec T.e z (l ++ ys)) ⟨w.heap.size, 0, newCap, z, 0⟩ (fun x hx => by simp only [Occ] at hx; rw [hx.2, size_alloc, h4]; omega) (fun G' D' hm => by
    refine ⟨rfl, by simpa using h1, h2, fun e he => ?_, fun _ => ⟨_, _, _, hself, by simp; omega, fun i _ => (by simp), fun i j x hx => ?_⟩⟩
    · rcases List.mem_append.1 he with he | he
      · exact no e he
      · exact nn e he
    · have e0 : (0 : Nat) + i * z + j = i * z + j := by omega
      simp only [e0]
      rcases bind_append hx with ⟨hi, hx⟩ | ⟨hi, hx⟩
      · have hb := bind_lt no hx
        have := lt_mul hb.1 hb.2
        have e : (olds ++ news ++ rest).getD (i * z + j) undef = olds.getD (i * z + j) undef := by rw [Array.append_assoc, getD_append_left (by omega)]
        rw [e]
        exact hm _ _ (ro _ _ _ hx)
      · have hb := bind_lt nn hx
        have h9 := lt_mul hb.1 hb.2
        have h10 : l.length * z ≤ i * z := Nat.mul_le_mul_right _ hi
        have h11 : i * z + j - olds.size = (i - l.length) * z + j := by rw [so, Nat.sub_mul]; omega
        have e : (olds ++ news ++ rest).getD (i * z + j) undef = news.getD ((i - l.length) * z + j) undef := by rw [Array.append_assoc, getD_append_right (by omega), h11, getD_append_left (by omega)]
        rw [e]
        exact hm _ _ (rn _ _ _ hx))
  rw [run_appendCall hc ha ho, hx, h8]
  simp only [Result.andThen_ok, Oper.upon, hdst]
  have g3 := g1.put (d := some d) (x := .own (s.nx + d) z 0 (l.length + ys.length)) (v := .slice (some ⟨w.heap.size, 0, none⟩) (l.length + ys.length) newCap) (by simpa [dstOk] using hd)
    (.own _ _ _ _ ⟨w.heap.size, 0, newCap, z, 0⟩ _ _ (upd_same _ _ _) rfl h1 rfl h2 (fun _ => by simp))
  exact hn _ _ _ _ hK g3 g2 (new_add _ rfl rfl)

theorem s_app {d : Nat} (hd : d < n) (hdst : o.dst = some d) {c : Call} {z : Nat} (T : AppT P c z) {x y : Operand} {x' y' : Src} (hx : opd n x = some x') (hy : opd n y = some y') (hc : c.callee = .builtin .append) (ha : c.args.toList = [x, y]) (ho : o.op = .call c) :
    Sound P D n o (.app d T.e z x' y') := by
  intro s G a w K next Q h hg hn hfree
  have rx := eval_rep hg hx
  simp only [istep] at h
  rcases h with ⟨hb, h, hK⟩ | h
  · rw [hb] at rx
    have ev := rep_nils rx
    obtain ⟨ys, news, rfl, hl, hf, _⟩ := elems_spec (P := P) hg hy h
    rw [run_appendCall hc ha ho, ev, run_app_room (w' := w) T o.type hl (hf w rfl) (by simp) rfl]
    simp only [Result.andThen_ok, Oper.upon, hdst]
    exact hn _ _ _ _ hK (hg.put (d := some d) (x := .nils) (v := .slice none 0 0) (by simpa [dstOk] using hd) .nils) (Nxt.refl _ _ _) (New.same rfl)
  simp only [appStep] at h
  split at h
  · rename_i hb
    rw [hb] at rx
    have ev := rep_nils rx
    obtain ⟨ys, news, ⟨p1, p2⟩, hl, hf, sn, _, nn, rn⟩ := elems_spec (P := P) hg hy h
    by_cases h0 : ys.length = 0
    · have hys : ys = [] := List.length_eq_zero_iff.1 h0
      subst hys
      have hG := hfree d rfl
      obtain ⟨g1, g2⟩ := hg.newBlk (Below.refl _ _) hG (by omega) (.vec T.e z []) ⟨0, 0, 0, z, 0⟩ (fun x hx => by simp [Occ] at hx) (fun G' D' hm =>
        ⟨rfl, Nat.le_refl _, by show 0 < 2 ^ 63; omega, fun e he => by simp at he, fun h => by simp at h⟩)
      rw [run_appendCall hc ha ho, ev, run_app_room (w' := w) T o.type hl (hf w rfl) (by simp) rfl]
      simp only [Result.andThen_ok, Oper.upon, hdst]
      have g3 := g1.put (d := some d) (x := .own (s.nx + d) z 0 0) (v := .slice none 0 0) (by simpa [dstOk] using hd) (.own _ _ _ _ ⟨0, 0, 0, z, 0⟩ _ _ (upd_same _ _ _) rfl (Nat.le_refl _) rfl (by show 0 < 2 ^ 63; omega) (fun h => by simp at h))
      exact hn _ _ _ _ p2 g3 g2 (new_add _ rfl rfl)
    · exact app_grow hg hd hdst hn T hc ha ho (l := []) (olds := #[]) ev (by simpa using h0) (by simpa using p1) hl (fun w' _ => by simp [ev, Builtin.firstCells]) hf (by simp) sn (by simp) nn (by simp) rn (hfree d rfl) (by simpa using p2)
  · rename_i id z' off m hb
    rw [hb] at rx
    obtain ⟨g, base, cap, ev, r1, r2, r3, r4, r5, r6⟩ := rep_own rx
    split at h
    · rename_i ty0 sz es hL
      obtain ⟨hty, rfl, p0, h⟩ := h
      obtain ⟨ys, news, ⟨p1, p2⟩, hl, hf, sn, on, nn, rn⟩ := elems_spec (P := P) hg hy h
      have hlo : ((es.drop off).take m).length = m := by simp; omega
      obtain ⟨l, olds, hl0, _, hfo, so, _, no, ro⟩ := elems_spec (P := P) hg hx (z := z') (K' := fun l => l = (es.drop off).take m) (by rw [hb]; simp only [elemsOf, hL]; exact ⟨trivial, p0, trivial⟩)
      subst hl0
      rw [hlo] at so hfo
      by_cases hroom : m + ys.length ≤ cap
      · obtain ⟨g', k1, e1, e2, e3, e4, e5⟩ := hg.hp.blk _ _ hL
        obtain rfl : g = g' := Option.some.inj (r1.symm.trans k1)
        obtain rfl : z' = sz := r2.symm.trans e1
        have hG := hfree d rfl
        generalize hid' : s.nx + d = id' at hG p2
        have hne : id ≠ id' := fun e => by subst e; rw [hG] at r1; cases r1
        obtain ⟨gd, xd⟩ := hg.drop id
        -- the world behind the stores
        have hw : ∃ w' : World, (match base with | some b => (storeCells (b.add (m * z')) news.toList).run P w | none => .ok () w) = .ok () w' ∧
            (∀ x, x ≠ g.blk → w'.heap[x]? = w.heap[x]?) ∧ w'.heap.size = w.heap.size ∧ w'.os = w.os ∧ w'.tape = w.tape ∧ w'.output = w.output ∧
            (0 < cap → base = some ⟨g.blk, g.off + off * z', none⟩ ∧ ∃ c ty fr, w.heap[g.blk]? = some (.cells c ty fr) ∧ (g.off + g.cap * z' ≤ c.size ∧ ty = ty0) ∧ Open fr g.off (g.cap * z') ∧
              (∀ i j x, (es[i]?.bind fun e => e.cells[j]?) = some x → Rep G (Dp D s.L G) w x (c.getD (g.off + i * z' + j) undef)) ∧ w'.heap[g.blk]? = some (.cells (putL c (g.off + off * z' + m * z') news.toList) ty fr)) ∧ (cap = 0 → w' = w) := by
          rcases Nat.eq_zero_or_pos cap with h0 | h0
          · have hy0 : ys.length = 0 := by omega
            have hn0 : news.toList = [] := by
              have : news.size = 0 := by rw [sn, hy0]; simp
              simpa using this
            refine ⟨w, ?_, fun _ _ => rfl, rfl, rfl, rfl, rfl, fun h => by omega, fun _ => rfl⟩
            cases base <;> simp [hn0, storeCells]
          · obtain rfl := r6 h0
            obtain ⟨c', ty, fr, k2, k3, k4, k5⟩ := e5 (by omega)
            obtain ⟨s1, s2, s3, s4, s5, s6⟩ := setCells_spec g.blk news.toList (g.off + off * z' + m * z') w k2
            have hfit : off * z' + m * z' + ys.length * z' ≤ g.cap * z' := by rw [← Nat.add_mul, ← Nat.add_mul]; exact Nat.mul_le_mul_right _ (by omega)
            refine ⟨_, ?_, s2, s3, s4, s5, s6, fun _ => ⟨rfl, c', ty, fr, k2, k3, k4, k5, s1⟩, fun h => by omega⟩
            show (storeCells ((⟨g.blk, g.off + off * z', none⟩ : Addr).add (m * z')) news.toList).run P w = _
            rw [addr_add]
            have := run_storeCells_cells (P := P) g.blk (g.off + off * z' + m * z') news.toList 0 w (fun j hj => by rw [cell_of_blk k2]; simp [sn] at hj; simp; omega) (fun j hj => by
              have h3 := k4 (off * z' + m * z' + j) (by simp [sn] at hj; omega)
              exact frozen_of k2 (by omega)) on
            simpa using this
        obtain ⟨w', hst, o1, o2, o3, o4, o5, o6, o7⟩ := hw
        have hown : ∀ x, Own (s.drop id).L G x → Own s.L G x := fun x => by
          rintro ⟨i, bi, gi, q1, q2, q3⟩
          by_cases e : i = id
          · subst e; simp [St.drop, upd_same] at q1
          · simp only [St.drop, upd_ne _ _ _ _ e] at q1
            exact ⟨i, bi, gi, q1, q2, q3⟩
        let gb : GB := ⟨g.blk, g.off + off * z', cap, z', g.aux⟩
        have hx : Nxt s.L G w ((s.drop id).add id' (.vec T.e z' ((es.drop off).take m ++ ys))).L (upd G id' (some gb)) w' := by
          refine ⟨upd_le hG gb, ⟨by omega, fun x hx hnx => ?_⟩, ?_, o3, o4, o5⟩
          · rcases Nat.eq_zero_or_pos cap with h0 | h0
            · rw [o7 h0]
            · refine o1 x fun e => hnx ⟨id, _, g, hL, r1, ?_⟩
              exact ⟨by omega, e⟩
          · rintro x hx ⟨i, bi, gi, q1, q2, q3⟩
            by_cases e : i = id'
            · subst e
              simp only [St.add, upd_same, Option.some.injEq] at q1 q2
              subst q1 q2
              have q3' : 0 < cap ∧ x = g.blk := q3
              exact ⟨id, _, g, hL, r1, ⟨by omega, q3'.2⟩⟩
            · simp only [St.add, upd_ne _ _ _ _ e] at q1 q2
              exact hown x ⟨i, bi, gi, q1, q2, q3⟩
        have hgood : Good D n ((s.drop id).add id' (.vec T.e z' ((es.drop off).take m ++ ys))) (upd G id' (some gb)) a w' := by
          refine hg.later hx ?_
          refine hg.hp.turn (· = id') hx (fun i hi => (upd_ne _ _ _ _ (show i ≠ id' from fun e => by subst e; have hi' : s.nx + n ≤ i := hi; omega)).trans (hg.hp.fin i hi)) (fun i bi hl' hni => ?_) (fun i bi gi x hl' hni hgi hocc => ?_) (fun i bi gi _ hni hgi => by rw [upd_ne _ _ _ _ hni]; exact hgi) (fun i j hi hj => hi.trans hj.symm) (fun i bi hl' hi => ?_)
          · by_cases e : i = id
            · subst e; simp [St.add, St.drop, upd, hni] at hl'
            · simpa [St.add, St.drop, upd, hni, e] using hl'
          · by_cases e : i = id
            · subst e; simp [St.add, St.drop, upd, hni] at hl'
            · have hl2 : s.L i = some bi := by simpa [St.add, St.drop, upd, hni, e] using hl'
              rcases Nat.eq_zero_or_pos cap with h0 | h0
              · rw [o7 h0]
              · refine o1 x fun ex => ?_
                exact hg.hp.apart i id bi _ gi g x hl2 hL hgi r1 e hocc ⟨by omega, ex⟩
          · subst hi
            simp only [St.add, upd_same, Option.some.injEq] at hl'
            subst hl'
            refine ⟨gb, upd_same _ _ _, ?_, fun x hocc => ?_⟩
            · refine ⟨rfl, by simp only [List.length_append, hlo]; exact hroom, by show cap < 2 ^ 63; omega, fun e he => ?_, fun hcap => ?_⟩
              · rcases List.mem_append.1 he with he | he
                · exact no e he
                · exact nn e he
              · obtain ⟨_, c', ty, fr, k2, k3, k4, k5, k6⟩ := o6 hcap
                have hfit : off * z' + cap * z' = g.cap * z' := by rw [← Nat.add_mul]; congr 1; omega
                have hfit2 : m * z' + ys.length * z' ≤ cap * z' := by rw [← Nat.add_mul]; exact Nat.mul_le_mul_right _ hroom
                obtain ⟨u1, u2⟩ := putL_spec news.toList c' (g.off + off * z' + m * z') (by simp [sn]; omega)
                refine ⟨_, ty, fr, k6, ⟨by rw [u1]; show g.off + off * z' + cap * z' ≤ c'.size; omega, k3.2.trans hty⟩, fun i hi => ?_, fun i j x hx' => ?_⟩
                · have := k4 (off * z' + i) (by have hi' : i < cap * z' := hi; omega)
                  have e : g.off + off * z' + i = g.off + (off * z' + i) := by omega
                  show ¬ (fr.1 ≤ g.off + off * z' + i ∧ g.off + off * z' + i < fr.2)
                  rw [e]; exact this
                · show Rep _ _ _ x ((putL c' (g.off + off * z' + m * z') news.toList).getD (g.off + off * z' + i * z' + j) undef)
                  rw [u2]
                  have hnl : news.toList.length = ys.length * z' := by simpa using sn
                  rcases bind_append hx' with ⟨hi, hx'⟩ | ⟨hi, hx'⟩
                  · rw [hlo] at hi
                    have hb' := bind_lt no hx'
                    have := lt_mul hi hb'.2
                    rw [if_neg (by omega)]
                    rw [List.getElem?_take_of_lt hi, List.getElem?_drop] at hx'
                    have := k5 _ _ _ hx'
                    rw [Nat.add_mul] at this
                    have e : g.off + off * z' + i * z' + j = g.off + (off * z' + i * z') + j := by omega
                    rw [e]; exact hx.rep this
                  · rw [hlo] at hi hx'
                    have hb' := bind_lt nn hx'
                    have h9 := lt_mul hb'.1 hb'.2
                    have h10 : m * z' ≤ i * z' := Nat.mul_le_mul_right _ hi
                    have h11 : i * z' + j - m * z' = (i - m) * z' + j := by rw [Nat.sub_mul]; omega
                    have h12 : g.off + off * z' + i * z' + j - (g.off + off * z' + m * z') = (i - m) * z' + j := by rw [← h11]; omega
                    rw [if_pos (by rw [hnl]; omega), h12]
                    have := rn _ _ _ hx'
                    exact hx.rep (by simpa [Array.getD_eq_getD_getElem?, List.getD] using this)
            · have hocc' : 0 < cap ∧ x = g.blk := hocc
              have haway := hg.hp.away x ⟨id, _, g, hL, r1, ⟨by omega, hocc'.2⟩⟩
              refine ⟨by omega, haway.2, fun i2 b2 g2 hl2 hn2 hg2 ho2 => ?_⟩
              by_cases e : i2 = id
              · subst e; simp [St.add, St.drop, upd, hn2] at hl2
              · have hl3 : s.L i2 = some b2 := by simpa [St.add, St.drop, upd, hn2, e] using hl2
                exact hg.hp.apart i2 id b2 _ g2 g x hl3 hL hg2 r1 e ho2 ⟨by omega, hocc'.2⟩
        rw [run_appendCall hc ha ho, ev, run_app_room (w' := w') T o.type hl (hf w rfl) hroom hst]
        simp only [Result.andThen_ok, Oper.upon, hdst]
        have g3 := hgood.put (d := some d) (x := .own id' z' 0 (m + ys.length)) (v := .slice base (m + ys.length) cap) (by simpa [dstOk] using hd)
          (.own _ _ _ _ gb _ _ (upd_same _ _ _) rfl hroom rfl (by show cap < 2 ^ 63; omega) (fun h => by rw [(o6 h).1]; simp [gb]))
        exact hn _ _ _ _ p2 g3 hx (new_add gb rfl hid'.symm)
      · obtain ⟨gd, xd⟩ := hg.drop id
        refine app_grow gd hd hdst (fun s' G' a' w' hk hgood hnx hnew => hn s' G' a' w' hk hgood (xd.trans hnx) hnew) T hc ha ho (l := (es.drop off).take m) (ys := ys) (by rw [hlo]; exact ev) (by rw [hlo]; exact hroom) (by rw [hlo]; exact p1) hl (by rw [hlo]; exact hfo) hf (by rw [hlo]; exact so) sn no nn
          (fun i j c hc => xd.rep (ro i j c hc)) (fun i j c hc => xd.rep (rn i j c hc)) (hfree d rfl) ?_
        rw [hlo]; exact p2
    · exact h.elim
  · exact h.elim

end
end Go.Ab
