/- The lowered code is sound. No condition. -/
import Derived.Test.YtbipjhcnooellaaAbY
namespace Go.Ab
open Go.RowKit
set_option linter.unusedVariables false
set_option linter.unusedSimpArgs false

section
variable {P : Program} {D : Nat → Prop} {n : Nat} {hint : Nat → Nat} {K K' : St → Prop}

theorem upd_id {α : Type} (f : Nat → α) (i : Nat) (v : α) (h : f i = v) : upd f i v = f := by
  funext t
  simp only [upd]
  split
  · rename_i e; rw [e, h]
  · rfl
theorem set_id {s : St} {i : Nat} {v : V} (h : s.env i = v) : s.set i v = s := by
  simp only [St.set, upd_id _ _ _ h]

theorem flat_none : ∀ (l : List I) (s : St), isteps P l s K → aops P (l.map fun i => ⟨none, i⟩) s K
  | [], s, h => h
  | i :: r, s, h => istep_mono h fun s' h => flat_none r s' h
theorem flat_true {t : Nat} {w : Bool} : ∀ (l : List I) (s : St), l.all (fun i => i.dst != some t) = true → s.env t = .bool w → isteps P l s K → aops P (l.map fun i => ⟨some (t, w), i⟩) s K
  | [], s, _, _, h => h
  | i :: r, s, ha, hs, h => by
    simp only [List.all_cons, Bool.and_eq_true, bne_iff_ne] at ha
    simp only [List.map_cons, aops, gstep, hs, if_true]
    exact istep_env h fun s' h he => flat_true r s' ha.2 (by rw [he t ha.1, hs]) h
theorem flat_skip {t : Nat} {w : Bool} (hv : V → Prop) (hvs : ∀ v, hv v → v = .bool (!w) ∨ v = .tup []) : ∀ (l : List I) (s : St), l.all (fun i => i.dst != some t) = true → hv (s.env t) → K (skips l s) → aops P (l.map fun i => ⟨some (t, w), i⟩) s K
  | [], s, _, _, h => h
  | i :: r, s, ha, hs, h => by
    simp only [List.all_cons, Bool.and_eq_true, bne_iff_ne] at ha
    have ih := flat_skip hv hvs r (s.setO i.dst (.tup [])) ha.2 (by rw [setO_env ha.1]; exact hs) h
    simp only [List.map_cons, aops, gstep]
    rcases hvs _ hs with e | e
    · rw [e]
      have : (!w) ≠ w := by cases w <;> simp
      simp only [this, if_false]
      exact ih
    · rw [e]
      exact ih

theorem grun_flat {x : Grp} {s : St} (hok : x.ok = true) (h : grun P x s K) : aops P x.flat s K := by
  obtain ⟨g, l⟩ := x
  cases g with
  | none => exact flat_none l s h
  | some tw =>
    obtain ⟨t, w⟩ := tw
    simp only [grun] at h
    simp only [Grp.ok] at hok
    simp only [Grp.flat]
    split at h
    · rename_i b hb
      by_cases e : b = w
      · subst e
        have h1 := h.1 rfl
        rw [set_id hb] at h1
        exact flat_true l s hok hb h1
      · have e' : b = !w := by cases b <;> cases w <;> simp_all
        subst e'
        have h1 := h.2 rfl
        rw [set_id hb] at h1
        exact flat_skip (fun v => v = .bool (!w)) (fun v hv => .inl hv) l s hok hb h1
    · rename_i hb
      exact flat_skip (fun v => v = .tup []) (fun v hv => .inr hv) l s hok hb h
    · exact h.elim

theorem gruns_flat : ∀ (l : List Grp) (s : St), l.all Grp.ok = true → gruns P l s K → aops P (l.flatMap Grp.flat) s K
  | [], s, _, h => h
  | x :: r, s, ho, h => by
    simp only [List.all_cons, Bool.and_eq_true] at ho
    rw [List.flatMap_cons]
    refine aops_append _ _ _ ?_
    have := grun_flat ho.1 h
    exact aops_mono this fun s' h => gruns_flat r s' ho.2 h

def toExit : X → Exit
  | .norm => .normal
  | .exit n => .exit n
  | .ret => .ret

/-- what is known where code ends -/
def Ends (D : Nat → Prop) (n : Nat) (L : Heap) (G : Ghost) (w : World) (K : X → St → Prop) (Q : Exit → Act → World → Prop) : Prop :=
  ∀ x s' G' a' w', K x s' → Good D n s' G' a' w' → Nxt L G w s'.L G' w' → (∀ i, s'.nx ≤ i → G' i = none) → Q (toExit x) a' w'

theorem Good.past {s : St} {G : Ghost} {a : Act} {w : World} (h : Good D n s G a w) : Good D n (s.past n) G a w ∧ ∀ i, (s.past n).nx ≤ i → G i = none := by
  refine ⟨⟨h.size, h.defers, h.env, ⟨fun id hid => h.hp.fin id ?_, h.hp.blk, h.hp.apart, h.hp.away, h.hp.dlt⟩⟩, fun i hi => h.hp.fin i hi⟩
  simp only [St.past] at hid
  omega

theorem fzL_map (id : Nat) (es : List V) : ∀ l : List V, V.fzL id es l = l.map (V.fz id es)
  | [] => rfl
  | x :: r => by simp [V.fzL, fzL_map id es r]
mutual
theorem fz_imm (id : Nat) (es : List V) : ∀ x : V, x.imm = true → x.fz id es = x
  | .own _ _ _ _, h => by simp [V.imm] at h
  | .agg cs, h => by simp only [V.imm] at h; simp [V.fz, fzL_imm id es cs h]
  | .tup cs, h => by simp only [V.imm] at h; simp [V.fz, fzL_imm id es cs h]
  | .fn f cs, h => by simp only [V.imm] at h; simp [V.fz, fzL_imm id es cs h]
  | .lst sz cs, h => by simp only [V.imm] at h; simp [V.fz, fzL_imm id es cs h]
  | .cptr cs, h => by simp only [V.imm] at h; simp [V.fz, fzL_imm id es cs h]
  | .junk, _ => rfl
  | .bool b, _ => rfl
  | .int k n, _ => rfl
  | .str s, _ => rfl
  | .nilp, _ => rfl
  | .nils, _ => rfl
  | .ptr i o, _ => rfl
  | .eptr i j k, _ => rfl
  | .map i, _ => rfl
  | .nilm, _ => rfl
  | .raw v, _ => rfl
theorem fzL_imm (id : Nat) (es : List V) : ∀ l : List V, V.imms l = true → V.fzL id es l = l
  | [], _ => rfl
  | x :: r, h => by
    simp only [V.imms, Bool.and_eq_true] at h
    simp [V.fzL, fz_imm id es x h.1, fzL_imm id es r h.2]
end
theorem fz_one (id : Nat) (es : List V) (x : V) : (x.fz id es).one = x.one := by
  cases x <;> simp only [V.fz] <;> try rfl
  split <;> rfl
theorem fz_ncells (id : Nat) (es : List V) (x : V) {k : Nat} (h : x.ncells = some k) : (x.fz id es).ncells = some k ∧ (x.fz id es).cells = V.fzL id es x.cells := by
  cases x with
  | agg cs =>
    simp only [V.ncells] at h
    split at h
    · rename_i ha
      refine ⟨?_, by simp [V.fz, V.cells]⟩
      simp only [V.fz, V.ncells, fzL_map]
      rw [if_pos]
      · simpa using h
      · rw [List.all_eq_true] at ha ⊢
        intro y hy
        obtain ⟨z, hz, rfl⟩ := List.mem_map.1 hy
        rw [fz_one]
        exact ha z hz
    · simp at h
  | own i sz off n =>
    simp only [V.fz]
    split
    · rename_i hc; refine ⟨by simpa [V.ncells, V.one] using h, by simp [V.cells, V.fzL, V.fz, hc]⟩
    · rename_i hc; refine ⟨by simpa [V.ncells, V.one] using h, by simp [V.cells, V.fzL, V.fz, hc]⟩
  | junk => simp [V.ncells, V.one] at h
  | tup cs => simp [V.ncells, V.one] at h
  | _ => exact ⟨by simpa [V.ncells, V.one, V.fz] using h, by simp [V.cells, V.fzL, V.fz]⟩
theorem fzL_get {id : Nat} {es l : List V} {i : Nat} {y : V} (h : (V.fzL id es l)[i]? = some y) : ∃ x, l[i]? = some x ∧ y = x.fz id es := by
  rw [fzL_map, List.getElem?_map] at h
  cases hx : l[i]? with
  | none => simp [hx] at h
  | some x => simp [hx] at h; exact ⟨x, rfl, h.symm⟩
theorem fz_cell {id : Nat} {es l : List V} {sz i j : Nat} {c : V} (hz : ∀ e, e ∈ l → e.ncells = some sz) (h : ((V.fzL id es l)[i]?.bind fun e : V => e.cells[j]?) = some c) : ∃ c', (l[i]?.bind fun e : V => e.cells[j]?) = some c' ∧ c = c'.fz id es := by
  cases he : (V.fzL id es l)[i]? with
  | none => simp [he] at h
  | some e' =>
    obtain ⟨e, h1, rfl⟩ := fzL_get he
    simp only [he, Option.bind_some] at h
    rw [(fz_ncells id es e (hz e (mem_of_getElem? h1))).2] at h
    obtain ⟨c', h2, rfl⟩ := fzL_get h
    exact ⟨c', by simp [h1, h2], rfl⟩

section
variable {s : St} {G : Ghost} {a : Act} {w : World}
theorem occ_fz {id : Nat} {es : List V} {g : GB} {b : Blk} {x : Nat} : Occ g (b.fz id es) x ↔ Occ g b x := by cases b <;> rfl
theorem fzHeap_get {id : Nat} {es : List V} {L : Heap} {i : Nat} {b : Blk} (h : fzHeap id es L i = some b) : i ≠ id ∧ ∃ b0, L i = some b0 ∧ b = b0.fz id es := by
  unfold fzHeap at h
  split at h
  · cases h
  · rename_i hne
    cases hb : L i with
    | none => simp [hb] at h
    | some b0 => simp [hb] at h; exact ⟨hne, b0, rfl, h.symm⟩
theorem fz_nxt {id : Nat} {es : List V} {L : Heap} : Nxt L G w (fzHeap id es L) G w := by
  refine ⟨G.le_refl, Same.refl _ _, ?_, rfl, rfl, rfl⟩
  rintro x _ ⟨i, b, g, h1, h2, h3⟩
  obtain ⟨_, b0, h4, rfl⟩ := fzHeap_get h1
  exact ⟨i, b0, g, h4, h2, occ_fz.1 h3⟩
theorem fz_rep {id ty sz0 : Nat} {es : List V} (hp : Hp D n s G w) (hL : s.L id = some (.vec ty sz0 es)) (hi : V.imms es = true) {x : V} {v : Value} (h : Rep G (Dp D s.L G) w x v) : Rep G (Dp D (fzHeap id es s.L) G) w (x.fz id es) v := by
  have hx : Nxt s.L G w (fzHeap id es s.L) G w := fz_nxt
  have sub : ∀ b, ¬ Dp D s.L G b → ¬ Dp D (fzHeap id es s.L) G b := fun b hn hd => hd.elim (fun h1 => hn (.inl h1)) fun ⟨i, b0, g, h1, h2, h3⟩ => by
    obtain ⟨_, b1, h4, rfl⟩ := fzHeap_get h1
    exact hn (.inr ⟨i, b1, g, h4, h2, occ_fz.1 h3⟩)
  induction h with
  | own i sz off len g a cap hg hz hc hgc hl ha =>
    simp only [V.fz]
    split
    · rename_i hcond
      obtain ⟨rfl, hle⟩ := hcond
      obtain ⟨g', b1, b2, b3, b4, b5, b6⟩ := hp.blk i _ hL
      obtain rfl : g' = g := Option.some.inj (b1.symm.trans hg)
      have hsz : sz = sz0 := hz.symm.trans b2
      subst hsz
      have hlen : ((es.drop off).take len).length = len := by simp; omega
      have cellAt : ∀ (i j : Nat) (c : V), ((((es.drop off).take len)[i]?).bind fun e => e.cells[j]?) = some c → ((es[off + i]?).bind fun e => e.cells[j]?) = some c ∧ i < len ∧ j < sz := by
        intro i j c hc
        cases he : ((es.drop off).take len)[i]? with
        | none => rw [he] at hc; simp at hc
        | some e =>
          rw [he] at hc
          simp only [Option.bind_some] at hc
          have hmem : e ∈ es := List.mem_of_mem_drop (List.mem_of_mem_take (mem_of_getElem? he))
          have hi : i < len := by
            have := (List.getElem?_eq_some_iff.1 he).1
            omega
          rw [List.getElem?_take_of_lt hi, List.getElem?_drop] at he
          refine ⟨by rw [he]; exact hc, hi, ?_⟩
          rw [← ncells_length (b5 e hmem)]
          exact (List.getElem?_eq_some_iff.1 hc).1
      have main : Rep G (Dp D (fzHeap i es s.L) G) w (.lst sz ((es.drop off).take len)) (.slice a ((es.drop off).take len).length cap) := by
        refine .lst sz _ a cap g'.blk (g'.off + off * sz) (by omega) (by omega) (fun h0 => ?_) (fun e he => b5 e (List.mem_of_mem_drop (List.mem_of_mem_take he))) (fun i j c hc => ?_) (fun i j c hc => ?_)
        · rw [hlen] at h0
          refine ⟨ha (by omega), ?_⟩
          have hocc : Occ g' (.vec ty sz es) g'.blk := ⟨by omega, rfl⟩
          obtain ⟨k1, k2⟩ := hp.away g'.blk ⟨i, _, g', hL, b1, hocc⟩
          refine ⟨k1, fun hdp => ?_⟩
          rcases hdp with hdp | ⟨id2, b2', g2, l1, l2, l3⟩
          · exact k2 hdp
          · obtain ⟨hne, b0, l4, rfl⟩ := fzHeap_get l1
            exact hp.apart i id2 _ _ _ _ _ hL l4 b1 l2 (Ne.symm hne) hocc (occ_fz.1 l3)
        · obtain ⟨q1, q3, q4⟩ := cellAt i j c hc
          obtain ⟨c', ty, fr, k2, k3, k4, k5⟩ := b6 (by omega)
          rw [cell_of_blk k2]
          have : (off + i + 1) * sz ≤ g'.cap * sz := Nat.mul_le_mul_right _ (by omega)
          rw [Nat.add_mul, Nat.add_mul] at this
          simp; omega
        · obtain ⟨q1, q3, q4⟩ := cellAt i j c hc
          obtain ⟨c', ty, fr, k2, k3, k4, k5⟩ := b6 (by omega)
          rw [cellD_of_blk k2]
          have h5 := k5 _ _ _ q1
          rw [Nat.add_mul] at h5
          have e : g'.off + off * sz + i * sz + j = g'.off + (off * sz + i * sz) + j := by omega
          rw [e]
          exact hx.rep h5
      rw [hlen] at main
      exact main
    · exact .own i sz off len g a cap hg hz hc hgc hl ha
  | agg cs vs hn hr ih =>
    refine .agg _ _ (by rw [fzL_map, List.length_map]; exact hn) fun i c hc => ?_
    obtain ⟨c0, h1, rfl⟩ := fzL_get hc
    exact ih i c0 h1
  | tup cs vs hn hr ih =>
    refine .tup _ _ (by rw [fzL_map, List.length_map]; exact hn) fun i c hc => ?_
    obtain ⟨c0, h1, rfl⟩ := fzL_get hc
    exact ih i c0 h1
  | fn f cs vs hn hr ih =>
    refine .fn _ _ _ (by rw [fzL_map, List.length_map]; exact hn) fun i c hc => ?_
    obtain ⟨c0, h1, rfl⟩ := fzL_get hc
    exact ih i c0 h1
  | cptr cs b o hb hd hs hr ih =>
    refine .cptr _ b o hb (sub b hd) (fun j c hc => ?_) (fun j c hc => ?_)
    · obtain ⟨c0, h1, rfl⟩ := fzL_get hc
      exact hs j c0 h1
    · obtain ⟨c0, h1, rfl⟩ := fzL_get hc
      exact ih j c0 h1
  | lst sz l a cap b o hc hl ha hz hs hr ih =>
    have hlen : (V.fzL id es l).length = l.length := by rw [fzL_map, List.length_map]
    have main : Rep G (Dp D (fzHeap id es s.L) G) w (.lst sz (V.fzL id es l)) (.slice a (V.fzL id es l).length cap) := by
      refine .lst sz _ a cap b o (by omega) hl (fun h0 => ?_) (fun e he => ?_) (fun i j c hc => ?_) (fun i j c hc => ?_)
      · obtain ⟨k1, k2, k3⟩ := ha (by omega)
        exact ⟨k1, k2, sub b k3⟩
      · rw [fzL_map] at he
        obtain ⟨e0, h1, rfl⟩ := List.mem_map.1 he
        exact (fz_ncells id es e0 (hz e0 h1)).1
      · obtain ⟨c0, h1, rfl⟩ := fz_cell hz hc
        exact hs i j c0 h1
      · obtain ⟨c0, h1, rfl⟩ := fz_cell hz hc
        exact ih i j c0 h1
    rw [hlen] at main
    exact main
  | junk v => exact .junk v
  | bool b => exact .bool b
  | int k n => exact .int k n
  | str s h => exact .str s h
  | nilp => exact .nilp
  | nils => exact .nils
  | ptr id off g h => exact .ptr id off g h
  | eptr id i j g h => exact .eptr id i j g h
  | map id g h => exact .map id g h
  | nilm => exact .nilm
  | raw v => exact .raw v
theorem fz_blk {id ty sz0 : Nat} {es : List V} (hp : Hp D n s G w) (hL : s.L id = some (.vec ty sz0 es)) (hi : V.imms es = true) {g : GB} {b : Blk} (h : BlkOk G (Dp D s.L G) w g b) : BlkOk G (Dp D (fzHeap id es s.L) G) w g (b.fz id es) := by
  cases b with
  | box ty0 cs =>
    obtain ⟨c, ty', fr, h1, h2, h3, h4, h5⟩ := h
    refine ⟨c, ty', fr, h1, by rw [fzL_map, List.length_map]; exact h2, h3, h4, fun i x hx => ?_⟩
    obtain ⟨c0, k1, rfl⟩ := fzL_get hx
    exact fz_rep hp hL hi (h5 i c0 k1)
  | vec ty0 sz l =>
    obtain ⟨h1, h2, h3, h4, h5⟩ := h
    refine ⟨h1, by rw [fzL_map, List.length_map]; exact h2, h3, fun e he => ?_, fun hc => ?_⟩
    · rw [fzL_map] at he
      obtain ⟨e0, k1, rfl⟩ := List.mem_map.1 he
      exact (fz_ncells id es e0 (h4 e0 k1)).1
    · obtain ⟨c, ty', fr, k1, k2, k3, k4⟩ := h5 hc
      refine ⟨c, ty', fr, k1, k2, k3, fun i j x hx => ?_⟩
      obtain ⟨c0, m1, rfl⟩ := fz_cell h4 hx
      exact fz_rep hp hL hi (k4 i j c0 m1)
  | map _ => exact h.elim
  | bld tb ty0 bs => exact h
theorem fz_good {id ty sz0 : Nat} {es : List V} (hg : Good D n s G a w) (hL : s.L id = some (.vec ty sz0 es)) (hi : V.imms es = true) : Good D n (s.fz id es) G a w := by
  refine ⟨hg.size, hg.defers, fun i => fz_rep hg.hp hL hi (hg.env i), ⟨hg.hp.fin, fun i b hb => ?_, fun i i' b b' g g' x h1 h2 h3 h4 hne h5 h6 => ?_, fun x hx => ?_, hg.hp.dlt⟩⟩
  · obtain ⟨_, b0, h1, rfl⟩ := fzHeap_get hb
    obtain ⟨g, h2, h3⟩ := hg.hp.blk i b0 h1
    exact ⟨g, h2, fz_blk hg.hp hL hi h3⟩
  · obtain ⟨_, b0, k1, rfl⟩ := fzHeap_get h1
    obtain ⟨_, b1, k2, rfl⟩ := fzHeap_get h2
    exact hg.hp.apart i i' b0 b1 g g' x k1 k2 h3 h4 hne (occ_fz.1 h5) (occ_fz.1 h6)
  · obtain ⟨i, b, g, h1, h2, h3⟩ := hx
    obtain ⟨_, b0, k1, rfl⟩ := fzHeap_get h1
    exact hg.hp.away x ⟨i, b0, g, k1, h2, occ_fz.1 h3⟩
theorem fzS_good {s' : St} (h : FzS s s') : ∀ {G : Ghost} {a : Act} {w : World}, Good D n s G a w → (∀ i, s.nx ≤ i → G i = none) → Good D n s' G a w ∧ Nxt s.L G w s'.L G w ∧ ∀ i, s'.nx ≤ i → G i = none := by
  induction h with
  | refl s => exact fun hg hf => ⟨hg, Nxt.refl _ _ _, hf⟩
  | step id ty sz es hL hi hs ih =>
    intro G a w hg hf
    obtain ⟨h1, h2, h3⟩ := ih (fz_good hg hL hi) hf
    exact ⟨h1, fz_nxt.trans h2, h3⟩
end

theorem gh_sound {g : Gh} {s : St} {G : Ghost} {a : Act} {w : World} (hn0 : 0 < n) (h : ghstep g s K) (hg : Good D n s G a w) (hf : ∀ i, s.nx ≤ i → G i = none) :
    ∃ s' G', K s' ∧ Good D n s' G' a w ∧ Nxt s.L G w s'.L G' w ∧ ∀ i, s'.nx ≤ i → G' i = none := by
  cases g with
  | cut =>
    obtain ⟨M, h1, h2⟩ := h
    exact ⟨s, G, h2 _ h1, hg, Nxt.refl _ _ _, hf⟩
  | fz =>
    obtain ⟨s', h1, h2⟩ := h
    obtain ⟨g1, x1, f1⟩ := fzS_good h1 hg hf
    exact ⟨s', G, h2, g1, x1, f1⟩
  | own d ty sz =>
    obtain ⟨h1, h2⟩ := h
    obtain ⟨g1, x1⟩ := hg.newBlk (w' := w) (Below.refl _ _) (id := s.nx) (hf _ (Nat.le_refl _)) (by omega) (.vec ty sz []) ⟨0, 0, 0, sz, 0⟩ (fun x hx => absurd hx.1 (Nat.lt_irrefl _))
      (fun G' D' _ => ⟨rfl, by simp, Nat.two_pow_pos 63, by simp, fun hc => absurd hc (Nat.lt_irrefl _)⟩)
    have hid : upd G s.nx (some (⟨0, 0, 0, sz, 0⟩ : GB)) s.nx = some ⟨0, 0, 0, sz, 0⟩ := upd_same _ _ _
    have hnone : ∀ i, s.nx + 1 ≤ i → upd G s.nx (some (⟨0, 0, 0, sz, 0⟩ : GB)) i = none := fun i hi => by
      rw [upd_ne _ _ _ _ (by omega)]; exact hf i (by omega)
    refine ⟨_, upd G s.nx (some ⟨0, 0, 0, sz, 0⟩), h2, ⟨g1.size, g1.defers, fun i => ?_, ⟨fun id hid => hnone id (by simp only at hid; omega), g1.hp.blk, g1.hp.apart, g1.hp.away, g1.hp.dlt⟩⟩, x1, hnone⟩
    simp only [upd]
    split
    · rename_i e
      subst e
      have hv := hg.env i
      rw [h1] at hv
      rw [rep_nils hv]
      exact .own _ sz 0 0 _ none 0 hid rfl (Nat.le_refl _) rfl (Nat.two_pow_pos 63) (fun h => absurd h (Nat.lt_irrefl _))
    · exact g1.env i
  | bopen d =>
    simp only [ghstep] at h
    split at h
    · rename_i id hd
      split at h
      · rename_i tb ty bs hL
        exact bopen_sound hn0 hd hL h hg hf
      · exact h.elim
    · exact h.elim
  | bclose d ty =>
    simp only [ghstep] at h
    split at h
    · rename_i id hd
      split at h
      · rename_i tb a' b hL
        obtain ⟨ha, h⟩ := h
        split at h
        · exact bclose_nil hd hL ha h hg hf
        · rename_i m len
          obtain ⟨hne, hpos, h⟩ := h
          split at h
          · rename_i ty' sz es hm
            obtain ⟨rfl, hlen, bs, hbs, h⟩ := h
            exact bclose_own hd hL ha hne hpos hm hlen hbs h hg hf
          · exact h.elim
        · exact h.elim
      · exact h.elim
    · exact h.elim
  | frz d =>
    simp only [ghstep] at h
    split at h
    · rename_i id sz off len hd
      split at h
      · rename_i ty0 sz' es hL
        obtain ⟨h1, h2, h3⟩ := h
        obtain ⟨g1, x1⟩ := hg.drop id
        refine ⟨_, G, h3, ⟨g1.size, g1.defers, fun i => ?_, g1.hp.congr rfl rfl⟩, x1, hf⟩
        simp only [St.set, upd]
        split
        · rename_i e
          subst e
          have hv := hg.env i
          rw [hd] at hv
          obtain ⟨g, a', cap, e1, e2, e3, e4, e5, e6, e7⟩ := rep_own hv
          rw [e1]
          obtain ⟨g', b1, b2, b3, b4, b5, b6⟩ := hg.hp.blk id _ hL
          obtain rfl : g' = g := Option.some.inj (b1.symm.trans e2)
          have hlen : ((es.drop off).take len).length = len := by simp; omega
          have hrep : Rep G (Dp D (s.drop id).L G) w (.lst sz ((es.drop off).take len)) (.slice a' ((es.drop off).take len).length cap) := by
            have hsz : sz = sz' := e3.symm.trans b2
            subst hsz
            have cellAt : ∀ (i j : Nat) (c : V), ((((es.drop off).take len)[i]?).bind fun e => e.cells[j]?) = some c → ((es[off + i]?).bind fun e => e.cells[j]?) = some c ∧ i < len ∧ j < sz := by
              intro i j c hc
              cases he : ((es.drop off).take len)[i]? with
              | none => rw [he] at hc; simp at hc
              | some e =>
                rw [he] at hc
                simp only [Option.bind_some] at hc
                have hmem : e ∈ es := List.mem_of_mem_drop (List.mem_of_mem_take (mem_of_getElem? he))
                have hi : i < len := by
                  have := (List.getElem?_eq_some_iff.1 he).1
                  omega
                rw [List.getElem?_take_of_lt hi, List.getElem?_drop] at he
                refine ⟨by rw [he]; exact hc, hi, ?_⟩
                rw [← ncells_length (b5 e hmem)]
                exact (List.getElem?_eq_some_iff.1 hc).1
            refine .lst sz _ a' cap g'.blk (g'.off + off * sz) (by omega) (by omega) (fun h0 => ?_) (fun e he => b5 e (List.mem_of_mem_drop (List.mem_of_mem_take he))) (fun i j c hc => ?_) (fun i j c hc => ?_)
            · rw [hlen] at h0
              refine ⟨e7 (by omega), ?_⟩
              have hocc : Occ g' (.vec ty0 sz es) g'.blk := ⟨by omega, rfl⟩
              obtain ⟨k1, k2⟩ := hg.hp.away g'.blk ⟨id, _, g', hL, b1, hocc⟩
              refine ⟨k1, fun hdp => ?_⟩
              rcases hdp with hdp | ⟨id2, b2', g2, l1, l2, l3⟩
              · exact k2 hdp
              · by_cases e : id2 = id
                · subst e; simp [St.drop, upd_same] at l1
                · simp only [St.drop, upd_ne _ _ _ _ e] at l1
                  exact hg.hp.apart id id2 _ _ _ _ _ hL l1 b1 l2 (Ne.symm e) hocc l3
            · obtain ⟨q1, q3, q4⟩ := cellAt i j c hc
              obtain ⟨c', ty, fr, k2, k3, k4, k5⟩ := b6 (by omega)
              rw [cell_of_blk k2]
              have : (off + i + 1) * sz ≤ g'.cap * sz := Nat.mul_le_mul_right _ (by omega)
              rw [Nat.add_mul, Nat.add_mul] at this
              simp; omega
            · obtain ⟨q1, q3, q4⟩ := cellAt i j c hc
              obtain ⟨c', ty, fr, k2, k3, k4, k5⟩ := b6 (by omega)
              rw [cellD_of_blk k2]
              have h5 := k5 _ _ _ q1
              rw [Nat.add_mul] at h5
              have e : g'.off + off * sz + i * sz + j = g'.off + (off * sz + i * sz) + j := by omega
              rw [e]
              exact x1.rep h5
          rw [hlen] at hrep
          exact hrep
        · exact g1.env i
      · exact h.elim
    · exact h.elim

end
end Go.Ab
