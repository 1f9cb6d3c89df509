/- The lowered code is sound. No condition. -/
import Derived.Test.YtbipjhcnooellaaAbY
namespace Go.Ab
open Go.RowKit
set_option linter.unusedVariables false
set_option linter.unusedSimpArgs false

section
variable {P : Program} {D : Nat → Prop} {n : Nat} {hint : Nat → Nat} {K K' : St → Prop}

theorem upd_id {α : Type} (f : Nat → α) (i : Nat) (v : α) (h : f i = v) : upd f i v = f := by
  funext t
  simp only [upd]
  split
  · rename_i e; rw [e, h]
  · rfl
theorem set_id {s : St} {i : Nat} {v : V} (h : s.env i = v) : s.set i v = s := by
  simp only [St.set, upd_id _ _ _ h]

theorem flat_none : ∀ (l : List I) (s : St), isteps P l s K → aops P (l.map fun i => ⟨none, i⟩) s K
  | [], s, h => h
  | i :: r, s, h => istep_mono h fun s' h => flat_none r s' h
theorem flat_true {t : Nat} {w : Bool} : ∀ (l : List I) (s : St), l.all (fun i => i.dst != some t) = true → s.env t = .bool w → isteps P l s K → aops P (l.map fun i => ⟨some (t, w), i⟩) s K
  | [], s, _, _, h => h
  | i :: r, s, ha, hs, h => by
    simp only [List.all_cons, Bool.and_eq_true, bne_iff_ne] at ha
    simp only [List.map_cons, aops, gstep, hs, if_true]
    exact istep_env h fun s' h he => flat_true r s' ha.2 (by rw [he t ha.1, hs]) h
theorem flat_skip {t : Nat} {w : Bool} (hv : V → Prop) (hvs : ∀ v, hv v → v = .bool (!w) ∨ v = .tup []) : ∀ (l : List I) (s : St), l.all (fun i => i.dst != some t) = true → hv (s.env t) → K (skips l s) → aops P (l.map fun i => ⟨some (t, w), i⟩) s K
  | [], s, _, _, h => h
  | i :: r, s, ha, hs, h => by
    simp only [List.all_cons, Bool.and_eq_true, bne_iff_ne] at ha
    have ih := flat_skip hv hvs r (s.setO i.dst (.tup [])) ha.2 (by rw [setO_env ha.1]; exact hs) h
    simp only [List.map_cons, aops, gstep]
    rcases hvs _ hs with e | e
    · rw [e]
      have : (!w) ≠ w := by cases w <;> simp
      simp only [this, if_false]
      exact ih
    · rw [e]
      exact ih

theorem grun_flat {x : Grp} {s : St} (hok : x.ok = true) (h : grun P x s K) : aops P x.flat s K := by
  obtain ⟨g, l⟩ := x
  cases g with
  | none => exact flat_none l s h
  | some tw =>
    obtain ⟨t, w⟩ := tw
    simp only [grun] at h
    simp only [Grp.ok] at hok
    simp only [Grp.flat]
    split at h
    · rename_i b hb
      by_cases e : b = w
      · subst e
        have h1 := h.1 rfl
        rw [set_id hb] at h1
        exact flat_true l s hok hb h1
      · have e' : b = !w := by cases b <;> cases w <;> simp_all
        subst e'
        have h1 := h.2 rfl
        rw [set_id hb] at h1
        exact flat_skip (fun v => v = .bool (!w)) (fun v hv => .inl hv) l s hok hb h1
    · rename_i hb
      exact flat_skip (fun v => v = .tup []) (fun v hv => .inr hv) l s hok hb h
    · exact h.elim

theorem gruns_flat : ∀ (l : List Grp) (s : St), l.all Grp.ok = true → gruns P l s K → aops P (l.flatMap Grp.flat) s K
  | [], s, _, h => h
  | x :: r, s, ho, h => by
    simp only [List.all_cons, Bool.and_eq_true] at ho
    rw [List.flatMap_cons]
    refine aops_append _ _ _ ?_
    have := grun_flat ho.1 h
    exact aops_mono this fun s' h => gruns_flat r s' ho.2 h

def toExit : X → Exit
  | .norm => .normal
  | .exit n => .exit n
  | .ret => .ret

/-- what is known where code ends -/
def Ends (D : Nat → Prop) (n : Nat) (L : Heap) (G : Ghost) (w : World) (K : X → St → Prop) (Q : Exit → Act → World → Prop) : Prop :=
  ∀ x s' G' a' w', K x s' → Good D n s' G' a' w' → Nxt L G w s'.L G' w' → (∀ i, s'.nx ≤ i → G' i = none) → Q (toExit x) a' w'

theorem Good.past {s : St} {G : Ghost} {a : Act} {w : World} (h : Good D n s G a w) : Good D n (s.past n) G a w ∧ ∀ i, (s.past n).nx ≤ i → G i = none := by
  refine ⟨⟨h.size, h.defers, h.env, ⟨fun id hid => h.hp.fin id ?_, h.hp.blk, h.hp.apart, h.hp.away, h.hp.dlt⟩⟩, fun i hi => h.hp.fin i hi⟩
  simp only [St.past] at hid
  omega

theorem gh_sound {g : Gh} {s : St} {G : Ghost} {a : Act} {w : World} (hn0 : 0 < n) (h : ghstep g s K) (hg : Good D n s G a w) (hf : ∀ i, s.nx ≤ i → G i = none) :
    ∃ s' G', K s' ∧ Good D n s' G' a w ∧ Nxt s.L G w s'.L G' w ∧ ∀ i, s'.nx ≤ i → G' i = none := by
  cases g with
  | cut =>
    obtain ⟨M, h1, h2⟩ := h
    exact ⟨s, G, h2 _ h1, hg, Nxt.refl _ _ _, hf⟩
  | own d ty sz =>
    obtain ⟨h1, h2⟩ := h
    obtain ⟨g1, x1⟩ := hg.newBlk (w' := w) (Below.refl _ _) (id := s.nx) (hf _ (Nat.le_refl _)) (by omega) (.vec ty sz []) ⟨0, 0, 0, sz, 0⟩ (fun x hx => absurd hx.1 (Nat.lt_irrefl _))
      (fun G' D' _ => ⟨rfl, by simp, Nat.two_pow_pos 63, by simp, fun hc => absurd hc (Nat.lt_irrefl _)⟩)
    have hid : upd G s.nx (some (⟨0, 0, 0, sz, 0⟩ : GB)) s.nx = some ⟨0, 0, 0, sz, 0⟩ := upd_same _ _ _
    have hnone : ∀ i, s.nx + 1 ≤ i → upd G s.nx (some (⟨0, 0, 0, sz, 0⟩ : GB)) i = none := fun i hi => by
      rw [upd_ne _ _ _ _ (by omega)]; exact hf i (by omega)
    refine ⟨_, upd G s.nx (some ⟨0, 0, 0, sz, 0⟩), h2, ⟨g1.size, g1.defers, fun i => ?_, ⟨fun id hid => hnone id (by simp only at hid; omega), g1.hp.blk, g1.hp.apart, g1.hp.away, g1.hp.dlt⟩⟩, x1, hnone⟩
    simp only [upd]
    split
    · rename_i e
      subst e
      have hv := hg.env i
      rw [h1] at hv
      rw [rep_nils hv]
      exact .own _ sz 0 0 _ none 0 hid rfl (Nat.le_refl _) rfl (Nat.two_pow_pos 63) (fun h => absurd h (Nat.lt_irrefl _))
    · exact g1.env i
  | bopen d =>
    simp only [ghstep] at h
    split at h
    · rename_i id hd
      split at h
      · rename_i tb ty bs hL
        exact bopen_sound hn0 hd hL h hg hf
      · exact h.elim
    · exact h.elim
  | bclose d ty =>
    simp only [ghstep] at h
    split at h
    · rename_i id hd
      split at h
      · rename_i tb a' b hL
        obtain ⟨ha, h⟩ := h
        split at h
        · exact bclose_nil hd hL ha h hg hf
        · rename_i m len
          obtain ⟨hne, hpos, h⟩ := h
          split at h
          · rename_i ty' sz es hm
            obtain ⟨rfl, hlen, bs, hbs, h⟩ := h
            exact bclose_own hd hL ha hne hpos hm hlen hbs h hg hf
          · exact h.elim
        · exact h.elim
      · exact h.elim
    · exact h.elim
  | frz d =>
    simp only [ghstep] at h
    split at h
    · rename_i id sz off len hd
      split at h
      · rename_i ty0 sz' es hL
        obtain ⟨h1, h2, h3⟩ := h
        obtain ⟨g1, x1⟩ := hg.drop id
        refine ⟨_, G, h3, ⟨g1.size, g1.defers, fun i => ?_, g1.hp.congr rfl rfl⟩, x1, hf⟩
        simp only [St.set, upd]
        split
        · rename_i e
          subst e
          have hv := hg.env i
          rw [hd] at hv
          obtain ⟨g, a', cap, e1, e2, e3, e4, e5, e6, e7⟩ := rep_own hv
          rw [e1]
          obtain ⟨g', b1, b2, b3, b4, b5, b6⟩ := hg.hp.blk id _ hL
          obtain rfl : g' = g := Option.some.inj (b1.symm.trans e2)
          have hlen : ((es.drop off).take len).length = len := by simp; omega
          have hrep : Rep G (Dp D (s.drop id).L G) w (.lst sz ((es.drop off).take len)) (.slice a' ((es.drop off).take len).length cap) := by
            have hsz : sz = sz' := e3.symm.trans b2
            subst hsz
            have cellAt : ∀ (i j : Nat) (c : V), ((((es.drop off).take len)[i]?).bind fun e => e.cells[j]?) = some c → ((es[off + i]?).bind fun e => e.cells[j]?) = some c ∧ i < len ∧ j < sz := by
              intro i j c hc
              cases he : ((es.drop off).take len)[i]? with
              | none => rw [he] at hc; simp at hc
              | some e =>
                rw [he] at hc
                simp only [Option.bind_some] at hc
                have hmem : e ∈ es := List.mem_of_mem_drop (List.mem_of_mem_take (mem_of_getElem? he))
                have hi : i < len := by
                  have := (List.getElem?_eq_some_iff.1 he).1
                  omega
                rw [List.getElem?_take_of_lt hi, List.getElem?_drop] at he
                refine ⟨by rw [he]; exact hc, hi, ?_⟩
                rw [← ncells_length (b5 e hmem)]
                exact (List.getElem?_eq_some_iff.1 hc).1
            refine .lst sz _ a' cap g'.blk (g'.off + off * sz) (by omega) (by omega) (fun h0 => ?_) (fun e he => b5 e (List.mem_of_mem_drop (List.mem_of_mem_take he))) (fun i j c hc => ?_) (fun i j c hc => ?_)
            · rw [hlen] at h0
              refine ⟨e7 (by omega), ?_⟩
              have hocc : Occ g' (.vec ty0 sz es) g'.blk := ⟨by omega, rfl⟩
              obtain ⟨k1, k2⟩ := hg.hp.away g'.blk ⟨id, _, g', hL, b1, hocc⟩
              refine ⟨k1, fun hdp => ?_⟩
              rcases hdp with hdp | ⟨id2, b2', g2, l1, l2, l3⟩
              · exact k2 hdp
              · by_cases e : id2 = id
                · subst e; simp [St.drop, upd_same] at l1
                · simp only [St.drop, upd_ne _ _ _ _ e] at l1
                  exact hg.hp.apart id id2 _ _ _ _ _ hL l1 b1 l2 (Ne.symm e) hocc l3
            · obtain ⟨q1, q3, q4⟩ := cellAt i j c hc
              obtain ⟨c', ty, fr, k2, k3, k4, k5⟩ := b6 (by omega)
              rw [cell_of_blk k2]
              have : (off + i + 1) * sz ≤ g'.cap * sz := Nat.mul_le_mul_right _ (by omega)
              rw [Nat.add_mul, Nat.add_mul] at this
              simp; omega
            · obtain ⟨q1, q3, q4⟩ := cellAt i j c hc
              obtain ⟨c', ty, fr, k2, k3, k4, k5⟩ := b6 (by omega)
              rw [cellD_of_blk k2]
              have h5 := k5 _ _ _ q1
              rw [Nat.add_mul] at h5
              have e : g'.off + off * sz + i * sz + j = g'.off + (off * sz + i * sz) + j := by omega
              rw [e]
              exact x1.rep h5
          rw [hlen] at hrep
          exact hrep
        · exact g1.env i
      · exact h.elim
    · exact h.elim

end
end Go.Ab
