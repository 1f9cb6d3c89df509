/- Builders, opened and closed. No condition. -/
import Derived.Test.YtbipjhcnooellaaAbT
namespace Go.Ab
open Go.RowKit
set_option linter.unusedVariables false
set_option linter.unusedSimpArgs false

section
variable {P : Program} {D : Nat → Prop} {n : Nat} {K : St → Prop} {s : St} {G : Ghost} {a : Act} {w : World}

theorem bytesV_get {bs : List UInt8} {i j : Nat} {x : V} (h : (((bytesV bs)[i]?).bind fun e => e.cells[j]?) = some x) : ∃ b, bs[i]? = some b ∧ j = 0 ∧ x = .int .u8 b.toNat := by
  simp only [bytesV, List.getElem?_map] at h
  cases hb : bs[i]? with
  | none => rw [hb] at h; simp at h
  | some b =>
    rw [hb] at h
    simp only [Option.map_some, Option.bind_some, V.cells] at h
    match j, h with
    | 0, h => simp at h; exact ⟨b, rfl, rfl, h.symm⟩

theorem bopen_sound {d id tb ty : Nat} {bs : List UInt8} (hn0 : 0 < n) (hd : s.env d = .ptr id 0) (hL : s.L id = some (.bld tb ty bs))
    (h : ∀ a, (a = .nilp ∨ a = .ptr id 0) → (bs = [] → K ⟨s.env, upd s.L id (some (.box tb [a, .nils])), s.nx⟩) ∧ (bs ≠ [] → K ⟨s.env, upd (upd s.L s.nx (some (.vec ty 1 (bytesV bs)))) id (some (.box tb [a, .own s.nx 1 0 bs.length])), s.nx + 1⟩)) (hg : Good D n s G a w) (hf : ∀ i, s.nx ≤ i → G i = none) :
    ∃ s' G', K s' ∧ Good D n s' G' a w ∧ Nxt s.L G w s'.L G' w ∧ ∀ i, s'.nx ≤ i → G' i = none := by
  obtain ⟨g, hG, c, fr, cap, o, ad, h1, h2, h3, h4, h5, h6, h7, h8, h9, h10⟩ := hg.hp.blk _ _ hL
  have hnx : G s.nx = none := hf _ (Nat.le_refl _)
  have hne : id ≠ s.nx := fun e => by rw [e, hnx] at hG; cases hG
  let gv : GB := ⟨g.aux, o, cap, 1, 0⟩
  obtain ⟨a0, ha0, hrep0⟩ : ∃ a0, (a0 = .nilp ∨ a0 = .ptr id 0) ∧ ∀ (G' : Ghost) (D' : Nat → Prop), G' id = some g → Rep G' D' w a0 (c.getD 0 undef) := by
    rcases h5 with e | e
    · exact ⟨_, .inl rfl, fun _ _ _ => by rw [e]; exact .nilp⟩
    · refine ⟨_, .inr rfl, fun G' D' hG' => ?_⟩
      rw [e]
      have := Rep.ptr (D := D') (w := w) id 0 g hG'
      rw [h3] at this
      exact this
  by_cases hbs : bs = []
  · have hcap0 : cap = 0 := by
      rcases Nat.eq_zero_or_pos cap with h | h
      · exact h
      · exact absurd hbs (h10 h).1
    subst hbs
    subst hcap0
    have hK := (h a0 ha0).1 rfl
    have hx : Nxt s.L G w (upd s.L id (some (.box tb [a0, .nils]))) G w := by
      refine ⟨G.le_refl, Same.refl _ _, ?_, rfl, rfl, rfl⟩
      rintro x _ ⟨i, b, gi, q1, q2, q3⟩
      by_cases e : i = id
      · subst e
        rw [upd_same] at q1
        obtain rfl := Option.some.inj q1
        obtain rfl := Option.some.inj (hG.symm.trans q2)
        exact ⟨i, _, g, hL, hG, .inl q3⟩
      · rw [upd_ne _ _ _ _ e] at q1
        exact ⟨i, b, gi, q1, q2, q3⟩
    refine ⟨_, G, hK, hg.later hx ?_, hx, hf⟩
    refine hg.hp.turn (· = id) hx hg.hp.fin (fun i b hl hni => by simpa only [upd_ne _ _ _ _ hni] using hl) (fun _ _ _ _ _ _ _ _ => rfl) (fun i b gi _ hni hgi => hgi) (fun i j hi hj => hi.trans hj.symm) (fun i b hl hi => ?_)
    subst hi
    simp only [upd_same, Option.some.injEq] at hl
    subst hl
    refine ⟨g, hG, ⟨c, tb, fr, h1, ⟨h2, rfl⟩, h3, by rw [h2]; exact h4, fun i x hx' => ?_⟩, fun x ho => ?_⟩
    · match i, hx' with
      | 0, hx' =>
        simp only [List.getElem?_cons_zero, Option.some.injEq] at hx'
        subst hx'
        exact hrep0 _ _ hG
      | 1, hx' =>
        simp only [List.getElem?_cons_succ, List.getElem?_cons_zero, Option.some.injEq] at hx'
        subst hx'
        rw [h6, (h9 rfl).2]
        exact .nils
    · have ho' : x = g.blk := ho
      have haw := hg.hp.away x ⟨i, _, g, hL, hG, .inl ho'⟩
      refine ⟨haw.1, haw.2, fun i2 b2 g2 hl2 hn2 hg2 ho2 => ?_⟩
      simp only [upd_ne _ _ _ _ hn2] at hl2
      exact hg.hp.apart i2 i b2 _ g2 g x hl2 hL hg2 hG hn2 ho2 (.inl ho')
  have hK := (h a0 ha0).2 hbs
  have hGid : upd G s.nx (some gv) id = some g := by rw [upd_ne _ _ _ _ hne]; exact hG
  have hGnx : upd G s.nx (some gv) s.nx = some gv := upd_same _ _ _
  have part : ∀ i b g', upd (upd s.L s.nx (some (Blk.vec ty 1 (bytesV bs)))) id (some (Blk.box tb [a0, .own s.nx 1 0 bs.length])) i = some b → upd G s.nx (some gv) i = some g' →
      (i = id ∧ b = .box tb [a0, .own s.nx 1 0 bs.length] ∧ g' = g) ∨ (i = s.nx ∧ b = .vec ty 1 (bytesV bs) ∧ g' = gv) ∨ (i ≠ id ∧ i ≠ s.nx ∧ s.L i = some b ∧ G i = some g') := fun i b g' hb hg' => by
    by_cases e1 : i = id
    · subst e1
      rw [upd_same] at hb
      rw [hGid] at hg'
      exact .inl ⟨rfl, (Option.some.inj hb).symm, (Option.some.inj hg').symm⟩
    · rw [upd_ne _ _ _ _ e1] at hb
      by_cases e2 : i = s.nx
      · subst e2
        rw [upd_same] at hb hg'
        exact .inr (.inl ⟨rfl, (Option.some.inj hb).symm, (Option.some.inj hg').symm⟩)
      · rw [upd_ne _ _ _ _ e2] at hb hg'
        exact .inr (.inr ⟨e1, e2, hb, hg'⟩)
  have occ : ∀ i b g' x, upd (upd s.L s.nx (some (Blk.vec ty 1 (bytesV bs)))) id (some (Blk.box tb [a0, .own s.nx 1 0 bs.length])) i = some b → upd G s.nx (some gv) i = some g' → Occ g' b x →
      (i = id ∧ x = g.blk) ∨ (i = s.nx ∧ 0 < cap ∧ x = g.aux) ∨ (i ≠ id ∧ i ≠ s.nx ∧ s.L i = some b ∧ G i = some g' ∧ Occ g' b x) := fun i b g' x hb hg' ho => by
    rcases part i b g' hb hg' with ⟨e1, e2, e3⟩ | ⟨e1, e2, e3⟩ | ⟨e1, e2, e3, e4⟩
    · subst e2 e3; exact .inl ⟨e1, ho⟩
    · subst e2 e3; exact .inr (.inl ⟨e1, ho.1, ho.2⟩)
    · exact .inr (.inr ⟨e1, e2, e3, e4, ho⟩)
  have own : ∀ x, Own (upd (upd s.L s.nx (some (Blk.vec ty 1 (bytesV bs)))) id (some (Blk.box tb [a0, .own s.nx 1 0 bs.length]))) (upd G s.nx (some gv)) x → Own s.L G x := by
    rintro x ⟨i, b, g', q1, q2, q3⟩
    rcases occ i b g' x q1 q2 q3 with ⟨_, e⟩ | ⟨_, _, e⟩ | ⟨_, _, e1, e2, e3⟩
    · exact ⟨id, _, g, hL, hG, .inl e⟩
    · exact ⟨id, _, g, hL, hG, .inr e⟩
    · exact ⟨i, b, g', e1, e2, e3⟩
  have hx : Nxt s.L G w (upd (upd s.L s.nx (some (Blk.vec ty 1 (bytesV bs)))) id (some (Blk.box tb [a0, .own s.nx 1 0 bs.length]))) (upd G s.nx (some gv)) w :=
    ⟨upd_le hnx gv, Same.refl _ _, fun x _ => own x, rfl, rfl, rfl⟩
  have hfin : ∀ i, s.nx + 1 ≤ i → upd G s.nx (some gv) i = none := fun i hi => by rw [upd_ne _ _ _ _ (by omega)]; exact hf i (by omega)
  refine ⟨_, upd G s.nx (some gv), hK, ⟨hg.size, hg.defers, fun i => hx.rep (hg.env i), ⟨fun i hi => hfin i (by simp only at hi; omega), fun i b hb => ?_, fun i i' b b' g1 g2 x hb hb' hg1 hg2 hii ho ho' => ?_, fun x ho => hg.hp.away x (own x ho), hg.hp.dlt⟩⟩, hx, hfin⟩
  · by_cases e1 : i = id
    · subst e1
      simp only [upd_same, Option.some.injEq] at hb
      subst hb
      refine ⟨g, hGid, c, tb, fr, h1, ⟨h2, rfl⟩, h3, by rw [h2]; exact h4, fun i x hx' => ?_⟩
      match i, hx' with
      | 0, hx' =>
        simp only [List.getElem?_cons_zero, Option.some.injEq] at hx'
        subst hx'
        exact hrep0 _ _ hGid
      | 1, hx' =>
        simp only [List.getElem?_cons_succ, List.getElem?_cons_zero, Option.some.injEq] at hx'
        subst hx'
        rw [h6]
        exact .own _ 1 0 _ gv ad cap hGnx rfl h7 rfl h8 (fun hc => by rw [(h10 hc).2.1]; simp [gv])
    · simp only [upd_ne _ _ _ _ e1] at hb
      by_cases e2 : i = s.nx
      · subst e2
        simp only [upd_same, Option.some.injEq] at hb
        subst hb
        refine ⟨gv, hGnx, rfl, by simpa [bytesV] using h7, h8, fun e he => ?_, fun hc => ?_⟩
        · simp only [bytesV, List.mem_map] at he
          obtain ⟨b, _, rfl⟩ := he
          rfl
        · obtain ⟨_, k1, k2, cb, fb, k3, k4, k5, k6⟩ := h10 hc
          refine ⟨cb, ty, fb, k3, ⟨by show o + cap * 1 ≤ cb.size; omega, rfl⟩, by show Open fb o (cap * 1); rw [Nat.mul_one]; exact k5, fun i j x hx' => ?_⟩
          obtain ⟨b, hb, rfl, rfl⟩ := bytesV_get hx'
          have := k6 i b hb
          have e : gv.off + i * 1 + 0 = o + i := by show o + i * 1 + 0 = o + i; omega
          rw [e, this]
          exact .int _ _
      · simp only [upd_ne _ _ _ _ e2] at hb
        obtain ⟨g', q1, q2⟩ := hg.hp.blk i b hb
        exact ⟨g', by rw [upd_ne _ _ _ _ e2]; exact q1, q2.keep hx fun _ _ => rfl⟩
  · rcases occ i b g1 x hb hg1 ho with ⟨e1, e2⟩ | ⟨e1, e2, e3⟩ | ⟨e1, e2, e3, e4, e5⟩ <;> rcases occ i' b' g2 x hb' hg2 ho' with ⟨d1, d2⟩ | ⟨d1, d2, d3⟩ | ⟨d1, d2, d3, d4, d5⟩
    · exact hii (e1.trans d1.symm)
    · exact (h10 d2).2.2.1 (d3.symm.trans e2)
    · exact hg.hp.apart id i' _ b' g g2 x hL d3 hG d4 (Ne.symm d1) (.inl e2) d5
    · exact (h10 e2).2.2.1 (e3.symm.trans d2)
    · exact hii (e1.trans d1.symm)
    · exact hg.hp.apart id i' _ b' g g2 x hL d3 hG d4 (Ne.symm d1) (.inr e3) d5
    · exact hg.hp.apart i id b _ g1 g x e3 hL e4 hG e1 e5 (.inl d2)
    · exact hg.hp.apart i id b _ g1 g x e3 hL e4 hG e1 e5 (.inr d3)
    · exact hg.hp.apart i i' b b' g1 g2 x e3 d3 e4 d4 hii e5 d5

theorem cell0_spec {D' : Nat → Prop} {G' : Ghost} {id : Nat} {g : GB} {x : V} {v : Value} (hG : G' id = some g) (h0 : g.off = 0) (ha : x = .nilp ∨ x = .ptr id 0) (h : Rep G' D' w x v) : v = .pointer none ∨ v = .pointer (some ⟨g.blk, 0, none⟩) := by
  rcases ha with rfl | rfl
  · cases h; exact .inl rfl
  · obtain ⟨g', q1, q2⟩ := rep_ptr h
    obtain rfl : g = g' := Option.some.inj (hG.symm.trans q1)
    rw [h0] at q2
    exact .inr q2

/-- the second block of a binding turns -/
theorem upd_le_aux {G : Ghost} {id : Nat} {g : GB} (h : G id = some g) (x : Nat) : G.le (upd G id (some { g with aux := x })) := fun i g' hi => by
  by_cases e : i = id
  · subst e
    obtain rfl : g = g' := Option.some.inj (h.symm.trans hi)
    exact ⟨x, upd_same _ _ _⟩
  · exact ⟨g'.aux, by rw [upd_ne _ _ _ _ e]; exact hi⟩

theorem bclose_nil {d id tb ty : Nat} {a0 : V} (hd : s.env d = .ptr id 0) (hL : s.L id = some (.box tb [a0, .nils])) (ha : a0 = .nilp ∨ a0 = .ptr id 0)
    (h : K ⟨s.env, upd s.L id (some (.bld tb ty [])), s.nx⟩) (hg : Good D n s G a w) (hf : ∀ i, s.nx ≤ i → G i = none) :
    ∃ s' G', K s' ∧ Good D n s' G' a w ∧ Nxt s.L G w s'.L G' w ∧ ∀ i, s'.nx ≤ i → G' i = none := by
  obtain ⟨g, hG, c, tb', fr, h1, ⟨h2, htb⟩, h3, h4, h5⟩ := hg.hp.blk _ _ hL
  rw [htb] at h1
  have hlt : id < s.nx := by
    rcases Nat.lt_or_ge id s.nx with h | h
    · exact h
    · rw [hf id h] at hG; cases hG
  let g' : GB := { g with aux := g.blk }
  have hx : Nxt s.L G w (upd s.L id (some (.bld tb ty []))) (upd G id (some g')) w := by
    refine ⟨upd_le_aux hG _, Same.refl _ _, ?_, rfl, rfl, rfl⟩
    rintro x _ ⟨i, b, gi, q1, q2, q3⟩
    by_cases e : i = id
    · subst e
      rw [upd_same] at q1 q2
      obtain rfl := Option.some.inj q1
      obtain rfl := Option.some.inj q2
      refine ⟨i, _, g, hL, hG, ?_⟩
      rcases q3 with q3 | q3 <;> exact q3
    · rw [upd_ne _ _ _ _ e] at q1 q2
      exact ⟨i, b, gi, q1, q2, q3⟩
  have hfin : ∀ i, s.nx ≤ i → upd G id (some g') i = none := fun i hi => by rw [upd_ne _ _ _ _ (by omega)]; exact hf i hi
  have hsz : c.size = 2 := by simpa using h2
  refine ⟨_, upd G id (some g'), h, hg.later hx ?_, hx, hfin⟩
  refine hg.hp.turn (· = id) hx (fun i hi => hfin i (by simp only at hi; omega)) (fun i b hl hni => by simpa only [upd_ne _ _ _ _ hni] using hl) (fun _ _ _ _ _ _ _ _ => rfl) (fun i b gi _ hni hgi => by rw [upd_ne _ _ _ _ hni]; exact hgi) (fun i j hi hj => hi.trans hj.symm) (fun i b hl hi => ?_)
  subst hi
  simp only [upd_same, Option.some.injEq] at hl
  subst hl
  refine ⟨g', upd_same _ _ _, ⟨c, fr, 0, 0, none, h1, hsz, h3, by rw [← hsz]; exact h4, cell0_spec (g := g) hG h3 ha (h5 0 a0 rfl), ?_, Nat.le_refl _, Nat.two_pow_pos 63, fun _ => ⟨rfl, rfl⟩, fun h => absurd h (Nat.lt_irrefl _)⟩, fun x ho => ?_⟩
  · have := h5 1 .nils rfl
    exact rep_nils this
  · have ho' : x = g.blk := by rcases ho with ho | ho <;> exact ho
    have haw := hg.hp.away x ⟨i, _, g, hL, hG, ho'⟩
    refine ⟨haw.1, haw.2, fun i2 b2 g2 hl2 hn2 hg2 ho2 => ?_⟩
    simp only [upd_ne _ _ _ _ hn2] at hl2
    exact hg.hp.apart i2 i b2 _ g2 g x hl2 hL hg2 hG hn2 ho2 ho'

theorem bclose_own {d id tb ty m sz len : Nat} {a0 : V} {es : List V} {bs : List UInt8} (hd : s.env d = .ptr id 0) (hL : s.L id = some (.box tb [a0, .own m 1 0 len])) (ha : a0 = .nilp ∨ a0 = .ptr id 0) (hne : m ≠ id) (hpos : 0 < len) (hm : s.L m = some (.vec ty sz es)) (hlen : len ≤ es.length)
    (hbs : es.take len = bytesV bs) (h : K ⟨s.env, upd (upd s.L m none) id (some (.bld tb ty bs)), s.nx⟩) (hg : Good D n s G a w) (hf : ∀ i, s.nx ≤ i → G i = none) :
    ∃ s' G', K s' ∧ Good D n s' G' a w ∧ Nxt s.L G w s'.L G' w ∧ ∀ i, s'.nx ≤ i → G' i = none := by
  obtain ⟨g, hG, c, tb', fr, h1, ⟨h2, htb⟩, h3, h4, h5⟩ := hg.hp.blk _ _ hL
  rw [htb] at h1
  obtain ⟨gm, hGm, m1, m2, m3, m4, m5⟩ := hg.hp.blk _ _ hm
  have hlt : id < s.nx := by
    rcases Nat.lt_or_ge id s.nx with h | h
    · exact h
    · rw [hf id h] at hG; cases hG
  have hsz : c.size = 2 := by simpa using h2
  obtain ⟨g2, ad, cap, r0, r1, r2, r3, r4, r5, r6⟩ := rep_own (h5 1 (.own m 1 0 len) rfl)
  obtain rfl : gm = g2 := Option.some.inj (hGm.symm.trans r1)
  have hcap : cap = gm.cap := by omega
  subst hcap
  have hz1 : sz = 1 := m1.symm.trans r2
  subst hz1
  have hbl : bs.length = len := by
    have := congrArg List.length hbs
    simp [bytesV] at this
    omega
  let g' : GB := { g with aux := if 0 < gm.cap then gm.blk else g.blk }
  have occ : ∀ x, Occ g' (.bld tb ty bs) x → x = g.blk ∨ (0 < gm.cap ∧ x = gm.blk) := fun x ho => by
    rcases ho with ho | ho
    · exact .inl ho
    · simp only [g'] at ho
      split at ho
      · rename_i hc; exact .inr ⟨hc, ho⟩
      · exact .inl ho
  have hx : Nxt s.L G w (upd (upd s.L m none) id (some (.bld tb ty bs))) (upd G id (some g')) w := by
    refine ⟨upd_le_aux hG _, Same.refl _ _, ?_, rfl, rfl, rfl⟩
    rintro x _ ⟨i, b, gi, q1, q2, q3⟩
    by_cases e : i = id
    · subst e
      rw [upd_same] at q1 q2
      obtain rfl := Option.some.inj q1
      obtain rfl := Option.some.inj q2
      rcases occ x q3 with q3 | q3
      · exact ⟨i, _, g, hL, hG, q3⟩
      · exact ⟨m, _, gm, hm, hGm, q3⟩
    · rw [upd_ne _ _ _ _ e] at q1 q2
      by_cases e2 : i = m
      · subst e2; rw [upd_same] at q1; cases q1
      · rw [upd_ne _ _ _ _ e2] at q1
        exact ⟨i, b, gi, q1, q2, q3⟩
  have hfin : ∀ i, s.nx ≤ i → upd G id (some g') i = none := fun i hi => by rw [upd_ne _ _ _ _ (by omega)]; exact hf i hi
  have hLi : ∀ i b, i ≠ id → upd (upd s.L m none) id (some (Blk.bld tb ty bs)) i = some b → s.L i = some b ∧ i ≠ m := fun i b hni hl => by
    rw [upd_ne _ _ _ _ hni] at hl
    by_cases e2 : i = m
    · subst e2; rw [upd_same] at hl; cases hl
    · rw [upd_ne _ _ _ _ e2] at hl; exact ⟨hl, e2⟩
  refine ⟨_, upd G id (some g'), h, hg.later hx ?_, hx, hfin⟩
  refine hg.hp.turn (· = id) hx (fun i hi => hfin i (by simp only at hi; omega)) (fun i b hl hni => (hLi i b hni hl).1) (fun _ _ _ _ _ _ _ _ => rfl) (fun i b gi _ hni hgi => by rw [upd_ne _ _ _ _ hni]; exact hgi) (fun i j hi hj => hi.trans hj.symm) (fun i b hl hi => ?_)
  subst hi
  simp only [upd_same, Option.some.injEq] at hl
  subst hl
  refine ⟨g', upd_same _ _ _, ⟨c, fr, gm.cap, gm.off, ad, h1, hsz, h3, by rw [← hsz]; exact h4, cell0_spec (g := g) hG h3 ha (h5 0 a0 rfl), ?_, by omega, m3, fun hc => ?_, fun hc => ?_⟩, fun x ho => ?_⟩
  · rw [hbl]; exact r0
  · omega
  · obtain ⟨c', ty', fr', k2, k3, k4, k5⟩ := m5 hc
    have haux : g'.aux = gm.blk := by simp only [g', hc, if_true]
    rw [haux]
    refine ⟨fun e => by rw [e] at hbl; simp at hbl; omega, by rw [r6 hc]; simp, fun e => ?_, c', fr', by rw [k2, k3.2], by have := k3.1; omega, by have := k4; rwa [Nat.mul_one] at this, fun i x hi => ?_⟩
    · exact hg.hp.apart m i _ _ gm g gm.blk hm hL hGm hG hne ⟨hc, rfl⟩ e
    · have hi2 : i < len := by
        have := (List.getElem?_eq_some_iff.1 hi).1
        omega
      have he : es[i]? = some (.int .u8 x.toNat) := by
        have e1 : (es.take len)[i]? = es[i]? := List.getElem?_take_of_lt hi2
        rw [← e1, hbs]
        simp [bytesV, hi]
      have := k5 i 0 (.int .u8 x.toNat) (by rw [he]; rfl)
      have e : gm.off + i * 1 + 0 = gm.off + i := by omega
      rw [e] at this
      exact rep_int this
  · rcases occ x ho with ho | ho
    · have haw := hg.hp.away x ⟨i, _, g, hL, hG, ho⟩
      refine ⟨haw.1, haw.2, fun i2 b2 g2 hl2 hn2 hg2 ho2 => ?_⟩
      exact hg.hp.apart i2 i b2 _ g2 g x (hLi i2 b2 hn2 hl2).1 hL hg2 hG hn2 ho2 ho
    · have haw := hg.hp.away x ⟨m, _, gm, hm, hGm, ho⟩
      refine ⟨haw.1, haw.2, fun i2 b2 g2 hl2 hn2 hg2 ho2 => ?_⟩
      exact hg.hp.apart i2 m b2 _ g2 gm x (hLi i2 b2 hn2 hl2).1 hm hg2 hGm (hLi i2 b2 hn2 hl2).2 ho2 ho

end
end Go.Ab
