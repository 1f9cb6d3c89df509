/- A region whose order is open comes to what it comes to in the text's order. No condition. -/
import Derived.Test.YtbipjhcnooellaaAbQ
namespace Go.Ab
open Go.RowKit
set_option linter.unusedVariables false
set_option linter.unusedSimpArgs false

theorem rank_le (i : I) : i.rank ≤ 4 := by cases i <;> simp [I.rank] <;> split <;> omega

instance : Inhabited GI := ⟨⟨none, .alloc 0 0 []⟩⟩

section
variable {P : Program} {x y : GI} {s : St} {F F' : Nat → Prop} {K K1 : St → Prop}

def GLoc (P : Program) (x : GI) (s : St) (F' : Nat → Prop) (K1 : St → Prop) : Prop :=
  ∃ δ v, K1 (s.chg δ x.i.dst v) ∧ (∀ s2, (∀ t, t ∈ x.reads → s2.env t = s.env t) → Agree x.i s s2 → ∀ K2 : St → Prop, K2 (s2.chg δ x.i.dst v) → gstep P x s2 K2) ∧ SFit F' (s.chg δ x.i.dst v) ∧
    (x.i.rank ≤ 1 → δ = []) ∧ (x.i.rank = 2 → δ = [] ∨ ∃ d b, x.i.mk = some d ∧ δ = [(s.nx + d, b)])

theorem gloc (hr4 : x.i.rank ≠ 4) (hc : x.i.constOk = true) (hf : SFit F s) (hF : ∀ id, F id → F' id) (hmk : ∀ d, x.i.mk = some d → F' (s.nx + d)) (h : gstep P x s K1) : GLoc P x s F' K1 := by
  obtain ⟨g, i⟩ := x
  cases g with
  | none =>
    obtain ⟨δ, v, h1, h2, h3, h4, h5⟩ := loc hr4 hc hf hF hmk h
    exact ⟨δ, v, h1, fun s2 _ ag K2 hk => h2 s2 ag K2 hk, h3, h4, fun hr => .inr (h5 hr)⟩
  | some tw =>
    obtain ⟨t, w⟩ := tw
    have ht : ∀ s2 : St, (∀ u, u ∈ (⟨some (t, w), i⟩ : GI).reads → s2.env u = s.env u) → s2.env t = s.env t := fun s2 h => h t (by simp [GI.reads])
    have skip : K1 (s.setO i.dst (.tup [])) → (∀ s2 : St, s2.env t = s.env t → ∀ K2 : St → Prop, K2 (s2.setO i.dst (.tup [])) → gstep P ⟨some (t, w), i⟩ s2 K2) → GLoc P ⟨some (t, w), i⟩ s F' K1 := fun h1 h2 =>
      ⟨[], .tup [], by rw [chg_nil]; exact h1, fun s2 he _ K2 hk => h2 s2 (ht s2 he) K2 (by rwa [chg_nil] at hk), sfit_chg hf hF (by simp [V.fit, V.fits]) (by simp), fun _ => rfl, fun _ => .inl rfl⟩
    simp only [gstep] at h
    split at h
    · rename_i b hb
      split at h
      · rename_i hbw
        obtain ⟨δ, v, h1, h2, h3, h4, h5⟩ := loc hr4 hc hf hF hmk h
        refine ⟨δ, v, h1, fun s2 he ag K2 hk => ?_, h3, h4, fun hr => .inr (h5 hr)⟩
        simp only [gstep, ht s2 he, hb, hbw, if_true]
        exact h2 s2 ag K2 hk
      · rename_i hbw
        exact skip h fun s2 he K2 hk => by simp only [gstep, he, hb, hbw, if_false]; exact hk
    · rename_i hb
      exact skip h fun s2 he K2 hk => by simp only [gstep, he, hb]; exact hk
    · exact h.elim

theorem disj_spec {a b : List Nat} (h : disj a b = true) {t : Nat} (ha : t ∈ a) : t ∉ b := by
  simp only [disj, List.all_eq_true] at h
  have := h t ha
  simpa using this

theorem setEO_ne {e : Nat → V} {d : Option Nat} {v : V} {t : Nat} (h : ∀ k, d = some k → k ≠ t) : setEO e d v t = e t := by
  cases d with
  | none => rfl
  | some k => simp only [setEO]; exact upd_ne _ _ _ _ fun hh => h k rfl hh.symm

theorem setEO_comm {e : Nat → V} {d d' : Option Nat} {v v' : V} (h : ∀ k, d = some k → d' ≠ some k) : setEO (setEO e d v) d' v' = setEO (setEO e d' v') d v := by
  cases d with
  | none => rfl
  | some k =>
    cases d' with
    | none => rfl
    | some k' =>
      have hne : k ≠ k' := fun hh => h k rfl (by rw [hh])
      funext t
      simp only [setEO, upd]
      by_cases h1 : t = k'
      · subst h1
        have : t ≠ k := fun hh => hne hh.symm
        simp [this]
      · simp [h1]

theorem upd_comm {α : Type} (f : Nat → α) {i j : Nat} (u v : α) (h : i ≠ j) : upd (upd f i u) j v = upd (upd f j v) i u := by
  funext t
  simp only [upd]
  by_cases h1 : t = j
  · subst h1
    have : t ≠ i := fun hh => h hh.symm
    simp [this]
  · simp [h1]

theorem gcommute (hx4 : x.i.rank ≠ 4) (hy4 : y.i.rank ≠ 4) (hx : x.i.constOk = true) (hy : y.i.constOk = true) (hind : x.indep y = true) (hf : SFit F s) (hnx : ∀ d, x.i.mk = some d → ¬ F (s.nx + d)) (hny : ∀ d, y.i.mk = some d → ¬ F (s.nx + d))
    (hne : ∀ d, x.i.mk = some d → y.i.mk ≠ some d) (h : gstep P x s (fun s1 => gstep P y s1 K)) : gstep P y s (fun s2 => gstep P x s2 K) := by
  simp only [GI.indep, Bool.and_eq_true, Bool.not_eq_true', Bool.and_eq_false_iff, decide_eq_false_iff_not, Decidable.not_not] at hind
  obtain ⟨⟨⟨⟨⟨⟨i1, i2⟩, i3⟩, i4⟩, i5⟩, _⟩, _⟩ := hind
  obtain ⟨δx, vx, hK, hx2, hfit1, hd1, hd2⟩ := gloc (F' := fun id => F id ∨ ∃ d, x.i.mk = some d ∧ id = s.nx + d) hx4 hx hf (fun id h => .inl h) (fun d hd => .inr ⟨d, hd, rfl⟩) h
  obtain ⟨δy, vy, hK', hy2, _, hd3, hd4⟩ := gloc (F' := fun _ => True) hy4 hy hfit1 (fun _ _ => trivial) (fun _ _ => trivial) hK
  have dxt : ∀ t, t ∈ y.reads → ∀ k, x.i.dst = some k → k ≠ t := fun t ht k hk e => by
    subst e
    exact disj_spec i1 (by simp [hk]) ht
  have dyt : ∀ t, t ∈ x.reads → ∀ k, y.i.dst = some k → k ≠ t := fun t ht k hk e => by
    subst e
    exact disj_spec i2 (by simp [hk]) ht
  have dxy : ∀ k, x.i.dst = some k → y.i.dst ≠ some k := fun k hk hk' => disj_spec i3 (t := k) (by simp [hk]) (by simp [hk'])
  have rd : ∀ z : GI, ∀ t, t ∈ z.i.reads → t ∈ z.reads := fun z t ht => by simp [GI.reads, ht]
  have evs : ∀ (z : GI) (s1 s2 : St), (∀ t, t ∈ z.reads → s1.env t = s2.env t) → ∀ q, q ∈ z.i.srcs → s1.ev q = s2.ev q := fun z s1 s2 he q hq => by
    cases q with
    | k v => rfl
    | t m => exact he m (rd z m (List.mem_flatMap.2 ⟨.t m, hq, by simp [srcT]⟩))
  have consts : ∀ z : GI, z.i.constOk = true → ∀ q, q ∈ z.i.srcs → (s.ev q).fit F := fun z hz q hq => ev_fit hf (by
    simp only [I.constOk, Bool.and_eq_true] at hz
    exact List.all_eq_true.1 hz.1 q hq)
  have e1 : ∀ t, t ∈ y.reads → s.env t = (s.chg δx x.i.dst vx).env t := fun t ht => (setEO_ne (dxt t ht)).symm
  have e2 : ∀ t, t ∈ x.reads → (s.chg δy y.i.dst vy).env t = s.env t := fun t ht => setEO_ne (dyt t ht)
  have xr : x.i.rank ≤ 3 := by have := rank_le x.i; omega
  have yr : y.i.rank ≤ 3 := by have := rank_le y.i; omega
  -- what x changed among the blocks that were there
  have Lx : x.i.rank ≠ 3 → ∀ id, F id → (s.chg δx x.i.dst vx).L id = s.L id := fun hr id hid => by
    rcases Nat.lt_or_ge x.i.rank 2 with h | h
    · rw [hd1 (by omega)]; rfl
    · rcases hd2 (by omega) with h | ⟨d, b, h1, h2⟩
      · rw [h]; rfl
      · rw [h2]
        exact upd_ne _ _ _ _ fun e => by subst e; exact hnx d h1 hid
  have Ly : y.i.rank ≠ 3 → ∀ id, F id → (s.chg δy y.i.dst vy).L id = s.L id := fun hr id hid => by
    rcases Nat.lt_or_ge y.i.rank 2 with h | h
    · rw [hd3 (by omega)]; rfl
    · rcases hd4 (by omega) with h | ⟨d, b, h1, h2⟩
      · rw [h]; rfl
      · rw [h2]
        refine upd_ne _ _ _ _ fun e => ?_
        subst e
        exact hny d h1 hid
  have a1 : Agree y.i (s.chg δx x.i.dst vx) s := by
    refine ⟨fun t ht => e1 t (rd y t ht), fun _ => rfl, ?_⟩
    by_cases h0 : y.i.rank = 0
    · exact .inl h0
    by_cases h2 : y.i.rank = 2
    · exact .inr (.inl h2)
    by_cases h1 : y.i.rank = 1
    · have hx3 : x.i.rank ≠ 3 := fun hh => by rcases i4 with h | h <;> omega
      refine .inr (.inr (.inl ⟨h1, F, fun q hq => ?_, fun id b hid hb => ?_, fun id hid => (Lx hx3 id hid).symm⟩))
      · rw [← evs y s _ e1 q hq]; exact consts y hy q hq
      · rw [Lx hx3 id hid] at hb; exact (hf.blk id b hb).2
    · have hx0 : x.i.rank = 0 := by rcases i5 with h | h <;> omega
      refine .inr (.inr (.inr ?_))
      rw [hd1 (by omega)]; rfl
  have a2 : Agree x.i s (s.chg δy y.i.dst vy) := by
    refine ⟨fun t ht => e2 t (rd x t ht), fun _ => rfl, ?_⟩
    by_cases h0 : x.i.rank = 0
    · exact .inl h0
    by_cases h2 : x.i.rank = 2
    · exact .inr (.inl h2)
    by_cases h1 : x.i.rank = 1
    · have hy3 : y.i.rank ≠ 3 := fun hh => by rcases i5 with h | h <;> omega
      exact .inr (.inr (.inl ⟨h1, F, fun q hq => consts x hx q hq, fun id b hid hb => (hf.blk id b hb).2, fun id hid => Ly hy3 id hid⟩))
    · have hy0 : y.i.rank = 0 := by rcases i4 with h | h <;> omega
      refine .inr (.inr (.inr ?_))
      rw [hd3 (by omega)]; rfl
  refine hy2 s e1 a1 _ (hx2 _ e2 a2 _ ?_)
  have heq : (s.chg δy y.i.dst vy).chg δx x.i.dst vx = (s.chg δx x.i.dst vx).chg δy y.i.dst vy := by
    have hL : updL (updL s.L δy) δx = updL (updL s.L δx) δy := by
      by_cases h1 : δx = []
      · subst h1; rfl
      by_cases h2 : δy = []
      · subst h2; rfl
      have hx1 : ¬ x.i.rank ≤ 1 := fun h => h1 (hd1 h)
      have hy1 : ¬ y.i.rank ≤ 1 := fun h => h2 (hd3 h)
      have hx3 : x.i.rank = 2 := by
        rcases i4 with h | h <;> omega
      have hy3 : y.i.rank = 2 := by
        rcases i5 with h | h <;> omega
      rcases hd2 hx3 with h | ⟨d, b, k1, k2⟩
      · exact absurd h h1
      rcases hd4 hy3 with h | ⟨d', b', k3, k4⟩
      · exact absurd h h2
      rw [k2, k4]
      simp only [updL]
      refine (upd_comm _ _ _ ?_)
      intro e
      have e' : s.nx + d' = s.nx + d := e
      have : d' = d := by omega
      subst this
      exact hne d' k1 k3
    simp only [St.chg, hL, setEO_comm dxy]
  rw [heq]; exact hK'

/-- one operation goes ahead of others that are independent of it -/
theorem gjump3 : ∀ (xs : List GI) (s : St) (F : Nat → Prop) (z : GI) (r : List GI), (∀ x, x ∈ xs → x.i.constOk = true ∧ x.indep z = true) → z.i.constOk = true → (∀ x, x ∈ xs → x.i.rank ≠ 4) → z.i.rank ≠ 4 → SFit F s →
    (∀ x, x ∈ z :: xs → ∀ d, x.i.mk = some d → ¬ F (s.nx + d)) → (mks (z :: xs)).Nodup → aops P (xs ++ z :: r) s K → aops P (z :: (xs ++ r)) s K
  | [], s, F, z, r, _, _, _, _, _, _, _, h => h
  | x :: xs, s, F, z, r, hx, hz, hx4, hz4, hf, hn, hnd, h => by
    have hxm : ∀ d, x.i.mk = some d → ∀ y, y ∈ z :: xs → y.i.mk ≠ some d := by
      intro d hd y hy hyd
      simp only [mks, List.filterMap_cons] at hnd
      have hz' : ∀ y, y ∈ xs → y.i.mk = some d → d ∈ xs.filterMap fun x => x.i.mk := fun y hy hyd => List.mem_filterMap.2 ⟨y, hy, hyd⟩
      rcases List.mem_cons.1 hy with rfl | hy
      · rw [hyd, hd] at hnd
        simp at hnd
      · rw [hd] at hnd
        cases hzm : z.i.mk with
        | none => rw [hzm] at hnd; simp only [List.nodup_cons] at hnd; exact hnd.1 (hz' y hy hyd)
        | some m => rw [hzm] at hnd; simp only [List.nodup_cons] at hnd; exact hnd.2.1 (hz' y hy hyd)
    obtain ⟨δ, v, h1, h2, h3, _⟩ := gloc (F' := fun id => F id ∨ ∃ d, x.i.mk = some d ∧ id = s.nx + d) (hx4 x (by simp)) (hx x (by simp)).1 hf (fun id h => .inl h) (fun d hd => .inr ⟨d, hd, rfl⟩) h
    have hnd' : (mks (z :: xs)).Nodup := by
      simp only [mks, List.filterMap_cons] at hnd ⊢
      cases hxm' : x.i.mk with
      | none => rw [hxm'] at hnd; exact hnd
      | some m =>
        rw [hxm'] at hnd
        cases hzm : z.i.mk with
        | none => rw [hzm] at hnd; simp only [List.nodup_cons] at hnd ⊢; exact hnd.2
        | some k =>
          rw [hzm] at hnd
          simp only [List.nodup_cons, List.mem_cons, not_or] at hnd ⊢
          exact ⟨hnd.1.2, hnd.2.2⟩
    have ih := gjump3 xs (s.chg δ x.i.dst v) _ z r (fun y hy => hx y (by simp [hy])) hz (fun y hy => hx4 y (by simp [hy])) hz4 h3 (fun y hy d hd hF => by
      rcases hF with hF | ⟨d', hd', he⟩
      · refine hn y ?_ d hd hF
        rcases List.mem_cons.1 hy with rfl | hy
        · simp
        · simp [hy]
      · have : (s.chg δ x.i.dst v).nx = s.nx := rfl
        rw [this] at he
        have : d = d' := by omega
        subst this
        exact hxm d hd' y hy hd) hnd' h1
    have step : gstep P x s (fun s1 => gstep P z s1 fun s2 => aops P (xs ++ r) s2 K) := h2 s (fun _ _ => rfl) ⟨fun _ _ => rfl, fun _ => rfl, .inr (.inr (.inr rfl))⟩ _ ih
    exact gcommute (hx4 x (by simp)) hz4 (hx x (by simp)).1 hz (hx x (by simp)).2 hf (hn x (by simp)) (hn z (by simp)) (fun d hd => hxm d hd z (by simp)) step


mutual
theorem fit_true : ∀ (x : V), x.fit (fun _ => True)
  | .junk => by simp [V.fit]
  | .bool _ => by simp [V.fit]
  | .int _ _ => by simp [V.fit]
  | .str _ => by simp [V.fit]
  | .nilp => by simp [V.fit]
  | .nils => by simp [V.fit]
  | .ptr _ _ => by simp [V.fit]
  | .eptr _ _ _ => by simp [V.fit]
  | .cptr cs => by simp only [V.fit]; exact fits_true cs
  | .lst _ cs => by simp only [V.fit]; exact fits_true cs
  | .own _ _ _ _ => by simp [V.fit]
  | .agg cs => by simp only [V.fit]; exact fits_true cs
  | .tup cs => by simp only [V.fit]; exact fits_true cs
  | .fn _ cs => by simp only [V.fit]; exact fits_true cs
  | .map _ => by simp [V.fit]
  | .nilm => by simp [V.fit]
  | .raw _ => by simp [V.fit]
theorem fits_true : ∀ (l : List V), V.fits (fun _ => True) l
  | [] => by simp [V.fits]
  | x :: r => by simp only [V.fits]; exact ⟨fit_true x, fits_true r⟩
end

theorem sfit_true (s : St) : SFit (fun _ => True) s := ⟨fun t => fit_true _, fun id b _ => ⟨trivial, by cases b <;> simp only [Blk.fit] <;> exact fits_true _⟩⟩

/-- an operation that looks at no memory: its value depends on its operands -/
theorem val0 (hc : x.i.constOk = true) (hr : x.i.rank = 0) (h : gstep P x s K) : ∃ v, K (s.setO x.i.dst v) ∧ ∀ s2 : St, (∀ t, t ∈ x.reads → s2.env t = s.env t) → ∀ K2 : St → Prop, K2 (s2.setO x.i.dst v) → gstep P x s2 K2 := by
  obtain ⟨δ, v, h1, h2, _, h4, _⟩ := gloc (F := fun _ => True) (F' := fun _ => True) (by omega) hc (sfit_true s) (fun _ _ => trivial) (fun _ _ => trivial) h
  have e := h4 (by omega)
  subst e
  rw [chg_nil] at h1
  refine ⟨v, h1, fun s2 he K2 hk => h2 s2 he ⟨fun t ht => he t (by simp [GI.reads, ht]), fun hh => by omega, .inl hr⟩ K2 (by rw [chg_nil]; exact hk)⟩

theorem gstep_env {s : St} (h : gstep P x s K) (hK : ∀ s', K s' → (∀ t, x.i.dst ≠ some t → s'.env t = s.env t) → K1 s') : gstep P x s K1 := by
  have sk : K (s.setO x.i.dst (.tup [])) → K1 (s.setO x.i.dst (.tup [])) := fun h => hK _ h fun t ht => setO_env ht
  unfold gstep at *
  split
  · rename_i hg; simp only [hg] at h; exact istep_env h hK
  · rename_i t w hg
    simp only [hg] at h
    split at h
    · split
      · rename_i e; simp only [e, if_true] at h; exact istep_env h hK
      · rename_i e; simp only [e, if_false] at h; exact sk h
    · exact sk h
    · exact h.elim

theorem setO_comm {s : St} {d d' : Option Nat} {v v' : V} (h : ∀ k, d = some k → d' ≠ some k) : (s.setO d v).setO d' v' = (s.setO d' v').setO d v := by
  have e1 : ∀ (s : St) (d : Option Nat) (v : V), s.setO d v = ⟨setEO s.env d v, s.L, s.nx⟩ := fun s d v => by cases d <;> rfl
  simp only [e1]
  rw [setEO_comm h]

/-- a call does not mind a slot that it does not look at -/
theorem shift {zd : Option Nat} {v : V} (hr : x.i.rank = 4) (h1 : ∀ k, zd = some k → k ∉ x.reads) (h2 : ∀ k, x.i.dst = some k → zd ≠ some k) : gstep P x (s.setO zd v) K ↔ gstep P x s fun s' => K (s'.setO zd v) := by
  obtain ⟨g, i⟩ := x
  cases i <;> simp only [I.rank] at hr <;> try (first | omega | (split at hr <;> omega))
  case ecall d n f args =>
    have he : ∀ t, t ∈ (⟨g, .ecall d n f args⟩ : GI).reads → (s.setO zd v).env t = s.env t := fun t ht => setO_env fun e => h1 t e ht
    have hev : args.map (s.setO zd v).ev = args.map s.ev := List.map_congr_left fun q hq => by
      cases q with
      | k u => rfl
      | t m => exact he m (by
          simp only [GI.reads, I.reads, I.srcs]
          exact List.mem_append_left _ (List.mem_flatMap.2 ⟨.t m, hq, by simp [srcT]⟩))
    have hpost : ∀ r L' nx', ((⟨(s.setO zd v).env, L', nx'⟩ : St).setO d r) = ((⟨s.env, L', nx'⟩ : St).setO d r).setO zd v := fun r L' nx' => by
      have e : (⟨(s.setO zd v).env, L', nx'⟩ : St) = (⟨s.env, L', nx'⟩ : St).setO zd v := by cases zd <;> rfl
      rw [e]
      exact (setO_comm h2).symm
    have hrun : istep P (.ecall d n f args) (s.setO zd v) K ↔ istep P (.ecall d n f args) s fun s' => K (s'.setO zd v) := by
      simp only [istep, hev, setO_L, setO_nx, hpost]
    have h2' : ∀ k, d = some k → zd ≠ some k := h2
    have hsk : K ((s.setO zd v).setO d (.tup [])) ↔ K ((s.setO d (.tup [])).setO zd v) := by rw [setO_comm h2']
    cases g with
    | none => exact hrun
    | some tw =>
      obtain ⟨t, w⟩ := tw
      simp only [gstep, I.dst]
      rw [he t (by simp [GI.reads])]
      split
      · split
        · exact hrun
        · exact hsk
      · exact hsk
      · exact Iff.rfl

theorem indep_spec (h : x.indep y = true) : (∀ k, x.i.dst = some k → k ∉ y.reads) ∧ (∀ k, y.i.dst = some k → k ∉ x.reads) ∧ (∀ k, x.i.dst = some k → y.i.dst ≠ some k) ∧
    (3 ≤ x.i.rank → y.i.rank = 0) ∧ (3 ≤ y.i.rank → x.i.rank = 0) ∧ (x.i.rank = 4 → y.i.ang = false) ∧ (y.i.rank = 4 → x.i.ang = false) := by
  simp only [GI.indep, Bool.and_eq_true, Bool.not_eq_true', Bool.and_eq_false_iff, decide_eq_false_iff_not, Decidable.not_not] at h
  obtain ⟨⟨⟨⟨⟨⟨i1, i2⟩, i3⟩, i4⟩, i5⟩, i6⟩, i7⟩ := h
  refine ⟨fun k hk => disj_spec i1 (by simp [hk]), fun k hk => disj_spec i2 (by simp [hk]), fun k hk hk' => disj_spec i3 (t := k) (by simp [hk]) (by simp [hk']), fun h => ?_, fun h => ?_, fun h => ?_, fun h => ?_⟩
  · rcases i4 with h' | h' <;> omega
  · rcases i5 with h' | h' <;> omega
  · rcases i6 with h' | h'
    · exact absurd h h'
    · exact h'
  · rcases i7 with h' | h'
    · exact absurd h h'
    · exact h'

/-- what looks at no memory goes ahead of a call -/
theorem swap0 (hz : y.i.constOk = true) (hind : x.indep y = true) (hr : y.i.rank = 0) (ha : y.i.ang = false) (hx4 : x.i.rank = 4) (h : gstep P x s (fun s1 => gstep P y s1 K)) : gstep P y s (fun s2 => gstep P x s2 K) := by
  obtain ⟨i1, i2, i3, _⟩ := indep_spec hind
  have henv := gstep_env (K1 := fun s1 => gstep P y s1 K ∧ ∀ t, t ∈ y.reads → s1.env t = s.env t) h fun s' h he => ⟨h, fun t ht => he t fun e => i1 t e ht⟩
  obtain ⟨s1, h1, he1⟩ := gstep_ex henv
  obtain ⟨v, k1, k2⟩ := val0 hz hr h1
  have all : gstep P x s fun s1' => K (s1'.setO y.i.dst v) := gstep_mono henv fun s1' hh => by
    obtain ⟨m1, m2⟩ := hh
    have m3 : gstep P y s1' (fun s' => s' = s1'.setO y.i.dst v) := k2 s1' (fun t ht => (m2 t ht).trans (he1 t ht).symm) _ rfl
    obtain ⟨s', m4, m5⟩ := gstep_ex (gstep_and hr ha m1 m3)
    rw [m5] at m4; exact m4
  exact k2 s (fun t ht => (he1 t ht).symm) _ ((shift hx4 i2 i3).2 all)

/-- and a call goes ahead of it -/
theorem swapE (hx : x.i.constOk = true) (hind : x.indep y = true) (hr : x.i.rank = 0) (hy4 : y.i.rank = 4) (h : gstep P x s (fun s1 => gstep P y s1 K)) : gstep P y s (fun s2 => gstep P x s2 K) := by
  obtain ⟨i1, i2, i3, _⟩ := indep_spec hind
  obtain ⟨v, k1, k2⟩ := val0 hx hr h
  have h1 := (shift hy4 i1 (fun k hk hk' => i3 k hk' hk)).1 k1
  exact gstep_env h1 fun s' hk he => k2 s' (fun t ht => he t fun e => i2 t e ht) _ hk

theorem gjumpE : ∀ (xs : List GI) (s : St) (z : GI) (r : List GI), (∀ x, x ∈ xs → x.i.constOk = true ∧ x.indep z = true) → z.i.rank = 4 → aops P (xs ++ z :: r) s K → aops P (z :: (xs ++ r)) s K
  | [], s, z, r, _, _, h => h
  | x :: xs, s, z, r, hx, hz4, h => by
    have hi := (hx x (by simp)).2
    have step : gstep P x s (fun s1 => gstep P z s1 fun s2 => aops P (xs ++ r) s2 K) := gstep_mono h fun s1 h1 => gjumpE xs s1 z r (fun y hy => hx y (by simp [hy])) hz4 h1
    exact swapE (hx x (by simp)).1 hi ((indep_spec hi).2.2.2.2.1 (by omega)) hz4 step

theorem gjump0 : ∀ (xs : List GI) (s : St) (z : GI) (r : List GI), (∀ x, x ∈ xs → x.i.constOk = true ∧ x.indep z = true) → z.i.constOk = true → z.i.rank = 0 → aops P (xs ++ z :: r) s K → aops P (z :: (xs ++ r)) s K
  | [], s, z, r, _, _, _, h => h
  | x :: xs, s, z, r, hx, hz, hz0, h => by
    have hi := (hx x (by simp)).2
    have step : gstep P x s (fun s1 => gstep P z s1 fun s2 => aops P (xs ++ r) s2 K) := gstep_mono h fun s1 h1 => gjump0 xs s1 z r (fun y hy => hx y (by simp [hy])) hz hz0 h1
    by_cases hx4 : x.i.rank = 4
    · exact swap0 hz hi hz0 ((indep_spec hi).2.2.2.2.2.1 hx4) hx4 step
    · have key : gstep P z s (fun s2 => gstep P x s2 fun s3 => aops P (xs ++ r) s3 K) := by
        obtain ⟨i1, i2, i3, _⟩ := indep_spec hi
        obtain ⟨δ, v, h1, h2, _⟩ := gloc (F := fun _ => True) (F' := fun _ => True) hx4 (hx x (by simp)).1 (sfit_true s) (fun _ _ => trivial) (fun _ _ => trivial) step
        obtain ⟨u, k1, k2⟩ := val0 hz hz0 h1
        have e1 : ∀ t, t ∈ z.reads → s.env t = (s.chg δ x.i.dst v).env t := fun t ht => (setEO_ne fun k hk e => by subst e; exact i1 k hk ht).symm
        refine k2 s e1 _ (h2 _ (fun t ht => setO_env fun e => i2 t e ht) ⟨fun t ht => setO_env fun e => i2 t e (by simp [GI.reads, ht]), fun _ => setO_nx _ _ _, .inr (.inr (.inr (setO_L _ _ _)))⟩ _ ?_)
        have e2 : (s.setO z.i.dst u).chg δ x.i.dst v = (s.chg δ x.i.dst v).setO z.i.dst u := by
          have e1 : ∀ (s : St) (d : Option Nat) (v : V), s.setO d v = ⟨setEO s.env d v, s.L, s.nx⟩ := fun s d v => by cases d <;> rfl
          simp only [e1, St.chg]
          rw [setEO_comm i3]
        rw [e2]
        exact k1
      exact key

theorem gjump (xs : List GI) (s : St) (F : Nat → Prop) (z : GI) (r : List GI) (hx : ∀ x, x ∈ xs → x.i.constOk = true ∧ x.indep z = true) (hz : z.i.constOk = true) (hf : SFit F s)
    (hn : ∀ x, x ∈ z :: xs → ∀ d, x.i.mk = some d → ¬ F (s.nx + d)) (hnd : (mks (z :: xs)).Nodup) (h : aops P (xs ++ z :: r) s K) : aops P (z :: (xs ++ r)) s K := by
  by_cases h4 : z.i.rank = 4
  · exact gjumpE xs s z r hx h4 h
  by_cases h0 : z.i.rank = 0
  · exact gjump0 xs s z r hx hz h0 h
  · exact gjump3 xs s F z r hx hz (fun x hxm hx4 => h0 ((indep_spec (hx x hxm).2).2.2.2.1 (by omega))) h4 hf hn hnd h

end
end Go.Ab
