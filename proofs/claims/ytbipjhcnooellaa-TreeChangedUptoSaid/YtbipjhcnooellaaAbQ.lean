/- Each operation depends on what it looks at, and on nothing else. No condition. -/
import Derived.Test.YtbipjhcnooellaaAbP
namespace Go.Ab
open Go.RowKit
set_option linter.unusedVariables false
set_option linter.unusedSimpArgs false

theorem updL_fit {F F' : Nat → Prop} (hF : ∀ i, F i → F' i) : ∀ (δ : List (Nat × Option Blk)) (L : Heap), (∀ id b, L id = some b → F' id ∧ b.fit F') → (∀ p, p ∈ δ → ∀ b, p.2 = some b → F' p.1 ∧ b.fit F') → ∀ id b, updL L δ id = some b → F' id ∧ b.fit F'
  | [], L, h, _ => h
  | (i, x) :: r, L, h, hd => by
    refine updL_fit hF r (upd L i x) (fun id b hb => ?_) (fun p hp => hd p (by simp [hp]))
    by_cases e : id = i
    · subst e
      rw [upd_same] at hb
      exact hd (id, x) (by simp) b hb
    · rw [upd_ne _ _ _ _ e] at hb
      exact h id b hb

theorem blk_mono {F F' : Nat → Prop} (hF : ∀ i, F i → F' i) {b : Blk} (h : b.fit F) : b.fit F' := by
  cases b <;> simp only [Blk.fit] at h ⊢ <;> exact fits_mono hF h

theorem sfit_chg {F F' : Nat → Prop} {s : St} (h : SFit F s) (hF : ∀ i, F i → F' i) {δ : List (Nat × Option Blk)} {d : Option Nat} {v : V} (hv : v.fit F') (hd : ∀ p, p ∈ δ → ∀ b, p.2 = some b → F' p.1 ∧ b.fit F') : SFit F' (s.chg δ d v) := by
  refine ⟨fun t => ?_, updL_fit hF δ s.L (fun id b hb => ⟨hF _ (h.blk id b hb).1, blk_mono hF (h.blk id b hb).2⟩) hd⟩
  cases d with
  | none => exact fit_mono hF (h.env t)
  | some d =>
    simp only [St.chg, setEO, upd]
    split
    · exact hv
    · exact fit_mono hF (h.env t)

/-- two states that an operation cannot tell apart -/
structure Agree (i : I) (s s2 : St) : Prop where
  env : ∀ t, t ∈ i.reads → s2.env t = s.env t
  nx : 2 ≤ i.rank → s2.nx = s.nx
  L : i.rank = 0 ∨ i.rank = 2 ∨ (i.rank = 1 ∧ ∃ Fr, (∀ x, x ∈ i.srcs → (s.ev x).fit Fr) ∧ Closed Fr s ∧ ∀ id, Fr id → s2.L id = s.L id) ∨ s2.L = s.L

section
variable {P : Program} {i : I} {s : St} {F F' : Nat → Prop} {K1 : St → Prop}

def Loc (P : Program) (i : I) (s : St) (F' : Nat → Prop) (K1 : St → Prop) : Prop :=
  ∃ δ v, K1 (s.chg δ i.dst v) ∧ (∀ s2, Agree i s s2 → ∀ K2 : St → Prop, K2 (s2.chg δ i.dst v) → istep P i s2 K2) ∧ SFit F' (s.chg δ i.dst v) ∧ (i.rank ≤ 1 → δ = []) ∧ (i.rank = 2 → ∃ d b, i.mk = some d ∧ δ = [(s.nx + d, b)])

theorem loc_val (hf : SFit F s) (hF : ∀ i, F i → F' i) (hr : i.rank ≠ 2) {v : V} (h1 : K1 (s.setO i.dst v)) (hv : v.fit F) (h2 : ∀ s2, Agree i s s2 → ∀ K2 : St → Prop, K2 (s2.setO i.dst v) → istep P i s2 K2) : Loc P i s F' K1 :=
  ⟨[], v, by rw [chg_nil]; exact h1, fun s2 ag K2 hk => h2 s2 ag K2 (by rwa [chg_nil] at hk), sfit_chg hf hF (fit_mono hF hv) (by simp), fun _ => rfl, fun h => absurd h hr⟩

theorem ev_of {s2 : St} (ag : Agree i s s2) {x : Src} (hx : x ∈ i.srcs) : s2.ev x = s.ev x := by
  cases x with
  | k v => rfl
  | t n => exact ag.env n (List.mem_flatMap.2 ⟨.t n, hx, by simp [srcT]⟩)

theorem vint_val {op : BinOp} {k : IntKind} {a b : Int} {K : V → Prop} (h : vint op k a b K) : ∃ v : V, v.imm = true ∧ K v ∧ ∀ K' : V → Prop, K' v → vint op k a b K' := by
  cases op <;> simp only [vint] at h <;> first
    | exact ⟨_, rfl, h, fun K' h => h⟩
    | exact ⟨_, rfl, h.2, fun K' h' => ⟨h.1, h'⟩⟩
    | exact h.elim
theorem vstr_val {op : BinOp} {a b : List UInt8} {K : V → Prop} (h : vstr op a b K) : ∃ v : V, v.imm = true ∧ K v ∧ ∀ K' : V → Prop, K' v → vstr op a b K' := by
  cases op <;> simp only [vstr] at h <;> first
    | exact ⟨_, rfl, h, fun K' h => h⟩
    | exact ⟨_, rfl, h.2, fun K' h' => ⟨h.1, h'⟩⟩
    | exact h.elim
theorem vbin_val {op : BinOp} {x y : V} {K : V → Prop} (h : vbin op x y K) : ∃ v : V, v.imm = true ∧ K v ∧ ∀ K' : V → Prop, K' v → vbin op x y K' := by
  unfold vbin at h ⊢
  split at h
  · obtain ⟨v, h1, h2, h3⟩ := vint_val h.2
    exact ⟨v, h1, h2, fun K' hk => ⟨h.1, h3 K' hk⟩⟩
  · obtain ⟨v, h1, h2, h3⟩ := vstr_val h
    exact ⟨v, h1, h2, fun K' hk => h3 K' hk⟩
  · exact h.elim
theorem vun_val {op : UnOp} {x : V} {K : V → Prop} (h : vun op x K) : ∃ v : V, v.imm = true ∧ K v ∧ ∀ K' : V → Prop, K' v → vun op x K' := by
  unfold vun at h ⊢
  split at h
  · exact ⟨_, rfl, h, fun K' hk => hk⟩
  · exact ⟨_, rfl, h, fun K' hk => hk⟩
  · exact h.elim
theorem bound_val {o : Option V} {d : Nat} {K : Nat → Prop} (h : bound o d K) : ∃ k, K k ∧ ∀ K' : Nat → Prop, K' k → bound o d K' := by
  unfold bound at h ⊢
  split at h
  · exact ⟨_, h, fun K' hk => hk⟩
  · exact ⟨_, h.2, fun K' hk => ⟨h.1, hk⟩⟩
  · exact h.elim
theorem evO_of {s2 : St} (ag : Agree i s s2) {x : Option Src} (hx : ∀ y, x = some y → y ∈ i.srcs) : x.map s2.ev = x.map s.ev := by
  cases x with
  | none => rfl
  | some y => simp [ev_of ag (hx y rfl)]

theorem elems_val {sz : Nat} {y : V} {K : List V → Prop} (hf : SFit F s) (hy : y.fit F) (h : elemsOf sz s.L y K) : ∃ ys, V.fits F ys ∧ K ys ∧ ∀ K' : List V → Prop, K' ys → elemsOf sz s.L y K' := by
  unfold elemsOf at h ⊢
  split at h
  · exact ⟨[], by simp [V.fits], h, fun K' hk => hk⟩
  · exact ⟨_, by simpa only [V.fit] using hy, h.2, fun K' hk => ⟨h.1, hk⟩⟩
  · split at h
    · rename_i hL
      exact ⟨_, fits_take (fits_drop (hf.blk _ _ hL).2 _) _, h.2.2, fun K' hk => ⟨h.1, h.2.1, hk⟩⟩
    · exact h.elim
  · rename_i t
    refine ⟨_, ?_, h.2, fun K' hk => ⟨h.1, hk⟩⟩
    exact (fits_iff F _).2 fun x hx => by
      obtain ⟨b, _, rfl⟩ := List.mem_map.1 hx; simp [V.fit]
  · exact h.elim

theorem loc (hr4 : i.rank ≠ 4) (hc : i.constOk = true) (hf : SFit F s) (hF : ∀ id, F id → F' id) (hmk : ∀ d, i.mk = some d → F' (s.nx + d)) (h : istep P i s K1) : Loc P i s F' K1 := by
  have ev : ∀ {s2 : St}, Agree i s s2 → ∀ {x : Src}, x ∈ i.srcs → s2.ev x = s.ev x := fun ag _ hx => ev_of ag hx
  have fit : ∀ {x : Src}, x ∈ i.srcs → (s.ev x).fit F := fun {x} hx => ev_fit hf (by
    simp only [I.constOk, Bool.and_eq_true] at hc
    exact List.all_eq_true.1 hc.1 x hx)
  cases i with
  | ecall d n f args => exact absurd rfl hr4
  | mov d x =>
    refine loc_val hf hF (by simp [I.rank]) h (fit (by simp [I.srcs])) fun s2 ag K2 hk => ?_
    simp only [istep, ev ag (show x ∈ (I.mov d x).srcs by simp [I.srcs])]; exact hk
  | pick d c x y =>
    have e1 := fun (s2 : St) (ag : Agree _ s s2) => ev ag (show c ∈ (I.pick d c x y).srcs by simp [I.srcs])
    have e2 := fun (s2 : St) (ag : Agree _ s s2) => ev ag (show x ∈ (I.pick d c x y).srcs by simp [I.srcs])
    have e3 := fun (s2 : St) (ag : Agree _ s s2) => ev ag (show y ∈ (I.pick d c x y).srcs by simp [I.srcs])
    have f2 := fit (show x ∈ (I.pick d c x y).srcs by simp [I.srcs])
    have f3 := fit (show y ∈ (I.pick d c x y).srcs by simp [I.srcs])
    simp only [istep] at h
    split at h
    · rename_i t ht
      refine loc_val hf hF (by simp [I.rank]) h (by cases t <;> assumption) fun s2 ag K2 hk => ?_
      simp only [istep, e1 s2 ag, e2 s2 ag, e3 s2 ag, ht]; exact hk
    · exact h.elim
  | bin d op x y =>
    have e1 := fun (s2 : St) (ag : Agree _ s s2) => ev ag (show x ∈ (I.bin d op x y).srcs by simp [I.srcs])
    have e2 := fun (s2 : St) (ag : Agree _ s s2) => ev ag (show y ∈ (I.bin d op x y).srcs by simp [I.srcs])
    obtain ⟨v, h1, h2, h3⟩ := vbin_val (show vbin op (s.ev x) (s.ev y) (fun v => K1 (s.setO d v)) from h)
    exact loc_val hf hF (by simp [I.rank]) h2 (imm_fit F h1) fun s2 ag K2 hk => by simp only [istep, e1 s2 ag, e2 s2 ag]; exact h3 _ hk
  | eqA d neg ks x y =>
    have e1 := fun (s2 : St) (ag : Agree _ s s2) => ev ag (show x ∈ (I.eqA d neg ks x y).srcs by simp [I.srcs])
    have e2 := fun (s2 : St) (ag : Agree _ s s2) => ev ag (show y ∈ (I.eqA d neg ks x y).srcs by simp [I.srcs])
    simp only [istep] at h
    split at h
    · rename_i p q hp hq
      obtain ⟨t, h1, h2⟩ := h
      exact loc_val hf hF (by simp [I.rank]) h2 (by simp [V.fit]) fun s2 ag K2 hk => by simp only [istep, e1 s2 ag, e2 s2 ag, hp, hq]; exact ⟨t, h1, hk⟩
    · exact h.elim
  | eqB d neg x y =>
    have e1 := fun (s2 : St) (ag : Agree _ s s2) => ev ag (show x ∈ (I.eqB d neg x y).srcs by simp [I.srcs])
    have e2 := fun (s2 : St) (ag : Agree _ s s2) => ev ag (show y ∈ (I.eqB d neg x y).srcs by simp [I.srcs])
    simp only [istep] at h
    split at h
    · rename_i p q hp hq
      exact loc_val hf hF (by simp [I.rank]) h (by simp [V.fit]) fun s2 ag K2 hk => by simp only [istep, e1 s2 ag, e2 s2 ag, hp, hq]; exact hk
    · exact h.elim
  | isnil d neg kd x =>
    have e1 := fun (s2 : St) (ag : Agree _ s s2) => ev ag (show x ∈ (I.isnil d neg kd x).srcs by simp [I.srcs])
    simp only [istep] at h
    split at h <;> first
      | exact h.elim
      | (rename_i hx; exact loc_val hf hF (by simp [I.rank]) h (by simp [V.fit]) fun s2 ag K2 hk => by simp only [istep, e1 s2 ag, hx]; exact hk)
      | (rename_i hx; exact loc_val hf hF (by simp [I.rank]) h.2 (by simp [V.fit]) fun s2 ag K2 hk => by simp only [istep, e1 s2 ag, hx]; exact ⟨h.1, hk⟩)
  | un d op x =>
    have e1 := fun (s2 : St) (ag : Agree _ s s2) => ev ag (show x ∈ (I.un d op x).srcs by simp [I.srcs])
    obtain ⟨v, h1, h2, h3⟩ := vun_val (show vun op (s.ev x) (fun v => K1 (s.setO d v)) from h)
    exact loc_val hf hF (by simp [I.rank]) h2 (imm_fit F h1) fun s2 ag K2 hk => by simp only [istep, e1 s2 ag]; exact h3 _ hk
  | cvt d k x =>
    have e1 := fun (s2 : St) (ag : Agree _ s s2) => ev ag (show x ∈ (I.cvt d k x).srcs by simp [I.srcs])
    simp only [istep] at h
    split at h
    · rename_i hx; exact loc_val hf hF (by simp [I.rank]) h (by simp [V.fit]) fun s2 ag K2 hk => by simp only [istep, e1 s2 ag, hx]; exact hk
    · exact h.elim
  | cvs d x =>
    have e1 := fun (s2 : St) (ag : Agree _ s s2) => ev ag (show x ∈ (I.cvs d x).srcs by simp [I.srcs])
    simp only [istep] at h
    split at h
    · rename_i hx; exact loc_val hf hF (by simp [I.rank]) h (by simp [V.fit]) fun s2 ag K2 hk => by simp only [istep, e1 s2 ag, hx]; exact hk
    · exact h.elim
  | build d zero parts =>
    have e1 : ∀ s2, Agree (I.build d zero parts) s s2 → ∀ p, p ∈ parts → s2.ev p.2.2 = s.ev p.2.2 := fun s2 ag p hp => ev ag (by simp only [I.srcs]; exact List.mem_map.2 ⟨p, hp, rfl⟩)
    have f1 : ∀ p, p ∈ parts → (s.ev p.2.2).fit F := fun p hp => fit (by simp only [I.srcs]; exact List.mem_map.2 ⟨p, hp, rfl⟩)
    simp only [I.constOk, Bool.and_eq_true] at hc
    simp only [istep] at h
    have hz := imms_fits F hc.2
    have hfit : ∀ (ps : List (Nat × Nat × Src)) (z : List V), (∀ p, p ∈ ps → (s.ev p.2.2).fit F) → V.fits F z → V.fits F (ps.foldl (fun cs p => setAt cs p.1 (s.ev p.2.2).cells) z) := by
      intro ps
      induction ps with
      | nil => intro z _ hz; exact hz
      | cons p r ih => intro z hp hz; exact ih _ (fun q hq => hp q (by simp [hq])) (fits_setAt _ hz (fit_cells (hp p (by simp))))
    have heq : ∀ (s2 : St) (ps : List (Nat × Nat × Src)) (z : List V), (∀ p, p ∈ ps → s2.ev p.2.2 = s.ev p.2.2) → ps.foldl (fun cs p => setAt cs p.1 (s2.ev p.2.2).cells) z = ps.foldl (fun cs p => setAt cs p.1 (s.ev p.2.2).cells) z := by
      intro s2 ps
      induction ps with
      | nil => intro z _; rfl
      | cons p r ih => intro z hp; simp only [List.foldl_cons, hp p (by simp)]; exact ih _ (fun q hq => hp q (by simp [hq]))
    refine loc_val hf hF (by simp [I.rank]) h.2 (by simp only [V.fit]; exact hfit parts zero f1 hz) fun s2 ag K2 hk => ?_
    simp only [istep, heq s2 parts zero (e1 s2 ag)]
    exact ⟨fun p hp => by rw [e1 s2 ag p hp]; exact h.1 p hp, hk⟩
  | field d off sz ag x =>
    have e1 := fun (s2 : St) (agr : Agree _ s s2) => ev agr (show x ∈ (I.field d off sz ag x).srcs by simp [I.srcs])
    have f1 := fit (show x ∈ (I.field d off sz ag x).srcs by simp [I.srcs])
    simp only [istep] at h
    split at h
    · rename_i cs hx
      rw [hx] at f1
      simp only [V.fit] at f1
      exact loc_val hf hF (by simp [I.rank]) h.2 (fit_pack ag (fits_take (fits_drop f1 _) _)) fun s2 agr K2 hk => by simp only [istep, e1 s2 agr, hx]; exact ⟨h.1, hk⟩
    · exact h.elim
  | ext d j x =>
    have e1 := fun (s2 : St) (ag : Agree _ s s2) => ev ag (show x ∈ (I.ext d j x).srcs by simp [I.srcs])
    have f1 := fit (show x ∈ (I.ext d j x).srcs by simp [I.srcs])
    simp only [istep] at h
    split at h
    · rename_i cs hx
      rw [hx] at f1
      simp only [V.fit] at f1
      exact loc_val hf hF (by simp [I.rank]) h.2 (fit_getD f1 j) fun s2 ag K2 hk => by simp only [istep, e1 s2 ag, hx]; exact ⟨h.1, hk⟩
    · exact h.elim
  | idx d x y =>
    have e1 := fun (s2 : St) (ag : Agree _ s s2) => ev ag (show x ∈ (I.idx d x y).srcs by simp [I.srcs])
    have e2 := fun (s2 : St) (ag : Agree _ s s2) => ev ag (show y ∈ (I.idx d x y).srcs by simp [I.srcs])
    simp only [istep] at h
    split at h
    · rename_i hx hy; exact loc_val hf hF (by simp [I.rank]) h.2.2 (by simp [V.fit]) fun s2 ag K2 hk => by simp only [istep, e1 s2 ag, e2 s2 ag, hx, hy]; exact ⟨h.1, h.2.1, hk⟩
    · exact h.elim
  | idxA d m sz ag x y =>
    have e1 := fun (s2 : St) (agr : Agree _ s s2) => ev agr (show x ∈ (I.idxA d m sz ag x y).srcs by simp [I.srcs])
    have e2 := fun (s2 : St) (agr : Agree _ s s2) => ev agr (show y ∈ (I.idxA d m sz ag x y).srcs by simp [I.srcs])
    have f1 := fit (show x ∈ (I.idxA d m sz ag x y).srcs by simp [I.srcs])
    simp only [istep] at h
    split at h
    · rename_i hx hy
      rw [hx] at f1
      simp only [V.fit] at f1
      exact loc_val hf hF (by simp [I.rank]) h.2.2.2 (fit_pack ag (fits_take (fits_drop f1 _) _)) fun s2 agr K2 hk => by simp only [istep, e1 s2 agr, e2 s2 agr, hx, hy]; exact ⟨h.1, h.2.1, h.2.2.1, hk⟩
    · exact h.elim
  | slcS d x lo hi =>
    have e1 := fun (s2 : St) (ag : Agree _ s s2) => ev ag (show x ∈ (I.slcS d x lo hi).srcs by simp [I.srcs])
    have e2 := fun (s2 : St) (ag : Agree (I.slcS d x lo hi) s s2) => evO_of ag (x := lo) (fun y hy => by subst hy; simp [I.srcs])
    have e3 := fun (s2 : St) (ag : Agree (I.slcS d x lo hi) s s2) => evO_of ag (x := hi) (fun y hy => by subst hy; simp [I.srcs])
    simp only [istep] at h
    split at h
    · rename_i hx
      obtain ⟨l, h1, b1⟩ := bound_val h
      obtain ⟨u, h2, b2⟩ := bound_val h1
      exact loc_val hf hF (by simp [I.rank]) h2.2.2 (by simp [V.fit]) fun s2 ag K2 hk => by simp only [istep, e1 s2 ag, e2 s2 ag, e3 s2 ag, hx]; exact b1 _ (b2 _ ⟨h2.1, h2.2.1, hk⟩)
    · exact h.elim
  | slc d sz x lo hi =>
    have e1 := fun (s2 : St) (ag : Agree _ s s2) => ev ag (show x ∈ (I.slc d sz x lo hi).srcs by simp [I.srcs])
    have f1 := fit (show x ∈ (I.slc d sz x lo hi).srcs by simp [I.srcs])
    have e2 := fun (s2 : St) (ag : Agree (I.slc d sz x lo hi) s s2) => evO_of ag (x := lo) (fun y hy => by subst hy; simp [I.srcs])
    have e3 := fun (s2 : St) (ag : Agree (I.slc d sz x lo hi) s s2) => evO_of ag (x := hi) (fun y hy => by subst hy; simp [I.srcs])
    simp only [istep] at h
    split at h
    · rename_i hx
      obtain ⟨l, h1, b1⟩ := bound_val h
      obtain ⟨u, h2, b2⟩ := bound_val h1
      exact loc_val hf hF (by simp [I.rank]) h2.2.2 (by simp [V.fit]) fun s2 ag K2 hk => by simp only [istep, e1 s2 ag, e2 s2 ag, e3 s2 ag, hx]; exact b1 _ (b2 _ ⟨h2.1, h2.2.1, hk⟩)
    · rename_i hx
      rw [hx] at f1
      simp only [V.fit] at f1
      obtain ⟨l, h1, b1⟩ := bound_val h.2
      obtain ⟨u, h2, b2⟩ := bound_val h1
      exact loc_val hf hF (by simp [I.rank]) h2.2.2 (by simp only [V.fit]; exact fits_drop (fits_take f1 _) _) fun s2 ag K2 hk => by simp only [istep, e1 s2 ag, e2 s2 ag, e3 s2 ag, hx]; exact ⟨h.1, b1 _ (b2 _ ⟨h2.1, h2.2.1, hk⟩)⟩
    · rename_i hx
      rw [hx] at f1
      simp only [V.fit] at f1
      obtain ⟨l, h1, b1⟩ := bound_val h.2
      obtain ⟨u, h2, b2⟩ := bound_val h1
      exact loc_val hf hF (by simp [I.rank]) h2.2.2 (by simp only [V.fit]; exact f1) fun s2 ag K2 hk => by simp only [istep, e1 s2 ag, e2 s2 ag, e3 s2 ag, hx]; exact ⟨h.1, b1 _ (b2 _ ⟨h2.1, h2.2.1, hk⟩)⟩
    · exact h.elim
  | len d st x =>
    have e1 := fun (s2 : St) (ag : Agree _ s s2) => ev ag (show x ∈ (I.len d st x).srcs by simp [I.srcs])
    simp only [istep] at h
    split at h <;> first
      | exact h.elim
      | (rename_i hx; exact loc_val hf hF (by simp [I.rank]) h (by simp [V.fit]) fun s2 ag K2 hk => by simp only [istep, e1 s2 ag, hx]; exact hk)
  | fadr d off x =>
    have e1 := fun (s2 : St) (ag : Agree _ s s2) => ev ag (show x ∈ (I.fadr d off x).srcs by simp [I.srcs])
    have f1 := fit (show x ∈ (I.fadr d off x).srcs by simp [I.srcs])
    simp only [istep] at h
    split at h <;> first
      | exact h.elim
      | (rename_i hx; rw [hx] at f1; simp only [V.fit] at f1
         exact loc_val hf hF (by simp [I.rank]) h (by simp only [V.fit]; first | exact f1 | exact fits_drop f1 _) fun s2 ag K2 hk => by simp only [istep, e1 s2 ag, hx]; exact hk)
  | iadr d sz x y =>
    have e1 := fun (s2 : St) (ag : Agree _ s s2) => ev ag (show x ∈ (I.iadr d sz x y).srcs by simp [I.srcs])
    have e2 := fun (s2 : St) (ag : Agree _ s s2) => ev ag (show y ∈ (I.iadr d sz x y).srcs by simp [I.srcs])
    have f1 := fit (show x ∈ (I.iadr d sz x y).srcs by simp [I.srcs])
    simp only [istep] at h
    split at h
    · rename_i hx hy
      rw [hx] at f1; simp only [V.fit] at f1
      exact loc_val hf hF (by simp [I.rank]) h.2.2.2 (by simp only [V.fit]; exact fit_cells (fit_getD f1 _)) fun s2 ag K2 hk => by simp only [istep, e1 s2 ag, e2 s2 ag, hx, hy]; exact ⟨h.1, h.2.1, h.2.2.1, hk⟩
    · rename_i hx hy
      rw [hx] at f1; simp only [V.fit] at f1
      exact loc_val hf hF (by simp [I.rank]) h.2.2.2 (by simp only [V.fit]; exact f1) fun s2 ag K2 hk => by simp only [istep, e1 s2 ag, e2 s2 ag, hx, hy]; exact ⟨h.1, h.2.1, h.2.2.1, hk⟩
    · exact h.elim
  | iadrA d m sz x y =>
    have e1 := fun (s2 : St) (ag : Agree _ s s2) => ev ag (show x ∈ (I.iadrA d m sz x y).srcs by simp [I.srcs])
    have e2 := fun (s2 : St) (ag : Agree _ s s2) => ev ag (show y ∈ (I.iadrA d m sz x y).srcs by simp [I.srcs])
    have f1 := fit (show x ∈ (I.iadrA d m sz x y).srcs by simp [I.srcs])
    simp only [istep] at h
    split at h
    · rename_i hx hy
      rw [hx] at f1; simp only [V.fit] at f1
      exact loc_val hf hF (by simp [I.rank]) h.2.2 (by simp only [V.fit]; exact fits_drop f1 _) fun s2 ag K2 hk => by simp only [istep, e1 s2 ag, e2 s2 ag, hx, hy]; exact ⟨h.1, h.2.1, hk⟩
    · rename_i hx hy
      rw [hx] at f1; simp only [V.fit] at f1
      exact loc_val hf hF (by simp [I.rank]) h.2.2 (by simp only [V.fit]; exact f1) fun s2 ag K2 hk => by simp only [istep, e1 s2 ag, e2 s2 ag, hx, hy]; exact ⟨h.1, h.2.1, hk⟩
    · exact h.elim
  | nchk d x =>
    have e1 := fun (s2 : St) (ag : Agree _ s s2) => ev ag (show x ∈ (I.nchk d x).srcs by simp [I.srcs])
    have f1 := fit (show x ∈ (I.nchk d x).srcs by simp [I.srcs])
    simp only [istep] at h
    split at h <;> first
      | exact h.elim
      | (rename_i hx; rw [hx] at f1
         exact loc_val hf hF (by simp [I.rank]) h f1 fun s2 ag K2 hk => by simp only [istep, e1 s2 ag, hx]; exact hk)
  | load d c sz ag x =>
    have e1 := fun (s2 : St) (agr : Agree _ s s2) => ev agr (show x ∈ (I.load d c sz ag x).srcs by simp [I.srcs])
    have f1 := fit (show x ∈ (I.load d c sz ag x).srcs by simp [I.srcs])
    have hL' : c = false → ∀ s2, Agree (I.load d c sz ag x) s s2 → ∀ id, (∀ Fr : Nat → Prop, (s.ev x).fit Fr → Fr id) → s2.L id = s.L id := by
      intro hcf s2 agr id hid
      subst hcf
      rcases agr.L with h | h | ⟨h, Fr, h1, h2, h3⟩ | h
      · simp [I.rank] at h
      · simp [I.rank] at h
      · exact h3 id (hid Fr (h1 x (by simp [I.srcs])))
      · rw [h]
    simp only [istep] at h
    split at h
    · rename_i cs hx
      rw [hx] at f1; simp only [V.fit] at f1
      exact loc_val hf hF (by simp only [I.rank]; split <;> omega) h.2 (fit_pack ag (fits_take f1 _)) fun s2 agr K2 hk => by simp only [istep, e1 s2 agr, hx]; exact ⟨h.1, hk⟩
    · rename_i id off hx
      rw [hx] at f1; simp only [V.fit] at f1
      split at h
      · rename_i cs hb
        have hb2 := fun s2 agr => (hL' h.1 s2 agr _ (fun Fr hfr => by rw [hx] at hfr; simpa only [V.fit] using hfr)).trans hb
        exact loc_val hf hF (by simp only [I.rank]; split <;> omega) h.2.2 (fit_pack ag (fits_take (fits_drop (hf.blk _ _ hb).2 _) _)) fun s2 agr K2 hk => by simp only [istep, e1 s2 agr, hx, hb2 s2 agr]; exact ⟨h.1, h.2.1, hk⟩
      · exact h.elim
    · rename_i id i j hx
      rw [hx] at f1; simp only [V.fit] at f1
      split at h
      · rename_i ty0 sz' es hb
        have hb2 := fun s2 agr => (hL' h.1 s2 agr _ (fun Fr hfr => by rw [hx] at hfr; simpa only [V.fit] using hfr)).trans hb
        exact loc_val hf hF (by simp only [I.rank]; split <;> omega) h.2.2.2 (fit_pack ag (fits_take (fits_drop (fit_cells (fit_getD (hf.blk _ _ hb).2 _)) _) _)) fun s2 agr K2 hk => by simp only [istep, e1 s2 agr, hx, hb2 s2 agr]; exact ⟨h.1, h.2.1, h.2.2.1, hk⟩
      · exact h.elim
    · exact h.elim
  | store sz x y =>
    have e1 := fun (s2 : St) (ag : Agree _ s s2) => ev ag (show x ∈ (I.store sz x y).srcs by simp [I.srcs])
    have e2 := fun (s2 : St) (ag : Agree _ s s2) => ev ag (show y ∈ (I.store sz x y).srcs by simp [I.srcs])
    have f1 := fit (show x ∈ (I.store sz x y).srcs by simp [I.srcs])
    have f2 := fit (show y ∈ (I.store sz x y).srcs by simp [I.srcs])
    have hL' : ∀ s2, Agree (I.store sz x y) s s2 → s2.L = s.L := fun s2 ag => by
      rcases ag.L with h | h | h | h
      · simp [I.rank] at h
      · simp [I.rank] at h
      · simp [I.rank] at h
      · exact h
    simp only [istep] at h
    split at h
    · rename_i id off hx
      rw [hx] at f1; simp only [V.fit] at f1
      split at h
      · rename_i ty0 cs hb
        have hb2 : ∀ s2, Agree (I.store sz x y) s s2 → s2.L id = some (.box ty0 cs) := fun s2 ag => by rw [hL' s2 ag]; exact hb
        refine ⟨[(id, some (.box ty0 (setAt cs off (s.ev y).cells)))], .junk, h.2.2, fun s2 ag K2 hk => ?_, sfit_chg hf hF (by simp [V.fit]) (fun p hp b hpb => ?_), fun hr => by simp [I.rank] at hr, fun hr => by simp [I.rank] at hr⟩
        · simp only [istep, e1 s2 ag, e2 s2 ag, hx, hb2 s2 ag]; exact ⟨h.1, h.2.1, hk⟩
        · simp only [List.mem_singleton] at hp
          subst hp
          simp only [Option.some.injEq] at hpb
          subst hpb
          exact ⟨hF _ f1, by simp only [Blk.fit]; exact fits_mono hF (fits_setAt _ (hf.blk _ _ hb).2 (fit_cells f2))⟩
      · exact h.elim
    · rename_i id i j hx
      rw [hx] at f1; simp only [V.fit] at f1
      split at h
      · rename_i ty0 sz' es hb
        have hb2 : ∀ s2, Agree (I.store sz x y) s s2 → s2.L id = some (.vec ty0 sz' es) := fun s2 ag => by rw [hL' s2 ag]; exact hb
        have hes : V.fits F es := (hf.blk _ _ hb).2
        refine ⟨[(id, some (.vec ty0 sz' (es.set i ((es.getD i .junk).recell (setAt (es.getD i .junk).cells j (s.ev y).cells)))))], .junk, h.2.2.2, fun s2 ag K2 hk => ?_, sfit_chg hf hF (by simp [V.fit]) (fun p hp b hpb => ?_), fun hr => by simp [I.rank] at hr, fun hr => by simp [I.rank] at hr⟩
        · simp only [istep, e1 s2 ag, e2 s2 ag, hx, hb2 s2 ag]; exact ⟨h.1, h.2.1, h.2.2.1, hk⟩
        · simp only [List.mem_singleton] at hp
          subst hp
          simp only [Option.some.injEq] at hpb
          subst hpb
          exact ⟨hF _ f1, by simp only [Blk.fit]; exact fits_mono hF (fits_set _ hes (fit_recell (fits_setAt _ (fit_cells (fit_getD hes _)) (fit_cells f2))))⟩
      · exact h.elim
    · exact h.elim
  | alloc d ty zero =>
    simp only [I.constOk, Bool.and_eq_true] at hc
    have hm := hmk d rfl
    refine ⟨[(s.nx + d, some (.box ty zero))], .ptr (s.nx + d) 0, h, fun s2 ag K2 hk => ?_, sfit_chg hf hF (by simp only [V.fit]; exact hm) (fun p hp b hpb => ?_), fun hr => by simp [I.rank] at hr, fun _ => ⟨d, _, rfl, rfl⟩⟩
    · simp only [istep, ag.nx (by simp [I.rank])]
      exact (by simpa only [St.chg, St.add, St.set, updL, setEO, I.dst, ag.nx (by simp [I.rank])] using hk)
    · simp only [List.mem_singleton] at hp
      subst hp
      simp only [Option.some.injEq] at hpb
      subst hpb
      exact ⟨hm, by simp only [Blk.fit]; exact imms_fits F' hc.2⟩
  | box d ty x =>
    have e1 := fun (s2 : St) (ag : Agree _ s s2) => ev ag (show x ∈ (I.box d ty x).srcs by simp [I.srcs])
    have f1 := fit (show x ∈ (I.box d ty x).srcs by simp [I.srcs])
    have hm := hmk d rfl
    simp only [istep] at h
    refine ⟨[(s.nx + d, some (.box ty (s.ev x).cells))], .ptr (s.nx + d) 0, h.2, fun s2 ag K2 hk => ?_, sfit_chg hf hF (by simp only [V.fit]; exact hm) (fun p hp b hpb => ?_), fun hr => by simp [I.rank] at hr, fun _ => ⟨d, _, rfl, rfl⟩⟩
    · simp only [istep, ag.nx (by simp [I.rank]), e1 s2 ag]
      exact ⟨h.1, by simpa only [St.chg, St.add, St.set, updL, setEO, I.dst, ag.nx (by simp [I.rank])] using hk⟩
    · simp only [List.mem_singleton] at hp
      subst hp
      simp only [Option.some.injEq] at hpb
      subst hpb
      exact ⟨hm, by simp only [Blk.fit]; exact fits_mono hF (fit_cells f1)⟩
  | mkl d sz parts =>
    have e1 : ∀ s2, Agree (I.mkl d sz parts) s s2 → ∀ p, p ∈ parts → s2.ev p = s.ev p := fun s2 ag p hp => ev ag (by simpa only [I.srcs] using hp)
    have f1 : ∀ p, p ∈ parts → (s.ev p).fit F := fun p hp => fit (by simpa only [I.srcs] using hp)
    have e2 : ∀ s2, Agree (I.mkl d sz parts) s s2 → parts.map s2.ev = parts.map s.ev := fun s2 ag => List.map_congr_left (e1 s2 ag)
    simp only [istep] at h
    refine loc_val hf hF (by simp [I.rank]) h.2 (by
      simp only [V.fit]
      exact (fits_iff F _).2 fun x hx => by
        obtain ⟨p, hp, rfl⟩ := List.mem_map.1 hx; exact f1 p hp) fun s2 ag K2 hk => ?_
    simp only [istep, e2 s2 ag]
    exact ⟨fun p hp => by rw [e1 s2 ag p hp]; exact h.1 p hp, hk⟩
  | mkv d ty sz parts =>
    have e1 : ∀ s2, Agree (I.mkv d ty sz parts) s s2 → ∀ p, p ∈ parts → s2.ev p = s.ev p := fun s2 ag p hp => ev ag (by simpa only [I.srcs] using hp)
    have f1 : ∀ p, p ∈ parts → (s.ev p).fit F := fun p hp => fit (by simpa only [I.srcs] using hp)
    have e2 : ∀ s2, Agree (I.mkv d ty sz parts) s s2 → parts.map s2.ev = parts.map s.ev := fun s2 ag => List.map_congr_left (e1 s2 ag)
    have hm := hmk d rfl
    simp only [istep] at h
    refine ⟨[(s.nx + d, some (.vec ty sz (parts.map s.ev)))], .own (s.nx + d) sz 0 parts.length, h.2, fun s2 ag K2 hk => ?_, sfit_chg hf hF (by simp only [V.fit]; exact hm) (fun p hp b hpb => ?_), fun hr => by simp [I.rank] at hr, fun _ => ⟨d, _, rfl, rfl⟩⟩
    · simp only [istep, ag.nx (by simp [I.rank]), e2 s2 ag]
      exact ⟨fun p hp => by rw [e1 s2 ag p hp]; exact h.1 p hp, by simpa only [St.chg, St.add, St.set, updL, setEO, I.dst, ag.nx (by simp [I.rank])] using hk⟩
    · simp only [List.mem_singleton] at hp
      subst hp
      simp only [Option.some.injEq] at hpb
      subst hpb
      exact ⟨hm, by
        simp only [Blk.fit]
        exact (fits_iff F' _).2 fun x hx => by
          obtain ⟨p, hp, rfl⟩ := List.mem_map.1 hx; exact fit_mono hF (f1 p hp)⟩
  | app d ty sz x y =>
    have e1 := fun (s2 : St) (ag : Agree _ s s2) => ev ag (show x ∈ (I.app d ty sz x y).srcs by simp [I.srcs])
    have e2 := fun (s2 : St) (ag : Agree _ s s2) => ev ag (show y ∈ (I.app d ty sz x y).srcs by simp [I.srcs])
    have f1 := fit (show x ∈ (I.app d ty sz x y).srcs by simp [I.srcs])
    have f2 := fit (show y ∈ (I.app d ty sz x y).srcs by simp [I.srcs])
    have hm := hmk d rfl
    have hL' : ∀ s2, Agree (I.app d ty sz x y) s s2 → s2.L = s.L := fun s2 ag => by
      rcases ag.L with h | h | h | h
      · simp [I.rank] at h
      · simp [I.rank] at h
      · simp [I.rank] at h
      · exact h
    simp only [istep] at h
    rcases h with ⟨hx, h, hK⟩ | h
    · obtain ⟨ys, g1, g2, g3⟩ := elems_val hf f2 h
      exact loc_val hf hF (by simp [I.rank]) (v := .nils) hK (by simp [V.fit]) fun s2 ag K2 hk => by
        simp only [istep, e1 s2 ag, e2 s2 ag, hx, hL' s2 ag]
        exact .inl ⟨trivial, h, hk⟩
    simp only [appStep] at h
    split at h
    · rename_i hx
      obtain ⟨ys, g1, g2, g3⟩ := elems_val hf f2 h
      refine ⟨[(s.nx + d, some (.vec ty sz ys))], .own (s.nx + d) sz 0 ys.length, g2.2, fun s2 ag K2 hk => ?_, sfit_chg hf hF (by simp only [V.fit]; exact hm) (fun p hp b hpb => ?_), fun hr => by simp [I.rank] at hr, fun hr => by simp [I.rank] at hr⟩
      · simp only [istep, appStep, e1 s2 ag, e2 s2 ag, hx, hL' s2 ag, ag.nx (by simp [I.rank])]
        refine .inr ?_
        exact g3 _ ⟨g2.1, by simpa only [St.chg, St.add, St.set, updL, setEO, I.dst, ag.nx (by simp [I.rank]), hL' s2 ag] using hk⟩
      · simp only [List.mem_singleton] at hp
        subst hp
        simp only [Option.some.injEq] at hpb
        subst hpb
        exact ⟨hm, by simp only [Blk.fit]; exact fits_mono hF g1⟩
    · rename_i id sz' off n hx
      rw [hx] at f1; simp only [V.fit] at f1
      split at h
      · rename_i tyy szz es hb
        obtain ⟨p0, p1, p2, h⟩ := h
        obtain ⟨ys, g1, g2, g3⟩ := elems_val hf f2 h
        refine ⟨[(id, none), (s.nx + d, some (.vec ty sz ((es.drop off).take n ++ ys)))], .own (s.nx + d) sz 0 (n + ys.length), g2.2, fun s2 ag K2 hk => ?_, sfit_chg hf hF (by simp only [V.fit]; exact hm) (fun p hp b hpb => ?_), fun hr => by simp [I.rank] at hr, fun hr => by simp [I.rank] at hr⟩
        · simp only [istep, appStep, e1 s2 ag, e2 s2 ag, hx, hL' s2 ag, ag.nx (by simp [I.rank]), hb]
          refine .inr ?_
          exact ⟨p0, p1, p2, g3 _ ⟨g2.1, by simpa only [St.chg, St.add, St.drop, St.set, updL, setEO, I.dst, ag.nx (by simp [I.rank]), hL' s2 ag] using hk⟩⟩
        · simp only [List.mem_cons, List.not_mem_nil, or_false] at hp
          rcases hp with rfl | rfl
          · simp at hpb
          · simp only [Option.some.injEq] at hpb
            subst hpb
            exact ⟨hm, by simp only [Blk.fit]; exact fits_mono hF (fits_append (fits_take (fits_drop (hf.blk _ _ hb).2 _) _) g1)⟩
      · exact h.elim
    · exact h.elim
  | ptreq d neg x y =>
    have e1 := fun (s2 : St) (ag : Agree _ s s2) => ev ag (show x ∈ (I.ptreq d neg x y).srcs by simp [I.srcs])
    have e2 := fun (s2 : St) (ag : Agree _ s s2) => ev ag (show y ∈ (I.ptreq d neg x y).srcs by simp [I.srcs])
    simp only [istep] at h
    split at h
    · rename_i hx hy; exact loc_val hf hF (by simp [I.rank]) h.2.2 (by simp [V.fit]) fun s2 ag K2 hk => by simp only [istep, e1 s2 ag, e2 s2 ag, hx, hy]; exact ⟨h.1, h.2.1, hk⟩
    · exact h.elim
  | touns d x =>
    have e1 := fun (s2 : St) (ag : Agree _ s s2) => ev ag (show x ∈ (I.touns d x).srcs by simp [I.srcs])
    have f1 := fit (show x ∈ (I.touns d x).srcs by simp [I.srcs])
    simp only [istep] at h
    split at h
    · rename_i id o hx
      rw [hx] at f1; simp only [V.fit] at f1
      split at h
      · rename_i ty0 cs hb
        refine loc_val hf hF (by simp [I.rank]) h.2 (by simp only [V.fit]; exact f1) fun s2 ag K2 hk => ?_
        have hL : s2.L id = some (.box ty0 cs) := by
          rcases ag.L with h | h | ⟨_, Fr, q1, q2, q3⟩ | h
          · simp [I.rank] at h
          · simp [I.rank] at h
          · have := q1 x (by simp [I.srcs])
            rw [hx] at this; simp only [V.fit] at this
            rw [q3 id this]; exact hb
          · rw [h]; exact hb
        simp only [istep, e1 s2 ag, hx, hL]
        exact ⟨h.1, hk⟩
      · exact h.elim
    · exact h.elim
  | frouns d u z x =>
    have e1 := fun (s2 : St) (ag : Agree _ s s2) => ev ag (show x ∈ (I.frouns d u z x).srcs by simp [I.srcs])
    have f1 := fit (show x ∈ (I.frouns d u z x).srcs by simp [I.srcs])
    simp only [istep] at h
    split at h
    · rename_i id o hx
      rw [hx] at f1; simp only [V.fit] at f1
      split at h
      · rename_i ty0 cs hb
        refine loc_val hf hF (by simp [I.rank]) h.2.2.2 (by simp only [V.fit]; exact f1) fun s2 ag K2 hk => ?_
        have hL : s2.L id = some (.box ty0 cs) := by
          rcases ag.L with h | h | ⟨_, Fr, q1, q2, q3⟩ | h
          · simp [I.rank] at h
          · simp [I.rank] at h
          · have := q1 x (by simp [I.srcs])
            rw [hx] at this; simp only [V.fit] at this
            rw [q3 id this]; exact hb
          · rw [h]; exact hb
        simp only [istep, e1 s2 ag, hx, hL]
        exact ⟨h.1, h.2.1, h.2.2.1, hk⟩
      · exact h.elim
    · exact h.elim
  | sdata d x =>
    have e1 := fun (s2 : St) (ag : Agree _ s s2) => ev ag (show x ∈ (I.sdata d x).srcs by simp [I.srcs])
    have f1 := fit (show x ∈ (I.sdata d x).srcs by simp [I.srcs])
    simp only [istep] at h
    split at h
    · rename_i hx; exact loc_val hf hF (by simp [I.rank]) h (by simp [V.fit]) fun s2 ag K2 hk => by simp only [istep, e1 s2 ag, hx]; exact hk
    · rename_i id sz off n hx
      rw [hx] at f1; simp only [V.fit] at f1
      exact loc_val hf hF (by simp [I.rank]) h.2 (by simp only [V.fit]; exact f1) fun s2 ag K2 hk => by simp only [istep, e1 s2 ag, hx]; exact ⟨h.1, hk⟩
    · exact h.elim
  | ustr d ty x y =>
    have e1 := fun (s2 : St) (ag : Agree _ s s2) => ev ag (show x ∈ (I.ustr d ty x y).srcs by simp [I.srcs])
    have e2 := fun (s2 : St) (ag : Agree _ s s2) => ev ag (show y ∈ (I.ustr d ty x y).srcs by simp [I.srcs])
    have hL' : ∀ s2, Agree (I.ustr d ty x y) s s2 → s2.L = s.L := fun s2 ag => by
      rcases ag.L with h | h | h | h
      · simp [I.rank] at h
      · simp [I.rank] at h
      · simp [I.rank] at h
      · exact h
    simp only [istep] at h
    split at h
    · rename_i m hx hy
      exact loc_val hf hF (by simp [I.rank]) h.2 (by simp [V.fit]) fun s2 ag K2 hk => by simp only [istep, e1 s2 ag, e2 s2 ag, hx, hy]; exact ⟨h.1, hk⟩
    · rename_i id i' j m hx hy
      split at h
      · rename_i ty' sz es hb
        obtain ⟨q1, q2, q3, q4, q5, q6, bs, q7, q8⟩ := h
        refine ⟨[(id, none)], .str bs, ?_, fun s2 ag K2 hk => ?_, sfit_chg hf hF (by simp [V.fit]) (fun p hp b hpb => ?_), fun hr => by simp [I.rank] at hr, fun hr => by simp [I.rank] at hr⟩
        · cases d <;> exact q8
        · simp only [istep, e1 s2 ag, e2 s2 ag, hx, hy, hL' s2 ag, hb]
          refine ⟨q1, q2, q3, q4, q5, q6, bs, q7, ?_⟩
          cases d <;> exact hk
        · simp only [List.mem_singleton] at hp
          subst hp
          simp at hpb
      · exact h.elim
    · exact h.elim
  | call d c f args =>
    have e1 : ∀ s2, Agree (I.call d c f args) s s2 → ∀ p, p ∈ args → s2.ev p = s.ev p := fun s2 ag p hp => ev ag (by simpa only [I.srcs] using hp)
    have f1 : ∀ p, p ∈ args → (s.ev p).fit F := fun p hp => fit (by simpa only [I.srcs] using hp)
    have e2 : ∀ s2, Agree (I.call d c f args) s s2 → args.map s2.ev = args.map s.ev := fun s2 ag => List.map_congr_left (e1 s2 ag)
    simp only [istep] at h
    cases c with
    | true =>
      simp only [if_true] at h
      obtain ⟨r, h1, h2, h4, h3⟩ := h
      exact loc_val hf hF (by simp [I.rank]) h3 (imm_fit F h4) fun s2 ag K2 hk => by simp only [istep, if_true, e2 s2 ag]; exact ⟨r, h1, h2, h4, hk⟩
    | false =>
      simp only [Bool.false_eq_true, if_false] at h
      obtain ⟨r, h1, h2, h3, h4⟩ := h
      have e3 : ∀ s2, Agree (I.call d false f args) s s2 → (args.map fun a => view s2.L 3 (s2.ev a)) = args.map fun a => view s.L 3 (s.ev a) := fun s2 ag => List.map_congr_left fun p hp => by
        rw [e1 s2 ag p hp]
        rcases ag.L with h | h | ⟨h, Fr, h1, h2, h3⟩ | h
        · simp [I.rank] at h
        · simp [I.rank] at h
        · exact view_congr h2 h3 3 (h1 p (by simpa only [I.srcs] using hp))
        · rw [h]
      exact loc_val hf hF (by simp [I.rank]) h4 (imm_fit F (flat_imm h3)) fun s2 ag K2 hk => by simp only [istep, Bool.false_eq_true, if_false, e3 s2 ag]; exact ⟨r, h1, h2, h3, hk⟩
  | mx3 d isMax x y z =>
    have e1 := fun (s2 : St) (ag : Agree _ s s2) => ev ag (show x ∈ (I.mx3 d isMax x y z).srcs by simp [I.srcs])
    have e2 := fun (s2 : St) (ag : Agree _ s s2) => ev ag (show y ∈ (I.mx3 d isMax x y z).srcs by simp [I.srcs])
    have e3 := fun (s2 : St) (ag : Agree _ s s2) => ev ag (show z ∈ (I.mx3 d isMax x y z).srcs by simp [I.srcs])
    simp only [istep] at h
    split at h
    · rename_i hp hq hr
      exact loc_val hf hF (by simp [I.rank]) h.2.2 (by simp [V.fit]) fun s2 ag K2 hk => by simp only [istep, e1 s2 ag, e2 s2 ag, e3 s2 ag, hp, hq, hr]; exact ⟨h.1, h.2.1, hk⟩
    · exact h.elim
  | mx d isMax x y =>
    have e1 := fun (s2 : St) (ag : Agree _ s s2) => ev ag (show x ∈ (I.mx d isMax x y).srcs by simp [I.srcs])
    have e2 := fun (s2 : St) (ag : Agree _ s s2) => ev ag (show y ∈ (I.mx d isMax x y).srcs by simp [I.srcs])
    simp only [istep] at h
    split at h
    · rename_i hx hy; exact loc_val hf hF (by simp [I.rank]) h.2 (by simp [V.fit]) fun s2 ag K2 hk => by simp only [istep, e1 s2 ag, e2 s2 ag, hx, hy]; exact ⟨h.1, hk⟩
    · exact h.elim

end

section
variable {P : Program} {K K' : St → Prop}

theorem ECall.mono {f : FuncId} {args : List V} {L : Heap} {nx : Nat} {A B : V → Heap → Nat → Prop} (h : ECall P f args L nx A) (hab : ∀ r L' nx', A r L' nx' → B r L' nx') : ECall P f args L nx B := by
  obtain ⟨⟨r, L', nx', h1⟩, h2⟩ := h
  refine ⟨⟨r, L', nx', hab _ _ _ h1⟩, fun D G w vs hp hl hr => (h2 D G w vs hp hl hr).mono ?_⟩
  rintro e w' ⟨v, r, L', nx', G', k1, k2, k3⟩
  exact ⟨v, r, L', nx', G', k1, hab _ _ _ k2, k3⟩

theorem setO_env {s : St} {d : Option Nat} {v : V} {t : Nat} (h : d ≠ some t) : (s.setO d v).env t = s.env t := by
  cases d with
  | none => rfl
  | some d => exact upd_ne _ _ _ _ fun e => h (by rw [e])
theorem set_env {s : St} {d : Nat} {v : V} {t : Nat} (h : some d ≠ some t) : (s.set d v).env t = s.env t := upd_ne _ _ _ _ fun e => h (by rw [e])

theorem elemsOf_mono {sz : Nat} {L : Heap} {y : V} {A B : List V → Prop} (h : elemsOf sz L y A) (hab : ∀ l, A l → B l) : elemsOf sz L y B := by
  unfold elemsOf at *
  split at h <;> try (first | exact hab _ h | exact ⟨h.1, hab _ h.2⟩ | exact h.elim)
  split at h
  · exact ⟨h.1, h.2.1, hab _ h.2.2⟩
  · exact h.elim

theorem bound_mono {o : Option V} {d : Nat} {A B : Nat → Prop} (h : bound o d A) (hab : ∀ l, A l → B l) : bound o d B := by
  unfold bound at *
  split at h <;> first | exact hab _ h | exact ⟨h.1, hab _ h.2⟩ | exact h.elim

theorem vbin_mono {op : BinOp} {x y : V} {A B : V → Prop} (h : vbin op x y A) (hab : ∀ l, A l → B l) : vbin op x y B := by
  obtain ⟨v, _, h1, h2⟩ := vbin_val h
  exact h2 _ (hab _ h1)
theorem vun_mono {op : UnOp} {x : V} {A B : V → Prop} (h : vun op x A) (hab : ∀ l, A l → B l) : vun op x B := by
  obtain ⟨v, _, h1, h2⟩ := vun_val h
  exact h2 _ (hab _ h1)

/-- an operation writes one slot only -/
theorem istep_env {i : I} {s : St} (h : istep P i s K) (hK : ∀ s', K s' → (∀ t, i.dst ≠ some t → s'.env t = s.env t) → K' s') : istep P i s K' := by
  have k0 : ∀ {d : Option Nat} {v : V}, i.dst = d → K (s.setO d v) → K' (s.setO d v) := fun e h => hK _ h fun t ht => setO_env (by rw [← e]; exact ht)
  cases i <;> simp only [istep, I.dst] at * <;> first
    | exact k0 rfl h
    | exact vbin_mono h fun v hv => k0 rfl hv
    | exact vun_mono h fun v hv => k0 rfl hv
    | exact ⟨h.1, k0 rfl h.2⟩
    | exact hK _ h fun t ht => set_env ht
    | exact ⟨h.1, hK _ h.2 fun t ht => set_env ht⟩
    | skip
  case pick => split at h <;> first | exact k0 rfl h | exact h.elim
  case eqA => split at h <;> first | (obtain ⟨t, h1, h2⟩ := h; exact ⟨t, h1, k0 rfl h2⟩) | exact h.elim
  case eqB => split at h <;> first | exact k0 rfl h | exact h.elim
  case isnil => split at h <;> first | exact k0 rfl h | exact ⟨h.1, k0 rfl h.2⟩ | exact h.elim
  case cvt => split at h <;> first | exact k0 rfl h | exact h.elim
  case cvs => split at h <;> first | exact k0 rfl h | exact h.elim
  case field => split at h <;> first | exact ⟨h.1, k0 rfl h.2⟩ | exact h.elim
  case ext => split at h <;> first | exact ⟨h.1, k0 rfl h.2⟩ | exact h.elim
  case idx => split at h <;> first | exact ⟨h.1, h.2.1, k0 rfl h.2.2⟩ | exact h.elim
  case idxA => split at h <;> first | exact ⟨h.1, h.2.1, h.2.2.1, k0 rfl h.2.2.2⟩ | exact h.elim
  case slcS => split at h <;> first | exact bound_mono h fun l h => bound_mono h fun r h => ⟨h.1, h.2.1, k0 rfl h.2.2⟩ | exact h.elim
  case slc => split at h <;> first
    | exact bound_mono h fun l h => bound_mono h fun r h => ⟨h.1, h.2.1, k0 rfl h.2.2⟩
    | exact ⟨h.1, bound_mono h.2 fun l h => bound_mono h fun r h => ⟨h.1, h.2.1, k0 rfl h.2.2⟩⟩
    | exact h.elim
  case len => split at h <;> first | exact k0 rfl h | exact h.elim
  case fadr => split at h <;> first | exact k0 rfl h | exact h.elim
  case iadr => split at h <;> first | exact ⟨h.1, h.2.1, h.2.2.1, k0 rfl h.2.2.2⟩ | exact h.elim
  case iadrA => split at h <;> first | exact ⟨h.1, h.2.1, k0 rfl h.2.2⟩ | exact h.elim
  case nchk => split at h <;> first | exact k0 rfl h | exact h.elim
  case load =>
    split at h
    · exact ⟨h.1, k0 rfl h.2⟩
    · split at h
      · exact ⟨h.1, h.2.1, k0 rfl h.2.2⟩
      · exact h.elim
    · split at h
      · exact ⟨h.1, h.2.1, h.2.2.1, k0 rfl h.2.2.2⟩
      · exact h.elim
    · exact h.elim
  case store =>
    split at h
    · split at h
      · exact ⟨h.1, h.2.1, hK _ h.2.2 fun _ _ => rfl⟩
      · exact h.elim
    · split at h
      · exact ⟨h.1, h.2.1, h.2.2.1, hK _ h.2.2.2 fun _ _ => rfl⟩
      · exact h.elim
    · exact h.elim
  case app =>
    refine h.imp (fun h => ⟨h.1, h.2.1, hK _ h.2.2 fun t ht => set_env ht⟩) fun h => ?_
    simp only [appStep] at h ⊢
    split at h
    · exact elemsOf_mono h fun l h => ⟨h.1, hK _ h.2 fun t ht => set_env ht⟩
    · split at h
      · exact ⟨h.1, h.2.1, h.2.2.1, elemsOf_mono h.2.2.2 fun l h => ⟨h.1, hK _ h.2 fun t ht => set_env ht⟩⟩
      · exact h.elim
    · exact h.elim
  case call =>
    split
    · rename_i hc; simp only [hc, if_true] at h; obtain ⟨r, h1, h2, h3, h4⟩ := h; exact ⟨r, h1, h2, h3, k0 rfl h4⟩
    · rename_i hc; simp only [hc] at h; obtain ⟨r, h1, h2, h3, h4⟩ := h; exact ⟨r, h1, h2, h3, k0 rfl h4⟩
  case ecall => exact h.mono fun r L' nx' h => hK _ h fun t ht => setO_env ht
  case mx => split at h <;> first | exact ⟨h.1, k0 rfl h.2⟩ | exact h.elim
  case mx3 => split at h <;> first | exact ⟨h.1, h.2.1, k0 rfl h.2.2⟩ | exact h.elim
  case ptreq => split at h <;> first | exact ⟨h.1, h.2.1, k0 rfl h.2.2⟩ | exact h.elim
  case touns =>
    split at h
    · split at h
      · exact ⟨h.1, k0 rfl h.2⟩
      · exact h.elim
    · exact h.elim
  case frouns =>
    split at h
    · split at h
      · exact ⟨h.1, h.2.1, h.2.2.1, k0 rfl h.2.2.2⟩
      · exact h.elim
    · exact h.elim
  case sdata => split at h <;> first | exact k0 rfl h | exact ⟨h.1, k0 rfl h.2⟩ | exact h.elim
  case ustr =>
    split at h
    · exact ⟨h.1, k0 rfl h.2⟩
    · split at h
      · obtain ⟨q1, q2, q3, q4, q5, q6, bs, q7, q8⟩ := h
        exact ⟨q1, q2, q3, q4, q5, q6, bs, q7, hK _ q8 fun t ht => setO_env (s := s.drop _) ht⟩
      · exact h.elim
    · exact h.elim

theorem istep_mono {i : I} {s : St} (h : istep P i s K) (hK : ∀ s', K s' → K' s') : istep P i s K' := istep_env h fun s' h _ => hK s' h

theorem gstep_mono {x : GI} {s : St} (h : gstep P x s K) (hK : ∀ s', K s' → K' s') : gstep P x s K' := by
  unfold gstep at *
  split
  · rename_i hg; simp only [hg] at h; exact istep_mono h hK
  · rename_i t w hg
    simp only [hg] at h
    split at h
    · split
      · rename_i e; simp only [e, if_true] at h; exact istep_mono h hK
      · rename_i e; simp only [e, if_false] at h; exact hK _ h
    · exact hK _ h
    · exact h.elim

theorem aops_mono : ∀ {l : List GI} {s : St} {K K' : St → Prop}, aops P l s K → (∀ s', K s' → K' s') → aops P l s K'
  | [], s, K, K', h, hK => hK _ h
  | x :: r, s, K, K', h, hK => gstep_mono h fun s' h => aops_mono h hK

theorem aops_append : ∀ (l r : List GI) (s : St), aops P l s (fun s' => aops P r s' K) → aops P (l ++ r) s K
  | [], r, s, h => h
  | x :: l, r, s, h => gstep_mono h fun s' h => aops_append l r s' h


theorem elemsOf_ex {sz : Nat} {L : Heap} {y : V} {A : List V → Prop} (h : elemsOf sz L y A) : ∃ l, A l := by
  unfold elemsOf at h
  split at h <;> try (first | exact ⟨_, h⟩ | exact ⟨_, h.2⟩ | exact h.elim)
  split at h
  · exact ⟨_, h.2.2⟩
  · exact h.elim
theorem bound_ex {o : Option V} {d : Nat} {A : Nat → Prop} (h : bound o d A) : ∃ l, A l := by
  unfold bound at h
  split at h <;> first | exact ⟨_, h⟩ | exact ⟨_, h.2⟩ | exact h.elim

/-- an operation that may be run comes to something -/
theorem istep_ex {i : I} {s : St} (h : istep P i s K) : ∃ s', K s' := by
  cases i <;> simp only [istep] at h <;> first
    | exact ⟨_, h⟩
    | exact ⟨_, h.2⟩
    | skip
  case pick => split at h <;> first | exact ⟨_, h⟩ | exact h.elim
  case bin => obtain ⟨v, _, h1, _⟩ := vbin_val h; exact ⟨_, h1⟩
  case un => obtain ⟨v, _, h1, _⟩ := vun_val h; exact ⟨_, h1⟩
  case eqA => split at h <;> first | (obtain ⟨t, h1, h2⟩ := h; exact ⟨_, h2⟩) | exact h.elim
  case eqB => split at h <;> first | exact ⟨_, h⟩ | exact h.elim
  case isnil => split at h <;> first | exact ⟨_, h⟩ | exact ⟨_, h.2⟩ | exact h.elim
  case cvt => split at h <;> first | exact ⟨_, h⟩ | exact h.elim
  case cvs => split at h <;> first | exact ⟨_, h⟩ | exact h.elim
  case field => split at h <;> first | exact ⟨_, h.2⟩ | exact h.elim
  case ext => split at h <;> first | exact ⟨_, h.2⟩ | exact h.elim
  case idx => split at h <;> first | exact ⟨_, h.2.2⟩ | exact h.elim
  case idxA => split at h <;> first | exact ⟨_, h.2.2.2⟩ | exact h.elim
  case slcS => split at h <;> first | (obtain ⟨l, h⟩ := bound_ex h; obtain ⟨r, h⟩ := bound_ex h; exact ⟨_, h.2.2⟩) | exact h.elim
  case slc => split at h <;> first
    | (obtain ⟨l, h⟩ := bound_ex h; obtain ⟨r, h⟩ := bound_ex h; exact ⟨_, h.2.2⟩)
    | (obtain ⟨l, h⟩ := bound_ex h.2; obtain ⟨r, h⟩ := bound_ex h; exact ⟨_, h.2.2⟩)
    | exact h.elim
  case len => split at h <;> first | exact ⟨_, h⟩ | exact h.elim
  case fadr => split at h <;> first | exact ⟨_, h⟩ | exact h.elim
  case iadr => split at h <;> first | exact ⟨_, h.2.2.2⟩ | exact h.elim
  case iadrA => split at h <;> first | exact ⟨_, h.2.2⟩ | exact h.elim
  case nchk => split at h <;> first | exact ⟨_, h⟩ | exact h.elim
  case load =>
    split at h
    · exact ⟨_, h.2⟩
    · split at h
      · exact ⟨_, h.2.2⟩
      · exact h.elim
    · split at h
      · exact ⟨_, h.2.2.2⟩
      · exact h.elim
    · exact h.elim
  case store =>
    split at h
    · split at h
      · exact ⟨_, h.2.2⟩
      · exact h.elim
    · split at h
      · exact ⟨_, h.2.2.2⟩
      · exact h.elim
    · exact h.elim
  case app =>
    rcases h with h | h
    · exact ⟨_, h.2.2⟩
    simp only [appStep] at h
    split at h
    · obtain ⟨l, h⟩ := elemsOf_ex h; exact ⟨_, h.2⟩
    · split at h
      · obtain ⟨l, h⟩ := elemsOf_ex h.2.2.2; exact ⟨_, h.2⟩
      · exact h.elim
    · exact h.elim
  case call =>
    split at h
    · obtain ⟨r, h1, h2, h3, h4⟩ := h; exact ⟨_, h4⟩
    · obtain ⟨r, h1, h2, h3, h4⟩ := h; exact ⟨_, h4⟩
  case mx => split at h <;> first | exact ⟨_, h.2⟩ | exact h.elim
  case mx3 => split at h <;> first | exact ⟨_, h.2.2⟩ | exact h.elim
  case ptreq => split at h <;> first | exact ⟨_, h.2.2⟩ | exact h.elim
  case touns =>
    split at h
    · split at h
      · exact ⟨_, h.2⟩
      · exact h.elim
    · exact h.elim
  case frouns =>
    split at h
    · split at h
      · exact ⟨_, h.2.2.2⟩
      · exact h.elim
    · exact h.elim
  case sdata => split at h <;> first | exact ⟨_, h⟩ | exact ⟨_, h.2⟩ | exact h.elim
  case ustr =>
    split at h
    · exact ⟨_, h.2⟩
    · split at h
      · obtain ⟨q1, q2, q3, q4, q5, q6, bs, q7, q8⟩ := h
        exact ⟨_, q8⟩
      · exact h.elim
    · exact h.elim
  case ecall => obtain ⟨⟨r, L', nx', h1⟩, _⟩ := h; exact ⟨_, h1⟩

theorem gstep_ex {x : GI} {s : St} (h : gstep P x s K) : ∃ s', K s' := by
  unfold gstep at h
  split at h
  · exact istep_ex h
  · split at h
    · split at h
      · exact istep_ex h
      · exact ⟨_, h⟩
    · exact ⟨_, h⟩
    · exact h.elim
theorem aops_ex : ∀ {l : List GI} {s : St} {K : St → Prop}, aops P l s K → ∃ s', K s'
  | [], s, K, h => ⟨s, h⟩
  | x :: r, s, K, h => by
    obtain ⟨s1, h1⟩ := gstep_ex h
    exact aops_ex h1

theorem vbin_and {op : BinOp} {x y : V} {A B : V → Prop} (h : vbin op x y A) (h' : vbin op x y B) : vbin op x y fun v => A v ∧ B v := by
  unfold vbin at *
  split at h
  · refine ⟨h.1, ?_⟩
    have h1 := h.2
    have h2 := h'.2
    cases op <;> simp only [vint] at h1 h2 ⊢ <;> first | exact ⟨h1, h2⟩ | exact ⟨h1.1, h1.2, h2.2⟩ | exact h1.elim
  · cases op <;> simp only [vstr] at h h' ⊢ <;> first | exact ⟨h, h'⟩ | exact ⟨h.1, h.2, h'.2⟩ | exact h.elim
  · exact h.elim
theorem vun_and {op : UnOp} {x : V} {A B : V → Prop} (h : vun op x A) (h' : vun op x B) : vun op x fun v => A v ∧ B v := by
  unfold vun at *
  split at h <;> first | exact ⟨h, h'⟩ | exact h.elim
theorem bound_and {o : Option V} {d : Nat} {A B : Nat → Prop} (h : bound o d A) (h' : bound o d B) : bound o d fun n => A n ∧ B n := by
  unfold bound at *
  split at h <;> first | exact ⟨h, h'⟩ | exact ⟨h.1, h.2, h'.2⟩ | exact h.elim

/-- an operation that looks at no memory comes to one thing -/
theorem istep_and {i : I} {s : St} (hr : i.rank = 0) (ha : i.ang = false) (h : istep P i s K) (h' : istep P i s K') : istep P i s fun s' => K s' ∧ K' s' := by
  cases i <;> simp only [istep] at h h' ⊢ <;> first
    | exact ⟨h, h'⟩
    | exact ⟨h.1, h.2, h'.2⟩
    | exact vbin_and h h'
    | exact vun_and h h'
    | skip
  case pick => split at h <;> (try simp only [*] at h') <;> first | exact ⟨h, h'⟩ | exact h.elim
  case eqA =>
    split at h <;> (try simp only [*] at h')
    · obtain ⟨t, h1, h2⟩ := h
      obtain ⟨t', h3, h4⟩ := h'
      obtain rfl : t = t' := Option.some.inj (h1.symm.trans h3)
      exact ⟨t, h1, h2, h4⟩
    · exact h.elim
  case eqB => split at h <;> (try simp only [*] at h') <;> first | exact ⟨h, h'⟩ | exact h.elim
  case isnil => split at h <;> (try simp only [*] at h') <;> first | exact ⟨h, h'⟩ | exact ⟨h.1, h.2, h'.2⟩ | exact h.elim
  case cvt => split at h <;> (try simp only [*] at h') <;> first | exact ⟨h, h'⟩ | exact h.elim
  case cvs => split at h <;> (try simp only [*] at h') <;> first | exact ⟨h, h'⟩ | exact h.elim
  case field => split at h <;> (try simp only [*] at h') <;> first | exact ⟨h.1, h.2, h'.2⟩ | exact h.elim
  case ext => split at h <;> (try simp only [*] at h') <;> first | exact ⟨h.1, h.2, h'.2⟩ | exact h.elim
  case idx => split at h <;> (try simp only [*] at h') <;> first | exact ⟨h.1, h.2.1, h.2.2, h'.2.2⟩ | exact h.elim
  case idxA => split at h <;> (try simp only [*] at h') <;> first | exact ⟨h.1, h.2.1, h.2.2.1, h.2.2.2, h'.2.2.2⟩ | exact h.elim
  case slcS =>
    split at h <;> (try simp only [*] at h')
    · exact bound_mono (bound_and h h') fun l h => bound_mono (bound_and h.1 h.2) fun r h => ⟨h.1.1, h.1.2.1, h.1.2.2, h.2.2.2⟩
    · exact h.elim
  case slc =>
    split at h <;> (try simp only [*] at h')
    · exact bound_mono (bound_and h h') fun l h => bound_mono (bound_and h.1 h.2) fun r h => ⟨h.1.1, h.1.2.1, h.1.2.2, h.2.2.2⟩
    · exact ⟨h.1, bound_mono (bound_and h.2 h'.2) fun l h => bound_mono (bound_and h.1 h.2) fun r h => ⟨h.1.1, h.1.2.1, h.1.2.2, h.2.2.2⟩⟩
    · exact ⟨h.1, bound_mono (bound_and h.2 h'.2) fun l h => bound_mono (bound_and h.1 h.2) fun r h => ⟨h.1.1, h.1.2.1, h.1.2.2, h.2.2.2⟩⟩
    · exact h.elim
  case len => split at h <;> (try simp only [*] at h') <;> first | exact ⟨h, h'⟩ | exact h.elim
  case fadr => split at h <;> (try simp only [*] at h') <;> first | exact ⟨h, h'⟩ | exact h.elim
  case iadr => split at h <;> (try simp only [*] at h') <;> first | exact ⟨h.1, h.2.1, h.2.2.1, h.2.2.2, h'.2.2.2⟩ | exact h.elim
  case iadrA => split at h <;> (try simp only [*] at h') <;> first | exact ⟨h.1, h.2.1, h.2.2, h'.2.2⟩ | exact h.elim
  case nchk => split at h <;> (try simp only [*] at h') <;> first | exact ⟨h, h'⟩ | exact h.elim
  case load d c sz ag x =>
    simp only [I.rank] at hr
    split at h <;> (try simp only [*] at h')
    · exact ⟨h.1, h.2, h'.2⟩
    · split at h
      · have := h.1; subst this; simp at hr
      · exact h.elim
    · split at h
      · have := h.1; subst this; simp at hr
      · exact h.elim
    · exact h.elim
  case store => simp [I.rank] at hr
  case app => simp [I.rank] at hr
  case call d c f args =>
    simp only [I.ang] at ha
    subst ha
    simp [I.rank] at hr
  case mx =>
    split at h
    · rename_i h1 h2
      simp only [h1, h2] at h'
      exact ⟨h.1, h.2, h'.2⟩
    · exact h.elim
  case mx3 =>
    split at h
    · rename_i h1 h2 h3
      simp only [h1, h2, h3] at h'
      exact ⟨h.1, h.2.1, h.2.2, h'.2.2⟩
    · exact h.elim
  case ptreq =>
    split at h
    · rename_i h1 h2
      simp only [h1, h2] at h'
      exact ⟨h.1, h.2.1, h.2.2, h'.2.2⟩
    · exact h.elim
  case sdata =>
    split at h
    · rename_i h1
      simp only [h1] at h'
      exact ⟨h, h'⟩
    · rename_i h1
      simp only [h1] at h'
      exact ⟨h.1, h.2, h'.2⟩
    · exact h.elim
  case touns => simp [I.rank] at hr
  case frouns => simp [I.rank] at hr
  case ustr => simp [I.rank] at hr
  case ecall => simp [I.rank] at hr

theorem gstep_and {x : GI} {s : St} (hr : x.i.rank = 0) (ha : x.i.ang = false) (h : gstep P x s K) (h' : gstep P x s K') : gstep P x s fun s' => K s' ∧ K' s' := by
  unfold gstep at *
  split
  · rename_i hg; simp only [hg] at h h'; exact istep_and hr ha h h'
  · rename_i t w hg
    simp only [hg] at h h'
    split at h
    · rename_i b hb
      simp only [hb] at h'
      split
      · rename_i e; simp only [e, if_true] at h h'; exact istep_and hr ha h h'
      · rename_i e; simp only [e, if_false] at h h'; exact ⟨h, h'⟩
    · rename_i hb
      simp only [hb] at h'
      exact ⟨h, h'⟩
    · exact h.elim

end
end Go.Ab
