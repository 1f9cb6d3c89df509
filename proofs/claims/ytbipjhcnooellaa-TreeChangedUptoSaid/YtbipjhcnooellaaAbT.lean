/- A region of the lowered code is sound, in whatever order it is run. No condition. -/
import Derived.Test.YtbipjhcnooellaaAbS
namespace Go.Ab
open Go.RowKit
set_option linter.unusedVariables false
set_option linter.unusedSimpArgs false

theorem fits_of_get {F : Nat → Prop} {l : List V} (h : ∀ (j : Nat) (c : V), l[j]? = some c → V.fit F c) : V.fits F l :=
  (fits_iff F _).2 fun y hy => by
    obtain ⟨j, hj, rfl⟩ := List.mem_iff_getElem.1 hy
    exact h j _ (List.getElem?_eq_getElem hj)

theorem fit_of_cells {F : Nat → Prop} {x : V} (h : ∀ (j : Nat) (c : V), x.cells[j]? = some c → V.fit F c) : x.fit F := by
  cases x <;> simp only [V.cells] at h <;> first
    | exact h 0 _ rfl
    | (simp only [V.fit]; exact fits_of_get h)

theorem rep_fit {G : Ghost} {D : Nat → Prop} {w : World} {x : V} {v : Value} (h : Rep G D w x v) : x.fit (fun id => (G id).isSome = true) := by
  induction h with
  | junk v => simp [V.fit]
  | bool b => simp [V.fit]
  | int k n => simp [V.fit]
  | str s h => simp [V.fit]
  | nilp => simp [V.fit]
  | nils => simp [V.fit]
  | ptr id off g h => simp [V.fit, h]
  | eptr id i j g h => simp [V.fit, h]
  | cptr cs b o hb hd hs hr ih => simp only [V.fit]; exact fits_of_get ih
  | lst sz es a cap b o hc hl ha hz hs hr ih =>
    simp only [V.fit]
    refine fits_of_get fun i e he => fit_of_cells fun j c hj => ih i j c ?_
    rw [he]; exact hj
  | own id sz off len g a cap h hz hc hg hl ha => simp [V.fit, h]
  | agg cs vs hn hr ih => simp only [V.fit]; exact fits_of_get ih
  | tup cs vs hn hr ih => simp only [V.fit]; exact fits_of_get ih
  | fn f cs vs hn hr ih => simp only [V.fit]; exact fits_of_get ih
  | map id g h => simp [V.fit, h]
  | nilm => simp [V.fit]
  | raw v => simp [V.fit]

theorem Good.sfit {D : Nat → Prop} {n : Nat} {s : St} {G : Ghost} {a : Act} {w : World} (h : Good D n s G a w) : SFit (fun id => (G id).isSome = true) s := by
  refine ⟨fun t => rep_fit (h.env t), fun id b hb => ?_⟩
  obtain ⟨g, hg, hok⟩ := h.hp.blk id b hb
  refine ⟨by simp [hg], ?_⟩
  cases b with
  | box ty0 cs =>
    obtain ⟨c, ty, fr, _, _, _, _, h5⟩ := hok
    exact fits_of_get fun i x hx => rep_fit (h5 i x hx)
  | vec ty0 sz es =>
    obtain ⟨_, h2, _, _, h5⟩ := hok
    refine fits_of_get fun i e he => fit_of_cells fun j c hj => ?_
    have hpos : 0 < g.cap := by
      have : i < es.length := (List.getElem?_eq_some_iff.1 he).1
      omega
    obtain ⟨c', ty, fr, _, _, _, k4⟩ := h5 hpos
    exact rep_fit (k4 i j c (by rw [he]; exact hj))
  | map _ => exact hok.elim
  | bld _ _ _ => trivial

theorem lower1_spec {P : Program} {n : Nat} {hint : Nat → Nat} {ops : Array Oper} {o : Oper} {x : GI} (h : lower1 P n hint ops o = some x) :
    dstOk n o.dst = true ∧ lowG ops n o.guard = some x.g ∧ lowX P n hint o = some x.i ∧ x.i.dst = o.dst := by
  simp only [lower1] at h
  split at h
  · rename_i hd
    split at h
    · rename_i g i hg hi
      split at h
      · rename_i he
        simp only [Option.some.injEq] at h
        subst h
        exact ⟨hd, hg, hi, he⟩
      · simp at h
    · simp at h
  · simp at h

theorem lowerL_spec {P : Program} {n : Nat} {hint : Nat → Nat} {ops : Array Oper} : ∀ (r : List Oper) (l : List GI), lowerL P n hint ops r = some l → l.length = r.length ∧ ∀ i o, r[i]? = some o → lower1 P n hint ops o = some (l.getD i default)
  | [], l, h => by simp only [lowerL, Option.some.injEq] at h; subst h; simp
  | o :: r, l, h => by
    simp only [lowerL] at h
    split at h
    · rename_i x y h1 h2
      simp only [Option.some.injEq] at h
      subst h
      obtain ⟨k1, k2⟩ := lowerL_spec r y h2
      refine ⟨by simp [k1], fun i o' ho => ?_⟩
      cases i with
      | zero => simp only [List.getElem?_cons_zero, Option.some.injEq] at ho; subst ho; simpa using h1
      | succ i => simp only [List.getElem?_cons_succ] at ho; simpa using k2 i o' ho
    · simp at h

section
variable {P : Program} {D : Nat → Prop} {n : Nat} {hint : Nat → Nat} {ops : Array Oper} {s : St} {G : Ghost} {a : Act} {w : World} {K : St → Prop} {Q : Exit → Act → World → Prop}

theorem ecall_sound {o : Oper} {i : I} (hd : dstOk n o.dst = true) (h : lowE P n hint o = some i) : ∀ (s : St) (G : Ghost) (a : Act) (w : World) (K : St → Prop) (next : Act → World → Prop) (Q : Exit → Act → World → Prop), istep P i s K → Good D n s G a w →
    (∀ s' G' a' w', K s' → Good D n s' G' a' w' → Nxt s.L G w s'.L G' w' → s.nx + n ≤ s'.nx ∧ (∀ i, s'.nx ≤ i → G' i = none) → next a' w') → o.upon P a next Q ((execOp a.eval o).run P w) := by
  intro s G a w K next Q hi hg hn
  unfold lowE at h
  split at h
  · rename_i c hop
    split at h
    · rename_i f hc
      split at h
      · rename_i hb
        simp only [Bool.and_eq_true] at hb
        obtain ⟨qs, hq, rfl⟩ := Option.map_eq_some_iff.1 h
        obtain ⟨l1, l2⟩ := opds_rep hg hq
        obtain ⟨_, hE⟩ := hi
        rw [run_call hc hb.2 hop]
        simp only [Oper.upon]
        have hp : Hp D 0 ⟨fun _ => .junk, s.L, s.nx + n⟩ G w := ⟨hg.hp.fin, hg.hp.blk, hg.hp.apart, hg.hp.away, hg.hp.dlt⟩
        refine (hE D G w (c.args.map a.eval) hp (by simp [l1]) fun i y hy => ?_).mono ?_
        · have h1 := l2 i y hy
          have : (c.args.map a.eval).getD i undef = (c.args.toList.map a.eval)[i]?.getD undef := by simp [Array.getD_eq_getD_getElem?]
          rw [this]
          exact h1
        · rintro e w' ⟨v, r, L', nx', G', rfl, hK, hp', hle, hx, hr⟩
          have hfin : ∀ i, nx' ≤ i → G' i = none := fun i hi => hp'.fin i hi
          have hp2 : Hp D n ⟨s.env, L', nx'⟩ G' w' := ⟨fun id hid => hfin id (by simp only at hid; omega), hp'.blk, hp'.apart, hp'.away, hp'.dlt⟩
          have g1 : Good D n ⟨s.env, L', nx'⟩ G' a w' := hg.later hx hp2
          exact hn _ _ _ _ hK (g1.put hd hr) (by rw [setO_L]; exact hx) ⟨by rw [setO_nx]; exact hle, fun i hi => hfin i (by rw [setO_nx] at hi; exact hi)⟩
      · simp at h
    · simp at h
  · simp at h

/-- which names there may be behind an operation -/
def NewX (n : Nat) (m : Option Nat) (s : St) (G : Ghost) (s' : St) (G' : Ghost) : Prop := New m s G s' G' ∨ (s.nx + n ≤ s'.nx ∧ ∀ i, s'.nx ≤ i → G' i = none)

/-- what may still be named stays free -/
theorem NewX.free {m : Option Nat} {s : St} {G : Ghost} {s' : St} {G' : Ghost} (h : NewX n m s G s' G') {d : Nat} (h1 : G (s.nx + d) = none) (h2 : m ≠ some d) : G' (s'.nx + d) = none := by
  rcases h with h | h
  · cases hc : G' (s'.nx + d) with
    | none => rfl
    | some g =>
      exfalso
      rcases h.2 (s'.nx + d) (by simp [hc]) with k1 | ⟨d', hd', he⟩
      · rw [h.1, h1] at k1
        simp at k1
      · rw [h.1] at he
        have : d = d' := by omega
        subst this
        exact h2 hd'
  · exact h.2 _ (by omega)

theorem gsound {i : Nat} {o : Oper} {x : GI} {next : Act → World → Prop} (ho : ops[i]? = some o) (hx : lower1 P n hint ops o = some x) (h : gstep P x s K) (hg : Good D n s G a w)
    (hn : ∀ s' G' a' w', K s' → Good D n s' G' a' w' → Nxt s.L G w s'.L G' w' → NewX n x.i.mk s G s' G' → next a' w') (hfree : ∀ d, x.i.mk = some d → G (s.nx + d) = none) :
    wpOp P ops Q i next a w := by
  obtain ⟨hd, hgd, hi, hdst⟩ := lower1_spec hx
  have run : istep P x.i s K → Region.wanted o (yielded ops a.tmps) = true → wpOp P ops Q i next a w := fun h hw => by
    simp only [wpOp, ho, hw, if_true]
    refine .inl ?_
    unfold lowX at hi
    split at hi
    · rename_i i' he
      simp only [Option.some.injEq] at hi
      subst hi
      exact ecall_sound hd he s G a w K next Q h hg fun s' G' a' w' k g x e => hn s' G' a' w' k g x (.inr e)
    · exact lowI_sound hd hi s G a w K next Q h hg (fun s' G' a' w' k g x e => hn s' G' a' w' k g x (.inl e)) hfree
  have skip : K (s.setO x.i.dst (.tup [])) → Region.wanted o (yielded ops a.tmps) = false → wpOp P ops Q i next a w := fun h hw => by
    simp only [wpOp, ho, hw, Bool.false_eq_true, if_false]
    have hput := hg.put (d := x.i.dst) (by rw [hdst]; exact hd) (x := .tup []) (v := undef) (.tup [] #[] rfl (by simp))
    rw [hdst] at hput h
    exact hn _ _ _ _ h hput (by rw [setO_L]; exact Nxt.refl _ _ _) (.inl (New.same (setO_nx _ _ _)))
  obtain ⟨g, xi⟩ := x
  cases hgo : o.guard with
  | none =>
    rw [hgo] at hgd
    simp only [lowG, Option.some.injEq] at hgd
    subst hgd
    exact run h (by simp [Region.wanted, hgo])
  | some jw =>
    obtain ⟨j, wt⟩ := jw
    rw [hgo] at hgd
    simp only [lowG] at hgd
    split at hgd
    · rename_i t ht
      split at hgd
      · rename_i htn
        simp only [Option.some.injEq] at hgd
        subst hgd
        have hv : a.tmps[t]? = some (a.tmps.getD t undef) := by
          have : t < a.tmps.size := by rw [hg.size]; exact htn
          simp [this]
        have hy : yielded ops a.tmps j = match a.tmps.getD t undef with | .bool b => some b | _ => none := by
          simp only [yielded, ht, Option.bind_some, hv]
          cases a.tmps.getD t undef <;> rfl
        have hr := hg.env t
        simp only [gstep] at h
        split at h
        · rename_i b hb
          rw [hb] at hr
          have hvb := rep_bool hr
          rw [hvb] at hy
          simp only at hy
          split at h
          · rename_i hbw
            exact run h (by simp [Region.wanted, hgo, hy, hbw])
          · rename_i hbw
            exact skip h (by simp [Region.wanted, hgo, hy, hbw])
        · rename_i hb
          rw [hb] at hr
          obtain ⟨vs, hvs, _⟩ := rep_tup hr
          rw [hvs] at hy
          exact skip h (by simp [Region.wanted, hgo, hy])
        · exact h.elim
      · simp at hgd
    · simp at hgd

theorem nodup_mks_cons {x : GI} {l : List GI} (h : (mks (x :: l)).Nodup) : (mks l).Nodup ∧ ∀ d, x.i.mk = some d → ∀ y, y ∈ l → y.i.mk ≠ some d := by
  simp only [mks, List.filterMap_cons] at h
  cases hx : x.i.mk with
  | none => rw [hx] at h; exact ⟨h, fun d hd => by simp at hd⟩
  | some m =>
    rw [hx] at h
    simp only [List.nodup_cons] at h
    refine ⟨h.2, fun d hd y hy hyd => h.1 ?_⟩
    simp only [Option.some.injEq] at hd
    subst hd
    exact List.mem_filterMap.2 ⟨y, hy, hyd⟩

theorem ops_sound {l : List GI} (hl : ∀ i o, ops[i]? = some o → lower1 P n hint ops o = some (l.getD i default)) : ∀ (is : List Nat) (s : St) (G : Ghost) (a : Act) (w : World), (∀ i, i ∈ is → i < ops.size) →
    aops P (at_ l is) s K → Good D n s G a w → (∀ x, x ∈ at_ l is → ∀ d, x.i.mk = some d → G (s.nx + d) = none) → (mks (at_ l is)).Nodup →
    (∀ s' G' a' w', K s' → Good D n s' G' a' w' → Nxt s.L G w s'.L G' w' → Q .normal a' w') → wpOps P ops Q is a w
  | [], s, G, a, w, _, h, hg, _, _, hn => hn _ _ _ _ h hg (Nxt.refl _ _ _)
  | i :: is, s, G, a, w, hi, h, hg, hf, hnd, hn => by
    have hlt := hi i (by simp)
    rw [wpOps_cons]
    obtain ⟨hnd1, hnd2⟩ := nodup_mks_cons hnd
    refine gsound (Array.getElem?_eq_getElem hlt) (hl i _ (Array.getElem?_eq_getElem hlt)) h hg (fun s1 G1 a1 w1 k1 g1 x1 n1 => ?_) (hf (l.getD i default) (by simp [at_]))
    exact ops_sound hl is s1 G1 a1 w1 (fun j hj => hi j (by simp [hj])) k1 g1 (fun y hy d hd => n1.free (hf y (by simp only [at_, List.map_cons, List.mem_cons]; exact .inr hy) d hd) fun e => hnd2 d e y hy hd) hnd1
      (fun s2 G2 a2 w2 k2 g2 x2 => hn s2 G2 a2 w2 k2 g2 (x1.trans x2))

theorem nodups_spec : ∀ {l : List Nat}, nodups l = true → l.Nodup
  | [], _ => List.nodup_nil
  | x :: r, h => by
    simp only [nodups, Bool.and_eq_true, Bool.not_eq_true'] at h
    exact List.nodup_cons.2 ⟨by have := h.1; simpa using this, nodups_spec h.2⟩

theorem at_range (l : List GI) : at_ l (List.range l.length) = l := by
  apply List.ext_getElem
  · simp [at_]
  · intro i h1 h2
    simp only [at_, List.getElem_map, List.getElem_range, List.getD_eq_getElem?_getD, List.getElem?_eq_getElem h2, Option.getD_some]

theorem linear {l : List GI} (hl' : ∀ i o, ops[i]? = some o → lower1 P n hint ops o = some (l.getD i default)) (hl : l.length = ops.size) (ho : orderOk (ancOf ops) l = true) (he : edgesOk ops = true) (hc : l.all (·.i.constOk) = true) :
    ∀ (fuel t : Nat) (listed : Array Bool) (s : St) (G : Ghost) (a : Act) (w : World), listed.size = ops.size → (remOf ops listed).length ≤ fuel →
      (∀ k o, listed.getD k false = true → ops[k]? = some o → ∀ e, e ∈ o.after → Region.binds .any e = true → listed.getD e.on false = true) →
      Good D n s G a w → (∀ x, x ∈ at_ l (remOf ops listed) → ∀ d, x.i.mk = some d → G (s.nx + d) = none) → (mks (at_ l (remOf ops listed))).Nodup →
      aops P (at_ l (remOf ops listed)) s K → (∀ s' G' a' w', K s' → Good D n s' G' a' w' → Nxt s.L G w s'.L G' w' → Q .normal a' w') → wpOps P ops Q (Region.linearise.go .any ops fuel t listed []) a w := by
  have constOf : ∀ i, i < ops.size → (l.getD i default).i.constOk = true := fun i hi => by
    have : i < l.length := by omega
    rw [List.getD_eq_getElem?_getD, List.getElem?_eq_getElem this]
    exact List.all_eq_true.1 hc _ (List.getElem_mem _)
  intro fuel
  induction fuel with
  | zero =>
    intro t listed s G a w hsz hf hcl hfit hfr hnd h hn
    have : remOf ops listed = [] := List.length_eq_zero_iff.1 (by omega)
    rw [this] at h
    have h : K s := h
    simp only [Region.linearise.go, List.reverse_nil, wpOps]
    exact hn s G a w h hfit (Nxt.refl _ _ _)
  | succ fuel ih =>
    intro t listed s G a w hsz hf hcl hfit hfr hnd h hn
    simp only [Region.linearise.go]
    change wpOps P ops Q (match (Region.ready .any ops listed)[t % (Region.ready .any ops listed).length]? with
      | some i => Region.linearise.go .any ops fuel (t / (Region.ready .any ops listed).length) (listed.setIfInBounds i true) [i]
      | none => [].reverse) a w
    cases hi : (Region.ready .any ops listed)[t % (Region.ready .any ops listed).length]? with
    | none =>
      have hnil : Region.ready .any ops listed = [] := by
        cases hr : Region.ready .any ops listed with
        | nil => rfl
        | cons x xs =>
          rw [hr] at hi
          have hlt : t % (x :: xs).length < (x :: xs).length := Nat.mod_lt _ (by simp)
          simp at hi
          simp at hlt
          omega
      have hrem : remOf ops listed = [] := by
        cases hr : remOf ops listed with
        | nil => rfl
        | cons x xs =>
          exfalso
          have hx : x ∈ remOf ops listed := by rw [hr]; simp
          have hx1 : x < ops.size ∧ listed.getD x true = false := by
            simp only [remOf, List.mem_filter, List.mem_range, Bool.not_eq_true'] at hx
            exact hx
          have hmin : ∀ y, y < x → y < ops.size → listed.getD y true = true := by
            intro y hy hys
            have hpw : (remOf ops listed).Pairwise (· < ·) := List.Pairwise.filter _ List.pairwise_lt_range
            cases hly : listed.getD y true with
            | true => rfl
            | false =>
              have hm : y ∈ remOf ops listed := by
                simp only [remOf, List.mem_filter, List.mem_range, Bool.not_eq_true']
                exact ⟨hys, hly⟩
              rw [hr] at hm hpw
              rcases List.mem_cons.1 hm with e | hm
              · omega
              · have := List.rel_of_pairwise_cons hpw hm
                omega
          have hmem : x ∈ Region.ready .any ops listed := by
            rw [mem_ready]
            refine ⟨hx1.2, ops[x]'hx1.1, Array.getElem?_eq_getElem hx1.1, fun e hme hb => ?_⟩
            have hlt : e.on < x := by
              simp only [edgesOk, List.all_eq_true, List.mem_range] at he
              have := he x hx1.1
              rw [Array.getElem?_eq_getElem hx1.1] at this
              simp only [Option.map_some, Option.getD_some, List.all_eq_true] at this
              have := this e (Array.mem_toList_iff.2 hme)
              simpa [hb] using this
            have := hmin e.on hlt (by omega)
            rwa [getD_true_false (by omega)] at this
          rw [hnil] at hmem
          cases hmem
      rw [hrem] at h
      have h : K s := h
      simp only [List.reverse_nil, wpOps]
      exact hn s G a w h hfit (Nxt.refl _ _ _)
    | some i =>
      simp only []
      rw [linearise_go_acc, List.reverse_singleton, List.singleton_append, wpOps_cons]
      have hmem := List.mem_of_getElem? hi
      obtain ⟨hun, o, ho', hall⟩ := mem_ready.1 hmem
      have his : i < ops.size := (Array.getElem?_eq_some_iff.1 ho').1
      have hun' : listed.getD i false = false := by rw [← getD_true_false (by omega)]; exact hun
      obtain ⟨p, b, h1, h2, h3⟩ := filter_split (p := fun j => !listed.getD j true) (q := fun j => !(listed.setIfInBounds i true).getD j true) (List.range ops.size) List.pairwise_lt_range (List.mem_range.2 his) (by simp only [hun]; rfl)
        (fun j hj => by rw [getD_set_ne true (Ne.symm hj)]) (by simp [hsz, his])
      have hra : remOf ops listed = p ++ i :: b := h1
      have hrb : remOf ops (listed.setIfInBounds i true) = p ++ b := h2
      have ham : ∀ j, j ∈ p → j < i ∧ listed.getD j false = false := fun j hj => by
        have hm : j ∈ remOf ops listed := by rw [hra]; simp [hj]
        simp only [remOf, List.mem_filter, List.mem_range, Bool.not_eq_true'] at hm
        exact ⟨h3 j hj, by rw [← getD_true_false (by omega)]; exact hm.2⟩
      have hind : ∀ x, x ∈ at_ l p → x.i.constOk = true ∧ x.indep (l.getD i default) = true := by
        intro x hx
        obtain ⟨j, hj, rfl⟩ := List.mem_map.1 hx
        obtain ⟨hji, hjl⟩ := ham j hj
        refine ⟨constOf j (by omega), ?_⟩
        simp only [orderOk, List.all_eq_true, List.mem_range, Bool.or_eq_true] at ho
        rcases ho i (by omega) j hji with hb | hb
        · have := before_closed (S := fun k => listed.getD k false = true) (fun k o hk hko e hm hbb => hcl k o hk hko e hm hbb) ho' hall hb
          simp only [hjl] at this
          exact absurd this (by simp)
        · have e1 : l[j]? = some (l.getD j default) := by
            rw [List.getD_eq_getElem?_getD, List.getElem?_eq_getElem (show j < l.length by omega)]; rfl
          have e2 : l[i]? = some (l.getD i default) := by
            rw [List.getD_eq_getElem?_getD, List.getElem?_eq_getElem (show i < l.length by omega)]; rfl
          rw [e1, e2] at hb
          exact hb
      rw [hra] at h hfr hnd hf
      have hmid : at_ l (p ++ i :: b) = at_ l p ++ l.getD i default :: at_ l b := by simp [at_]
      rw [hmid] at h hfr hnd
      have hperm : (at_ l p ++ l.getD i default :: at_ l b).Perm (l.getD i default :: (at_ l p ++ at_ l b)) := List.perm_middle
      have hnd' := nodup_mks_perm hperm hnd
      have hj := gjump (at_ l p) s _ (l.getD i default) (at_ l b) hind (constOf i his) hfit.sfit (fun x hx d hd hF => by
        rw [hfr x (by
          rcases List.mem_cons.1 hx with rfl | hx
          · simp
          · simp [hx]) d hd] at hF
        simp at hF)
        (by
          have hsub : (mks (l.getD i default :: at_ l p)).Sublist (mks (l.getD i default :: (at_ l p ++ at_ l b))) := by
            refine List.Sublist.filterMap _ ?_
            exact List.Sublist.cons_cons _ (List.sublist_append_left _ _)
          exact hnd'.sublist hsub) h
      change gstep P (l.getD i default) s (fun s' => aops P (at_ l p ++ at_ l b) s' K) at hj
      have hab : at_ l (p ++ b) = at_ l p ++ at_ l b := by simp [at_]
      refine gsound ho' (hl' i o ho') hj hfit (fun s1 G1 a1 w1 k1 g1 x1 n1 => ?_) (hfr (l.getD i default) (by simp))
      refine ih (t / (Region.ready .any ops listed).length) (listed.setIfInBounds i true) s1 G1 a1 w1 (by simp [hsz]) (by
          rw [hrb]
          simp only [List.length_append, List.length_cons] at hf ⊢
          omega) (fun k o hk hko e hm hbb => by
            by_cases e1 : k = i
            · subst e1
              rw [ho'] at hko
              obtain rfl := Option.some.inj hko
              exact getD_set_true (hall e hm hbb)
            · rw [getD_set_ne false (Ne.symm e1)] at hk
              exact getD_set_true (hcl k o hk hko e hm hbb)) g1 (by
            rw [hrb, hab]
            intro x hx d hd
            refine n1.free (hfr x ?_ d hd) fun e => ?_
            · rcases List.mem_append.1 hx with hx | hx <;> simp [hx]
            · simp only [mks, List.filterMap_cons, e, List.nodup_cons] at hnd'
              exact hnd'.1 (List.mem_filterMap.2 ⟨x, hx, hd⟩)) (by
            rw [hrb, hab]
            have hsub : (mks (at_ l p ++ at_ l b)).Sublist (mks (l.getD i default :: (at_ l p ++ at_ l b))) := List.Sublist.filterMap _ (List.sublist_cons_self _ _)
            exact hnd'.sublist hsub) (by rw [hrb, hab]; exact k1) (fun s2 G2 a2 w2 k2 g2 x2 => hn s2 G2 a2 w2 k2 g2 (x1.trans x2))

theorem lower_region {id : Nat} {draw : Bool} {l : LC} (h : lowerC P n hint (.region id ops draw) = some l) :
    ∃ gl, lowerL P n hint ops ops.toList = some gl ∧ nodups (mks gl) = true ∧ l = .ops draw gl ∧ (draw = true → P.follows .mixedOrders = true ∧ orderOk (ancOf ops) gl = true ∧ edgesOk ops = true ∧ gl.all (·.i.constOk) = true) := by
  simp only [lowerC] at h
  split at h
  · rename_i gl hgl
    split at h
    · rename_i hnd
      split at h
      · rename_i hdr
        split at h
        · rename_i hc
          simp only [Option.some.injEq] at h
          simp only [Bool.and_eq_true] at hc
          exact ⟨gl, hgl, hnd, by rw [← h, hdr], fun _ => ⟨hc.1.1.1, hc.1.1.2, hc.1.2, hc.2⟩⟩
        · simp at h
      · rename_i hdr
        simp only [Option.some.injEq] at h
        exact ⟨gl, hgl, hnd, by rw [← h]; simp at hdr; rw [hdr], fun hh => absurd hh hdr⟩
    · simp at h
  · simp at h

/-- A REGION, in whatever order it is run. -/
theorem region_sound {id : Nat} {draw : Bool} {gl : List GI} (h : lowerC P n hint (.region id ops draw) = some (.ops draw gl)) (ha : aops P gl s K) (hg : Good D n s G a w) (hf : ∀ i, s.nx ≤ i → G i = none)
    (hn : ∀ s' G' a' w', K s' → Good D n s' G' a' w' → Nxt s.L G w s'.L G' w' → Q .normal a' w') : (Code.region id ops draw).wp P Q a w := by
  obtain ⟨gl', hgl, hnd, he, hdr⟩ := lower_region h
  simp only [LC.ops.injEq, true_and] at he
  subst he
  obtain ⟨hlen, hl⟩ := lowerL_spec _ _ hgl
  have hlen' : gl.length = ops.size := by simpa using hlen
  have hl' : ∀ i o, ops[i]? = some o → lower1 P n hint ops o = some (gl.getD i default) := fun i o ho => hl i o (by simpa using ho)
  have hnd' := nodups_spec hnd
  cases draw with
  | false =>
    refine wp_region (ops_sound hl' _ s G a w (fun i hi => List.mem_range.1 hi) ?_ hg (fun x _ d _ => hf _ (by omega)) ?_ hn)
    · rw [← hlen', at_range]; exact ha
    · rw [← hlen', at_range]; exact hnd'
  | true =>
    obtain ⟨h1, h2, h3, h4⟩ := hdr rfl
    refine wp_region_draw fun t => ?_
    simp only [Region.schedule, h1, Bool.true_or, if_true]
    obtain ⟨g2, x2⟩ := hg.grow (w' := { w with drawn := w.drawn + 1 }) ⟨rfl, rfl, rfl, Nat.le_refl _, fun _ _ => rfl⟩
    have hrem : remOf ops (Array.replicate ops.size false) = List.range ops.size := by
      simp only [remOf]
      refine List.filter_eq_self.2 fun i hi => ?_
      have := List.mem_range.1 hi
      simp [this]
    have hat : at_ gl (remOf ops (Array.replicate ops.size false)) = gl := by rw [hrem, ← hlen', at_range]
    refine linear hl' hlen' h2 h3 h4 ops.size t (Array.replicate ops.size false) s G a _ (by simp) (by rw [hrem]; simp) (fun k o hk => by
      simp only [Array.getD_eq_getD_getElem?, Array.getElem?_replicate] at hk
      split at hk <;> simp at hk) g2 (fun x _ d _ => hf _ (by omega)) (by rw [hat]; exact hnd') (by rw [hat]; exact ha) (fun s' G' a' w' k g x => hn s' G' a' w' k g (x2.trans x))

end
end Go.Ab
