/- From the lowered code's weakest precondition to a function's contract. No condition. -/
import Derived.Test.YtbipjhcnooellaaAbV
import Derived.Tactics
namespace Go.Ab
open Go.RowKit
set_option linter.unusedVariables false
set_option linter.unusedSimpArgs false

/-- a result of a function: a slot, or what lies where a slot points -/
abbrev RV := Nat × Option (Nat × Bool)

def lowR (P : Program) : ResultVar → Option RV
  | .tmp t => some (t, none)
  | .cell t y => match szOf P y, isAg? P y with
    | some z, some ag => if ag || z = 1 then some (t, some (z, ag)) else none
    | _, _ => none
def lowRs (P : Program) : List ResultVar → Option (List RV)
  | [] => some []
  | r :: l => match lowR P r, lowRs P l with
    | some x, some y => some (x :: y)
    | _, _ => none

def resP : List RV → St → (List V → Prop) → Prop
  | [], _, K => K []
  | (t, none) :: r, s, K => resP r s fun vs => K (s.env t :: vs)
  | (t, some (sz, ag)) :: r, s, K => match s.env t with
    | .ptr id o => match s.L id with
      | some (.box _ cs) => o + sz ≤ cs.length ∧ resP r s fun vs => K (pack ag ((cs.drop o).take sz) :: vs)
      | _ => False
    | _ => False

def one : List V → V
  | [v] => v
  | vs => .tup vs

theorem resP_mono : ∀ {rs : List RV} {s : St} {K K' : List V → Prop}, resP rs s K → (∀ vs, K vs → K' vs) → resP rs s K'
  | [], s, K, K', h, hK => hK _ h
  | (t, none) :: r, s, K, K', h, hK => resP_mono (rs := r) h fun vs h => hK _ h
  | (t, some (sz, ag)) :: r, s, K, K', h, hK => by
    simp only [resP] at *
    split at h
    · split at h
      · exact ⟨h.1, resP_mono h.2 fun vs h => hK _ h⟩
      · exact h.elim
    · exact h.elim
theorem resP_ex : ∀ {rs : List RV} {s : St} {K : List V → Prop}, resP rs s K → ∃ vs, K vs
  | [], s, K, h => ⟨_, h⟩
  | (t, none) :: r, s, K, h => let ⟨vs, h⟩ := resP_ex (rs := r) h; ⟨_, h⟩
  | (t, some (sz, ag)) :: r, s, K, h => by
    simp only [resP] at h
    split at h
    · split at h
      · obtain ⟨vs, h⟩ := resP_ex h.2; exact ⟨_, h⟩
      · exact h.elim
    · exact h.elim

/-- one result -/
def oneR (tmps : Array Value) : ResultVar → Sem Value
  | .tmp t => pure (tmps.getD t undef)
  | .cell c t => do loadVar t (← asAddr (tmps.getD c undef))

theorem results_run {P : Program} {D : Nat → Prop} {n : Nat} {s : St} {G : Ghost} {a : Act} {w : World} (hg : Good D n s G a w) : ∀ (l : List ResultVar) (rs : List RV) (K : List V → Prop), lowRs P l = some rs → resP rs s K →
    ∃ (xs : List V) (vs : List Value), K xs ∧ xs.length = vs.length ∧ (∀ (i : Nat) x, xs[i]? = some x → Rep G (Dp D s.L G) w x (vs.getD i undef)) ∧ (l.mapM (oneR a.tmps)).run P w = .ok vs w
  | [], rs, K, h, hK => by
    simp only [lowRs, Option.some.injEq] at h
    subst h
    exact ⟨[], [], hK, rfl, by simp, rfl⟩
  | r :: l, rs, K, h, hK => by
    simp only [lowRs] at h
    split at h
    · rename_i x y h1 h2
      simp only [Option.some.injEq] at h
      subst h
      have step : ∀ (v : V) (u : Value), Rep G (Dp D s.L G) w v u → resP y s (fun vs => K (v :: vs)) → (oneR a.tmps r).run P w = .ok u w →
          ∃ (xs : List V) (vs : List Value), K xs ∧ xs.length = vs.length ∧ (∀ (i : Nat) x, xs[i]? = some x → Rep G (Dp D s.L G) w x (vs.getD i undef)) ∧ ((r :: l).mapM (oneR a.tmps)).run P w = .ok vs w := by
        intro v u hu hK' hrun
        obtain ⟨xs, vs, k1, k2, k3, k4⟩ := results_run hg l y _ h2 hK'
        refine ⟨v :: xs, u :: vs, k1, by simp [k2], fun i x hx => ?_, ?_⟩
        · cases i with
          | zero => simp at hx; subst hx; simpa using hu
          | succ i => simpa using k3 i x (by simpa using hx)
        · rw [List.mapM_cons, Sem.run_bind]
          erw [hrun]
          simp only [Result.andThen_ok, Sem.run_bind]
          erw [k4]
          simp only [Result.andThen_ok]
          rfl
      cases r with
      | tmp t =>
        simp only [lowR, Option.some.injEq] at h1
        subst h1
        exact step _ _ (hg.env t) hK rfl
      | cell t ty =>
        simp only [lowR] at h1
        split at h1
        · rename_i z ag hz hag
          split at h1
          · rename_i hc
            simp only [Option.some.injEq] at h1
            subst h1
            simp only [resP] at hK
            split at hK
            · rename_i id off hid
              split at hK
              · rename_i cs hL
                have rx := hg.env t
                rw [hid] at rx
                obtain ⟨g, r1, ev⟩ := rep_ptr rx
                obtain ⟨g', k1, c', ty', fr, k2, k3, k4, _, k5⟩ := hg.hp.blk _ _ hL
                obtain rfl : g = g' := Option.some.inj (r1.symm.trans k1)
                have q0 : g.off + off = off := by omega
                rw [q0] at ev
                have get : ∀ (j : Nat) (c : V), ((cs.drop off).take z)[j]? = some c → cs[off + j]? = some c := fun j c hc => by
                  rw [List.getElem?_take] at hc; split at hc <;> first | exact getElem?_drop' hc | cases hc
                have hlen : ((cs.drop off).take z).length = z := by have := hK.1; simp; omega
                have hc' : ag = true ∨ z = 1 := by simpa using hc
                refine step _ _ (rep_pack (q := off) (b := g.blk) hlen hc' fun j c hc => ?_) hK.2 ?_
                · rw [cellD_of_blk k2]; exact k5 _ _ (get j c hc)
                · show (do loadVar ty (← asAddr (a.tmps.getD t undef)) : Sem Value).run P w = _
                  rw [ev]
                  simp only [asAddr, Sem.run_bind, Sem.run_pure, Result.andThen_ok]
                  rw [run_loadVar hz hag hc' fun j hj => ?_]
                  have hj' : off + j < cs.length := by have := hK.1; omega
                  rw [cell_of_blk k2]
                  simp; omega
              · exact hK.elim
            · exact hK.elim
          · simp at h1
        · simp at h1
    · simp at h

theorem run_results {fn : Func} {tmps : Array Value} {P : Program} {w : World} {vs : List Value} (h : (fn.results.toList.mapM (oneR tmps)).run P w = .ok vs w) :
    (results fn tmps).run P w = .ok (if h : vs.toArray.size = 1 then vs.toArray[0] else .tuple vs.toArray) w := by
  have e : fn.results.mapM (oneR tmps) = List.toArray <$> fn.results.toList.mapM (oneR tmps) := by
    have e1 : fn.results.mapM (oneR tmps) = fn.results.toList.toArray.mapM (oneR tmps) := by simp
    rw [e1, List.mapM_toArray]
  have e2 : results fn tmps = (do
      let vs ← fn.results.mapM (oneR tmps)
      pure (if h : vs.size = 1 then vs[0] else .tuple vs)) := rfl
  rw [e2, e]
  simp only [Sem.run_bind]
  have e3 : (List.toArray <$> fn.results.toList.mapM (oneR tmps)).run P w = .ok vs.toArray w := by
    rw [map_eq_pure_bind, Sem.run_bind, h]
    rfl
  rw [e3]
  rfl

theorem rep_res {G : Ghost} {D : Nat → Prop} {w : World} {xs : List V} {vs : List Value} (hl : xs.length = vs.length) (h : ∀ (i : Nat) x, xs[i]? = some x → Rep G D w x (vs.getD i undef)) :
    Rep G D w (one xs) (if h : vs.toArray.size = 1 then vs.toArray[0] else .tuple vs.toArray) := by
  match xs, vs, hl with
  | [x], [v], _ => simpa [one] using h 0 x rfl
  | [], [], _ => exact .tup _ _ rfl (by simp)
  | x :: y :: r, v :: u :: q, hl =>
    have : ¬ ((v :: u :: q).toArray.size = 1) := by simp
    simp only [one, this, dif_neg, not_false_eq_true]
    refine .tup _ _ (by simpa using hl) fun i c hc => ?_
    have := h i c hc
    simpa [Array.getD_eq_getD_getElem?] using this

section
variable {P : Program} {n : Nat} {hint : Nat → Nat}

theorem ghstep_ex {g : Gh} {s : St} {K : St → Prop} (h : ghstep g s K) : ∃ s', K s' := by
  cases g with
  | cut => obtain ⟨M, h1, h2⟩ := h; exact ⟨s, h2 s h1⟩
  | fz => obtain ⟨s', _, h2⟩ := h; exact ⟨s', h2⟩
  | own d ty sz => exact ⟨_, h.2⟩
  | bopen d =>
    simp only [ghstep] at h
    split at h
    · split at h
      · rename_i tb ty bs hL
        by_cases hb : bs = []
        · exact ⟨_, (h .nilp (.inl rfl)).1 hb⟩
        · exact ⟨_, (h .nilp (.inl rfl)).2 hb⟩
      · exact h.elim
    · exact h.elim
  | bclose d ty =>
    simp only [ghstep] at h
    split at h
    · split at h
      · obtain ⟨_, h⟩ := h
        split at h
        · exact ⟨_, h⟩
        · obtain ⟨_, _, h⟩ := h
          split at h
          · obtain ⟨_, _, bs, _, h⟩ := h
            exact ⟨_, h⟩
          · exact h.elim
        · exact h.elim
      · exact h.elim
    · exact h.elim
  | frz d =>
    simp only [ghstep] at h
    split at h
    · split at h
      · exact ⟨_, h.2.2⟩
      · exact h.elim
    · exact h.elim

theorem awp_ex : ∀ (c : C) (s : St) (K : X → St → Prop), c.ok = true → awp P n c K s → ∃ x s', K x s' := by
  intro c
  induction c with
  | skip => intro s K _ h; exact ⟨.norm, s, h⟩
  | bad => intro s K _ h; exact h.elim
  | ops d l =>
    intro s K hok h
    obtain ⟨s', h'⟩ := aops_ex (gruns_flat l s hok h)
    exact ⟨.norm, _, h'⟩
  | seq x y ihx ihy =>
    intro s K hok h
    simp only [C.ok, Bool.and_eq_true] at hok
    obtain ⟨x', s', h'⟩ := ihx s _ hok.1 h
    cases x' with
    | norm => exact ihy s' K hok.2 h'
    | exit id => exact ⟨_, s', h'⟩
    | ret => exact ⟨_, s', h'⟩
  | seqc x y ihx ihy =>
    intro s K hok h
    simp only [C.ok, Bool.and_eq_true] at hok
    obtain ⟨M, h1, h2⟩ := h
    obtain ⟨x', s', h'⟩ := ihx s _ hok.1 h1
    cases x' with
    | norm => exact ihy s' K hok.2 (h2 s' h')
    | exit id => exact ⟨_, s', h'⟩
    | ret => exact ⟨_, s', h'⟩
  | cond z x y ihx ihy =>
    intro s K hok h
    simp only [C.ok, Bool.and_eq_true] at hok
    simp only [awp] at h
    split at h
    · rename_i m b e
      cases b
      · exact ihy _ K hok.2 (h.2 rfl)
      · exact ihx _ K hok.1 (h.1 rfl)
    · split at h
      · exact ihx _ K hok.1 h
      · exact ihy _ K hok.2 h
    · exact h.elim
  | block id x ihx =>
    intro s K hok h
    obtain ⟨x', s', h'⟩ := ihx s _ hok h
    cases x' with
    | norm => exact ⟨_, s', h'⟩
    | ret => exact ⟨_, s', h'⟩
    | exit m =>
      simp only [blkK] at h'
      split at h'
      · exact ⟨_, s', h'⟩
      · exact ⟨_, s', h'⟩
  | loop x ihx =>
    intro s K hok h
    obtain ⟨J, ⟨m0, h0⟩, hJ⟩ := h
    have key : ∀ m s, J m s → ∃ x s', K x s' := by
      intro m
      induction m using Nat.strongRecOn with
      | _ m ih =>
        intro s hs
        obtain ⟨x', s', h'⟩ := ihx s _ hok (hJ m s hs)
        cases x' with
        | norm => obtain ⟨m', hlt, hj⟩ := h'; exact ih m' hlt s' hj
        | exit id => exact ⟨_, s', h'⟩
        | ret => exact ⟨_, s', h'⟩
    exact key m0 s h0
  | exit id => intro s K _ h; exact ⟨_, s, h⟩
  | ret => intro s K _ h; exact ⟨_, s, h⟩
  | gh g x ihx =>
    intro s K hok h
    obtain ⟨s', h'⟩ := ghstep_ex h
    exact ihx s' K hok h'
  | gha g x ihx =>
    intro s K hok h
    obtain ⟨x', s', h'⟩ := ihx s _ hok h
    cases x' with
    | norm => obtain ⟨s2, h2⟩ := ghstep_ex h'; exact ⟨.norm, s2, h2⟩
    | exit id => exact ⟨_, s', h'⟩
    | ret => exact ⟨_, s', h'⟩

/-- A function of the program, with its lowered code. -/
structure Fn (P : Program) (f : Nat) (n : Nat) (rs : List RV) (c : C) : Prop where
  get : ∃ fn code hint, P.funcs[f]? = some fn ∧ fn.body = some code ∧ fn.ntmps = n ∧ lowRs P fn.results.toList = some rs ∧ lowerC P n hint code = some c.erase
  ok : c.ok = true
  pos : 0 < n

/-- the state in which a function begins -/
def St.enter (args : List V) (L : Heap) (nx : Nat) : St := ⟨fun i => args.getD i .junk, L, nx⟩

/-- what is asked where a function ends -/
def endK (rs : List RV) (post : V → Heap → Nat → Prop) : X → St → Prop
  | .norm, s => resP rs s fun vs => post (one vs) s.L s.nx
  | .ret, s => resP rs s fun vs => post (one vs) s.L s.nx
  | .exit _, _ => False

theorem good_enter {D : Nat → Prop} {args : List V} {L : Heap} {nx : Nat} {G : Ghost} {w : World} {vs : Array Value} (hn : args.length ≤ n) (hp : Hp D 0 ⟨fun _ => .junk, L, nx⟩ G w) (hl : args.length = vs.size)
    (hr : ∀ i x, args[i]? = some x → Rep G (Dp D L G) w x (vs.getD i undef)) : Good D n (.enter args L nx) G { tmps := vs ++ Array.replicate (n - vs.size) undef, defers := [] } w := by
  refine ⟨by simp; omega, rfl, fun i => ?_, ⟨fun id hid => hp.fin id (by simp only [St.enter] at hid ⊢; omega), hp.blk, hp.apart, hp.away, hp.dlt⟩⟩
  simp only [St.enter]
  rcases Nat.lt_or_ge i args.length with h | h
  · have h1 := hr i args[i] (List.getElem?_eq_getElem h)
    have e1 : args.getD i .junk = args[i] := by simp [List.getD, h]
    have hv : i < vs.size := by omega
    have e2 : (vs ++ Array.replicate (n - vs.size) undef).getD i undef = vs.getD i undef := by
      simp [Array.getD_eq_getD_getElem?, Array.getElem?_append, hv]
    rw [e1]
    simp only [e2]
    exact h1
  · have e1 : args.getD i .junk = .junk := by simp [List.getD, List.getElem?_eq_none h]
    rw [e1]
    exact .junk _

theorem ecall_of {f : Nat} {rs : List RV} {c : C} {args : List V} {L : Heap} {nx : Nat} {post : V → Heap → Nat → Prop} (hf : Fn P f n rs c) (hn : args.length ≤ n)
    (h : awp P n c (endK rs fun r L' nx' => nx ≤ nx' ∧ post r L' nx') (.enter args L nx)) : ECall P f args L nx post := by
  obtain ⟨fn, code, hint, h1, h2, h3, h4, h5⟩ := hf.get
  refine ⟨?_, fun D G w vs hp hl hr => ?_⟩
  · obtain ⟨x, s', hk⟩ := awp_ex c _ _ hf.ok h
    cases x with
    | norm => obtain ⟨vs, hk⟩ := resP_ex hk; exact ⟨_, _, _, hk.2⟩
    | ret => obtain ⟨vs, hk⟩ := resP_ex hk; exact ⟨_, _, _, hk.2⟩
    | exit id => exact hk.elim
  · refine calls_of_wp h1 h2 ?_
    rw [h3]
    refine csound hf.pos c code h5 hf.ok _ G _ w _ _ h (good_enter hn hp hl hr) (fun i hi => hp.fin i hi) ?_
    have fin : ∀ s' G' a' w', (resP rs s' fun vs => nx ≤ s'.nx ∧ post (one vs) s'.L s'.nx) → Good D n s' G' a' w' → Nxt L G w s'.L G' w' → (∀ i, s'.nx ≤ i → G' i = none) →
        a'.defers = [] ∧ ∃ v, (results fn a'.tmps).run P w' = .ok v w' ∧ ∃ v' r L' nx' G'', Ending.returned v = .returned v' ∧ post r L' nx' ∧ Hp D 0 ⟨fun _ => .junk, L', nx'⟩ G'' w' ∧ nx ≤ nx' ∧ Nxt L G w L' G'' w' ∧ Rep G'' (Dp D L' G'') w' r v' := by
      intro s' G' a' w' k g x f
      obtain ⟨xs, vs', ⟨q1, q2⟩, q3, q4, q5⟩ := results_run g _ rs _ h4 k
      exact ⟨g.defers, _, run_results q5, _, one xs, s'.L, s'.nx, G', rfl, q2, ⟨f, g.hp.blk, g.hp.apart, g.hp.away, g.hp.dlt⟩, q1, x, rep_res q3 q4⟩
    intro x s' G' a' w' k g x' f
    cases x with
    | norm => exact fin s' G' a' w' k g x' f
    | ret => exact fin s' G' a' w' k g x' f
    | exit id => exact k.elim

/-- A PURE FUNCTION: its result as somebody sees it who may only read. -/
theorem ptr_of {f : Nat} {rs : List RV} {c : C} {args : List V} {r : V} (hf : Fn P f n rs c) (hn : args.length ≤ n) (hi : r.imm = true)
    (h : awp P n c (endK rs fun r' L' _ => view L' 3 r' = r) (.enter args (fun _ => none) 0)) : PTr P f args r := by
  have hE : ECall P f args (fun _ => none) 0 fun r' L' _ => view L' 3 r' = r := by
    refine ecall_of hf hn ?_
    have : (endK rs fun r' L' nx' => 0 ≤ nx' ∧ view L' 3 r' = r) = endK rs fun r' L' _ => view L' 3 r' = r := by
      funext x s
      cases x <;> simp [endK]
    rw [this]
    exact h
  intro D w vs hD hl hr
  have hp : Hp D 0 ⟨fun _ => .junk, fun _ => none, 0⟩ (fun _ => none) w := ⟨fun _ _ => rfl, fun id b h => by simp at h, fun id id' b b' g g' x h => by simp at h, fun x ho => by
    obtain ⟨id, b, g, h, _⟩ := ho
    simp at h, hD⟩
  refine (hE.2 D (fun _ => none) w vs hp hl fun i x hx => (hr i x hx).mono (Ghost.le_refl _) (fun b _ hn hd => ?_) (Same.refl _ _)).mono ?_
  · rcases hd with hd | ⟨id, b, g, h, _⟩
    · exact hn hd
    · simp at h
  · rintro e w' ⟨v, r', L', nx', G', rfl, hpost, hp', _, hx, hrep⟩
    refine ⟨v, rfl, ⟨hx.os, hx.tape, hx.output, hx.same.1, fun b hb => hx.same.2 b hb ?_⟩, ?_⟩
    · rintro ⟨id, b, g, h, _⟩
      simp at h
    · have := rep_view hp' 3 hrep 3 (Nat.le_refl _)
      simp only at this
      rw [hpost] at this
      exact this.free hi _

end
end Go.Ab
