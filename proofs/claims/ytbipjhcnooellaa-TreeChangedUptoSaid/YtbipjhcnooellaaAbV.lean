/- Code that is lowered is sound, and so a function is. No condition. -/
import Derived.Test.YtbipjhcnooellaaAbU
namespace Go.Ab
open Go.RowKit
set_option linter.unusedVariables false
set_option linter.unusedSimpArgs false

theorem wp_loop_ix {P : Program} {Q : Exit → Act → World → Prop} {c : Code} (I : Nat → Act → World → Prop)
    (round : ∀ m a w, I m a w → c.wp P (Exit.then (fun a' w' => ∃ m', m' < m ∧ I m' a' w') Q) a w) {m : Nat} {a : Act} {w : World} (h₀ : I m a w) : (Code.loop c).wp P Q a w := by
  intro b k cs
  have key : ∀ m a w, I m a w → ∃ e a' w', Q e a' w' ∧ Arrives P (lone (b.at a (.code c :: .inLoop c :: k)) cs w) b k cs e a' w' := by
    intro m
    induction m using Nat.strongRecOn with
    | _ m ih =>
      intro a w hI
      obtain ⟨e, a₁, w₁, hq, harr⟩ := round m a w hI b (.inLoop c :: k) cs
      cases e with
      | normal =>
        obtain ⟨m', hlt, hI₁⟩ := hq
        obtain ⟨e₂, a₂, w₂, hq₂, harr₂⟩ := ih m' hlt a₁ w₁ hI₁
        exact ⟨e₂, a₂, w₂, hq₂, .of_steps (Steps.trans harr (.one step_inLoop)) harr₂⟩
      | exit id => exact ⟨_, a₁, w₁, hq, .pass (x := .inLoop c) rfl (fun _ _ => .inl (by simp)) harr⟩
      | goto l => exact ⟨_, a₁, w₁, hq, .pass (x := .inLoop c) rfl (fun _ _ => .inl (by simp)) harr⟩
      | ret => exact ⟨_, a₁, w₁, hq, .pass (x := .inLoop c) rfl (fun _ _ => .inl (by simp)) harr⟩
      | panic ch => exact ⟨_, a₁, w₁, hq, .pass (x := .inLoop c) rfl (fun _ _ => .inl (by simp)) harr⟩
      | outgrown => exact ⟨_, a₁, w₁, hq, .pass (x := .inLoop c) rfl (fun _ _ => .inl (by simp)) harr⟩
  obtain ⟨e, a', w', hq, harr⟩ := key _ a w h₀
  exact ⟨e, a', w', hq, .of_steps (.one step_loop) harr⟩

section
variable {P : Program} {D : Nat → Prop} {n : Nat} {hint : Nat → Nat}

theorem ends_seq {L L' : Heap} {G G' : Ghost} {w w' : World} {K : X → St → Prop} {Q : Exit → Act → World → Prop} (hx : Nxt L G w L' G' w') (h : Ends D n L G w K Q) : Ends D n L' G' w' K Q :=
  fun x s2 G2 a2 w2 k g x2 f => h x s2 G2 a2 w2 k g (hx.trans x2) f

theorem ends_then {L : Heap} {G : Ghost} {w : World} {N : St → Prop} {K : X → St → Prop} {Q : Exit → Act → World → Prop} {next : Act → World → Prop} (h : Ends D n L G w K Q)
    (hn : ∀ s' G' a' w', N s' → Good D n s' G' a' w' → Nxt L G w s'.L G' w' → (∀ i, s'.nx ≤ i → G' i = none) → next a' w') : Ends D n L G w (seqK N K) (Exit.then next Q) := by
  intro x s' G' a' w' k g x' f
  cases x with
  | norm => exact hn s' G' a' w' k g x' f
  | exit id => exact h (.exit id) s' G' a' w' k g x' f
  | ret => exact h .ret s' G' a' w' k g x' f

def Inv (P : Program) (n : Nat) (hint : Nat → Nat) (code : Code) : LC → Prop
  | .skip => code = .skip
  | .bad => True
  | .ops d gl => ∃ id ops, code = .region id ops d
  | .seq x y => ∃ p q, code = .seq p q ∧ lowerC P n hint p = some x ∧ lowerC P n hint q = some y
  | .cond c x y => ∃ o p q, code = .cond o p q ∧ opd n o = some c ∧ lowerC P n hint p = some x ∧ lowerC P n hint q = some y
  | .block id x => ∃ p, code = .block id p ∧ lowerC P n hint p = some x
  | .loop x => ∃ p, code = .loop p ∧ lowerC P n hint p = some x
  | .exit id => code = .exit id
  | .ret => code = .ret

theorem lower_inv {code : Code} {l : LC} (h : lowerC P n hint code = some l) : Inv P n hint code l := by
  cases code
  case region id ops draw =>
    obtain ⟨gl, _, _, h3, _⟩ := lower_region h
    subst h3
    exact ⟨id, ops, rfl⟩
  case seq p q =>
    simp only [lowerC] at h
    split at h
    · rename_i u v h1 h2
      simp only [Option.some.injEq] at h
      subst h
      exact ⟨p, q, rfl, h1, h2⟩
    · simp at h
  case cond o p q =>
    simp only [lowerC] at h
    split at h
    · rename_i c u v h0 h1 h2
      simp only [Option.some.injEq] at h
      subst h
      exact ⟨o, p, q, rfl, h0, h1, h2⟩
    · simp at h
  case block id p =>
    simp only [lowerC] at h
    obtain ⟨u, h1, rfl⟩ := Option.map_eq_some_iff.1 h
    exact ⟨p, rfl, h1⟩
  case loop p =>
    simp only [lowerC] at h
    obtain ⟨u, h1, rfl⟩ := Option.map_eq_some_iff.1 h
    exact ⟨p, rfl, h1⟩
  all_goals simp only [lowerC, Option.some.injEq] at h
  all_goals first | (subst h; exact trivial) | (subst h; rfl) | (simp at h; done)

/-- ALL CODE. -/
theorem csound (hn0 : 0 < n) : ∀ (c : C) (code : Code), lowerC P n hint code = some c.erase → c.ok = true → ∀ (s : St) (G : Ghost) (a : Act) (w : World) (K : X → St → Prop) (Q : Exit → Act → World → Prop),
    awp P n c K s → Good D n s G a w → (∀ i, s.nx ≤ i → G i = none) → Ends D n s.L G w K Q → code.wp P Q a w := by
  intro c
  induction c with
  | skip =>
    intro code hl hok s G a w K Q h hg hf he
    have inv := lower_inv hl
    obtain rfl := inv
    exact wp_skip (he .norm s G a w h hg (Nxt.refl _ _ _) hf)
  | bad => intro code hl hok s G a w K Q h; exact h.elim
  | ops d l =>
    intro code hl hok s G a w K Q h hg hf he
    have inv := lower_inv hl
    obtain ⟨id, ops, rfl⟩ := inv
    exact region_sound hl (gruns_flat l s hok h) hg hf fun s' G' a' w' k g x => he .norm _ G' a' w' k g.past.1 x g.past.2
  | seq x y ihx ihy =>
    intro code hl hok s G a w K Q h hg hf he
    simp only [C.ok, Bool.and_eq_true] at hok
    have inv := lower_inv hl
    obtain ⟨p, q, rfl, h1, h2⟩ := inv
    exact wp_seq (ihx p h1 hok.1 s G a w _ _ h hg hf (ends_then he fun s' G' a' w' k g x f => ihy q h2 hok.2 s' G' a' w' K Q k g f (ends_seq x he)))
  | seqc x y ihx ihy =>
    intro code hl hok s G a w K Q h hg hf he
    simp only [C.ok, Bool.and_eq_true] at hok
    obtain ⟨M, hM1, hM2⟩ := h
    have inv := lower_inv hl
    obtain ⟨p, q, rfl, h1, h2⟩ := inv
    exact wp_seq (ihx p h1 hok.1 s G a w _ _ hM1 hg hf (ends_then he fun s' G' a' w' k g x f => ihy q h2 hok.2 s' G' a' w' K Q (hM2 s' k) g f (ends_seq x he)))
  | cond z x y ihx ihy =>
    intro code hl hok s G a w K Q h hg hf he
    simp only [C.ok, Bool.and_eq_true] at hok
    have inv := lower_inv hl
    obtain ⟨o, p, q, rfl, h0, h1, h2⟩ := inv
    · · have hr := eval_rep hg h0
        cases z with
        | t m =>
          simp only [awp] at h
          split at h <;> try (exact h.elim)
          · rename_i m' b e1 e2
            cases e1
            rw [e2] at hr
            have hb := rep_bool hr
            have hs : ∀ b', b = b' → s.set m (.bool b') = s := fun b' e => set_id (by rw [← e]; exact e2)
            refine wp_cond_split hb (fun ht => ?_) (fun ht => ?_)
            · have := h.1 ht
              rw [hs _ ht] at this
              exact ihx p h1 hok.1 s G a w K Q this hg hf he
            · have := h.2 ht
              rw [hs _ ht] at this
              exact ihy q h2 hok.2 s G a w K Q this hg hf he
          · rename_i e1 _; cases e1
        | k v' =>
          simp only [awp] at h
          split at h <;> try (exact h.elim)
          · rename_i e1 _; cases e1
          · rename_i m' b e1 e2
            cases e1
            rw [e2] at hr
            have hb := rep_bool hr
            refine wp_cond_split hb (fun ht => ?_) (fun ht => ?_)
            · simp only [ht, if_true] at h
              exact ihx p h1 hok.1 s G a w K Q h hg hf he
            · simp only [ht, Bool.false_eq_true, if_false] at h
              exact ihy q h2 hok.2 s G a w K Q h hg hf he
  | block id x ihx =>
    intro code hl hok s G a w K Q h hg hf he
    have inv := lower_inv hl
    · obtain ⟨p, rfl, h1⟩ := inv
      refine wp_block (ihx p h1 hok s G a w _ _ h hg hf ?_)
      intro x' s' G' a' w' k g x f
      cases x' with
      | norm => exact he .norm s' G' a' w' k g x f
      | ret => exact he .ret s' G' a' w' k g x f
      | exit m =>
        simp only [blkK] at k
        simp only [toExit, Exit.inBlock]
        by_cases e : m = id
        · simp only [e, if_true] at k ⊢
          exact he .norm s' G' a' w' k g x f
        · simp only [e, if_false] at k ⊢
          exact he (.exit m) s' G' a' w' k g x f
  | loop x ihx =>
    intro code hl hok s G a w K Q h hg hf he
    have inv := lower_inv hl
    · obtain ⟨p, rfl, h1⟩ := inv
      obtain ⟨J, ⟨m0, hJ0⟩, hJ⟩ := h
      refine wp_loop_ix (fun m a' w' => ∃ s' G', J m s' ∧ Good D n s' G' a' w' ∧ Nxt s.L G w s'.L G' w' ∧ ∀ i, s'.nx ≤ i → G' i = none) (fun m a1 w1 hI => ?_) (m := m0) ⟨s, G, hJ0, hg, Nxt.refl _ _ _, hf⟩
      obtain ⟨s1, G1, j1, g1, x1, f1⟩ := hI
      refine ihx p h1 hok s1 G1 a1 w1 _ _ (hJ m s1 j1) g1 f1 (ends_then (ends_seq x1 he) fun s2 G2 a2 w2 k2 g2 x2 f2 => ?_)
      obtain ⟨m2, hlt, j2⟩ := k2
      exact ⟨m2, hlt, s2, G2, j2, g2, x1.trans x2, f2⟩
  | exit id =>
    intro code hl hok s G a w K Q h hg hf he
    have inv := lower_inv hl
    · obtain rfl := inv
      exact wp_exit (he (.exit id) s G a w h hg (Nxt.refl _ _ _) hf)
  | ret =>
    intro code hl hok s G a w K Q h hg hf he
    have inv := lower_inv hl
    · obtain rfl := inv
      exact wp_ret (he .ret s G a w h hg (Nxt.refl _ _ _) hf)
  | gh g x ihx =>
    intro code hl hok s G a w K Q h hg hf he
    obtain ⟨s', G', h1, h2, h3, h4⟩ := gh_sound hn0 h hg hf
    exact ihx code hl hok s' G' a w K Q h1 h2 h4 (ends_seq h3 he)
  | gha g x ihx =>
    intro code hl hok s G a w K Q h hg hf he
    refine ihx code hl hok s G a w _ Q h hg hf ?_
    intro x' s' G' a' w' k g' x2 f
    cases x' with
    | norm =>
      obtain ⟨s2, G2, h1, h2, h3, h4⟩ := gh_sound hn0 k g' f
      exact he .norm s2 G2 a' w' h1 h2 (x2.trans h3) h4
    | exit id => exact he (.exit id) s' G' a' w' k g' x2 f
    | ret => exact he .ret s' G' a' w' k g' x2 f

end
end Go.Ab
