/- What an abstract state says of a world, and how it is carried from one to the next. No condition. -/
import Derived.Test.YtbipjhcnooellaaAbC
namespace Go.Ab
open Go.RowKit

theorem Nxt.refl (L : Heap) (G : Ghost) (w : World) : Nxt L G w L G w := ⟨G.le_refl, Same.refl _ _, fun _ _ h => h, rfl, rfl, rfl⟩

theorem Nxt.trans {L L' L'' : Heap} {G G' G'' : Ghost} {w w' w'' : World} (h : Nxt L G w L' G' w') (k : Nxt L' G' w' L'' G'' w'') : Nxt L G w L'' G'' w'' := by
  refine ⟨Ghost.le_trans h.le k.le, ⟨Nat.le_trans h.same.1 k.same.1, fun b hb hn => ?_⟩, fun x hx ho => ?_, k.os.trans h.os, k.tape.trans h.tape, k.output.trans h.output⟩
  · rw [← h.same.2 b hb hn]
    exact k.same.2 b (Nat.lt_of_lt_of_le hb h.same.1) fun ho => hn (h.own b hb ho)
  · exact h.own x hx (k.own x (Nat.lt_of_lt_of_le hx h.same.1) ho)

theorem Nxt.rep {D : Nat → Prop} {L L' : Heap} {G G' : Ghost} {w w' : World} (h : Nxt L G w L' G' w') {x : V} {v : Value} (hr : Rep G (Dp D L G) w x v) : Rep G' (Dp D L' G') w' x v :=
  hr.mono h.le (fun b hb hn hd => hd.elim (fun h1 => hn (.inl h1)) fun h1 => hn (.inr (h.own b hb h1))) (h.same.mono fun _ _ ho => .inr ho)

theorem BlkOk.keep {D : Nat → Prop} {L L' : Heap} {G G' : Ghost} {w w' : World} (h : Nxt L G w L' G' w') {g : GB} {b : Blk} (hk : ∀ x, Occ g b x → w'.heap[x]? = w.heap[x]?)
    (hb : BlkOk G (Dp D L G) w g b) : BlkOk G' (Dp D L' G') w' g b := by
  cases b with
  | box ty0 cs =>
    obtain ⟨c, ty, fr, h1, h2, h3, h4, h5⟩ := hb
    exact ⟨c, ty, fr, (hk _ rfl).trans h1, h2, h3, h4, fun i x hx => h.rep (h5 i x hx)⟩
  | vec ty0 sz es =>
    obtain ⟨h1, h2, h3, h4, h5⟩ := hb
    refine ⟨h1, h2, h3, h4, fun hc => ?_⟩
    obtain ⟨c, ty, fr, k1, k2, k3, k4⟩ := h5 hc
    exact ⟨c, ty, fr, (hk _ ⟨hc, rfl⟩).trans k1, k2, k3, fun i j x hx => h.rep (k4 i j x hx)⟩
  | map _ => exact hb.elim
  | bld tb ty bs =>
    obtain ⟨c, fr, cap, o, a, h1, h2, h3, h4, h5, h6, h7, h8, h9, h10⟩ := hb
    refine ⟨c, fr, cap, o, a, (hk _ (.inl rfl)).trans h1, h2, h3, h4, h5, h6, h7, h8, h9, fun hc => ?_⟩
    obtain ⟨k0, k1, k2, cb, fb, k3, k4⟩ := h10 hc
    exact ⟨k0, k1, k2, cb, fb, (hk _ (.inr rfl)).trans k3, k4⟩

theorem Hp.turn {D : Nat → Prop} {n : Nat} {s s' : St} {G G' : Ghost} {w w' : World} (h : Hp D n s G w) (N : Nat → Prop)
    (hx : Nxt s.L G w s'.L G' w') (fin' : ∀ id, s'.nx + n ≤ id → G' id = none)
    (hL : ∀ id b, s'.L id = some b → ¬ N id → s.L id = some b)
    (hkeep : ∀ id b g x, s'.L id = some b → ¬ N id → G id = some g → Occ g b x → w'.heap[x]? = w.heap[x]?)
    (hG : ∀ id b g, s'.L id = some b → ¬ N id → G id = some g → G' id = some g)
    (huniq : ∀ id id', N id → N id' → id = id')
    (hnew : ∀ id b, s'.L id = some b → N id → ∃ g, G' id = some g ∧ BlkOk G' (Dp D s'.L G') w' g b ∧
      ∀ x, Occ g b x → x < w'.heap.size ∧ ¬ D x ∧ ∀ id2 b2 g2, s'.L id2 = some b2 → ¬ N id2 → G id2 = some g2 → ¬ Occ g2 b2 x) : Hp D n s' G' w' := by
  have old : ∀ id b, s'.L id = some b → ¬ N id → ∃ g, G id = some g ∧ G' id = some g ∧ BlkOk G (Dp D s.L G) w g b := fun id b hl hn => by
    obtain ⟨g, h1, h2⟩ := h.blk id b (hL id b hl hn)
    exact ⟨g, h1, hG id b g hl hn h1, h2⟩
  refine ⟨fin', fun id b hl => ?_, fun id id' b b' g g' x hl hl' hg hg' hne ho ho' => ?_, fun x ho => ?_, fun x hd => Nat.lt_of_lt_of_le (h.dlt x hd) hx.same.1⟩
  · by_cases hn : N id
    · obtain ⟨g, h1, h2, _⟩ := hnew id b hl hn; exact ⟨g, h1, h2⟩
    · obtain ⟨g, h1, h2, h3⟩ := old id b hl hn
      exact ⟨g, h2, h3.keep hx fun x ho => hkeep id b g x hl hn h1 ho⟩
  · by_cases hn : N id
    · by_cases hn' : N id'
      · exact hne (huniq _ _ hn hn')
      · obtain ⟨g1, k1, _, k3⟩ := hnew id b hl hn
        obtain rfl : g1 = g := Option.some.inj (k1.symm.trans hg)
        obtain ⟨g2, m1, m2, _⟩ := old id' b' hl' hn'
        obtain rfl : g2 = g' := Option.some.inj (m2.symm.trans hg')
        exact (k3 x ho).2.2 id' b' g2 hl' hn' m1 ho'
    · obtain ⟨g2, m1, m2, _⟩ := old id b hl hn
      obtain rfl : g2 = g := Option.some.inj (m2.symm.trans hg)
      by_cases hn' : N id'
      · obtain ⟨g1, k1, _, k3⟩ := hnew id' b' hl' hn'
        obtain rfl : g1 = g' := Option.some.inj (k1.symm.trans hg')
        exact (k3 x ho').2.2 id b g2 hl hn m1 ho
      · obtain ⟨g3, p1, p2, _⟩ := old id' b' hl' hn'
        obtain rfl : g3 = g' := Option.some.inj (p2.symm.trans hg')
        exact h.apart id id' b b' g2 g3 x (hL _ _ hl hn) (hL _ _ hl' hn') m1 p1 hne ho ho'
  · obtain ⟨id, b, g, hl, hg, ho⟩ := ho
    by_cases hn : N id
    · obtain ⟨g1, k1, _, k3⟩ := hnew id b hl hn
      obtain rfl : g1 = g := Option.some.inj (k1.symm.trans hg)
      exact ⟨(k3 x ho).1, (k3 x ho).2.1⟩
    · obtain ⟨g2, m1, m2, _⟩ := old id b hl hn
      obtain rfl : g2 = g := Option.some.inj (m2.symm.trans hg)
      obtain ⟨q1, q2⟩ := h.away x ⟨id, b, g2, hL _ _ hl hn, m1, ho⟩
      exact ⟨Nat.lt_of_lt_of_le q1 hx.same.1, q2⟩

/-- nothing that was there turns -/
theorem Nxt.grow {L : Heap} {G : Ghost} {w w' : World} (hb : Below w.heap.size w w') : Nxt L G w L G w' :=
  ⟨G.le_refl, ⟨hb.size, fun b h _ => hb.block b h⟩, fun _ _ h => h, hb.os, hb.tape, hb.output⟩

theorem Hp.grow {D : Nat → Prop} {n : Nat} {s : St} {G : Ghost} {w w' : World} (h : Hp D n s G w) (hb : Below w.heap.size w w') : Hp D n s G w' :=
  h.turn (fun _ => False) (Nxt.grow hb) h.fin (fun _ _ hl _ => hl) (fun id b g x hl _ hg ho => hb.block x (h.away x ⟨id, b, g, hl, hg, ho⟩).1) (fun _ _ _ _ _ h => h) (fun _ _ hn => hn.elim) (fun _ _ _ hn => hn.elim)

theorem Hp.congr {D : Nat → Prop} {n : Nat} {s s' : St} {G : Ghost} {w : World} (h : Hp D n s G w) (hL : s'.L = s.L) (hU : s'.nx = s.nx) : Hp D n s' G w := by
  obtain ⟨e, L, U⟩ := s
  obtain ⟨e', L', U'⟩ := s'
  simp only at hL hU
  subst hL hU
  exact ⟨h.fin, h.blk, h.apart, h.away, h.dlt⟩

structure Good (D : Nat → Prop) (n : Nat) (s : St) (G : Ghost) (a : Act) (w : World) : Prop where
  size : a.tmps.size = n
  defers : a.defers = []
  env : ∀ i, Rep G (Dp D s.L G) w (s.env i) (a.tmps.getD i undef)
  hp : Hp D n s G w

theorem Good.later {D : Nat → Prop} {n : Nat} {s : St} {G G' : Ghost} {a : Act} {w w' : World} {L' : Heap} {U' : Nat} (h : Good D n s G a w) (hx : Nxt s.L G w L' G' w') (hh : Hp D n ⟨s.env, L', U'⟩ G' w') :
    Good D n ⟨s.env, L', U'⟩ G' a w' := ⟨h.size, h.defers, fun i => hx.rep (h.env i), hh⟩

theorem Good.put {D : Nat → Prop} {n : Nat} {s : St} {G : Ghost} {a : Act} {w : World} (h : Good D n s G a w) {d : Option Nat} (hd : dstOk n d = true) {x : V} {v : Value} (hr : Rep G (Dp D s.L G) w x v) :
    Good D n (s.setO d x) G (a.put d v) w := by
  cases d with
  | none => exact h
  | some d =>
    have hdn : d < n := by simpa [dstOk] using hd
    refine ⟨by simp [Act.put, h.size], h.defers, fun i => ?_, h.hp.congr rfl rfl⟩
    simp only [St.setO, St.set, Act.put, upd]
    by_cases e : i = d
    · subst e
      simp only [if_true]
      have : i < a.tmps.size := by rw [h.size]; exact hdn
      simpa [Array.getD_eq_getD_getElem?, this] using hr
    · simp only [e, if_false]
      have hne : d ≠ i := fun h => e h.symm
      have := h.env i
      simpa [Array.getD_eq_getD_getElem?, Array.getElem?_setIfInBounds_ne hne] using this

theorem setO_L (s : St) (d : Option Nat) (x : V) : (s.setO d x).L = s.L := by cases d <;> rfl
theorem setO_nx (s : St) (d : Option Nat) (x : V) : (s.setO d x).nx = s.nx := by cases d <;> rfl

theorem ofValue_rep {v : Value} {x : V} (h : ofValue v = some x) (G : Ghost) (D : Nat → Prop) (w : World) : Rep G D w x v := by
  unfold ofValue at h
  split at h <;> first
    | (simp only [Option.some.injEq] at h; subst h; first | exact .bool _ | exact .int _ _ | exact .nilp | exact .nils | exact .nilm | exact .raw _)
    | (split at h
       · rename_i s hs
         simp only [Option.some.injEq] at h
         subst h
         have h1 := Rep.str (G := G) (D := D) (w := w) s.data.toList (by rw [Array.length_toList]; exact hs)
         have e : (⟨s.data.toList.toArray⟩ : ByteArray) = s := by cases s; simp
         rw [e] at h1
         exact h1
       · simp at h)
    | simp at h

theorem eval_rep {D : Nat → Prop} {n : Nat} {s : St} {G : Ghost} {a : Act} {w : World} (h : Good D n s G a w) {o : Operand} {x : Src} (ho : opd n o = some x) : Rep G (Dp D s.L G) w (s.ev x) (a.eval o) := by
  cases o with
  | tmp t =>
    simp only [opd] at ho
    split at ho
    · rename_i ht
      simp only [Option.some.injEq] at ho
      subst ho
      exact h.env t
    · simp at ho
  | const v =>
    simp only [opd, Option.map_eq_some_iff] at ho
    obtain ⟨y, hy, rfl⟩ := ho
    exact ofValue_rep hy _ _ _
  | global g => simp [opd] at ho
  | func f => simp [opd] at ho

/-- which names a step may have given -/
def New (m : Option Nat) (s : St) (G : Ghost) (s' : St) (G' : Ghost) : Prop := s'.nx = s.nx ∧ ∀ id, (G' id).isSome = true → (G id).isSome = true ∨ ∃ d, m = some d ∧ id = s.nx + d

theorem New.same {m : Option Nat} {s s' : St} {G : Ghost} (h : s'.nx = s.nx) : New m s G s' G := ⟨h, fun _ h => .inl h⟩

end Go.Ab
