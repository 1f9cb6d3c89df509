/- The lowered operations that leave memory alone are sound. No condition. -/
import Derived.Test.YtbipjhcnooellaaAbE
import Derived.Lib.Strings
namespace Go.Ab
open Go.RowKit
set_option linter.unusedVariables false
set_option linter.unusedSimpArgs false

section
variable {P : Program} {D : Nat → Prop} {n : Nat} {hint : Nat → Nat} {s : St} {G : Ghost} {a : Act} {w : World} {o : Oper} {K : St → Prop} {next : Act → World → Prop} {Q : Exit → Act → World → Prop} {m : Option Nat}

/-- what is to be shown of each operation -/
def Sound (P : Program) (D : Nat → Prop) (n : Nat) (o : Oper) (i : I) : Prop :=
  ∀ (s : St) (G : Ghost) (a : Act) (w : World) (K : St → Prop) (next : Act → World → Prop) (Q : Exit → Act → World → Prop), istep P i s K → Good D n s G a w →
    (∀ s' G' a' w', K s' → Good D n s' G' a' w' → Nxt s.L G w s'.L G' w' → New i.mk s G s' G' → next a' w') → (∀ d, i.mk = some d → G (s.nx + d) = none) → o.upon P a next Q ((execOp a.eval o).run P w)

theorem run_v (m : Sem Value) : (do let x ← m; pure (Next.value x) : Sem Next).run P w = (m.run P w).andThen fun x w' => .ok (.value x) w' := by
  simp

theorem bound_spec {x : Option Operand} {y : Option Src} (hx : opdO n x = some y) (hg : Good D n s G a w) {d : Nat} {K' : Nat → Prop} (h : bound (y.map s.ev) d K') :
    (x = none ∧ K' d) ∨ ∃ z k i, x = some z ∧ a.eval z = .int k i ∧ 0 ≤ i ∧ K' i.toNat := by
  cases x with
  | none =>
    simp only [opdO, Option.some.injEq] at hx
    subst hx
    exact .inl ⟨rfl, h⟩
  | some z =>
    simp only [opdO, Option.map_eq_some_iff] at hx
    obtain ⟨q, hq, rfl⟩ := hx
    have hr := eval_rep hg hq
    simp only [Option.map_some, bound] at h
    split at h
    · rename_i hh; simp at hh
    · rename_i k i hh
      simp only [Option.some.injEq] at hh
      rw [hh] at hr
      exact .inr ⟨z, k, i, rfl, rep_int hr, h.1, h.2⟩
    · exact h.elim

theorem run_bounds (sl : Bool) (len cap : Nat) {lo hi : Option Operand} {lo' hi' : Option Src} (hlo : opdO n lo = some lo') (hhi : opdO n hi = some hi') (hg : Good D n s G a w) {K' : Nat → Nat → Prop} (hc : len ≤ cap)
    (h : bound (lo'.map s.ev) 0 fun l => bound (hi'.map s.ev) len fun h => l ≤ h ∧ h ≤ len ∧ K' l h) :
    ∃ l h, l ≤ h ∧ h ≤ len ∧ K' l h ∧ (Instr.sliceBounds sl len cap (lo.map a.eval) (hi.map a.eval) none).run P w = .ok (l, h, cap) w := by
  rcases bound_spec hlo hg h with ⟨rfl, h1⟩ | ⟨zl, kl, il, rfl, el, pl, h1⟩
  · rcases bound_spec hhi hg h1 with ⟨rfl, h2⟩ | ⟨zh, kh, ih, rfl, eh, ph, h2⟩
    · exact ⟨_, _, h2.1, h2.2.1, h2.2.2, by simp [Instr.sliceBounds]⟩
    · have e : ih ≤ cap := by omega
      exact ⟨_, _, h2.1, h2.2.1, h2.2.2, by simp [Instr.sliceBounds, Instr.sliceBound, eh, asIntOf, ph, e]⟩
  · rcases bound_spec hhi hg h1 with ⟨rfl, h2⟩ | ⟨zh, kh, ih, rfl, eh, ph, h2⟩
    · have e : il ≤ len := by omega
      exact ⟨_, _, h2.1, h2.2.1, h2.2.2, by simp [Instr.sliceBounds, Instr.sliceBound, el, asIntOf, pl, e]⟩
    · have e : ih ≤ cap := by omega
      have e2 : il ≤ ih := by omega
      exact ⟨_, _, h2.1, h2.2.1, h2.2.2, by simp [Instr.sliceBounds, Instr.sliceBound, el, eh, asIntOf, pl, ph, e, e2, Int.toNat_of_nonneg ph]⟩

theorem mk_extract (t : List UInt8) (l h : Nat) : (⟨t.toArray⟩ : ByteArray).extract l h = ⟨((t.take h).drop l).toArray⟩ := by
  apply ByteArray.ext
  apply Array.ext'
  rw [Lib.extract_data]
  simp [List.drop_take]

theorem rep_ptrs {x : V} {v : Value} (h : Rep G D w x v) (hx : (match x with | .cptr _ | .ptr _ _ | .eptr _ _ _ => true | _ => false) = true) : ∃ b q, v = .pointer (some ⟨b, q, none⟩) := by
  cases h <;> simp at hx <;> exact ⟨_, _, rfl⟩

theorem s_mov {y : Src} (hd : dstOk n o.dst = true) (x : Operand) (hx : opd n x = some y) (ho : o.op = .move x ∨ o.op = .assign x) : Sound P D n o (.mov o.dst y) := by
  intro s G a w K next Q h hg hn hfree
  refine val_step hg hd hn (x := s.ev y) (v := a.eval x) ?_ (eval_rep hg hx) h
  rcases ho with ho | ho <;> simp only [execOp, ho] <;> rfl

theorem s_pick (hd : dstOk n o.dst = true) {c x y : Operand} {c' x' y' : Src} (hc : opd n c = some c') (hx : opd n x = some x') (hy : opd n y = some y') (ho : o.op = .pick c x y) : Sound P D n o (.pick o.dst c' x' y') := by
  intro s G a w K next Q h hg hn hfree
  have rc := eval_rep hg hc
  simp only [istep] at h
  split at h
  · rename_i t ht
    rw [ht] at rc
    refine val_step hg hd hn (x := if t then s.ev x' else s.ev y') (v := if t then a.eval x else a.eval y) ?_ ?_ h
    · simp [execOp, ho, rep_bool rc, asBool]
    · cases t
      · exact eval_rep hg hy
      · exact eval_rep hg hx
  · exact h.elim

theorem s_bin (hd : dstOk n o.dst = true) {op : BinOp} {t t' : TypeId} {x y : Operand} {x' y' : Src} (hx : opd n x = some x') (hy : opd n y = some y') (ho : o.op = .binOp op t x y t') : Sound P D n o (.bin o.dst op x' y') := by
  intro s G a w K next Q h hg hn hfree
  have rx := eval_rep hg hx
  have ry := eval_rep hg hy
  simp only [istep, vbin] at h
  split at h
  · rename_i k p k' q hp hq
    obtain ⟨rfl, h⟩ := h
    rw [hp] at rx
    rw [hq] at ry
    obtain ⟨z, hz, r, hr, hK⟩ := run_vint (P := P) (G := G) (D := Dp D s.L G) (w := w) op k t p q _ h
    refine val_step hg hd hn (x := r) (v := z) ?_ hr hK
    simp only [execOp, ho, rep_int rx, rep_int ry]
    rw [run_v, Sem.run_bind, run_eqGuard_plain _ _ _ _ _ _ rfl, Result.andThen_ok, hz]
    rfl
  · rename_i p q hp hq
    rw [hp] at rx
    rw [hq] at ry
    obtain ⟨z, hz, r, hr, hK⟩ := run_vstr (P := P) (G := G) (D := Dp D s.L G) (w := w) op t p q _ h
    refine val_step hg hd hn (x := r) (v := z) ?_ hr hK
    simp only [execOp, ho, (rep_str rx).1, (rep_str ry).1]
    rw [run_v, Sem.run_bind, run_eqGuard_plain _ _ _ _ _ _ rfl, Result.andThen_ok, hz]
    rfl
  · exact h.elim

theorem run_eq_nil {op : BinOp} {t : TypeId} (hop : op = .eql ∨ op = .neq) {u v : Value} {b : Bool} (h : (Op.equalIn 10000 t u v).run P w = .ok b w) (hu : ∀ k p, u ≠ .int k p) (hf : ∀ k p, u ≠ .float k p) (hc : ∀ k p q, u ≠ .complex k p q) (hs : ∀ p, u ≠ .string p) :
    (binOp op t u v).run P w = .ok (.bool (b != (op == .neq))) w := by
  rcases hop with rfl | rfl
  · have e : binOp .eql t u v = (do pure (.bool (← Op.equal t u v))) := by
      cases u <;> first | rfl | (exact absurd rfl (hu _ _)) | (exact absurd rfl (hf _ _)) | (exact absurd rfl (hc _ _ _)) | (exact absurd rfl (hs _))
    rw [e]
    simp only [Op.equal, Op.maxDepth, Sem.run_bind, h, Result.andThen_ok, Sem.run_pure]
    cases b <;> rfl
  · have e : binOp .neq t u v = (do pure (.bool (!(← Op.equal t u v)))) := by
      cases u <;> first | rfl | (exact absurd rfl (hu _ _)) | (exact absurd rfl (hf _ _)) | (exact absurd rfl (hc _ _ _)) | (exact absurd rfl (hs _))
    rw [e]
    simp only [Op.equal, Op.maxDepth, Sem.run_bind, h, Result.andThen_ok, Sem.run_pure]
    cases b <;> rfl

theorem s_eqB (hd : dstOk n o.dst = true) {op : BinOp} {t t' : TypeId} {x y : Operand} {x' y' : Src} (hx : opd n x = some x') (hy : opd n y = some y') (hop : op = .eql ∨ op = .neq)
    (ht : P.underlying t = some .bool) (ho : o.op = .binOp op t x y t') : Sound P D n o (.eqB o.dst (op == .neq) x' y') := by
  intro s G a w K next Q h hg hn hfree
  have rx := eval_rep hg hx
  have ry := eval_rep hg hy
  simp only [istep] at h
  split at h
  · rename_i p q hp hq
    rw [hp] at rx
    rw [hq] at ry
    refine val_step hg hd hn (x := .bool ((p == q) != (op == .neq))) (v := .bool ((p == q) != (op == .neq))) ?_ (.bool _) h
    simp only [execOp, ho, rep_bool rx, rep_bool ry]
    rw [run_v, Sem.run_bind, run_eqGuard_plain _ _ _ _ _ _ rfl, Result.andThen_ok,
      run_eq_nil hop (run_equalIn_bool w 9999 t p q ht) (by simp) (by simp) (by simp) (by simp)]
    rfl
  · exact h.elim

theorem nilEqP (m : Nat) {t e : TypeId} (hu : P.underlying t = some (.pointer e)) (v : Option Addr) : (Op.equalIn (m + 1) t (.pointer v) (.pointer none)).run P w = .ok v.isNone w := by
  cases v <;> simp [Op.equalIn, run_underlying hu]
theorem nilEqS (m : Nat) {t e : TypeId} (hu : P.underlying t = some (.slice e)) (v : Option Addr) (l c : Nat) : (Op.equalIn (m + 1) t (.slice v l c) (.slice none 0 0)).run P w = .ok v.isNone w := by
  cases v <;> simp [Op.equalIn, run_underlying hu]
theorem nilEqM (m : Nat) {t k e : TypeId} (hu : P.underlying t = some (.map k e)) (v : Option Nat) : (Op.equalIn (m + 1) t (.map v) (.map none)).run P w = .ok v.isNone w := by
  cases v <;> simp [Op.equalIn, run_underlying hu]

theorem isnil_key (hg : Good D n s G a w) (hd : dstOk n o.dst = true) (hn : ∀ s' G' a' w', K s' → Good D n s' G' a' w' → Nxt s.L G w s'.L G' w' → New m s G s' G' → next a' w')
    {op : BinOp} {t t' : TypeId} {x y : Operand} (hop : op = .eql ∨ op = .neq) (ho : o.op = .binOp op t x y t') (b : Bool) (hr : (Op.equalIn 10000 t (a.eval x) (a.eval y)).run P w = .ok b w)
    (h1 : ∀ k p, a.eval x ≠ .int k p) (h2 : ∀ k p, a.eval x ≠ .float k p) (h3 : ∀ k p q, a.eval x ≠ .complex k p q) (h4 : ∀ p, a.eval x ≠ .string p)
    (h5 : (match a.eval x with | .nilIface | .agg _ => false | _ => true) = true) (hK : K (s.setO o.dst (.bool (b != (op == .neq))))) : o.upon P a next Q ((execOp a.eval o).run P w) := by
  refine val_step hg hd hn (x := .bool (b != (op == .neq))) (v := .bool (b != (op == .neq))) ?_ (.bool _) hK
  simp only [execOp, ho]
  rw [run_v, Sem.run_bind, run_eqGuard_plain _ _ _ _ _ _ h5, Result.andThen_ok, run_eq_nil hop hr h1 h2 h3 h4]
  rfl

theorem s_isnilP (hd : dstOk n o.dst = true) {op : BinOp} {t t' e : TypeId} {x : Operand} {x' : Src} (hx : opd n x = some x') (hop : op = .eql ∨ op = .neq)
    (ht : P.underlying t = some (.pointer e)) (ho : o.op = .binOp op t x (.const (.pointer none)) t') : Sound P D n o (.isnil o.dst (op == .neq) 0 x') := by
  intro s G a w K next Q h hg hn hfree
  have rx := eval_rep hg hx
  simp only [istep] at h
  have fin : ∀ v, a.eval x = .pointer v → K (s.setO o.dst (.bool (v.isNone != (op == .neq)))) → o.upon P a next Q ((execOp a.eval o).run P w) := fun v hv hK =>
    isnil_key hg hd hn hop ho v.isNone (by rw [hv]; exact nilEqP 9999 ht v) (by simp [hv]) (by simp [hv]) (by simp [hv]) (by simp [hv]) (by simp [hv]) hK
  generalize he : s.ev x' = X at h rx
  generalize hv : a.eval x = Y at rx
  cases rx <;> first
    | (exact fin _ hv (by simpa using h))
    | (exact h.elim)

theorem s_isnilS (hd : dstOk n o.dst = true) {op : BinOp} {t t' e : TypeId} {x : Operand} {x' : Src} (hx : opd n x = some x') (hop : op = .eql ∨ op = .neq)
    (ht : P.underlying t = some (.slice e)) (ho : o.op = .binOp op t x (.const (.slice none 0 0)) t') : Sound P D n o (.isnil o.dst (op == .neq) 1 x') := by
  intro s G a w K next Q h hg hn hfree
  have rx := eval_rep hg hx
  simp only [istep] at h
  have fin : ∀ v l c, a.eval x = .slice v l c → K (s.setO o.dst (.bool (v.isNone != (op == .neq)))) → o.upon P a next Q ((execOp a.eval o).run P w) := fun v l c hv hK =>
    isnil_key hg hd hn hop ho v.isNone (by rw [hv]; exact nilEqS 9999 ht v l c) (by simp [hv]) (by simp [hv]) (by simp [hv]) (by simp [hv]) (by simp [hv]) hK
  generalize he : s.ev x' = X at h rx
  generalize hv : a.eval x = Y at rx
  cases X <;> first
    | (exact h.elim)
    | skip
  · rw [rep_nils rx] at hv
    exact fin _ _ _ hv (by simpa using h)
  · obtain ⟨z, cap, b, q, rfl, _, _, ha, _⟩ := rep_lst rx
    rw [(ha h.1).1] at hv
    exact fin _ _ _ hv (by simpa using h.2)
  · obtain ⟨g, z, cap, rfl, _, _, h1, _, _, ha⟩ := rep_own rx
    rw [ha (Nat.lt_of_lt_of_le h.1 h1)] at hv
    exact fin _ _ _ hv (by simpa using h.2)

theorem s_isnilM (hd : dstOk n o.dst = true) {op : BinOp} {t t' k e : TypeId} {x : Operand} {x' : Src} (hx : opd n x = some x') (hop : op = .eql ∨ op = .neq)
    (ht : P.underlying t = some (.map k e)) (ho : o.op = .binOp op t x (.const (.map none)) t') : Sound P D n o (.isnil o.dst (op == .neq) 2 x') := by
  intro s G a w K next Q h hg hn hfree
  have rx := eval_rep hg hx
  simp only [istep] at h
  have fin : ∀ v, a.eval x = .map v → K (s.setO o.dst (.bool (v.isNone != (op == .neq)))) → o.upon P a next Q ((execOp a.eval o).run P w) := fun v hv hK =>
    isnil_key hg hd hn hop ho v.isNone (by rw [hv]; exact nilEqM 9999 ht v) (by simp [hv]) (by simp [hv]) (by simp [hv]) (by simp [hv]) (by simp [hv]) hK
  generalize he : s.ev x' = X at h rx
  generalize hv : a.eval x = Y at rx
  cases rx <;> first
    | (exact fin _ hv (by simpa using h))
    | (exact h.elim)

theorem s_un (hd : dstOk n o.dst = true) {op : UnOp} {t : TypeId} {x : Operand} {x' : Src} (hx : opd n x = some x') (ho : o.op = .unOp op t x) : Sound P D n o (.un o.dst op x') := by
  intro s G a w K next Q h hg hn hfree
  have rx := eval_rep hg hx
  simp only [istep, vun] at h
  split at h
  · rename_i b hb
    rw [hb] at rx
    refine val_step hg hd hn (x := .bool !b) (v := .bool !b) ?_ (.bool _) h
    simp [execOp, ho, rep_bool rx, Op.unary]
  · rename_i k m hb
    rw [hb] at rx
    refine val_step hg hd hn (x := .int k (k.wrap (0 - m))) (v := .int k (k.wrap (0 - m))) ?_ (.int _ _) h
    simp [execOp, ho, rep_int rx, Op.unary, Op.intArith]
  · exact h.elim

theorem s_cvt (hd : dstOk n o.dst = true) {t u : TypeId} {k k0 : IntKind} {x : Operand} {x' : Src} (hx : opd n x = some x') (ht : P.underlying t = some (.int k0)) (hu : P.underlying u = some (.int k)) (ho : o.op = .convert t u x) : Sound P D n o (.cvt o.dst k x') := by
  intro s G a w K next Q h hg hn hfree
  have rx := eval_rep hg hx
  simp only [istep] at h
  split at h
  · rename_i k1 m hb
    rw [hb] at rx
    refine val_step hg hd hn (x := .int k (k.wrap m)) (v := .int k (k.wrap m)) ?_ (.int _ _) h
    simp [execOp, ho, rep_int rx, convert, run_underlying ht, run_underlying hu, Conv.intToInt]
  · exact h.elim

theorem s_cvs (hd : dstOk n o.dst = true) {t u : TypeId} {x : Operand} {x' : Src} (hx : opd n x = some x') (ht : P.underlying t = some .string) (hu : P.underlying u = some .string) (ho : o.op = .convert t u x) : Sound P D n o (.cvs o.dst x') := by
  intro s G a w K next Q h hg hn hfree
  have rx := eval_rep hg hx
  simp only [istep] at h
  split at h
  · rename_i m hb
    rw [hb] at rx
    refine val_step hg hd hn (x := .str m) (v := .string ⟨m.toArray⟩) ?_ (.str _ (rep_str rx).2) h
    simp [execOp, ho, (rep_str rx).1, convert, run_underlying ht, run_underlying hu]
  · exact h.elim

theorem s_ext (hd : dstOk n o.dst = true) {i : Nat} {x : Operand} {x' : Src} (hx : opd n x = some x') (ho : o.op = .extract x i) : Sound P D n o (.ext o.dst i x') := by
  intro s G a w K next Q h hg hn hfree
  have rx := eval_rep hg hx
  simp only [istep] at h
  split at h
  · rename_i cs hb
    rw [hb] at rx
    obtain ⟨vs, ev, hl, hr⟩ := rep_tup rx
    obtain ⟨h1, h2⟩ := h
    refine val_step hg hd hn (x := cs.getD i .junk) (v := vs.getD i undef) ?_ (hr i _ (by simp [h1])) h2
    have hi : i < vs.size := hl ▸ h1
    simp [execOp, ho, ev, Instr.extract, hi, Array.getD_eq_getD_getElem?]
  · exact h.elim

theorem s_idx (hd : dstOk n o.dst = true) {t : TypeId} {x i : Operand} {x' i' : Src} (hx : opd n x = some x') (hi : opd n i = some i') (ht : P.underlying t = some .string) (ho : o.op = .index t x i) : Sound P D n o (.idx o.dst x' i') := by
  intro s G a w K next Q h hg hn hfree
  have rx := eval_rep hg hx
  have ri := eval_rep hg hi
  simp only [istep] at h
  split at h
  · rename_i u k m hb hc
    rw [hb] at rx
    rw [hc] at ri
    obtain ⟨h1, h2, h3⟩ := h
    refine val_step hg hd hn (x := .int .u8 (u.getD m.toNat 0).toNat) (v := .int .u8 (u.getD m.toNat 0).toNat) ?_ (.int _ _) h3
    have e : (⟨u.toArray⟩ : ByteArray)[m.toNat]? = some (u.getD m.toNat 0) := by
      have h4 : m.toNat < (⟨u.toArray⟩ : ByteArray).size := by simpa [ByteArray.size] using h2
      rw [getElem?_pos (⟨u.toArray⟩ : ByteArray) m.toNat h4]
      simp [ByteArray.getElem_eq_getElem_data, h2]
    simp [execOp, ho, (rep_str rx).1, rep_int ri, Instr.index, asIntOf, run_underlying ht, h1, e]
  · exact h.elim

theorem s_slcS (hd : dstOk n o.dst = true) {t : TypeId} {x : Operand} {lo hi : Option Operand} {x' : Src} {lo' hi' : Option Src} (hx : opd n x = some x') (hlo : opdO n lo = some lo') (hhi : opdO n hi = some hi')
    (ht : P.underlying t = some .string) (ho : o.op = .slice t x lo hi none) : Sound P D n o (.slcS o.dst x' lo' hi') := by
  intro s G a w K next Q h hg hn hfree
  have rx := eval_rep hg hx
  simp only [istep] at h
  split at h
  · rename_i u hb
    rw [hb] at rx
    obtain ⟨l, hh, h1, h2, h3, h4⟩ := run_bounds (P := P) false u.length u.length hlo hhi hg (Nat.le_refl _) h
    have hz : (⟨u.toArray⟩ : ByteArray).size = u.length := by simp [ByteArray.size]
    refine val_step hg hd hn (x := .str ((u.take hh).drop l)) (v := .string ⟨((u.take hh).drop l).toArray⟩) ?_ (.str _ ?_) h3
    · rw [← hz] at h4
      simp only [execOp, ho, (rep_str rx).1]
      rw [run_v]
      simp only [Instr.sliceAt, Sem.run_bind, run_underlying ht, Result.andThen_ok, Instr.slice, Option.map_none, Option.isSome_none, Bool.false_eq_true, if_false, Sem.run_pure, h4, mk_extract]
    · have := (rep_str rx).2
      have : ((u.take hh).drop l).length ≤ u.length := by simp; omega
      omega
  · exact h.elim

theorem run_len {c : Call} {x : Operand} (hc : c.callee = .builtin .len) (ha : c.args.toList = [x]) (ho : o.op = .call c) :
    (execOp a.eval o).run P w = ((Builtin.len_ c.argTypes o.type #[a.eval x]).run P w).andThen fun x w' => .ok (.value x) w' := by
  have ha' : c.args = #[x] := by rw [← Array.toArray_toList (xs := c.args), ha]
  simp only [execOp, ho, resolve, hc, ha']
  simp [invoke, builtin]

theorem s_lenS (hd : dstOk n o.dst = true) {c : Call} {x : Operand} {x' : Src} (hx : opd n x = some x') (hc : c.callee = .builtin .len) (ha : c.args.toList = [x]) (hat : (c.argTypes[0]?).bind P.underlying = some .string)
    (ho : o.op = .call c) : Sound P D n o (.len o.dst true x') := by
  intro s G a w K next Q h hg hn hfree
  have rx := eval_rep hg hx
  obtain ⟨t, ht, hu⟩ := Option.bind_eq_some_iff.1 hat
  simp only [istep] at h
  split at h
  · rename_i u _ hb
    rw [hb] at rx
    obtain ⟨e, hl⟩ := rep_str rx
    refine val_step hg hd hn (x := .int .i64 u.length) (v := .int .i64 u.length) ?_ (.int _ _) h
    have hz : (⟨u.toArray⟩ : ByteArray).size = u.length := by simp [ByteArray.size]
    rw [run_len hc ha ho, e]
    simp [Builtin.len_, ht, run_underlying hu, goInt, hz]
  all_goals first | exact h.elim | (rename_i h0 _; cases h0)

theorem s_lenL (hd : dstOk n o.dst = true) {c : Call} {x : Operand} {x' : Src} (hx : opd n x = some x') (hc : c.callee = .builtin .len) (ha : c.args.toList = [x]) {e : TypeId} (hat : (c.argTypes[0]?).bind P.underlying = some (.slice e))
    (ho : o.op = .call c) : Sound P D n o (.len o.dst false x') := by
  intro s G a w K next Q h hg hn hfree
  have rx := eval_rep hg hx
  obtain ⟨t, ht, hu⟩ := Option.bind_eq_some_iff.1 hat
  have fin : ∀ b m c, a.eval x = .slice b m c → K (s.setO o.dst (.int .i64 m)) → o.upon P a next Q ((execOp a.eval o).run P w) := by
    intro b m cp hv hK
    refine val_step hg hd hn (x := .int .i64 m) (v := .int .i64 m) ?_ (.int _ _) hK
    rw [run_len hc ha ho, hv]
    simp [Builtin.len_, ht, run_underlying hu, goInt]
  simp only [istep] at h
  generalize he : s.ev x' = X at h rx
  generalize hv : a.eval x = Y at rx
  cases X <;> first
    | (exact h.elim)
    | skip
  · rw [rep_nils rx] at hv
    exact fin _ _ _ hv h
  · obtain ⟨z, cap, b, q, rfl, h1, h2, _⟩ := rep_lst rx
    exact fin _ _ _ hv h
  · obtain ⟨g, z, cap, rfl, _, _, h1, h2, h3, _⟩ := rep_own rx
    exact fin _ _ _ hv h

theorem s_nchk (hd : dstOk n o.dst = true) {x : Operand} {x' : Src} (hx : opd n x = some x') (ho : o.op = .nilCheck x) : Sound P D n o (.nchk o.dst x') := by
  intro s G a w K next Q h hg hn hfree
  have rx := eval_rep hg hx
  have fin : ∀ p, a.eval x = .pointer (some p) → K (s.setO o.dst (s.ev x')) → o.upon P a next Q ((execOp a.eval o).run P w) := by
    intro p hv hK
    refine val_step hg hd hn (x := s.ev x') (v := a.eval x) ?_ rx hK
    simp only [execOp, ho, hv]
    rfl
  simp only [istep] at h
  generalize he : s.ev x' = X at h rx fin
  generalize hv : a.eval x = Y at rx fin
  cases X <;> first
    | (exact h.elim)
    | skip
  · obtain ⟨g, _, rfl⟩ := rep_ptr rx; exact fin _ rfl h
  · obtain ⟨g, _, rfl⟩ := rep_eptr rx; exact fin _ rfl h
  · obtain ⟨b, q, rfl, _⟩ := rep_cptr rx; exact fin _ rfl h

theorem getElem?_drop' {cs : List V} {k j : Nat} {c : V} (h : (cs.drop k)[j]? = some c) : cs[k + j]? = some c := by simpa using h

theorem s_fadr (hd : dstOk n o.dst = true) {t : TypeId} {f : Nat} {fd : Field} {z : Nat} {x : Operand} {x' : Src} (hx : opd n x = some x') (hf : fieldOf? P t f = some fd) (hz : szOf P fd.type = some z) (h0 : 0 < z) (ho : o.op = .fieldAddr t x f) :
    Sound P D n o (.fadr o.dst fd.offset x') := by
  intro s G a w K next Q h hg hn hfree
  have rx := eval_rep hg hx
  obtain ⟨fs, hu, hfs⟩ := fieldOf_spec hf
  have fin : ∀ b q X, a.eval x = .pointer (some ⟨b, q, none⟩) → Rep G (Dp D s.L G) w X (.pointer (some ⟨b, q + fd.offset, none⟩)) → K (s.setO o.dst X) → o.upon P a next Q ((execOp a.eval o).run P w) := by
    intro b q X hv hX hK
    refine val_step hg hd hn (x := X) (v := .pointer (some ⟨b, q + fd.offset, none⟩)) ?_ hX hK
    simp only [execOp, ho, hv, run_v]
    simp [Instr.fieldAt, run_underlying hu, hfs, Instr.sureAddr, fieldPlace, run_szOf hz, Nat.pos_iff_ne_zero.1 h0, addr_add]
  simp only [istep] at h
  generalize he : s.ev x' = X at h rx
  generalize hv : a.eval x = Y at rx fin
  cases X <;> first
    | (exact h.elim)
    | skip
  · obtain ⟨g, hG, rfl⟩ := rep_ptr rx
    exact fin _ _ _ rfl (by rw [Nat.add_assoc]; exact .ptr _ _ g hG) h
  · obtain ⟨g, hG, rfl⟩ := rep_eptr rx
    exact fin _ _ _ rfl (by rw [Nat.add_assoc]; exact .eptr _ _ _ g hG) h
  · obtain ⟨b, q, rfl, h1, h2, h3, h4⟩ := rep_cptr rx
    refine fin _ _ _ rfl (.cptr _ _ _ h1 h2 (fun j c hc => ?_) (fun j c hc => ?_)) h
    · have := h3 _ _ (getElem?_drop' hc); rwa [Nat.add_assoc]
    · have := h4 _ _ (getElem?_drop' hc); rwa [Nat.add_assoc]

end
end Go.Ab
