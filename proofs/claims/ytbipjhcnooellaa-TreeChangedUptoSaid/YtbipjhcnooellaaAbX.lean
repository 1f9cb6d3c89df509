/- What the library's builder does with addresses. No condition. -/
import Derived.Test.YtbipjhcnooellaaAbN
import Derived.Lib.UnsafeStr
import Derived.Lib.Builder
import Derived.Laws.Externs
namespace Go.Ab
open Go.RowKit
set_option linter.unusedVariables false
set_option linter.unusedSimpArgs false

section
variable {P : Program} {D : Nat → Prop} {n : Nat} {hint : Nat → Nat} {s : St} {G : Ghost} {a : Act} {w : World} {o : Oper} {K : St → Prop} {next : Act → World → Prop} {Q : Exit → Act → World → Prop} {m : Option Nat}

theorem eq_ptr_same {tp te : TypeId} {j : TypeInfo} (d : Nat) (a : Addr) (hp : P.underlying tp = some (.pointer te)) (hte : P.info? te = some j) : (Op.equalIn (d + 1) tp (.pointer (some a)) (.pointer (some a))).run P w = .ok true w := by
  simp [Op.equalIn, run_underlying hp, sizeOf, typeInfo, hte, run_sameAddr_same]

theorem s_ptreq (hd : dstOk n o.dst = true) {op : BinOp} {t t' e : TypeId} {x y : Operand} {x' y' : Src} (hx : opd n x = some x') (hy : opd n y = some y') (hop : op = .eql ∨ op = .neq)
    (ht : P.underlying t = some (.pointer e)) (he : (P.info? e).isSome = true) (ho : o.op = .binOp op t x y t') : Sound P D n o (.ptreq o.dst (op == .neq) x' y') := by
  intro s G a w K next Q h hg hn hfree
  have rx := eval_rep hg hx
  have ry := eval_rep hg hy
  obtain ⟨j, hj⟩ := Option.isSome_iff_exists.1 he
  simp only [istep] at h
  split at h
  · rename_i i q i2 q2 hb hc
    obtain ⟨rfl, rfl, hK⟩ := h
    rw [hb] at rx
    rw [hc] at ry
    obtain ⟨g, g1, ex⟩ := rep_ptr rx
    obtain ⟨g', g2, ey⟩ := rep_ptr ry
    obtain rfl : g = g' := Option.some.inj (g1.symm.trans g2)
    refine isnil_key hg hd hn hop ho true (by rw [ex, ey]; exact eq_ptr_same 9999 _ ht hj) (by simp [ex]) (by simp [ex]) (by simp [ex]) (by simp [ex]) (by simp [ex]) ?_
    rcases hop with rfl | rfl <;> exact hK
  · exact h.elim

theorem rep_nilp {D : Nat → Prop} {v : Value} (h : Rep G D w .nilp v) : v = .pointer none := by cases h; rfl

theorem shape_of {b : Nat} {c : Array Value} {ty : TypeId} {fr : Nat × Nat} (h : w.heap[b]? = some (.cells c ty fr)) : w.shape? b = some (ty, c.size) := by simp [World.shape?, h]

theorem s_touns (hd : dstOk n o.dst = true) {t u e : TypeId} {x : Operand} {x' : Src} (hx : opd n x = some x') (ht : P.underlying t = some (.pointer e)) (hu : P.underlying u = some .unsafePointer) (hz : (szOf P e).any (0 < ·) = true) (ho : o.op = .convert t u x) : Sound P D n o (.touns o.dst x') := by
  intro s G a w K next Q h hg hn hfree
  have rx := eval_rep hg hx
  obtain ⟨j, hj, hj0⟩ : ∃ j, P.info? e = some j ∧ j.size ≠ 0 := by
    unfold szOf at hz
    cases hi : P.info? e with
    | none => rw [hi] at hz; simp at hz
    | some j => rw [hi] at hz; simp at hz; exact ⟨j, rfl, by omega⟩
  simp only [istep] at h
  split at h
  · rename_i id q hb
    rw [hb] at rx
    obtain ⟨g, r1, ev⟩ := rep_ptr rx
    split at h
    · rename_i ty0 cs hL
      obtain ⟨g', k1, c', ty, fr, k2, k3, k4, _, k5⟩ := hg.hp.blk _ _ hL
      obtain rfl : g = g' := Option.some.inj (r1.symm.trans k1)
      refine val_step hg hd hn (x := .ptr id q) (v := .pointer (some ⟨g.blk, g.off + q, none⟩)) ?_ (.ptr id q g r1) h.2
      simp only [execOp, ho, ev, run_v]
      rw [Lib.run_to_unsafe w _ ht hu hj hj0 (shape_of k2) (by have := h.1; show g.off + q < c'.size; omega)]
      rfl
    · exact h.elim
  · exact h.elim

theorem s_frouns (hd : dstOk n o.dst = true) {t u e : TypeId} {z : Nat} {x : Operand} {x' : Src} (hx : opd n x = some x') (ht : P.underlying t = some .unsafePointer) (hu : P.underlying u = some (.pointer e)) (hz : szOf P e = some z)
    (hl : liesAt P P.depth e (z / P.cellsOf e) 0 e 1 = true) (ho : o.op = .convert t u x) : Sound P D n o (.frouns o.dst e z x') := by
  intro s G a w K next Q h hg hn hfree
  have rx := eval_rep hg hx
  obtain ⟨j, hj⟩ : ∃ j, P.info? e = some j := by
    unfold szOf at hz
    cases hi : P.info? e with
    | none => rw [hi] at hz; simp at hz
    | some j => exact ⟨j, rfl⟩
  simp only [istep] at h
  split at h
  · rename_i id q hb
    rw [hb] at rx
    obtain ⟨g, r1, ev⟩ := rep_ptr rx
    split at h
    · rename_i ty0 cs hL
      obtain ⟨rfl, rfl, hcs, hK⟩ := h
      obtain ⟨g', k1, c', ty, fr, k2, k3, k4, _, k5⟩ := hg.hp.blk _ _ hL
      obtain rfl : g = g' := Option.some.inj (r1.symm.trans k1)
      refine val_step hg hd hn (x := .ptr id 0) (v := .pointer (some ⟨g.blk, g.off + 0, none⟩)) ?_ (.ptr id 0 g r1) hK
      simp only [execOp, ho, ev, run_v]
      have hsh := shape_of k2
      rw [k3.2] at hsh
      rw [Lib.run_from_unsafe w _ ht hu hj hsh (by
        show liesAt P P.depth ty0 (c'.size / P.cellsOf ty0) (g.off + 0) ty0 1 = true
        rw [k4, k3.1, hcs]; exact hl)]
      rfl
    · exact h.elim
  · exact h.elim

theorem ne_num : neName ≠ "runtime.NumGoroutine" := by
  have h : (neName == "runtime.NumGoroutine") = false := by kernel_rfl
  intro e
  rw [e] at h
  simp at h
theorem find_noEscape {fn : Func} (h : fn.name = neName) : Extern.find fn = some Extern.AbiNoEscape.same := by
  have h1 : (Extern.allGenericRows.lookup neName).isNone = true := by kernel_rfl
  have h2 : (Extern.allTypedRows.lookup neName).isNone = true := by kernel_rfl
  have h3 : Extern.allRows.lookup neName = some Extern.AbiNoEscape.same := by kernel_rfl
  have h1' := Option.isNone_iff_eq_none.1 h1
  have h2' := Option.isNone_iff_eq_none.1 h2
  simp [Extern.find, h, h1', h2', h3]

theorem s_noEscape (hd : dstOk n o.dst = true) {c : Call} {f : Nat} {x' : Src} (hc : c.callee = .value (.func f)) (hb : noEscape P f = true) (hq : opds n c.args.toList = some [x']) (ho : o.op = .call c) : Sound P D n o (.mov o.dst x') := by
  intro s G a w K next Q h hg hn hfree
  unfold noEscape at hb
  split at hb
  · rename_i fn hf
    simp only [Bool.and_eq_true, beq_iff_eq] at hb
    obtain ⟨⟨b1, b2⟩, b3⟩ := hb
    obtain ⟨l1, l2⟩ := opds_rep hg hq
    match hl : c.args.toList, l1 with
    | [x], _ =>
      rw [hl] at l2 hq
      have rx := l2 0 _ rfl
      have ha : c.args = #[x] := by rw [← Array.toArray_toList (xs := c.args), hl]
      refine val_step hg hd hn (x := s.ev x') (v := a.eval x) ?_ (by simpa using rx) h
      simp only [execOp, ho, resolve, hc, ha]
      have := run_callFunc_extern (w := w) hf (by simp [b2, ne_num]) b1 (Option.isNone_iff_eq_none.1 b3) (find_noEscape b2) #[a.eval x]
      rw [Lib.run_noEscape] at this
      simp [Act.eval, Deferred.ofValue, invoke] at this ⊢
      rw [this]
  · simp at hb

theorem s_sdata (hd : dstOk n o.dst = true) {c : Call} {x : Operand} {x' : Src} (hx : opd n x = some x') (hc : c.callee = .builtin .unsafeSliceData) (ha : c.args.toList = [x]) (ho : o.op = .call c) : Sound P D n o (.sdata o.dst x') := by
  intro s G a w K next Q h hg hn hfree
  have rx := eval_rep hg hx
  have ha' : c.args = #[x] := by rw [← Array.toArray_toList (xs := c.args), ha]
  simp only [istep] at h
  split at h
  · rename_i hb
    rw [hb] at rx
    refine val_step hg hd hn (x := .nilp) (v := .pointer none) ?_ .nilp h
    simp only [execOp, ho, resolve, hc, ha']
    simp [invoke, builtin, rep_nils rx, Lib.run_unsafeSliceData_nil]
  · rename_i id sz off l hb
    rw [hb] at rx
    obtain ⟨g, base, cap, ev, r1, r2, r3, r4, r5, r6⟩ := rep_own rx
    have hcap : 0 < cap := by have := h.1; omega
    refine val_step hg hd hn (x := .eptr id off 0) (v := .pointer (some ⟨g.blk, g.off + off * g.sz + 0, none⟩)) ?_ (.eptr id off 0 g r1) h.2
    simp only [execOp, ho, resolve, hc, ha']
    rw [r6 hcap] at ev
    simp [invoke, builtin, ev, Lib.run_unsafeSliceData_row w _ _ _ _ _ (show cap ≠ 0 by omega), r2]
  · exact h.elim

theorem liesAt_bytes_at {e : TypeId} (hc : P.cellsOf e = 1) (count off n : Nat) (hn : off + n ≤ count) : liesAt P P.depth e count off e n = true := by
  have hd : P.depth = (2 * (P.types.size + Made.depth) + 1) + 1 := rfl
  rw [hd]
  simp only [liesAt, Bool.or_eq_true]
  left
  rw [hd]
  simp [rowAt, hc, hn, sameLayout, Nat.mod_one]

theorem run_ustr (pt it ty e : TypeId) (hp : P.underlying pt = some (.pointer e)) (hc : P.cellsOf e = 1) (g off cells : Nat) (hsh : w.shape? g = some (e, cells)) (l : List UInt8) (h0 : l ≠ []) (hn : off + l.length ≤ cells) (h63 : l.length ≤ 9223372036854775807)
    (hcell : ∀ j x, l[j]? = some x → w.cell? ((⟨g, off, none⟩ : Addr).add j) = some (.int .u8 x.toNat)) :
    (Builtin.unsafeString_ #[pt, it] ty #[.pointer (some ⟨g, off, none⟩), .int .i64 l.length]).run P w = .ok (.string ⟨l.toArray⟩) (w.freeze ⟨g, off, none⟩ l.length) := by
  have hl : l.length ≠ 0 := by simpa using h0
  have hlb := Lib.run_loadBytes (P := P) w l ⟨g, off, none⟩ .empty hcell
  have hlies := liesAt_bytes_at (P := P) hc (cells / P.cellsOf e) off l.length (by rw [hc]; simpa using hn)
  have h63' : ¬ (9223372036854775807 : Int) < (l.length : Int) := by omega
  obtain ⟨s1, s2, s3, hdef⟩ : ∃ s1 s2 s3 : String, Builtin.unsafeString_ #[pt, it] ty #[.pointer (some ⟨g, off, none⟩), .int .i64 l.length] =
      (do
        let n ← asInt (.int .i64 l.length)
        if n < 0 then runtimePanic (.error s1)
        if n > IntKind.i64.max then unsupported (.unsafePointer s2)
        if n = 0 then pure (.string .empty)
        else if ← variablesAt ⟨g, off, none⟩ (← elemOf pt) n.toNat then do
          let s ← loadBytes ⟨g, off, none⟩ .empty n.toNat
          freeze ⟨g, off, none⟩ n.toNat
          pure (.string s)
        else unsupported (.unsafePointer s3)) := ⟨_, _, _, rfl⟩
  rw [hdef]
  have hmax : IntKind.i64.max = 9223372036854775807 := rfl
  have hneg : ¬ (l.length : Int) < 0 := by omega
  simp [asInt, asIntOf, hmax, h63', hneg, hl, variablesAt, hsh, elemOf, run_underlying hp, hlies, hlb]

theorem freeze_other {b off k x : Nat} (h : x ≠ b) : (w.freeze ⟨b, off, none⟩ k).heap[x]? = w.heap[x]? := by
  unfold World.freeze
  split
  · rfl
  · simp only [Array.getElem?_modify]
    rw [if_neg (fun e => h e.symm)]
theorem freeze_size {b off k : Nat} : (w.freeze ⟨b, off, none⟩ k).heap.size = w.heap.size := by
  unfold World.freeze
  split
  · rfl
  · simp
theorem freeze_rest {b off k : Nat} : (w.freeze ⟨b, off, none⟩ k).os = w.os ∧ (w.freeze ⟨b, off, none⟩ k).tape = w.tape ∧ (w.freeze ⟨b, off, none⟩ k).output = w.output := by
  unfold World.freeze
  split <;> exact ⟨rfl, rfl, rfl⟩

/-- an owned block is given up, and what it is turns -/
theorem Good.lose (hg : Good D n s G a w) {id : Nat} {ty sz : Nat} {es : List V} {g : GB} (hL : s.L id = some (.vec ty sz es)) (hG : G id = some g) (hc : 0 < g.cap) {w' : World} (ho : ∀ x, x ≠ g.blk → w'.heap[x]? = w.heap[x]?) (hs : w'.heap.size = w.heap.size)
    (h1 : w'.os = w.os) (h2 : w'.tape = w.tape) (h3 : w'.output = w.output) : Good D n (s.drop id) G a w' ∧ Nxt s.L G w (s.drop id).L G w' := by
  have hLi : ∀ i b, (s.drop id).L i = some b → s.L i = some b ∧ i ≠ id := fun i b hb => by
    by_cases e : i = id
    · subst e; simp [St.drop, upd_same] at hb
    · simp only [St.drop, upd_ne _ _ _ _ e] at hb; exact ⟨hb, e⟩
  have hx : Nxt s.L G w (s.drop id).L G w' := by
    refine ⟨G.le_refl, ⟨by omega, fun x hx hn => ho x fun e => hn ?_⟩, ?_, h1, h2, h3⟩
    · subst e; exact ⟨id, _, g, hL, hG, hc, rfl⟩
    · rintro x _ ⟨i, b, gi, q1, q2, q3⟩
      exact ⟨i, b, gi, (hLi i b q1).1, q2, q3⟩
  refine ⟨hg.later hx ?_, hx⟩
  refine hg.hp.turn (fun _ => False) hx hg.hp.fin (fun i b hl _ => (hLi i b hl).1) (fun i b gi x hl _ hgi hoc => ?_) (fun _ _ _ _ _ h => h) (fun _ _ h => h.elim) (fun _ _ _ h => h.elim)
  refine ho x fun e => ?_
  subst e
  exact hg.hp.apart i id b _ gi g _ (hLi i b hl).1 hL hgi hG (hLi i b hl).2 hoc ⟨hc, rfl⟩

theorem s_ustr (hd : dstOk n o.dst = true) {c : Call} {x y : Operand} {x' y' : Src} {pt it e : TypeId} (hq : opds n c.args.toList = some [x', y']) (ha : c.args.toList = [x, y]) (hx : opd n x = some x') (hy : opd n y = some y') (hc : c.callee = .builtin .unsafeString)
    (hat : c.argTypes.toList = [pt, it]) (hp : P.underlying pt = some (.pointer e)) (he : P.cellsOf e = 1) (ho : o.op = .call c) : Sound P D n o (.ustr o.dst e x' y') := by
  intro s G a w K next Q h hg hn hfree
  have rx := eval_rep hg hx
  have ry := eval_rep hg hy
  have ha' : c.args = #[x, y] := by rw [← Array.toArray_toList (xs := c.args), ha]
  have hat' : c.argTypes = #[pt, it] := by rw [← Array.toArray_toList (xs := c.argTypes), hat]
  simp only [istep] at h
  split at h
  · rename_i m hb hc'
    rw [hb] at rx
    rw [hc'] at ry
    obtain ⟨rfl, hK⟩ := h
    have ex : a.eval x = .pointer none := rep_nilp rx
    refine val_step hg hd hn (x := .str []) (v := .string ⟨#[]⟩) ?_ (.str [] (Nat.two_pow_pos 63)) hK
    simp only [execOp, ho, resolve, hc, ha', hat']
    simp [invoke, builtin, ex, rep_int ry, Lib.run_unsafeString_none]
    rfl
  · rename_i id i j m hb hc'
    rw [hb] at rx
    rw [hc'] at ry
    split at h
    · rename_i ty' sz es hL
      obtain ⟨rfl, rfl, rfl, rfl, hm, hle, bs, hbs, hK⟩ := h
      obtain ⟨g, r1, ev⟩ := rep_eptr rx
      obtain ⟨g', k1, e1, e2, e3, e4, e5⟩ := hg.hp.blk _ _ hL
      obtain rfl : g = g' := Option.some.inj (r1.symm.trans k1)
      have hcap : 0 < g.cap := by omega
      obtain ⟨c', ty, fr, k2, k3, k4, k5⟩ := e5 hcap
      have hbl : bs.length = m.toNat := by
        have := congrArg List.length hbs
        simp [bytesV] at this
        omega
      have hm' : m = (bs.length : Int) := by rw [hbl]; exact (Int.toNat_of_nonneg (Int.le_of_lt hm)).symm
      have hne : bs ≠ [] := fun e => by rw [e] at hbl; simp at hbl; omega
      have hcell : ∀ (j : Nat) (x : UInt8), bs[j]? = some x → w.cell? ((⟨g.blk, g.off, none⟩ : Addr).add j) = some (.int .u8 x.toNat) := fun j x hj => by
        have hj2 : j < m.toNat := by
          have := (List.getElem?_eq_some_iff.1 hj).1
          omega
        have hej : es[j]? = some (.int .u8 x.toNat) := by
          have e1 : (es.take m.toNat)[j]? = es[j]? := List.getElem?_take_of_lt hj2
          rw [← e1, hbs]
          simp [bytesV, hj]
        have h5 := k5 j 0 (.int .u8 x.toNat) (by rw [hej]; rfl)
        have e0 : g.off + j * 1 + 0 = g.off + j := by omega
        rw [e0] at h5
        have h6 := rep_int h5
        rw [addr_add]
        have hlt : g.off + j < c'.size := by have := k3.1; omega
        rw [cell_of_blk k2]
        simp only [Array.getD_eq_getD_getElem?, Array.getElem?_eq_getElem hlt, Option.getD_some] at h6
        simp [hlt, h6]
      have hsh := shape_of k2
      rw [k3.2] at hsh
      have run := run_ustr (P := P) (w := w) pt it o.type ty' hp he g.blk g.off c'.size hsh bs hne (by have := k3.1; omega) (by omega) hcell
      obtain ⟨f1, f2, f3⟩ := freeze_rest (w := w) (b := g.blk) (off := g.off) (k := bs.length)
      obtain ⟨g1, x1⟩ := hg.lose hL r1 hcap (fun x hx => freeze_other hx) freeze_size f1 f2 f3
      have ex : a.eval x = .pointer (some ⟨g.blk, g.off, none⟩) := by rw [ev]; simp
      have ey : a.eval y = .int .i64 bs.length := by rw [rep_int ry, hm']
      have exec : (execOp a.eval o).run P w = .ok (.value (.string ⟨bs.toArray⟩)) (w.freeze ⟨g.blk, g.off, none⟩ bs.length) := by
        simp only [execOp, ho, resolve, hc, ha', hat']
        simp [invoke, builtin, ex, ey, run]
      rw [exec]
      simp only [Oper.upon]
      have hbig : bs.length < 2 ^ 63 := by omega
      exact hn _ _ _ _ hK (g1.put hd (.str bs hbig)) (by rw [setO_L]; exact x1) (New.same (setO_nx _ _ _))
    · exact h.elim
  · exact h.elim

end
end Go.Ab
