/- Each lowered operation that only reckons or looks is what the model does. No condition. -/
import Derived.Test.YtbipjhcnooellaaAbD
import Derived.Laws.Rows
import Derived.Laws.AppendOwn
import Derived.Laws.Strings
import Derived.Laws.Small
import Derived.Laws.StructEq
namespace Go.Ab
open Go.RowKit
set_option linter.unusedVariables false
set_option linter.unusedSimpArgs false

section
variable {P : Program} {D : Nat → Prop} {n : Nat} {s : St} {G : Ghost} {a : Act} {w : World} {o : Oper} {K : St → Prop} {next : Act → World → Prop} {Q : Exit → Act → World → Prop} {m : Option Nat}

theorem val_step (hg : Good D n s G a w) (hd : dstOk n o.dst = true) (hn : ∀ s' G' a' w', K s' → Good D n s' G' a' w' → Nxt s.L G w s'.L G' w' → New m s G s' G' → next a' w')
    {x : V} {v : Value} (hr : (execOp a.eval o).run P w = .ok (.value v) w) (hv : Rep G (Dp D s.L G) w x v) (hK : K (s.setO o.dst x)) :
    o.upon P a next Q ((execOp a.eval o).run P w) := by
  rw [hr]
  exact hn _ _ _ _ hK (hg.put hd hv) (by rw [setO_L]; exact Nxt.refl _ _ _) (New.same (setO_nx _ _ _))

theorem rep_int {k : IntKind} {m : Int} {v : Value} (h : Rep G D w (.int k m) v) : v = .int k m := by cases h; rfl
theorem rep_bool {b : Bool} {v : Value} (h : Rep G D w (.bool b) v) : v = .bool b := by cases h; rfl
theorem rep_str {t : List UInt8} {v : Value} (h : Rep G D w (.str t) v) : v = .string ⟨t.toArray⟩ ∧ t.length < 2 ^ 63 := by cases h; exact ⟨rfl, by assumption⟩
theorem rep_agg {cs : List V} {v : Value} (h : Rep G D w (.agg cs) v) : ∃ vs, v = .agg vs ∧ cs.length = vs.size ∧ ∀ i c, cs[i]? = some c → Rep G D w c (vs.getD i undef) := by
  cases h; rename_i vs hn hr; exact ⟨vs, rfl, hn, hr⟩
theorem rep_tup {cs : List V} {v : Value} (h : Rep G D w (.tup cs) v) : ∃ vs, v = .tuple vs ∧ cs.length = vs.size ∧ ∀ i c, cs[i]? = some c → Rep G D w c (vs.getD i undef) := by
  cases h; rename_i vs hn hr; exact ⟨vs, rfl, hn, hr⟩

theorem rep_lst {sz : Nat} {es : List V} {v : Value} (h : Rep G D w (.lst sz es) v) : ∃ a cap b q, v = .slice a es.length cap ∧ es.length ≤ cap ∧ cap < 2 ^ 63 ∧
    (0 < es.length → a = some ⟨b, q, none⟩ ∧ b < w.heap.size ∧ ¬ D b) ∧ (∀ e, e ∈ es → e.ncells = some sz) ∧
    (∀ i j c, (es[i]?.bind fun e => e.cells[j]?) = some c → (w.cell? ⟨b, q + i * sz + j, none⟩).isSome = true) ∧
    (∀ i j c, (es[i]?.bind fun e => e.cells[j]?) = some c → Rep G D w c (cellD w b (q + i * sz + j))) := by
  cases h; exact ⟨_, _, _, _, rfl, by assumption, by assumption, by assumption, by assumption, by assumption, by assumption⟩
theorem rep_own {id sz off len : Nat} {v : Value} (h : Rep G D w (.own id sz off len) v) : ∃ g a cap, v = .slice a len cap ∧ G id = some g ∧ g.sz = sz ∧ len ≤ cap ∧ cap + off = g.cap ∧ g.cap < 2 ^ 63 ∧
    (0 < cap → a = some ⟨g.blk, g.off + off * sz, none⟩) := by
  cases h; exact ⟨_, _, _, rfl, by assumption, by assumption, by assumption, by assumption, by assumption, by assumption⟩
theorem rep_ptr {id off : Nat} {v : Value} (h : Rep G D w (.ptr id off) v) : ∃ g, G id = some g ∧ v = .pointer (some ⟨g.blk, g.off + off, none⟩) := by cases h; exact ⟨_, by assumption, rfl⟩
theorem rep_eptr {id i j : Nat} {v : Value} (h : Rep G D w (.eptr id i j) v) : ∃ g, G id = some g ∧ v = .pointer (some ⟨g.blk, g.off + i * g.sz + j, none⟩) := by cases h; exact ⟨_, by assumption, rfl⟩
theorem rep_cptr {cs : List V} {v : Value} (h : Rep G D w (.cptr cs) v) : ∃ b q, v = .pointer (some ⟨b, q, none⟩) ∧ b < w.heap.size ∧ ¬ D b ∧
    (∀ j c, cs[j]? = some c → (w.cell? ⟨b, q + j, none⟩).isSome = true) ∧ (∀ j c, cs[j]? = some c → Rep G D w c (cellD w b (q + j))) := by
  cases h; exact ⟨_, _, rfl, by assumption, by assumption, by assumption, by assumption⟩
theorem rep_nils {v : Value} (h : Rep G D w .nils v) : v = .slice none 0 0 := by cases h; rfl

theorem toList_mk (t : List UInt8) : (⟨t.toArray⟩ : ByteArray).toList = t := by rw [ByteArray.toList_eq]

theorem run_eqGuard_plain (op : BinOp) (t : TypeId) (x y : Operand) (u v : Value) (hu : (match u with | .nilIface | .agg _ => false | _ => true) = true) :
    (eqGuard op t x y u v).run P w = .ok () w := by
  cases u <;> first | (simp at hu; done) | (cases op <;> simp [eqGuard])

theorem beq_dec {α : Type} [BEq α] [LawfulBEq α] [DecidableEq α] (a b : α) : (a == b) = decide (a = b) := by
  by_cases h : a = b <;> simp [h]

theorem run_vint (op : BinOp) (k : IntKind) (t : TypeId) (x y : Int) (K' : V → Prop) (h : vint op k x y K') :
    ∃ z, (binOp op t (.int k x) (.int k y)).run P w = .ok z w ∧ ∃ r, Rep G D w r z ∧ K' r := by
  cases op <;> simp only [vint] at h <;> simp only [binOp, ne_eq, not_true_eq_false, if_false, Op.intArith, Op.intCmp, Op.intBits, Op.intDiv]
  case quo => rw [if_neg h.1]; exact ⟨_, rfl, _, .int _ _, h.2⟩
  case rem => rw [if_neg h.1]; exact ⟨_, rfl, _, .int _ _, h.2⟩
  case eql => exact ⟨_, rfl, _, .bool _, by simpa only [beq_dec] using h⟩
  case neq => exact ⟨_, rfl, _, .bool _, by simpa only [bne, beq_dec] using h⟩
  all_goals first
    | exact ⟨_, rfl, _, .int _ _, h⟩
    | exact ⟨_, rfl, _, .bool _, h⟩
    | exact h.elim

theorem mk_append (x y : List UInt8) : (⟨x.toArray⟩ : ByteArray) ++ ⟨y.toArray⟩ = ⟨(x ++ y).toArray⟩ := by
  apply ByteArray.ext
  rw [ByteArray.data_append]
  simp

theorem run_vstr (op : BinOp) (t : TypeId) (x y : List UInt8) (K' : V → Prop) (h : vstr op x y K') :
    ∃ z, (binOp op t (.string ⟨x.toArray⟩) (.string ⟨y.toArray⟩)).run P w = .ok z w ∧ ∃ r, Rep G D w r z ∧ K' r := by
  cases op <;> simp only [vstr] at h <;> simp only [binOp, Op.stringOp, toList_mk]
  case add =>
    obtain ⟨h1, h2⟩ := h
    have e : ¬ (((⟨x.toArray⟩ : ByteArray).size + (⟨y.toArray⟩ : ByteArray).size : Nat) : Int) > IntKind.i64.max := by
      show ¬ ((x.toArray.size + y.toArray.size : Nat) : Int) > IntKind.i64.max
      simp only [List.size_toArray, IntKind.max, IntKind.signed, IntKind.bits]
      omega
    rw [if_neg e]
    refine ⟨_, rfl, _, ?_, h2⟩
    rw [mk_append]
    exact .str _ (by simpa using h1)
  case eql => exact ⟨_, rfl, _, .bool _, by simpa only [beq_dec] using h⟩
  case neq => exact ⟨_, rfl, _, .bool _, by simpa only [beq_dec] using h⟩
  case lss => exact ⟨_, rfl, _, .bool _, h⟩
  case leq => exact ⟨_, rfl, _, .bool _, by simpa only [beq_dec] using h⟩
  case gtr => exact ⟨_, rfl, _, .bool _, by simpa only [beq_dec] using h⟩
  case geq => exact ⟨_, rfl, _, .bool _, by simpa only [beq_dec] using h⟩
  all_goals exact h.elim

theorem run_szOf {t : TypeId} {z : Nat} (h : szOf P t = some z) : (sizeOf t).run P w = .ok z w := by
  simp only [szOf, Option.map_eq_some_iff] at h
  obtain ⟨i, hi, rfl⟩ := h
  simp [sizeOf, typeInfo, hi]
theorem run_isAg? {t : TypeId} {ag : Bool} (h : isAg? P t = some ag) : (isAgg t).run P w = .ok ag w := by
  unfold isAg? at h
  split at h <;> simp only [Option.some.injEq, reduceCtorEq] at h <;> subst h <;> rename_i hu
  · simp [isAgg, run_underlying hu]
  · simp [isAgg, run_underlying hu]
  · rename_i d h1 h2
    simp only [isAgg, Sem.run_bind, run_underlying hu, Result.andThen_ok]
    cases d <;> first | rfl | (exact absurd rfl (h1 _)) | (exact absurd rfl (h2 _ _))
theorem fieldOf_spec {t : TypeId} {f : Nat} {fd : Field} (h : fieldOf? P t f = some fd) : ∃ fs, P.underlying t = some (.struct fs) ∧ fs[f]? = some fd := by
  unfold fieldOf? at h
  split at h
  · rename_i fs hu; exact ⟨fs, hu, h⟩
  · simp at h
theorem elemOf_spec {t e : TypeId} (h : elemOf? P t = some e) : P.underlying t = some (.slice e) := by
  unfold elemOf? at h
  split at h
  · rename_i e' hu; simp only [Option.some.injEq] at h; subst h; exact hu
  · simp at h

theorem addr_add (b o k : Nat) : (⟨b, o, none⟩ : Addr).add k = ⟨b, o + k, none⟩ := by
  unfold Addr.add; split
  · rename_i h; subst h; rfl
  · rfl

theorem cellD_of {b o : Nat} (h : (w.cell? ⟨b, o, none⟩).isSome = true) : w.cell? ⟨b, o, none⟩ = some (cellD w b o) := by
  obtain ⟨v, hv⟩ := Option.isSome_iff_exists.1 h
  simp [cellD, hv]

/-- what lies at an address, read cell by cell -/
theorem rep_pack {G : Ghost} {D : Nat → Prop} {b q z : Nat} {ag : Bool} {cs : List V} (hz : cs.length = z) (h1 : ag = true ∨ z = 1)
    (hr : ∀ j c, cs[j]? = some c → Rep G D w c (cellD w b (q + j))) :
    Rep G D w (pack ag cs) (if ag then .agg ((List.range z).map fun j => cellD w b (q + j)).toArray else cellD w b q) := by
  cases ag with
  | true =>
    simp only [pack, if_true]
    refine .agg cs _ (by simp [hz]) fun i c hc => ?_
    have hi : i < z := by rw [← hz]; exact (List.getElem?_eq_some_iff.1 hc).1
    have := hr i c hc
    simpa [Array.getD_eq_getD_getElem?, hi] using this
  | false =>
    have h1 : z = 1 := by simpa using h1
    subst h1
    simp only [pack, Bool.false_eq_true, if_false]
    match cs, hz with
    | [c], _ => simpa using hr 0 c rfl

theorem run_loadVar {t : TypeId} {z b q : Nat} {ag : Bool} (hs : szOf P t = some z) (ha : isAg? P t = some ag) (h1 : ag = true ∨ z = 1)
    (hc : ∀ j, j < z → (w.cell? ⟨b, q + j, none⟩).isSome = true) :
    (loadVar t ⟨b, q, none⟩).run P w = .ok (if ag then .agg ((List.range z).map fun j => cellD w b (q + j)).toArray else cellD w b q) w := by
  simp only [loadVar, Sem.run_bind, run_isAg? ha, Result.andThen_ok, Sem.run_ite, run_szOf hs]
  cases ag with
  | true =>
    simp only [if_true]
    rw [run_loadCells w ⟨b, q, none⟩ z (fun j => cellD w b (q + j)) fun j hj => by rw [addr_add]; exact cellD_of (hc j hj)]
    rfl
  | false =>
    have h1 : z = 1 := by simpa using h1
    subst h1
    have := cellD_of (hc 0 (by omega))
    simp only [Nat.add_zero] at this
    simp [run_load, this]

end
end Go.Ab
