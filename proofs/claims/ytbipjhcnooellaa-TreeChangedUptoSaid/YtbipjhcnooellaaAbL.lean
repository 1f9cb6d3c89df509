/- Append and calls. No condition. -/
import Derived.Test.YtbipjhcnooellaaAbK
namespace Go.Ab
open Go.RowKit
set_option linter.unusedVariables false
set_option linter.unusedSimpArgs false

section
variable {P : Program} {D : Nat → Prop} {n : Nat} {hint : Nat → Nat} {s : St} {G : Ghost} {a : Act} {w : World} {o : Oper} {K : St → Prop} {next : Act → World → Prop} {Q : Exit → Act → World → Prop} {m : Option Nat}

theorem run_appendCall {c : Call} {x y : Operand} (hc : c.callee = .builtin .append) (ha : c.args.toList = [x, y]) (ho : o.op = .call c) :
    (execOp a.eval o).run P w = ((Builtin.append_ c.argTypes o.type #[a.eval x, a.eval y]).run P w).andThen fun x w' => .ok (.value x) w' := by
  have ha' : c.args = #[x, y] := by rw [← Array.toArray_toList (xs := c.args), ha]
  simp only [execOp, ho, resolve, hc, ha']
  simp [invoke, builtin]

/-- what there is to know of the types at an append -/
structure AppT (P : Program) (c : Call) (z : Nat) where
  t : TypeId
  u : TypeId
  e : TypeId
  i : TypeInfo
  zv : Value
  ht : c.argTypes = #[t, u]
  hu : P.underlying t = some (.slice e)
  hi : P.info? e = some i
  hz : i.size = z
  hzero : i.zero = some zv
  hzs : zv.cells.size = z
  hpos : 0 < z
  hby : i.bytes ≤ 4096
  hnu : P.underlying u = some .string ∨ ∃ d, P.underlying u = some (.slice d)

theorem run_app_room {c : Call} {z : Nat} (T : AppT P c z) (ty : TypeId) {base : Option Addr} {len cap : Nat} {y : Value} {m : Nat} {news : Array Value} {w' : World}
    (hl : (Builtin.lenOf y).run P w = .ok m w) (hf : (Builtin.firstCells z m y).run P w = .ok news w) (hroom : len + m ≤ cap)
    (hst : (match base with | some b => (storeCells (b.add (len * z)) news.toList).run P w | none => .ok () w) = .ok () w') :
    (Builtin.append_ c.argTypes ty #[.slice base len cap, y]).run P w = .ok (.slice base (len + m) cap) w' := by
  obtain ⟨t, u, e, i, zv, ht, hu, hi, hz, hzero, hzs, hpos, hby, hnu⟩ := T
  subst hz
  rcases hnu with hd | ⟨d, hd⟩
  all_goals
    cases base with
    | none =>
      simp only [Result.ok.injEq, true_and] at hst
      subst hst
      simp [Builtin.append_, ht, run_underlying hu, run_underlying hd, sizeOf, typeInfo, hi, hl, hf, hroom]
    | some b =>
      simp [Builtin.append_, ht, run_underlying hu, run_underlying hd, sizeOf, typeInfo, hi, hl, hf, hroom, hst]

theorem run_app_grow {c : Call} {z : Nat} (T : AppT P c z) (ty : TypeId) {base : Option Addr} {len cap : Nat} {y : Value} {m : Nat} {olds news : Array Value}
    (hl : (Builtin.lenOf y).run P w = .ok m w) (hroom : ¬ len + m ≤ cap) (hsmall : len + m ≤ 2 ^ 32)
    (ho : ∀ w' : World, w'.heap = w.heap → (Builtin.firstCells z len (.slice base len cap)).run P w' = .ok olds w')
    (hf : ∀ w' : World, w'.heap = w.heap → (Builtin.firstCells z m y).run P w' = .ok news w') :
    ∃ (newCap : Nat) (rest : Array Value) (w1 : World), len + m ≤ newCap ∧ newCap < 2 ^ 63 ∧ rest.size = (newCap - (len + m)) * z ∧ w1.heap = w.heap ∧ w1.os = w.os ∧ w1.tape = w.tape ∧ w1.output = w.output ∧
      (Builtin.append_ c.argTypes ty #[.slice base len cap, y]).run P w = .ok (.slice (some ⟨w.heap.size, 0, none⟩) (len + m) newCap) (w1.alloc (.cells (olds ++ news ++ rest) T.e)) := by
  obtain ⟨t, u, e, i, zv, ht, hu, hi, hz, hzero, hzs, hpos, hby, hnu⟩ := T
  subst hz
  have hge := grownCap_ge w (len + m) cap e
  have hle := grownCap_le_maxLen w (len + m) cap e (by unfold maxLen; omega)
  have h48 : ¬ (Builtin.nextslicecap (len + m) cap * i.bytes > 2 ^ 48) := by
    have h1 := growslice_fits (need := len + m) (old := cap) (bytes := i.bytes) (by omega) (by
      have := Nat.mul_le_mul hsmall hby
      omega)
    omega
  have h48' : ¬ (281474976710656 < Builtin.nextslicecap (len + m) cap * i.bytes) := by omega
  have h63 : ¬ (9223372036854775807 < (len : Int) + (m : Int) ∧ i.bytes = 0) := by omega
  have ho1 := ho w.drew rfl
  have hf1 := hf w.drew rfl
  have hfo : (Question.appendCap (len + m) cap e).forced = false := rfl
  refine ⟨grownCap w (len + m) cap e, Builtin.zeroCells zv.cells (grownCap w (len + m) cap e - (len + m)), w.drew, hge, by unfold maxLen at hle; omega, by rw [size_zeroCells, hzs], rfl, rfl, rfl, rfl, ?_⟩
  rcases hnu with hd | ⟨d, hd⟩
  all_goals
    simp [Builtin.append_, ht, run_underlying hu, run_underlying hd, sizeOf, typeInfo, hi, hl, hroom, h48', h63, zeroValue, hzero, hfo, IntKind.max, IntKind.signed, IntKind.bits]
    simp only [ho1, Result.andThen_ok, hf1]
    simp [newRow, grownCap]
    rfl

end
end Go.Ab
