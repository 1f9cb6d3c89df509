/- The values of the abstract machine, and what it means that a value of the model stands for one of them. No condition. -/
import Derived.Calls
import Derived.Below
import Derived.KernelRfl
namespace Go.Ab

/-- A value as the abstract machine sees it. 'lst': a slice whose memory nobody writes any more, by its elements; 'own': a slice over an owned block; 'ptr', 'eptr': addresses in owned blocks; 'cptr': an address of memory that nobody writes, by what lies from there on. -/
inductive V where
  | junk
  | bool (b : Bool)
  | int (k : IntKind) (n : Int)
  | str (s : List UInt8)
  | nilp
  | nils
  | ptr (id off : Nat)
  | eptr (id i j : Nat)
  | cptr (cs : List V)
  | lst (sz : Nat) (es : List V)
  | own (id sz off len : Nat)
  | agg (cs : List V)
  | tup (vs : List V)
  | fn (f : Nat) (cs : List V)
  | map (id : Nat)
  | nilm
  | raw (v : Value)

instance : Inhabited V := ⟨.junk⟩

def V.cells : V → List V
  | .agg cs => cs
  | v => [v]

/-- the value of one cell -/
def V.one : V → Bool
  | .junk => false
  | .agg _ => false
  | .tup _ => false
  | .raw v => v.oneCell'
  | _ => true
/-- how many cells a value has -/
def V.ncells : V → Option Nat
  | .agg cs => if cs.all V.one then some cs.length else none
  | v => if v.one then some 1 else none

/-- Where a name is bound: the block, the first cell, the capacity in elements, an element's cells, a second block. -/
structure GB where
  blk : Nat
  off : Nat
  cap : Nat
  sz : Nat
  aux : Nat

abbrev Ghost := Nat → Option GB

def cellD (w : World) (b o : Nat) : Value := (w.cell? ⟨b, o, none⟩).getD undef

inductive Rep (G : Ghost) (D : Nat → Prop) (w : World) : V → Value → Prop
  | junk (v : Value) : Rep G D w .junk v
  | bool (b : Bool) : Rep G D w (.bool b) (.bool b)
  | int (k : IntKind) (n : Int) : Rep G D w (.int k n) (.int k n)
  | str (s : List UInt8) (h : s.length < 2 ^ 63) : Rep G D w (.str s) (.string ⟨s.toArray⟩)
  | nilp : Rep G D w .nilp (.pointer none)
  | nils : Rep G D w .nils (.slice none 0 0)
  | ptr (id off : Nat) (g : GB) (h : G id = some g) : Rep G D w (.ptr id off) (.pointer (some ⟨g.blk, g.off + off, none⟩))
  | eptr (id i j : Nat) (g : GB) (h : G id = some g) : Rep G D w (.eptr id i j) (.pointer (some ⟨g.blk, g.off + i * g.sz + j, none⟩))
  | cptr (cs : List V) (b o : Nat) (hb : b < w.heap.size) (hd : ¬ D b)
      (hs : ∀ j c, cs[j]? = some c → (w.cell? ⟨b, o + j, none⟩).isSome = true)
      (hr : ∀ j c, cs[j]? = some c → Rep G D w c (cellD w b (o + j))) : Rep G D w (.cptr cs) (.pointer (some ⟨b, o, none⟩))
  | lst (sz : Nat) (es : List V) (a : Option Addr) (cap b o : Nat) (hc : es.length ≤ cap) (hl : cap < 2 ^ 63)
      (ha : 0 < es.length → a = some ⟨b, o, none⟩ ∧ b < w.heap.size ∧ ¬ D b)
      (hz : ∀ e, e ∈ es → e.ncells = some sz)
      (hs : ∀ i j c, (es[i]?.bind fun e => e.cells[j]?) = some c → (w.cell? ⟨b, o + i * sz + j, none⟩).isSome = true)
      (hr : ∀ i j c, (es[i]?.bind fun e => e.cells[j]?) = some c → Rep G D w c (cellD w b (o + i * sz + j))) :
      Rep G D w (.lst sz es) (.slice a es.length cap)
  | own (id sz off len : Nat) (g : GB) (a : Option Addr) (cap : Nat) (h : G id = some g) (hz : g.sz = sz) (hc : len ≤ cap) (hg : cap + off = g.cap) (hl : g.cap < 2 ^ 63)
      (ha : 0 < cap → a = some ⟨g.blk, g.off + off * sz, none⟩) : Rep G D w (.own id sz off len) (.slice a len cap)
  | agg (cs : List V) (vs : Array Value) (hn : cs.length = vs.size) (hr : ∀ i c, cs[i]? = some c → Rep G D w c (vs.getD i undef)) : Rep G D w (.agg cs) (.agg vs)
  | tup (cs : List V) (vs : Array Value) (hn : cs.length = vs.size) (hr : ∀ i c, cs[i]? = some c → Rep G D w c (vs.getD i undef)) : Rep G D w (.tup cs) (.tuple vs)
  | fn (f : Nat) (cs : List V) (vs : Array Value) (hn : cs.length = vs.size) (hr : ∀ i c, cs[i]? = some c → Rep G D w c (vs.getD i undef)) : Rep G D w (.fn f cs) (.func (.func f) #[] vs)
  | map (id : Nat) (g : GB) (h : G id = some g) : Rep G D w (.map id) (.map (some g.blk))
  | nilm : Rep G D w .nilm (.map none)
  | raw (v : Value) : Rep G D w (.raw v) v

/-- names stay bound; only the second block of a binding may turn -/
def Ghost.le (G G' : Ghost) : Prop := ∀ id g, G id = some g → ∃ x, G' id = some { g with aux := x }

theorem Ghost.le_refl (G : Ghost) : G.le G := fun _ g h => ⟨g.aux, h⟩
theorem Ghost.le_trans {A B C : Ghost} (h : A.le B) (k : B.le C) : A.le C := fun id g e => by
  obtain ⟨x, hx⟩ := h id g e
  obtain ⟨y, hy⟩ := k id _ hx
  exact ⟨y, hy⟩

/-- what a step leaves alone: all blocks that there are, but those in O -/
def Same (O : Nat → Prop) (w w' : World) : Prop := w.heap.size ≤ w'.heap.size ∧ ∀ b, b < w.heap.size → ¬ O b → w'.heap[b]? = w.heap[b]?

theorem Same.refl (O : Nat → Prop) (w : World) : Same O w w := ⟨Nat.le_refl _, fun _ _ _ => rfl⟩
theorem Same.mono {O O' : Nat → Prop} {w w' : World} (h : Same O w w') (ho : ∀ b, b < w.heap.size → O b → O' b) : Same O' w w' :=
  ⟨h.1, fun b hb hn => h.2 b hb fun hx => hn (ho b hb hx)⟩
theorem Same.trans {O : Nat → Prop} {a b c : World} (h : Same O a b) (k : Same O b c) : Same O a c :=
  ⟨Nat.le_trans h.1 k.1, fun x hx hn => (k.2 x (Nat.lt_of_lt_of_le hx h.1) hn).trans (h.2 x hx hn)⟩

theorem cell_same {w w' : World} {b o : Nat} (h : w'.heap[b]? = w.heap[b]?) : w'.cell? ⟨b, o, none⟩ = w.cell? ⟨b, o, none⟩ := by
  simp [World.cell?, h]
theorem cellD_same {w w' : World} {b o : Nat} (h : w'.heap[b]? = w.heap[b]?) : cellD w' b o = cellD w b o := by
  simp [cellD, cell_same h]

theorem Rep.mono {G G' : Ghost} {D D' : Nat → Prop} {w w' : World} (hG : G.le G') (hD : ∀ b, b < w.heap.size → ¬ D b → ¬ D' b)
    (hw : Same D w w') {x : V} {v : Value} (h : Rep G D w x v) : Rep G' D' w' x v := by
  induction h with
  | junk v => exact .junk v
  | bool b => exact .bool b
  | int k n => exact .int k n
  | str s h => exact .str s h
  | nilp => exact .nilp
  | nils => exact .nils
  | ptr id off g h => obtain ⟨x, hx⟩ := hG _ _ h; exact .ptr id off { g with aux := x } hx
  | eptr id i j g h => obtain ⟨x, hx⟩ := hG _ _ h; exact .eptr id i j { g with aux := x } hx
  | cptr cs b o hb hd hs hr ih =>
    have e := hw.2 b hb hd
    refine .cptr cs b o (Nat.lt_of_lt_of_le hb hw.1) (hD b hb hd) (fun j c hc => ?_) (fun j c hc => ?_)
    · rw [cell_same e]; exact hs j c hc
    · rw [cellD_same e]; exact ih j c hc
  | lst sz es a cap b o hc hl ha hz hs hr ih =>
    refine .lst sz es a cap b o hc hl (fun h0 => ?_) hz (fun i j c hx => ?_) (fun i j c hx => ?_)
    · obtain ⟨h1, h2, h3⟩ := ha h0
      exact ⟨h1, Nat.lt_of_lt_of_le h2 hw.1, hD b h2 h3⟩
    · have h0 : 0 < es.length := by
        cases es with
        | nil => simp at hx
        | cons e r => simp
      obtain ⟨h1, h2, h3⟩ := ha h0
      rw [cell_same (hw.2 b h2 h3)]; exact hs i j c hx
    · have h0 : 0 < es.length := by
        cases es with
        | nil => simp at hx
        | cons e r => simp
      obtain ⟨h1, h2, h3⟩ := ha h0
      rw [cellD_same (hw.2 b h2 h3)]; exact ih i j c hx
  | own id sz off len g a cap h hz hc hg hl ha => obtain ⟨x, hx⟩ := hG _ _ h; exact .own id sz off len { g with aux := x } a cap hx hz hc hg hl ha
  | agg cs vs hn hr ih => exact .agg cs vs hn ih
  | tup cs vs hn hr ih => exact .tup cs vs hn ih
  | fn f cs vs hn hr ih => exact .fn f cs vs hn ih
  | map id g h => obtain ⟨x, hx⟩ := hG _ _ h; exact .map id { g with aux := x } hx
  | nilm => exact .nilm
  | raw v => exact .raw v

/- values without names: they mean the same whatever the names are bound to -/
mutual
def V.imm : V → Bool
  | .junk => true
  | .bool _ => true
  | .int _ _ => true
  | .str _ => true
  | .nilp => true
  | .nils => true
  | .ptr _ _ => false
  | .eptr _ _ _ => false
  | .cptr cs => V.imms cs
  | .lst _ es => V.imms es
  | .own _ _ _ _ => false
  | .agg cs => V.imms cs
  | .tup cs => V.imms cs
  | .fn _ cs => V.imms cs
  | .map _ => false
  | .nilm => true
  | .raw _ => true
def V.imms : List V → Bool
  | [] => true
  | x :: r => x.imm && V.imms r
end

theorem imms_mem {l : List V} (h : V.imms l = true) {x : V} (hx : x ∈ l) : x.imm = true := by
  induction l with
  | nil => cases hx
  | cons y r ih =>
    simp only [V.imms, Bool.and_eq_true] at h
    cases hx with
    | head => exact h.1
    | tail _ hm => exact ih h.2 hm

theorem imms_of {l : List V} (h : ∀ x, x ∈ l → x.imm = true) : V.imms l = true := by
  induction l with
  | nil => rfl
  | cons y r ih =>
    simp only [V.imms, Bool.and_eq_true]
    exact ⟨h y (by simp), ih fun x hx => h x (by simp [hx])⟩

theorem imms_append (a b : List V) : V.imms (a ++ b) = (V.imms a && V.imms b) := by
  induction a with
  | nil => simp [V.imms]
  | cons x r ih => simp [V.imms, ih, Bool.and_assoc]

theorem imms_map {α : Type} (f : α → V) (l : List α) (h : ∀ a, (f a).imm = true) : V.imms (l.map f) = true := by
  induction l with
  | nil => rfl
  | cons y r ih => simp [V.imms, h, ih]

theorem imm_cells {x : V} (h : x.imm = true) {c : V} (hc : c ∈ x.cells) : c.imm = true := by
  cases x <;> simp only [V.cells, List.mem_singleton] at hc <;> first
    | (subst hc; exact h)
    | (simp only [V.imm] at h; exact imms_mem h hc)

theorem mem_of_getElem? {l : List V} {i : Nat} {c : V} (h : l[i]? = some c) : c ∈ l := List.mem_of_getElem? h

theorem Rep.free {G : Ghost} {D : Nat → Prop} {w : World} {x : V} {v : Value} (h : Rep G D w x v) (hi : x.imm = true) (G' : Ghost) : Rep G' D w x v := by
  induction h with
  | junk v => exact .junk v
  | bool b => exact .bool b
  | int k n => exact .int k n
  | str s h => exact .str s h
  | nilp => exact .nilp
  | nils => exact .nils
  | ptr id off g h => simp [V.imm] at hi
  | eptr id i j g h => simp [V.imm] at hi
  | cptr cs b o hb hd hs hr ih =>
    simp only [V.imm] at hi
    exact .cptr cs b o hb hd hs fun j c hc => ih j c hc (imms_mem hi (mem_of_getElem? hc))
  | lst sz es a cap b o hc hl ha hz hs hr ih =>
    simp only [V.imm] at hi
    refine .lst sz es a cap b o hc hl ha hz hs fun i j c hx => ih i j c hx ?_
    cases he : es[i]? with
    | none => simp [he] at hx
    | some e =>
      simp only [he, Option.bind_some] at hx
      exact imm_cells (imms_mem hi (mem_of_getElem? he)) (mem_of_getElem? hx)
  | own id sz off len g a cap h hz hc hg hl ha => simp [V.imm] at hi
  | agg cs vs hn hr ih =>
    simp only [V.imm] at hi
    exact .agg cs vs hn fun i c hc => ih i c hc (imms_mem hi (mem_of_getElem? hc))
  | tup cs vs hn hr ih =>
    simp only [V.imm] at hi
    exact .tup cs vs hn fun i c hc => ih i c hc (imms_mem hi (mem_of_getElem? hc))
  | fn f cs vs hn hr ih =>
    simp only [V.imm] at hi
    exact .fn f cs vs hn fun i c hc => ih i c hc (imms_mem hi (mem_of_getElem? hc))
  | map id g h => simp [V.imm] at hi
  | nilm => exact .nilm
  | raw v => exact .raw v

/-- values that hold no memory -/
def V.flat1 : V → Bool
  | .bool _ | .int _ _ | .str _ | .nilp | .nils | .nilm => true
  | _ => false
def V.flat : V → Bool
  | .tup cs => cs.all V.flat1
  | .agg cs => cs.all V.flat1
  | v => v.flat1

theorem Rep.flat1 {G : Ghost} {D : Nat → Prop} {w : World} {x : V} {v : Value} (h : Rep G D w x v) (hf : x.flat1 = true) (G' : Ghost) (D' : Nat → Prop) (w' : World) : Rep G' D' w' x v := by
  cases h <;> simp [V.flat1] at hf
  · exact .bool _
  · exact .int _ _
  · rename_i h; exact .str _ h
  · exact .nilp
  · exact .nils
  · exact .nilm

theorem Rep.flat {G : Ghost} {D : Nat → Prop} {w : World} {x : V} {v : Value} (h : Rep G D w x v) (hf : x.flat = true) (G' : Ghost) (D' : Nat → Prop) (w' : World) : Rep G' D' w' x v := by
  cases h
  case tup cs vs hn hr =>
    simp only [V.flat] at hf
    exact .tup _ _ hn fun i c hc => Rep.flat1 (hr i c hc) (List.all_eq_true.1 hf c (mem_of_getElem? hc)) G' D' w'
  case agg cs vs hn hr =>
    simp only [V.flat] at hf
    exact .agg _ _ hn fun i c hc => Rep.flat1 (hr i c hc) (List.all_eq_true.1 hf c (mem_of_getElem? hc)) G' D' w'
  all_goals simp [V.flat, V.flat1] at hf
  · exact .bool _
  · exact .int _ _
  · rename_i h; exact .str _ h
  · exact .nilp
  · exact .nils
  · exact .nilm

/-- Blocks that the function owns. -/
inductive Blk where
  | box (ty : Nat) (cs : List V)
  | vec (ty sz : Nat) (es : List V)
  | map (es : List (V × V))
  | bld (tb ty : Nat) (s : List UInt8)

abbrev Heap := Nat → Option Blk

structure St where
  env : Nat → V
  L : Heap
  nx : Nat

def upd {α : Type} (f : Nat → α) (i : Nat) (v : α) : Nat → α := fun j => if j = i then v else f j

theorem upd_same {α : Type} (f : Nat → α) (i : Nat) (v : α) : upd f i v i = v := by simp [upd]
theorem upd_ne {α : Type} (f : Nat → α) (i j : Nat) (v : α) (h : j ≠ i) : upd f i v j = f j := by simp [upd, h]

def Occ (g : GB) : Blk → Nat → Prop
  | .box _ _, x => x = g.blk
  | .vec _ _ _, x => 0 < g.cap ∧ x = g.blk
  | .map _, x => x = g.blk
  | .bld _ _ _, x => x = g.blk ∨ x = g.aux

def Own (L : Heap) (G : Ghost) (x : Nat) : Prop := ∃ id b g, L id = some b ∧ G id = some g ∧ Occ g b x
def Dp (D : Nat → Prop) (L : Heap) (G : Ghost) (x : Nat) : Prop := D x ∨ Own L G x

def Open (fr : Nat × Nat) (lo n : Nat) : Prop := ∀ i, i < n → ¬ (fr.1 ≤ lo + i ∧ lo + i < fr.2)

def BlkOk (G : Ghost) (D : Nat → Prop) (w : World) (g : GB) : Blk → Prop
  | .box ty cs => ∃ c ty' fr, w.heap[g.blk]? = some (.cells c ty' fr) ∧ (c.size = cs.length ∧ ty' = ty) ∧ g.off = 0 ∧ Open fr 0 c.size ∧ ∀ i x, cs[i]? = some x → Rep G D w x (c.getD i undef)
  | .vec ty sz es => g.sz = sz ∧ es.length ≤ g.cap ∧ g.cap < 2 ^ 63 ∧ (∀ e, e ∈ es → e.ncells = some sz) ∧
      (0 < g.cap → ∃ c ty' fr, w.heap[g.blk]? = some (.cells c ty' fr) ∧ (g.off + g.cap * sz ≤ c.size ∧ ty' = ty) ∧ Open fr g.off (g.cap * sz) ∧
        ∀ i j x, (es[i]?.bind fun e => e.cells[j]?) = some x → Rep G D w x (c.getD (g.off + i * sz + j) undef))
  | .map _ => False
  | .bld tb ty bs => ∃ c fr cap o a, w.heap[g.blk]? = some (.cells c tb fr) ∧ c.size = 2 ∧ g.off = 0 ∧ Open fr 0 2 ∧ (c.getD 0 undef = .pointer none ∨ c.getD 0 undef = .pointer (some ⟨g.blk, 0, none⟩)) ∧
      c.getD 1 undef = .slice a bs.length cap ∧ bs.length ≤ cap ∧ cap < 2 ^ 63 ∧ (cap = 0 → g.aux = g.blk ∧ a = none) ∧
      (0 < cap → bs ≠ [] ∧ a = some ⟨g.aux, o, none⟩ ∧ g.aux ≠ g.blk ∧ ∃ cb fb, w.heap[g.aux]? = some (.cells cb ty fb) ∧ o + cap ≤ cb.size ∧ Open fb o cap ∧ ∀ (i : Nat) (x : UInt8), bs[i]? = some x → cb.getD (o + i) undef = .int .u8 x.toNat)

structure Hp (D : Nat → Prop) (n : Nat) (s : St) (G : Ghost) (w : World) : Prop where
  fin : ∀ id, s.nx + n ≤ id → G id = none
  blk : ∀ id b, s.L id = some b → ∃ g, G id = some g ∧ BlkOk G (Dp D s.L G) w g b
  apart : ∀ id id' b b' g g' x, s.L id = some b → s.L id' = some b' → G id = some g → G id' = some g' → id ≠ id' → Occ g b x → ¬ Occ g' b' x
  away : ∀ x, Own s.L G x → x < w.heap.size ∧ ¬ D x
  dlt : ∀ x, D x → x < w.heap.size

/-- from one state to a later one -/
structure Nxt (L : Heap) (G : Ghost) (w : World) (L' : Heap) (G' : Ghost) (w' : World) : Prop where
  le : G.le G'
  same : Same (Own L G) w w'
  own : ∀ x, x < w.heap.size → Own L' G' x → Own L G x
  os : w'.os = w.os
  tape : w'.tape = w.tape
  output : w'.output = w.output


end Go.Ab
