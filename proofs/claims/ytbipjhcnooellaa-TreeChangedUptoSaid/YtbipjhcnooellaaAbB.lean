/- The lowered code of the abstract machine and its weakest precondition. No condition. -/
import Derived.Test.YtbipjhcnooellaaAbA
namespace Go.Ab
open Go.RowKit

inductive Src where
  | t (n : Nat)
  | k (v : V)

inductive I where
  | mov (d : Option Nat) (x : Src)
  | pick (d : Option Nat) (c a b : Src)
  | bin (d : Option Nat) (op : BinOp) (x y : Src)
  | eqA (d : Option Nat) (neg : Bool) (ks : List Nat) (x y : Src)
  | eqB (d : Option Nat) (neg : Bool) (x y : Src)
  | isnil (d : Option Nat) (neg : Bool) (kd : Nat) (x : Src)
  | un (d : Option Nat) (op : UnOp) (x : Src)
  | cvt (d : Option Nat) (k : IntKind) (x : Src)
  | cvs (d : Option Nat) (x : Src)
  | build (d : Option Nat) (zero : List V) (parts : List (Nat × Nat × Src))
  | field (d : Option Nat) (off sz : Nat) (ag : Bool) (x : Src)
  | ext (d : Option Nat) (i : Nat) (x : Src)
  | idx (d : Option Nat) (x i : Src)
  | idxA (d : Option Nat) (n sz : Nat) (ag : Bool) (x i : Src)
  | slcS (d : Option Nat) (x : Src) (lo hi : Option Src)
  | slc (d : Option Nat) (sz : Nat) (x : Src) (lo hi : Option Src)
  | len (d : Option Nat) (st : Bool) (x : Src)
  | fadr (d : Option Nat) (off : Nat) (x : Src)
  | iadr (d : Option Nat) (sz : Nat) (x i : Src)
  | iadrA (d : Option Nat) (n sz : Nat) (x i : Src)
  | nchk (d : Option Nat) (x : Src)
  | load (d : Option Nat) (c : Bool) (sz : Nat) (ag : Bool) (x : Src)
  | store (sz : Nat) (x v : Src)
  | alloc (d ty : Nat) (zero : List V)
  | box (d ty : Nat) (x : Src)
  | mkl (d : Option Nat) (sz : Nat) (parts : List Src)
  | mkv (d : Nat) (ty sz : Nat) (parts : List Src)
  | app (d : Nat) (ty sz : Nat) (x y : Src)
  | call (d : Option Nat) (c : Bool) (f : Nat) (args : List Src)
  | mx (d : Option Nat) (isMax : Bool) (x y : Src)
  | mx3 (d : Option Nat) (isMax : Bool) (x y z : Src)
  | ecall (d : Option Nat) (n f : Nat) (args : List Src)
  | ptreq (d : Option Nat) (neg : Bool) (x y : Src)
  | touns (d : Option Nat) (x : Src)
  | frouns (d : Option Nat) (u z : Nat) (x : Src)
  | sdata (d : Option Nat) (x : Src)
  | ustr (d : Option Nat) (ty : Nat) (x y : Src)

/-- the slot that is written -/
def I.dst : I → Option Nat
  | .mov d _ | .pick d _ _ _ | .bin d _ _ _ | .eqA d _ _ _ _ | .eqB d _ _ _ | .isnil d _ _ _ | .un d _ _ | .cvt d _ _ | .cvs d _ | .build d _ _ | .field d _ _ _ _ | .ext d _ _ | .idx d _ _ | .idxA d _ _ _ _ _
  | .slcS d _ _ _ | .slc d _ _ _ _ | .len d _ _ | .fadr d _ _ | .iadr d _ _ _ | .iadrA d _ _ _ _ | .nchk d _ | .load d _ _ _ _ | .mkl d _ _ | .call d _ _ _ | .mx d _ _ _ | .mx3 d _ _ _ _ | .ecall d _ _ _ | .ptreq d _ _ _ | .touns d _ | .frouns d _ _ _ | .sdata d _ | .ustr d _ _ _ => d
  | .store _ _ _ => none
  | .alloc d _ _ | .box d _ _ | .mkv d _ _ _ | .app d _ _ _ _ => some d

/-- the slot whose number names the block that is made -/
def I.mk : I → Option Nat
  | .alloc d _ _ | .box d _ _ | .mkv d _ _ _ | .app d _ _ _ _ => some d
  | _ => none

def St.set (s : St) (d : Nat) (v : V) : St := ⟨upd s.env d v, s.L, s.nx⟩
def St.setO (s : St) : Option Nat → V → St
  | some d, v => s.set d v
  | none, _ => s
def St.ev (s : St) : Src → V
  | .t n => s.env n
  | .k v => v
def St.add (s : St) (id : Nat) (b : Blk) : St := ⟨s.env, upd s.L id (some b), s.nx⟩
def St.put (s : St) (id : Nat) (b : Blk) : St := ⟨s.env, upd s.L id (some b), s.nx⟩
def St.drop (s : St) (id : Nat) : St := ⟨s.env, upd s.L id none, s.nx⟩

def pack (ag : Bool) (cs : List V) : V := if ag then .agg cs else cs.headD .junk
def V.recell : V → List V → V
  | .agg _, cs => .agg cs
  | _, cs => cs.headD .junk
def setAt (zero : List V) (off : Nat) (cs : List V) : List V := zero.take off ++ cs ++ zero.drop (off + cs.length)

def vbits (op : BinOp) (k : IntKind) (x y : Int) : Int :=
  let a := BitVec.ofInt k.bits x
  let b := BitVec.ofInt k.bits y
  match op with
  | .and => k.wrap (a &&& b).toNat
  | .or => k.wrap (a ||| b).toNat
  | .xor => k.wrap (a ^^^ b).toNat
  | _ => k.wrap (a &&& ~~~b).toNat

def vint (op : BinOp) (k : IntKind) (a b : Int) (K : V → Prop) : Prop :=
  match op with
  | .add => K (.int k (k.wrap (a + b)))
  | .sub => K (.int k (k.wrap (a - b)))
  | .mul => K (.int k (k.wrap (a * b)))
  | .quo => b ≠ 0 ∧ K (.int k (k.wrap (a.tdiv b)))
  | .rem => b ≠ 0 ∧ K (.int k (a.tmod b))
  | .and => K (.int k (vbits .and k a b))
  | .or => K (.int k (vbits .or k a b))
  | .xor => K (.int k (vbits .xor k a b))
  | .andNot => K (.int k (vbits .andNot k a b))
  | .eql => K (.bool (decide (a = b)))
  | .neq => K (.bool (!decide (a = b)))
  | .lss => K (.bool (decide (a < b)))
  | .leq => K (.bool (decide (a ≤ b)))
  | .gtr => K (.bool (decide (b < a)))
  | .geq => K (.bool (decide (b ≤ a)))
  | _ => False

def vstr (op : BinOp) (a b : List UInt8) (K : V → Prop) : Prop :=
  match op with
  | .add => a.length + b.length < 2 ^ 63 ∧ K (.str (a ++ b))
  | .eql => K (.bool (decide (a = b)))
  | .neq => K (.bool (!decide (a = b)))
  | .lss => K (.bool (Op.bytesLess a b))
  | .leq => K (.bool (Op.bytesLess a b || decide (a = b)))
  | .gtr => K (.bool (!(Op.bytesLess a b || decide (a = b))))
  | .geq => K (.bool (!Op.bytesLess a b))
  | _ => False

def vbin (op : BinOp) (x y : V) (K : V → Prop) : Prop :=
  match x, y with
  | .int k a, .int k' b => k = k' ∧ vint op k a b K
  | .str a, .str b => vstr op a b K
  | _, _ => False

def vun (op : UnOp) (x : V) (K : V → Prop) : Prop :=
  match op, x with
  | .not, .bool b => K (.bool !b)
  | .neg, .int k n => K (.int k (k.wrap (0 - n)))
  | _, _ => False

/-- equality of cells that are integers, strings and bools -/
def cellEq : Nat → V → V → Option Bool
  | 0, .int k a, .int k' b => if k = k' then some (decide (a = b)) else none
  | 1, .str a, .str b => some (decide (a = b))
  | 2, .bool a, .bool b => some (a == b)
  | _, _, _ => none
def cellsEq : List Nat → List V → List V → Option Bool
  | [], [], [] => some true
  | k :: ks, a :: r, b :: s => match cellEq k a b, cellsEq ks r s with
    | some x, some y => some (x && y)
    | _, _ => none
  | _, _, _ => none

def bound (o : Option V) (d : Nat) (K : Nat → Prop) : Prop :=
  match o with
  | none => K d
  | some (.int _ i) => 0 ≤ i ∧ K i.toNat
  | _ => False

def bytesV (bs : List UInt8) : List V := bs.map fun b => .int .u8 b.toNat

/-- the elements that an append takes -/
def elemsOf (sz : Nat) (L : Heap) (y : V) (K : List V → Prop) : Prop :=
  match y with
  | .nils => K []
  | .lst sz' es => sz' = sz ∧ K es
  | .own id sz' off len => match L id with
    | some (.vec _ _ es) => sz' = sz ∧ off + len ≤ es.length ∧ K ((es.drop off).take len)
    | _ => False
  | .str s => sz = 1 ∧ K (s.map fun b => .int .u8 b.toNat)
  | _ => False

/-- a value as somebody sees it who may only read -/
def view (L : Heap) : Nat → V → V
  | n + 1, .own id sz off len => match L id with
    | some (.vec _ _ es) => if off + len ≤ es.length then .lst sz (((es.drop off).take len).map (view L n)) else .own id sz off len
    | _ => .own id sz off len
  | n + 1, .agg cs => .agg (cs.map (view L n))
  | n + 1, .tup cs => .tup (cs.map (view L n))
  | _, v => v

/- a value where the owned block id has been frozen -/
mutual
def V.fz (id : Nat) (es : List V) : V → V
  | .own i sz off n => if i = id ∧ off + n ≤ es.length then .lst sz ((es.drop off).take n) else .own i sz off n
  | .agg cs => .agg (V.fzL id es cs)
  | .tup cs => .tup (V.fzL id es cs)
  | .fn f cs => .fn f (V.fzL id es cs)
  | .lst sz cs => .lst sz (V.fzL id es cs)
  | .cptr cs => .cptr (V.fzL id es cs)
  | .junk => .junk
  | .bool b => .bool b
  | .int k n => .int k n
  | .str s => .str s
  | .nilp => .nilp
  | .nils => .nils
  | .ptr i o => .ptr i o
  | .eptr i j k => .eptr i j k
  | .map i => .map i
  | .nilm => .nilm
  | .raw v => .raw v
def V.fzL (id : Nat) (es : List V) : List V → List V
  | [] => []
  | x :: r => x.fz id es :: V.fzL id es r
end
def Blk.fz (id : Nat) (es : List V) : Blk → Blk
  | .box ty cs => .box ty (V.fzL id es cs)
  | .vec ty sz l => .vec ty sz (V.fzL id es l)
  | b => b
def fzHeap (id : Nat) (es : List V) (L : Heap) : Heap := fun i => if i = id then none else (L i).map (Blk.fz id es)
def St.fz (s : St) (id : Nat) (es : List V) : St := ⟨fun i => (s.env i).fz id es, fzHeap id es s.L, s.nx⟩
/-- some owned vectors are frozen -/
inductive FzS : St → St → Prop where
  | refl (s : St) : FzS s s
  | step {s s' : St} (id ty sz : Nat) (es : List V) (h : s.L id = some (.vec ty sz es)) (hi : V.imms es = true) (hs : FzS (s.fz id es) s') : FzS s s'

def allCells (sz : Nat) (es : List V) : Prop := ∀ e, e ∈ es → e.ncells = some sz

/-- A PURE CALL: whatever is protected (D) stays apart from the result; nothing that was there turns. -/
def PTr (P : Program) (f : FuncId) (args : List V) (r : V) : Prop :=
  ∀ (D : Nat → Prop) (w : World) (vs : Array Value), (∀ b, D b → b < w.heap.size) → args.length = vs.size →
    (∀ i x, args[i]? = some x → Rep (fun _ => none) D w x (vs.getD i undef)) →
    Calls P f vs w fun e w' => ∃ v, e = .returned v ∧ Below w.heap.size w w' ∧ Rep (fun _ => none) D w' r v

/-- A CALL THAT MAY TURN OWNED BLOCKS. -/
def ECall (P : Program) (f : FuncId) (args : List V) (L : Heap) (nx : Nat) (post : V → Heap → Nat → Prop) : Prop :=
  (∃ r L' nx', post r L' nx') ∧
  ∀ (D : Nat → Prop) (G : Ghost) (w : World) (vs : Array Value), Hp D 0 ⟨fun _ => .junk, L, nx⟩ G w → args.length = vs.size →
    (∀ i x, args[i]? = some x → Rep G (Dp D L G) w x (vs.getD i undef)) →
    Calls P f vs w fun e w' => ∃ v r L' nx' G', e = .returned v ∧ post r L' nx' ∧ Hp D 0 ⟨fun _ => .junk, L', nx'⟩ G' w' ∧ nx ≤ nx' ∧ Nxt L G w L' G' w' ∧ Rep G' (Dp D L' G') w' r v

/-- an append that makes a block -/
def appStep (d ty sz : Nat) (x y : V) (s : St) (K : St → Prop) : Prop :=
  match x with
  | .nils => elemsOf sz s.L y fun ys => ys.length ≤ 2 ^ 32 ∧ K ((s.add (s.nx + d) (.vec ty sz ys)).set d (.own (s.nx + d) sz 0 ys.length))
  | .own id sz' off n => match s.L id with
    | some (.vec ty' _ es) => ty' = ty ∧ sz' = sz ∧ off + n ≤ es.length ∧ elemsOf sz s.L y fun ys => n + ys.length ≤ 2 ^ 32 ∧
        K (((s.drop id).add (s.nx + d) (.vec ty sz ((es.drop off).take n ++ ys))).set d (.own (s.nx + d) sz 0 (n + ys.length)))
    | _ => False
  | _ => False

def mxI (isMax : Bool) (a b : Int) : Int := if isMax then (if b > a then b else a) else (if b < a then b else a)

def istep (P : Program) : I → St → (St → Prop) → Prop
  | .mov d x, s, K => K (s.setO d (s.ev x))
  | .pick d c a b, s, K => match s.ev c with
    | .bool t => K (s.setO d (if t then s.ev a else s.ev b))
    | _ => False
  | .bin d op x y, s, K => vbin op (s.ev x) (s.ev y) fun v => K (s.setO d v)
  | .eqA d neg ks x y, s, K => match s.ev x, s.ev y with
    | .agg a, .agg b => ∃ t, cellsEq ks a b = some t ∧ K (s.setO d (.bool (t != neg)))
    | _, _ => False
  | .eqB d neg x y, s, K => match s.ev x, s.ev y with
    | .bool a, .bool b => K (s.setO d (.bool ((a == b) != neg)))
    | _, _ => False
  | .isnil d neg kd x, s, K => match kd, s.ev x with
    | 0, .nilp => K (s.setO d (.bool !neg))
    | 1, .nils => K (s.setO d (.bool !neg))
    | 2, .nilm => K (s.setO d (.bool !neg))
    | 0, .ptr _ _ => K (s.setO d (.bool neg))
    | 0, .eptr _ _ _ => K (s.setO d (.bool neg))
    | 0, .cptr _ => K (s.setO d (.bool neg))
    | 2, .map _ => K (s.setO d (.bool neg))
    | 1, .lst _ es => 0 < es.length ∧ K (s.setO d (.bool neg))
    | 1, .own _ _ _ len => 0 < len ∧ K (s.setO d (.bool neg))
    | _, _ => False
  | .un d op x, s, K => vun op (s.ev x) fun v => K (s.setO d v)
  | .cvt d k x, s, K => match s.ev x with
    | .int _ n => K (s.setO d (.int k (k.wrap n)))
    | _ => False
  | .cvs d x, s, K => match s.ev x with
    | .str t => K (s.setO d (.str t))
    | _ => False
  | .build d zero parts, s, K => (∀ p ∈ parts, (s.ev p.2.2).ncells = some p.2.1) ∧ K (s.setO d (.agg (parts.foldl (fun cs p => setAt cs p.1 (s.ev p.2.2).cells) zero)))
  | .field d off sz ag x, s, K => match s.ev x with
    | .agg cs => off + sz ≤ cs.length ∧ K (s.setO d (pack ag ((cs.drop off).take sz)))
    | _ => False
  | .ext d i x, s, K => match s.ev x with
    | .tup cs => i < cs.length ∧ K (s.setO d (cs.getD i .junk))
    | _ => False
  | .idx d x i, s, K => match s.ev x, s.ev i with
    | .str t, .int _ n => 0 ≤ n ∧ n.toNat < t.length ∧ K (s.setO d (.int .u8 (t.getD n.toNat 0).toNat))
    | _, _ => False
  | .idxA d n sz ag x i, s, K => match s.ev x, s.ev i with
    | .agg cs, .int _ j => 0 ≤ j ∧ j < n ∧ n * sz ≤ cs.length ∧ K (s.setO d (pack ag ((cs.drop (j.toNat * sz)).take sz)))
    | _, _ => False
  | .slcS d x lo hi, s, K => match s.ev x with
    | .str t => bound (lo.map s.ev) 0 fun l => bound (hi.map s.ev) t.length fun h => l ≤ h ∧ h ≤ t.length ∧ K (s.setO d (.str ((t.take h).drop l)))
    | _ => False
  | .slc d sz x lo hi, s, K => match s.ev x with
    | .nils => bound (lo.map s.ev) 0 fun l => bound (hi.map s.ev) 0 fun h => l ≤ h ∧ h ≤ 0 ∧ K (s.setO d .nils)
    | .lst sz' es => sz' = sz ∧ bound (lo.map s.ev) 0 fun l => bound (hi.map s.ev) es.length fun h => l ≤ h ∧ h ≤ es.length ∧ K (s.setO d (.lst sz ((es.take h).drop l)))
    | .own id sz' off n => sz' = sz ∧ bound (lo.map s.ev) 0 fun l => bound (hi.map s.ev) n fun h => l ≤ h ∧ h ≤ n ∧ K (s.setO d (.own id sz (off + l) (h - l)))
    | _ => False
  | .len d st x, s, K => match st, s.ev x with
    | true, .str t => K (s.setO d (.int .i64 t.length))
    | false, .nils => K (s.setO d (.int .i64 0))
    | false, .lst _ es => K (s.setO d (.int .i64 es.length))
    | false, .own _ _ _ n => K (s.setO d (.int .i64 n))
    | _, _ => False
  | .fadr d off x, s, K => match s.ev x with
    | .cptr cs => K (s.setO d (.cptr (cs.drop off)))
    | .ptr id o => K (s.setO d (.ptr id (o + off)))
    | .eptr id i j => K (s.setO d (.eptr id i (j + off)))
    | _ => False
  | .iadr d sz x i, s, K => match s.ev x, s.ev i with
    | .lst sz' es, .int _ n => sz' = sz ∧ 0 ≤ n ∧ n.toNat < es.length ∧ K (s.setO d (.cptr (es.getD n.toNat .junk).cells))
    | .own id sz' off len, .int _ n => sz' = sz ∧ 0 ≤ n ∧ n.toNat < len ∧ K (s.setO d (.eptr id (off + n.toNat) 0))
    | _, _ => False
  | .iadrA d n sz x i, s, K => match s.ev x, s.ev i with
    | .cptr cs, .int _ j => 0 ≤ j ∧ j < n ∧ K (s.setO d (.cptr (cs.drop (j.toNat * sz))))
    | .ptr id o, .int _ j => 0 ≤ j ∧ j < n ∧ K (s.setO d (.ptr id (o + j.toNat * sz)))
    | _, _ => False
  | .nchk d x, s, K => match s.ev x with
    | .cptr cs => K (s.setO d (.cptr cs))
    | .ptr id o => K (s.setO d (.ptr id o))
    | .eptr id i j => K (s.setO d (.eptr id i j))
    | _ => False
  | .load d c sz ag x, s, K => match s.ev x with
    | .cptr cs => sz ≤ cs.length ∧ K (s.setO d (pack ag (cs.take sz)))
    | .ptr id o => match s.L id with
      | some (.box _ cs) => c = false ∧ o + sz ≤ cs.length ∧ K (s.setO d (pack ag ((cs.drop o).take sz)))
      | _ => False
    | .eptr id i j => match s.L id with
      | some (.vec _ sz' es) => c = false ∧ i < es.length ∧ j + sz ≤ sz' ∧ K (s.setO d (pack ag (((es.getD i .junk).cells.drop j).take sz)))
      | _ => False
    | _ => False
  | .store sz x v, s, K => match s.ev x with
    | .ptr id o => match s.L id with
      | some (.box ty cs) => (s.ev v).ncells = some sz ∧ o + sz ≤ cs.length ∧ K (s.put id (.box ty (setAt cs o (s.ev v).cells)))
      | _ => False
    | .eptr id i j => match s.L id with
      | some (.vec ty sz' es) => (s.ev v).ncells = some sz ∧ i < es.length ∧ j + sz ≤ sz' ∧ K (s.put id (.vec ty sz' (es.set i ((es.getD i .junk).recell (setAt (es.getD i .junk).cells j (s.ev v).cells)))))
      | _ => False
    | _ => False
  | .alloc d ty zero, s, K => K ((s.add (s.nx + d) (.box ty zero)).set d (.ptr (s.nx + d) 0))
  | .box d ty x, s, K => (s.ev x).ncells.isSome = true ∧ K ((s.add (s.nx + d) (.box ty (s.ev x).cells)).set d (.ptr (s.nx + d) 0))
  | .mkl d sz parts, s, K => (∀ p ∈ parts, (s.ev p).ncells = some sz) ∧ K (s.setO d (.lst sz (parts.map s.ev)))
  | .mkv d ty sz parts, s, K => (∀ p ∈ parts, (s.ev p).ncells = some sz) ∧ K ((s.add (s.nx + d) (.vec ty sz (parts.map s.ev))).set d (.own (s.nx + d) sz 0 parts.length))
  | .app d ty sz x y, s, K => (s.ev x = .nils ∧ elemsOf sz s.L (s.ev y) (fun ys => ys = []) ∧ K (s.set d .nils)) ∨ appStep d ty sz (s.ev x) (s.ev y) s K
  | .call d c f args, s, K => if c then ∃ r, PTr P f (args.map s.ev) r ∧ V.imms (args.map s.ev) = true ∧ r.imm = true ∧ K (s.setO d r)
    else ∃ r, PTr P f (args.map fun a => view s.L 3 (s.ev a)) r ∧ V.imms (args.map fun a => view s.L 3 (s.ev a)) = true ∧ r.flat = true ∧ K (s.setO d r)
  | .ecall d n f args, s, K => ECall P f (args.map s.ev) s.L (s.nx + n) fun r L' nx' => K ((⟨s.env, L', nx'⟩ : St).setO d r)
  | .ptreq d neg x y, s, K => match s.ev x, s.ev y with
    | .ptr i o, .ptr j q => i = j ∧ o = q ∧ K (s.setO d (.bool !neg))
    | _, _ => False
  | .touns d x, s, K => match s.ev x with
    | .ptr id o => match s.L id with
      | some (.box _ cs) => o < cs.length ∧ K (s.setO d (.ptr id o))
      | _ => False
    | _ => False
  | .frouns d u z x, s, K => match s.ev x with
    | .ptr id o => match s.L id with
      | some (.box ty cs) => o = 0 ∧ ty = u ∧ cs.length = z ∧ K (s.setO d (.ptr id 0))
      | _ => False
    | _ => False
  | .sdata d x, s, K => match s.ev x with
    | .nils => K (s.setO d .nilp)
    | .own id _ off n => 0 < n ∧ K (s.setO d (.eptr id off 0))
    | _ => False
  | .ustr d ty x y, s, K => match s.ev x, s.ev y with
    | .nilp, .int .i64 m => m = 0 ∧ K (s.setO d (.str []))
    | .eptr id i j, .int .i64 m => match s.L id with
      | some (.vec ty' sz es) => ty' = ty ∧ sz = 1 ∧ i = 0 ∧ j = 0 ∧ 0 < m ∧ m.toNat ≤ es.length ∧ ∃ bs, es.take m.toNat = bytesV bs ∧ K ((s.drop id).setO d (.str bs))
      | _ => False
    | _, _ => False
  | .mx d isMax x y, s, K => match s.ev x, s.ev y with
    | .int k a, .int k' b => k = k' ∧ K (s.setO d (.int k (mxI isMax a b)))
    | _, _ => False
  | .mx3 d isMax x y z, s, K => match s.ev x, s.ev y, s.ev z with
    | .int k a, .int k' b, .int k'' c => k = k' ∧ k = k'' ∧ K (s.setO d (.int k (mxI isMax (mxI isMax a b) c)))
    | _, _, _ => False

structure GI where
  g : Option (Nat × Bool)
  i : I

/-- one operation under its guard -/
def gstep (P : Program) (x : GI) (s : St) (K : St → Prop) : Prop :=
  match x.g with
  | none => istep P x.i s K
  | some (t, w) => match s.env t with
    | .bool b => if b = w then istep P x.i s K else K (s.setO x.i.dst (.tup []))
    | .tup [] => K (s.setO x.i.dst (.tup []))
    | _ => False

def aops (P : Program) : List GI → St → (St → Prop) → Prop
  | [], s, K => K s
  | x :: r, s, K => gstep P x s fun s => aops P r s K

/-- a run of operations under one guard -/
structure Grp where
  g : Option (Nat × Bool)
  l : List I

def isteps (P : Program) : List I → St → (St → Prop) → Prop
  | [], s, K => K s
  | i :: r, s, K => istep P i s fun s => isteps P r s K
def skips : List I → St → St
  | [], s => s
  | i :: r, s => skips r (s.setO i.dst (.tup []))

def grun (P : Program) (x : Grp) (s : St) (K : St → Prop) : Prop :=
  match x.g with
  | none => isteps P x.l s K
  | some (t, w) => match s.env t with
    | .bool b => (b = w → isteps P x.l (s.set t (.bool w)) K) ∧ (b = !w → K (skips x.l (s.set t (.bool !w))))
    | .tup [] => K (skips x.l s)
    | _ => False

def gruns (P : Program) : List Grp → St → (St → Prop) → Prop
  | [], s, K => K s
  | x :: r, s, K => grun P x s fun s => gruns P r s K

def Grp.flat (x : Grp) : List GI := x.l.map fun i => ⟨x.g, i⟩
def Grp.ok (x : Grp) : Bool := match x.g with
  | none => true
  | some (t, _) => x.l.all fun i => i.dst != some t

/-- lowered code as the lowering gives it -/
inductive LC where
  | skip
  | bad
  | ops (draw : Bool) (l : List GI)
  | seq (a b : LC)
  | cond (x : Src) (a b : LC)
  | block (id : Nat) (a : LC)
  | loop (a : LC)
  | exit (id : Nat)
  | ret

/-- what the prover may do between two operations -/
inductive Gh where
  | own (d ty sz : Nat)
  | frz (d : Nat)
  | bopen (d : Nat)
  | bclose (d ty : Nat)
  | fz
  | cut

/-- lowered code with the prover's marks -/
inductive C where
  | skip
  | bad
  | ops (draw : Bool) (l : List Grp)
  | seq (a b : C)
  | seqc (a b : C)
  | cond (x : Src) (a b : C)
  | block (id : Nat) (a : C)
  | loop (a : C)
  | exit (id : Nat)
  | ret
  | gh (g : Gh) (a : C)
  | gha (g : Gh) (a : C)

def C.erase : C → LC
  | .skip => .skip
  | .bad => .bad
  | .ops d l => .ops d (l.flatMap Grp.flat)
  | .seq a b => .seq a.erase b.erase
  | .seqc a b => .seq a.erase b.erase
  | .cond x a b => .cond x a.erase b.erase
  | .block id a => .block id a.erase
  | .loop a => .loop a.erase
  | .exit id => .exit id
  | .ret => .ret
  | .gh _ a => a.erase
  | .gha _ a => a.erase

def C.ok : C → Bool
  | .ops _ l => l.all Grp.ok
  | .seq a b => a.ok && b.ok
  | .seqc a b => a.ok && b.ok
  | .cond _ a b => a.ok && b.ok
  | .block _ a => a.ok
  | .loop a => a.ok
  | .gh _ a => a.ok
  | .gha _ a => a.ok
  | _ => true

inductive X where
  | norm
  | exit (n : Nat)
  | ret

def ghstep (g : Gh) (s : St) (K : St → Prop) : Prop :=
  match g with
  | .own d ty sz => s.env d = .nils ∧ K ⟨upd s.env d (.own s.nx sz 0 0), upd s.L s.nx (some (.vec ty sz [])), s.nx + 1⟩
  | .frz d => match s.env d with
    | .own id sz off n => match s.L id with
      | some (.vec _ _ es) => V.imms es = true ∧ off + n ≤ es.length ∧ K ((s.drop id).set d (.lst sz ((es.drop off).take n)))
      | _ => False
    | _ => False
  | .cut => ∃ M : St → Prop, M s ∧ ∀ s, M s → K s
  | .fz => ∃ s', FzS s s' ∧ K s'
  | .bopen d => match s.env d with
    | .ptr id 0 => match s.L id with
      | some (.bld tb ty bs) => ∀ a, (a = .nilp ∨ a = .ptr id 0) → (bs = [] → K ⟨s.env, upd s.L id (some (.box tb [a, .nils])), s.nx⟩) ∧
          (bs ≠ [] → K ⟨s.env, upd (upd s.L s.nx (some (.vec ty 1 (bytesV bs)))) id (some (.box tb [a, .own s.nx 1 0 bs.length])), s.nx + 1⟩)
      | _ => False
    | _ => False
  | .bclose d ty => match s.env d with
    | .ptr id 0 => match s.L id with
      | some (.box tb [a, b]) => (a = .nilp ∨ a = .ptr id 0) ∧ match b with
        | .nils => K ⟨s.env, upd s.L id (some (.bld tb ty [])), s.nx⟩
        | .own m 1 0 len => m ≠ id ∧ 0 < len ∧ match s.L m with
          | some (.vec ty' _ es) => ty' = ty ∧ len ≤ es.length ∧ ∃ bs, es.take len = bytesV bs ∧ K ⟨s.env, upd (upd s.L m none) id (some (.bld tb ty bs)), s.nx⟩
          | _ => False
        | _ => False
      | _ => False
    | _ => False

def seqK (N : St → Prop) (K : X → St → Prop) : X → St → Prop
  | .norm, s => N s
  | x, s => K x s
def blkK (id : Nat) (K : X → St → Prop) : X → St → Prop
  | .exit n, s => if n = id then K .norm s else K (.exit n) s
  | x, s => K x s

/-- behind a region the names that it may have given are behind us -/
def St.past (n : Nat) (s : St) : St := ⟨s.env, s.L, s.nx + n⟩

def awp (P : Program) (n : Nat) : C → (X → St → Prop) → St → Prop
  | .skip, K, s => K .norm s
  | .bad, _, _ => False
  | .ops _ l, K, s => gruns P l s fun s => K .norm (s.past n)
  | .seq a b, K, s => awp P n a (seqK (awp P n b K) K) s
  | .seqc a b, K, s => ∃ M : St → Prop, awp P n a (seqK M K) s ∧ ∀ s, M s → awp P n b K s
  | .cond x a b, K, s => match x, s.ev x with
    | .t m, .bool t => (t = true → awp P n a K (s.set m (.bool true))) ∧ (t = false → awp P n b K (s.set m (.bool false)))
    | .k _, .bool t => if t then awp P n a K s else awp P n b K s
    | _, _ => False
  | .block id a, K, s => awp P n a (blkK id K) s
  | .loop a, K, s => ∃ J : Nat → St → Prop, (∃ m, J m s) ∧ ∀ m s, J m s → awp P n a (seqK (fun s => ∃ m', m' < m ∧ J m' s) K) s
  | .exit id, K, s => K (.exit id) s
  | .ret, K, s => K .ret s
  | .gh g a, K, s => ghstep g s (awp P n a K)
  | .gha g a, K, s => awp P n a (seqK (fun s => ghstep g s (K .norm)) K) s

end Go.Ab
