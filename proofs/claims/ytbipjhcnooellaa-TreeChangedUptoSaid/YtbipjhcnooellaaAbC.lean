/- The lowering of the model's code. No condition. -/
import Derived.Test.YtbipjhcnooellaaAbB
namespace Go.Ab

def ofValue : Value → Option V
  | .bool b => some (.bool b)
  | .int k n => some (.int k n)
  | .string s => if s.size < 2 ^ 63 then some (.str s.data.toList) else none
  | .pointer none => some .nilp
  | .slice none 0 0 => some .nils
  | .map none => some .nilm
  | .nilIface => some (.raw .nilIface)
  | .nilFunc => some (.raw .nilFunc)
  | _ => none

def ofValues : List Value → Option (List V)
  | [] => some []
  | v :: r => match ofValue v, ofValues r with
    | some x, some y => some (x :: y)
    | _, _ => none

def opd (n : Nat) : Operand → Option Src
  | .tmp t => if t < n then some (.t t) else none
  | .const v => (ofValue v).map .k
  | _ => none

def opds (n : Nat) : List Operand → Option (List Src)
  | [] => some []
  | v :: r => match opd n v, opds n r with
    | some x, some y => some (x :: y)
    | _, _ => none

def opdO (n : Nat) : Option Operand → Option (Option Src)
  | none => some none
  | some x => (opd n x).map some

def szOf (P : Program) (t : TypeId) : Option Nat := (P.info? t).map (·.size)
def isAg (P : Program) (t : TypeId) : Bool := match P.underlying t with
  | some (.struct _) => true
  | some (.array _ _) => true
  | _ => false
def isAg? (P : Program) (t : TypeId) : Option Bool := match P.underlying t with
  | some (.struct _) => some true
  | some (.array _ _) => some true
  | some _ => some false
  | none => none
def zeroOf (P : Program) (t : TypeId) : Option (List V) := ((P.info? t).bind (·.zero)).bind fun z => ofValues z.cells.toList
def elemOf? (P : Program) (t : TypeId) : Option TypeId := match P.underlying t with
  | some (.slice e) => some e
  | _ => none
def rowLike (P : Program) (u : TypeId) : Bool := match P.underlying u with
  | some (.slice _) => true
  | some .string => true
  | _ => false
def fieldOf? (P : Program) (t : TypeId) (f : Nat) : Option Field := match P.underlying t with
  | some (.struct fs) => fs[f]?
  | _ => none
def bodied (P : Program) (f : Nat) : Bool := match P.funcs[f]? with
  | some fn => fn.body.isSome && fn.name != "runtime.NumGoroutine"
  | none => false

/-- the name of the library's function that gives back its operand, out of the model's own row -/
def neName : String := (Extern.AbiNoEscape.rows.headD default).1
/-- the library's function that gives back its operand -/
def noEscape (P : Program) (f : Nat) : Bool := match P.funcs[f]? with
  | some fn => fn.body.isNone && fn.name == neName && (Extern.findNext fn).isNone
  | none => false

/-- where a part of a composite value lies: its first cell, its number of cells -/
def placeOf (P : Program) (t : TypeId) (i : Nat) : Option (Nat × Nat) :=
  match P.underlying t with
  | some (.struct fs) => (fs.toList.mapM fun f => (P.info? f.type).map fun j => (f.offset, j.size)).bind fun ps => ps[i]?
  | some (.array _ e) => (P.info? e).map fun j => (i * j.size, j.size)
  | _ => none
/-- the parts of a composite value: each with its first cell and its number of cells -/
def partsOf (P : Program) (n : Nat) (t : TypeId) : List (Nat × Operand) → Option (List (Nat × Nat × Src))
  | [] => some []
  | (i, x) :: r => match placeOf P t i, opd n x, partsOf P n t r with
    | some (off, s), some y, some z => some ((off, s, y) :: z)
    | _, _, _ => none
def placed (P : Program) (t : TypeId) : Bool :=
  match P.underlying t with
  | some (.struct fs) => (fs.toList.mapM fun f => (P.info? f.type).map fun j => (f.offset, j.size)).isSome
  | some (.array _ e) => (P.info? e).isSome
  | _ => false

def fitsAll (total : Nat) (l : List (Nat × Nat × Src)) : Bool := l.all fun p => p.1 + p.2.1 ≤ total

/-- the fields of a struct, one behind the other: the kinds of their cells (0: an integer, 1: a string, 2: a bool) -/
def flatF (P : Program) (fe : TypeId → Option (List Nat)) : Nat → List Field → Option (List Nat)
  | _, [] => some []
  | acc, f :: r => match fe f.type, isAg? P f.type with
    | some z, some ag => if f.name != "_" && f.offset = acc && szOf P f.type = some z.length && (ag || z.length = 1) then (flatF P fe (acc + z.length) r).map (z ++ ·) else none
    | _, _ => none
/-- equality of such values is the equality of their cells: the kinds of these -/
def flatEq (P : Program) : Nat → TypeId → Option (List Nat)
  | 0, _ => none
  | d + 1, t => match P.underlying t with
    | some (.struct fs) => if P.stoodInHeld t then none else flatF P (flatEq P d) 0 fs.toList
    | some (.int _) => some [0]
    | some .string => some [1]
    | some .bool => some [2]
    | _ => none

def dstOk (n : Nat) : Option Nat → Bool
  | some d => d < n
  | none => true

def lowI (P : Program) (n : Nat) (hint : Nat → Nat) (o : Oper) : Option I :=
  match o.op with
  | .move x => (opd n x).map fun x => .mov o.dst x
  | .assign x => (opd n x).map fun x => .mov o.dst x
  | .pick c a b => match opd n c, opd n a, opd n b with
    | some c, some a, some b => some (.pick o.dst c a b)
    | _, _, _ => none
  | .alloc e => match o.dst, zeroOf P e with
    | some d, some z => some (.alloc d e z)
    | _, _ => none
  | .box e x => match o.dst, opd n x with
    | some d, some x => some (.box d e x)
    | _, _ => none
  | .build t parts => match zeroOf P t, partsOf P n t parts.toList with
    | some z, some ps => if placed P t && fitsAll z.length ps then some (.build o.dst z ps) else none
    | _, _ => none
  | .buildSlice t len parts => match (elemOf? P t).bind (szOf P), opds n (parts.toList.map (·.2)) with
    | some s, some xs =>
      if parts.toList.map (·.1) = List.range len && len * s ≤ 2 ^ 24 && 0 < s && ((elemOf? P t).bind (zeroOf P)).any (·.length = s) then
        match o.dst with
        | some d => if hint d = 1 then (elemOf? P t).map fun e => .mkv d e s xs else some (.mkl (some d) s xs)
        | none => none
      else none
    | _, _ => none
  | .load t x => match szOf P t, isAg? P t, opd n x with
    | some s, some ag, some x => if ag || s = 1 then some (.load o.dst (o.dst.any fun d => hint d = 2) s ag x) else none
    | _, _, _ => none
  | .store t x v => match szOf P t, opd n x, opd n v with
    | some s, some x, some v => if o.dst = none then some (.store s x v) else none
    | _, _, _ => none
  | .nilCheck x => (opd n x).map fun x => .nchk o.dst x
  | .binOp op t x y _ => match opd n x, opd n y with
    | some a, some b =>
      if op == .eql || op == .neq then
        match P.underlying t with
        | some (.int _) => some (.bin o.dst op a b)
        | some .string => some (.bin o.dst op a b)
        | some .bool => some (.eqB o.dst (op == .neq) a b)
        | some (.pointer t) => match y with
          | .const (.pointer none) => some (.isnil o.dst (op == .neq) 0 a)
          | _ => if (P.info? t).isSome then some (.ptreq o.dst (op == .neq) a b) else none
        | some (.slice _) => match y with
          | .const (.slice none 0 0) => some (.isnil o.dst (op == .neq) 1 a)
          | _ => none
        | some (.map _ _) => match y with
          | .const (.map none) => some (.isnil o.dst (op == .neq) 2 a)
          | _ => none
        | some (.struct _) => if P.eqGuardType P.depth t then none else (flatEq P 100 t).map fun z => .eqA o.dst (op == .neq) z a b
        | _ => none
      else some (.bin o.dst op a b)
    | _, _ => none
  | .unOp op _ x => (opd n x).map fun x => .un o.dst op x
  | .convert src dst x => match P.underlying src, P.underlying dst, opd n x with
    | some (.pointer t), some .unsafePointer, some x => if (szOf P t).any (0 < ·) then some (.touns o.dst x) else none
    | some .unsafePointer, some (.pointer u), some x => match szOf P u with
      | some z => if 0 < z && liesAt P P.depth u (z / P.cellsOf u) 0 u 1 then some (.frouns o.dst u z x) else none
      | none => none
    | some (.int _), some (.int k), some x => some (.cvt o.dst k x)
    | some .string, some .string, some x => some (.cvs o.dst x)
    | _, _, _ => none
  | .slice t x lo hi none => match opd n x, opdO n lo, opdO n hi with
    | some x, some lo, some hi => match P.underlying t with
      | some .string => some (.slcS o.dst x lo hi)
      | some (.slice e) => (szOf P e).map fun s => .slc o.dst s x lo hi
      | _ => none
    | _, _, _ => none
  | .fieldAddr t x f => match fieldOf? P t f, opd n x with
    | some fd, some x => if (szOf P fd.type).any (0 < ·) then some (.fadr o.dst fd.offset x) else none
    | _, _ => none
  | .field t x f => match fieldOf? P t f, opd n x with
    | some fd, some x => match szOf P fd.type, isAg? P fd.type with
      | some s, some ag => if ag || s = 1 then some (.field o.dst fd.offset s ag x) else none
      | _, _ => none
    | _, _ => none
  | .indexAddr t x i => match opd n x, opd n i with
    | some x, some i => match P.underlying t with
      | some (.slice e) => (szOf P e).bind fun s => if 0 < s then some (.iadr o.dst s x i) else none
      | some (.array m e) => (szOf P e).map fun s => .iadrA o.dst m s x i
      | _ => none
    | _, _ => none
  | .index t x i => match opd n x, opd n i with
    | some x, some i => match P.underlying t with
      | some .string => some (.idx o.dst x i)
      | some (.array m e) => match szOf P e, isAg? P e with
        | some s, some ag => if ag || s = 1 then some (.idxA o.dst m s ag x i) else none
        | _, _ => none
      | _ => none
    | _, _ => none
  | .extract x i => (opd n x).map fun x => .ext o.dst i x
  | .call c => match c.callee with
    | .value (.func f) => if bodied P f then (opds n c.args.toList).map fun xs => .call o.dst (!o.dst.any fun d => hint d = 3) f xs
      else if noEscape P f then (match opds n c.args.toList with | some [x] => some (.mov o.dst x) | _ => none) else none
    | .builtin .unsafeSliceData => match c.args.toList with
      | [x] => (opd n x).map fun x => .sdata o.dst x
      | _ => none
    | .builtin .unsafeString => match opds n c.args.toList, c.argTypes.toList with
      | some [x, y], [pt, _] => match P.underlying pt with
        | some (.pointer e) => if P.cellsOf e = 1 then some (.ustr o.dst e x y) else none
        | _ => none
      | _, _ => none
    | .builtin .len => match c.args.toList, (c.argTypes[0]?).bind P.underlying with
      | [x], some .string => (opd n x).map fun x => .len o.dst true x
      | [x], some (.slice _) => (opd n x).map fun x => .len o.dst false x
      | _, _ => none
    | .builtin .append => match c.args.toList, c.argTypes.toList, o.dst with
      | [x, y], [t, u], some d => match elemOf? P t, opd n x, opd n y with
        | some e, some x, some y => match szOf P e, zeroOf P e, P.info? e with
          | some s, some z, some i =>
            if z.length = s && 0 < s && i.bytes ≤ 4096 && rowLike P u then some (.app d e s x y) else none
          | _, _, _ => none
        | _, _, _ => none
      | _, _, _ => none
    | .builtin .max => match opds n c.args.toList with
      | some [x, y] => some (.mx o.dst true x y)
      | some [x, y, z] => some (.mx3 o.dst true x y z)
      | _ => none
    | .builtin .min => match opds n c.args.toList with
      | some [x, y] => some (.mx o.dst false x y)
      | some [x, y, z] => some (.mx3 o.dst false x y z)
      | _ => none
    | _ => none
  | _ => none

/-- a call of a function that may turn owned blocks -/
def lowE (P : Program) (n : Nat) (hint : Nat → Nat) (o : Oper) : Option I :=
  match o.op with
  | .call c => match c.callee with
    | .value (.func f) => if hint (1000000 + f) = 4 && bodied P f then (opds n c.args.toList).map (.ecall o.dst n f) else none
    | _ => none
  | _ => none
def lowX (P : Program) (n : Nat) (hint : Nat → Nat) (o : Oper) : Option I :=
  match lowE P n hint o with
  | some i => some i
  | none => lowI P n hint o

def lowG (ops : Array Oper) (n : Nat) : Option (Nat × Bool) → Option (Option (Nat × Bool))
  | none => some none
  | some (j, w) => match (ops[j]?).bind (·.dst) with
    | some t => if t < n then some (some (t, w)) else none
    | none => none

def lower1 (P : Program) (n : Nat) (hint : Nat → Nat) (ops : Array Oper) (o : Oper) : Option GI :=
  if dstOk n o.dst then
    match lowG ops n o.guard, lowX P n hint o with
    | some g, some i => if i.dst = o.dst then some ⟨g, i⟩ else none
    | _, _ => none
  else none

def lowerL (P : Program) (n : Nat) (hint : Nat → Nat) (ops : Array Oper) : List Oper → Option (List GI)
  | [] => some []
  | o :: r => match lower1 P n hint ops o, lowerL P n hint ops r with
    | some x, some y => some (x :: y)
    | _, _ => none

/-- the operands -/
def srcT : Src → List Nat
  | .t n => [n]
  | .k _ => []
def I.srcs : I → List Src
  | .mov _ x | .un _ _ x | .cvt _ _ x | .cvs _ x | .field _ _ _ _ x | .ext _ _ x | .len _ _ x | .fadr _ _ x | .nchk _ x | .load _ _ _ _ x | .box _ _ x | .isnil _ _ _ x | .touns _ x | .frouns _ _ _ x | .sdata _ x => [x]
  | .pick _ c a b | .mx3 _ _ c a b => [c, a, b]
  | .bin _ _ x y | .eqA _ _ _ x y | .eqB _ _ x y | .idx _ x y | .idxA _ _ _ _ x y | .iadr _ _ x y | .iadrA _ _ _ x y | .store _ x y | .app _ _ _ x y | .mx _ _ x y | .ptreq _ _ x y | .ustr _ _ x y => [x, y]
  | .build _ _ ps => ps.map (·.2.2)
  | .slcS _ x lo hi | .slc _ _ x lo hi => x :: (lo.toList ++ hi.toList)
  | .alloc _ _ _ => []
  | .mkl _ _ ps | .mkv _ _ _ ps => ps
  | .call _ _ _ xs | .ecall _ _ _ xs => xs
def I.reads (i : I) : List Nat := i.srcs.flatMap srcT
def srcImm : Src → Bool
  | .t _ => true
  | .k v => v.imm
/-- its constants bear no names -/
def I.constOk (i : I) : Bool := i.srcs.all srcImm && (match i with | .build _ z _ => V.imms z | .alloc _ _ z => V.imms z | _ => true)
/-- how an operation stands to the owned blocks: 0: it looks at none; 1: it looks at them; 2: it makes one; 3: it turns them; 4: it calls what may do all this -/
def I.rank : I → Nat
  | .load _ c _ _ _ | .call _ c _ _ => if c then 0 else 1
  | .touns _ _ | .frouns _ _ _ _ => 1
  | .alloc _ _ _ | .box _ _ _ | .mkv _ _ _ _ => 2
  | .store _ _ _ | .app _ _ _ _ _ | .ustr _ _ _ _ => 3
  | .ecall _ _ _ _ => 4
  | _ => 0
/-- an operation whose result is the prover's choice -/
def I.ang : I → Bool
  | .call _ c _ _ => c
  | _ => false
def GI.reads (x : GI) : List Nat := x.i.reads ++ (match x.g with | some (t, _) => [t] | none => [])
def disj (a b : List Nat) : Bool := a.all fun x => !b.contains x
/-- two operations of which neither minds which comes first -/
def GI.indep (x y : GI) : Bool :=
  disj x.i.dst.toList y.reads && disj y.i.dst.toList x.reads && disj x.i.dst.toList y.i.dst.toList &&
  !(3 ≤ x.i.rank && y.i.rank ≠ 0) && !(3 ≤ y.i.rank && x.i.rank ≠ 0) && !(x.i.rank = 4 && y.i.ang) && !(y.i.rank = 4 && x.i.ang)

def mks (l : List GI) : List Nat := l.filterMap fun x => x.i.mk
/-- in the text's order: each operation is behind those that it must follow, or independent of them -/
def orderOk (before : Nat → Nat → Bool) (l : List GI) : Bool :=
  (List.range l.length).all fun i => (List.range i).all fun j =>
    before j i || (match l[j]?, l[i]? with | some x, some y => x.indep y | _, _ => false)
/-- each edge that binds leads back in the text -/
def edgesOk (ops : Array Oper) : Bool :=
  (List.range ops.size).all fun i => ((ops[i]?).map fun o => o.after.toList.all fun e => !Region.binds .any e || e.on < i).getD true
def nodups : List Nat → Bool
  | [] => true
  | x :: r => !r.contains x && nodups r

def ancOf (ops : Array Oper) (j i : Nat) : Bool := ((Region.before ops).getD i 0).testBit j

def lowerC (P : Program) (n : Nat) (hint : Nat → Nat) : Code → Option LC
  | .skip => some .skip
  | .region _ ops draw => match lowerL P n hint ops ops.toList with
    | some l => if nodups (mks l) then (if draw then (if P.follows .mixedOrders && orderOk (ancOf ops) l && edgesOk ops && l.all (·.i.constOk) then some (.ops true l) else none) else some (.ops false l)) else none
    | none => none
  | .seq a b => match lowerC P n hint a, lowerC P n hint b with
    | some x, some y => some (.seq x y)
    | _, _ => none
  | .cond c a b => match opd n c, lowerC P n hint a, lowerC P n hint b with
    | some c, some x, some y => some (.cond c x y)
    | _, _, _ => none
  | .block id a => (lowerC P n hint a).map (.block id)
  | .loop a => (lowerC P n hint a).map .loop
  | .exit id => some (.exit id)
  | .ret => some .ret
  | .refuse _ => some .bad
  | _ => none

end Go.Ab
