/- Several texts of one kind, merged. No condition. -/
import Derived.Test.YtjakkhalapaofaaGreatDoorAbE4
set_option linter.unusedSimpArgs false
set_option linter.unusedVariables false
namespace Go.Ab
inductive Tr (α:Type) where
 | leaf
 | node (a:Option α) (l r:Tr α)
 | far (f:Nat→Option α)
def nz {α:Type} (n m:Nat) (a b:α):α:=match Nat.beq n m with
 | true=>a
 | false=>b
theorem bDf {α:Type} (n m:Nat) (a b:α):nz n m a b=if n=m then a else b:=by
 unfold nz
 split
 ·rename_i h; rw [if_pos (Nat.eq_of_beq_eq_true h)]
 ·rename_i h; rw [if_neg (Nat.ne_of_beq_eq_false h)]
def Tr.get {α:Type}:Tr α→Nat→Option α
 | .leaf,_=>none
 | .node a l r,n=>nz n 0 a (nz (n % 2) 1 (l.get (n / 2)) (r.get (n / 2-1)))
 | .far f,n=>f n
def Tr.set {α:Type}:Nat→Tr α→Nat→Option α→Tr α
 | 0,t,n,a=>.far fun m=>if m=n then a else t.get m
 | d+1,.node x l r,n,a=>if n=0 then .node a l r else if n % 2=1 then .node x (Tr.set d l (n / 2) a) r else .node x l (Tr.set d r (n / 2-1) a)
 | d+1,.leaf,n,a=>if n=0 then .node a .leaf .leaf else if n % 2=1 then .node none (Tr.set d .leaf (n / 2) a) .leaf else .node none .leaf (Tr.set d .leaf (n / 2-1) a)
 | d+1,.far f,n,a=>.far fun m=>if m=n then a else f m
theorem Tr.get_node {α:Type} (a:Option α) (l r:Tr α) (n:Nat):(Tr.node a l r).get n=if n=0 then a else if n % 2=1 then l.get (n / 2) else r.get (n / 2-1):=by
 rw [Tr.get,bDf,bDf]
theorem Tr.get_leaf {α:Type} (n:Nat):(Tr.leaf:Tr α).get n=none:=rfl
theorem Tr.get_set {α:Type}:∀ (d:Nat) (t:Tr α) (n:Nat) (a:Option α) (m:Nat),(Tr.set d t n a).get m=if m=n then a else t.get m
 | 0,t,n,a,m=>rfl
 | d+1,.far f,n,a,m=>rfl
 | d+1,.leaf,n,a,m=>by
   simp only [Tr.set]
   by_cases h0:n=0
   ·subst h0
    by_cases e:m=0
    ·subst e; simp [Tr.get_node,Tr.get_leaf]
    ·simp only [if_true,Tr.get_node,Tr.get_leaf,e,if_false]
     split <;> rfl
   ·simp only [h0,if_false]
    by_cases h1:n % 2=1
    ·simp only [h1,if_true,Tr.get_node,Tr.get_leaf]
     by_cases e:m=0
     ·subst e; simp [Ne.symm h0]
     ·by_cases e1:m % 2=1
      ·simp only [e,e1,if_false,if_true,Tr.get_set d]
       by_cases q:m=n
       ·subst q; simp
       ·rw [if_neg (by omega),if_neg q]; rfl
      ·simp only [e,e1,if_false]
       rw [if_neg (by omega)]
    ·simp only [h1,if_false,Tr.get_node,Tr.get_leaf]
     by_cases e:m=0
     ·subst e; simp [Ne.symm h0]
     ·by_cases e1:m % 2=1
      ·simp only [e,e1,if_false,if_true]
       rw [if_neg (by omega)]
      ·simp only [e,e1,if_false,Tr.get_set d]
       by_cases q:m=n
       ·subst q; simp
       ·rw [if_neg (by omega),if_neg q]; rfl
 | d+1,.node x l r,n,a,m=>by
   simp only [Tr.set]
   by_cases h0:n=0
   ·subst h0
    by_cases e:m=0
    ·subst e; simp [Tr.get_node]
    ·simp only [if_true,Tr.get_node,e,if_false]
   ·simp only [h0,if_false]
    by_cases h1:n % 2=1
    ·simp only [h1,if_true,Tr.get_node]
     by_cases e:m=0
     ·subst e; simp [Ne.symm h0]
     ·by_cases e1:m % 2=1
      ·simp only [e,e1,if_false,if_true,Tr.get_set d]
       by_cases q:m=n
       ·subst q; simp
       ·rw [if_neg (by omega),if_neg q]
      ·simp only [e,e1,if_false]
       rw [if_neg (by omega)]
    ·simp only [h1,if_false,Tr.get_node]
     by_cases e:m=0
     ·subst e; simp [Ne.symm h0]
     ·by_cases e1:m % 2=1
      ·simp only [e,e1,if_false,if_true]
       rw [if_neg (by omega)]
      ·simp only [e,e1,if_false,Tr.get_set d]
       by_cases q:m=n
       ·subst q; simp
       ·rw [if_neg (by omega),if_neg q]
def Tr.setK {α β:Type}:Nat→Tr α→Nat→Option α→(Tr α→β)→β
 | 0,t,n,a,k=>k (.far fun m=>if m=n then a else t.get m)
 | d+1,.node x l r,n,a,k=>nz n 0 (k (.node a l r)) (nz (n % 2) 1 (Tr.setK d l (n / 2) a (fun l=>k (.node x l r))) (Tr.setK d r (n / 2-1) a (fun r=>k (.node x l r))))
 | d+1,.leaf,n,a,k=>nz n 0 (k (.node a .leaf .leaf)) (nz (n % 2) 1 (Tr.setK d .leaf (n / 2) a (fun l=>k (.node none l .leaf))) (Tr.setK d .leaf (n / 2-1) a (fun r=>k (.node none .leaf r))))
 | d+1,.far f,n,a,k=>k (.far fun m=>if m=n then a else f m)
theorem Tr.setK_eq {α β:Type}:∀ (d:Nat) (t:Tr α) (n:Nat) (a:Option α) (k:Tr α→β),Tr.setK d t n a k=k (Tr.set d t n a)
 | 0,t,n,a,k=>rfl
 | d+1,.far f,n,a,k=>rfl
 | d+1,.leaf,n,a,k=>by
   simp only [Tr.setK,Tr.set,Tr.setK_eq d,bDf]
   split
   ·rfl
   ·split <;> rfl
 | d+1,.node x l r,n,a,k=>by
   simp only [Tr.setK,Tr.set,Tr.setK_eq d,bDf]
   split
   ·rfl
   ·split <;> rfl
def aE7 {β:Type} (n:Nat) (k:Nat→β):β:=match n with
 | 0=>k 0
 | m+1=>k (m+1)
theorem aJo {β:Type} (n:Nat) (k:Nat→β):aE7 n k=k n:=by cases n <;> rfl
def bAo {β:Type} (n:Int) (k:Int→β):β:=match n with
 | .ofNat m=>aE7 m fun m=>k (.ofNat m)
 | .negSucc m=>aE7 m fun m=>k (.negSucc m)
theorem aZm {β:Type} (n:Int) (k:Int→β):bAo n k=k n:=by cases n <;> simp [bAo,aJo]
def aCy {α β:Type} (s:List α) (k:List α→β):β:=match s with
 | []=>k []
 | x::r=>aCy r fun r=>k (x::r)
theorem aDs {α β:Type}:∀ (s:List α) (k:List α→β),aCy s k=k s
 | [],k=>rfl
 | x::r,k=>by simp only [aCy]; rw [aDs r]
def aS7 {β:Type} (v:V) (k:V→β):β:=match v with
 | .int j n=>bAo n fun n=>k (.int j n)
 | .str s=>aCy s fun s=>k (.str s)
 | .bool true=>k (.bool true)
 | .bool false=>k (.bool false)
 | .lst z es=>aCy es fun es=>k (.lst z es)
 | .agg cs=>aCy cs fun cs=>k (.agg cs)
 | .own i z o n=>aE7 i fun i=>aE7 o fun o=>aE7 n fun n=>k (.own i z o n)
 | .ptr i o=>aE7 i fun i=>aE7 o fun o=>k (.ptr i o)
 | .eptr i a b=>aE7 i fun i=>aE7 a fun a=>aE7 b fun b=>k (.eptr i a b)
 | v=>k v
theorem aN9 {β:Type} (v:V) (k:V→β):aS7 v k=k v:=by
 cases v with
 | bool b=>cases b <;> rfl
 | _=>simp [aS7,aZm,aDs,aJo]
def bE5 {β:Type} (v:V) (k:V→β):β:=match v with
 | .junk=>k .junk
 | .bool b=>k (.bool b)
 | .int j n=>k (.int j n)
 | .str s=>k (.str s)
 | .nilp=>k .nilp
 | .nils=>k .nils
 | .ptr i o=>k (.ptr i o)
 | .eptr i a b=>k (.eptr i a b)
 | .cptr cs=>k (.cptr cs)
 | .lst z es=>k (.lst z es)
 | .own i z o n=>k (.own i z o n)
 | .agg cs=>k (.agg cs)
 | .tup vs=>k (.tup vs)
 | .fn f cs=>k (.fn f cs)
 | .map i=>k (.map i)
 | .nilm=>k .nilm
 | .raw v=>k (.raw v)
theorem aZ1 {β:Type} (v:V) (k:V→β):bE5 v k=k v:=by cases v <;> rfl
structure ESt where
 env:Tr V
 L:Tr Blk
 nx:Nat
def ESt.to (s:ESt):St:=⟨fun i=>(s.env.get i).getD .junk,s.L.get,s.nx⟩
def ESt.ev (s:ESt):Src→V
 | .t n=>(s.env.get n).getD .junk
 | .k v=>v
theorem ESt.to_ev (s:ESt) (x:Src):s.to.ev x=s.ev x:=by cases x <;> rfl
def ESt.set (s:ESt) (d:Nat) (v:V):ESt:=⟨Tr.set 12 s.env d (some v),s.L,s.nx⟩
def ESt.setO (s:ESt):Option Nat→V→ESt
 | some d,v=>s.set d v
 | none,_=>s
def ESt.put (s:ESt) (id:Nat) (b:Option Blk):ESt:=⟨s.env,Tr.set 40 s.L id b,s.nx⟩
theorem ESt.to_set (s:ESt) (d:Nat) (v:V):(s.set d v).to=s.to.set d v:=by
 unfold ESt.set ESt.to St.set upd
 congr
 funext i
 rw [Tr.get_set]
 split <;> rfl
theorem ESt.to_setO (s:ESt) (d:Option Nat) (v:V):(s.setO d v).to=s.to.setO d v:=by
 cases d
 ·rfl
 ·exact ESt.to_set _ _ _
theorem ESt.to_put (s:ESt) (id:Nat) (b:Option Blk):(s.put id b).to=⟨s.to.env,upd s.to.L id b,s.nx⟩:=by
 unfold ESt.put ESt.to upd
 congr
 funext i
 rw [Tr.get_set]
def ESt.setK {β:Type} (s:ESt) (d:Nat) (v:V) (k:ESt→β):β:=bE5 v fun v=>Tr.setK 12 s.env d (some v) fun e=>k ⟨e,s.L,s.nx⟩
theorem ESt.setK_eq {β:Type} (s:ESt) (d:Nat) (v:V) (k:ESt→β):s.setK d v k=k (s.set d v):=by
 unfold ESt.setK ESt.set
 rw [aZ1,Tr.setK_eq]
def ESt.setOK {β:Type} (s:ESt) (d:Option Nat) (v:V) (k:ESt→β):β:=match d with
 | some d=>s.setK d v k
 | none=>k s
theorem ESt.setOK_eq {β:Type} (s:ESt) (d:Option Nat) (v:V) (k:ESt→β):s.setOK d v k=k (s.setO d v):=by
 cases d
 ·rfl
 ·exact ESt.setK_eq _ _ _ _
def ESt.setOF {β:Type} (s:ESt) (d:Option Nat) (v:V) (k:ESt→β):β:=aS7 v fun v=>s.setOK d v k
theorem ESt.setOF_eq {β:Type} (s:ESt) (d:Option Nat) (v:V) (k:ESt→β):s.setOF d v k=k (s.setO d v):=by
 unfold ESt.setOF
 rw [aN9,ESt.setOK_eq]
def ESt.putK {β:Type} (s:ESt) (id:Nat) (b:Option Blk) (k:ESt→β):β:=Tr.setK 40 s.L id b fun e=>k ⟨s.env,e,s.nx⟩
theorem ESt.putK_eq {β:Type} (s:ESt) (id:Nat) (b:Option Blk) (k:ESt→β):s.putK id b k=k (s.put id b):=by
 unfold ESt.putK ESt.put
 rw [Tr.setK_eq]
def aTw (op:BinOp) (k:IntKind) (a b:Int):Option V :=
 match op with
 | .add=>some (.int k (k.wrap (a+b)))
 | .sub=>some (.int k (k.wrap (a-b)))
 | .mul=>some (.int k (k.wrap (a*b)))
 | .quo=>if b=0 then none else some (.int k (k.wrap (a.tdiv b)))
 | .rem=>if b=0 then none else some (.int k (a.tmod b))
 | .and=>some (.int k (aG6 .and k a b))
 | .or=>some (.int k (aG6 .or k a b))
 | .xor=>some (.int k (aG6 .xor k a b))
 | .andNot=>some (.int k (aG6 .andNot k a b))
 | .eql=>some (.bool (decide (a=b)))
 | .neq=>some (.bool (!decide (a=b)))
 | .lss=>some (.bool (decide (a<b)))
 | .leq=>some (.bool (decide (a≤b)))
 | .gtr=>some (.bool (decide (b<a)))
 | .geq=>some (.bool (decide (b≤a)))
 | .shr=>if 0≤b then some (.int k (vshr k a b)) else none
 | _=>none
def aZx (op:BinOp) (a b:List UInt8):Option V :=
 match op with
 | .add=>if a.length+b.length<2^63 then some (.str (a++b)) else none
 | .eql=>some (.bool (decide (a=b)))
 | .neq=>some (.bool (!decide (a=b)))
 | .lss=>some (.bool (Op.bytesLess a b))
 | .leq=>some (.bool (Op.bytesLess a b||decide (a=b)))
 | .gtr=>some (.bool (!(Op.bytesLess a b||decide (a=b))))
 | .geq=>some (.bool (!Op.bytesLess a b))
 | _=>none
def aV4 (op:BinOp) (x y:V):Option V :=
 match x,y with
 | .int k a,.int k' b=>if k=k' then aTw op k a b else if op=.shr then aTw op k a b else none
 | .str a,.str b=>aZx op a b
 | _,_=>none
theorem aS1 {op:BinOp} {k:IntKind} {a b:Int} {v:V} (h:aTw op k a b=some v) {K:V→Prop} (hK:K v):vint op k a b K:=by
 cases op <;> simp only [aTw,vint] at h ⊢ <;> (try cases h) <;> (try exact hK) <;> (split at h <;> cases h <;> first | exact ⟨by assumption,hK⟩ | exact ⟨_,hK⟩)
theorem bCl {op:BinOp} {a b:List UInt8} {v:V} (h:aZx op a b=some v) {K:V→Prop} (hK:K v):vstr op a b K:=by
 cases op <;> simp only [aZx,vstr] at h ⊢ <;> (try cases h) <;> (try exact hK) <;> (split at h <;> cases h <;> exact ⟨by assumption,hK⟩)
theorem bDk {op:BinOp} {x y:V} {v:V} (h:aV4 op x y=some v) {K:V→Prop} (hK:K v):vbin op x y K:=by
 unfold aV4 at h
 unfold vbin
 split at h
 ·split at h
  ·rename_i e; exact ⟨.inr e,aS1 h hK⟩
  ·split at h
   ·rename_i e; exact ⟨.inl e,aS1 h hK⟩
   ·cases h
 ·exact bCl h hK
 ·cases h
def evUn (op:UnOp) (x:V):Option V :=
 match op,x with
 | .not,.bool b=>some (.bool !b)
 | .neg,.int k n=>some (.int k (k.wrap (0-n)))
 | _,_=>none
theorem bF9 {op:UnOp} {x:V} {v:V} (h:evUn op x=some v) {K:V→Prop} (hK:K v):vun op x K:=by
 unfold evUn at h
 unfold vun
 split at h <;> cases h <;> exact hK
def bNv (kd:Nat) (x:V):Option Bool :=
 match kd,x with
 | 0,.nilp=>some true
 | 1,.nils=>some true
 | 2,.nilm=>some true
 | 0,.ptr _ _=>some false
 | 0,.eptr _ _ _=>some false
 | 0,.cptr _=>some false
 | 2,.map _=>some false
 | 1,.lst _ es=>if 0<es.length then some false else none
 | 1,.own _ _ _ len=>if 0<len then some false else none
 | _,_=>none
def aB4 (o:Option V) (d:Nat):Option Nat :=
 match o with
 | none=>some d
 | some (.int _ i)=>if 0≤i then some i.toNat else none
 | _=>none
def aRp (sz:Nat) (L:Tr Blk) (y:V):Option (List V) :=
 match y with
 | .nils=>some []
 | .lst sz' es=>if sz'=sz then some es else none
 | .own id sz' off len=>match L.get id with
   | some (.vec _ _ es)=>if sz'=sz∧off+len≤es.length then some ((es.drop off).take len) else none
   | _=>none
 | .str s=>if sz=1 then some (s.map fun b=>.int .u8 b.toNat) else none
 | _=>none
def evI {R:Type} (pc:Nat→List V→Option V) (ec:Nat→List V→Tr Blk→Nat→(V→Tr Blk→Nat→Option R)→Option R) (bd:Nat→Bool):I→ESt→(ESt→Option R)→Option R
 | .mov d x,s,k=>s.setOK d (s.ev x) k
 | .pick d c a b,s,k=>match s.ev c with
   | .bool true=>s.setOK d (s.ev a) k
   | .bool false=>s.setOK d (s.ev b) k
   | _=>none
 | .bin d op x y,s,k=>match aV4 op (s.ev x) (s.ev y) with
   | some v=>s.setOF d v k
   | none=>none
 | .eqA d neg ks x y,s,k=>match s.ev x,s.ev y with
   | .agg a,.agg b=>match aAr ks a b with
     | some t=>s.setOK d (.bool (t != neg)) k
     | none=>none
   | _,_=>none
 | .eqB d neg x y,s,k=>match s.ev x,s.ev y with
   | .bool a,.bool b=>s.setOK d (.bool ((a==b) != neg)) k
   | _,_=>none
 | .isnil d neg kd x,s,k=>match bNv kd (s.ev x) with
   | some true=>s.setOK d (.bool !neg) k
   | some false=>s.setOK d (.bool neg) k
   | none=>none
 | .un d op x,s,k=>match evUn op (s.ev x) with
   | some v=>s.setOF d v k
   | none=>none
 | .cvt d j x,s,k=>match s.ev x with
   | .int _ n=>s.setOF d (.int j (j.wrap n)) k
   | _=>none
 | .cvs d x,s,k=>match s.ev x with
   | .str t=>s.setOF d (.str t) k
   | _=>none
 | .build d zero parts,s,k=>if (parts.all fun p=>decide ((s.ev p.2.2).ncells=some p.2.1))=true then s.setOF d (.agg (parts.foldl (fun cs p=>aBq cs p.1 (s.ev p.2.2).cells) zero)) k else none
 | .field d off sz ag x,s,k=>match s.ev x with
   | .agg cs=>if off+sz≤cs.length then s.setOF d (pack ag ((cs.drop off).take sz)) k else none
   | _=>none
 | .ext d i x,s,k=>match s.ev x with
   | .tup cs=>if i<cs.length then s.setOK d (cs.getD i .junk) k else none
   | _=>none
 | .idx d x i,s,k=>match s.ev x,s.ev i with
   | .str t,.int _ n=>if 0≤n∧n.toNat<t.length then s.setOF d (.int .u8 (t.getD n.toNat 0).toNat) k else none
   | _,_=>none
 | .idxA d n sz ag x i,s,k=>match s.ev x,s.ev i with
   | .agg cs,.int _ j=>if 0≤j∧j<n∧n*sz≤cs.length then s.setOF d (pack ag ((cs.drop (j.toNat*sz)).take sz)) k else none
   | _,_=>none
 | .slcS d x lo hi,s,k=>match s.ev x with
   | .str t=>match aB4 (lo.map s.ev) 0,aB4 (hi.map s.ev) t.length with
     | some l,some h=>if l≤h∧h≤t.length then s.setOF d (.str ((t.take h).drop l)) k else none
     | _,_=>none
   | _=>none
 | .slc d sz x lo hi,s,k=>match s.ev x with
   | .nils=>match aB4 (lo.map s.ev) 0,aB4 (hi.map s.ev) 0 with
     | some l,some h=>if l≤h∧h≤0 then s.setOF d .nils k else none
     | _,_=>none
   | .lst sz' es=>match aB4 (lo.map s.ev) 0,aB4 (hi.map s.ev) es.length with
     | some l,some h=>if sz'=sz∧l≤h∧h≤es.length then s.setOF d (.lst sz ((es.take h).drop l)) k else none
     | _,_=>none
   | .own id sz' off n=>match aB4 (lo.map s.ev) 0,aB4 (hi.map s.ev) n with
     | some l,some h=>if sz'=sz∧l≤h∧h≤n then s.setOF d (.own id sz (off+l) (h-l)) k else none
     | _,_=>none
   | _=>none
 | .len d st x,s,k=>match st,s.ev x with
   | true,.str t=>s.setOF d (.int .i64 t.length) k
   | false,.nils=>s.setOF d (.int .i64 0) k
   | false,.lst _ es=>s.setOF d (.int .i64 es.length) k
   | false,.own _ _ _ n=>s.setOF d (.int .i64 n) k
   | _,_=>none
 | .fadr d off x,s,k=>match s.ev x with
   | .cptr cs=>s.setOF d (.cptr (cs.drop off)) k
   | .ptr id o=>s.setOF d (.ptr id (o+off)) k
   | .eptr id i j=>s.setOF d (.eptr id i (j+off)) k
   | _=>none
 | .iadr d sz x i,s,k=>match s.ev x,s.ev i with
   | .lst sz' es,.int _ n=>if sz'=sz∧0≤n∧n.toNat<es.length then s.setOF d (.cptr (es.getD n.toNat .junk).cells) k else none
   | .own id sz' off len,.int _ n=>if sz'=sz∧0≤n∧n.toNat<len then s.setOF d (.eptr id (off+n.toNat) 0) k else none
   | _,_=>none
 | .iadrA d n sz x i,s,k=>match s.ev x,s.ev i with
   | .cptr cs,.int _ j=>if 0≤j∧j<n then s.setOK d (.cptr (cs.drop (j.toNat*sz))) k else none
   | .ptr id o,.int _ j=>if 0≤j∧j<n then s.setOK d (.ptr id (o+j.toNat*sz)) k else none
   | _,_=>none
 | .nchk d x,s,k=>match s.ev x with
   | .cptr cs=>s.setOK d (.cptr cs) k
   | .ptr id o=>s.setOK d (.ptr id o) k
   | .eptr id i j=>s.setOK d (.eptr id i j) k
   | .fn f cs=>s.setOK d (.fn f cs) k
   | _=>none
 | .load d c sz ag x,s,k=>match s.ev x with
   | .cptr cs=>if sz≤cs.length then s.setOK d (pack ag (cs.take sz)) k else none
   | .ptr id o=>match s.L.get id with
     | some (.box _ cs)=>if c=false∧o+sz≤cs.length then s.setOK d (pack ag ((cs.drop o).take sz)) k else none
     | _=>none
   | .eptr id i j=>match s.L.get id with
     | some (.vec _ sz' es)=>if c=false∧i<es.length∧j+sz≤sz' then s.setOK d (pack ag (((es.getD i .junk).cells.drop j).take sz)) k else none
     | _=>none
   | _=>none
 | .store sz x v,s,k=>match s.ev x with
   | .ptr id o=>match s.L.get id with
     | some (.box ty cs)=>if (s.ev v).ncells=some sz∧o+sz≤cs.length then aCy (aBq cs o (s.ev v).cells) fun cs=>s.putK id (some (.box ty cs)) k else none
     | _=>none
   | .eptr id i j=>match s.L.get id with
     | some (.vec ty sz' es)=>if (s.ev v).ncells=some sz∧i<es.length∧j+sz≤sz' then aCy (es.set i ((es.getD i .junk).recell (aBq (es.getD i .junk).cells j (s.ev v).cells))) fun es=>s.putK id (some (.vec ty sz' es)) k else none
     | _=>none
   | _=>none
 | .alloc d ty zero,s,k=>s.putK (s.nx+d) (some (.box ty zero)) fun s=>s.setK d (.ptr (s.nx+d) 0) k
 | .box d ty x,s,k=>if (s.ev x).ncells.isSome=true then aCy (s.ev x).cells fun cs=>s.putK (s.nx+d) (some (.box ty cs)) fun s=>s.setK d (.ptr (s.nx+d) 0) k else none
 | .mkl d sz parts,s,k=>if (parts.all fun p=>decide ((s.ev p).ncells=some sz))=true then s.setOF d (.lst sz (parts.map s.ev)) k else none
 | .mkv d ty sz parts,s,k=>if (parts.all fun p=>decide ((s.ev p).ncells=some sz))=true then aCy (parts.map s.ev) fun es=>s.putK (s.nx+d) (some (.vec ty sz es)) fun s=>s.setK d (.own (s.nx+d) sz 0 parts.length) k else none
 | .mk0 n ty sz x,s,k=>match s.ev x with
   | .int .i64 m=>if 0≤m∧m≤1073741824 then s.putK (s.nx+n) (some (.vec ty sz [])) fun s=>s.setK n (.own (s.nx+n) sz 0 0) k else none
   | _=>none
 | .app d ty sz x y,s,k=>match s.ev x with
   | .nils=>match aRp sz s.L (s.ev y) with
     | some []=>s.setK d .nils k
     | some (y::r)=>if (y::r).length≤2^32 then aCy (y::r) fun ys=>s.putK (s.nx+d) (some (.vec ty sz ys)) fun s=>s.setK d (.own (s.nx+d) sz 0 ys.length) k else none
     | none=>none
   | .own id sz' off n=>match s.L.get id with
     | some (.vec ty' _ es)=>if ty'=ty∧sz'=sz∧off+n≤es.length then (match aRp sz s.L (s.ev y) with
      | some ys=>if n+ys.length≤2^32 then aCy ((es.drop off).take n++ys) fun zs=>s.putK id none fun s=>s.putK (s.nx+d) (some (.vec ty sz zs)) fun s=>s.setK d (.own (s.nx+d) sz 0 (n+ys.length)) k else none
      | none=>none) else none
     | _=>none
   | _=>none
 | .appl n ty sz x,s,k=>match s.ev x with
   | .nils=>s.putK (s.nx+n) (some (.vec ty sz [])) fun s=>s.setK n (.own (s.nx+n) sz 0 0) k
   | .lst sz' es=>if sz'=sz∧es.length≤2^32 then s.putK (s.nx+n) (some (.vec ty sz es)) fun s=>s.setK n (.own (s.nx+n) sz 0 es.length) k else none
   | _=>none
 | .call d c f args,s,k =>
   let as:=if c then args.map s.ev else args.map fun a=>view s.L.get 3 (s.ev a)
   if V.imms as=true then (match pc f as with
    | some r=>if (if c then r.imm else r.flat)=true then s.setOF d r k else none
    | none=>none) else none
 | .ecall d n f args,s,k=>ec f (args.map s.ev) s.L (s.nx+n) fun r L nx=>ESt.setOK ⟨s.env,L,nx⟩ d r k
 | .clos d f caps,s,k=>s.setOK d (.fn f (caps.map s.ev)) k
 | .vcall d n x args,s,k=>match s.ev x with
   | .fn f cs=>if bd f=true then ec f (args.map s.ev++cs) s.L (s.nx+n) fun r L nx=>ESt.setOK ⟨s.env,L,nx⟩ d r k else none
   | _=>none
 | .mx d isMax x y,s,k=>match s.ev x,s.ev y with
   | .int j a,.int j' b=>if j=j' then s.setOF d (.int j (mxI isMax a b)) k else none
   | _,_=>none
 | .ptreq d neg x y,s,k=>match s.ev x,s.ev y with
   | .ptr i o,.ptr j q=>if i=j∧o=q then s.setOK d (.bool !neg) k else none
   | _,_=>none
 | _,_,_=>none
theorem bKz (s:ESt) (l:List Src):l.map s.to.ev=l.map s.ev:=List.map_congr_left fun x _=>s.to_ev x
theorem bFh (s:ESt) (l:Option Src):l.map s.to.ev=l.map s.ev:=by cases l <;> simp [ESt.to_ev]
end Go.Ab
namespace Go.Ab
abbrev Pc:=Nat→List V→Option V
abbrev Ec (R:Type):=Nat→List V→Tr Blk→Nat→(V→Tr Blk→Nat→Option R)→Option R
def evIs {R:Type} (pc:Pc) (ec:Ec R) (bd:Nat→Bool):List I→ESt→(ESt→Option R)→Option R
 | [],s,k=>k s
 | i::r,s,k=>evI pc ec bd i s fun s=>evIs pc ec bd r s k
def aN5:List I→ESt→ESt
 | [],s=>s
 | i::r,s=>aN5 r (s.setO i.dst (.tup []))
def aKs {β:Type}:List I→ESt→(ESt→β)→β
 | [],s,k=>k s
 | i::r,s,k=>s.setOK i.dst (.tup []) fun s=>aKs r s k
theorem aJ5 {β:Type}:∀ (l:List I) (s:ESt) (k:ESt→β),aKs l s k=k (aN5 l s)
 | [],s,k=>rfl
 | i::r,s,k=>by simp only [aKs,aN5,ESt.setOK_eq,aJ5 r]
theorem aKk:∀ (l:List I) (s:ESt),(aN5 l s).to=aFd l s.to
 | [],s=>rfl
 | i::r,s=>by simp only [aN5,aFd]; rw [aKk r,ESt.to_setO]
def evGr {R:Type} (pc:Pc) (ec:Ec R) (bd:Nat→Bool) (x:Grp) (s:ESt) (k:ESt→Option R):Option R :=
 match x.g with
 | none=>evIs pc ec bd x.l s k
 | some (t,w)=>match (s.env.get t).getD .junk with
   | .bool b=>if b=w then s.setK t (.bool w) fun s=>evIs pc ec bd x.l s k else s.setK t (.bool !w) fun s=>aKs x.l s k
   | .tup []=>aKs x.l s k
   | _=>none
def evGs {R:Type} (pc:Pc) (ec:Ec R) (bd:Nat→Bool):List Grp→ESt→(ESt→Option R)→Option R
 | [],s,k=>k s
 | x::r,s,k=>evGr pc ec bd x s fun s=>evGs pc ec bd r s k
section
variable {P:Program} {R:Type} {pc:Pc} {ec:Ec R} {bd:Nat→Bool}
end
theorem bGv {P:Program} {n:Nat} (k:Nat) {f:Nat} {rs:List RV} {c:C} {args:List V} {r:V} (hf:Fn P f n rs c) (hn:args.length≤n) (hi:r.imm=true)
 (h:awp P n c (endK rs fun r' L' _=>view L' k r'=r) (.enter args (fun _=>none) 0)):PTr P f args r:=by
 have hE:ECall P f args (fun _=>none) 0 fun r' L' _=>view L' k r'=r:=by
  refine aJi hf hn ?_
  have:(endK rs fun r' L' nx'=>0≤nx'∧view L' k r'=r)=endK rs fun r' L' _=>view L' k r'=r:=by
   funext x s
   cases x <;> simp [endK]
  rw [this]
  exact h
 intro D w vs hD hgl hl hr
 have hp:Hp P D 0 ⟨fun _=>.junk,fun _=>none,0⟩ (fun _=>none) w:=⟨fun _ _=>rfl,fun id b h=>by simp at h,fun id id' b b' g g' x h=>by simp at h,fun x ho=>by
  obtain ⟨id,b,g,h,_⟩:=ho
  simp at h,hD,GlW.start hgl⟩
 refine (hE.2 D (fun _=>none) w vs hp hl fun i x hx=>(hr i x hx).mono (Ghost.le_refl _) (fun b _ hn hd=>?_) (Same.refl _ _)).mono ?_
 ·rcases hd with hd | ⟨id,b,g,h,_⟩
  ·exact hn hd
  ·simp at h
 ·rintro e w' ⟨v,r',L',nx',G',rfl,hpost,hp',_,hx,hrep⟩
  refine ⟨v,rfl,⟨hx.os,hx.tape,hx.output,hx.same.1,fun b hb=>hx.same.2 b hb ?_⟩,?_⟩
  ·rintro ⟨id,b,g,h,_⟩
   simp at h
  ·have:=aHh hp' k hrep k (Nat.le_refl _)
   simp only at this
   rw [hpost] at this
   exact this.free hi _
structure Ent where
 n:Nat
 rs:List RV
 c:C
 clo:Bool
abbrev Eb:=Nat→List V→Tr Blk→Nat→Option (V×Tr Blk×Nat)
def resE:List RV→ESt→Option (List V)
 | [],_=>some []
 | (t,none)::r,s=>match resE r s with
   | some vs=>some ((s.env.get t).getD .junk::vs)
   | none=>none
 | (t,some (sz,ag))::r,s=>match (s.env.get t).getD .junk with
   | .ptr id o=>match s.L.get id with
     | some (.box _ cs)=>if o+sz≤cs.length then (match resE r s with
      | some vs=>some (pack ag ((cs.drop o).take sz)::vs)
      | none=>none) else none
     | _=>none
   | _=>none
def aIw:List V→Nat→Tr V→Tr V
 | [],i,t=>t
 | x::r,i,t=>aIw r (i+1) (Tr.set 12 t i (some x))
def aKw {β:Type}:List V→Nat→Tr V→(Tr V→β)→β
 | [],i,t,k=>k t
 | x::r,i,t,k=>aS7 x fun x=>Tr.setK 12 t i (some x) fun t=>aKw r (i+1) t k
theorem aKd {β:Type}:∀ (l:List V) (i:Nat) (t:Tr V) (k:Tr V→β),aKw l i t k=k (aIw l i t)
 | [],i,t,k=>rfl
 | x::r,i,t,k=>by simp only [aKw,aIw,aN9,Tr.setK_eq,aKd r]
theorem aLs:∀ (l:List V) (i:Nat) (t:Tr V) (j:Nat),(aIw l i t).get j=if i≤j then (match l[j-i]? with | some v=>some v | none=>t.get j) else t.get j
 | [],i,t,j=>by simp [aIw]
 | x::r,i,t,j=>by
   rw [aIw,aLs r,Tr.get_set]
   by_cases h:i+1≤j
   ·have h2:i≤j:=by omega
    have h3:¬ j=i:=by omega
    have e:j-i=(j-(i+1))+1:=by omega
    simp only [h,h2,h3,if_true,if_false]
    rw [e,List.getElem?_cons_succ]
   ·by_cases e:j=i
    ·subst e
     rw [if_neg (by omega),if_pos rfl,if_pos (Nat.le_refl _)]
     simp
    ·have h2:¬ i≤j:=by omega
     simp only [h,h2,e,if_false]
theorem aYl (l:List V) (L:Tr Blk) (nx:Nat):(⟨aIw l 0 .leaf,L,nx⟩:ESt).to=.enter l L.get nx:=by
 unfold ESt.to St.enter
 congr
 funext i
 simp only
 rw [aLs,if_pos (Nat.zero_le _),Nat.sub_zero,List.getD_eq_getElem?_getD]
 cases l[i]? <;> rfl
def bN8 {R:Type} (tab:Nat→Option Ent) (eb:Eb) (rn:Nat→C→ESt→(X→ESt→Option R)→Option R):Ec R:=fun f args L nx k =>
 match tab f with
 | some e=>if args.length≤e.n then aKw args 0 .leaf fun t=>rn e.n e.c ⟨t,L,nx⟩ fun x s=>(match x with
  | .exit _=>none
  | _=>match resE e.rs s with
    | some vs=>if nx≤s.nx then k (one vs) s.L s.nx else none
    | none=>none) else none
 | none=>match eb f args L nx with
   | some (v,L',nx')=>k v L' nx'
   | none=>none
def bMz (tab:Nat→Option Ent) (pb:Pc) (rn:Nat→C→ESt→(X→ESt→Option V)→Option V):Pc:=fun f args =>
 match pb f args with
 | some r=>some r
 | none=>match tab f with
   | some e=>if args.length≤e.n then aKw args 0 .leaf fun t=>rn e.n e.c ⟨t,.leaf,0⟩ fun x s=>(match x with
    | .exit _=>none
    | _=>match resE e.rs s with
      | some vs=>if (view s.L.get 9 (one vs)).imm=true then some (view s.L.get 9 (one vs)) else none
      | none=>none) else none
   | none=>none
def bdOf (tab:Nat→Option Ent) (f:Nat):Bool:=match tab f with
 | some e=>e.clo
 | none=>false
def bGo {R:Type} (x:Src) (v:V) (s:ESt) (ka kb:ESt→Option R):Option R:=match x,v with
 | .t m,.bool true=>s.setK m (.bool true) ka
 | .t m,.bool false=>s.setK m (.bool false) kb
 | .k _,.bool true=>ka s
 | .k _,.bool false=>kb s
 | _,_=>none
def run (tab:Nat→Option Ent) (pb:Pc) (eb:Eb):Nat→(R:Type)→Nat→C→ESt→(X→ESt→Option R)→Option R
 | 0,_,_,_,_,_=>none
 | fu+1,R,n,c,s,k=>match c with
   | .skip=>k .norm s
   | .bad=>none
   | .ops _ l=>evGs (bMz tab pb (run tab pb eb fu V)) (bN8 tab eb (run tab pb eb fu R)) (bdOf tab) l s fun s=>aE7 (s.nx+n) fun m=>k .norm ⟨s.env,s.L,m⟩
   | .seq a b=>run tab pb eb fu R n a s fun x s=>(match x with
     | .norm=>run tab pb eb fu R n b s k
     | .exit m=>k (.exit m) s
     | .ret=>k .ret s)
   | .seqc a b=>run tab pb eb fu R n a s fun x s=>(match x with
     | .norm=>run tab pb eb fu R n b s k
     | .exit m=>k (.exit m) s
     | .ret=>k .ret s)
   | .cond x a b=>bGo x (s.ev x) s (fun s=>run tab pb eb fu R n a s k) (fun s=>run tab pb eb fu R n b s k)
   | .block id a=>run tab pb eb fu R n a s fun x s=>(match x with
     | .norm=>k .norm s
     | .exit m=>if m=id then k .norm s else k (.exit m) s
     | .ret=>k .ret s)
   | .loop a=>run tab pb eb fu R n a s fun x s=>(match x with
     | .norm=>run tab pb eb fu R n (.loop a) s k
     | .exit m=>k (.exit m) s
     | .ret=>k .ret s)
   | .exit id=>k (.exit id) s
   | .ret=>k .ret s
   | .gh _ _=>none
   | .gha _ _=>none
section
variable {P:Program} {tab:Nat→Option Ent} {pb:Pc} {eb:Eb}
def JJ (P:Program) (n:Nat) (a:C) (x:X) (sf:St):Nat→St→Prop
 | 0,st=>∀ K:X→St→Prop,K x sf→awp P n a K st
 | m+1,st=>∃ s1:St,(∀ K:X→St→Prop,K .norm s1→awp P n a K st)∧JJ P n a x sf m s1
theorem bF8 {n:Nat} {a:C} {x:X} {sf:St} (hx:x≠.norm) {m:Nat} {st:St} (h:JJ P n a x sf m st) (K:X→St→Prop) (hK:K x sf):awp P n (.loop a) K st:=by
 refine ⟨JJ P n a x sf,⟨m,h⟩,fun m s hj=>?_⟩
 cases m with
 | zero =>
   refine hj _ ?_
   cases x with
   | norm=>exact absurd rfl hx
   | exit id=>exact hK
   | ret=>exact hK
 | succ m =>
   obtain ⟨s1,h1,h2⟩:=hj
   exact h1 _ ⟨m,Nat.lt_succ_self m,h2⟩
end
def tabT:List (Nat×Ent)→Tr Ent
 | []=>.leaf
 | x::r=>Tr.set 12 (tabT r) x.1 (some x.2)
theorem aJl:∀ {l:List (Nat×Ent)} {f:Nat} {e:Ent},(tabT l).get f=some e→(f,e)∈l
 | x::r,f,e,h=>by
   rw [tabT,Tr.get_set] at h
   split at h
   ·rename_i q
    cases h
    subst q
    exact List.mem_cons_self ..
   ·exact List.mem_cons_of_mem _ (aJl h)
end Go.Ab
namespace Go.Ab
end Go.Ab
