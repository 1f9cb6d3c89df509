/- Several texts of one kind, merged. No condition. -/
import Derived.Test.YtdnhjbdnebokiaaGreatDoorAbE4
set_option linter.unusedSimpArgs false
set_option linter.unusedVariables false
namespace Go.Ab
inductive Tr (α:Type) where
 | leaf
 | node (a:Option α) (l r:Tr α)
 | far (f:Nat→Option α)
def nz {α:Type} (n m:Nat) (a b:α):α:=match Nat.beq n m with
 | true=>a
 | false=>b
theorem bBd {α:Type} (n m:Nat) (a b:α):nz n m a b=if n=m then a else b:=by
 unfold nz
 split
 ·rename_i h; rw [if_pos (Nat.eq_of_beq_eq_true h)]
 ·rename_i h; rw [if_neg (Nat.ne_of_beq_eq_false h)]
def Tr.get {α:Type}:Tr α→Nat→Option α
 | .leaf,_=>none
 | .node a l r,n=>nz n 0 a (nz (n % 2) 1 (l.get (n / 2)) (r.get (n / 2-1)))
 | .far f,n=>f n
def Tr.set {α:Type}:Nat→Tr α→Nat→Option α→Tr α
 | 0,t,n,a=>.far fun m=>if m=n then a else t.get m
 | d+1,.node x l r,n,a=>if n=0 then .node a l r else if n % 2=1 then .node x (Tr.set d l (n / 2) a) r else .node x l (Tr.set d r (n / 2-1) a)
 | d+1,.leaf,n,a=>if n=0 then .node a .leaf .leaf else if n % 2=1 then .node none (Tr.set d .leaf (n / 2) a) .leaf else .node none .leaf (Tr.set d .leaf (n / 2-1) a)
 | d+1,.far f,n,a=>.far fun m=>if m=n then a else f m
theorem Tr.get_node {α:Type} (a:Option α) (l r:Tr α) (n:Nat):(Tr.node a l r).get n=if n=0 then a else if n % 2=1 then l.get (n / 2) else r.get (n / 2-1):=by
 rw [Tr.get,bBd,bBd]
theorem Tr.get_leaf {α:Type} (n:Nat):(Tr.leaf:Tr α).get n=none:=rfl
theorem Tr.get_set {α:Type}:∀ (d:Nat) (t:Tr α) (n:Nat) (a:Option α) (m:Nat),(Tr.set d t n a).get m=if m=n then a else t.get m
 | 0,t,n,a,m=>rfl
 | d+1,.far f,n,a,m=>rfl
 | d+1,.leaf,n,a,m=>by
   simp only [Tr.set]
   by_cases h0:n=0
   ·subst h0
    by_cases e:m=0
    ·subst e; simp [Tr.get_node,Tr.get_leaf]
    ·simp only [if_true,Tr.get_node,Tr.get_leaf,e,if_false]
     split <;> rfl
   ·simp only [h0,if_false]
    by_cases h1:n % 2=1
    ·simp only [h1,if_true,Tr.get_node,Tr.get_leaf]
     by_cases e:m=0
     ·subst e; simp [Ne.symm h0]
     ·by_cases e1:m % 2=1
      ·simp only [e,e1,if_false,if_true,Tr.get_set d]
       by_cases q:m=n
       ·subst q; simp
       ·rw [if_neg (by omega),if_neg q]; rfl
      ·simp only [e,e1,if_false]
       rw [if_neg (by omega)]
    ·simp only [h1,if_false,Tr.get_node,Tr.get_leaf]
     by_cases e:m=0
     ·subst e; simp [Ne.symm h0]
     ·by_cases e1:m % 2=1
      ·simp only [e,e1,if_false,if_true]
       rw [if_neg (by omega)]
      ·simp only [e,e1,if_false,Tr.get_set d]
       by_cases q:m=n
       ·subst q; simp
       ·rw [if_neg (by omega),if_neg q]; rfl
 | d+1,.node x l r,n,a,m=>by
   simp only [Tr.set]
   by_cases h0:n=0
   ·subst h0
    by_cases e:m=0
    ·subst e; simp [Tr.get_node]
    ·simp only [if_true,Tr.get_node,e,if_false]
   ·simp only [h0,if_false]
    by_cases h1:n % 2=1
    ·simp only [h1,if_true,Tr.get_node]
     by_cases e:m=0
     ·subst e; simp [Ne.symm h0]
     ·by_cases e1:m % 2=1
      ·simp only [e,e1,if_false,if_true,Tr.get_set d]
       by_cases q:m=n
       ·subst q; simp
       ·rw [if_neg (by omega),if_neg q]
      ·simp only [e,e1,if_false]
       rw [if_neg (by omega)]
    ·simp only [h1,if_false,Tr.get_node]
     by_cases e:m=0
     ·subst e; simp [Ne.symm h0]
     ·by_cases e1:m % 2=1
      ·simp only [e,e1,if_false,if_true]
       rw [if_neg (by omega)]
      ·simp only [e,e1,if_false,Tr.get_set d]
       by_cases q:m=n
       ·subst q; simp
       ·rw [if_neg (by omega),if_neg q]
def Tr.setK {α β:Type}:Nat→Tr α→Nat→Option α→(Tr α→β)→β
 | 0,t,n,a,k=>k (.far fun m=>if m=n then a else t.get m)
 | d+1,.node x l r,n,a,k=>nz n 0 (k (.node a l r)) (nz (n % 2) 1 (Tr.setK d l (n / 2) a (fun l=>k (.node x l r))) (Tr.setK d r (n / 2-1) a (fun r=>k (.node x l r))))
 | d+1,.leaf,n,a,k=>nz n 0 (k (.node a .leaf .leaf)) (nz (n % 2) 1 (Tr.setK d .leaf (n / 2) a (fun l=>k (.node none l .leaf))) (Tr.setK d .leaf (n / 2-1) a (fun r=>k (.node none .leaf r))))
 | d+1,.far f,n,a,k=>k (.far fun m=>if m=n then a else f m)
theorem Tr.setK_eq {α β:Type}:∀ (d:Nat) (t:Tr α) (n:Nat) (a:Option α) (k:Tr α→β),Tr.setK d t n a k=k (Tr.set d t n a)
 | 0,t,n,a,k=>rfl
 | d+1,.far f,n,a,k=>rfl
 | d+1,.leaf,n,a,k=>by
   simp only [Tr.setK,Tr.set,Tr.setK_eq d,bBd]
   split
   ·rfl
   ·split <;> rfl
 | d+1,.node x l r,n,a,k=>by
   simp only [Tr.setK,Tr.set,Tr.setK_eq d,bBd]
   split
   ·rfl
   ·split <;> rfl
def aE7 {β:Type} (n:Nat) (k:Nat→β):β:=match n with
 | 0=>k 0
 | m+1=>k (m+1)
theorem aKd {β:Type} (n:Nat) (k:Nat→β):aE7 n k=k n:=by cases n <;> rfl
def aXd {β:Type} (n:Int) (k:Int→β):β:=match n with
 | .ofNat m=>aE7 m fun m=>k (.ofNat m)
 | .negSucc m=>aE7 m fun m=>k (.negSucc m)
theorem aW1 {β:Type} (n:Int) (k:Int→β):aXd n k=k n:=by cases n <;> simp [aXd,aKd]
def aD0 {α β:Type} (s:List α) (k:List α→β):β:=match s with
 | []=>k []
 | x::r=>aD0 r fun r=>k (x::r)
theorem aDb {α β:Type}:∀ (s:List α) (k:List α→β),aD0 s k=k s
 | [],k=>rfl
 | x::r,k=>by simp only [aD0]; rw [aDb r]
def aSc {β:Type} (v:V) (k:V→β):β:=match v with
 | .int j n=>aXd n fun n=>k (.int j n)
 | .str s=>aD0 s fun s=>k (.str s)
 | .bool true=>k (.bool true)
 | .bool false=>k (.bool false)
 | .lst z es=>aD0 es fun es=>k (.lst z es)
 | .agg cs=>aD0 cs fun cs=>k (.agg cs)
 | .own i z o n=>aE7 i fun i=>aE7 o fun o=>aE7 n fun n=>k (.own i z o n)
 | .ptr i o=>aE7 i fun i=>aE7 o fun o=>k (.ptr i o)
 | .eptr i a b=>aE7 i fun i=>aE7 a fun a=>aE7 b fun b=>k (.eptr i a b)
 | v=>k v
theorem aNr {β:Type} (v:V) (k:V→β):aSc v k=k v:=by
 cases v with
 | bool b=>cases b <;> rfl
 | _=>simp [aSc,aW1,aDb,aKd]
def bE3 {β:Type} (v:V) (k:V→β):β:=match v with
 | .junk=>k .junk
 | .bool b=>k (.bool b)
 | .int j n=>k (.int j n)
 | .str s=>k (.str s)
 | .nilp=>k .nilp
 | .nils=>k .nils
 | .ptr i o=>k (.ptr i o)
 | .eptr i a b=>k (.eptr i a b)
 | .cptr cs=>k (.cptr cs)
 | .lst z es=>k (.lst z es)
 | .own i z o n=>k (.own i z o n)
 | .agg cs=>k (.agg cs)
 | .tup vs=>k (.tup vs)
 | .fn f cs=>k (.fn f cs)
 | .map i=>k (.map i)
 | .nilm=>k .nilm
 | .raw v=>k (.raw v)
theorem aWz {β:Type} (v:V) (k:V→β):bE3 v k=k v:=by cases v <;> rfl
structure ESt where
 env:Tr V
 L:Tr Blk
 nx:Nat
def ESt.to (s:ESt):St:=⟨fun i=>(s.env.get i).getD .junk,s.L.get,s.nx⟩
def ESt.ev (s:ESt):Src→V
 | .t n=>(s.env.get n).getD .junk
 | .k v=>v
theorem ESt.to_ev (s:ESt) (x:Src):s.to.ev x=s.ev x:=by cases x <;> rfl
def ESt.set (s:ESt) (d:Nat) (v:V):ESt:=⟨Tr.set 12 s.env d (some v),s.L,s.nx⟩
def ESt.setO (s:ESt):Option Nat→V→ESt
 | some d,v=>s.set d v
 | none,_=>s
def ESt.put (s:ESt) (id:Nat) (b:Option Blk):ESt:=⟨s.env,Tr.set 40 s.L id b,s.nx⟩
theorem ESt.to_set (s:ESt) (d:Nat) (v:V):(s.set d v).to=s.to.set d v:=by
 unfold ESt.set ESt.to St.set upd
 congr
 funext i
 rw [Tr.get_set]
 split <;> rfl
theorem ESt.to_setO (s:ESt) (d:Option Nat) (v:V):(s.setO d v).to=s.to.setO d v:=by
 cases d
 ·rfl
 ·exact ESt.to_set _ _ _
theorem ESt.to_put (s:ESt) (id:Nat) (b:Option Blk):(s.put id b).to=⟨s.to.env,upd s.to.L id b,s.nx⟩:=by
 unfold ESt.put ESt.to upd
 congr
 funext i
 rw [Tr.get_set]
def ESt.setK {β:Type} (s:ESt) (d:Nat) (v:V) (k:ESt→β):β:=bE3 v fun v=>Tr.setK 12 s.env d (some v) fun e=>k ⟨e,s.L,s.nx⟩
theorem ESt.setK_eq {β:Type} (s:ESt) (d:Nat) (v:V) (k:ESt→β):s.setK d v k=k (s.set d v):=by
 unfold ESt.setK ESt.set
 rw [aWz,Tr.setK_eq]
def ESt.setOK {β:Type} (s:ESt) (d:Option Nat) (v:V) (k:ESt→β):β:=match d with
 | some d=>s.setK d v k
 | none=>k s
theorem ESt.setOK_eq {β:Type} (s:ESt) (d:Option Nat) (v:V) (k:ESt→β):s.setOK d v k=k (s.setO d v):=by
 cases d
 ·rfl
 ·exact ESt.setK_eq _ _ _ _
def ESt.setOF {β:Type} (s:ESt) (d:Option Nat) (v:V) (k:ESt→β):β:=aSc v fun v=>s.setOK d v k
theorem ESt.setOF_eq {β:Type} (s:ESt) (d:Option Nat) (v:V) (k:ESt→β):s.setOF d v k=k (s.setO d v):=by
 unfold ESt.setOF
 rw [aNr,ESt.setOK_eq]
def ESt.putK {β:Type} (s:ESt) (id:Nat) (b:Option Blk) (k:ESt→β):β:=Tr.setK 40 s.L id b fun e=>k ⟨s.env,e,s.nx⟩
theorem ESt.putK_eq {β:Type} (s:ESt) (id:Nat) (b:Option Blk) (k:ESt→β):s.putK id b k=k (s.put id b):=by
 unfold ESt.putK ESt.put
 rw [Tr.setK_eq]
def aUv (op:BinOp) (k:IntKind) (a b:Int):Option V :=
 match op with
 | .add=>some (.int k (k.wrap (a+b)))
 | .sub=>some (.int k (k.wrap (a-b)))
 | .mul=>some (.int k (k.wrap (a*b)))
 | .quo=>if b=0 then none else some (.int k (k.wrap (a.tdiv b)))
 | .rem=>if b=0 then none else some (.int k (a.tmod b))
 | .and=>some (.int k (aGm .and k a b))
 | .or=>some (.int k (aGm .or k a b))
 | .xor=>some (.int k (aGm .xor k a b))
 | .andNot=>some (.int k (aGm .andNot k a b))
 | .eql=>some (.bool (decide (a=b)))
 | .neq=>some (.bool (!decide (a=b)))
 | .lss=>some (.bool (decide (a<b)))
 | .leq=>some (.bool (decide (a≤b)))
 | .gtr=>some (.bool (decide (b<a)))
 | .geq=>some (.bool (decide (b≤a)))
 | .shr=>if 0≤b then some (.int k (vshr k a b)) else none
 | _=>none
def aZy (op:BinOp) (a b:List UInt8):Option V :=
 match op with
 | .add=>if a.length+b.length<2^63 then some (.str (a++b)) else none
 | .eql=>some (.bool (decide (a=b)))
 | .neq=>some (.bool (!decide (a=b)))
 | .lss=>some (.bool (Op.bytesLess a b))
 | .leq=>some (.bool (Op.bytesLess a b||decide (a=b)))
 | .gtr=>some (.bool (!(Op.bytesLess a b||decide (a=b))))
 | .geq=>some (.bool (!Op.bytesLess a b))
 | _=>none
def aZg (op:BinOp) (x y:V):Option V :=
 match x,y with
 | .int k a,.int k' b=>if k=k' then aUv op k a b else if op=.shr then aUv op k a b else none
 | .str a,.str b=>aZy op a b
 | _,_=>none
theorem aTa {op:BinOp} {k:IntKind} {a b:Int} {v:V} (h:aUv op k a b=some v) {K:V→Prop} (hK:K v):vint op k a b K:=by
 cases op <;> simp only [aUv,vint] at h ⊢ <;> (try cases h) <;> (try exact hK) <;> (split at h <;> cases h <;> first | exact ⟨by assumption,hK⟩ | exact ⟨_,hK⟩)
theorem bDp {op:BinOp} {a b:List UInt8} {v:V} (h:aZy op a b=some v) {K:V→Prop} (hK:K v):vstr op a b K:=by
 cases op <;> simp only [aZy,vstr] at h ⊢ <;> (try cases h) <;> (try exact hK) <;> (split at h <;> cases h <;> exact ⟨by assumption,hK⟩)
theorem bA2 {op:BinOp} {x y:V} {v:V} (h:aZg op x y=some v) {K:V→Prop} (hK:K v):vbin op x y K:=by
 unfold aZg at h
 unfold vbin
 split at h
 ·split at h
  ·rename_i e; exact ⟨.inr e,aTa h hK⟩
  ·split at h
   ·rename_i e; exact ⟨.inl e,aTa h hK⟩
   ·cases h
 ·exact bDp h hK
 ·cases h
def evUn (op:UnOp) (x:V):Option V :=
 match op,x with
 | .not,.bool b=>some (.bool !b)
 | .neg,.int k n=>some (.int k (k.wrap (0-n)))
 | _,_=>none
theorem bHc {op:UnOp} {x:V} {v:V} (h:evUn op x=some v) {K:V→Prop} (hK:K v):vun op x K:=by
 unfold evUn at h
 unfold vun
 split at h <;> cases h <;> exact hK
def aD7 (o:Option V) (d:Nat):Option Nat :=
 match o with
 | none=>some d
 | some (.int _ i)=>if 0≤i then some i.toNat else none
 | _=>none
def aXv (sz:Nat) (L:Tr Blk) (y:V):Option (List V) :=
 match y with
 | .nils=>some []
 | .lst sz' es=>if sz'=sz then some es else none
 | .own id sz' off len=>match L.get id with
   | some (.vec _ _ es)=>if sz'=sz∧off+len≤es.length then some ((es.drop off).take len) else none
   | _=>none
 | .str s=>if sz=1 then some (s.map fun b=>.int .u8 b.toNat) else none
 | _=>none
theorem bJt (s:ESt) (l:List Src):l.map s.to.ev=l.map s.ev:=List.map_congr_left fun x _=>s.to_ev x
theorem bGi (s:ESt) (l:Option Src):l.map s.to.ev=l.map s.ev:=by cases l <;> simp [ESt.to_ev]
end Go.Ab
namespace Go.Ab
abbrev Pc:=Nat→List V→Option V
abbrev Ec (R:Type):=Nat→List V→Tr Blk→Nat→(V→Tr Blk→Nat→Option R)→Option R
def aN5:List I→ESt→ESt
 | [],s=>s
 | i::r,s=>aN5 r (s.setO i.dst (.tup []))
def aOg {β:Type}:List I→ESt→(ESt→β)→β
 | [],s,k=>k s
 | i::r,s,k=>s.setOK i.dst (.tup []) fun s=>aOg r s k
theorem aJh {β:Type}:∀ (l:List I) (s:ESt) (k:ESt→β),aOg l s k=k (aN5 l s)
 | [],s,k=>rfl
 | i::r,s,k=>by simp only [aOg,aN5,ESt.setOK_eq,aJh r]
theorem aJf:∀ (l:List I) (s:ESt),(aN5 l s).to=aEv l s.to
 | [],s=>rfl
 | i::r,s=>by simp only [aN5,aEv]; rw [aJf r,ESt.to_setO]
section
variable {P:Program} {R:Type} {pc:Pc} {ec:Ec R} {bd:Nat→Bool}
end
theorem bGk {P:Program} {n:Nat} (k:Nat) {f:Nat} {rs:List RV} {c:C} {args:List V} {r:V} (hf:Fn P f n rs c) (hn:args.length≤n) (hi:r.imm=true)
 (h:awp P n c (endK rs fun r' L' _=>view L' k r'=r) (.enter args (fun _=>none) 0)):PTr P f args r:=by
 have hE:ECall P f args (fun _=>none) 0 fun r' L' _=>view L' k r'=r:=by
  refine aIy hf hn ?_
  have:(endK rs fun r' L' nx'=>0≤nx'∧view L' k r'=r)=endK rs fun r' L' _=>view L' k r'=r:=by
   funext x s
   cases x <;> simp [endK]
  rw [this]
  exact h
 intro D w vs hD hgl hl hr
 have hp:Hp P D 0 ⟨fun _=>.junk,fun _=>none,0⟩ (fun _=>none) w:=⟨fun _ _=>rfl,fun id b h=>by simp at h,fun id id' b b' g g' x h=>by simp at h,fun x ho=>by
  obtain ⟨id,b,g,h,_⟩:=ho
  simp at h,hD,GlW.start hgl⟩
 refine (hE.2 D (fun _=>none) w vs hp hl fun i x hx=>(hr i x hx).mono (Ghost.le_refl _) (fun b _ hn hd=>?_) (Same.refl _ _)).mono ?_
 ·rcases hd with hd | ⟨id,b,g,h,_⟩
  ·exact hn hd
  ·simp at h
 ·rintro e w' ⟨v,r',L',nx',G',rfl,hpost,hp',_,hx,hrep⟩
  refine ⟨v,rfl,⟨hx.os,hx.tape,hx.output,hx.same.1,fun b hb=>hx.same.2 b hb ?_⟩,?_⟩
  ·rintro ⟨id,b,g,h,_⟩
   simp at h
  ·have:=aG8 hp' k hrep k (Nat.le_refl _)
   simp only at this
   rw [hpost] at this
   exact this.free hi _
structure Ent where
 n:Nat
 rs:List RV
 c:C
 clo:Bool
abbrev Eb:=Nat→List V→Tr Blk→Nat→Option (V×Tr Blk×Nat)
def resE:List RV→ESt→Option (List V)
 | [],_=>some []
 | (t,none)::r,s=>match resE r s with
   | some vs=>some ((s.env.get t).getD .junk::vs)
   | none=>none
 | (t,some (sz,ag))::r,s=>match (s.env.get t).getD .junk with
   | .ptr id o=>match s.L.get id with
     | some (.box _ cs)=>if o+sz≤cs.length then (match resE r s with
      | some vs=>some (pack ag ((cs.drop o).take sz)::vs)
      | none=>none) else none
     | _=>none
   | _=>none
def aIo:List V→Nat→Tr V→Tr V
 | [],i,t=>t
 | x::r,i,t=>aIo r (i+1) (Tr.set 12 t i (some x))
def aO2 {β:Type}:List V→Nat→Tr V→(Tr V→β)→β
 | [],i,t,k=>k t
 | x::r,i,t,k=>aSc x fun x=>Tr.setK 12 t i (some x) fun t=>aO2 r (i+1) t k
theorem aKi {β:Type}:∀ (l:List V) (i:Nat) (t:Tr V) (k:Tr V→β),aO2 l i t k=k (aIo l i t)
 | [],i,t,k=>rfl
 | x::r,i,t,k=>by simp only [aO2,aIo,aNr,Tr.setK_eq,aKi r]
theorem aLh:∀ (l:List V) (i:Nat) (t:Tr V) (j:Nat),(aIo l i t).get j=if i≤j then (match l[j-i]? with | some v=>some v | none=>t.get j) else t.get j
 | [],i,t,j=>by simp [aIo]
 | x::r,i,t,j=>by
   rw [aIo,aLh r,Tr.get_set]
   by_cases h:i+1≤j
   ·have h2:i≤j:=by omega
    have h3:¬ j=i:=by omega
    have e:j-i=(j-(i+1))+1:=by omega
    simp only [h,h2,h3,if_true,if_false]
    rw [e,List.getElem?_cons_succ]
   ·by_cases e:j=i
    ·subst e
     rw [if_neg (by omega),if_pos rfl,if_pos (Nat.le_refl _)]
     simp
    ·have h2:¬ i≤j:=by omega
     simp only [h,h2,e,if_false]
theorem aXs (l:List V) (L:Tr Blk) (nx:Nat):(⟨aIo l 0 .leaf,L,nx⟩:ESt).to=.enter l L.get nx:=by
 unfold ESt.to St.enter
 congr
 funext i
 simp only
 rw [aLh,if_pos (Nat.zero_le _),Nat.sub_zero,List.getD_eq_getElem?_getD]
 cases l[i]? <;> rfl
def bdOf (tab:Nat→Option Ent) (f:Nat):Bool:=match tab f with
 | some e=>e.clo
 | none=>false
def bIl {R:Type} (x:Src) (v:V) (s:ESt) (ka kb:ESt→Option R):Option R:=match x,v with
 | .t m,.bool true=>s.setK m (.bool true) ka
 | .t m,.bool false=>s.setK m (.bool false) kb
 | .k _,.bool true=>ka s
 | .k _,.bool false=>kb s
 | _,_=>none
section
variable {P:Program} {tab:Nat→Option Ent} {pb:Pc} {eb:Eb}
def JJ (P:Program) (n:Nat) (a:C) (x:X) (sf:St):Nat→St→Prop
 | 0,st=>∀ K:X→St→Prop,K x sf→awp P n a K st
 | m+1,st=>∃ s1:St,(∀ K:X→St→Prop,K .norm s1→awp P n a K st)∧JJ P n a x sf m s1
theorem bFq {n:Nat} {a:C} {x:X} {sf:St} (hx:x≠.norm) {m:Nat} {st:St} (h:JJ P n a x sf m st) (K:X→St→Prop) (hK:K x sf):awp P n (.loop a) K st:=by
 refine ⟨JJ P n a x sf,⟨m,h⟩,fun m s hj=>?_⟩
 cases m with
 | zero =>
   refine hj _ ?_
   cases x with
   | norm=>exact absurd rfl hx
   | exit id=>exact hK
   | ret=>exact hK
 | succ m =>
   obtain ⟨s1,h1,h2⟩:=hj
   exact h1 _ ⟨m,Nat.lt_succ_self m,h2⟩
end
def tabT:List (Nat×Ent)→Tr Ent
 | []=>.leaf
 | x::r=>Tr.set 12 (tabT r) x.1 (some x.2)
theorem aIw:∀ {l:List (Nat×Ent)} {f:Nat} {e:Ent},(tabT l).get f=some e→(f,e)∈l
 | x::r,f,e,h=>by
   rw [tabT,Tr.get_set] at h
   split at h
   ·rename_i q
    cases h
    subst q
    exact List.mem_cons_self ..
   ·exact List.mem_cons_of_mem _ (aIw h)
end Go.Ab
namespace Go.Ab
end Go.Ab
