/- Several texts of one kind, merged. No condition. -/
import Derived.Test.YtdnhjbdnebokiaaGreatDoorAbY1
set_option linter.unusedSimpArgs false
set_option linter.unusedVariables false
namespace Go.Ab
structure Sy where
 s:Nat→List UInt8
 l:Nat→List Int
 n:Nat→Int
def syV (σ:Sy) (i:Nat):V:=if i % 4=0 then .str (σ.s (i / 4)) else if i % 4=1 then .int .i64 ((σ.s (i / 4)).length:Int) else if i % 4=2 then .lst 1 ((σ.l (i / 4)).map fun n=>.int .i64 n) else .int .i64 (σ.n (i / 4))
theorem aH2 (σ:Sy) (i:Nat) (p:V→Prop) (h0:∀ s,p (.str s)) (h1:∀ n,p (.int .i64 n)) (h2:∀ l:List Int,p (.lst 1 (l.map fun n=>.int .i64 n))):p (syV σ i):=by
 unfold syV; split
 ·exact h0 _
 ·split
  ·exact h1 _
  ·split
   ·exact h2 _
   ·exact h1 _
mutual
def V.cz (σ:Sy):V→V
 | .map i=>syV σ i
 | .cptr cs=>.cptr (V.czL σ cs)
 | .lst z es=>.lst z (V.czL σ es)
 | .agg cs=>.agg (V.czL σ cs)
 | .tup cs=>.tup (V.czL σ cs)
 | .fn f cs=>.fn f (V.czL σ cs)
 | .junk=>.junk
 | .bool b=>.bool b
 | .int k n=>.int k n
 | .str s=>.str s
 | .nilp=>.nilp
 | .nils=>.nils
 | .ptr i o=>.ptr i o
 | .eptr i a b=>.eptr i a b
 | .own i z o n=>.own i z o n
 | .nilm=>.nilm
 | .raw v=>.raw v
def V.czL (σ:Sy):List V→List V
 | []=>[]
 | x::r=>x.cz σ::V.czL σ r
end
mutual
def V.pl:V→Bool
 | .map _=>false
 | .cptr cs=>V.plL cs
 | .lst _ es=>V.plL es
 | .agg cs=>V.plL cs
 | .tup cs=>V.plL cs
 | .fn _ cs=>V.plL cs
 | _=>true
def V.plL:List V→Bool
 | []=>true
 | x::r=>x.pl&&V.plL r
end
mutual
def V.immY:V→Bool
 | .ptr _ _=>false
 | .eptr _ _ _=>false
 | .own _ _ _ _=>false
 | .cptr cs=>V.immsY cs
 | .lst _ es=>V.immsY es
 | .agg cs=>V.immsY cs
 | .tup cs=>V.immsY cs
 | .fn _ cs=>V.immsY cs
 | _=>true
def V.immsY:List V→Bool
 | []=>true
 | x::r=>x.immY&&V.immsY r
end
def V.flat1Y:V→Bool
 | .bool _ | .int _ _ | .str _ | .nilp | .nils | .nilm=>true
 | .map i=>decide (i % 4≠2)
 | _=>false
def V.flatY:V→Bool
 | .tup cs=>cs.all V.flat1Y
 | .agg cs=>cs.all V.flat1Y
 | v=>v.flat1Y
variable {σ:Sy}
theorem aCt (l:List V):V.czL σ l=l.map (V.cz σ):=by
 induction l with
 | nil=>rfl
 | cons x r ih=>simp [V.czL,ih]
theorem aGt (cs:List V):(V.cptr cs).cz σ=.cptr (cs.map (V.cz σ)):=by rw [V.cz,aCt]
theorem aGb (z:Nat) (cs:List V):(V.lst z cs).cz σ=.lst z (cs.map (V.cz σ)):=by rw [V.cz,aCt]
theorem aIm (cs:List V):(V.agg cs).cz σ=.agg (cs.map (V.cz σ)):=by rw [V.cz,aCt]
theorem aSy (cs:List V):(V.tup cs).cz σ=.tup (cs.map (V.cz σ)):=by rw [V.cz,aCt]
theorem bG1 (f:Nat) (cs:List V):(V.fn f cs).cz σ=.fn f (cs.map (V.cz σ)):=by rw [V.cz,aCt]
mutual
theorem aL3:∀ (v:V),v.pl=true→v.cz σ=v
 | .map i,h=>by simp [V.pl] at h
 | .cptr cs,h=>by rw [V.cz,aKf cs (by simpa only [V.pl] using h)]
 | .lst z cs,h=>by rw [V.cz,aKf cs (by simpa only [V.pl] using h)]
 | .agg cs,h=>by rw [V.cz,aKf cs (by simpa only [V.pl] using h)]
 | .tup cs,h=>by rw [V.cz,aKf cs (by simpa only [V.pl] using h)]
 | .fn f cs,h=>by rw [V.cz,aKf cs (by simpa only [V.pl] using h)]
 | .junk,_=>rfl
 | .bool _,_=>rfl
 | .int _ _,_=>rfl
 | .str _,_=>rfl
 | .nilp,_=>rfl
 | .nils,_=>rfl
 | .ptr _ _,_=>rfl
 | .eptr _ _ _,_=>rfl
 | .own _ _ _ _,_=>rfl
 | .nilm,_=>rfl
 | .raw _,_=>rfl
theorem aKf:∀ (l:List V),V.plL l=true→V.czL σ l=l
 | [],_=>rfl
 | x::r,h=>by
   simp only [V.plL,Bool.and_eq_true] at h
   rw [V.czL,aL3 x h.1,aKf r h.2]
end
theorem aY2 {l:List V} (h:V.plL l=true):l.map (V.cz σ)=l:=by rw [← aCt,aKf l h]
theorem bFv (i:Nat):(syV σ i).imm=true:=aH2 σ i (fun v=>v.imm=true) (fun _=>rfl) (fun _=>rfl) fun l=>by rw [V.imm]; exact aE0 _ _ fun _=>rfl
theorem bDx {i:Nat} (h:i % 4≠2):(syV σ i).flat1=true:=by
 unfold syV; split
 ·rfl
 ·split
  ·rfl
  ·first | rfl | (rw [if_neg h]; rfl)
theorem bHx (i:Nat):(syV σ i).one=true:=aH2 σ i (fun v=>v.one=true) (fun _=>rfl) (fun _=>rfl) fun _=>rfl
mutual
theorem aQp:∀ (v:V),v.immY=true→(v.cz σ).imm=true
 | .map i,h=>by rw [V.cz]; exact bFv i
 | .cptr cs,h=>by rw [V.cz,V.imm]; exact aEw cs (by simpa only [V.immY] using h)
 | .lst z cs,h=>by rw [V.cz,V.imm]; exact aEw cs (by simpa only [V.immY] using h)
 | .agg cs,h=>by rw [V.cz,V.imm]; exact aEw cs (by simpa only [V.immY] using h)
 | .tup cs,h=>by rw [V.cz,V.imm]; exact aEw cs (by simpa only [V.immY] using h)
 | .fn f cs,h=>by rw [V.cz,V.imm]; exact aEw cs (by simpa only [V.immY] using h)
 | .junk,_=>rfl
 | .bool _,_=>rfl
 | .int _ _,_=>rfl
 | .str _,_=>rfl
 | .nilp,_=>rfl
 | .nils,_=>rfl
 | .ptr _ _,h=>by simp [V.immY] at h
 | .eptr _ _ _,h=>by simp [V.immY] at h
 | .own _ _ _ _,h=>by simp [V.immY] at h
 | .nilm,_=>rfl
 | .raw _,_=>rfl
theorem aEw:∀ (l:List V),V.immsY l=true→V.imms (V.czL σ l)=true
 | [],_=>rfl
 | x::r,h=>by
   simp only [V.immsY,Bool.and_eq_true] at h
   simp only [V.czL,V.imms,Bool.and_eq_true]
   exact ⟨aQp x h.1,aEw r h.2⟩
end
theorem aG9 {l:List V} (h:V.immsY l=true):V.imms (l.map (V.cz σ))=true:=by rw [← aCt]; exact aEw l h
theorem aN9 {v:V} (h:v.flat1Y=true):(v.cz σ).flat1=true:=by
 cases v <;> first | rfl | (simp only [V.flat1Y,Bool.false_eq_true] at h; done) | (rw [V.cz]; exact bDx (by simpa [V.flat1Y] using h))
theorem bA4 {v:V} (h:v.flatY=true):(v.cz σ).flat=true:=by
 cases v with
 | tup cs =>
   simp only [V.flatY,List.all_eq_true] at h
   simp only [aSy,V.flat,List.all_eq_true,List.mem_map]
   rintro x ⟨y,hy,rfl⟩
   exact aN9 (h y hy)
 | agg cs =>
   simp only [V.flatY,List.all_eq_true] at h
   simp only [aIm,V.flat,List.all_eq_true,List.mem_map]
   rintro x ⟨y,hy,rfl⟩
   exact aN9 (h y hy)
 | map i =>
   have h:i % 4≠2:=by simpa [V.flatY,V.flat1Y] using h
   rw [V.cz]; unfold syV; split
   ·rfl
   ·split
    ·rfl
    ·first | rfl | (rw [if_neg h]; rfl)
 | _=>first | rfl | (simp [V.flatY,V.flat1Y] at h)
theorem bJi (v:V):(v.cz σ).one=v.one:=by
 cases v <;> first | rfl | (rw [V.cz]; exact bHx _)
theorem aE1 (v:V):(v.cz σ).cells=v.cells.map (V.cz σ):=by
 cases v <;> simp only [V.cz,aCt,V.cells,List.map_cons,List.map_nil]
 exact aH2 σ _ (fun v=>v.cells=[v]) (fun _=>rfl) (fun _=>rfl) fun _=>rfl
theorem aU1 (cs:List V):(cs.map (V.cz σ)).all V.one=cs.all V.one:=by
 induction cs with
 | nil=>rfl
 | cons x r ih=>simp only [List.map_cons,List.all_cons,bJi,ih]
theorem aEb (v:V):(v.cz σ).ncells=v.ncells:=by
 cases v with
 | agg cs=>simp only [aIm,V.ncells,aU1,List.length_map]
 | map i=>rw [V.cz]; exact aH2 σ _ (fun v=>v.ncells=some 1) (fun _=>rfl) (fun _=>rfl) fun _=>rfl
 | _=>rfl
theorem aG0 (cs:List V):(cs.map (V.cz σ)).headD .junk=(cs.headD .junk).cz σ:=by cases cs <;> rfl
theorem aGk (ag:Bool) (cs:List V):(pack ag cs).cz σ=pack ag (cs.map (V.cz σ)):=by
 unfold pack; split
 ·exact aIm cs
 ·exact (aG0 cs).symm
theorem aJ6 (cs:List V) (i:Nat):(cs.map (V.cz σ)).getD i .junk=(cs.getD i .junk).cz σ:=by
 simp only [List.getD_eq_getElem?_getD,List.getElem?_map]
 cases cs[i]? <;> rfl
theorem aWx (v:V) (cs:List V):(v.recell cs).cz σ=(v.cz σ).recell (cs.map (V.cz σ)):=by
 cases v <;> simp only [V.recell,V.cz,aCt] <;> first | rfl | exact (aG0 cs).symm | skip
 exact aH2 σ _ (fun v=>_=v.recell _) (fun _=>(aG0 cs).symm) (fun _=>(aG0 cs).symm) fun _=>(aG0 cs).symm
theorem aNb (z:List V) (o:Nat) (cs:List V):(aBm z o cs).map (V.cz σ)=aBm (z.map (V.cz σ)) o (cs.map (V.cz σ)):=by
 simp [aBm,List.map_take,List.map_drop]
def Blk.cz (σ:Sy):Blk→Blk
 | .box ty cs=>.box ty (cs.map (V.cz σ))
 | .vec ty sz es=>.vec ty sz (es.map (V.cz σ))
 | b=>b
def czH (σ:Sy) (L:Heap):Heap:=fun id=>(L id).map (Blk.cz σ)
theorem aRh (L:Heap):∀ (n:Nat) (v:V),(view L n v).cz σ=view (czH σ L) n (v.cz σ)
 | 0,v=>by
   have h:∀ (L:Heap) (v:V),view L 0 v=v:=fun L v=>by unfold view; rfl
   rw [h,h]
 | n+1,v=>by
   have hm:∀ l:List V,(l.map (view L n)).map (V.cz σ)=(l.map (V.cz σ)).map (view (czH σ L) n):=fun l=>by
    rw [List.map_map,List.map_map]
    exact List.map_congr_left fun x _=>aRh L n x
   cases v with
   | own id sz off len =>
     simp only [view,V.cz,czH]
     cases hL:L id with
     | none=>rfl
     | some b =>
       cases b with
       | vec ty z es =>
         simp only [Option.map_some,Blk.cz,List.length_map]
         split
         ·rw [aGb,hm,List.map_take,List.map_drop]
         ·rfl
       | _=>rfl
   | ptr id o =>
     simp only [view,V.cz,czH]
     cases hL:L id with
     | none=>rfl
     | some b =>
       cases b with
       | box ty cs =>
         simp only [Option.map_some,Blk.cz]
         rw [aGt,hm,List.map_drop]
       | _=>rfl
   | fn f cs=>simp only [view,bG1,hm]
   | agg cs=>simp only [view,aIm,hm]
   | tup cs=>simp only [view,aSy,hm]
   | map i=>simp only [view,V.cz]; exact aH2 σ _ (fun v=>v=view _ _ v) (fun _=>rfl) (fun _=>rfl) fun _=>rfl
   | cptr cs=>simp only [view,aGt]
   | lst z cs=>simp only [view,aGb]
   | _=>rfl
def St.cz (σ:Sy) (s:St):St:=⟨fun i=>(s.env i).cz σ,czH σ s.L,s.nx⟩
theorem aX2 (s:St) (d:Nat) (v:V):(s.set d v).cz σ=(s.cz σ).set d (v.cz σ):=by
 unfold St.cz St.set upd
 congr
 funext i
 simp only
 split <;> rfl
theorem bAb (s:St) (d:Option Nat) (v:V):(s.setO d v).cz σ=(s.cz σ).setO d (v.cz σ):=by
 cases d
 ·rfl
 ·exact aX2 _ _ _
theorem bFc (L:Heap) (id:Nat) (b:Option Blk):czH σ (upd L id b)=upd (czH σ L) id (b.map (Blk.cz σ)):=by
 funext i
 unfold czH upd
 split <;> rfl
def Src.pl:Src→Bool
 | .t _=>true
 | .k v=>v.pl
def oPl:Option Src→Bool
 | none=>true
 | some x=>x.pl
theorem bGx {s:St} {x:Src} (h:x.pl=true):(s.cz σ).ev x=(s.ev x).cz σ:=by
 cases x with
 | t n=>rfl
 | k v=>exact (aL3 v h).symm
theorem bI6 {s:St} {l:List Src} (h:l.all Src.pl=true):l.map (s.cz σ).ev=(l.map s.ev).map (V.cz σ):=by
 rw [List.map_map]
 exact List.map_congr_left fun x hx=>bGx (List.all_eq_true.1 h x hx)
theorem bHt {s:St} {l:Option Src} (h:oPl l=true):l.map (s.cz σ).ev=(l.map s.ev).map (V.cz σ):=by
 cases l with
 | none=>rfl
 | some x=>simp only [Option.map_some]; rw [bGx h]
structure SyQ where
 n:Nat
 lo:Nat
 hi:Nat
 df:Nat→Nat→Bool
 cat:List (V×V×Nat):=[]
structure SyOk (Q:SyQ) (σ:Sy):Prop where
 lo:∀ i,i<Q.n→Q.lo≤(σ.s i).length
 hi:∀ i,i<Q.n→(σ.s i).length≤Q.hi
 ne:∀ i j,Q.df i j=true→σ.s i≠σ.s j
 ct:∀ x y j,(x,y,j)∈Q.cat→∃ a b,x.cz σ=.str a∧y.cz σ=.str b∧σ.s j=a++b∧a.length+b.length<2^63
def eqY (Q:SyQ):V→V→Option Bool
 | .map i,.map j=>if i % 4=0∧j % 4=0 then (if i=j then some true else if Q.df (i / 4) (j / 4)=true then some false else none) else none
 | .map i,.str c=>if i % 4=0∧i / 4<Q.n∧(c.length<Q.lo∨Q.hi<c.length) then some false else none
 | .str c,.map i=>if i % 4=0∧i / 4<Q.n∧(c.length<Q.lo∨Q.hi<c.length) then some false else none
 | _,_=>none
theorem bE5 {Q:SyQ} (H:SyOk Q σ) {x y:V} {t:Bool} (h:eqY Q x y=some t):∃ a b,x.cz σ=.str a∧y.cz σ=.str b∧decide (a=b)=t:=by
 unfold eqY at h
 split at h
 ·rename_i i j
  split at h
  ·rename_i e
   refine ⟨_,_,by rw [V.cz,syV,if_pos e.1],by rw [V.cz,syV,if_pos e.2],?_⟩
   split at h
   ·rename_i q
    cases h; subst q; simp
   ·split at h
    ·rename_i q
     cases h
     exact decide_eq_false (H.ne _ _ q)
    ·cases h
  ·cases h
 ·rename_i i c
  split at h
  ·rename_i e
   cases h
   refine ⟨_,_,by rw [V.cz,syV,if_pos e.1],rfl,?_⟩
   have h1:=H.lo _ e.2.1
   have h2:=H.hi _ e.2.1
   exact decide_eq_false fun q=>by rw [q] at h1 h2; omega
  ·cases h
 ·rename_i c i
  split at h
  ·rename_i e
   cases h
   refine ⟨_,_,rfl,by rw [V.cz,syV,if_pos e.1],?_⟩
   have h1:=H.lo _ e.2.1
   have h2:=H.hi _ e.2.1
   exact decide_eq_false fun q=>by rw [← q] at h1 h2; omega
  ·cases h
 ·cases h
def lenY (Q:SyQ) (op:BinOp) (i:Nat) (c:Int):Option Bool :=
 if i % 4=1∧i / 4<Q.n then (match op with
  | .eql=>if c<Q.lo∨(Q.hi:Int)<c then some false else none
  | .neq=>if c<Q.lo∨(Q.hi:Int)<c then some true else none
  | .lss=>if (Q.hi:Int)<c then some true else if c≤Q.lo then some false else none
  | .leq=>if (Q.hi:Int)≤c then some true else if c<Q.lo then some false else none
  | .gtr=>if c<Q.lo then some true else if (Q.hi:Int)≤c then some false else none
  | .geq=>if c≤Q.lo then some true else if (Q.hi:Int)<c then some false else none
  | _=>none) else none
theorem bGs {Q:SyQ} (H:SyOk Q σ) {op:BinOp} {i:Nat} {c:Int} {t:Bool} (h:lenY Q op i c=some t) {K:V→Prop} (hK:K (.bool t)):vbin op ((V.map i).cz σ) (.int .i64 c) K:=by
 unfold lenY at h
 split at h
 ·rename_i e
  have h1:=H.lo _ e.2
  have h2:=H.hi _ e.2
  rw [V.cz,syV,if_neg (by omega),if_pos e.1]
  simp only [vbin]
  refine ⟨.inr trivial,?_⟩
  generalize (σ.s (i / 4)).length=m at h1 h2 ⊢
  cases op <;> simp only at h <;> (try cases h) <;> simp only [vint] <;> (repeat' (split at h)) <;> (try cases h) <;> (first
   | (rw [decide_eq_true (by omega)]; exact hK)
   | (rw [decide_eq_false (by omega)]; exact hK))
 ·cases h
def eqT:V→V→Bool
 | .str a,.str b=>decide (a=b)
 | .map i,.map j=>decide (i=j)
 | _,_=>false
theorem bEg {x y:V} (h:eqT x y=true):x=y:=by
 unfold eqT at h
 split at h
 ·rw [of_decide_eq_true h]
 ·rw [of_decide_eq_true h]
 ·cases h
def bBu (x y:V):List (V×V×Nat)→Option Nat
 | []=>none
 | e::r=>if (eqT x e.1&&eqT y e.2.1)=true then some e.2.2 else bBu x y r
theorem aOl {x y:V} {j:Nat}:∀ {l:List (V×V×Nat)},bBu x y l=some j→(x,y,j)∈l
 | e::r,h=>by
   rw [bBu] at h
   split at h
   ·rename_i q
    cases h
    rw [Bool.and_eq_true] at q
    rw [bEg q.1,bEg q.2]
    exact List.mem_cons_self ..
   ·exact List.mem_cons_of_mem _ (aOl h)
def catY (Q:SyQ) (x y:V):Option V:=match bBu x y Q.cat with
 | some j=>some (.map (4*j))
 | none=>none
theorem bHf {Q:SyQ} (H:SyOk Q σ) {x y v:V} (h:catY Q x y=some v) {K:V→Prop} (hK:K (v.cz σ)):vbin .add (x.cz σ) (y.cz σ) K:=by
 unfold catY at h
 split at h
 ·rename_i j e2
  cases h
  obtain ⟨a,b,e1,e3,c1,c2⟩:=H.ct _ _ _ (aOl e2)
  rw [V.cz,syV,if_pos (by omega),show 4*j / 4=j by omega,c1] at hK
  rw [e1,e3]
  exact ⟨c2,hK⟩
 ·cases h
def aZf (Q:SyQ) (op:BinOp) (x y:V):Option V :=
 match x,y with
 | .map i,.int k c=>if k=.i64 then (match lenY Q op i c with
   | some t=>some (.bool t)
   | none=>none) else none
 | x,y=>match aZg op x y with
   | some v=>some v
   | none=>match eqY Q x y with
     | some t=>(match op with
       | .eql=>some (.bool t)
       | .neq=>some (.bool !t)
       | _=>none)
     | none=>match op with
       | .add=>catY Q x y
       | _=>none
theorem aSh {op:BinOp} {k:IntKind} {a b:Int} {v:V} (h:aUv op k a b=some v):v.cz σ=v:=by
 cases op <;> simp only [aUv] at h <;> (repeat' (split at h)) <;> cases h <;> rfl
theorem bDv {op:BinOp} {a b:List UInt8} {v:V} (h:aZy op a b=some v):v.cz σ=v:=by
 cases op <;> simp only [aZy] at h <;> (repeat' (split at h)) <;> cases h <;> rfl
theorem bD1 {op:BinOp} {x y v:V} (h:aZg op x y=some v):x.cz σ=x∧y.cz σ=y∧v.cz σ=v:=by
 unfold aZg at h
 split at h
 ·split at h
  ·exact ⟨rfl,rfl,aSh h⟩
  ·split at h
   ·exact ⟨rfl,rfl,aSh h⟩
   ·cases h
 ·exact ⟨rfl,rfl,bDv h⟩
 ·cases h
theorem aZi {Q:SyQ} (H:SyOk Q σ) {op:BinOp} {x y v:V} (h:aZf Q op x y=some v) {K:V→Prop} (hK:K (v.cz σ)):vbin op (x.cz σ) (y.cz σ) K:=by
 unfold aZf at h
 split at h
 ·split at h
  ·rename_i e
   subst e
   split at h
   ·rename_i e
    cases h
    exact bGs H e hK
   ·cases h
  ·cases h
 ·split at h
  ·rename_i e
   cases h
   obtain ⟨e1,e2,e3⟩:=bD1 (σ:=σ) e
   rw [e3] at hK
   rw [e1,e2]
   exact bA2 e hK
  ·split at h
   ·rename_i e
    obtain ⟨a,b,e1,e2,e3⟩:=bE5 H e
    rw [e1,e2]
    subst e3
    split at h <;> cases h <;> exact hK
   ·split at h
    ·exact bHf H h hK
    ·cases h
def aQi (Q:SyQ) (k:Nat) (a b:V):Option Bool :=
 match aBf k a b with
 | some t=>some t
 | none=>if k=1 then eqY Q a b else none
theorem aZu {k:Nat} {a b:V} {t:Bool} (h:aBf k a b=some t):a.cz σ=a∧b.cz σ=b:=by
 unfold aBf at h
 split at h <;> first | exact ⟨rfl,rfl⟩ | cases h
theorem aV0 {Q:SyQ} (H:SyOk Q σ) {k:Nat} {a b:V} {t:Bool} (h:aQi Q k a b=some t):aBf k (a.cz σ) (b.cz σ)=some t:=by
 unfold aQi at h
 split at h
 ·rename_i e
  cases h
  obtain ⟨e1,e2⟩:=aZu (σ:=σ) e
  rw [e1,e2,e]
 ·split at h
  ·rename_i ek
   subst ek
   obtain ⟨a,b,e1,e2,e3⟩:=bE5 H h
   rw [e1,e2,aBf,e3]
  ·cases h
def aIv (Q:SyQ):List Nat→List V→List V→Option Bool
 | [],[],[]=>some true
 | k::ks,a::r,b::s=>match aQi Q k a b,aIv Q ks r s with
   | some x,some y=>some (x&&y)
   | _,_=>none
 | _,_,_=>none
theorem aKj {Q:SyQ} (H:SyOk Q σ):∀ {ks:List Nat} {a b:List V} {t:Bool},aIv Q ks a b=some t→aAo ks (a.map (V.cz σ)) (b.map (V.cz σ))=some t
 | [],[],[],t,h=>h
 | [],[],_::_,t,h=>by cases h
 | [],_::_,_,t,h=>by cases h
 | _::_,[],_,t,h=>by cases h
 | _::_,_::_,[],t,h=>by cases h
 | k::ks,a::r,b::s,t,h=>by
   simp only [aIv] at h
   split at h
   ·rename_i x y e1 e2
    cases h
    simp only [List.map_cons,aAo,aV0 H e1,aKj H e2]
   ·cases h
end Go.Ab
namespace Go.Ab
def aXf (kd:Nat) (x:V):Option Bool :=
 match kd,x with
 | 0,.nilp=>some true
 | 1,.nils=>some true
 | 0,.ptr _ _=>some false
 | 0,.eptr _ _ _=>some false
 | 0,.cptr _=>some false
 | 1,.lst _ es=>if 0<es.length then some false else none
 | 1,.own _ _ _ len=>if 0<len then some false else none
 | _,_=>none
def unB:List V→Option (List UInt8)
 | []=>some []
 | .int .u8 n::r=>if n=((n.toNat.toUInt8).toNat:Int) then (match unB r with
   | some bs=>some (n.toNat.toUInt8::bs)
   | none=>none) else none
 | _=>none
theorem bEh:∀ {ys:List V} {bs:List UInt8},unB ys=some bs→ys=aAr bs
 | [],bs,h=>by cases h; rfl
 | .int .u8 n::r,bs,h=>by
   simp only [unB] at h
   split at h
   ·rename_i e
    split at h
    ·rename_i bs' e2
     cases h
     rw [bEh e2]
     simp only [aAr,List.map_cons,← e]
    ·cases h
   ·cases h
 | .int .i8 _::_,_,h | .int .i16 _::_,_,h | .int .i32 _::_,_,h | .int .i64 _::_,_,h | .int .u16 _::_,_,h | .int .u32 _::_,_,h | .int .u64 _::_,_,h=>by cases h
 | .junk::_,_,h | .bool _::_,_,h | .str _::_,_,h | .nilp::_,_,h | .nils::_,_,h | .ptr _ _::_,_,h | .eptr _ _ _::_,_,h | .cptr _::_,_,h | .lst _ _::_,_,h | .own _ _ _ _::_,_,h | .agg _::_,_,h | .tup _::_,_,h | .fn _ _::_,_,h | .map _::_,_,h | .nilm::_,_,h | .raw _::_,_,h=>by cases h
def bK6:V→Bool
 | .str _=>false
 | .map _=>false
 | _=>true
def evY {R:Type} (Q:SyQ) (pc:Nat→List V→Option V) (ec:Nat→List V→Tr Blk→Nat→(V→Tr Blk→Nat→Option R)→Option R) (bd:Nat→Bool):I→ESt→(ESt→Option R)→Option R
 | .mov d x,s,k=>s.setOK d (s.ev x) k
 | .pick d c a b,s,k=>match s.ev c with
   | .bool true=>s.setOK d (s.ev a) k
   | .bool false=>s.setOK d (s.ev b) k
   | _=>none
 | .bin d op x y,s,k=>match aZf Q op (s.ev x) (s.ev y) with
   | some v=>s.setOF d v k
   | none=>none
 | .eqA d neg ks x y,s,k=>match s.ev x,s.ev y with
   | .agg a,.agg b=>match aIv Q ks a b with
     | some t=>s.setOK d (.bool (t != neg)) k
     | none=>none
   | _,_=>none
 | .eqB d neg x y,s,k=>match s.ev x,s.ev y with
   | .bool a,.bool b=>s.setOK d (.bool ((a==b) != neg)) k
   | _,_=>none
 | .isnil d neg kd x,s,k=>match aXf kd (s.ev x) with
   | some true=>s.setOK d (.bool !neg) k
   | some false=>s.setOK d (.bool neg) k
   | none=>none
 | .un d op x,s,k=>match evUn op (s.ev x) with
   | some v=>s.setOF d v k
   | none=>none
 | .cvt d j x,s,k=>match s.ev x with
   | .int _ n=>s.setOF d (.int j (j.wrap n)) k
   | _=>none
 | .cvs d x,s,k=>match s.ev x with
   | .str t=>s.setOF d (.str t) k
   | .map i=>if i % 4=0 then s.setOK d (.map i) k else none
   | _=>none
 | .build d zero parts,s,k=>if (parts.all fun p=>decide ((s.ev p.2.2).ncells=some p.2.1))=true then s.setOF d (.agg (parts.foldl (fun cs p=>aBm cs p.1 (s.ev p.2.2).cells) zero)) k else none
 | .field d off sz ag x,s,k=>match s.ev x with
   | .agg cs=>if off+sz≤cs.length then s.setOF d (pack ag ((cs.drop off).take sz)) k else none
   | _=>none
 | .ext d i x,s,k=>match s.ev x with
   | .tup cs=>if i<cs.length then s.setOK d (cs.getD i .junk) k else none
   | _=>none
 | .idx d x i,s,k=>match s.ev x,s.ev i with
   | .str t,.int _ n=>if 0≤n∧n.toNat<t.length then s.setOF d (.int .u8 (t.getD n.toNat 0).toNat) k else none
   | _,_=>none
 | .idxA d n sz ag x i,s,k=>match s.ev x,s.ev i with
   | .agg cs,.int _ j=>if 0≤j∧j<n∧n*sz≤cs.length then s.setOF d (pack ag ((cs.drop (j.toNat*sz)).take sz)) k else none
   | _,_=>none
 | .slcS d x lo hi,s,k=>match s.ev x with
   | .str t=>match aD7 (lo.map s.ev) 0,aD7 (hi.map s.ev) t.length with
     | some l,some h=>if l≤h∧h≤t.length then s.setOF d (.str ((t.take h).drop l)) k else none
     | _,_=>none
   | _=>none
 | .slc d sz x lo hi,s,k=>match s.ev x with
   | .nils=>match aD7 (lo.map s.ev) 0,aD7 (hi.map s.ev) 0 with
     | some l,some h=>if l≤h∧h≤0 then s.setOF d .nils k else none
     | _,_=>none
   | .lst sz' es=>match aD7 (lo.map s.ev) 0,aD7 (hi.map s.ev) es.length with
     | some l,some h=>if sz'=sz∧l≤h∧h≤es.length then s.setOF d (.lst sz ((es.take h).drop l)) k else none
     | _,_=>none
   | .own id sz' off n=>match aD7 (lo.map s.ev) 0,aD7 (hi.map s.ev) n with
     | some l,some h=>if sz'=sz∧l≤h∧h≤n then s.setOF d (.own id sz (off+l) (h-l)) k else none
     | _,_=>none
   | _=>none
 | .len d st x,s,k=>match st,s.ev x with
   | true,.str t=>s.setOF d (.int .i64 t.length) k
   | true,.map i=>if i % 4=0 then s.setOF d (.map (i+1)) k else none
   | false,.nils=>s.setOF d (.int .i64 0) k
   | false,.lst _ es=>s.setOF d (.int .i64 es.length) k
   | false,.own _ _ _ n=>s.setOF d (.int .i64 n) k
   | _,_=>none
 | .fadr d off x,s,k=>match s.ev x with
   | .cptr cs=>s.setOF d (.cptr (cs.drop off)) k
   | .ptr id o=>s.setOF d (.ptr id (o+off)) k
   | .eptr id i j=>s.setOF d (.eptr id i (j+off)) k
   | _=>none
 | .iadr d sz x i,s,k=>match s.ev x,s.ev i with
   | .lst sz' es,.int _ n=>if sz'=sz∧0≤n∧n.toNat<es.length then s.setOF d (.cptr (es.getD n.toNat .junk).cells) k else none
   | .own id sz' off len,.int _ n=>if sz'=sz∧0≤n∧n.toNat<len then s.setOF d (.eptr id (off+n.toNat) 0) k else none
   | _,_=>none
 | .iadrA d n sz x i,s,k=>match s.ev x,s.ev i with
   | .cptr cs,.int _ j=>if 0≤j∧j<n then s.setOK d (.cptr (cs.drop (j.toNat*sz))) k else none
   | .ptr id o,.int _ j=>if 0≤j∧j<n then s.setOK d (.ptr id (o+j.toNat*sz)) k else none
   | _,_=>none
 | .nchk d x,s,k=>match s.ev x with
   | .cptr cs=>s.setOK d (.cptr cs) k
   | .ptr id o=>s.setOK d (.ptr id o) k
   | .eptr id i j=>s.setOK d (.eptr id i j) k
   | .fn f cs=>s.setOK d (.fn f cs) k
   | _=>none
 | .load d c sz ag x,s,k=>match s.ev x with
   | .cptr cs=>if sz≤cs.length then s.setOK d (pack ag (cs.take sz)) k else none
   | .ptr id o=>match s.L.get id with
     | some (.box _ cs)=>if c=false∧o+sz≤cs.length then s.setOK d (pack ag ((cs.drop o).take sz)) k else none
     | _=>none
   | .eptr id i j=>match s.L.get id with
     | some (.vec _ sz' es)=>if c=false∧i<es.length∧j+sz≤sz' then s.setOK d (pack ag (((es.getD i .junk).cells.drop j).take sz)) k else none
     | _=>none
   | _=>none
 | .store sz x v,s,k=>match s.ev x with
   | .ptr id o=>match s.L.get id with
     | some (.box ty cs)=>if (s.ev v).ncells=some sz∧o+sz≤cs.length then aD0 (aBm cs o (s.ev v).cells) fun cs=>s.putK id (some (.box ty cs)) k else none
     | _=>none
   | .eptr id i j=>match s.L.get id with
     | some (.vec ty sz' es)=>if (s.ev v).ncells=some sz∧i<es.length∧j+sz≤sz' then aD0 (es.set i ((es.getD i .junk).recell (aBm (es.getD i .junk).cells j (s.ev v).cells))) fun es=>s.putK id (some (.vec ty sz' es)) k else none
     | _=>none
   | _=>none
 | .alloc d ty zero,s,k=>s.putK (s.nx+d) (some (.box ty zero)) fun s=>s.setK d (.ptr (s.nx+d) 0) k
 | .box d ty x,s,k=>if (s.ev x).ncells.isSome=true then aD0 (s.ev x).cells fun cs=>s.putK (s.nx+d) (some (.box ty cs)) fun s=>s.setK d (.ptr (s.nx+d) 0) k else none
 | .mkl d sz parts,s,k=>if (parts.all fun p=>decide ((s.ev p).ncells=some sz))=true then s.setOF d (.lst sz (parts.map s.ev)) k else none
 | .mkv d ty sz parts,s,k=>if (parts.all fun p=>decide ((s.ev p).ncells=some sz))=true then aD0 (parts.map s.ev) fun es=>s.putK (s.nx+d) (some (.vec ty sz es)) fun s=>s.setK d (.own (s.nx+d) sz 0 parts.length) k else none
 | .mk0 n ty sz x,s,k=>match s.ev x with
   | .int .i64 m=>if 0≤m∧m≤1073741824 then s.putK (s.nx+n) (some (.vec ty sz [])) fun s=>s.setK n (.own (s.nx+n) sz 0 0) k else none
   | _=>none
 | .app d ty sz x y,s,k=>match s.ev x with
   | .nils=>match aXv sz s.L (s.ev y) with
     | some []=>s.setK d .nils k
     | some (y::r)=>if (y::r).length≤2^32 then aD0 (y::r) fun ys=>s.putK (s.nx+d) (some (.vec ty sz ys)) fun s=>s.setK d (.own (s.nx+d) sz 0 ys.length) k else none
     | none=>none
   | .own id sz' off n=>match s.L.get id with
     | some (.vec ty' _ es)=>if ty'=ty∧sz'=sz∧off+n≤es.length then (match aXv sz s.L (s.ev y) with
      | some ys=>if n+ys.length≤2^32 then aD0 ((es.drop off).take n++ys) fun zs=>s.putK id none fun s=>s.putK (s.nx+d) (some (.vec ty sz zs)) fun s=>s.setK d (.own (s.nx+d) sz 0 (n+ys.length)) k else none
      | none=>none) else none
     | _=>none
   | _=>none
 | .appl n ty sz x,s,k=>match s.ev x with
   | .nils=>s.putK (s.nx+n) (some (.vec ty sz [])) fun s=>s.setK n (.own (s.nx+n) sz 0 0) k
   | .lst sz' es=>if sz'=sz∧es.length≤2^32 then s.putK (s.nx+n) (some (.vec ty sz es)) fun s=>s.setK n (.own (s.nx+n) sz 0 es.length) k else none
   | _=>none
 | .call d c f args,s,k =>
   let as:=if c then args.map s.ev else args.map fun a=>view s.L.get 3 (s.ev a)
   if V.immsY as=true then (match pc f as with
    | some r=>if (if c then r.immY else r.flatY)=true then s.setOF d r k else none
    | none=>none) else none
 | .ecall d n f args,s,k=>ec f (args.map s.ev) s.L (s.nx+n) fun r L nx=>ESt.setOK ⟨s.env,L,nx⟩ d r k
 | .clos d f caps,s,k=>s.setOK d (.fn f (caps.map s.ev)) k
 | .vcall d n x args,s,k=>match s.ev x with
   | .fn f cs=>if bd f=true then ec f (args.map s.ev++cs) s.L (s.nx+n) fun r L nx=>ESt.setOK ⟨s.env,L,nx⟩ d r k else none
   | _=>none
 | .ldo d sz ag x,s,k=>match s.ev x with
   | .ptr id o=>match s.L.get id with
     | some (.box _ cs)=>if id<s.nx∧o+sz≤cs.length then s.setOK d (pack ag ((cs.drop o).take sz)) k else none
     | _=>none
   | _=>none
 | .apq d ty sz x y,s,k=>match s.ev x,s.ev y with
   | .own id sz' off n,.lst sz2 ys=>match s.L.get id with
     | some (.vec ty' _ es)=>if ty'=ty∧sz'=sz∧off+n≤es.length∧sz2=sz∧n+ys.length≤2^32 then aD0 ((es.drop off).take n++ys) fun zs=>s.putK id none fun s=>s.putK (s.nx+d) (some (.vec ty sz zs)) fun s=>s.setK d (.own (s.nx+d) sz 0 (n+ys.length)) k else none
     | _=>none
   | _,_=>none
 | .s2b n ty x,s,k=>match s.ev x with
   | .str t=>aD0 (aAr t) fun bs=>s.putK (s.nx+n) (some (.vec ty 1 bs)) fun s=>s.setK n (.own (s.nx+n) 1 0 t.length) k
   | _=>none
 | .b2s d x,s,k=>if bK6 (s.ev x)=true then (match aXv 1 s.L (s.ev x) with
   | some ys=>match unB ys with
     | some bs=>s.setOF d (.str bs) k
     | none=>none
   | none=>none) else none
 | .mx d isMax x y,s,k=>match s.ev x,s.ev y with
   | .int j a,.int j' b=>if j=j' then s.setOF d (.int j (mxI isMax a b)) k else none
   | _,_=>none
 | .ptreq d neg x y,s,k=>match s.ev x,s.ev y with
   | .ptr i o,.ptr j q=>if i=j∧o=q then s.setOK d (.bool !neg) k else none
   | _,_=>none
 | _,_,_=>none
def I.pl:I→Bool
 | .mov _ x=>x.pl
 | .pick _ a b c=>a.pl&&(b.pl&&c.pl)
 | .bin _ _ x y=>x.pl&&y.pl
 | .eqA _ _ _ x y=>x.pl&&y.pl
 | .eqB _ _ x y=>x.pl&&y.pl
 | .isnil _ _ _ x=>x.pl
 | .un _ _ x=>x.pl
 | .cvt _ _ x=>x.pl
 | .cvs _ x=>x.pl
 | .build _ z ps=>V.plL z&&ps.all fun p=>p.2.2.pl
 | .field _ _ _ _ x=>x.pl
 | .ext _ _ x=>x.pl
 | .idx _ x i=>x.pl&&i.pl
 | .idxA _ _ _ _ x i=>x.pl&&i.pl
 | .slcS _ x lo hi=>x.pl&&(oPl lo&&oPl hi)
 | .slc _ _ x lo hi=>x.pl&&(oPl lo&&oPl hi)
 | .len _ _ x=>x.pl
 | .fadr _ _ x=>x.pl
 | .iadr _ _ x i=>x.pl&&i.pl
 | .iadrA _ _ _ x i=>x.pl&&i.pl
 | .nchk _ x=>x.pl
 | .load _ _ _ _ x=>x.pl
 | .store _ x v=>x.pl&&v.pl
 | .alloc _ _ z=>V.plL z
 | .box _ _ x=>x.pl
 | .mkl _ _ ps=>ps.all Src.pl
 | .mkv _ _ _ ps=>ps.all Src.pl
 | .mk0 _ _ _ x=>x.pl
 | .app _ _ _ x y=>x.pl&&y.pl
 | .appl _ _ _ x=>x.pl
 | .call _ _ _ l=>l.all Src.pl
 | .ecall _ _ _ l=>l.all Src.pl
 | .clos _ _ l=>l.all Src.pl
 | .vcall _ _ x l=>x.pl&&l.all Src.pl
 | .ldo _ _ _ x=>x.pl
 | .apq _ _ _ x y=>x.pl&&y.pl
 | .s2b _ _ x=>x.pl
 | .b2s _ x=>x.pl
 | .mx _ _ x y=>x.pl&&y.pl
 | .ptreq _ _ x y=>x.pl&&y.pl
 | _=>false
def aRi (P:Program) (σ:Sy) (pc:Nat→List V→Option V):Prop:=∀ f as r,pc f as=some r→PTr P f (as.map (V.cz σ)) (r.cz σ)
def aWa (P:Program) (σ:Sy) {R:Type} (ec:Nat→List V→Tr Blk→Nat→(V→Tr Blk→Nat→Option R)→Option R):Prop :=
 ∀ f as L nx k r,ec f as L nx k=some r→∃ v L' nx',k v L' nx'=some r∧ECall P f (as.map (V.cz σ)) (czH σ L.get) nx fun v2 L2 n2=>v2=v.cz σ∧L2=czH σ L'.get∧n2=nx'
variable {σ:Sy}
theorem aCd {o:Option V} {d n:Nat} (h:aD7 o d=some n) {K:Nat→Prop} (hK:K n):aBb (o.map (V.cz σ)) d K:=by
 unfold aD7 at h
 split at h
 ·cases h; exact hK
 ·split at h
  ·cases h; exact ⟨by assumption,hK⟩
  ·cases h
 ·cases h
theorem aI1 {sz:Nat} {L:Tr Blk} {y:V} {ys:List V} (h:aXv sz L y=some ys) {K:List V→Prop} (hK:K (ys.map (V.cz σ))):aAp sz (czH σ L.get) (y.cz σ) K:=by
 unfold aXv at h
 split at h
 ·cases h; exact hK
 ·split at h
  ·rename_i e
   cases h
   rw [aGb]
   exact ⟨e,hK⟩
  ·cases h
 ·split at h
  ·rename_i e
   split at h
   ·rename_i e2
    cases h
    rw [V.cz]
    simp only [aAp,czH,e,Option.map_some,Blk.cz,List.length_map]
    rw [List.map_take,List.map_drop] at hK
    exact ⟨e2.1,e2.2,hK⟩
   ·cases h
  ·cases h
 ·split at h
  ·rename_i e
   cases h
   rw [V.cz]
   refine ⟨e,?_⟩
   rw [List.map_map] at hK
   exact hK
  ·cases h
 ·cases h
theorem bHq {op:UnOp} {x v:V} (h:evUn op x=some v):x.cz σ=x∧v.cz σ=v:=by
 unfold evUn at h
 split at h <;> cases h <;> exact ⟨rfl,rfl⟩
theorem aAm (s:ESt) (d:Option Nat) (v:V):(s.setO d v).to.cz σ=(s.to.cz σ).setO d (v.cz σ):=by rw [ESt.to_setO,bAb]
theorem aB5 (s:ESt) (d:Nat) (v:V):(s.set d v).to.cz σ=(s.to.cz σ).set d (v.cz σ):=by rw [ESt.to_set,aX2]
theorem aB6 (s:ESt) (id:Nat) (b:Option Blk):(s.put id b).to.cz σ=⟨(s.to.cz σ).env,upd (s.to.cz σ).L id (b.map (Blk.cz σ)),s.nx⟩:=by
 rw [ESt.to_put]; unfold St.cz; simp only [bFc]
theorem aAj {s:ESt} {x:Src} (h:x.pl=true):(s.to.cz σ).ev x=(s.ev x).cz σ:=by rw [bGx h,ESt.to_ev]
theorem aHm {s:ESt} {l:List Src} (h:l.all Src.pl=true):l.map (s.to.cz σ).ev=(l.map s.ev).map (V.cz σ):=by rw [bI6 h,bJt]
theorem aDz {s:ESt} {l:Option Src} (h:oPl l=true):l.map (s.to.cz σ).ev=(l.map s.ev).map (V.cz σ):=by rw [bHt h,bGi]
theorem aHk (s:ESt):(s.to.cz σ).L=czH σ s.L.get:=rfl
theorem aC2 {L:Heap} {id:Nat} {b:Blk} (h:L id=some b):czH σ L id=some (b.cz σ):=by unfold czH; rw [h]; rfl
theorem aSm (s:ESt):∀ {ps:List (Nat×Nat×Src)} (z:List V),(ps.all fun p=>p.2.2.pl)=true →
 (ps.foldl (fun cs p=>aBm cs p.1 (s.ev p.2.2).cells) z).map (V.cz σ)=ps.foldl (fun cs p=>aBm cs p.1 ((s.to.cz σ).ev p.2.2).cells) (z.map (V.cz σ))
 | [],z,h=>rfl
 | p::r,z,h=>by
   simp only [List.all_cons,Bool.and_eq_true] at h
   simp only [List.foldl_cons]
   rw [aSm s _ h.2,aNb,aAj h.1,aE1]
theorem aPb (cs:List V) (a b:Nat):(cs.take a |>.drop b).map (V.cz σ)=((cs.map (V.cz σ)).take a).drop b:=by rw [List.map_drop,List.map_take]
theorem aBg (cs:List V) (a b:Nat):(cs.drop a |>.take b).map (V.cz σ)=((cs.map (V.cz σ)).drop a).take b:=by rw [List.map_take,List.map_drop]
theorem aOt (bs:List UInt8):(aAr bs).map (V.cz σ)=aAr bs:=by
 unfold aAr
 rw [List.map_map]
 rfl
theorem bJb {P:Program} {R:Type} {Q:SyQ} (HQ:SyOk Q σ) {pc:Nat→List V→Option V} {ec:Nat→List V→Tr Blk→Nat→(V→Tr Blk→Nat→Option R)→Option R} {bd:Nat→Bool} (hp:aRi P σ pc) (he:aWa P σ ec) (hb:∀ f,bd f=true→aBp P f=true)
 {i:I} {s:ESt} {k:ESt→Option R} {r:R} (hl:i.pl=true) (h:evY Q pc ec bd i s k=some r):∃ s',k s'=some r∧∀ K:St→Prop,K (s'.to.cz σ)→aAa P i (s.to.cz σ) K:=by
 cases i with
 | mov d x =>
   simp only [I.pl] at hl
   simp only [evY,ESt.setOF_eq,ESt.setOK_eq] at h
   exact ⟨_,h,fun K hK=>by rw [aAm] at hK; simpa only [aAa,aAj hl] using hK⟩
 | pick d c a b =>
   simp only [I.pl,Bool.and_eq_true] at hl
   simp only [evY,ESt.setOF_eq,ESt.setOK_eq] at h
   split at h
   ·rename_i e
    exact ⟨_,h,fun K hK=>by rw [aAm] at hK; simpa only [aAa,aAj hl.1,aAj hl.2.1,aAj hl.2.2,e,V.cz,if_true] using hK⟩
   ·rename_i e
    exact ⟨_,h,fun K hK=>by rw [aAm] at hK; simpa only [aAa,aAj hl.1,aAj hl.2.1,aAj hl.2.2,e,V.cz,Bool.false_eq_true,if_false] using hK⟩
   ·cases h
 | bin d op x y =>
   simp only [I.pl,Bool.and_eq_true] at hl
   simp only [evY,ESt.setOF_eq,ESt.setOK_eq] at h
   split at h
   ·rename_i e
    exact ⟨_,h,fun K hK=>by rw [aAm] at hK; simp only [aAa,aAj hl.1,aAj hl.2]; exact aZi HQ e hK⟩
   ·cases h
 | eqA d neg ks x y =>
   simp only [I.pl,Bool.and_eq_true] at hl
   simp only [evY,ESt.setOF_eq,ESt.setOK_eq] at h
   split at h
   ·rename_i e1 e2
    split at h
    ·rename_i e
     exact ⟨_,h,fun K hK=>by rw [aAm] at hK; simp only [aAa,aAj hl.1,aAj hl.2,e1,e2,aIm]; exact ⟨_,aKj HQ e,hK⟩⟩
    ·cases h
   ·cases h
 | eqB d neg x y =>
   simp only [I.pl,Bool.and_eq_true] at hl
   simp only [evY,ESt.setOF_eq,ESt.setOK_eq] at h
   split at h
   ·rename_i e1 e2
    exact ⟨_,h,fun K hK=>by rw [aAm] at hK; simp only [aAa,aAj hl.1,aAj hl.2,e1,e2,V.cz]; exact hK⟩
   ·cases h
 | isnil d neg kd x =>
   simp only [I.pl] at hl
   simp only [evY,ESt.setOF_eq,ESt.setOK_eq] at h
   split at h
   ·rename_i e
    refine ⟨_,h,fun K hK=>?_⟩
    rw [aAm] at hK
    simp only [aAa,aAj hl]
    generalize s.ev x=v at e ⊢
    unfold aXf at e
    split at e <;> (first | (simp only [V.cz]; exact hK) | (cases e; done) | (split at e <;> cases e))
   ·rename_i e
    refine ⟨_,h,fun K hK=>?_⟩
    rw [aAm] at hK
    simp only [aAa,aAj hl]
    generalize s.ev x=v at e ⊢
    unfold aXf at e
    split at e <;> (first | (simp only [V.cz]; exact hK) | (cases e; done) | (split at e <;> cases e <;> simp only [V.cz,aCt,List.length_map] <;> exact ⟨by assumption,hK⟩))
   ·cases h
 | un d op x =>
   simp only [I.pl] at hl
   simp only [evY,ESt.setOF_eq,ESt.setOK_eq] at h
   split at h
   ·rename_i e
    refine ⟨_,h,fun K hK=>?_⟩
    obtain ⟨e1,e2⟩:=bHq (σ:=σ) e
    rw [aAm,e2] at hK
    simp only [aAa,aAj hl,e1]
    exact bHc e hK
   ·cases h
 | cvt d j x =>
   simp only [I.pl] at hl
   simp only [evY,ESt.setOF_eq,ESt.setOK_eq] at h
   split at h
   ·rename_i e
    exact ⟨_,h,fun K hK=>by rw [aAm] at hK; simp only [aAa,aAj hl,e,V.cz]; exact hK⟩
   ·cases h
 | cvs d x =>
   simp only [I.pl] at hl
   simp only [evY,ESt.setOF_eq,ESt.setOK_eq] at h
   split at h
   ·rename_i e
    exact ⟨_,h,fun K hK=>by rw [aAm] at hK; simp only [aAa,aAj hl,e,V.cz]; exact hK⟩
   ·rename_i i e
    split at h
    ·rename_i e2
     exact ⟨_,h,fun K hK=>by rw [aAm,V.cz,syV,if_pos e2] at hK; simp only [aAa,aAj hl,e,V.cz,syV,if_pos e2]; exact hK⟩
    ·cases h
   ·cases h
 | build d zero parts =>
   simp only [I.pl,Bool.and_eq_true] at hl
   simp only [evY,ESt.setOF_eq,ESt.setOK_eq] at h
   split at h
   ·rename_i e
    refine ⟨_,h,fun K hK=>?_⟩
    rw [aAm,aIm,aSm s _ hl.2,aY2 hl.1] at hK
    simp only [aAa]
    refine ⟨fun p hp=>?_,hK⟩
    rw [aAj (List.all_eq_true.1 hl.2 p hp),aEb]
    simpa using List.all_eq_true.1 e p hp
   ·cases h
 | field d off sz ag x =>
   simp only [I.pl] at hl
   simp only [evY,ESt.setOF_eq,ESt.setOK_eq] at h
   split at h
   ·rename_i e
    split at h
    ·rename_i e2
     exact ⟨_,h,fun K hK=>by rw [aAm,aGk,aBg] at hK; simp only [aAa,aAj hl,e,aIm,List.length_map]; exact ⟨e2,hK⟩⟩
    ·cases h
   ·cases h
 | ext d i x =>
   simp only [I.pl] at hl
   simp only [evY,ESt.setOF_eq,ESt.setOK_eq] at h
   split at h
   ·rename_i e
    split at h
    ·rename_i e2
     exact ⟨_,h,fun K hK=>by rw [aAm,← aJ6] at hK; simp only [aAa,aAj hl,e,aSy,List.length_map]; exact ⟨e2,hK⟩⟩
    ·cases h
   ·cases h
 | idx d x i =>
   simp only [I.pl,Bool.and_eq_true] at hl
   simp only [evY,ESt.setOF_eq,ESt.setOK_eq] at h
   split at h
   ·rename_i e1 e2
    split at h
    ·rename_i e
     exact ⟨_,h,fun K hK=>by rw [aAm] at hK; simp only [aAa,aAj hl.1,aAj hl.2,e1,e2,V.cz]; exact ⟨e.1,e.2,hK⟩⟩
    ·cases h
   ·cases h
 | idxA d n sz ag x i =>
   simp only [I.pl,Bool.and_eq_true] at hl
   simp only [evY,ESt.setOF_eq,ESt.setOK_eq] at h
   split at h
   ·rename_i e1 e2
    split at h
    ·rename_i e
     exact ⟨_,h,fun K hK=>by rw [aAm,aGk,aBg] at hK; simp only [aAa,aAj hl.1,aAj hl.2,e1,e2,aIm,V.cz,List.length_map]; exact ⟨e.1,e.2.1,e.2.2,hK⟩⟩
    ·cases h
   ·cases h
 | slcS d x lo hi =>
   simp only [I.pl,Bool.and_eq_true] at hl
   simp only [evY,ESt.setOF_eq,ESt.setOK_eq] at h
   split at h
   ·rename_i e
    split at h
    ·rename_i e1 e2
     split at h
     ·rename_i e3
      refine ⟨_,h,fun K hK=>?_⟩
      rw [aAm] at hK
      simp only [aAa,aAj hl.1,e,V.cz,aDz hl.2.1,aDz hl.2.2]
      exact aCd e1 (aCd e2 ⟨e3.1,e3.2,hK⟩)
     ·cases h
    ·cases h
   ·cases h
 | slc d sz x lo hi =>
   simp only [I.pl,Bool.and_eq_true] at hl
   simp only [evY,ESt.setOF_eq,ESt.setOK_eq] at h
   split at h
   ·rename_i e
    split at h
    ·rename_i e1 e2
     split at h
     ·rename_i e3
      refine ⟨_,h,fun K hK=>?_⟩
      rw [aAm] at hK
      simp only [aAa,aAj hl.1,e,V.cz,aDz hl.2.1,aDz hl.2.2]
      exact aCd e1 (aCd e2 ⟨e3.1,e3.2,hK⟩)
     ·cases h
    ·cases h
   ·rename_i e
    split at h
    ·rename_i e1 e2
     split at h
     ·rename_i e3
      refine ⟨_,h,fun K hK=>?_⟩
      rw [aAm,aGb,aPb] at hK
      simp only [aAa,aAj hl.1,e,aGb,aDz hl.2.1,aDz hl.2.2,List.length_map]
      exact ⟨e3.1,aCd e1 (aCd e2 ⟨e3.2.1,e3.2.2,hK⟩)⟩
     ·cases h
    ·cases h
   ·rename_i e
    split at h
    ·rename_i e1 e2
     split at h
     ·rename_i e3
      refine ⟨_,h,fun K hK=>?_⟩
      rw [aAm] at hK
      simp only [aAa,aAj hl.1,e,V.cz,aDz hl.2.1,aDz hl.2.2]
      exact ⟨e3.1,aCd e1 (aCd e2 ⟨e3.2.1,e3.2.2,hK⟩)⟩
     ·cases h
    ·cases h
   ·cases h
 | len d st x =>
   simp only [I.pl] at hl
   simp only [evY,ESt.setOF_eq,ESt.setOK_eq] at h
   split at h
   case h_6=>cases h
   case h_2 =>
    rename_i i e
    split at h
    ·rename_i e2
     refine ⟨_,h,fun K hK=>?_⟩
     rw [aAm,V.cz,syV,if_neg (by omega),if_pos (by omega),show (i+1) / 4=i / 4 from by omega] at hK
     simp only [aAa,aAj hl,e,V.cz,syV,if_pos e2]
     exact hK
    ·cases h
   all_goals
    rename_i e
    exact ⟨_,h,fun K hK=>by rw [aAm] at hK; simp only [aAa,aAj hl,e,V.cz,aCt,List.length_map]; exact hK⟩
 | fadr d off x =>
   simp only [I.pl] at hl
   simp only [evY,ESt.setOF_eq,ESt.setOK_eq] at h
   split at h
   case h_4=>cases h
   all_goals
    rename_i e
    exact ⟨_,h,fun K hK=>by rw [aAm] at hK; simp only [aAa,aAj hl,e,V.cz,aCt,List.map_drop] at hK ⊢; exact hK⟩
 | iadr d sz x i =>
   simp only [I.pl,Bool.and_eq_true] at hl
   simp only [evY,ESt.setOF_eq,ESt.setOK_eq] at h
   split at h
   case h_3=>cases h
   ·rename_i e1 e2
    split at h
    ·rename_i e
     refine ⟨_,h,fun K hK=>?_⟩
     rw [aAm,aGt,← aE1,← aJ6] at hK
     simp only [aAa,aAj hl.1,aAj hl.2,e1,e2,aGb,V.cz,List.length_map]
     exact ⟨e.1,e.2.1,e.2.2,hK⟩
    ·cases h
   ·rename_i e1 e2
    split at h
    ·rename_i e
     exact ⟨_,h,fun K hK=>by rw [aAm] at hK; simp only [aAa,aAj hl.1,aAj hl.2,e1,e2,V.cz]; exact ⟨e.1,e.2.1,e.2.2,hK⟩⟩
    ·cases h
 | iadrA d n sz x i =>
   simp only [I.pl,Bool.and_eq_true] at hl
   simp only [evY,ESt.setOF_eq,ESt.setOK_eq] at h
   split at h
   case h_3=>cases h
   ·rename_i e1 e2
    split at h
    ·rename_i e
     exact ⟨_,h,fun K hK=>by rw [aAm,aGt,List.map_drop] at hK; simp only [aAa,aAj hl.1,aAj hl.2,e1,e2,aGt,V.cz]; exact ⟨e.1,e.2,hK⟩⟩
    ·cases h
   ·rename_i e1 e2
    split at h
    ·rename_i e
     exact ⟨_,h,fun K hK=>by rw [aAm] at hK; simp only [aAa,aAj hl.1,aAj hl.2,e1,e2,V.cz]; exact ⟨e.1,e.2,hK⟩⟩
    ·cases h
 | nchk d x =>
   simp only [I.pl] at hl
   simp only [evY,ESt.setOF_eq,ESt.setOK_eq] at h
   split at h
   case h_5=>cases h
   all_goals
    rename_i e
    exact ⟨_,h,fun K hK=>by rw [aAm] at hK; simp only [aAa,aAj hl,e,V.cz] at hK ⊢; exact hK⟩
 | load d c sz ag x =>
   simp only [I.pl] at hl
   simp only [evY,ESt.setOF_eq,ESt.setOK_eq] at h
   split at h
   ·rename_i e
    split at h
    ·rename_i e2
     exact ⟨_,h,fun K hK=>by rw [aAm,aGk,List.map_take] at hK; simp only [aAa,aAj hl,e,aGt,List.length_map]; exact ⟨e2,hK⟩⟩
    ·cases h
   ·rename_i e
    split at h
    ·rename_i e1
     split at h
     ·rename_i e2
      refine ⟨_,h,fun K hK=>?_⟩
      rw [aAm,aGk,aBg] at hK
      simp only [aAa,aAj hl,e,V.cz,aHk,aC2 e1,Blk.cz,List.length_map]
      exact ⟨e2.1,e2.2,hK⟩
     ·cases h
    ·cases h
   ·rename_i e
    split at h
    ·rename_i e1
     split at h
     ·rename_i e2
      refine ⟨_,h,fun K hK=>?_⟩
      rw [aAm,aGk,aBg,← aE1,← aJ6] at hK
      simp only [aAa,aAj hl,e,V.cz,aHk,aC2 e1,Blk.cz,List.length_map]
      exact ⟨e2.1,e2.2.1,e2.2.2,hK⟩
     ·cases h
    ·cases h
   ·cases h
 | store sz x v =>
   simp only [I.pl,Bool.and_eq_true] at hl
   simp only [evY,ESt.putK_eq,aDb] at h
   split at h
   ·rename_i e
    split at h
    ·rename_i e1
     split at h
     ·rename_i e2
      refine ⟨_,h,fun K hK=>?_⟩
      rw [aB6,Option.map_some,Blk.cz,aNb,← aE1] at hK
      simp only [aAa,aAj hl.1,aAj hl.2,e,V.cz,aHk,aC2 e1,Blk.cz,List.length_map,aEb]
      exact ⟨e2.1,e2.2,hK⟩
     ·cases h
    ·cases h
   ·rename_i e
    split at h
    ·rename_i e1
     split at h
     ·rename_i e2
      refine ⟨_,h,fun K hK=>?_⟩
      rw [aB6,Option.map_some,Blk.cz,List.map_set,aWx,aNb,← aE1,← aE1,← aJ6] at hK
      simp only [aAa,aAj hl.1,aAj hl.2,e,V.cz,aHk,aC2 e1,Blk.cz,List.length_map,aEb]
      exact ⟨e2.1,e2.2.1,e2.2.2,hK⟩
     ·cases h
    ·cases h
   ·cases h
 | alloc d ty zero =>
   simp only [I.pl] at hl
   simp only [evY,ESt.putK_eq,ESt.setK_eq] at h
   exact ⟨_,h,fun K hK=>by rw [aB5,aB6,Option.map_some,Blk.cz,aY2 hl] at hK; exact hK⟩
 | box d ty x =>
   simp only [I.pl] at hl
   simp only [evY,ESt.putK_eq,ESt.setK_eq,aDb] at h
   split at h
   ·rename_i e
    exact ⟨_,h,fun K hK=>by rw [aB5,aB6,Option.map_some,Blk.cz,← aE1] at hK; simp only [aAa,aAj hl,aEb]; exact ⟨e,hK⟩⟩
   ·cases h
 | mkl d sz parts =>
   simp only [I.pl] at hl
   simp only [evY,ESt.setOF_eq,ESt.setOK_eq] at h
   split at h
   ·rename_i e
    refine ⟨_,h,fun K hK=>?_⟩
    rw [aAm,aGb] at hK
    simp only [aAa,aHm hl]
    refine ⟨fun p hp=>?_,hK⟩
    rw [aAj (List.all_eq_true.1 hl p hp),aEb]
    simpa using List.all_eq_true.1 e p hp
   ·cases h
 | mkv d ty sz parts =>
   simp only [I.pl] at hl
   simp only [evY,ESt.putK_eq,ESt.setK_eq,aDb] at h
   split at h
   ·rename_i e
    refine ⟨_,h,fun K hK=>?_⟩
    rw [aB5,aB6,Option.map_some,Blk.cz] at hK
    simp only [aAa,aHm hl]
    refine ⟨fun p hp=>?_,hK⟩
    rw [aAj (List.all_eq_true.1 hl p hp),aEb]
    simpa using List.all_eq_true.1 e p hp
   ·cases h
 | mk0 n ty sz x =>
   simp only [I.pl] at hl
   simp only [evY,ESt.putK_eq,ESt.setK_eq] at h
   split at h
   ·rename_i e
    split at h
    ·rename_i e2
     exact ⟨_,h,fun K hK=>by rw [aB5,aB6] at hK; simp only [aAa,aAj hl,e,V.cz]; exact ⟨e2.1,e2.2,hK⟩⟩
    ·cases h
   ·cases h
 | app d ty sz x y =>
   simp only [I.pl,Bool.and_eq_true] at hl
   simp only [evY,ESt.putK_eq,ESt.setK_eq,aDb] at h
   split at h
   ·rename_i e
    split at h
    ·rename_i e1
     refine ⟨_,h,fun K hK=>?_⟩
     rw [aB5] at hK
     simp only [aAa,aAj hl.1,aAj hl.2,aHk]
     exact .inl ⟨by rw [e]; rfl,aI1 e1 rfl,hK⟩
    ·rename_i y' r' e1
     split at h
     ·rename_i e2
      refine ⟨_,h,fun K hK=>?_⟩
      rw [aB5,aB6,Option.map_some,Blk.cz] at hK
      simp only [aAa,aAj hl.1,aAj hl.2]
      refine .inr ?_
      simp only [aCb,e,V.cz,aHk]
      refine aI1 e1 ⟨by simpa using e2,?_⟩
      simp only [List.length_map]
      exact hK
     ·cases h
    ·cases h
   ·rename_i id sz' off n e
    split at h
    ·rename_i e1
     split at h
     ·rename_i e2
      split at h
      ·rename_i ys e3
       split at h
       ·rename_i e4
        refine ⟨_,h,fun K hK=>?_⟩
        rw [aB5,aB6,aB6,Option.map_some,Option.map_none,Blk.cz,List.map_append,aBg] at hK
        simp only [aAa,aAj hl.1,aAj hl.2]
        refine .inr ?_
        simp only [aCb,e,V.cz,aHk,aC2 e1,Blk.cz,List.length_map]
        refine ⟨e2.1,e2.2.1,e2.2.2,aI1 e3 ⟨by simpa using e4,?_⟩⟩
        simp only [List.length_map]
        exact hK
       ·cases h
      ·cases h
     ·cases h
    ·cases h
   ·cases h
 | appl n ty sz x =>
   simp only [I.pl] at hl
   simp only [evY,ESt.putK_eq,ESt.setK_eq] at h
   split at h
   ·rename_i e
    exact ⟨_,h,fun K hK=>by rw [aB5,aB6] at hK; simp only [aAa,aAj hl,e,V.cz]; exact hK⟩
   ·rename_i e
    split at h
    ·rename_i e2
     exact ⟨_,h,fun K hK=>by rw [aB5,aB6,Option.map_some,Blk.cz] at hK; simp only [aAa,aAj hl,e,aGb,List.length_map]; exact ⟨e2.1,e2.2,hK⟩⟩
    ·cases h
   ·cases h
 | call d c f args =>
   simp only [I.pl] at hl
   have hv:(args.map fun a=>view (s.to.cz σ).L 3 ((s.to.cz σ).ev a))=(args.map fun a=>view s.L.get 3 (s.ev a)).map (V.cz σ):=by
    rw [List.map_map]
    refine List.map_congr_left fun x hx=>?_
    show _=(view s.L.get 3 (s.ev x)).cz σ
    rw [aAj (List.all_eq_true.1 hl x hx),aRh]
    rfl
   cases c
   ·simp only [evY,ESt.setOF_eq,ESt.setOK_eq,Bool.false_eq_true,if_false,if_true] at h
    split at h
    ·rename_i e
     split at h
     ·rename_i r' e1
      split at h
      ·rename_i e2
       refine ⟨_,h,fun K hK=>?_⟩
       rw [aAm] at hK
       have hq:=hp _ _ _ e1
       simp only [aAa,hv,Bool.false_eq_true,if_false]
       exact ⟨_,hq,aG9 e,bA4 e2,hK⟩
      ·cases h
     ·cases h
    ·cases h
   ·simp only [evY,ESt.setOF_eq,ESt.setOK_eq,Bool.false_eq_true,if_false,if_true] at h
    split at h
    ·rename_i e
     split at h
     ·rename_i r' e1
      split at h
      ·rename_i e2
       refine ⟨_,h,fun K hK=>?_⟩
       rw [aAm] at hK
       have hq:=hp _ _ _ e1
       simp only [aAa,aHm hl,if_true]
       exact ⟨_,hq,aG9 e,aQp _ e2,hK⟩
      ·cases h
     ·cases h
    ·cases h
 | ecall d n f args =>
   simp only [I.pl] at hl
   simp only [evY,ESt.setOF_eq,ESt.setOK_eq] at h
   obtain ⟨v,L',nx',h1,h2⟩:=he _ _ _ _ _ _ h
   refine ⟨_,h1,fun K hK=>?_⟩
   rw [aAm] at hK
   simp only [aAa,aHm hl]
   refine ECall.mono h2 ?_
   rintro r2 L2 n2 ⟨rfl,rfl,rfl⟩
   exact hK
 | clos d f caps =>
   simp only [I.pl] at hl
   simp only [evY,ESt.setOF_eq,ESt.setOK_eq] at h
   exact ⟨_,h,fun K hK=>by rw [aAm,bG1] at hK; simp only [aAa,aHm hl]; exact hK⟩
 | vcall d n x args =>
   simp only [I.pl,Bool.and_eq_true] at hl
   simp only [evY,ESt.setOF_eq,ESt.setOK_eq] at h
   split at h
   ·rename_i e
    split at h
    ·rename_i e2
     obtain ⟨v,L',nx',h1,h2⟩:=he _ _ _ _ _ _ h
     refine ⟨_,h1,fun K hK=>?_⟩
     rw [aAm] at hK
     rw [List.map_append] at h2
     simp only [aAa,aAj hl.1,aHm hl.2,e,bG1]
     refine ⟨hb _ e2,ECall.mono h2 ?_⟩
     rintro r2 L2 n2 ⟨rfl,rfl,rfl⟩
     exact hK
    ·cases h
   ·cases h
 | ldo d sz ag x =>
   simp only [I.pl] at hl
   simp only [evY,ESt.setOF_eq,ESt.setOK_eq] at h
   split at h
   ·rename_i e
    split at h
    ·rename_i e1
     split at h
     ·rename_i e2
      refine ⟨_,h,fun K hK=>?_⟩
      rw [aAm,aGk,aBg] at hK
      simp only [aAa,aAj hl,e,V.cz,aHk,aC2 e1,Blk.cz,List.length_map]
      exact ⟨e2.1,e2.2,hK⟩
     ·cases h
    ·cases h
   ·cases h
 | apq d ty sz x y =>
   simp only [I.pl,Bool.and_eq_true] at hl
   simp only [evY,ESt.putK_eq,ESt.setK_eq,aDb] at h
   split at h
   ·rename_i id sz' off n sz2 ys e e'
    split at h
    ·rename_i e1
     split at h
     ·rename_i e2
      refine ⟨_,h,fun K hK=>?_⟩
      rw [aB5,aB6,aB6,Option.map_some,Option.map_none,Blk.cz,List.map_append,aBg] at hK
      simp only [aAa,aAj hl.1,aAj hl.2,e,e',V.cz,aCt,aHk,aC2 e1,Blk.cz,List.length_map]
      exact ⟨e2.1,e2.2.1,e2.2.2.1,e2.2.2.2.1,e2.2.2.2.2,hK⟩
     ·cases h
    ·cases h
   ·cases h
 | s2b n ty x =>
   simp only [I.pl] at hl
   simp only [evY,ESt.putK_eq,ESt.setK_eq,aDb] at h
   split at h
   ·rename_i t e
    refine ⟨_,h,fun K hK=>?_⟩
    rw [aB5,aB6,Option.map_some,Blk.cz,aOt] at hK
    simp only [aAa,aAj hl,e,V.cz]
    exact hK
   ·cases h
 | b2s d x =>
   simp only [I.pl] at hl
   simp only [evY,ESt.setOF_eq,ESt.setOK_eq] at h
   split at h
   ·rename_i e
    split at h
    ·rename_i ys e1
     split at h
     ·rename_i bs e2
      refine ⟨_,h,fun K hK=>?_⟩
      rw [aAm] at hK
      simp only [aAa,aAj hl,aHk]
      refine ⟨?_,aI1 e1 ⟨bs,by rw [bEh e2,aOt],hK⟩⟩
      generalize s.ev x=v at e
      cases v <;> first | exact trivial | cases e
     ·cases h
    ·cases h
   ·cases h
 | mx d isMax x y =>
   simp only [I.pl,Bool.and_eq_true] at hl
   simp only [evY,ESt.setOF_eq,ESt.setOK_eq] at h
   split at h
   ·rename_i e1 e2
    split at h
    ·rename_i e
     exact ⟨_,h,fun K hK=>by rw [aAm] at hK; simp only [aAa,aAj hl.1,aAj hl.2,e1,e2,V.cz]; exact ⟨e,hK⟩⟩
    ·cases h
   ·cases h
 | ptreq d neg x y =>
   simp only [I.pl,Bool.and_eq_true] at hl
   simp only [evY,ESt.setOF_eq,ESt.setOK_eq] at h
   split at h
   ·rename_i e1 e2
    split at h
    ·rename_i e
     exact ⟨_,h,fun K hK=>by rw [aAm] at hK; simp only [aAa,aAj hl.1,aAj hl.2,e1,e2,V.cz]; exact ⟨e.1,e.2,hK⟩⟩
    ·cases h
   ·cases h
 | _=>cases hl
end Go.Ab
namespace Go.Ab
def evYs {R:Type} (Q:SyQ) (pc:Pc) (ec:Ec R) (bd:Nat→Bool):List I→ESt→(ESt→Option R)→Option R
 | [],s,k=>k s
 | i::r,s,k=>evY Q pc ec bd i s fun s=>evYs Q pc ec bd r s k
def bHa {R:Type} (Q:SyQ) (pc:Pc) (ec:Ec R) (bd:Nat→Bool) (x:Grp) (s:ESt) (k:ESt→Option R):Option R :=
 match x.g with
 | none=>evYs Q pc ec bd x.l s k
 | some (t,w)=>match (s.env.get t).getD .junk with
   | .bool b=>if b=w then s.setK t (.bool w) fun s=>evYs Q pc ec bd x.l s k else s.setK t (.bool !w) fun s=>aOg x.l s k
   | .tup []=>aOg x.l s k
   | _=>none
def bGh {R:Type} (Q:SyQ) (pc:Pc) (ec:Ec R) (bd:Nat→Bool):List Grp→ESt→(ESt→Option R)→Option R
 | [],s,k=>k s
 | x::r,s,k=>bHa Q pc ec bd x s fun s=>bGh Q pc ec bd r s k
theorem aMb {σ:Sy}:∀ (l:List I) (s:St),(aEv l s).cz σ=aEv l (s.cz σ)
 | [],s=>rfl
 | i::r,s=>by simp only [aEv]; rw [aMb r,bAb]; rfl
def C.pl:C→Bool
 | .ops _ l=>l.all fun g=>g.l.all I.pl
 | .seq a b=>a.pl&&b.pl
 | .seqc a b=>a.pl&&b.pl
 | .cond x a b=>x.pl&&(a.pl&&b.pl)
 | .block _ a=>a.pl
 | .loop a=>a.pl
 | .gh _ a=>a.pl
 | .gha _ a=>a.pl
 | _=>true
section
variable {P:Program} {σ:Sy} {Q:SyQ} {R:Type} {pc:Pc} {ec:Ec R} {bd:Nat→Bool}
theorem aRt (HQ:SyOk Q σ) (hp:aRi P σ pc) (he:aWa P σ ec) (hb:∀ f,bd f=true→aBp P f=true):∀ {l:List I} {s:ESt} {k:ESt→Option R} {r:R},l.all I.pl=true→evYs Q pc ec bd l s k=some r→∃ s',k s'=some r∧∀ K:St→Prop,K (s'.to.cz σ)→aJz P l (s.to.cz σ) K
 | [],s,k,r,hl,h=>⟨s,h,fun K hK=>hK⟩
 | i::l,s,k,r,hl,h=>by
   simp only [List.all_cons,Bool.and_eq_true] at hl
   obtain ⟨s1,h1,q1⟩:=bJb HQ hp he hb hl.1 h
   obtain ⟨s2,h2,q2⟩:=aRt HQ hp he hb hl.2 h1
   exact ⟨s2,h2,fun K hK=>q1 _ (q2 K hK)⟩
theorem bC7 (HQ:SyOk Q σ) (hp:aRi P σ pc) (he:aWa P σ ec) (hb:∀ f,bd f=true→aBp P f=true) {x:Grp} {s:ESt} {k:ESt→Option R} {r:R} (hl:x.l.all I.pl=true) (h:bHa Q pc ec bd x s k=some r):∃ s',k s'=some r∧∀ K:St→Prop,K (s'.to.cz σ)→grun P x (s.to.cz σ) K:=by
 unfold bHa at h
 unfold grun
 split at h
 ·rename_i e
  simp only [e]
  exact aRt HQ hp he hb hl h
 ·rename_i t w e
  simp only [e,show (s.to.cz σ).env t=((s.env.get t).getD .junk).cz σ from rfl]
  split at h
  ·rename_i b eb
   simp only [eb,V.cz]
   simp only [ESt.setK_eq,aJh] at h
   split at h
   ·rename_i ew
    subst ew
    obtain ⟨s1,h1,q1⟩:=aRt HQ hp he hb hl h
    refine ⟨s1,h1,fun K hK=>⟨fun _=>?_,fun e=>absurd e (by cases b <;> simp)⟩⟩
    have:=q1 K hK
    rwa [aB5] at this
   ·rename_i ew
    refine ⟨_,h,fun K hK=>⟨fun e=>absurd e ew,fun _=>?_⟩⟩
    rwa [aJf,ESt.to_set,aMb,aX2] at hK
  ·rename_i eb
   simp only [eb,V.cz,V.czL]
   simp only [aJh] at h
   refine ⟨_,h,fun K hK=>?_⟩
   rwa [aJf,aMb] at hK
  ·cases h
theorem aSo (HQ:SyOk Q σ) (hp:aRi P σ pc) (he:aWa P σ ec) (hb:∀ f,bd f=true→aBp P f=true):∀ {l:List Grp} {s:ESt} {k:ESt→Option R} {r:R},(l.all fun g=>g.l.all I.pl)=true→bGh Q pc ec bd l s k=some r→∃ s',k s'=some r∧∀ K:St→Prop,K (s'.to.cz σ)→aYo P l (s.to.cz σ) K
 | [],s,k,r,hl,h=>⟨s,h,fun K hK=>hK⟩
 | i::l,s,k,r,hl,h=>by
   simp only [List.all_cons,Bool.and_eq_true] at hl
   obtain ⟨s1,h1,q1⟩:=bC7 HQ hp he hb hl.1 h
   obtain ⟨s2,h2,q2⟩:=aSo HQ hp he hb hl.2 h1
   exact ⟨s2,h2,fun K hK=>q1 _ (q2 K hK)⟩
end
theorem aMp {σ:Sy}:∀ {rs:List RV} {s:ESt} {vs:List V},resE rs s=some vs→∀ K:List V→Prop,K (vs.map (V.cz σ))→resP rs (s.to.cz σ) K
 | [],s,vs,h,K,hK=>by simp only [resE,Option.some.injEq] at h; subst h; exact hK
 | (t,none)::r,s,vs,h,K,hK=>by
   simp only [resE] at h
   split at h
   ·rename_i e
    simp only [Option.some.injEq] at h
    subst h
    exact aMp e _ hK
   ·cases h
 | (t,some (sz,ag))::r,s,vs,h,K,hK=>by
   simp only [resE] at h
   simp only [resP,show (s.to.cz σ).env t=((s.env.get t).getD .junk).cz σ from rfl]
   split at h
   ·rename_i e
    simp only [e,V.cz,aHk]
    split at h
    ·rename_i e1
     simp only [aC2 e1,Blk.cz,List.length_map]
     split at h
     ·rename_i e2
      split at h
      ·rename_i e3
       simp only [Option.some.injEq] at h
       subst h
       rw [List.map_cons,aGk,aBg] at hK
       exact ⟨e2,aMp e3 _ hK⟩
      ·cases h
     ·cases h
    ·cases h
   ·cases h
theorem bEc {σ:Sy} (vs:List V):(one vs).cz σ=one (vs.map (V.cz σ)):=by
 match vs with
 | []=>rfl
 | [v]=>rfl
 | a::b::r=>exact aSy _
theorem aO0 {σ:Sy} (l:List V) (L:Tr Blk) (nx:Nat):((⟨aIo l 0 .leaf,L,nx⟩:ESt).to).cz σ=.enter (l.map (V.cz σ)) (czH σ L.get) nx:=by
 rw [aXs]
 unfold St.enter St.cz
 congr
 funext i
 simp only
 rw [aJ6]
def aYr {R:Type} (tab:Nat→Option Ent) (eb:Eb) (rn:Nat→C→ESt→(X→ESt→Option R)→Option R):Ec R:=fun f args L nx k =>
 match tab f with
 | some e=>if args.length≤e.n then aO2 args 0 .leaf fun t=>rn e.n e.c ⟨t,L,nx⟩ fun x s=>(match x with
  | .exit _=>none
  | _=>match resE e.rs s with
    | some vs=>if nx≤s.nx then k (one vs) s.L s.nx else none
    | none=>none) else none
 | none=>match eb f args L nx with
   | some (v,L',nx')=>k v L' nx'
   | none=>none
def aOx (tab:Nat→Option Ent) (pb:Pc) (rn:Nat→C→ESt→(X→ESt→Option V)→Option V):Pc:=fun f args =>
 match pb f args with
 | some r=>some r
 | none=>match tab f with
   | some e=>if args.length≤e.n then aO2 args 0 .leaf fun t=>rn e.n e.c ⟨t,.leaf,0⟩ fun x s=>(match x with
    | .exit _=>none
    | _=>match resE e.rs s with
      | some vs=>if (view s.L.get 9 (one vs)).immY=true then some (view s.L.get 9 (one vs)) else none
      | none=>none) else none
   | none=>none
def ghY {R:Type} (g:Gh) (s:ESt) (k:ESt→Option R):Option R:=match g with
 | .frzb d=>match (s.env.get d).getD .junk with
   | .ptr id o=>if o=0 then (match s.L.get id with
     | some (.box _ cs)=>if V.immsY cs=true then s.putK id none fun s=>s.setK d (.cptr cs) k else none
     | _=>none) else none
   | _=>none
 | .frz d=>match (s.env.get d).getD .junk with
   | .own id sz off n=>match s.L.get id with
     | some (.vec _ _ es)=>if V.immsY es=true∧off+n≤es.length then s.putK id none fun s=>s.setK d (.lst sz ((es.drop off).take n)) k else none
     | _=>none
   | _=>none
 | _=>none
theorem bE6 {σ:Sy} {R:Type} {g:Gh} {s:ESt} {k:ESt→Option R} {r:R} (h:ghY g s k=some r):∃ s',k s'=some r∧∀ K:St→Prop,K (s'.to.cz σ)→aBl g (s.to.cz σ) K:=by
 cases g with
 | frzb d =>
   simp only [ghY,ESt.putK_eq,ESt.setK_eq] at h
   split at h
   ·rename_i id o e
    split at h
    ·rename_i e0
     subst e0
     split at h
     ·rename_i e1
      split at h
      ·rename_i e2
       refine ⟨_,h,fun K hK=>?_⟩
       rw [aB5,aB6,Option.map_none,aGt] at hK
       simp only [aBl,show (s.to.cz σ).env d=((s.env.get d).getD .junk).cz σ from rfl,e,V.cz,aHk,aC2 e1,Blk.cz]
       exact ⟨aG9 e2,hK⟩
      ·cases h
     ·cases h
    ·cases h
   ·cases h
 | frz d =>
   simp only [ghY,ESt.putK_eq,ESt.setK_eq] at h
   split at h
   ·rename_i id sz off n e
    split at h
    ·rename_i e1
     split at h
     ·rename_i e2
      refine ⟨_,h,fun K hK=>?_⟩
      rw [aB5,aB6,Option.map_none,aGb,aBg] at hK
      simp only [aBl,show (s.to.cz σ).env d=((s.env.get d).getD .junk).cz σ from rfl,e,V.cz,aHk,aC2 e1,Blk.cz,List.length_map]
      exact ⟨aG9 e2.1,e2.2,hK⟩
     ·cases h
    ·cases h
   ·cases h
 | _=>cases h
def runY (Q:SyQ) (tab:Nat→Option Ent) (pb:Pc) (eb:Eb):Nat→(R:Type)→Nat→C→ESt→(X→ESt→Option R)→Option R
 | 0,_,_,_,_,_=>none
 | fu+1,R,n,c,s,k=>match c with
   | .skip=>k .norm s
   | .bad=>none
   | .ops _ l=>bGh Q (aOx tab pb (runY Q tab pb eb fu V)) (aYr tab eb (runY Q tab pb eb fu R)) (bdOf tab) l s fun s=>aE7 (s.nx+n) fun m=>k .norm ⟨s.env,s.L,m⟩
   | .seq a b=>runY Q tab pb eb fu R n a s fun x s=>(match x with
     | .norm=>runY Q tab pb eb fu R n b s k
     | .exit m=>k (.exit m) s
     | .ret=>k .ret s)
   | .seqc a b=>runY Q tab pb eb fu R n a s fun x s=>(match x with
     | .norm=>runY Q tab pb eb fu R n b s k
     | .exit m=>k (.exit m) s
     | .ret=>k .ret s)
   | .cond x a b=>bIl x (s.ev x) s (fun s=>runY Q tab pb eb fu R n a s k) (fun s=>runY Q tab pb eb fu R n b s k)
   | .block id a=>runY Q tab pb eb fu R n a s fun x s=>(match x with
     | .norm=>k .norm s
     | .exit m=>if m=id then k .norm s else k (.exit m) s
     | .ret=>k .ret s)
   | .loop a=>runY Q tab pb eb fu R n a s fun x s=>(match x with
     | .norm=>runY Q tab pb eb fu R n (.loop a) s k
     | .exit m=>k (.exit m) s
     | .ret=>k .ret s)
   | .exit id=>k (.exit id) s
   | .ret=>k .ret s
   | .gh g a=>ghY g s fun s=>runY Q tab pb eb fu R n a s k
   | .gha g a=>runY Q tab pb eb fu R n a s fun x s=>(match x with
     | .norm=>ghY g s (k .norm)
     | .exit m=>k (.exit m) s
     | .ret=>k .ret s)
structure TabOkY (P:Program) (σ:Sy) (tab:Nat→Option Ent) (pb:Pc) (eb:Eb):Prop where
 fn:∀ f e,tab f=some e→Fn P f e.n e.rs e.c
 clo:∀ f e,tab f=some e→e.clo=true→aBp P f=true
 pl:∀ f e,tab f=some e→e.c.pl=true
 pb:aRi P σ pb
 eb:∀ f as L nx v L' nx',eb f as L nx=some (v,L',nx')→ECall P f (as.map (V.cz σ)) (czH σ L.get) nx fun v2 L2 n2=>v2=v.cz σ∧L2=czH σ L'.get∧n2=nx'
def bAp (P:Program) (σ:Sy) (rn:(R:Type)→Nat→C→ESt→(X→ESt→Option R)→Option R):Prop :=
 ∀ (R:Type) (n:Nat) (c:C) (s:ESt) (k:X→ESt→Option R) (r:R),c.pl=true→rn R n c s k=some r→∃ x s',k x s'=some r∧∀ K:X→St→Prop,K x (s'.to.cz σ)→awp P n c K (s.to.cz σ)
section
variable {P:Program} {σ:Sy} {Q:SyQ} {tab:Nat→Option Ent} {pb:Pc} {eb:Eb}
theorem aX6 (H:TabOkY P σ tab pb eb) {rn:(R:Type)→Nat→C→ESt→(X→ESt→Option R)→Option R} (hr:bAp P σ rn) (R:Type):aWa P σ (aYr tab eb (rn R)):=by
 intro f as L nx k r h
 unfold aYr at h
 split at h
 ·rename_i e et
  split at h
  ·rename_i hl
   rw [aKi] at h
   obtain ⟨x,s',h1,h2⟩:=hr _ _ _ _ _ _ (H.pl f e et) h
   rw [aO0] at h2
   split at h1
   ·cases h1
   ·rename_i hx
    split at h1
    ·rename_i vs er
     split at h1
     ·rename_i hn
      refine ⟨_,_,_,h1,aIy (H.fn f e et) (by rw [List.length_map]; exact hl) (h2 _ ?_)⟩
      have hq:=aMp (σ:=σ) er (fun vs'=>nx≤(s'.to.cz σ).nx∧(one vs'=(one vs).cz σ∧(s'.to.cz σ).L=czH σ s'.L.get∧(s'.to.cz σ).nx=s'.nx)) ⟨hn,(bEc vs).symm,rfl,rfl⟩
      cases x with
      | exit m=>exact absurd rfl (hx m)
      | norm=>exact hq
      | ret=>exact hq
     ·cases h1
    ·cases h1
  ·cases h
 ·split at h
  ·rename_i e
   exact ⟨_,_,_,h,H.eb _ _ _ _ _ _ _ e⟩
  ·cases h
theorem aOw (H:TabOkY P σ tab pb eb) {rn:(R:Type)→Nat→C→ESt→(X→ESt→Option R)→Option R} (hr:bAp P σ rn):aRi P σ (aOx tab pb (rn V)):=by
 intro f as r h
 unfold aOx at h
 split at h
 ·rename_i e
  cases h
  exact H.pb _ _ _ e
 ·split at h
  ·rename_i e et
   split at h
   ·rename_i hl
    rw [aKi] at h
    obtain ⟨x,s',h1,h2⟩:=hr _ _ _ _ _ _ (H.pl f e et) h
    rw [aO0] at h2
    split at h1
    ·cases h1
    ·rename_i hx
     split at h1
     ·rename_i vs er
      split at h1
      ·rename_i hi
       cases h1
       refine bGk 9 (H.fn f e et) (by rw [List.length_map]; exact hl) (aQp _ hi) (h2 _ ?_)
       have hq:=aMp (σ:=σ) er (fun vs'=>view (s'.to.cz σ).L 9 (one vs')=(view s'.L.get 9 (one vs)).cz σ) (by rw [aRh,bEc]; rfl)
       cases x with
       | exit m=>exact absurd rfl (hx m)
       | norm=>exact hq
       | ret=>exact hq
      ·cases h1
     ·cases h1
   ·cases h
  ·cases h
theorem bDd (HQ:SyOk Q σ) (H:TabOkY P σ tab pb eb):∀ fu,bAp P σ (runY Q tab pb eb fu)∧(∀ (R:Type) (n:Nat) (a:C) (s:ESt) (k:X→ESt→Option R) (r:R),a.pl=true→runY Q tab pb eb fu R n (.loop a) s k=some r→∃ x s' m,x≠.norm∧k x s'=some r∧JJ P n a x (s'.to.cz σ) m (s.to.cz σ)):=by
 intro fu
 induction fu with
 | zero=>exact ⟨fun R n c s k r hl h=>(by cases h),fun R n a s k r hl h=>(by cases h)⟩
 | succ fu ih =>
   obtain ⟨ih,ihl⟩:=ih
   have key:∀ (R:Type) (n:Nat) (a:C) (s:ESt) (k:X→ESt→Option R) (r:R),a.pl=true→runY Q tab pb eb (fu+1) R n (.loop a) s k=some r→∃ x s' m,x≠.norm∧k x s'=some r∧JJ P n a x (s'.to.cz σ) m (s.to.cz σ):=by
    intro R n a s k r hl h
    rw [runY] at h
    obtain ⟨x,s1,h1,h2⟩:=ih _ _ _ _ _ _ hl h
    cases x with
    | norm =>
      obtain ⟨x,s',m,q1,q2,q3⟩:=ihl _ _ _ _ _ _ hl h1
      exact ⟨x,s',m+1,q1,q2,(s1.to.cz σ),h2,q3⟩
    | exit id=>exact ⟨_,s1,0,by simp,h1,h2⟩
    | ret=>exact ⟨_,s1,0,by simp,h1,h2⟩
   refine ⟨fun R n c s k r hl h=>?_,key⟩
   cases c with
   | skip=>rw [runY] at h; exact ⟨_,_,h,fun K hK=>hK⟩
   | bad=>rw [runY] at h; cases h
   | ops d l =>
     rw [runY] at h
     obtain ⟨s',h1,h2⟩:=aSo HQ (aOw H ih) (aX6 H ih R) (fun f hf=>by
      unfold bdOf at hf
      split at hf
      ·rename_i e; exact H.clo _ _ e hf
      ·cases hf) hl h
     rw [aKd] at h1
     exact ⟨_,_,h1,fun K hK=>h2 _ hK⟩
   | seq a b =>
     simp only [C.pl,Bool.and_eq_true] at hl
     rw [runY] at h
     obtain ⟨x,s1,h1,h2⟩:=ih _ _ _ _ _ _ hl.1 h
     cases x with
     | norm =>
       obtain ⟨x,s',q1,q2⟩:=ih _ _ _ _ _ _ hl.2 h1
       exact ⟨x,s',q1,fun K hK=>h2 _ (q2 K hK)⟩
     | exit id=>exact ⟨_,s1,h1,fun K hK=>h2 _ hK⟩
     | ret=>exact ⟨_,s1,h1,fun K hK=>h2 _ hK⟩
   | seqc a b =>
     simp only [C.pl,Bool.and_eq_true] at hl
     rw [runY] at h
     obtain ⟨x,s1,h1,h2⟩:=ih _ _ _ _ _ _ hl.1 h
     cases x with
     | norm =>
       obtain ⟨x,s',q1,q2⟩:=ih _ _ _ _ _ _ hl.2 h1
       exact ⟨x,s',q1,fun K hK=>⟨fun st=>st=(s1.to.cz σ),h2 _ rfl,fun st e=>by subst e; exact q2 K hK⟩⟩
     | exit id=>exact ⟨_,s1,h1,fun K hK=>⟨fun _=>False,h2 _ hK,fun _ h=>h.elim⟩⟩
     | ret=>exact ⟨_,s1,h1,fun K hK=>⟨fun _=>False,h2 _ hK,fun _ h=>h.elim⟩⟩
   | cond y a b =>
     simp only [C.pl,Bool.and_eq_true] at hl
     rw [runY] at h
     unfold bIl at h
     split at h
     ·rename_i m e
      rw [ESt.setK_eq] at h
      obtain ⟨x,s',h1,h2⟩:=ih _ _ _ _ _ _ hl.2.1 h
      refine ⟨x,s',h1,fun K hK=>?_⟩
      have:=h2 K hK
      rw [aB5] at this
      simp only [awp,aAj hl.1,e,V.cz]
      exact ⟨fun _=>this,fun h=>by cases h⟩
     ·rename_i m e
      rw [ESt.setK_eq] at h
      obtain ⟨x,s',h1,h2⟩:=ih _ _ _ _ _ _ hl.2.2 h
      refine ⟨x,s',h1,fun K hK=>?_⟩
      have:=h2 K hK
      rw [aB5] at this
      simp only [awp,aAj hl.1,e,V.cz]
      exact ⟨fun h=>(by cases h),fun _=>this⟩
     ·rename_i v e
      obtain ⟨x,s',h1,h2⟩:=ih _ _ _ _ _ _ hl.2.1 h
      refine ⟨x,s',h1,fun K hK=>?_⟩
      simp only [awp,aAj hl.1,e,V.cz,if_true]
      exact h2 K hK
     ·rename_i v e
      obtain ⟨x,s',h1,h2⟩:=ih _ _ _ _ _ _ hl.2.2 h
      refine ⟨x,s',h1,fun K hK=>?_⟩
      simp only [awp,aAj hl.1,e,V.cz,Bool.false_eq_true,if_false]
      exact h2 K hK
     ·cases h
   | block id a =>
     simp only [C.pl] at hl
     rw [runY] at h
     obtain ⟨x,s1,h1,h2⟩:=ih _ _ _ _ _ _ hl h
     cases x with
     | norm=>exact ⟨_,s1,h1,fun K hK=>h2 _ hK⟩
     | exit m =>
       simp only at h1
       split at h1
       ·rename_i e
        exact ⟨_,s1,h1,fun K hK=>h2 _ (by simp only [blkK,e,if_true]; exact hK)⟩
       ·rename_i e
        exact ⟨_,s1,h1,fun K hK=>h2 _ (by simp only [blkK,e,if_false]; exact hK)⟩
     | ret=>exact ⟨_,s1,h1,fun K hK=>h2 _ hK⟩
   | loop a =>
     obtain ⟨x,s',m,q1,q2,q3⟩:=key _ _ _ _ _ _ (by simpa only [C.pl] using hl) h
     exact ⟨x,s',q2,fun K hK=>bFq q1 q3 K hK⟩
   | exit id=>rw [runY] at h; exact ⟨_,_,h,fun K hK=>hK⟩
   | ret=>rw [runY] at h; exact ⟨_,_,h,fun K hK=>hK⟩
   | gh g a =>
     simp only [C.pl] at hl
     rw [runY] at h
     obtain ⟨s1,h1,h2⟩:=bE6 (σ:=σ) h
     obtain ⟨x,s',q1,q2⟩:=ih _ _ _ _ _ _ hl h1
     exact ⟨x,s',q1,fun K hK=>h2 _ (q2 K hK)⟩
   | gha g a =>
     simp only [C.pl] at hl
     rw [runY] at h
     obtain ⟨x,s1,h1,h2⟩:=ih _ _ _ _ _ _ hl h
     cases x with
     | norm =>
       obtain ⟨s2,q1,q2⟩:=bE6 (σ:=σ) h1
       exact ⟨_,s2,q1,fun K hK=>h2 _ (q2 _ hK)⟩
     | exit m=>exact ⟨_,s1,h1,fun K hK=>h2 _ hK⟩
     | ret=>exact ⟨_,s1,h1,fun K hK=>h2 _ hK⟩
theorem bDc (HQ:SyOk Q σ) (H:TabOkY P σ tab pb eb) (fu:Nat) {f:Nat} {args:List V} {r:V} (h:aOx tab pb (runY Q tab pb eb fu V) f args=some r):PTr P f (args.map (V.cz σ)) (r.cz σ):=aOw H (bDd HQ H fu).1 _ _ _ h
end
end Go.Ab
