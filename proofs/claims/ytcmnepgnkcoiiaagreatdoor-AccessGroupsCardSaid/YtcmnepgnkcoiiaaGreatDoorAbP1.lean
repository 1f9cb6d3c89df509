/- Several texts of one kind, merged. No condition. -/
import Derived.Test.YtcmnepgnkcoiiaaGreatDoorAbK2
set_option linter.unusedSimpArgs false
set_option linter.unusedVariables false
namespace Go.Ab
def nowikiO:List UInt8:=[60,110,111,119,105,107,105,62]
def nowikiC:List UInt8:=[60,47,110,111,119,105,107,105,62]
def tagO (t:Nat):List UInt8:=[60]++tagName t++[62]
def tagC (t:Nat):List UInt8:=[60,47]++tagName t++[62]
def runL (c:UInt8):List UInt8→Nat
 | []=>0
 | x::r=>if x=c then runL c r+1 else 0
def idxF (t:List UInt8):List UInt8→Nat→Option Nat
 | [],i=>if t=[] then some i else none
 | x::r,i=>if t.isPrefixOf (x::r) then some i else idxF t r (i+1)
def tagAt (o:Nat→List UInt8) (s:List UInt8):Nat :=
 if (o 1).isPrefixOf s then 1 else if (o 2).isPrefixOf s then 2 else if (o 3).isPrefixOf s then 3 else 0
def tagTok (s:List UInt8):Nat×Nat :=
 if tagAt tagO s≠0 then (11,(tagO (tagAt tagO s)).length) else if tagAt tagC s≠0 then (12,(tagC (tagAt tagC s)).length) else (0,0)
def angleF (s:List UInt8):Nat×Nat :=
 if [60,33,45,45].isPrefixOf s then
  match idxF [45,45,62] (s.drop 4) 0 with
  | some k=>(9,4+k+3)
  | none=>(9,s.length)
 else if nowikiO.isPrefixOf s then
  match idxF nowikiC (s.drop 8) 0 with
  | some k=>(10,8+k+9)
  | none=>tagTok s
 else tagTok s
def firstF (s:List UInt8):Nat×Nat :=
 match s with
 | []=>(0,0)
 | c::_ =>
   if c=60 then angleF s
   else if c=123 then (if 2≤runL 123 s then (3,runL 123 s) else (0,0))
   else if c=125 then (if 2≤runL 125 s then (4,runL 125 s) else (0,0))
   else if c=91 then (if 2≤runL 91 s then (5,2) else (0,0))
   else if c=93 then (if 2≤runL 93 s then (6,2) else (0,0))
   else if c=124 then (7,1)
   else if c=61 then (8,1)
   else if c=10 then (2,1)
   else (0,0)
structure Tok where
 kind:Nat
 fr:Nat
 to:Nat
def scanF (s:List UInt8):Nat→Nat→Nat→List Tok
 | 0,_,_=>[]
 | n+1,t,i =>
   if i<s.length then
    if (firstF (s.drop i)).1=0 then scanF s n t (i+1)
    else (if t<i then [⟨1,t,i⟩] else [])++⟨(firstF (s.drop i)).1,i,i+(firstF (s.drop i)).2⟩::scanF s n (i+(firstF (s.drop i)).2) (i+(firstF (s.drop i)).2)
   else if t<s.length then [⟨1,t,s.length⟩] else []
def scan (s:List UInt8):List Tok:=scanF s (s.length+1) 0 0
def Tok.text (s:List UInt8) (t:Tok):List UInt8:=(s.take t.to).drop t.fr
def Tok.tag (s:List UInt8) (t:Tok):Nat:=if t.kind=11 then tagAt tagO (t.text s) else if t.kind=12 then tagAt tagC (t.text s) else 0
structure El where
 kind:Nat
 tag:Nat
 count:Nat
 list:List Node
 args:List Arg
def tx (s:List UInt8):Node:=.mk 1 0 s [] []
def Node.kind:Node→Int | .mk k _ _ _ _=>k
def Node.text:Node→List UInt8 | .mk _ _ s _ _=>s
def addN (n:Node) (l:List Node):List Node:=if n.kind=1 then (if n.text=[] then l else pushT l n.text) else l++[n]
def Arg.val:Arg→List Node | .mk _ _ v=>v
def Arg.nm:Arg→List Node | .mk _ n _=>n
def Arg.named:Arg→Bool | .mk b _ _=>b
def Arg.setVal (v:List Node):Arg→Arg | .mk b n _=>.mk b n v
def onLast (f:Arg→Arg):List Arg→List Arg
 | []=>[]
 | [a]=>[f a]
 | a::b::r=>a::onLast f (b::r)
def El.add (n:Node) (e:El):El :=
 if e.kind=3∧e.args≠[] then { e with args:=onLast (fun a=>a.setVal (addN n a.val)) e.args } else { e with list:=addN n e.list }
def addS (n:Node):List El→List El
 | []=>[]
 | e::r=>e.add n::r
def addsS (l:List Node) (st:List El):List El:=l.foldl (fun st n=>addS n st) st
def El.head (e:El):List UInt8:=if e.kind=1 then [91,91] else if e.kind=2 then tagO e.tag else if e.kind=3 then List.replicate e.count 123 else []
def Arg.pieces:Arg→List Node | .mk b n v=>tx [124]::((if b then n++[tx [61]] else [])++v)
def El.pieces (e:El):List Node:=tx e.head::(e.list++e.args.flatMap Arg.pieces)
def flat1:List El→List El
 | []=>[]
 | e::r=>addsS e.pieces r
def flatN:Nat→List El→List El
 | 0,st=>st
 | n+1,st=>flatN n (flat1 st)
def openF (e:El) (s:List UInt8) (st:List El):List El:=if 20<st.length then addS (tx s) st else e::st
def barF:List El→List El
 | []=>[]
 | e::r=>if e.kind=3 then { e with args:=e.args++[.mk false [] []] }::r else addS (tx [124]) (e::r)
def lastNamed:List Arg→Bool
 | []=>true
 | [a]=>a.named
 | _::b::r=>lastNamed (b::r)
def eqF:List El→List El
 | []=>[]
 | e::r=>if e.kind=3∧lastNamed e.args=false then { e with args:=onLast (fun a=>.mk true a.val []) e.args }::r else addS (tx [61]) (e::r)
def linkF:List El→List El
 | []=>[]
 | e::r=>if e.kind=1 then addsS (tx [91,91]::(e.list++[tx [93,93]])) r else addS (tx [93,93]) (e::r)
def tagIdx (t:Nat):List El→Option Nat
 | []=>none
 | [_]=>none
 | e::b::r=>if e.kind=2∧e.tag=t then some 0 else (tagIdx t (b::r)).map (·+1)
def tagF (t:Nat) (s:List UInt8) (st:List El):List El :=
 match tagIdx t st with
 | none=>addS (tx s) st
 | some k=>match flatN k st with
   | []=>[]
   | e::r=>addS (.mk 6 t [] e.list []) r
def braceIdx:List El→Option Nat
 | []=>none
 | [_]=>none
 | e::b::r=>if e.kind=2 then none else if e.kind=3 then some 0 else (braceIdx (b::r)).map (·+1)
def useK (c n:Nat):Nat:=if 3≤c∧3≤n then 3 else 2
def useN (c:Nat) (e:El):Node:=.mk (if useK c e.count=3 then 5 else 4) 0 [] e.list e.args
def closeF:Nat→Nat→List El→List El
 | 0,c,st=>addS (tx (List.replicate c 125)) st
 | n+1,c,st =>
   if 2≤c then match braceIdx st with
    | none=>addS (tx (List.replicate c 125)) st
    | some k=>match flatN k st with
      | []=>[]
      | e::r =>
        if 2≤e.count-useK c e.count then closeF n (c-useK c e.count) ({ e with count:=e.count-useK c e.count,list:=[useN c e],args:=[] }::r)
        else closeF n (c-useK c e.count) (addS (useN c e) (if e.count-useK c e.count=1 then addS (tx [123]) r else r))
   else addS (tx (List.replicate c 125)) st
def takeF (s:List UInt8) (t:Tok) (st:List El):List El :=
 if t.kind=9 then addS (.mk 2 0 (t.text s) [] []) st
 else if t.kind=10 then addS (.mk 3 0 (((t.text s).take ((t.text s).length-9)).drop 8) [] []) st
 else if t.kind=3 then openF ⟨3,0,(t.text s).length,[],[]⟩ (t.text s) st
 else if t.kind=5 then openF ⟨1,0,0,[],[]⟩ (t.text s) st
 else if t.kind=11 then openF ⟨2,t.tag s,0,[],[]⟩ (t.text s) st
 else if t.kind=7 then barF st
 else if t.kind=8 then eqF st
 else if t.kind=6 then linkF st
 else if t.kind=12 then tagF (t.tag s) (t.text s) st
 else if t.kind=4 then closeF (t.text s).length (t.text s).length st
 else addS (tx (t.text s)) st
def root:El:=⟨0,0,0,[],[]⟩
def runF (s:List UInt8) (l:List Tok) (st:List El):List El:=l.foldl (fun st t=>takeF s t st) st
def finF (st:List El):List Node:=match flatN (st.length-1) st with | e::_=>e.list | []=>[]
def parseF (s:List UInt8):List Node:=finF (runF s (scan s) [root])
end Go.Ab
namespace Go.Ab
def c59 (F T:Nat→Nat):C :=
 .n [.mov (some 2) (.k .nilp)] <|
 .seq (.p [.m 3 0,.nchk (some 4) (.t 3),.f 5 0 4,.l 6 5,.m 7 0,.nchk (some 8) (.t 7),.f 9 0 8,.l 10 9,.ll 11 10,.bi 12 .sub 11 1,.ia 13 1 6 12,.l 14 13,.m 2 14]) <|
 .ret
abbrev Is59 (P:Program) (F T:Nat→Nat):Prop:=Fn P (F 59) 15 [(2,none)] (c59 F T)
end Go.Ab
namespace Go.Ab
def ln (z:Nat):List V→V
 | []=>.nils
 | x::r=>.lst z (x::r)
theorem ln_cons {z:Nat} {x:V} {r:List V}:ln z (x::r)=.lst z (x::r):=rfl
theorem ln_nil {z:Nat}:ln z []=.nils:=rfl
theorem ln_ne {z:Nat} {l:List V} (h:l≠[]):ln z l=.lst z l:=by cases l with | nil=>exact absurd rfl h | cons x r=>rfl
theorem ln_snoc {z:Nat} {a:List V} {x:V}:ln z (a++[x])=.lst z (a++[x]):=ln_ne (by simp)
theorem imm_ln {z:Nat} {l:List V}:(ln z l).imm=V.imms l:=by cases l <;> simp [ln,V.imm,V.imms]
theorem one_ln {z:Nat} {l:List V}:(ln z l).one=true:=by cases l <;> rfl
theorem cells_ln {z:Nat} {l:List V}:(ln z l).cells=[ln z l]:=by cases l <;> rfl
theorem ncells_ln {z:Nat} {l:List V}:(ln z l).ncells=some 1:=by cases l <;> rfl
theorem v_len_ln {s:St} {K:St→Prop} {d:Option Nat} {z:Nat} {l:List V}:v_len d false (ln z l) s K=K (s.setO d (.int .i64 l.length)):=by
 cases l <;> simp [ln,v_len]
theorem elemsOf_ln {z:Nat} {L:Heap} {l:List V} {K:List V→Prop}:elemsOf z L (ln z l) K=K l:=by cases l <;> simp [ln,elemsOf]
theorem v_iadr_ln {s:St} {K:St→Prop} {d:Option Nat} {z:Nat} {l:List V} {k:IntKind} {n:Int}:v_iadr d z (ln z l) (.int k n) s K=(0≤n∧n.toNat<l.length∧K (s.setO d (.cptr (l.getD n.toNat .junk).cells))):=by
 cases l <;> simp [ln,v_iadr]
mutual
def Node.vs:Node→List V
 | .mk k t s ks as=>[.int .i64 k,.int .i64 t,.str s,ln 5 (vns ks),ln 3 (vas as)]
def vns:List Node→List V
 | []=>[]
 | n::r=>.agg n.vs::vns r
def Arg.vs:Arg→List V
 | .mk b n v=>[.bool b,ln 5 (vns n),ln 5 (vns v)]
def vas:List Arg→List V
 | []=>[]
 | n::r=>.agg n.vs::vas r
end
theorem vns_append (a b:List Node):vns (a++b)=vns a++vns b:=by
 induction a with
 | nil=>rfl
 | cons x r ih=>simp [vns,ih]
theorem vns_length (a:List Node):(vns a).length=a.length:=by
 induction a with
 | nil=>rfl
 | cons x r ih=>simp [vns,ih]
theorem vas_append (a b:List Arg):vas (a++b)=vas a++vas b:=by
 induction a with
 | nil=>rfl
 | cons x r ih=>simp [vas,ih]
theorem vas_length (a:List Arg):(vas a).length=a.length:=by
 induction a with
 | nil=>rfl
 | cons x r ih=>simp [vas,ih]
theorem vns_at (a:List Node) (x:Node) (r:List Node):(vns (a++x::r)).getD a.length .junk=.agg x.vs:=by
 rw [vns_append,← vns_length a,List.getD_eq_getElem?_getD,List.getElem?_append_right (Nat.le_refl _)]; simp [vns]
theorem vas_at (a:List Arg) (x:Arg) (r:List Arg):(vas (a++x::r)).getD a.length .junk=.agg x.vs:=by
 rw [vas_append,← vas_length a,List.getD_eq_getElem?_getD,List.getElem?_append_right (Nat.le_refl _)]; simp [vas]
mutual
theorem imms_vs:∀ n:Node,V.imms n.vs=true
 | .mk k t s ks as=>by simp [Node.vs,V.imms,V.imm,imm_ln,imms_vns ks,imms_vas as]
theorem imms_vns:∀ l:List Node,V.imms (vns l)=true
 | []=>by simp [vns,V.imms]
 | n::r=>by simp [vns,V.imms,V.imm,imms_vs n,imms_vns r]
theorem imms_avs:∀ n:Arg,V.imms n.vs=true
 | .mk b n v=>by simp [Arg.vs,V.imms,V.imm,imm_ln,imms_vns n,imms_vns v]
theorem imms_vas:∀ l:List Arg,V.imms (vas l)=true
 | []=>by simp [vas,V.imms]
 | n::r=>by simp [vas,V.imms,V.imm,imms_avs n,imms_vas r]
end
attribute [push_cast] ln_cons ln_nil ln_snoc imm_ln one_ln cells_ln ncells_ln v_len_ln elemsOf_ln v_iadr_ln vns_length vas_length vns_at vas_at imms_vs imms_vns imms_avs imms_vas
def tns (l:List Node):Prop:=∀ n,n∈l→n.tn
structure El.ok (e:El):Prop where
 tag:e.kind=2→1≤e.tag∧e.tag≤3
 list:tns e.list
 args:∀ a,a∈e.args→tns a.nm∧tns a.val
def lastVal:List Arg→List Node
 | []=>[]
 | [a]=>a.val
 | _::b::r=>lastVal (b::r)
def vasO (vv:V):List Arg→List V
 | []=>[]
 | [a]=>[.agg [.bool a.named,ln 5 (vns a.nm),vv]]
 | a::b::r=>.agg a.vs::vasO vv (b::r)
theorem lastVal_snoc (i:List Arg) (a:Arg):lastVal (i++[a])=a.val:=by
 induction i with
 | nil=>rfl
 | cons x r ih=>cases r with | nil=>rfl | cons y q=>simpa [lastVal] using ih
theorem vasO_snoc (vv:V) (i:List Arg) (a:Arg):vasO vv (i++[a])=vas i++[.agg [.bool a.named,ln 5 (vns a.nm),vv]]:=by
 induction i with
 | nil=>rfl
 | cons x r ih=>cases r with | nil=>simp [vasO,vas] | cons y q=>simpa [vasO,vas] using ih
theorem onLast_snoc (f:Arg→Arg) (i:List Arg) (a:Arg):onLast f (i++[a])=i++[f a]:=by
 induction i with
 | nil=>rfl
 | cons x r ih=>cases r with | nil=>rfl | cons y q=>simpa [onLast] using ih
theorem lastNamed_snoc (i:List Arg) (a:Arg):lastNamed (i++[a])=a.named:=by
 induction i with
 | nil=>rfl
 | cons x r ih=>cases r with | nil=>rfl | cons y q=>simpa [lastNamed] using ih
structure EH where
 e:El
 id:Nat
 li:Option Nat
 ai:Option Nat
 vi:Option Nat
def lvO (z len:Nat) (v:V):Option Nat→V
 | none=>v
 | some i=>.own i z 0 len
def EH.lv (h:EH):V:=lvO 5 h.e.list.length (ln 5 (vns h.e.list)) h.li
def EH.vv (h:EH):V:=lvO 5 (lastVal h.e.args).length (ln 5 (vns (lastVal h.e.args))) h.vi
def EH.av (h:EH):V:=lvO 3 h.e.args.length (ln 3 (vas h.e.args)) h.ai
def EH.cells (h:EH):List V:=[.int .i64 h.e.kind,.int .i64 h.e.tag,.int .i64 h.e.count,h.lv,h.av]
def EH.fp (h:EH):List Nat:=h.id::(h.li.toList++h.ai.toList++h.vi.toList)
structure At (T:Nat→Nat) (L:Heap) (h:EH):Prop where
 box:L h.id=some (.box (T 5) h.cells)
 li:∀ i,h.li=some i→L i=some (.vec (T 0) 5 (vns h.e.list))∧h.e.list≠[]
 ai:∀ i,h.ai=some i→L i=some (.vec (T 1) 3 (vasO h.vv h.e.args))∧h.e.args≠[]
 vi:∀ i,h.vi=some i→L i=some (.vec (T 0) 5 (vns (lastVal h.e.args)))∧lastVal h.e.args≠[]∧h.ai≠none
structure EH.live (h:EH):Prop where
 li:h.li=none→h.e.list=[]
 ai:h.ai=none→h.e.args=[]
 vi:h.vi=none→lastVal h.e.args=[]
def EH.pt (h:EH):V:=.ptr h.id 0
structure Stx (T:Nat→Nat) (z:Bool) (L:Heap) (nx:Nat) (F:List Nat) (p:Nat) (els:List El) (sid:Nat) (jk:List V) (hs:List EH):Prop where
 foot:F=p::sid::hs.flatMap EH.fp
 map:hs.map EH.e=els
 box:L p=some (.box (T 7) [.own sid 1 0 hs.length])
 stk:L sid=some (.vec (T 6) 1 (hs.reverse.map EH.pt++jk))
 at_:∀ h,h∈hs→At T L h
 live:∀ h,h∈(if z then hs.tail else hs)→h.live
 nodup:F.Nodup
 lt:∀ i,i∈F→i<nx
 ok:∀ e,e∈els→e.ok
def Stk (T:Nat→Nat) (z:Bool) (L:Heap) (nx:Nat) (F:List Nat) (p:Nat) (els:List El):Prop:=∃ sid jk hs,Stx T z L nx F p els sid jk hs
structure Stp (L:Heap) (nx:Nat) (F:List Nat) (L':Heap) (nx':Nat) (F':List Nat):Prop where
 le:nx≤nx'
 sub:∀ i,i∈F'→i∈F∨nx≤i
 fr:∀ i ty cs,i<nx→i∉F→L i=some (.box ty cs)→V.imms cs=true→L' i=some (.box ty cs)
theorem Stp.refl (L:Heap) (nx:Nat) (F:List Nat):Stp L nx F L nx F:=⟨Nat.le_refl _,fun i h=>.inl h,fun i ty cs _ _ h _=>h⟩
theorem Stp.trans {L L' L'':Heap} {nx nx' nx'':Nat} {F F' F'':List Nat} (h:Stp L nx F L' nx' F') (k:Stp L' nx' F' L'' nx'' F''):Stp L nx F L'' nx'' F'' :=
 ⟨Nat.le_trans h.le k.le,fun i hi=>(k.sub i hi).elim (h.sub i) fun hh=>.inr (Nat.le_trans h.le hh),fun i ty cs h1 h2 h3 h4=>k.fr i ty cs (Nat.lt_of_lt_of_le h1 h.le) (fun hi=>(h.sub i hi).elim h2 fun hh=>absurd h1 (Nat.not_lt.2 hh)) (h.fr i ty cs h1 h2 h3 h4) h4⟩
theorem Stp.grow {L L':Heap} {nx nx':Nat} {F:List Nat} (hle:nx≤nx') (h:∀ i,i<nx→L' i=L i):Stp L nx F L' nx' F:=⟨hle,fun i hi=>.inl hi,fun i ty cs h1 _ h3 _=>by rw [h i h1]; exact h3⟩
theorem At.frame {T:Nat→Nat} {L L':Heap} {h:EH} (ha:At T L h) (hf:∀ i,i∈h.fp→L' i=L i):At T L' h :=
 ⟨by rw [hf _ (by simp [EH.fp])]; exact ha.box,fun i hi=>by rw [hf _ (by simp [EH.fp,hi])]; exact ha.li i hi,fun i hi=>by rw [hf _ (by simp [EH.fp,hi])]; exact ha.ai i hi,fun i hi=>by rw [hf _ (by simp [EH.fp,hi])]; exact ha.vi i hi⟩
theorem Stx.grow {T:Nat→Nat} {z:Bool} {L:Heap} {nx nx':Nat} {F:List Nat} {p:Nat} {els:List El} {sid:Nat} {jk:List V} {hs:List EH} (h:Stx T z L nx F p els sid jk hs) (hle:nx≤nx'):Stx T z L nx' F p els sid jk hs :=
 ⟨h.foot,h.map,h.box,h.stk,h.at_,h.live,h.nodup,fun i hi=>Nat.lt_of_lt_of_le (h.lt i hi) hle,h.ok⟩
theorem Stk.grow {T:Nat→Nat} {z:Bool} {L L':Heap} {nx nx':Nat} {F:List Nat} {p:Nat} {els:List El} (h:Stk T z L nx F p els) (hle:nx≤nx') (hL:∀ i,i<nx→L' i=L i):Stk T z L' nx' F p els:=by
 obtain ⟨sid,jk,hs,h⟩:=h
 have hF:=h.foot
 have e:∀ i,i∈F→L' i=L i:=fun i hi=>hL i (h.lt i hi)
 refine ⟨sid,jk,hs,h.foot,h.map,?_,?_,fun x hx=>(h.at_ x hx).frame fun i hi=>e i ?_,h.live,h.nodup,fun i hi=>Nat.lt_of_lt_of_le (h.lt i hi) hle,h.ok⟩
 ·rw [e p (by rw [hF]; simp)]; exact h.box
 ·rw [e sid (by rw [hF]; simp)]; exact h.stk
 ·rw [hF]; exact List.mem_cons_of_mem _ (List.mem_cons_of_mem _ (List.mem_flatMap.2 ⟨x,hx,hi⟩))
def V.keep:V→Bool
 | .ptr _ _ | .eptr _ _ _=>true
 | v=>v.imm
theorem lvO_fz {z len id:Nat} {es:List V} {v:V} {o:Option Nat} (hv:v.imm=true) (ho:∀ i,o=some i→i≠id):(lvO z len v o).fz id es=lvO z len v o:=by
 cases o with
 | none=>exact fz_imm _ _ _ hv
 | some i=>simp [lvO,V.fz,ho i rfl]
theorem vasO_fzL {vv:V} {id:Nat} {es:List V} (l:List Arg):V.fzL id es (vasO vv l)=vasO (vv.fz id es) l:=by
 rcases List.eq_nil_or_concat l with rfl | ⟨i,a,rfl⟩
 ·rfl
 ·rw [List.concat_eq_append,vasO_snoc,vasO_snoc,fzL_map,List.map_append,← fzL_map,fzL_imm _ _ _ (imms_vas i)]
  simp [V.fz,V.fzL,fz_imm _ _ _ (show (ln 5 (vns a.nm)).imm=true by simp [imm_ln,imms_vns])]
theorem At.fz {T:Nat→Nat} {L:Heap} {h:EH} {id:Nat} {es:List V} (ha:At T L h) (hi:id∉h.fp):At T (fzHeap id es L) h:=by
 have ne:∀ i,i∈h.fp→i≠id:=fun i h1 e=>hi (e ▸ h1)
 have nl:∀ i,h.li=some i→i≠id:=fun i e=>ne i (by simp [EH.fp,e])
 have na:∀ i,h.ai=some i→i≠id:=fun i e=>ne i (by simp [EH.fp,e])
 have nv:∀ i,h.vi=some i→i≠id:=fun i e=>ne i (by simp [EH.fp,e])
 have i1:(ln 5 (vns h.e.list)).imm=true:=by simp [imm_ln,imms_vns]
 have i2:(ln 3 (vas h.e.args)).imm=true:=by simp [imm_ln,imms_vas]
 have i3:(ln 5 (vns (lastVal h.e.args))).imm=true:=by simp [imm_ln,imms_vns]
 refine ⟨?_,fun i hh=>⟨?_,(ha.li i hh).2⟩,fun i hh=>⟨?_,(ha.ai i hh).2⟩,fun i hh=>⟨?_,(ha.vi i hh).2⟩⟩
 ·simp only [fzHeap,ne _ (show h.id∈h.fp by simp [EH.fp]),if_false,ha.box,Option.map_some,Blk.fz,EH.cells,V.fzL,V.fz,EH.lv,EH.av,lvO_fz i1 nl,lvO_fz i2 na]
 ·simp only [fzHeap,nl i hh,if_false,(ha.li i hh).1,Option.map_some,Blk.fz,fzL_imm _ _ _ (imms_vns _)]
 ·simp only [fzHeap,na i hh,if_false,(ha.ai i hh).1,Option.map_some,Blk.fz,vasO_fzL,EH.vv,lvO_fz i3 nv]
 ·simp only [fzHeap,nv i hh,if_false,(ha.vi i hh).1,Option.map_some,Blk.fz,fzL_imm _ _ _ (imms_vns _)]
theorem Stx.fz {T:Nat→Nat} {z:Bool} {L:Heap} {nx:Nat} {F:List Nat} {p:Nat} {els:List El} {sid:Nat} {jk:List V} {h h':EH} {t:List EH} {id:Nat} {es:List V} (hp:Stx T z L nx F p els sid jk (h::t))
 (hid:id∈h.fp) (hat:At T (fzHeap id es L) h') (heq:h'.e=h.e) (hid':h'.id=h.id) (hsub:h'.fp.Sublist h.fp) :
 ∃ F' jk',Stx T true (fzHeap id es L) nx F' p els sid jk' (h'::t)∧Stp L nx F (fzHeap id es L) nx F':=by
 have hF:=hp.foot
 have hn:=hp.nodup
 rw [hF] at hn
 have hn':=hn
 simp only [List.flatMap_cons,List.nodup_cons,List.mem_cons,List.mem_append,not_or,List.nodup_append] at hn
 obtain ⟨⟨n1,n2,n3⟩,⟨n4,n5⟩,n6,n7,n8⟩:=hn
 have np:p≠id:=fun e=>n2 (e ▸ hid)
 have ns:sid≠id:=fun e=>n4 (e ▸ hid)
 have hss:(p::sid::(h'::t).flatMap EH.fp).Sublist F:=by
  rw [hF]
  simp only [List.flatMap_cons]
  exact ((hsub.append (List.Sublist.refl _)).cons_cons sid).cons_cons p
 refine ⟨p::sid::(h'::t).flatMap EH.fp,V.fzL id es jk,⟨rfl,?_,?_,?_,?_,?_,?_,?_,?_⟩,⟨Nat.le_refl _,?_,?_⟩⟩
 ·rw [← hp.map]; simp [heq]
 ·simp only [fzHeap,np,if_false,hp.box,Option.map_some,Blk.fz,V.fzL,V.fz,ns,false_and,List.length_cons]
 ·simp only [fzHeap,ns,if_false,hp.stk,Option.map_some,Blk.fz]
  rw [fzL_map,List.map_append,← fzL_map,← fzL_map]
  have:V.fzL id es (List.map EH.pt (h::t).reverse)=List.map EH.pt (h'::t).reverse:=by
   rw [fzL_map,List.map_map]
   simp only [List.reverse_cons,List.map_append,List.map_cons,List.map_nil,EH.pt,hid',Function.comp,V.fz]
   rw [List.append_left_inj]
   exact List.map_congr_left fun x _=>rfl
  rw [this]
 ·intro x hx
  rcases List.mem_cons.1 hx with rfl | hx
  ·exact hat
  ·exact (hp.at_ x (List.mem_cons_of_mem _ hx)).fz fun hc=>n8 id hid id (List.mem_flatMap.2 ⟨x,hx,hc⟩) rfl
 ·intro x hx
  have hl:=hp.live
  cases z with
  | true=>exact hl x hx
  | false=>exact hl x (by simp only [Bool.false_eq_true,if_false]; exact List.mem_cons_of_mem _ hx)
 ·rw [hF] at hss; exact hss.nodup hn'
 ·intro i hi; exact hp.lt i (hss.subset hi)
 ·exact hp.ok
 ·intro i hi; exact .inl (hss.subset hi)
 ·intro i ty cs h1 h2 h3 h4
  have:i≠id:=fun e=>h2 (by rw [hF]; subst e; simp [hid])
  simp only [fzHeap,this,if_false,h3,Option.map_some,Blk.fz,fzL_imm _ _ _ h4]
structure FzT (T:Nat→Nat) (s:St) (F:List Nat) (p:Nat) (els:List El) (sid:Nat) (t:List EH) (h:EH) (s':St) (F':List Nat) (h':EH):Prop where
 fz:FzS s s'
 nx:s'.nx=s.nx
 env:∀ i,(s.env i).keep=true→s'.env i=s.env i
 st:∃ jk',Stx T true s'.L s.nx F' p els sid jk' (h'::t)
 e:h'.e=h.e
 id:h'.id=h.id
 stp:Stp s.L s.nx F s'.L s.nx F'
theorem FzS.trans {a b c:St} (h:FzS a b) (k:FzS b c):FzS a c:=by
 induction h with
 | refl s=>exact k
 | step id ty sz es hL hi hs ih=>exact .step id ty sz es hL hi (ih k)
 | up id ty cs cs' hL hn hw hs ih=>exact .up id ty cs cs' hL hn hw (ih k)
theorem FzT.trans {T:Nat→Nat} {s s' s'':St} {F F' F'':List Nat} {p:Nat} {els:List El} {sid:Nat} {t:List EH} {h h' h'':EH} (a:FzT T s F p els sid t h s' F' h') (b:FzT T s' F' p els sid t h' s'' F'' h''):FzT T s F p els sid t h s'' F'' h'':=by
 refine ⟨a.fz.trans b.fz,b.nx.trans a.nx,fun i hi=>?_,by have:=b.st; rw [a.nx] at this; exact this,b.e.trans a.e,b.id.trans a.id,a.stp.trans (by have:=b.stp; rw [a.nx] at this; exact this)⟩
 have e1:=a.env i hi
 have e2:=b.env i (by rw [e1]; exact hi)
 rw [e2,e1]
end Go.Ab
namespace Go.Ab
variable {P:Program} {F T:Nat→Nat}
theorem getD_mid {a b:List V} {x:V} {n:Nat} (h:n=a.length):(a++x::b).getD n .junk=x:=by
 subst h
 rw [List.getD_eq_getElem?_getD,List.getElem?_append_right (Nat.le_refl _)]; simp
theorem Stx.rd {z:Bool} {L:Heap} {nx:Nat} {f:List Nat} {p:Nat} {els:List El} {sid:Nat} {jk:List V} {h:EH} {t:List EH} (hp:Stx T z L nx f p els sid jk (h::t)) :
 L p=some (.box (T 7) [.own sid 1 0 (t.length+1)])∧L sid=some (.vec (T 6) 1 (t.reverse.map EH.pt++V.ptr h.id 0::jk))∧p<nx∧sid<nx∧h.id<nx∧p≠sid∧p≠h.id∧sid≠h.id∧els=h.e::t.map EH.e:=by
 have hF:=hp.foot
 have hn:=hp.nodup
 rw [hF] at hn
 simp only [List.flatMap_cons,List.nodup_cons,List.mem_cons,List.mem_append,not_or,EH.fp] at hn
 have lt:=hp.lt
 rw [hF] at lt
 refine ⟨by have:=hp.box; simpa using this,by have:=hp.stk; simpa [EH.pt] using this,lt p (by simp),lt sid (by simp),lt h.id (by simp [EH.fp]),hn.1.1,?_,?_,by rw [← hp.map]; rfl⟩
 ·exact hn.1.2.1.1
 ·exact hn.2.1.1.1
theorem t59 (hf:Is59 P F T) {z:Bool} {L:Heap} {nx:Nat} {f:List Nat} {p:Nat} {els:List El} {sid:Nat} {jk:List V} {h:EH} {t:List EH} (hp:Stx T z L nx f p els sid jk (h::t)) (hlen:t.length<2^32) :
 ECall P (F 59) [.ptr p 0] L nx fun r L' nx'=>r=.ptr h.id 0∧L'=L∧nx≤nx':=by
 obtain ⟨h1,h2,h3,h4,h5,h6,h7,h8,_⟩:=hp.rd
 refine ecallC [] hf (by simp) ?_
 have e1:((t.length:Nat):Int)+1-1=(t.length:Nat):=by omega
 have e2:(List.map EH.pt t.reverse++V.ptr h.id 0::jk).getD t.length .junk=.ptr h.id 0:=getD_mid (by simp)
 simp only [c59,push_cast,seval,-Nat.reducePow,h1,h2,e1,e2,cells_ptr]
 exact ⟨by omega,by omega,by simp,by omega,by omega⟩
def EH.cur (h:EH):V:=match h.ai with
 | some i=>if h.e.kind=3 then .eptr i (h.e.args.length-1) 2 else .ptr h.id 3
 | none=>.ptr h.id 3
def Did (T:Nat→Nat) (L:Heap) (nx:Nat) (f:List Nat) (p:Nat) (els:List El):V→Heap→Nat→Prop:=fun _ L' nx'=>∃ f',Stk T false L' nx' f' p els∧Stp L nx f L' nx' f'
def El.isA (e:El):Prop:=e.kind=3∧e.args≠[]
instance (e:El):Decidable e.isA:=inferInstanceAs (Decidable (_∧_))
def El.cur (e:El):List Node:=if e.isA then lastVal e.args else e.list
def El.setCur (ns:List Node) (e:El):El:=if e.isA then { e with args:=onLast (fun a=>a.setVal ns) e.args } else { e with list:=ns }
theorem El.add_cur (n:Node) (e:El):e.add n=e.setCur (addN n e.cur):=by
 by_cases h:e.isA
 ·have h':e.kind=3∧e.args≠[]:=h
  simp only [El.add,El.setCur,El.cur,if_pos h,if_pos h',El.mk.injEq,true_and]
  rcases List.eq_nil_or_concat e.args with h0 | ⟨i,a,h0⟩
  ·rw [h0]; rfl
  ·rw [h0,List.concat_eq_append,onLast_snoc,onLast_snoc,lastVal_snoc]
 ·have h':¬ (e.kind=3∧e.args≠[]):=h
  simp only [El.add,El.setCur,El.cur,if_neg h,if_neg h']
end Go.Ab
namespace Go.Ab
variable {P:Program} {F T:Nat→Nat}
theorem addS_ne {n:Node} {els:List El} (h:els≠[]):addS n els≠[]:=by cases els with | nil=>exact absurd rfl h | cons e r=>simp [addS]
theorem addsS_nil (els:List El):addsS [] els=els:=rfl
theorem addsS_cons (n:Node) (l:List Node) (els:List El):addsS (n::l) els=addsS l (addS n els):=rfl
theorem Did.step {L0 L L':Heap} {nx0 nx nx':Nat} {f0 f:List Nat} {p:Nat} {els:List El} {r:V} (h:Stp L0 nx0 f0 L nx f) (k:Did T L nx f p els r L' nx'):Did T L0 nx0 f0 p els r L' nx':=by
 obtain ⟨f',k1,k2⟩:=k
 exact ⟨f',k1,h.trans k2⟩
theorem Stk.ok {z:Bool} {L:Heap} {nx:Nat} {f:List Nat} {p:Nat} {els:List El} (h:Stk T z L nx f p els):∀ e,e∈els→e.ok:=by obtain ⟨sid,jk,hs,hp⟩:=h; exact hp.ok
theorem Stx.push {L L':Heap} {nx nx':Nat} {f:List Nat} {p:Nat} {els:List El} {sid:Nat} {jk:List V} {hs:List EH} (hp:Stx T false L nx f p els sid jk hs) (e:El) (id j:Nat) (hl:e.list=[]) (ha:e.args=[]) (hok:e.ok)
 (h1:L' p=some (.box (T 7) [.own j 1 0 (hs.length+1)])) (h2:L' j=some (.vec (T 6) 1 (hs.reverse.map EH.pt++[.ptr id 0]))) (h3:L' id=some (.box (T 5) [.int .i64 e.kind,.int .i64 e.tag,.int .i64 e.count,.nils,.nils]))
 (hid:id∉f) (hidn:id<nx') (hj:nx≤j) (hjn:j<nx') (hij:j≠id) (hfr:∀ i,i<nx→i≠p→i≠sid→i≠id→L' i=L i) (hle:nx≤nx') (hsid:id<nx→∀ ty cs,L id=some (.box ty cs)→L' id=L id) :
 ∃ f',Stk T false L' nx' f' p (e::els)∧(∀ i,i∈f'→i∈f∨i=id∨nx≤i)∧∀ i ty cs,i<nx→i∉f→L i=some (.box ty cs)→V.imms cs=true→L' i=some (.box ty cs):=by
 have hF:=hp.foot
 have hn:=hp.nodup
 rw [hF] at hn hid
 simp only [List.nodup_cons,List.mem_cons,not_or] at hn hid
 obtain ⟨⟨n1,n2⟩,n3,n4⟩:=hn
 obtain ⟨d1,d2,d3⟩:=hid
 have lt:=hp.lt
 rw [hF] at lt
 refine ⟨p::j::id::hs.flatMap EH.fp,⟨j,[],⟨e,id,none,none,none⟩::hs,⟨by simp [EH.fp],by simp [hp.map],by rw [h1]; simp,?_,?_,?_,?_,?_,?_⟩⟩,?_,?_⟩
 ·rw [h2]; simp [EH.pt]
 ·intro x hx
  rcases List.mem_cons.1 hx with rfl | hx
  ·refine ⟨by rw [h3]; simp [EH.cells,EH.lv,EH.av,lvO,hl,ha,vns,vas,ln],fun i hi=>by simp at hi,fun i hi=>by simp at hi,fun i hi=>by simp at hi⟩
  ·refine (hp.at_ x hx).frame fun i hi=>?_
   have hm:i∈hs.flatMap EH.fp:=List.mem_flatMap.2 ⟨x,hx,hi⟩
   exact hfr i (lt i (by simp [hm])) (fun e=>n2 (e ▸ hm)) (fun e=>n3 (e ▸ hm)) (fun e=>d3 (e ▸ hm))
 ·intro x hx
  rcases List.mem_cons.1 (by simpa using hx) with rfl | hx
  ·exact ⟨fun _=>hl,fun _=>ha,fun _=>by rw [ha]; rfl⟩
  ·exact hp.live x (by simpa using hx)
 ·simp only [List.nodup_cons,List.mem_cons,not_or]
  exact ⟨⟨fun e=>by have:=lt p (by simp); omega,fun e=>d1 e.symm,n2⟩,⟨hij,fun hm=>by have:=lt j (by simp [hm]); omega⟩,d3,n4⟩
 ·intro i hi
  simp only [List.mem_cons] at hi
  rcases hi with rfl | rfl | rfl | hi
  ·have:=lt i (by simp); omega
  ·exact hjn
  ·exact hidn
  ·have:=lt i (by simp [hi]); omega
 ·intro x hx
  rcases List.mem_cons.1 hx with rfl | hx
  ·exact hok
  ·exact hp.ok x hx
 ·intro i hi
  rw [hF]
  simp only [List.mem_cons] at hi ⊢
  rcases hi with rfl | rfl | rfl | hi
  ·exact .inl (.inl rfl)
  ·exact .inr (.inr hj)
  ·exact .inr (.inl rfl)
  ·exact .inl (.inr (.inr hi))
 ·intro i ty cs g1 g2 g3 g4
  rw [hF] at g2
  simp only [List.mem_cons,not_or] at g2
  by_cases e:i=id
  ·subst e; rw [hsid g1 ty cs g3]; exact g3
  ·rw [hfr i g1 g2.1 g2.2.1 e]; exact g3
end Go.Ab
