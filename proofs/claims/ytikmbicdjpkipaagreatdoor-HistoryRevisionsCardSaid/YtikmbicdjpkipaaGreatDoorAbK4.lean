import Derived.Test.YtikmbicdjpkipaaGreatDoorAbE4
import Derived.Below
import Derived.ChangeSame
import Derived.Carry
import Derived.JoinedCond
import Derived.RowKit
open List renaming range->zU,mapM_cons->wd,all_eq_true->zx,getElem?_eq_getElem->zB,getElem_of_mem->xC,map_cons->zE,drop_drop->xW,mapM_map->w6,drop_zero->yn,take_of_length_le->zj
open Bool renaming and_eq_true->zc
open Option.some renaming injEq->za
open Prod.mk renaming injEq->zR
open Option renaming map_eq_some_iff->zm
set_option linter.unusedSimpArgs false
set_option linter.unusedVariables false
namespace Go.Ab
open Go.ChangeShapes Go.WideShapes Go.RowKit
mutual
def V.bk:V->Nat
 | .str s=>s.length+1
 | .lst _ es=>V.bks es+1
 | .agg es=>V.bks es+1
 | .raw _=>0
 | _=>1
def V.bks:List V->Nat
 | []=>0
 | x::r=>x.bk+V.bks r
end
theorem aL7(a b:List V):V.bks (a++b)=V.bks a+V.bks b:=by
 induction a with
 | nil=>simp[V.bks]
 | cons x r ih=>simp[V.bks,ih];omega
mutual
def aDm{H:Type}:DataW H->Nat
 | .lit (.string bytes)=>bytes.length+1
 | .lit _=>1
 | .nil=>1
 | .ptr d=>aDm d+1
 | .slice elems spare=>dbulkAll elems+dbulkAll spare+1
 | .agg parts=>dbulkAll parts+1
 | .iface _ d=>aDm d+1
 | .map entries=>aI0 entries+1
 | .held _=>1
def dbulkAll{H:Type}:List (DataW H)->Nat
 | []=>0
 | d::r=>aDm d+dbulkAll r
def aI0{H:Type}:List (Lit×DataW H)->Nat
 | []=>0
 | x::r=>aUx x+aI0 r
def aUx{H:Type}:Lit×DataW H->Nat
 | (.string bytes,d)=>bytes.length+aDm d+1
 | (_,d)=>aDm d+1
 end
theorem aXz{H:Type}(d:DataW H):1<=aDm d:=by
 cases d with
 | lit l=>cases l<;>simp[aDm]
 | nil=>simp[aDm]
 | ptr d=>simp[aDm]
 | slice elems spare=>simp[aDm]
 | agg parts=>simp[aDm]
 | iface t d=>simp[aDm]
 | map entries=>simp[aDm]
 | held h=>simp[aDm]
def aMl(P:Program):Nat->List (Nat×TypeId)->Nat->Bool
 | acc,[],total=>acc=total
 | acc,f::r,total=>f.1=acc&&aMl P (acc+P.cellsOf f.2) r total
def aFo(P:Program):TypeDesc->List (Nat×TypeId)
 | .struct fs=>fs.toList.map λf=>(f.offset,f.type)
 | .array n e=>(zU n).map λi=>(i*P.cellsOf e,e)
 | _=>[]
def okT(P:Program)(S:List TypeId)(t:TypeId):Bool:=
 match P.underlying t with
 | some (.slice e)=>S.contains e&&P.cellsOf e != 0&&(isAg P e||P.cellsOf e==1)
 | some (.struct fs)=>aMl P 0 (aFo P (.struct fs)) (P.cellsOf t)&&(aFo P (.struct fs)).all λp=>S.contains p.2
 | some (.array n e)=>aMl P 0 (aFo P (.array n e)) (P.cellsOf t)&&(aFo P (.array n e)).all λp=>S.contains p.2
 | _=>true
def VT(P:Program):Nat->TypeId->List V->Prop
 | 0,_,_=>False
 | n+1,t,xs =>
   match P.underlying t with
   | some .bool=>∃b,xs=[.bool b]
   | some (.int k)=>∃m,xs=[.int k m]∧(Lit.int k m).wf=true
   | some .string=>∃s,xs=[.str s]
   | some (.slice e)=>∃es,xs=[.lst (P.cellsOf e) es]∧∀x,x∈es->(∃ys,x=pack (isAg P e) ys∧ys.length=P.cellsOf e∧VT P n e ys)
   | some (.struct fs)=>xs.length=P.cellsOf t∧∀f,f∈aFo P (.struct fs)->VT P n f.2 ((xs.drop f.1).take (P.cellsOf f.2))
   | some (.array m e)=>xs.length=P.cellsOf t∧∀f,f∈aFo P (.array m e)->VT P n f.2 ((xs.drop f.1).take (P.cellsOf f.2))
   | _=>True
abbrev NoD:Nat->Prop:=λ_=>False
abbrev NoG:Ghost:=λ_=>none
def RepL(w:World)(xs:List V)(cs:List Value):Prop:=xs.length=cs.length∧∀(j:Nat) (x:V),xs[j]?=some x->x.one=true∧x.imm=true∧∃v,cs[j]?=some v∧Rep NoG NoD w x v
theorem aGe{w:World}{x:V}{v:Value}(h1:x.one=true)(hi:x.imm=true)(h:Rep NoG NoD w x v):RepL w [x] [v]:=by
 refine⟨rfl,λj y hy=>?_⟩;grind
theorem aRo{w:World}{xs ys:List V}{cs ds:List Value}(h:RepL w xs cs)(k:RepL w ys ds):RepL w (xs++ys) (cs++ds):=by
 refine⟨by simp[h.1,k.1],λj x hx=>?_⟩;rw[List.getElem?_append]at hx ⊢;rw[<-h.1];split at hx
 .rename_i hlt;simp only[hlt,if_true];exact h.2 j x hx
 .rename_i hlt;simp only[hlt,if_false];exact k.2 _ x hx
theorem aKa{w:World}{base:Nat}{a:Addr}{n:Nat}{cs:List Value}(h:w.cells? base a n=some cs):cs.length=n∧∀j,j<n->w.cell? (a.add j)=cs[j]?:=by
 unfold World.cells? at h;split at h
 .have key:∀(l:List Nat) (cs:List Value),l.mapM (λi=>w.cell? (a.add i))=some cs->cs.length=l.length∧∀(j:Nat) (k:Nat),l[j]?=some k->w.cell? (a.add k)=cs[j]?:=by
   intro l;induction l with
   | nil=>simp
   | cons x r ih =>
     intro cs h;rw[wd]at h;cases hx:w.cell? (a.add x)with
     | none=>grind
     | some v =>
       cases hr:r.mapM (λi=>w.cell? (a.add i))with
       | none=>grind
       | some q=>grind
  obtain⟨h1,h2⟩:=key _ _ h;grind
 grind
theorem aP1{w:World}{a:Addr}{v:Value}(h:w.cell? a=some v):a=⟨a.block,a.off,none⟩∧a.block<w.heap.size:=by
 unfold World.cell? at h;split at h
 .rename_i c t fr hb;split at h
  .grind
  .rename_i hs;refine⟨?_,?_⟩
   .obtain⟨b,o,s⟩:=a;simp_all
   grind
 grind
theorem aPq{α β:Type}{f:α->Option β}:∀{l:List α} {r:List β},l.mapM f=some r->r.length=l.length∧∀(i:Nat) (a:α),l[i]?=some a->∃b,r[i]?=some b∧f a=some b
 | [],r,h=>by grind
 | x::l,r,h=>by
   rw[wd]at h;cases hx:f x with
   | none=>grind
   | some b =>
     cases hr:l.mapM f with
     | none=>grind
     | some q=>simp[hx,hr]at h;subst h;obtain⟨h1,h2⟩:=aPq hr;grind
variable {H:Type} {enc:TypeId×Value->H} {P:Program} {w:World} {sp:Nat->Bool}
def aN7(P:Program)(w:World)(fuel:Nat)(t:TypeId)(cs:List Value)(d:DataW H):Prop:=
 ∃xs,RepL w xs cs∧VT P fuel t xs∧V.bks xs+(if isAg P t then 1 else 0)<=aDm d
theorem aRl{ag:Bool}{ys:List V}{n:Nat}(hl:ys.length=n)(h1:∀y,y∈ys->y.one=true)(hn:ag=true∨n=1):(pack ag ys).ncells=some n∧(pack ag ys).cells=ys:=by
 cases ag with
 | true=>refine⟨?_,rfl⟩;show(V.agg ys).ncells=_;rw[aLp,if_pos (zx.2 h1),hl]
 | false =>
   have hn:n=1:=by grind
   match ys,hl with
   | [y],hl=>have:=h1 y (by simp);subst hn;cases y<;>simp[V.one]at this<;>simp[pack,V.ncells,V.one,V.cells,this]
   | [],hl=>grind
   | _::_::_,hl=>grind
theorem bMi{P:Program}{e:TypeId}{ys:List V}{d:DataW H}(h:V.bks ys+(if isAg P e then 1 else 0)<=aDm d)(hn:isAg P e=true∨ys.length=1):(pack (isAg P e) ys).bk<=aDm d:=by
 cases he:isAg P e with
 | true=>simp only[he,if_true]at h;simpa[pack,V.bk]using h
 | false =>
   rcases hn with hn|hn
   .grind
   .match ys,hn with
    | [y],_=>simp[he,V.bks]at h;simpa[pack]using h
theorem aWk{fuel:Nat}{e:TypeId}{a:Addr}{len cap:Nat}(ih:∀cs (d:DataW H) ps,DataW.trod enc P w 0 sp true fuel e cs=some (d,ps)->aN7 P w fuel e cs d)
 (hsz:P.cellsOf e≠0) (hag:isAg P e=true∨P.cellsOf e=1) (hc:len<=cap) (hm:cap<=maxLen) {elems:List (DataW H×List MemPlace)}
 (h:(zU len).mapM (λi=>(w.cells? 0 (a.add (i*P.cellsOf e)) (P.cellsOf e)).bind (DataW.trod enc P w 0 sp true fuel e))=some elems) :
 ∃es,(V.lst (P.cellsOf e) es).imm=true∧Rep NoG NoD w (.lst (P.cellsOf e) es) (.slice (some a) len cap)∧(∀x,x∈es->∃ys,x=pack (isAg P e) ys∧ys.length=P.cellsOf e∧VT P fuel e ys)∧V.bks es<=dbulkAll (elems.map (·.1)):=by
 obtain⟨h1,h2⟩:=aPq h;simp only[List.length_range]at h1
 -- the elements,one by one
 have one:∀i,i<len->∃x,elems[i]?=some x∧∃cs,w.cells? 0 (a.add (i*P.cellsOf e)) (P.cellsOf e)=some cs∧aN7 P w fuel e cs x.1:=by
  intro i hi;obtain⟨x,hx,hf⟩:=h2 i i (by grind);refine⟨x,hx,?_⟩;cases hcs:w.cells? 0 (a.add (i*P.cellsOf e)) (P.cellsOf e)with
  | none=>grind
  | some cs=>grind
 -- the address is a plain one
 have plain:0<len->a=⟨a.block,a.off,none⟩∧a.block<w.heap.size:=by
  intro hl;obtain⟨x,_,cs,hcs,_⟩:=one 0 hl;obtain⟨q1,q2⟩:=aKa hcs;have:=q2 0 (by omega);rw[zB (by omega)]at this;have e0:(a.add (0*P.cellsOf e)).add 0=a:=by simp[Addr.add]
  rw[e0]at this;exact aP1 this
 have build:∀n,n<=len->∃es:List V,es.length=n∧V.imms es=true∧(∀x,x∈es->x.ncells=some (P.cellsOf e)∧∃ys,x=pack (isAg P e) ys∧ys.length=P.cellsOf e∧VT P fuel e ys)∧V.bks es<=dbulkAll ((elems.take n).map (·.1)) ∧
  (∀i j c,(es[i]?.bind λe:V=>e.cells[j]?)=some c->(w.cell? ⟨a.block,a.off+i*P.cellsOf e+j,none⟩).isSome=true∧Rep NoG NoD w c (aDk w a.block (a.off+i*P.cellsOf e+j))):=by
  intro n;induction n with
  | zero=>intro _;exact⟨[],rfl,by rfl,by simp,by simp[V.bks],by simp⟩
  | succ n ihn =>
    intro hn;obtain⟨es,p1,p2,p3,p4,p5⟩:=ihn (by omega);obtain⟨x,hx,cs,hcs,ys,⟨r1,r2⟩,r3,r4⟩:=one n (by omega);obtain⟨q1,q2⟩:=aKa hcs;obtain⟨ha,hb⟩:=plain (by omega);have hyl:ys.length=P.cellsOf e:=by omega
    have hone:∀y,y∈ys->y.one=true:=λy hy=>by obtain⟨j,hj,rfl⟩:=xC hy;exact(r2 j _ (zB hj)).1
    have himm:∀y,y∈ys->y.imm=true:=λy hy=>by obtain⟨j,hj,rfl⟩:=xC hy;exact(r2 j _ (zB hj)).2.1
    obtain⟨c1,c2⟩:=aRl hyl hone hag;refine⟨es++[pack (isAg P e) ys],by grind,?_,?_,?_,?_⟩
    .rw[aGv,p2];have:(pack (isAg P e) ys).imm=true:=by
      cases he:isAg P e with
      | true=>simp only[pack,if_true];rw[aRf];exact aSc himm
      | false =>
        rcases hag with hag|hag
        .grind
        .match ys,(show ys.length=1 by omega)with
         | [y],_=>simpa[pack]using himm y (by simp)
     simp[V.imms,this]
    .grind
    .rw[aL7];have e1:elems.take (n+1)=elems.take n++[x]:=by
      rw[List.take_add_one,hx];rfl
     rw[e1];have:=bMi r4 (by grind);have e2:∀l:List (DataW H),∀z,dbulkAll (l++[z])=dbulkAll l+aDm z:=by
      intro l z;induction l with
      | nil=>simp[dbulkAll]
      | cons y l ih=>simp only[List.cons_append,dbulkAll,ih];omega
     rw[List.map_append,zE,List.map_nil,e2];simp only[V.bks];omega
    .intro i j c hc;rcases Nat.lt_trichotomy i n with hlt|rfl|hgt
     .grind
     .rw[List.getElem?_append_right (by omega)]at hc;simp only[p1,Nat.sub_self,List.getElem?_cons_zero,Option.bind_some,c2]at hc;obtain⟨_,_,v,hv,hr⟩:=r2 j c hc;have hj:j<P.cellsOf e:=by grind
      have hcell:=q2 j hj;rw[hv]at hcell;have ea:(a.add (i*P.cellsOf e)).add j=⟨a.block,a.off+i*P.cellsOf e+j,none⟩:=by
       rw[ha];have e3:∀(b o k:Nat),(Addr.mk b o none).add k=⟨b,o+k,none⟩:=λb o k=>by unfold Addr.add;simp
       grind
      rw[ea]at hcell;exact⟨by grind,by unfold aDk;grind⟩
     grind
 obtain⟨es,p1,p2,p3,p4,p5⟩:=build len (Nat.le_refl _);have hrep:Rep NoG NoD w (.lst (P.cellsOf e) es) (.slice (some a) es.length cap):=
  .lst _ es (some a) cap a.block a.off (by omega) (by unfold maxLen at hm;omega) (λh0=>by grind) (λx hx=>(p3 x hx).1)
   (λi j c hc=>(p5 i j c hc).1) (λi j c hc=>(p5 i j c hc).2)
 rw[p1]at hrep;refine⟨es,by rw[bAg];exact p2,hrep,λx hx=>(p3 x hx).2,?_⟩;grind
theorem aG0{fuel:Nat}{cs:List Value}{S:List TypeId}(ih:∀t cs (d:DataW H) ps,S.contains t=true->DataW.trod enc P w 0 sp true fuel t cs=some (d,ps)->aN7 P w fuel t cs d):
 ∀(fs:List (Nat×TypeId)) (acc total:Nat) (rs:List (DataW H×List MemPlace)),aMl P acc fs total=true->(fs.all λp=>S.contains p.2)=true->total<=cs.length->fs.mapM (λf=>DataW.trod enc P w 0 sp true fuel f.2 ((cs.drop f.1).take (P.cellsOf f.2)))=some rs ->
   acc<=total∧∃xs,RepL w xs ((cs.drop acc).take (total-acc))∧V.bks xs<=dbulkAll (rs.map (·.1))∧∀f,f∈fs->acc<=f.1∧VT P fuel f.2 ((xs.drop (f.1-acc)).take (P.cellsOf f.2))
 | [],acc,total,rs,hcs,hS,hle,h=>by simp[aMl]at hcs;subst hcs;exact⟨Nat.le_refl _,[],by simp[RepL],by simp[V.bks],by simp⟩
 | f::fs,acc,total,rs,hcs,hS,hle,h=>by
   simp only[aMl,zc,decide_eq_true_eq]at hcs;simp only[List.all_cons,zc]at hS;rw[wd]at h;cases hx:DataW.trod enc P w 0 sp true fuel f.2 ((cs.drop f.1).take (P.cellsOf f.2))with
   | none=>grind
   | some x =>
     cases hr:fs.mapM (λf=>DataW.trod enc P w 0 sp true fuel f.2 ((cs.drop f.1).take (P.cellsOf f.2)))with
     | none=>grind
     | some q =>
       simp[hx,hr]at h;subst h;obtain⟨xs,r1,r2,r3⟩:=ih _ _ x.1 x.2 hS.1 hx;obtain⟨g1,ys,g2,g3,g4⟩:=aG0 ih fs (acc+P.cellsOf f.2) total q hcs.2 hS.2 hle hr;have hxl:xs.length=P.cellsOf f.2:=by rw[r1.1,hcs.1];grind
       have e1:(cs.drop acc).take (total-acc)=(cs.drop acc).take (P.cellsOf f.2)++(cs.drop (acc+P.cellsOf f.2)).take (total-(acc+P.cellsOf f.2)):=by rw[<-xW,<-List.take_add];grind
       refine⟨by omega,xs++ys,?_,?_,λf' hf'=>?_⟩
       .rw[e1];rw[hcs.1]at r1;exact aRo r1 g2
       .rw[aL7];simp only[zE,dbulkAll];omega
       .rcases List.mem_cons.1 hf' with rfl|hf'
        .simp_all
        .obtain⟨k1,k2⟩:=g4 f' hf';refine⟨by omega,?_⟩;have e2:f'.1-acc=xs.length+(f'.1-(acc+P.cellsOf f.2)):=by omega
         rw[e2,<-xW,List.drop_left];exact k2
theorem aXj{S:List TypeId}(hS:S.all (okT P S)=true):∀(fuel:Nat) (t:TypeId) (cs:List Value) (d:DataW H) (ps:List MemPlace),S.contains t=true->DataW.trod enc P w 0 sp true fuel t cs=some (d,ps)->aN7 P w fuel t cs d:=by
 intro fuel;induction fuel with
 | zero=>intro t cs d ps _ h;simp[DataW.trod]at h
 | succ fuel ih =>
   intro t cs d ps ht h;have hok:okT P S t=true:=zx.1 hS t (by grind);have hd:=aXz d;have raw:∀v:Value,v.oneCell'=true->isAg P t=false->VT P (fuel+1) t [.raw v]->aN7 P w (fuel+1) t [v] d:=λv h1 h2 h3=>⟨[.raw v],aGe h1 rfl (.raw v),h3,by simp[V.bks,V.bk,h2]⟩;unfold DataW.trod at h;unfold okT at hok;split at h
   .rename_i hu;simp only[za,zR]at h;obtain⟨rfl,rfl⟩:=h;exact⟨[.bool _],aGe rfl rfl (.bool _),by simp only[VT,hu];simp,by simp[V.bks,V.bk,aDm,isAg,hu]⟩
   .rename_i hu;split at h
    .rename_i hk;obtain⟨rfl,hwf⟩:=hk;simp only[za,zR]at h;obtain⟨rfl,rfl⟩:=h;exact⟨[.int _ _],aGe rfl rfl (.int _ _),by simp only[VT,hu];grind,by simp[V.bks,V.bk,aDm,isAg,hu]⟩
    grind
   .rename_i hu;exact raw _ rfl (by simp[isAg,hu]) (by simp only[VT,hu])
   .rename_i s hu;split at h
    .rename_i hs;simp only[za,zR]at h;obtain⟨rfl,rfl⟩:=h;refine⟨[.str s.data.toList],aGe rfl rfl ?_,by simp only[VT,hu];simp,by simp[V.bks,V.bk,aDm,isAg,hu]⟩;have:=Rep.str (G:=NoG) (D:=NoD) (w:=w) s.data.toList (by
      have h1:s.data.toList.length=s.size:=Array.length_toList;unfold maxLen at hs;omega)
     omega
    grind
   .rename_i hu;exact raw _ rfl (by simp[isAg,hu]) (by simp only[VT,hu])
   .rename_i hu;exact raw _ rfl (by simp[isAg,hu]) (by simp only[VT,hu])
   .rename_i e hu;refine⟨[.lst (P.cellsOf e) []],aGe rfl rfl (.lst _ [] none 0 0 0 (by simp) (by omega) (by simp) (by simp) (by simp) (by simp)),by simp only[VT,hu];simp,by simp[V.bks,V.bk,isAg,hu];omega⟩
   .rename_i e a len cap hu;simp only[hu,zc,bne_iff_ne,ne_eq,Bool.or_eq_true,beq_iff_eq]at hok;split at h
    .rename_i hc;obtain⟨_,hc1,hc2⟩:=hc;simp only[Option.bind_eq_some_iff]at h;obtain⟨elems,he,h⟩:=h;simp only[zm,zR]at h;obtain⟨rest,hr,rfl,rfl⟩:=h;obtain⟨es,h1,h2,h3,h4⟩:=aWk (λcs' d' ps' hh=>ih e cs' d' ps' hok.1.1 hh) hok.1.2 hok.2 hc1 hc2 he;refine⟨[.lst (P.cellsOf e) es],aGe rfl h1 h2,by simp only[VT,hu];grind,?_⟩;simp only[V.bks,V.bk,aDm,isAg,hu];grind
    grind
   .rename_i cs' fs hu;simp only[hu,zc]at hok;split at h
    .rename_i hl;simp only[zm,zR]at h;obtain⟨rs,hr,rfl,rfl⟩:=h;obtain⟨_,xs,g1,g2,g3⟩:=aG0 ih (aFo P (.struct fs)) 0 (P.cellsOf t) rs hok.1 hok.2 (Nat.le_of_eq hl.symm) (by simp only[aFo,w6];exact hr);simp only[yn,Nat.sub_zero]at g1 g3;rw[zj (by omega)]at g1;refine⟨xs,g1,by simp only[VT,hu];exact⟨by rw[g1.1,hl],λf hf=>(g3 f hf).2⟩,?_⟩;simp only[aDm,isAg,hu];grind
    grind
   .rename_i cs' n e hu;simp only[hu,zc]at hok;split at h
    .rename_i hl;simp only[zm,zR]at h;obtain⟨rs,hr,rfl,rfl⟩:=h;obtain⟨_,xs,g1,g2,g3⟩:=aG0 ih (aFo P (.array n e)) 0 (P.cellsOf t) rs hok.1 hok.2 (Nat.le_of_eq hl.symm) (by simp only[aFo,w6];exact hr);simp only[yn,Nat.sub_zero]at g1 g3;rw[zj (by omega)]at g1;refine⟨xs,g1,by simp only[VT,hu];exact⟨by rw[g1.1,hl],λf hf=>(g3 f hf).2⟩,?_⟩;simp only[aDm,isAg,hu];grind
    grind
   all_goals first
    | (simp at h;done)
    | (rename_i hu;exact raw _ rfl (by simp[isAg,hu]) (by simp only[VT,hu]))
    | (rename_i u v hu;exact raw _ rfl (by simp[isAg,hu]) (by simp only[VT,hu]))
def ArgT(P:Program)(t:TypeId)(x:V):Prop:=∃n ys,VT P n t ys∧x=pack (isAg P t) ys∧ys.length=(if isAg P t then P.cellsOf t else 1)
def ArgsT(P:Program):List TypeId->List V->Prop
 | [],xs=>xs=[]
 | t::ts,xs=>∃x r,xs=x::r∧ArgT P t x∧ArgsT P ts r
theorem aWn{W:World}{base:Nat}{t:TypeId}{v:Value}(h:Value.okWide P W .any base t v):(isAg P t=true->∃cs,v=.agg cs∧cs.size=P.cellsOf t)∧(isAg P t=false->v.cells.toList=[v]):=by
 unfold Value.okWide at h;unfold isAg;split at h
 .grind
 .grind
 .rename_i h1 h2;refine⟨λhe=>?_,λ_=>?_⟩
  .grind
  .cases v<;>try rfl
   rename_i cs;unfold Cell.okWide at h;split at h<;>try contradiction
   unfold Cell.ok at h;grind
theorem aO9{S:List TypeId}(hS:S.all (okT P S)=true):∀(ts:List TypeId) (vs:List Value) (ds:List (DataW H)) (ps:List MemPlace) (base:Nat),(∀t∈ts,S.contains t=true)->(∀(j:Nat) t v,ts[j]?=some t->vs[j]?=some v->Value.okWide P w .any base t v) ->
 DataW.TrodAll enc P w 0 (λ_=>true) true ts vs ds ps->∃xs,xs.length=vs.length∧ArgsT P ts xs∧V.bks xs<=dbulkAll ds∧V.imms xs=true∧∀(i:Nat) x,xs[i]?=some x->∃v,vs[i]?=some v∧Rep NoG NoD w x v
 | [],vs,ds,ps,base,_,_,h=>by obtain⟨rfl,rfl,rfl⟩:=trodAll_nil h;exact⟨[],rfl,rfl,by simp[V.bks],by rfl,by simp⟩
 | t::ts,vs,ds,ps,base,ht,hv,h=>by
   obtain⟨v,vs',d,ds',p,q,rfl,rfl,rfl,⟨fuel,h1⟩,h2⟩:=trodAll_cons h;obtain⟨xs,g1,g2,g3,g4,g5⟩:=aO9 hS ts vs' ds' q base (λt h=>ht t (by simp[h])) (λj t v hj hv'=>hv (j+1) t v (by grind) (by grind)) h2;obtain⟨ys,⟨k1,k2⟩,k3,k4⟩:=aXj hS fuel t _ d p (ht t (by simp)) h1;obtain⟨w1,w2⟩:=aWn (hv 0 t v rfl rfl);have himm:∀y,y∈ys->y.imm=true:=λy hy=>by obtain⟨j,hj,rfl⟩:=xC hy;exact(k2 j _ (zB hj)).2.1
   have main:∃x:V,ArgT P t x∧x.bk<=aDm d∧x.imm=true∧Rep NoG NoD w x v:=by
    cases ha:isAg P t with
    | true =>
      obtain⟨cs,rfl,hcs⟩:=w1 ha;have hl:ys.length=P.cellsOf t:=by rw[k1];simp[Value.cells,hcs]
      refine⟨.agg ys,⟨fuel,ys,k3,by simp[pack,ha],by grind⟩,by simp only[ha,if_true]at k4;simpa[V.bk]using k4,by rw[aRf];exact aSc himm,.agg _ _ (by omega) λi c hc=>?_⟩;obtain⟨_,_,u,hu,hr⟩:=k2 i c hc;simp only[Value.cells]at hu;simp_all
    | false =>
      have hc:=w2 ha;rw[hc]at k1 k2
      match ys,k1 with
      | [y],_=>obtain⟨_,hi,u,hu,hr⟩:=k2 0 y rfl;simp at hu;subst hu;refine⟨y,⟨fuel,[y],k3,by simp[pack,ha],by grind⟩,by simp[ha,V.bks]at k4;exact k4,hi,hr⟩
   obtain⟨x,m1,m2,m3,m4⟩:=main;refine⟨x::xs,by grind,⟨x,xs,rfl,m1,g2⟩,by simp only[V.bks,dbulkAll];omega,by simp[V.imms,m3,g4],λi z hz=>?_⟩;grind
theorem aHq(hl:laidOutB P=true){W W':World}(hb:Below W.heap.size W W')(sp':Nat->Bool):∀(ts:List TypeId) (vs:List Value) (ds:List (DataW H)) (ps:List MemPlace),(∀t∈ts,P.readableRec t=true∧t<P.types.size) ->
 DataW.TrodAll enc P W 0 (λ_=>true) true ts vs ds ps->(∀p∈ps,p.block<W.heap.size)->(∀p∈ps,sp' p.block=true)->DataW.TrodAll enc P W' 0 sp' true ts vs ds ps
 | [],vs,ds,ps,_,h,_,_=>by obtain⟨rfl,rfl,rfl⟩:=trodAll_nil h;rfl
 | t::ts,vs,ds,ps,ht,h,h1,h2=>by obtain⟨v,vs',d,ds',p,q,rfl,rfl,rfl,k1,k2⟩:=trodAll_cons h;refine⟨p,q,WideElems.Trod_stays hl (ht t (by simp)).1 (ht t (by simp)).2 k1 (λx hx=>hb.same (h1 x (by grind))) (λx hx=>h2 x (by grind)),?_,rfl⟩;exact aHq hl hb sp' ts vs' ds' q (λt h=>ht t (by simp[h])) k2 (λx hx=>h1 x (by grind)) (λx hx=>h2 x (by grind))
theorem law_contract{f:Nat}{fn:Func}{s:ChangeSpec}{S ts:List TypeId}{rt:TypeId}{B:Nat}{apart fresh handsOn again:Bool}(hl:laidOutB P=true)(hS:S.all (okT P S)=true)(hts:fn.params.toList=ts)(hST:∀t∈ts,S.contains t=true)(hread:∀t∈ts,P.readableRec t=true∧t<P.types.size)
 (hrt:fn.resultTypes=#[rt]) (hrb:P.underlying rt=some .bool) (hvars:s.vars=[]) (hfn:∀ds:List (DataW H),ds.length=ts.length->s.fn H ds={ results:=[.lit (.bool true)],args:=ds })
 (main:∀xs,ArgsT P ts xs->V.bks xs<=B->V.imms xs=true->PTr P f xs (.bool true))
 (W:World) (base:Nat) (args:Array Value) (ds gs:List (DataW H)) (before:List MemPlace)
 (hval:∀(j:Nat) t v,fn.params[j]?=some t->args[j]?=some v->Value.okWide P W .any base t v)
 (hW:DataW.Whole enc P fn.params.toList s.vars apart W args.toList ds gs before) (hk:dbulkAll (ds++gs)<=B) (hsh:W.ShapedOpen P) (hpin:PinW W) :
 Calls P f args W λe W'=>∃v,e=.returned v∧s.post enc P fn apart fresh handsOn again W args v W':=by
 have hlt:∀p∈before,p.block<W.heap.size:=λp hp=>hW.lt p hp;have hW':=hW;obtain⟨p,q,hA,hV,rfl,hfz,hnd⟩:=hW;rw[hvars]at hV;obtain⟨rfl,rfl⟩:=trodVars_none hV;rw[List.append_nil]at hk;have hlen:ds.length=ts.length:=by
  have:∀(ts:List TypeId) (vs:List Value) (ds:List (DataW H)) (ps:List MemPlace),DataW.TrodAll enc P W 0 (λ_=>true) true ts vs ds ps->ds.length=ts.length:=by
   intro ts;induction ts with
   | nil=>intro vs ds ps h;obtain⟨_,rfl,_⟩:=trodAll_nil h;rfl
   | cons t ts ih=>intro vs ds ps h;obtain⟨v,vs',d,ds',p,q,rfl,rfl,rfl,k1,k2⟩:=trodAll_cons h;grind
  grind
 obtain⟨xs,g1,g2,g3,g4,g5⟩:=aO9 hS ts args.toList ds p base hST (λj t v hj hv=>hval j t v (by grind) (by grind)) (by rw[<-hts];exact hA);refine(main xs g2 (by omega) g4 NoD W args (λb h=>h.elim) ⟨λx hx=>hx W hsh,hpin,λ_ _ _ h=>h.elim⟩ (by omega) λi x hx=>?_).mono ?_
 .obtain⟨v,hv,hr⟩:=g5 i x hx;simp_all
 .rintro e W' ⟨v,rfl,hb,hr⟩;refine⟨v,rfl,?_⟩;cases hr
  have hsf:s.fn H (ds++[])={ results:=[.lit (.bool true)],args:=ds }:=by grind
  have hargs:∀sp:Nat->Bool,(∀x∈p++[],sp x.block=true)->DataW.TrodAll enc P W' 0 sp true fn.params.toList args.toList ds p:=λsp hs=>aHq hl hb sp _ _ _ _ (by grind) hA (λx hx=>hlt x (by grind)) (λx hx=>hs x (by grind))
  have hres:∀(b:Nat) (sp:Nat->Bool) (hd:Bool),DataW.TrodAll enc P W' b sp hd fn.resultTypes.toList ((Value.bool true).resultList fn.resultTypes.size) [DataW.lit (.bool true)] []:=λb sp hd=>by rw[hrt];exact trodAll_mk1 (shut_bool hrb true)
  have hvs:∀sp:Nat->Bool,DataW.TrodVars enc P W' sp s.vars [] []:=λsp=>by rw[hvars];rfl
  refine⟨ds,[],p++[],[],p,[],hW',?_,?_,?_,World.keptBut_mono (λx hx=>⟨hx,?_⟩) (hb.frame (·∈p++[])),λ_=>⟨?_,?_⟩⟩
  .grind
  .grind
  .grind
  .grind
  .exact ok_one hrt rfl (okWide_bool_mk hrb true)
  .refine⟨_,_,[]++p++[],⟨[]++p,[],trodAll_append (hargs _ λ_ _=>rfl) (hres _ _ _),hvs _,rfl,?_,?_⟩,?_⟩
   .intro b off hp;have hin:MemPlace.cell b off∈p++[]:=by grind
    rw[hb.frozen (hlt _ hin)];exact hfz b off hin
   .grind
   grind
end Go.Ab
namespace Go.Ab
def aH1(P:Program)(t:TypeId):Option (List (Nat×TypeId)):=match P.underlying t with
 | some (.struct fs)=>some (aFo P (.struct fs))
 | _=>none
theorem aD4{P:Program}{n:Nat}{t:TypeId}{xs:List V}{ps:List (Nat×TypeId)}(h:aH1 P t=some ps)(hv:VT P (n+1) t xs):xs.length=P.cellsOf t∧∀f,f∈ps->VT P n f.2 ((xs.drop f.1).take (P.cellsOf f.2)):=by
 unfold aH1 at h;split at h
 .rename_i fs hu;simp only[za]at h;subst h;simpa only[VT,hu]using hv
 grind
theorem bFh{P:Program}{n:Nat}{t e:TypeId}{xs:List V}(h:P.underlying t=some (.slice e))(hv:VT P (n+1) t xs):∃es,xs=[.lst (P.cellsOf e) es]∧∀x,x∈es->(∃ys,x=pack (isAg P e) ys∧ys.length=P.cellsOf e∧VT P n e ys):=by
 simpa only[VT,h]using hv
theorem bGo{P:Program}{n:Nat}{t:TypeId}{xs:List V}{k:IntKind}(h:P.underlying t=some (.int k))(hv:VT P (n+1) t xs):∃m,xs=[.int k m]∧(Lit.int k m).wf=true:=by simpa only[VT,h]using hv
theorem bGr{P:Program}{n:Nat}{t:TypeId}{xs:List V}(h:P.underlying t=some .string)(hv:VT P (n+1) t xs):∃s,xs=[.str s]:=by simpa only[VT,h]using hv
theorem aCw{P:Program}{t:TypeId}{xs:List V}(hv:VT P 0 t xs):False:=hv
theorem bMm{m:Int}(h:(Lit.int .i64 m).wf=true):-9223372036854775808<=m∧m<=9223372036854775807:=by
 simpa[Lit.wf,IntKind.min,IntKind.max,IntKind.signed,IntKind.bits]using h
theorem aQ4{P:Program}{t:TypeId}{x:V}(ha:isAg P t=false)(h:ArgT P t x):∃n,VT P n t [x]:=by
 obtain⟨n,ys,h1,h2,h3⟩:=h;rw[ha]at h2 h3
 match ys,(show ys.length=1 by grind)with
 | [y],_=>subst h2;grind
theorem arg_int{P:Program}{t:TypeId}{x:V}(hu:P.underlying t=some (.int .i64))(h:ArgT P t x):∃m,x=.int .i64 m∧-9223372036854775808<=m∧m<=9223372036854775807:=by
 obtain⟨n,hn⟩:=aQ4 (by simp[isAg,hu]) h;cases n with
 | zero=>exact(aCw hn).elim
 | succ n=>obtain⟨m,hm,hw⟩:=bGo hu hn;simp at hm;exact⟨m,hm,bMm hw⟩
theorem arg_str{P:Program}{t:TypeId}{x:V}(hu:P.underlying t=some .string)(h:ArgT P t x):∃s,x=.str s:=by
 obtain⟨n,hn⟩:=aQ4 (by simp[isAg,hu]) h;cases n with
 | zero=>exact(aCw hn).elim
 | succ n=>obtain⟨m,hm⟩:=bGr hu hn;grind
end Go.Ab
