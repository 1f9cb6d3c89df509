/- Several texts of one kind, merged. No condition. -/
import Derived.Test.YtikmbicdjpkipaaGreatDoorAbE2
import Derived.Lib.UnsafeStr
import Derived.Lib.Builder
import Derived.Laws.Externs
import Derived.MapKept
import Derived.WideKeyRuns
import Derived.Orders
set_option linter.unusedSimpArgs false
set_option linter.unusedVariables false
namespace Go.Ab
open Go.RowKit
section
variable {P:Program} {D:Nat→Prop} {n:Nat} {hint:Nat→Nat} {s:St} {G:Ghost} {a:Act} {w:World} {o:Oper} {K:St→Prop} {next:Act→World→Prop} {Q:Exit→Act→World→Prop} {m:Option Nat}
theorem aOu {tp te:TypeId} {j:TypeInfo} (d:Nat) (a:Addr) (hp:P.underlying tp=some (.pointer te)) (hte:P.info? te=some j):(Op.equalIn (d+1) tp (.pointer (some a)) (.pointer (some a))).run P w=.ok true w:=by
 simp [Op.equalIn,run_underlying hp,sizeOf,typeInfo,hte,run_sameAddr_same]
theorem bDh (hd:aA2 n o.dst=true) {op:BinOp} {t t' e:TypeId} {x y:Operand} {x' y':Src} (hx:opd n x=some x') (hy:opd n y=some y') (hop:op=.eql∨op=.neq)
 (ht:P.underlying t=some (.pointer e)) (he:(P.info? e).isSome=true) (ho:o.op=.binOp op t x y t'):aA6 P D n o (.ptreq o.dst (op==.neq) x' y'):=by
 intro s G a w K next Q h hg hn hfree
 have rx:=aAi hg hx
 have ry:=aAi hg hy
 obtain ⟨j,hj⟩:=Option.isSome_iff_exists.1 he
 simp only [aAb] at h
 split at h
 ·rename_i i q i2 q2 hb hc
  obtain ⟨rfl,rfl,hK⟩:=h
  rw [hb] at rx
  rw [hc] at ry
  obtain ⟨g,g1,ex⟩:=aCr rx
  obtain ⟨g',g2,ey⟩:=aCr ry
  obtain rfl:g=g':=Option.some.inj (g1.symm.trans g2)
  refine aF3 hg hd hn hop ho true (by rw [ex,ey]; exact aOu 9999 _ ht hj) (by grind) (by grind) (by grind) (by grind) (by grind) ?_
  grind
 grind
theorem bAr {D:Nat→Prop} {v:Value} (h:Rep G D w .nilp v):v=.pointer none:=by cases h; rfl
theorem aKe {b:Nat} {c:Array Value} {ty:TypeId} {fr:Nat×Nat} (h:w.heap[b]?=some (.cells c ty fr)):w.shape? b=some (ty,c.size):=by simp [World.shape?,h]
theorem bCx (hd:aA2 n o.dst=true) {t u e:TypeId} {x:Operand} {x':Src} (hx:opd n x=some x') (ht:P.underlying t=some (.pointer e)) (hu:P.underlying u=some .unsafePointer) (hz:(szOf P e).any (0<·)=true) (ho:o.op=.convert t u x):aA6 P D n o (.touns o.dst x'):=by
 intro s G a w K next Q h hg hn hfree
 have rx:=aAi hg hx
 obtain ⟨j,hj,hj0⟩:∃ j,P.info? e=some j∧j.size≠0:=by
  unfold szOf at hz
  cases hi:P.info? e with
  | none=>grind
  | some j=>grind
 simp only [aAb] at h
 split at h
 ·rename_i id q hb
  rw [hb] at rx
  obtain ⟨g,r1,ev⟩:=aCr rx
  split at h
  ·rename_i ty0 cs hL
   obtain ⟨g',k1,c',ty,fr,k2,k3,k4,_,k5⟩:=hg.hp.blk _ _ hL
   obtain rfl:g=g':=Option.some.inj (r1.symm.trans k1)
   refine aAu hg hd hn (x:=.ptr id q) (v:=.pointer (some ⟨g.blk,g.off+q,none⟩)) ?_ (.ptr id q g r1) h.2
   simp only [execOp,ho,ev,aCj]
   rw [Lib.run_to_unsafe w _ ht hu hj hj0 (aKe k2) (by grind)]
   rfl
  grind
 grind
theorem aYc (hd:aA2 n o.dst=true) {t u e:TypeId} {z:Nat} {x:Operand} {x':Src} (hx:opd n x=some x') (ht:P.underlying t=some .unsafePointer) (hu:P.underlying u=some (.pointer e)) (hz:szOf P e=some z)
 (hl:liesAt P P.depth e (z / P.cellsOf e) 0 e 1=true) (ho:o.op=.convert t u x):aA6 P D n o (.frouns o.dst e z x'):=by
 intro s G a w K next Q h hg hn hfree
 have rx:=aAi hg hx
 obtain ⟨j,hj⟩:∃ j,P.info? e=some j:=by
  unfold szOf at hz
  cases hi:P.info? e with
  | none=>grind
  | some j=>simp
 simp only [aAb] at h
 split at h
 ·rename_i id q hb
  rw [hb] at rx
  obtain ⟨g,r1,ev⟩:=aCr rx
  split at h
  ·rename_i ty0 cs hL
   obtain ⟨rfl,rfl,hcs,hK⟩:=h
   obtain ⟨g',k1,c',ty,fr,k2,k3,k4,_,k5⟩:=hg.hp.blk _ _ hL
   obtain rfl:g=g':=Option.some.inj (r1.symm.trans k1)
   refine aAu hg hd hn (x:=.ptr id 0) (v:=.pointer (some ⟨g.blk,g.off+0,none⟩)) ?_ (.ptr id 0 g r1) hK
   simp only [execOp,ho,ev,aCj]
   have hsh:=aKe k2
   rw [k3.2] at hsh
   rw [Lib.run_from_unsafe w _ ht hu hj hsh (by
    grind)]
   rfl
  grind
 grind
theorem bHf : aI3 ≠ "runtime.NumGoroutine" := by
 have h : (aI3 == "runtime.NumGoroutine") = false := by rfl
 grind
theorem aK0 {fn:Func} (h:fn.name=aI3):Extern.find fn=some Extern.AbiNoEscape.same:=by
 have h1:(Extern.allGenericRows.lookup aI3).isNone=true:=by rfl
 have h2:(Extern.allTypedRows.lookup aI3).isNone=true:=by rfl
 have h3:Extern.allRows.lookup aI3=some Extern.AbiNoEscape.same:=by rfl
 have h1':=Option.isNone_iff_eq_none.1 h1
 have h2':=Option.isNone_iff_eq_none.1 h2
 simp [Extern.find,h,h1',h2',h3]
theorem aR8 (hd:aA2 n o.dst=true) {c:Call} {f:Nat} {x':Src} (hc:c.callee=.value (.func f)) (hb:aKj P f=true) (hq:opds n c.args.toList=some [x']) (ho:o.op=.call c):aA6 P D n o (.mov o.dst x'):=by
 intro s G a w K next Q h hg hn hfree
 unfold aKj at hb
 split at hb
 ·rename_i fn hf
  simp only [Bool.and_eq_true,beq_iff_eq] at hb
  obtain ⟨⟨b1,b2⟩,b3⟩:=hb
  obtain ⟨l1,l2⟩:=aDu hg hq
  match hl:c.args.toList,l1 with
  | [x],_ =>
    rw [hl] at l2 hq
    have rx:=l2 0 _ rfl
    have ha:c.args=#[x]:=by grind
    refine aAu hg hd hn (x:=s.ev x') (v:=a.eval x) ?_ (by grind) h
    simp only [execOp,ho,resolve,hc,ha]
    have:=run_callFunc_extern (w:=w) hf (by simp [b2,bHf]) b1 (Option.isNone_iff_eq_none.1 b3) (aK0 b2) #[a.eval x]
    rw [Lib.run_noEscape] at this
    simp [Act.eval,Deferred.ofValue,invoke] at this ⊢
    omega
 grind
theorem bC6 (hd:aA2 n o.dst=true) {c:Call} {x:Operand} {x':Src} (hx:opd n x=some x') (hc:c.callee=.builtin .unsafeSliceData) (ha:c.args.toList=[x]) (ho:o.op=.call c):aA6 P D n o (.sdata o.dst x'):=by
 intro s G a w K next Q h hg hn hfree
 have rx:=aAi hg hx
 have ha':c.args=#[x]:=by grind
 simp only [aAb] at h
 split at h
 ·rename_i hb
  rw [hb] at rx
  refine aAu hg hd hn (x:=.nilp) (v:=.pointer none) ?_ .nilp h
  simp only [execOp,ho,resolve,hc,ha']
  simp [invoke,builtin,aC0 rx,Lib.run_unsafeSliceData_nil]
 ·rename_i id sz off l hb
  rw [hb] at rx
  obtain ⟨g,base,cap,ev,r1,r2,r3,r4,r5,r6⟩:=aDp rx
  have hcap:0<cap:=by omega
  refine aAu hg hd hn (x:=.eptr id off 0) (v:=.pointer (some ⟨g.blk,g.off+off*g.sz+0,none⟩)) ?_ (.eptr id off 0 g r1) h.2
  simp only [execOp,ho,resolve,hc,ha']
  rw [r6 hcap] at ev
  simp [invoke,builtin,ev,Lib.run_unsafeSliceData_row w _ _ _ _ _ (show cap≠0 by omega),r2]
 grind
theorem aIs {e:TypeId} (hc:P.cellsOf e=1) (count off n:Nat) (hn:off+n≤count):liesAt P P.depth e count off e n=true:=by
 have hd:P.depth=(2*(P.types.size+Made.depth)+1)+1:=rfl
 rw [hd]
 simp only [liesAt,Bool.or_eq_true]
 left
 rw [hd]
 simp [rowAt,hc,hn,sameLayout,Nat.mod_one]
theorem aZ7 (pt it ty e:TypeId) (hp:P.underlying pt=some (.pointer e)) (hc:P.cellsOf e=1) (g off cells:Nat) (hsh:w.shape? g=some (e,cells)) (l:List UInt8) (h0:l≠[]) (hn:off+l.length≤cells) (h63:l.length≤9223372036854775807)
 (hcell:∀ j x,l[j]?=some x→w.cell? ((⟨g,off,none⟩:Addr).add j)=some (.int .u8 x.toNat)) :
 (Builtin.unsafeString_ #[pt,it] ty #[.pointer (some ⟨g,off,none⟩),.int .i64 l.length]).run P w=.ok (.string ⟨l.toArray⟩) (w.freeze ⟨g,off,none⟩ l.length):=by
 have hl:l.length≠0:=by grind
 have hlb:=Lib.run_loadBytes (P:=P) w l ⟨g,off,none⟩ .empty hcell
 have hlies:=aIs (P:=P) hc (cells / P.cellsOf e) off l.length (by grind)
 have h63':¬ (9223372036854775807:Int)<(l.length:Int):=by omega
 obtain ⟨s1,s2,s3,hdef⟩:∃ s1 s2 s3:String,Builtin.unsafeString_ #[pt,it] ty #[.pointer (some ⟨g,off,none⟩),.int .i64 l.length] =
  (do
   let n ← asInt (.int .i64 l.length)
   if n<0 then runtimePanic (.error s1)
   if n>IntKind.i64.max then unsupported (.unsafePointer s2)
   if n=0 then pure (.string .empty)
   else if ← variablesAt ⟨g,off,none⟩ (← elemOf pt) n.toNat then do
    let s ← loadBytes ⟨g,off,none⟩ .empty n.toNat
    freeze ⟨g,off,none⟩ n.toNat
    pure (.string s)
   else unsupported (.unsafePointer s3)):=⟨_,_,_,rfl⟩
 rw [hdef]
 have hmax:IntKind.i64.max=9223372036854775807:=rfl
 have hneg:¬ (l.length:Int)<0:=by omega
 simp [asInt,asIntOf,hmax,h63',hneg,hl,variablesAt,hsh,elemOf,run_underlying hp,hlies,hlb]
theorem aMu {b off k x:Nat} (h:x≠b):(w.freeze ⟨b,off,none⟩ k).heap[x]?=w.heap[x]?:=by
 unfold World.freeze
 grind
theorem aOc {b off k:Nat}:(w.freeze ⟨b,off,none⟩ k).heap.size=w.heap.size:=by
 unfold World.freeze
 grind
theorem aOg {b off k:Nat}:(w.freeze ⟨b,off,none⟩ k).os=w.os∧(w.freeze ⟨b,off,none⟩ k).tape=w.tape∧(w.freeze ⟨b,off,none⟩ k).output=w.output:=by
 unfold World.freeze
 grind
theorem Good.lose (hg:Good P D n s G a w) {id:Nat} {ty sz:Nat} {es:List V} {g:GB} (hL:s.L id=some (.vec ty sz es)) (hG:G id=some g) (hc:0<g.cap) {w':World} (ho:∀ x,x≠g.blk→w'.heap[x]?=w.heap[x]?) (hs:w'.heap.size=w.heap.size)
 (h1:w'.os=w.os) (h2:w'.tape=w.tape) (h3:w'.output=w.output):Good P D n (s.drop id) G a w'∧Nxt s.L G w (s.drop id).L G w':=by
 have hLi:∀ i b,(s.drop id).L i=some b→s.L i=some b∧i≠id:=fun i b hb=>by
  by_cases e:i=id
  ·subst e; simp [St.drop,aAe] at hb
  ·simp only [St.drop,aAd _ _ _ _ e] at hb; grind
 have hx:Nxt s.L G w (s.drop id).L G w':=by
  refine ⟨G.le_refl,⟨by omega,fun x hx hn=>ho x fun e=>hn ?_⟩,?_,h1,h2,h3⟩
  ·subst e; exact ⟨id,_,g,hL,hG,hc,rfl⟩
  ·rintro x _ ⟨i,b,gi,q1,q2,q3⟩
   exact ⟨i,b,gi,(hLi i b q1).1,q2,q3⟩
 refine ⟨hg.later hx ?_,hx⟩
 refine hg.hp.turn (fun _=>False) hx hg.hp.fin (fun i b hl _=>(hLi i b hl).1) (fun i b gi x hl _ hgi hoc=>?_) (fun _ _ _ _ _ h=>h) (fun _ _ h=>h.elim) (fun _ _ _ h=>h.elim)
 refine ho x fun e=>?_
 subst e
 exact hg.hp.apart i id b _ gi g _ (hLi i b hl).1 hL hgi hG (hLi i b hl).2 hoc ⟨hc,rfl⟩
theorem bHu (hd:aA2 n o.dst=true) {c:Call} {x y:Operand} {x' y':Src} {pt it e:TypeId} (hq:opds n c.args.toList=some [x',y']) (ha:c.args.toList=[x,y]) (hx:opd n x=some x') (hy:opd n y=some y') (hc:c.callee=.builtin .unsafeString)
 (hat:c.argTypes.toList=[pt,it]) (hp:P.underlying pt=some (.pointer e)) (he:P.cellsOf e=1) (ho:o.op=.call c):aA6 P D n o (.ustr o.dst e x' y'):=by
 intro s G a w K next Q h hg hn hfree
 have rx:=aAi hg hx
 have ry:=aAi hg hy
 have ha':c.args=#[x,y]:=by grind
 have hat':c.argTypes=#[pt,it]:=by grind
 simp only [aAb] at h
 split at h
 ·rename_i m hb hc'
  rw [hb] at rx
  rw [hc'] at ry
  obtain ⟨rfl,hK⟩:=h
  have ex:a.eval x=.pointer none:=bAr rx
  refine aAu hg hd hn (x:=.str []) (v:=.string ⟨#[]⟩) ?_ (.str [] (Nat.two_pow_pos 63)) hK
  simp only [execOp,ho,resolve,hc,ha',hat']
  simp [invoke,builtin,ex,aAy ry,Lib.run_unsafeString_none]
  rfl
 ·rename_i id i j m hb hc'
  rw [hb] at rx
  rw [hc'] at ry
  split at h
  ·rename_i ty' sz es hL
   obtain ⟨rfl,rfl,rfl,rfl,hm,hle,bs,hbs,hK⟩:=h
   obtain ⟨g,r1,ev⟩:=aF2 rx
   obtain ⟨g',k1,e1,e2,e3,e4,e5⟩:=hg.hp.blk _ _ hL
   obtain rfl:g=g':=Option.some.inj (r1.symm.trans k1)
   have hcap:0<g.cap:=by omega
   obtain ⟨c',ty,fr,k2,k3,k4,k5⟩:=e5 hcap
   have hbl:bs.length=m.toNat:=by
    have:=congrArg List.length hbs
    simp [aAv] at this
    omega
   have hm':m=(bs.length:Int):=by grind
   have hne:bs≠[]:=fun e=>by grind
   have hcell:∀ (j:Nat) (x:UInt8),bs[j]?=some x→w.cell? ((⟨g.blk,g.off,none⟩:Addr).add j)=some (.int .u8 x.toNat):=fun j x hj=>by
    have hj2:j<m.toNat:=by
     grind
    have hej:es[j]?=some (.int .u8 x.toNat):=by
     have e1:(es.take m.toNat)[j]?=es[j]?:=List.getElem?_take_of_lt hj2
     rw [← e1,hbs]
     simp [aAv,hj]
    have h5:=k5 j 0 (.int .u8 x.toNat) (by rw [hej]; rfl)
    have e0:g.off+j*1+0=g.off+j:=by omega
    rw [e0] at h5
    have h6:=aAy h5
    rw [aDg]
    have hlt:g.off+j<c'.size:=by omega
    rw [aA5 k2]
    simp only [Array.getD_eq_getD_getElem?,Array.getElem?_eq_getElem hlt,Option.getD_some] at h6
    grind
   have hsh:=aKe k2
   rw [k3.2] at hsh
   have run:=aZ7 (P:=P) (w:=w) pt it o.type ty' hp he g.blk g.off c'.size hsh bs hne (by omega) (by omega) hcell
   obtain ⟨f1,f2,f3⟩:=aOg (w:=w) (b:=g.blk) (off:=g.off) (k:=bs.length)
   obtain ⟨g1,x1⟩:=hg.lose hL r1 hcap (fun x hx=>aMu hx) aOc f1 f2 f3
   have ex:a.eval x=.pointer (some ⟨g.blk,g.off,none⟩):=by grind
   have ey:a.eval y=.int .i64 bs.length:=by rw [aAy ry,hm']
   have exec:(execOp a.eval o).run P w=.ok (.value (.string ⟨bs.toArray⟩)) (w.freeze ⟨g.blk,g.off,none⟩ bs.length):=by
    simp only [execOp,ho,resolve,hc,ha',hat']
    simp [invoke,builtin,ex,ey,run]
   rw [exec]
   simp only [Oper.upon]
   have hbig:bs.length<2^63:=by omega
   exact hn _ _ _ _ hK (g1.put hd (.str bs hbig)) (by rw [aCq]; exact x1) (New.same (aB1 _ _ _))
  grind
 grind
end
end Go.Ab
namespace Go.Ab
open Go.RowKit
section
variable {P:Program} {D:Nat→Prop} {n:Nat} {hint:Nat→Nat} {s:St} {G:Ghost} {a:Act} {w:World} {o:Oper} {K:St→Prop} {next:Act→World→Prop} {Q:Exit→Act→World→Prop} {m:Option Nat}
theorem aDk {x:V} {ag:Bool} (h:x.isA=ag):pack ag x.cells=x:=by
 cases x <;> simp only [V.isA] at h <;> subst h <;> rfl
theorem aGb {G:Ghost} {D:Nat→Prop} (em:Bool):∀ (d k:Nat) (t:TypeId) (z:List Nat) (ag:Bool) (c:List V) (X:Value),aB7 P d t=some z→aB3 P t=some ag→Rep G D w (pack ag c) X→(aAx z c c).isSome=true→(Instr.checkKey em (d+k) t X).run P w=.ok () w
 | 0,k,t,z,ag,c,X,h,_,_,_=>by simp [aB7] at h
 | d+1,k,t,z,ag,c,X,h,hag,hX,hbs=>by
   obtain ⟨b,hb⟩:=Option.isSome_iff_exists.1 hbs
   have one:∀ q,z=[q]→ag=false→∃ x,aBt q x x=some b∧Rep G D w x X:=by
    intro q hz hagf
    subst hz hagf
    obtain ⟨l1,_⟩:=aC2 hb
    match c,l1 with
    | [x],_ =>
      simp only [aAx] at hb
      split at hb
      ·rename_i u v h1 h2
       simp only [Option.some.injEq] at h2 hb
       subst h2 hb
       exact ⟨x,by grind,hX⟩
      grind
   rw [show d+1+k=(d+k)+1 by omega]
   simp only [aB7] at h
   split at h
   ·rename_i fs hu
    split at h
    ·grind
    ·rename_i hst
     have:ag=true:=by simp [aB3,hu] at hag; omega
     subst this
     simp only [pack,if_true] at hX
     obtain ⟨vs,rfl,v1,v2⟩:=aCm hX
     rw [Instr.checkKey]
     simp only [Sem.run_bind,run_underlying hu,Result.andThen_ok]
     rw [← Array.forIn_toList]
     have h0:0≤c.length:=Nat.zero_le _
     have hb0:(aAx z (c.drop 0) (c.drop 0)).isSome=true:=by grind
     generalize fs.toList=L at h ⊢
     generalize (0:Nat)=acc at h h0 hb0
     clear hb one hbs
     induction L generalizing acc z with
     | nil=>simp
     | cons f L ihL =>
       simp only [aSo] at h
       split at h
       ·rename_i zf ag2 h1 h2
        split at h
        ·rename_i hc
         simp only [Bool.and_eq_true,bne_iff_ne,ne_eq,decide_eq_true_eq,Bool.or_eq_true] at hc
         obtain ⟨⟨⟨n1,n2⟩,n3⟩,n4⟩:=hc
         simp only [Option.map_eq_some_iff] at h
         obtain ⟨zr,h,rfl⟩:=h
         obtain ⟨bb,hbb⟩:=Option.isSome_iff_exists.1 hb0
         obtain ⟨a1,a2,b1,b2,t1,t2,e1,e2,l1,l2,k1,k2,rfl⟩:=aDz hbb
         have m1:acc+zf.length≤c.length:=by
          have:=congrArg List.length e1; grind
         have l3:(c.drop acc).take zf.length=a1:=by grind
         have l4:(c.drop acc).take zf.length=b1:=by grind
         have l5:c.drop (acc+zf.length)=a2:=by rw [← List.drop_drop,e1,← l1,List.drop_left]
         have l6:c.drop (acc+zf.length)=b2:=by simp_all
         have ea:a1=b1:=l3.symm.trans l4
         have eb:a2=b2:=l5.symm.trans l6
         subst ea eb
         have p1:=aGe (P:=P) (w:=w) (vs:=vs) (off:=acc) n3 h2 n4 (by omega)
         have q1:=aGc (w:=w) v1 v2 (off:=acc) (z:=zf.length) (ag:=ag2) m1 n4
         rw [l3] at q1
         have e:=aGb em d k _ _ _ _ _ h1 h2 q1 (by grind)
         have rest:=ihL (z:=zr) (acc:=acc+zf.length) h m1 (by grind)
         simp_all
        grind
       grind
   ·rename_i kk hu
    simp only [Option.some.injEq] at h
    obtain ⟨x,hxy,hx⟩:=one _ h.symm (by simp [aB3,hu] at hag; omega)
    cases x <;> simp [aBt] at hxy
    obtain rfl:=aAy hx
    simp [Instr.checkKey,run_underlying hu]
   ·rename_i hu
    simp only [Option.some.injEq] at h
    obtain ⟨x,hxy,hx⟩:=one _ h.symm (by simp [aB3,hu] at hag; omega)
    cases x <;> simp [aBt] at hxy
    obtain ⟨rfl,_⟩:=aBd hx
    simp [Instr.checkKey,run_underlying hu]
   ·rename_i hu
    simp only [Option.some.injEq] at h
    obtain ⟨x,hxy,hx⟩:=one _ h.symm (by simp [aB3,hu] at hag; omega)
    cases x <;> simp [aBt] at hxy
    obtain rfl:=aBy hx
    simp [Instr.checkKey,run_underlying hu]
   grind
def EntOk (G:Ghost) (D:Nat→Prop) (w:World) (l:List (V×V×Nat)) (es:List MapEntry):Prop :=
 l.length=es.length∧∀ (i:Nat) (k v:V) (b:Nat),l[i]?=some (k,v,b)→∃ e,es[i]?=some e∧e.born=b∧Rep G D w k e.key∧Rep G D w v e.val
theorem EntOk.tail {G:Ghost} {D:Nat→Prop} {x:V×V×Nat} {l:List (V×V×Nat)} {es:List MapEntry} (h:EntOk G D w (x::l) es):∃ e r,es=e::r∧e.born=x.2.2∧Rep G D w x.1 e.key∧Rep G D w x.2.1 e.val∧EntOk G D w l r:=by
 obtain ⟨h1,h2⟩:=h
 cases es with
 | nil=>grind
 | cons e r =>
   obtain ⟨e',k1,k2,k3,k4⟩:=h2 0 x.1 x.2.1 x.2.2 rfl
   simp only [List.getElem?_cons_zero,Option.some.injEq] at k1
   subst k1
   exact ⟨e,r,rfl,k2,k3,k4,by grind,fun i k v b hi=>by simpa using h2 (i+1) k v b (by grind)⟩
theorem aXz {es:List MapEntry} {i:Nat} {e:MapEntry} (h:es[i]?=some e):(es.getD i default)=e:=by grind
theorem aUx {G:Ghost} {D:Nat→Prop} {t:TypeId} {z:List Nat} {ag:Bool} {x:V} {X:Value} (hk:aB7 P 100 t=some z) (hag:aB3 P t=some ag) (hX:Rep G D w x X) (hx:x.isA=ag) :
 ∀ (l:List (V×V×Nat)) (es:List MapEntry) (r:Option Nat) (q:Nat),EntOk G D w l es→aD0 ag z x l=some r→(Instr.findAsking t X es q).run P w=.ok (r.map fun i=>(q+i,(es.getD i default).val)) w
 | [],es,r,q,h,hf=>by
   have:es=[]:=List.length_eq_zero_iff.1 h.1.symm
   subst this
   simp only [aD0,Option.some.injEq] at hf
   subst hf
   rfl
 | y::l,es,r,q,h,hf=>by
   obtain ⟨e,es,rfl,k2,k3,k4,k5⟩:=h.tail
   simp only [aD0] at hf
   split at hf
   ·rename_i hy
    rw [← aDk hx] at hX
    rw [← aDk hy] at k3
    split at hf
    ·rename_i hc
     simp only [Option.some.injEq] at hf
     subst hf
     have e1:=aF1 (w:=w) 100 9900 t z ag _ _ _ _ true hk hag hX k3 hc
     simp only [Instr.findAsking,Op.equal,Op.maxDepth,Sem.run_bind]
     simp_all
    ·rename_i hc
     obtain ⟨o,ho,rfl⟩:=Option.map_eq_some_iff.1 hf
     have e1:=aF1 (w:=w) 100 9900 t z ag _ _ _ _ false hk hag hX k3 hc
     rw [aDk hx] at hX
     have ih:=aUx hk hag hX hx l es o (q+1) k5 ho
     simp only [Instr.findAsking,Op.equal,Op.maxDepth,Sem.run_bind]
     erw [e1]
     simp only [Result.andThen_ok,Bool.false_eq_true,if_false]
     rw [ih]
     cases o with
     | none=>rfl
     | some i=>grind
    grind
   grind
theorem bA3 (p q:List UInt8):((⟨p.toArray⟩:ByteArray)==⟨q.toArray⟩)=decide (p=q):=by
 by_cases e:p=q
 ·subst e
  rw [(Go.MapKept.bytes_beq _ _).2 rfl]; simp
 ·rw [decide_eq_false e,Bool.eq_false_iff]
  intro h
  have:=(Go.MapKept.bytes_beq _ _).1 h
  grind
theorem aH3 {q:Nat} {x y:V} {b:Bool} (hb:aAx [q] [x] [y]=some b):aBt q x y=some b:=by
 simp only [aAx] at hb
 grind
theorem aPv {G:Ghost} {D:Nat→Prop} {kd:TypeDesc} {t:TypeId} {z:List Nat} {x y:V} {X Y:Value} {b:Bool} (hu:P.underlying t=some kd) (hk:aB7 P 100 t=some z) (hag:aB3 P t=some false) (hX:Rep G D w x X) (hY:Rep G D w y Y) (hx:x.isA=false) (hy:y.isA=false)
 (hb:aAx z x.cells y.cells=some b):Instr.sameNow kd X Y=some b:=by
 have hxc:x.cells=[x]:=by cases x <;> simp [V.isA,V.cells] at hx ⊢
 have hyc:y.cells=[y]:=by cases y <;> simp [V.isA,V.cells] at hy ⊢
 rw [hxc,hyc] at hb
 have hk:aB7 P (99+1) t=some z:=hk
 rw [aB7] at hk
 split at hk
 ·rename_i fs hu2
  simp [aB3,hu2] at hag
 ·rename_i kk hu2
  simp only [Option.some.injEq] at hk
  subst hk
  obtain rfl:kd=.int kk:=Option.some.inj (hu.symm.trans hu2)
  have hb:=aH3 hb
  cases x <;> cases y <;> simp [aBt] at hb
  obtain ⟨rfl,rfl⟩:=hb
  obtain rfl:=aAy hX
  obtain rfl:=aAy hY
  simp only [Instr.sameNow,if_true,aOs]
 ·rename_i hu2
  simp only [Option.some.injEq] at hk
  subst hk
  obtain rfl:kd=.string:=Option.some.inj (hu.symm.trans hu2)
  have hb:=aH3 hb
  cases x <;> cases y <;> simp [aBt] at hb
  subst hb
  obtain ⟨rfl,_⟩:=aBd hX
  obtain ⟨rfl,_⟩:=aBd hY
  simp only [Instr.sameNow,bA3]
 ·rename_i hu2
  simp only [Option.some.injEq] at hk
  subst hk
  obtain rfl:kd=.bool:=Option.some.inj (hu.symm.trans hu2)
  have hb:=aH3 hb
  cases x <;> cases y <;> simp [aBt] at hb
  obtain rfl:=aBy hX
  obtain rfl:=aBy hY
  subst hb
  rfl
 grind
theorem aUr {G:Ghost} {D:Nat→Prop} {kd:TypeDesc} {t:TypeId} {z:List Nat} {x:V} {X:Value} (hu:P.underlying t=some kd) (hk:aB7 P 100 t=some z) (hag:aB3 P t=some false) (hX:Rep G D w x X) (hx:x.isA=false) :
 ∀ (l:List (V×V×Nat)) (es:List MapEntry) (r:Option Nat) (q:Nat),EntOk G D w l es→aD0 false z x l=some r→Instr.findNow kd X es q=some (r.map fun i=>(q+i,(es.getD i default).val))
 | [],es,r,q,h,hf=>by
   have:es=[]:=List.length_eq_zero_iff.1 h.1.symm
   subst this
   simp only [aD0,Option.some.injEq] at hf
   subst hf
   rfl
 | y::l,es,r,q,h,hf=>by
   obtain ⟨e,es,rfl,k2,k3,k4,k5⟩:=h.tail
   simp only [aD0] at hf
   split at hf
   ·rename_i hy
    split at hf
    ·rename_i hc
     simp only [Option.some.injEq] at hf
     subst hf
     simp only [Instr.findNow,aPv hu hk hag hX k3 hx hy hc]
     rfl
    ·rename_i hc
     obtain ⟨o,ho,rfl⟩:=Option.map_eq_some_iff.1 hf
     have ih:=aUr hu hk hag hX hx l es o (q+1) k5 ho
     simp only [Instr.findNow,aPv hu hk hag hX k3 hx hy hc,ih]
     cases o with
     | none=>rfl
     | some i=>grind
    grind
   grind
theorem aKk {G:Ghost} {D:Nat→Prop} {t:TypeId} {z:List Nat} {ag:Bool} {x:V} {X:Value} (hk:aB7 P 100 t=some z) (hag:aB3 P t=some ag) (hX:Rep G D w x X) (hx:x.isA=ag)
 {l:List (V×V×Nat)} {es:List MapEntry} {r:Option Nat} (h:EntOk G D w l es) (hf:aD0 ag z x l=some r):(Instr.findKey t X es).run P w=.ok (r.map fun i=>(i,(es.getD i default).val)) w:=by
 cases hu:P.underlying t with
 | none =>
   have hk:aB7 P (99+1) t=some z:=hk
   rw [aB7,hu] at hk
   cases hk
 | some kd =>
   cases ag with
   | false =>
     have:=aUr hu hk hag hX hx l es r 0 h hf
     rw [Go.MapKept.run_findKey hu this]
     simp
   | true =>
     have hw:(match P.underlying t with | some (.array _ _) | some (.struct _)=>true | _=>false)=true:=by
      simp only [aB3,hu] at hag ⊢
      grind
     rw [run_findKey_eq w hw]
     have:=aUx hk hag hX hx l es r 0 h hf
     grind
theorem aLj {id:Nat} {v:Value} (h:Rep G D w (.map id) v):∃ g,v=.map (some g.blk)∧G id=some g:=by cases h; grind
theorem aYb {v:Value} (h:Rep G D w .nilm v):v=.map none:=by cases h; rfl
theorem aG1 {t:TypeId} {ag:Bool} {ks:List Nat} {z:V} (h:aMl P t=some (ag,ks,z)):∃ kt et zv,P.underlying t=some (.map kt et)∧aB3 P kt=some ag∧aB7 P 100 kt=some ks∧z.imm=true∧(∀ w:World,(zeroValue et).run P w=.ok zv w)∧aI8 zv=some z:=by
 unfold aMl at h
 split at h
 ·rename_i kt et hu
  split at h
  ·rename_i a b c h1 h2 h3
   split at h
   ·rename_i hz
    simp only [Option.some.injEq,Prod.mk.injEq] at h
    obtain ⟨rfl,rfl,rfl⟩:=h
    obtain ⟨zv,h4,h5⟩:=Option.bind_eq_some_iff.1 h3
    obtain ⟨i,h6,h7⟩:=Option.bind_eq_some_iff.1 h4
    exact ⟨kt,et,zv,hu,h1,h2,hz,fun w=>by simp [zeroValue,run_typeInfo w h6,h7],h5⟩
   grind
  grind
 grind
theorem bNo {d:Nat} (hd:d<n) (hdst:o.dst=some d) {t kt et:TypeId} (hu:P.underlying t=some (.map kt et)) (ho:o.op=.makeMap t none):aA6 P D n o (.mkm d):=by
 intro s G a w K next Q h hg hn hfree
 have hG:=hfree d rfl
 simp only [aAb] at h
 have run:(execOp a.eval o).run P w=.ok (.value (.map (some w.heap.size))) (w.alloc (.map #[] 0)):=by
  simp only [execOp,ho,aCj]
  rfl
 obtain ⟨g1,g2⟩:=hg.newBlk (aBg w (.map #[] 0)) hG (by omega) (.map 0 []) ⟨w.heap.size,0,0,0,0⟩ (fun x hx=>(by simp only [Occ] at hx; simp_all)) (fun G' D' hm =>
  ⟨#[],aAw _ _,rfl,fun i k v b hi=>by grind⟩)
 rw [run]
 simp only [Oper.upon,hdst]
 have g3:=g1.put (d:=some d) (x:=.map (s.nx+d)) (v:=.map (some w.heap.size)) (by simpa [aA2] using hd) (.map (s.nx+d) _ (aAe _ _ _))
 exact hn _ _ _ _ h g3 g2 (aD5 _ rfl rfl)
def bHp (w:World) (arr:Array MapEntry):Option Nat→Prop
 | none=>arr=#[]
 | some b=>∃ cl,w.heap[b]?=some (.map arr cl)
def aHr (c:Bool) (zv:Value) (l:List MapEntry):Option Nat→Value
 | some i=>if c then .tuple #[(l.getD i default).val,.bool true] else (l.getD i default).val
 | none=>if c then .tuple #[zv,.bool false] else zv
theorem aQs {t kt et:TypeId} {x k zv:Value} {c:Bool} {es:Array MapEntry} {r:Option Nat} {u:Option Nat} (hu:P.underlying t=some (.map kt et)) (hx:x=.map u) (he:bHp w es u)
 (hck:∀ em,(Instr.checkKey em 10000 kt k).run P w=.ok () w) (hf:(Instr.findKey kt k es.toList).run P w=.ok (r.map fun i=>(i,(es.toList.getD i default).val)) w) (hz:(zeroValue et).run P w=.ok zv w) :
 (Instr.lookup t x k c).run P w=.ok (aHr c zv es.toList r) w:=by
 subst hx
 unfold Instr.lookup
 cases u with
 | none =>
   have he:es=#[]:=he
   subst he
   simp only [Sem.run_bind,run_underlying hu,Result.andThen_ok,Sem.run_pure,hck,hf]
   cases r <;> simp [hz] <;> cases c <;> simp [aHr]
 | some b =>
   obtain ⟨cl,hb⟩:=he
   simp only [Sem.run_bind,run_underlying hu,Result.andThen_ok,Sem.run_pure,Go.MapKept.run_getObj_map hb,hck,hf]
   cases r <;> simp [hz] <;> cases c <;> simp [aHr]
theorem aF6 {ag:Bool} {ks:List Nat} {k:V}:∀ {l:List (V×V×Nat)} {i:Nat},aD0 ag ks k l=some (some i)→∃ e,l[i]?=some e∧e.1.isA=ag∧aAx ks k.cells e.1.cells=some true
 | [],i,h=>by simp [aD0] at h
 | e::r,i,h=>by
   simp only [aD0] at h
   split at h
   ·rename_i he
    split at h
    ·grind
    ·obtain ⟨o,ho,h2⟩:=Option.map_eq_some_iff.1 h
     cases o with
     | none=>grind
     | some j =>
       simp only [Option.map_some,Option.some.injEq] at h2
       subst h2
       obtain ⟨e',h3,h4⟩:=aF6 ho
       grind
    grind
   grind
theorem aG3 {ag:Bool} {ks:List Nat} {k:V} (h:aJi ag ks k=true):k.isA=ag∧(aAx ks k.cells k.cells).isSome=true∧k.imm=true:=by
 simp only [aJi,Bool.and_eq_true,beq_iff_eq] at h
 grind
theorem aPc {x y:V} {X Y:Value} (h1:Rep G D w x X) (h2:Rep G D w y Y):Rep G D w (.tup [x,y]) (.tuple #[X,Y]):=by
 refine .tup _ _ rfl fun i c hc=>?_
 match i,hc with
 | 0,hc=>simp_all
 | 1,hc=>simp_all
 | j+2,hc=>grind
theorem aK1 {g:GB} {c:Nat} {es:List (V×V×Nat)} {arr:Array MapEntry} (h2:arr.size=es.length) (h3:∀ (i:Nat) (k v:V) (b:Nat),es[i]?=some (k,v,b)→k.imm=true∧v.imm=true∧∃ e,arr[i]?=some e∧e.born=b∧Rep G D w k e.key∧Rep G D w v e.val):EntOk G D w es arr.toList :=
 ⟨by grind,fun i k v b hi=>by
  grind⟩
theorem aQl {ag:Bool} {ks:List Nat} {k z:V} {zv:Value} {c:Bool} {es:List (V×V×Nat)} {l:List MapEntry} {r:Option Nat} (he:EntOk G D w es l) (hf:aD0 ag ks k es=some r) (hz:Rep G D w z zv) :
 Rep G D w (mres c z es r) (aHr c zv l r):=by
 cases r with
 | none =>
   cases c
   ·exact hz
   ·exact aPc hz (.bool _)
 | some i =>
   obtain ⟨⟨k',v',b'⟩,h1,_,_⟩:=aF6 hf
   obtain ⟨e,q1,q2,q3,q4⟩:=he.2 i k' v' b' h1
   have e1:es.getD i default=(k',v',b'):=by grind
   have e2:l.getD i default=e:=aXz q1
   simp only [mres,aHr,e1,e2]
   cases c
   ·exact q4
   ·exact aPc q4 (.bool _)
theorem bHt (hd:aA2 n o.dst=true) {t:TypeId} {ag:Bool} {ks:List Nat} {z:V} {x k:Operand} {x' k':Src} {c:Bool} (hx:opd n x=some x') (hk:opd n k=some k') (hm:aMl P t=some (ag,ks,z)) (ho:o.op=.lookup t x k c):aA6 P D n o (.mget o.dst ag ks z c x' k'):=by
 intro s G a w K next Q h hg hn hfree
 have rx:=aAi hg hx
 have rk:=aAi hg hk
 obtain ⟨kt,et,zv,hu,hag,hfe,hzi,hz,hzc⟩:=aG1 hm
 simp only [aAb] at h
 obtain ⟨hko,h⟩:=h
 obtain ⟨ko1,ko2,ko3⟩:=aG3 hko
 have hck:∀ em,(Instr.checkKey em 10000 kt (a.eval k)).run P w=.ok () w:=fun em=>aGb em 100 9900 kt ks ag _ _ hfe hag (by rw [aDk ko1]; exact rk) ko2
 have fin:∀ (es:List (V×V×Nat)) (arr:Array MapEntry) (u:Option Nat) (r:Option Nat),a.eval x=.map u→bHp w arr u→EntOk G (Dp D s.L G) w es arr.toList→aD0 ag ks (s.ev k') es=some r→K (s.setO o.dst (mres c z es r))→o.upon P a next Q ((execOp a.eval o).run P w):=fun es arr u r hv hb he hf hK=>by
  have run:=aQs (c:=c) (r:=r) hu hv hb hck (aKk hfe hag rk ko1 he hf) (hz w)
  refine aAu hg hd hn (x:=mres c z es r) ?_ (aQl (c:=c) he hf (aFn hzc _ _ _)) hK
  simp only [execOp,ho,aCj]
  simp_all
 split at h
 ·rename_i hxv
  rw [hxv] at rx
  exact fin [] #[] none none (aYb rx) rfl ⟨rfl,by simp⟩ rfl h.2
 ·rename_i id hxv
  rw [hxv] at rx
  obtain ⟨g,hv,hG⟩:=aLj rx
  split at h
  ·rename_i cl es hL
   obtain ⟨r,hf,_,hK⟩:=h
   obtain ⟨g',hG',arr,k1,k2,k3⟩:=hg.hp.blk _ _ hL
   obtain rfl:g=g':=Option.some.inj (hG.symm.trans hG')
   exact fin es arr (some g.blk) r hv ⟨cl,k1⟩ (aK1 (g:=g) (c:=cl) k2 k3) hf hK
  grind
 grind
theorem aQk {q m:Nat} {x y:V} {X Y:Value} (h:aBt q x y=some true) (hx:Rep G D w x X) (hy:Rep G D w y Y):X=Y∧Instr.sameBits m X Y=true:=by
 unfold aBt at h
 split at h
 ·split at h
  ·rename_i hk
   subst hk
   simp only [Option.some.injEq,decide_eq_true_eq] at h
   subst h
   obtain rfl:=aAy hx
   obtain rfl:=aAy hy
   exact ⟨rfl,by cases m <;> simp [Instr.sameBits]⟩
  grind
 ·simp only [Option.some.injEq,decide_eq_true_eq] at h
  subst h
  obtain ⟨rfl,_⟩:=aBd hx
  obtain ⟨rfl,_⟩:=aBd hy
  exact ⟨rfl,by cases m <;> simp [Instr.sameBits,bA3]⟩
 ·rename_i a b
  simp only [Option.some.injEq,beq_iff_eq] at h
  subst h
  obtain rfl:=aBy hx
  obtain rfl:=aBy hy
  exact ⟨rfl,by cases m <;> simp [Instr.sameBits]⟩
 grind
theorem aGq:∀ {ks:List Nat} {c e:List V},aAx ks c e=some true→∀ (i:Nat) x,c[i]?=some x→∃ q y,e[i]?=some y∧aBt q x y=some true
 | [],c,e,h,i,x,hx=>by
   cases c <;> cases e <;> simp [aAx] at h
   grind
 | k::ks,c,e,h,i,x,hx=>by
   cases c with
   | nil=>grind
   | cons p c =>
     cases e with
     | nil=>simp [aAx] at h
     | cons q e =>
       simp only [aAx] at h
       split at h
       ·rename_i u v h1 h2
        simp only [Option.some.injEq,Bool.and_eq_true] at h
        obtain ⟨rfl,rfl⟩:=h
        cases i with
        | zero=>grind
        | succ i=>simpa using aGq h2 i x (by grind)
       grind
theorem aUt {ks:List Nat} {ag:Bool} {x y:V} {X Y:Value} (hx:x.isA=ag) (hy:y.isA=ag) (h:aAx ks x.cells y.cells=some true) (rx:Rep G D w x X) (ry:Rep G D w y Y):(Instr.keyThatStays Y X).run P w=.ok X w:=by
 have:Instr.sameBits 10000 Y X=true:=by
  cases ag with
  | false =>
    have hxc:x.cells=[x]:=by cases x <;> simp [V.isA,V.cells] at hx ⊢
    have hyc:y.cells=[y]:=by cases y <;> simp [V.isA,V.cells] at hy ⊢
    rw [hxc,hyc] at h
    obtain ⟨q,z,hz,hc⟩:=aGq h 0 x rfl
    simp only [List.getElem?_cons_zero,Option.some.injEq] at hz
    subst hz
    obtain ⟨e,b⟩:=aQk (m:=10000) hc rx ry
    grind
  | true =>
    cases x <;> simp [V.isA] at hx
    cases y <;> simp [V.isA] at hy
    rename_i cs ds
    obtain ⟨vs,rfl,v1,v2⟩:=aCm rx
    obtain ⟨us,rfl,u1,u2⟩:=aCm ry
    simp only [V.cells] at h
    obtain ⟨l1,l2⟩:=aC2 h
    have hs:us.size=vs.size:=by omega
    have key:∀ (i:Nat) (hi:i<vs.size) (hi2:i<us.size),Instr.sameBits 9999 us[i] vs[i]=true:=fun i hi hi2=>by
     obtain ⟨q,z,hz,hc⟩:=aGq h i cs[i] (by simp)
     have r1:=v2 i cs[i] (by simp)
     have r2:=u2 i z hz
     rw [Array.getD_eq_getD_getElem?,Array.getElem?_eq_getElem hi] at r1
     rw [Array.getD_eq_getD_getElem?,Array.getElem?_eq_getElem hi2] at r2
     obtain ⟨e,b⟩:=aQk (m:=9999) hc r1 r2
     grind
    show Instr.sameBits (9999+1) (.agg us) (.agg vs)=true
    simp only [Instr.sameBits,hs,beq_self_eq_true,Bool.true_and,List.all_eq_true]
    intro p hp
    obtain ⟨i,hi,rfl⟩:=List.mem_iff_getElem.1 hp
    grind
 simp [Instr.keyThatStays,this]
theorem Good.turnMap (hg:Good P D n s G a w) {id c c':Nat} {es es':List (V×V×Nat)} {g:GB} {arr':Array MapEntry} (hL:s.L id=some (.map c es)) (hG:G id=some g) (he:EntOk G (Dp D s.L G) w es' arr'.toList) (hi:∀ (i:Nat) (k v:V) (b:Nat),es'[i]?=some (k,v,b)→k.imm=true∧v.imm=true) :
 Good P D n (s.put id (.map c' es')) G a { w with heap:=w.heap.setIfInBounds g.blk (.map arr' c') }∧Nxt s.L G w (s.put id (.map c' es')).L G { w with heap:=w.heap.setIfInBounds g.blk (.map arr' c') }:=by
 obtain ⟨g',hG',arr,k1,k2,k3⟩:=hg.hp.blk _ _ hL
 obtain rfl:g=g':=Option.some.inj (hG.symm.trans hG')
 obtain ⟨h1,h2⟩:=Go.MapKept.heap_set (o':=.map arr' c') k1
 exact hg.turnBlk (b':=.map c' es') hL hG (fun x=>Iff.rfl) (fun x h=>h) (fun x hx=>h2 x hx) rfl (by simp) rfl rfl rfl fun G' D' hm =>
  ⟨arr',h1,by have:=he.1; grind,fun i k v b hk=>by
   obtain ⟨q1,q2⟩:=hi i k v b hk
   obtain ⟨e,r1,r2,r3,r4⟩:=he.2 i k v b hk
   grind⟩
def aEr (arr:Array MapEntry) (c:Nat) (K V:Value):Option Nat→Array MapEntry
 | some i=>arr.modify i fun e=>{ e with key:=K,val:=V }
 | none=>arr.push { key:=K,val:=V,born:=c }
def putC (c:Nat):Option Nat→Nat
 | some _=>c
 | none=>c+1
def aO6 (c:Nat) (es:List (V×V×Nat)) (k v:V):Option Nat→List (V×V×Nat)
 | some i=>es.set i (k,v,(es.getD i default).2.2)
 | none=>es++[(k,v,c)]
theorem aQf (c:Nat) (es:List (V×V×Nat)) (k v:V) (r:Option Nat):aLa c es k v r=.map (putC c r) (aO6 c es k v r):=by cases r <;> rfl
theorem aV3 {ag:Bool} {ks:List Nat} {k v:V} {Kv Vv:Value} {c:Nat} {es:List (V×V×Nat)} {arr:Array MapEntry} {r:Option Nat} (he:EntOk G D w es arr.toList) (hf:aD0 ag ks k es=some r) (rk:Rep G D w k Kv) (rv:Rep G D w v Vv) :
 EntOk G D w (aO6 c es k v r) (aEr arr c Kv Vv r).toList:=by
 cases r with
 | none =>
   refine ⟨by simp [aO6,aEr,he.1],fun i k' v' b hi=>?_⟩
   simp only [aO6] at hi
   by_cases hl:i<es.length
   ·rw [List.getElem?_append_left hl] at hi
    obtain ⟨e,q⟩:=he.2 i k' v' b hi
    refine ⟨e,?_,q.2⟩
    have hla:i<arr.size:=by grind
    have:=q.1
    simp only [aEr,Array.toList_push,Array.getElem?_toList] at this ⊢
    grind
   ·have hie:i=es.length:=by
     grind
    subst hie
    rw [List.getElem?_append_right (Nat.le_refl _),Nat.sub_self] at hi
    simp only [List.getElem?_cons_zero,Option.some.injEq,Prod.mk.injEq] at hi
    obtain ⟨rfl,rfl,rfl⟩:=hi
    refine ⟨{ key:=Kv,val:=Vv,born:=c },?_,rfl,rk,rv⟩
    have hla:es.length=arr.size:=by have:=he.1; omega
    simp [aEr,hla]
 | some j =>
   obtain ⟨⟨k0,v0,b0⟩,h1,_,_⟩:=aF6 hf
   obtain ⟨e0,q1,q2,q3,q4⟩:=he.2 j k0 v0 b0 h1
   have hjl:j<es.length:=(List.getElem?_eq_some_iff.1 h1).1
   have e1:es.getD j default=(k0,v0,b0):=by grind
   refine ⟨by simp [aO6,aEr,he.1],fun i k' v' b hi=>?_⟩
   simp only [aO6,e1] at hi
   by_cases hij:j=i
   ·subst hij
    rw [List.getElem?_set_self hjl] at hi
    simp only [Option.some.injEq,Prod.mk.injEq] at hi
    obtain ⟨rfl,rfl,rfl⟩:=hi
    refine ⟨{ e0 with key:=Kv,val:=Vv },?_,q2,rk,rv⟩
    simp only [Array.getElem?_toList] at q1
    simp [aEr,Array.getElem?_modify,q1]
   ·rw [List.getElem?_set_ne hij] at hi
    obtain ⟨e,q⟩:=he.2 i k' v' b hi
    refine ⟨e,?_,q.2⟩
    have:=q.1
    simp only [Array.getElem?_toList] at this
    simp [aEr,Array.getElem?_modify,hij,this]
theorem aVc {ag:Bool} {ks:List Nat} {k v:V} {c:Nat} {es:List (V×V×Nat)} {r:Option Nat} (h:∀ (i:Nat) (k v:V) (b:Nat),es[i]?=some (k,v,b)→k.imm=true∧v.imm=true) (hk:k.imm=true) (hv:v.imm=true) :
 ∀ (i:Nat) (k' v':V) (b:Nat),(aO6 c es k v r)[i]?=some (k',v',b)→k'.imm=true∧v'.imm=true:=by
 intro i k' v' b hi
 have hm:=List.mem_of_getElem? hi
 cases r with
 | none =>
   rcases List.mem_append.1 hm with hm | hm
   ·obtain ⟨j,hj,e⟩:=List.mem_iff_getElem.1 hm
    exact h j k' v' b (by grind)
   grind
 | some j =>
   rcases List.mem_or_eq_of_mem_set hm with hm | hm
   ·obtain ⟨j,hj,e⟩:=List.mem_iff_getElem.1 hm
    exact h j k' v' b (by grind)
   grind
theorem aTf {es:List (V×V×Nat)} {arr:Array MapEntry} (h3:∀ (i:Nat) (k v:V) (b:Nat),es[i]?=some (k,v,b)→k.imm=true∧v.imm=true∧∃ e,arr[i]?=some e∧e.born=b∧Rep G D w k e.key∧Rep G D w v e.val) :
 ∀ (i:Nat) (k v:V) (b:Nat),es[i]?=some (k,v,b)→k.imm=true∧v.imm=true:=fun i k v b h=>⟨(h3 i k v b h).1,(h3 i k v b h).2.1⟩
theorem aQ4 {t kt et:TypeId} {k v:Value} {b:Nat} {cl:Nat} {arr:Array MapEntry} {r:Option Nat} (hu:P.underlying t=some (.map kt et)) (hb:w.heap[b]?=some (.map arr cl))
 (hck:∀ em,(Instr.checkKey em 10000 kt k).run P w=.ok () w) (hf:(Instr.findKey kt k arr.toList).run P w=.ok (r.map fun i=>(i,(arr.toList.getD i default).val)) w) (hs:∀ i,r=some i→(Instr.keyThatStays (((arr[i]?).map (·.key)).getD k) k).run P w=.ok k w) :
 (Instr.mapUpdate t (.map (some b)) k v).run P w=.ok () { w with heap:=w.heap.setIfInBounds b (.map (aEr arr cl k v r) (putC cl r)) }:=by
 unfold Instr.mapUpdate
 simp only [Sem.run_bind,run_underlying hu,Result.andThen_ok,Go.MapKept.run_getObj_map hb,hck,hf]
 cases r with
 | none=>simp only [Option.map_none]; rw [Go.MapKept.run_setObj_map _ hb]; rfl
 | some i =>
   simp only [Option.map_some,Sem.run_bind,hs i rfl,Result.andThen_ok]
   rw [Go.MapKept.run_setObj_map _ hb]; rfl
theorem aP6 {kt:TypeId} {ag:Bool} {ks:List Nat} {k:V} {Kv:Value} {es:List (V×V×Nat)} {arr:Array MapEntry} {r:Option Nat} (he:EntOk G D w es arr.toList) (hk:k.isA=ag) (hf:aD0 ag ks k es=some r) (rk:Rep G D w k Kv) :
 ∀ i,r=some i→(Instr.keyThatStays (((arr[i]?).map (·.key)).getD Kv) Kv).run P w=.ok Kv w:=by
 rintro i rfl
 obtain ⟨⟨k0,v0,b0⟩,h1,h2,h3⟩:=aF6 hf
 obtain ⟨e0,q1,q2,q3,q4⟩:=he.2 i k0 v0 b0 h1
 simp only [Array.getElem?_toList] at q1
 rw [q1]
 exact aUt hk h2 h3 rk q3
theorem bF7 {t:TypeId} {ag:Bool} {ks:List Nat} {z:V} {x k v:Operand} {x' k' v':Src} (hx:opd n x=some x') (hk:opd n k=some k') (hv:opd n v=some v') (hm:aMl P t=some (ag,ks,z)) (hdst:o.dst=none) (ho:o.op=.mapUpdate t x k v):aA6 P D n o (.mput ag ks x' k' v'):=by
 intro s G a w K next Q h hg hn hfree
 have rx:=aAi hg hx
 have rk:=aAi hg hk
 have rv:=aAi hg hv
 obtain ⟨kt,et,zv,hu,hag,hfe,hzi,hz,hzc⟩:=aG1 hm
 simp only [aAb] at h
 obtain ⟨hko,hvi,h⟩:=h
 obtain ⟨ko1,ko2,ko3⟩:=aG3 hko
 have hck:∀ em,(Instr.checkKey em 10000 kt (a.eval k)).run P w=.ok () w:=fun em=>aGb em 100 9900 kt ks ag _ _ hfe hag (by rw [aDk ko1]; exact rk) ko2
 split at h
 ·rename_i id hxv
  rw [hxv] at rx
  obtain ⟨g,hv,hG⟩:=aLj rx
  split at h
  ·rename_i cl es hL
   obtain ⟨r,hf,hK⟩:=h
   obtain ⟨g',hG',arr,k1,k2,k3⟩:=hg.hp.blk _ _ hL
   obtain rfl:g=g':=Option.some.inj (hG.symm.trans hG')
   have he:EntOk G (Dp D s.L G) w es arr.toList:=aK1 (g:=g) (c:=cl) k2 k3
   have run:=aQ4 (v:=a.eval v) (r:=r) hu k1 hck (aKk hfe hag rk ko1 he hf) (aP6 (kt:=kt) he ko1 hf rk)
   obtain ⟨g1,g2⟩:=hg.turnMap (c':=putC cl r) hL hG (aV3 (c:=cl) he hf rk rv) (aVc (ag:=ag) (ks:=ks) (aTf k3) ko3 hvi)
   have:(execOp a.eval o).run P w=.ok .skip { w with heap:=w.heap.setIfInBounds g.blk (.map (aEr arr cl (a.eval k) (a.eval v) r) (putC cl r)) }:=by
    simp only [execOp,ho,hv,Sem.run_bind,run,Result.andThen_ok,Sem.run_pure]
   rw [this]
   simp only [Oper.upon,hdst,Act.put]
   rw [aQf] at hK
   exact hn _ _ _ _ hK g1 g2 (New.same rfl)
  grind
 grind
def aP1 (arr:Array MapEntry) (c:Nat) (K zv:Value):Option Nat→Array MapEntry
 | some i=>arr.modify i fun e=>{ e with key:=K }
 | none=>arr.push { key:=K,val:=zv,born:=c }
theorem aW5 {arr:Array MapEntry} {c:Nat} {K zv:Value} {r:Option Nat}:aP1 arr c K zv r=aEr arr c K (aHr false zv arr.toList r) r:=by
 cases r with
 | none=>rfl
 | some i =>
   apply Array.ext_getElem?
   intro k
   simp only [aP1,aEr,Array.getElem?_modify]
   by_cases hik:i=k
   ·subst hik
    cases h:arr[i]? with
    | none=>rfl
    | some e=>simp [aHr,List.getD,h]
   grind
def aJo (arr:Array MapEntry) (c:Nat):Option Nat→Nat
 | some i=>((arr[i]?).map (·.born)).getD 0
 | none=>c
theorem aTw {t kt et:TypeId} {k zv:Value} {b:Nat} {cl:Nat} {arr:Array MapEntry} {r:Option Nat} (hu:P.underlying t=some (.map kt et)) (hb:w.heap[b]?=some (.map arr cl)) (hz:(zeroValue et).run P w=.ok zv w)
 (hck:∀ em,(Instr.checkKey em 10000 kt k).run P w=.ok () w) (hf:(Instr.findKey kt k arr.toList).run P w=.ok (r.map fun i=>(i,(arr.toList.getD i default).val)) w) (hs:∀ i,r=some i→(Instr.keyThatStays (((arr[i]?).map (·.key)).getD k) k).run P w=.ok k w) :
 (Instr.mapEntry t (.map (some b)) k).run P w=.ok (.tuple #[aHr false zv arr.toList r,goInt (aJo arr cl r)]) { w with heap:=w.heap.setIfInBounds b (.map (aP1 arr cl k zv r) (putC cl r)) }:=by
 unfold Instr.mapEntry
 simp only [Sem.run_bind,run_underlying hu,Result.andThen_ok,Go.MapKept.run_getObj_map hb,hck,hf]
 cases r with
 | none =>
   simp only [Option.map_none,Sem.run_bind,hz,Result.andThen_ok,Go.MapKept.run_setObj_map _ hb]
   rfl
 | some i =>
   simp only [Option.map_some,Sem.run_bind,hs i rfl,Result.andThen_ok,Go.MapKept.run_setObj_map _ hb]
   cases h:arr[i]? <;> simp [aJo,h,aHr,aP1,putC]
theorem bIq (hd:aA2 n o.dst=true) {t:TypeId} {ag:Bool} {ks:List Nat} {z:V} {x k:Operand} {x' k':Src} (hx:opd n x=some x') (hk:opd n k=some k') (hm:aMl P t=some (ag,ks,z)) (ho:o.op=.mapEntry t x k):aA6 P D n o (.ment o.dst ag ks z x' k'):=by
 intro s G a w K next Q h hg hn hfree
 have rx:=aAi hg hx
 have rk:=aAi hg hk
 obtain ⟨kt,et,zv,hu,hag,hfe,hzi,hz,hzc⟩:=aG1 hm
 simp only [aAb] at h
 obtain ⟨hko,h⟩:=h
 obtain ⟨ko1,ko2,ko3⟩:=aG3 hko
 have hck:∀ em,(Instr.checkKey em 10000 kt (a.eval k)).run P w=.ok () w:=fun em=>aGb em 100 9900 kt ks ag _ _ hfe hag (by rw [aDk ko1]; exact rk) ko2
 split at h
 ·rename_i id hxv
  rw [hxv] at rx
  obtain ⟨g,hv,hG⟩:=aLj rx
  split at h
  ·rename_i cl es hL
   obtain ⟨r,hf,hmi,hK⟩:=h
   obtain ⟨g',hG',arr,k1,k2,k3⟩:=hg.hp.blk _ _ hL
   obtain rfl:g=g':=Option.some.inj (hG.symm.trans hG')
   have he:EntOk G (Dp D s.L G) w es arr.toList:=aK1 (g:=g) (c:=cl) k2 k3
   have rm:=aQl (c:=false) he hf (aFn hzc G (Dp D s.L G) w)
   have run:=aTw (r:=r) hu k1 (hz w) hck (aKk hfe hag rk ko1 he hf) (aP6 (kt:=kt) he ko1 hf rk)
   rw [aW5] at run
   obtain ⟨g1,g2⟩:=hg.turnMap (c':=putC cl r) hL hG (aV3 (c:=cl) he hf rk rm) (aVc (ag:=ag) (ks:=ks) (aTf k3) ko3 hmi)
   have hst:aJo arr cl r=aJz cl es r:=by
    cases r with
    | none=>rfl
    | some i =>
      obtain ⟨⟨k0,v0,b0⟩,h1,_,_⟩:=aF6 hf
      obtain ⟨e,q1,q2,_⟩:=(k3 i k0 v0 b0 h1).2.2
      simp [aJo,aJz,q1,q2,List.getD,h1]
   have:(execOp a.eval o).run P w=.ok (.value (.tuple #[aHr false zv arr.toList r,goInt (aJo arr cl r)])) { w with heap:=w.heap.setIfInBounds g.blk (.map (aEr arr cl (a.eval k) (aHr false zv arr.toList r) r) (putC cl r)) }:=by
    simp only [execOp,ho,aCj,hv]
    simp_all
   rw [this]
   simp only [Oper.upon]
   rw [aQf] at hK
   have g3:=g1.put hd (x:=.tup [mres false z es r,.int .i64 (aJz cl es r)]) (v:=.tuple #[aHr false zv arr.toList r,goInt (aJo arr cl r)]) (aPc (g2.rep rm) (by rw [hst]; exact .int _ _))
   exact hn _ _ _ _ hK g3 (by rw [aCq]; exact g2) (New.same (aB1 _ _ _))
  grind
 grind
theorem aW0 {t:TypeId} {v:Value} {b:Nat} {cl i:Nat} {m:Int} {arr:Array MapEntry} (hb:w.heap[b]?=some (.map arr cl)) (hi:arr.findIdx? (fun e=>(e.born:Int)==m)=some i) :
 (Instr.entryStore t (.map (some b)) (.int .i64 m) v).run P w=.ok () { w with heap:=w.heap.setIfInBounds b (.map (arr.modify i fun e=>{ e with val:=v }) cl) }:=by
 unfold Instr.entryStore
 simp only [Sem.run_bind,Result.andThen_ok,Sem.run_pure,Go.MapKept.run_getObj_map hb,asInt,asIntOf,hi,Go.MapKept.run_setObj_map _ hb]
theorem bKz {t:TypeId} {x k v:Operand} {x' k' v':Src} (hx:opd n x=some x') (hk:opd n k=some k') (hv:opd n v=some v') (hdst:o.dst=none) (ho:o.op=.entryStore t x k v):aA6 P D n o (.mst x' k' v'):=by
 intro s G a w K next Q h hg hn hfree
 have rx:=aAi hg hx
 have rk:=aAi hg hk
 have rv:=aAi hg hv
 simp only [aAb] at h
 obtain ⟨hvi,h⟩:=h
 split at h
 ·rename_i id m hxv hkv
  rw [hxv] at rx
  rw [hkv] at rk
  obtain ⟨g,hv,hG⟩:=aLj rx
  have hkm:=aAy rk
  split at h
  ·rename_i cl es hL
   obtain ⟨i,hf,hK⟩:=h
   obtain ⟨g',hG',arr,k1,k2,k3⟩:=hg.hp.blk _ _ hL
   obtain rfl:g=g':=Option.some.inj (hG.symm.trans hG')
   have he:EntOk G (Dp D s.L G) w es arr.toList:=aK1 (g:=g) (c:=cl) k2 k3
   have hmap:es.map (fun e=>e.2.2)=arr.toList.map (·.born):=by
    apply List.ext_getElem?
    grind
   have hfi:arr.findIdx? (fun e=>(e.born:Int)==m)=some i:=by
    have hf2:(es.map (fun e=>e.2.2)).findIdx? (fun b:Nat=>(b:Int)==m)=some i:=by
     rw [List.findIdx?_map]; exact hf
    rw [hmap,List.findIdx?_map] at hf2
    have e2:=List.findIdx?_toArray (fun e:MapEntry=>(e.born:Int)==m) arr.toList
    rw [Array.toArray_toList] at e2
    exact e2.trans hf2
   have hil:i<es.length:=by
    have:=List.findIdx?_eq_some_iff_getElem.1 hf
    grind
   obtain ⟨⟨k0,v0,b0⟩,hgi⟩:∃ q,es[i]?=some q:=⟨es[i],by simp⟩
   have e1:es.getD i default=(k0,v0,b0):=by grind
   obtain ⟨e0,q1,q2,q3,q4⟩:=he.2 i k0 v0 b0 hgi
   have run:=aW0 (P:=P) (t:=t) (v:=a.eval v) k1 hfi
   rw [e1] at hK
   have he':EntOk G (Dp D s.L G) w (es.set i (k0,s.ev v',b0)) (arr.modify i fun e=>{ e with val:=a.eval v }).toList:=by
    refine ⟨by grind,fun j k' v'' b hj=>?_⟩
    grind
   obtain ⟨g1,g2⟩:=hg.turnMap (c':=cl) hL hG he' fun j k' v'' b hj=>by
    grind
   have:(execOp a.eval o).run P w=.ok .skip { w with heap:=w.heap.setIfInBounds g.blk (.map (arr.modify i fun e=>{ e with val:=a.eval v }) cl) }:=by
    simp only [execOp,ho,hv,hkm,Sem.run_bind,run,Result.andThen_ok,Sem.run_pure]
   rw [this]
   simp only [Oper.upon,hdst,Act.put]
   exact hn _ _ _ _ hK g1 g2 (New.same rfl)
  grind
 grind
end
end Go.Ab
namespace Go.Ab
open Go.RowKit
theorem aZr {P:Program} {d:Option Nat} {sz:Nat} {ag:Bool} {x:Src} {s:St} {K:St→Prop} (h:aAb P (.ldo d sz ag x) s K):aAb P (.load d false sz ag x) s K:=by
 simp only [aAb] at h ⊢
 grind
theorem bAb {P:Program} {d:Option Nat} {sz:Nat} {ag:Bool} {x:Src} {b:Nat} {s:St} {K:St→Prop} (h:aAb P (.ldr d sz ag x b) s K):aAb P (.load d false sz ag x) s K:=by
 simp only [aAb] at h ⊢
 grind
theorem bFt {P:Program} {d ty sz:Nat} {x y:Src} {s:St} {K:St→Prop} (h:aAb P (.apq d ty sz x y) s K):aAb P (.app d ty sz x y) s K:=by
 simp only [aAb] at h ⊢
 refine .inr ?_
 simp only [aCf]
 generalize s.ev x=v at h ⊢
 generalize s.ev y=u at h ⊢
 cases v with
 | own id sz' off n =>
   simp only at h ⊢
   generalize s.L id=b at h ⊢
   match b,u,h with
   | some (.vec _ _ es),.lst _ ys,h=>exact ⟨h.1,h.2.1,h.2.2.1,h.2.2.2.1,h.2.2.2.2.1,h.2.2.2.2.2⟩
 | _=>grind
section
variable {P:Program} {D:Nat→Prop} {n:Nat} {hint:Nat→Nat} {s:St} {G:Ghost} {a:Act} {w:World} {o:Oper} {K:St→Prop} {next:Act→World→Prop} {Q:Exit→Act→World→Prop} {m:Option Nat}
theorem aB5 {d:Nat} (hd:aA2 n o.dst=true) (h:o.dst=some d):d<n:=by
 rw [h] at hd; simpa [aA2] using hd
theorem bEv {i:I} (hd:aA2 n o.dst=true) {op:BinOp} {t t':TypeId} {x y:Operand} (hop:o.op=.binOp op t x y t') (h:lowI P n hint o=some i):aA6 P D n o i:=by
 simp only [lowI,hop] at h
 split at h
 ·rename_i p q hx hy
  split at h
  ·rename_i he
   simp only [Bool.or_eq_true,beq_iff_eq] at he
   split at h
   ·simp only [Option.some.injEq] at h; subst h; exact bCg hd hx hy hop
   ·simp only [Option.some.injEq] at h; subst h; exact bCg hd hx hy hop
   ·rename_i hu; simp only [Option.some.injEq] at h; subst h; exact bOo hd hx hy he hu hop
   ·rename_i e hu
    split at h
    ·simp only [Option.some.injEq] at h; subst h; exact aZ3 hd hx he hu hop
    ·split at h
     ·rename_i hj
      simp only [Option.some.injEq] at h; subst h
      exact bDh hd hx hy he hu hj hop
     grind
   ·rename_i e hu
    split at h
    ·simp only [Option.some.injEq] at h; subst h; exact aZ0 hd hx he hu hop
    grind
   ·rename_i k e hu
    split at h
    ·simp only [Option.some.injEq] at h; subst h; exact bAh hd hx he hu hop
    grind
   ·rename_i fs hu
    split at h
    ·grind
    ·rename_i hgd
     obtain ⟨ks,hk,rfl⟩:=Option.map_eq_some_iff.1 h
     exact bJb hd hx hy he hu hk (by grind) hop
   grind
  ·simp only [Option.some.injEq] at h; subst h; exact bCg hd hx hy hop
 grind
theorem aZl {l:List Operand} (h:opds n l=some []):l=[]:=by
 cases l with
 | nil=>rfl
 | cons p r =>
   simp only [opds] at h
   grind
theorem aH8 {l:List Operand} {x:Src} {r:List Src} (h:opds n l=some (x::r)):∃ p q,l=p::q∧opd n p=some x∧opds n q=some r:=by
 cases l with
 | nil=>simp [opds] at h
 | cons p q =>
   simp only [opds] at h
   grind
theorem aHw {l:List Operand} {x y:Src} (h:opds n l=some [x,y]):∃ p q,l=[p,q]∧opd n p=some x∧opd n q=some y:=by
 obtain ⟨p,r,rfl,h1,h2⟩:=aH8 h
 obtain ⟨q,r2,rfl,h3,h4⟩:=aH8 h2
 obtain rfl:=aZl h4
 grind
theorem aJ0 {l:List Operand} {x y z:Src} (h:opds n l=some [x,y,z]):∃ p q r,l=[p,q,r]∧opd n p=some x∧opd n q=some y∧opd n r=some z:=by
 obtain ⟨p,r,rfl,h1,h2⟩:=aH8 h
 obtain ⟨q,r2,rfl,h3,h4⟩:=aHw h2
 grind
theorem aYq {i:I} (hd:aA2 n o.dst=true) {c:Call} (hop:o.op=.call c) (h:lowI P n hint o=some i):aA6 P D n o i:=by
 simp only [lowI,hop] at h
 split at h
 ·rename_i f hc
  split at h
  ·rename_i hb
   obtain ⟨qs,hq,rfl⟩:=Option.map_eq_some_iff.1 h
   cases hf:(!o.dst.any fun d=>decide (hint d=3))
   ·exact bFp hd hc hb hq hop
   ·exact bFv hd hc hb hq hop
  ·split at h
   ·rename_i hb
    split at h
    ·rename_i x hq
     simp only [Option.some.injEq] at h; subst h
     exact aR8 hd hc hb hq hop
    grind
   grind
 ·rename_i t hc
  split at h
  ·rename_i ht
   obtain ⟨qs,hq,rfl⟩:=Option.map_eq_some_iff.1 h
   exact bCn hd hc ht hq hop
  grind
 ·rename_i hc
  split at h
  ·rename_i x ha
   obtain ⟨y,hy,rfl⟩:=Option.map_eq_some_iff.1 h
   exact bC6 hd hy hc ha hop
  grind
 ·rename_i hc
  split at h
  ·rename_i x y pt it hq hat
   split at h
   ·rename_i e hu
    split at h
    ·rename_i he
     simp only [Option.some.injEq] at h; subst h
     obtain ⟨p,q,ha,hp,hq'⟩:=aHw hq
     exact bHu hd hq ha hp hq' hc hat hu he hop
    grind
   grind
  grind
 ·rename_i hc
  split at h
  ·rename_i x ha hat
   obtain ⟨y,hy,rfl⟩:=Option.map_eq_some_iff.1 h
   exact bHl hd hy hc ha hat hop
  ·rename_i x e ha hat
   obtain ⟨y,hy,rfl⟩:=Option.map_eq_some_iff.1 h
   exact bHv hd hy hc ha hat hop
  grind
 ·rename_i hc
  split at h
  ·rename_i x y t u d ha hat hdst
   split at h
   ·rename_i e x' y' he hx hy
    split at h
    ·rename_i z zs ti hz hzs hti
     split at h
     ·rename_i hcond
      simp only [Bool.and_eq_true,decide_eq_true_eq] at hcond
      obtain ⟨⟨⟨c1,c2⟩,c3⟩,c4⟩:=hcond
      obtain ⟨zv,⟨i2,hi2,hz2⟩,_,hrep⟩:=aDj hzs (fun _=>none) (fun _=>True) default
      obtain rfl:ti=i2:=Option.some.inj (hti.symm.trans hi2)
      have hsz:ti.size=z:=by
       simp only [szOf,hti,Option.map_some,Option.some.injEq] at hz; exact hz
      let T:AppT P c z:={
       t:=t,u:=u,e:=e,i:=ti,zv:=zv
       ht:=by grind
       hu:=aDn he
       hi:=hti
       hz:=hsz
       hzero:=hz2
       hzs:=by rw [← hrep.1]; exact c1
       hpos:=c2
       hby:=c3
       hnu:=by
        unfold aXe at c4
        grind }
      split at h
      ·split at h
       ·rw [Option.some.injEq] at h; subst h
        exact bGp (aB5 hd hdst) hdst T hx hy hc ha hop
       grind
      ·split at h
       ·rw [Option.some.injEq] at h; subst h
        exact fun s G a w K next Q hh hg hn hf=>bFi (P:=P) (D:=D) (aB5 hd hdst) hdst T hx hy hc ha hop s G a w K next Q (bFt hh) hg hn hf
       ·rw [Option.some.injEq] at h; subst h
        exact bFi (aB5 hd hdst) hdst T hx hy hc ha hop
     grind
    grind
   grind
  grind
 ·rename_i hc
  split at h
  ·rename_i x y hq
   simp only [Option.some.injEq] at h; subst h
   have:=aHw hq
   obtain ⟨p,q,ha,hp,hq'⟩:=this
   exact s_mx hd hp hq' hc ha hop
  ·rename_i x y z hq
   simp only [Option.some.injEq] at h; subst h
   obtain ⟨p,q,r,ha,hp,hq',hr⟩:=aJ0 hq
   exact bHm hd hp hq' hr hc ha hop
  grind
 ·rename_i hc
  split at h
  ·rename_i x y hq
   simp only [Option.some.injEq] at h; subst h
   obtain ⟨p,q,ha,hp,hq'⟩:=aHw hq
   exact s_mx hd hp hq' hc ha hop
  ·rename_i x y z hq
   simp only [Option.some.injEq] at h; subst h
   obtain ⟨p,q,r,ha,hp,hq',hr⟩:=aJ0 hq
   exact bHm hd hp hq' hr hc ha hop
  grind
 grind
theorem aS7 {i:I} (hd:aA2 n o.dst=true) (h:lowI P n hint o=some i):aA6 P D n o i:=by
 cases hop:o.op
 case binOp op t x y t'=>exact bEv hd hop h
 case call c=>exact aYq hd hop h
 case slice t x lo hi mx =>
  cases mx with
  | some m=>simp [lowI,hop] at h
  | none =>
    simp only [lowI,hop] at h
    split at h
    ·rename_i x' lo' hi' h1 h2 h3
     split at h
     ·rename_i hu; simp only [Option.some.injEq] at h; subst h; exact bI2 hd h1 h2 h3 hu hop
     ·rename_i e hu
      obtain ⟨z,hz,rfl⟩:=Option.map_eq_some_iff.1 h
      exact bJs hd h1 h2 h3 hu hz hop
     grind
    grind
 case makeMap t r =>
  cases r with
  | some r=>simp [lowI,hop] at h
  | none =>
    simp only [lowI,hop] at h
    split at h
    ·rename_i d k e hdst hu
     simp only [Option.some.injEq] at h; subst h
     exact bNo (aB5 hd hdst) hdst hu hop
    grind
 case makeFunc f first captured =>
  cases f with
  | func f =>
    simp only [lowI,hop] at h
    split at h
    ·rename_i h1
     obtain ⟨qs,hq,rfl⟩:=Option.map_eq_some_iff.1 h
     exact bG1 hd h1 hq hop
    grind
  | _=>simp [lowI,hop] at h
 all_goals simp only [lowI,hop] at h
 all_goals try (simp at h; done)
 case move x =>
  obtain ⟨y,hy,rfl⟩:=Option.map_eq_some_iff.1 h
  exact bI1 hd x hy (.inl hop)
 case assign x =>
  obtain ⟨y,hy,rfl⟩:=Option.map_eq_some_iff.1 h
  exact bI1 hd x hy (.inr hop)
 case pick c x y =>
  split at h
  ·rename_i h1 h2 h3
   simp only [Option.some.injEq] at h; subst h
   exact bIm hd h1 h2 h3 hop
  grind
 case alloc e =>
  split at h
  ·rename_i d z h1 h2
   simp only [Option.some.injEq] at h; subst h
   exact bFd (aB5 hd h1) h1 h2 hop
  grind
 case box e x =>
  split at h
  ·rename_i d z h1 h2
   simp only [Option.some.injEq] at h; subst h
   exact bN7 (aB5 hd h1) h1 h2 hop
  grind
 case build t parts =>
  split at h
  ·rename_i z ps h1 h2
   split at h
   ·rename_i hc
    simp only [Option.some.injEq] at h; subst h
    simp only [Bool.and_eq_true] at hc
    exact bDv hd h1 h2 hc.1 hc.2 hop
   grind
  grind
 case makeSlice t len cap =>
  split at h
  ·rename_i d e i m c hdst he hi hl hc
   split at h
   ·rename_i hcond
    simp only [Bool.and_eq_true,decide_eq_true_eq] at hcond
    obtain ⟨⟨c1,c2⟩,c3⟩:=hcond
    simp only [Option.some.injEq] at h; subst h; subst c1
    rw [he,Option.bind_some] at hi
    exact bOz (aB5 hd hdst) hdst (aDn he) hi c2 c3 hl hc hop
   split at h
   ·rename_i hcond
    simp only [Bool.and_eq_true,decide_eq_true_eq] at hcond
    obtain ⟨⟨⟨⟨⟨c1,c2⟩,c3⟩,c4⟩,c5⟩,c6⟩:=hcond
    simp only [Option.some.injEq] at h; subst h; obtain rfl:=aUp c6
    rw [he,Option.bind_some] at hi
    exact bLk (aB5 hd hdst) hdst (aDn he) hi c1 c2 (aT2 c3) c4 c5 hl hop
   grind
  grind
 case buildSlice t len parts =>
  split at h
  ·rename_i z xs h1 h2
   split at h
   ·rename_i hc
    simp only [Bool.and_eq_true,decide_eq_true_eq] at hc
    obtain ⟨⟨⟨c1,c2⟩,c3⟩,c4⟩:=hc
    obtain ⟨e,he,hz⟩:=Option.bind_eq_some_iff.1 h1
    have hzero:∃ zs,aD9 P e=some zs∧zs.length=z:=by
     rw [he,Option.bind_some] at c4
     cases hzo:aD9 P e with
     | none=>grind
     | some zs=>grind
    split at h
    ·rename_i d hdst
     split at h
     ·rw [he,Option.map_some,Option.some.injEq] at h; subst h
      exact bKx (aB5 hd hdst) hdst (aDn he) hz h2 c1 c2 c3 hzero hop
     ·simp only [Option.some.injEq] at h; subst h
      rw [← hdst]
      exact bMz hd (aDn he) hz h2 c1 c2 c3 hzero hop
    grind
   grind
  grind
 case load t x =>
  split at h
  ·rename_i z ag y h1 h2 h3
   split at h
   ·rename_i hc
    split at h
    ·simp only [Option.some.injEq] at h; subst h
     exact fun s G a w K next Q hh hg hn hf=>aUb (P:=P) (D:=D) (c:=false) hd h3 h1 h2 (by grind) hop s G a w K next Q (bAb hh) hg hn hf
    split at h
    ·simp only [Option.some.injEq] at h; subst h
     exact fun s G a w K next Q hh hg hn hf=>aUb (P:=P) (D:=D) (c:=false) hd h3 h1 h2 (by grind) hop s G a w K next Q (aZr hh) hg hn hf
    ·simp only [Option.some.injEq] at h; subst h
     exact aUb hd h3 h1 h2 (by grind) hop
   grind
  grind
 case store t x v =>
  split at h
  ·rename_i z x' v' h1 h2 h3
   split at h
   ·rename_i hc
    have all:∀ nw,aA6 P D n o (.stq nw z x' v'):=fun nw s G a w K next Q hh=>aVf h2 h3 h1 hc hop s G a w K next Q hh.2
    have plain:=aVf (P:=P) (D:=D) h2 h3 h1 hc hop
    grind
   grind
  grind
 case nilCheck x =>
  obtain ⟨y,hy,rfl⟩:=Option.map_eq_some_iff.1 h
  exact bH8 hd hy hop
 case unOp op t x =>
  obtain ⟨y,hy,rfl⟩:=Option.map_eq_some_iff.1 h
  exact s_un hd hy hop
 case convert t u x =>
  split at h
  ·rename_i h1 h2 h3
   split at h
   ·rename_i hz
    simp only [Option.some.injEq] at h; subst h
    exact bCx hd h3 h1 h2 hz hop
   grind
  ·rename_i h1 h2 h3
   split at h
   ·rename_i z hz
    split at h
    ·rename_i hc
     simp only [Option.some.injEq] at h; subst h
     simp only [Bool.and_eq_true] at hc
     exact aYc hd h3 h1 h2 hz hc.2 hop
    grind
   grind
  ·rename_i h1 h2 h3
   simp only [Option.some.injEq] at h; subst h
   exact bKj hd h3 h1 h2 hop
  ·rename_i h1 h2 h3
   simp only [Option.some.injEq] at h; subst h
   exact bJd hd h3 h1 h2 hop
  ·rename_i e y h1 h2 h3
   split at h
   ·rename_i d he hdst
    simp only [Option.some.injEq] at h; subst h
    exact bMg (aB5 hd hdst) hdst h1 h2 he h3 hop
   grind
  ·rename_i e y h1 h2 h3
   split at h
   ·rename_i he
    simp only [Option.some.injEq] at h; subst h
    exact bMp hd h1 h2 he h3 hop
   grind
  grind
 case fieldAddr t x f =>
  split at h
  ·rename_i fd y h1 h2
   split at h
   ·rename_i hc
    simp only [Option.some.injEq] at h; subst h
    cases hz:szOf P fd.type with
    | none=>grind
    | some z=>rw [hz] at hc; exact bF4 hd h2 h1 hz (by grind) hop
   grind
  grind
 case field t x f =>
  split at h
  ·rename_i fd y h1 h2
   split at h
   ·rename_i z ag h3 h4
    split at h
    ·rename_i hc
     simp only [Option.some.injEq] at h; subst h
     exact bBq hd h2 h1 h3 h4 (by grind) hop
    grind
   grind
  grind
 case indexAddr t x i =>
  split at h
  ·rename_i x' i' h1 h2
   split at h
   ·rename_i e hu
    obtain ⟨z,hz,h⟩:=Option.bind_eq_some_iff.1 h
    split at h
    ·rename_i hc
     simp only [Option.some.injEq] at h; subst h
     exact bF1 hd h1 h2 hu hz hc hop
    grind
   ·rename_i m e hu
    obtain ⟨z,hz,rfl⟩:=Option.map_eq_some_iff.1 h
    exact bE7 hd h1 h2 hu hz hop
   grind
  grind
 case index t x i =>
  split at h
  ·rename_i x' i' h1 h2
   split at h
   ·rename_i hu
    simp only [Option.some.injEq] at h; subst h
    exact bOx hd h1 h2 hu hop
   ·rename_i m e hu
    split at h
    ·rename_i z ag h3 h4
     split at h
     ·rename_i hc
      simp only [Option.some.injEq] at h; subst h
      exact bIo hd h1 h2 hu h3 h4 (by grind) hop
     grind
    grind
   grind
  grind
 case lookup t x k c =>
  split at h
  ·rename_i x' k' ag ks z h1 h2 h3
   simp only [Option.some.injEq] at h; subst h
   exact bHt hd h1 h2 h3 hop
  grind
 case mapUpdate t x k v =>
  split at h
  ·rename_i x' k' v' ag ks z h1 h2 h3 h4
   split at h
   ·rename_i hdst
    simp only [Option.some.injEq] at h; subst h
    exact bF7 h1 h2 h3 h4 hdst hop
   grind
  grind
 case mapEntry t x k =>
  split at h
  ·rename_i x' k' ag ks z h1 h2 h3
   simp only [Option.some.injEq] at h; subst h
   exact bIq hd h1 h2 h3 hop
  grind
 case entryStore t x k v =>
  split at h
  ·rename_i x' k' v' h1 h2 h3
   split at h
   ·rename_i hdst
    simp only [Option.some.injEq] at h; subst h
    exact bKz h1 h2 h3 hdst hop
   grind
  grind
 case extract x i =>
  obtain ⟨y,hy,rfl⟩:=Option.map_eq_some_iff.1 h
  exact bO9 hd hy hop
end
end Go.Ab
namespace Go.Ab
open Go.RowKit
mutual
def V.fit (F:Nat→Prop):V→Prop
 | .junk=>True
 | .bool _=>True
 | .int _ _=>True
 | .str _=>True
 | .nilp=>True
 | .nils=>True
 | .ptr id _=>F id
 | .eptr id _ _=>F id
 | .cptr cs=>V.fits F cs
 | .lst _ es=>V.fits F es
 | .own id _ _ _=>F id
 | .agg cs=>V.fits F cs
 | .tup cs=>V.fits F cs
 | .fn _ cs=>V.fits F cs
 | .map id=>F id
 | .nilm=>True
 | .raw _=>True
def V.fits (F:Nat→Prop):List V→Prop
 | []=>True
 | x::r=>x.fit F∧V.fits F r
end
theorem aA3 (F:Nat→Prop) (l:List V):V.fits F l↔∀ x,x∈l→x.fit F:=by
 induction l with
 | nil=>simp [V.fits]
 | cons y r ih=>simp [V.fits,ih]
mutual
theorem aGi {F F':Nat→Prop} (hF:∀ i,F i→F' i):∀ {x:V},x.fit F→x.fit F'
 | .junk,_=>by simp [V.fit]
 | .bool _,_=>by simp [V.fit]
 | .int _ _,_=>by simp [V.fit]
 | .str _,_=>by simp [V.fit]
 | .nilp,_=>by simp [V.fit]
 | .nils,_=>by simp [V.fit]
 | .ptr _ _,h=>by simp only [V.fit] at h ⊢; grind
 | .eptr _ _ _,h=>by simp only [V.fit] at h ⊢; grind
 | .cptr cs,h=>by simp only [V.fit] at h ⊢; exact aBb hF h
 | .lst _ cs,h=>by simp only [V.fit] at h ⊢; exact aBb hF h
 | .own _ _ _ _,h=>by simp only [V.fit] at h ⊢; grind
 | .agg cs,h=>by simp only [V.fit] at h ⊢; exact aBb hF h
 | .tup cs,h=>by simp only [V.fit] at h ⊢; exact aBb hF h
 | .fn _ cs,h=>by simp only [V.fit] at h ⊢; exact aBb hF h
 | .map _,h=>by simp only [V.fit] at h ⊢; grind
 | .nilm,_=>by simp [V.fit]
 | .raw _,_=>by simp [V.fit]
theorem aBb {F F':Nat→Prop} (hF:∀ i,F i→F' i):∀ {l:List V},V.fits F l→V.fits F' l
 | [],_=>by simp [V.fits]
 | x::r,h=>by simp only [V.fits] at h ⊢; exact ⟨aGi hF h.1,aBb hF h.2⟩
end
mutual
theorem aD1 (F:Nat→Prop):∀ {x:V},x.imm=true→x.fit F
 | .junk,_=>by simp [V.fit]
 | .bool _,_=>by simp [V.fit]
 | .int _ _,_=>by simp [V.fit]
 | .str _,_=>by simp [V.fit]
 | .nilp,_=>by simp [V.fit]
 | .nils,_=>by simp [V.fit]
 | .ptr _ _,h=>by simp [V.imm] at h
 | .eptr _ _ _,h=>by simp [V.imm] at h
 | .cptr cs,h=>by simp only [V.imm,V.fit] at h ⊢; exact aCh F h
 | .lst _ cs,h=>by simp only [V.imm,V.fit] at h ⊢; exact aCh F h
 | .own _ _ _ _,h=>by simp [V.imm] at h
 | .agg cs,h=>by simp only [V.imm,V.fit] at h ⊢; exact aCh F h
 | .tup cs,h=>by simp only [V.imm,V.fit] at h ⊢; exact aCh F h
 | .fn _ cs,h=>by simp only [V.imm,V.fit] at h ⊢; exact aCh F h
 | .map _,h=>by simp [V.imm] at h
 | .nilm,_=>by simp [V.fit]
 | .raw _,_=>by simp [V.fit]
theorem aCh (F:Nat→Prop):∀ {l:List V},V.imms l=true→V.fits F l
 | [],_=>by simp [V.fits]
 | x::r,h=>by simp only [V.imms,Bool.and_eq_true] at h; simp only [V.fits]; exact ⟨aD1 F h.1,aCh F h.2⟩
end
theorem aL7 {x:V} (h:x.flat1=true):x.imm=true:=by cases x <;> simp [V.flat1] at h <;> rfl
theorem aQm {x:V} (h:x.flat=true):x.imm=true:=by
 cases x <;> simp only [V.flat] at h <;> first
  | exact aL7 h
  | (simp only [V.imm]; exact aO5 fun y hy=>aL7 (List.all_eq_true.1 h y hy))
def Blk.fit (F:Nat→Prop):Blk→Prop
 | .box _ cs=>V.fits F cs
 | .vec _ _ es=>V.fits F es
 | _=>True
structure SFit (F:Nat→Prop) (s:St):Prop where
 env:∀ t,(s.env t).fit F
 blk:∀ id b,s.L id=some b→F id∧b.fit F
def updL (L:Heap):List (Nat×Option Blk)→Heap
 | []=>L
 | (id,b)::r=>updL (upd L id b) r
def aDq (e:Nat→V):Option Nat→V→Nat→V
 | some d,v=>upd e d v
 | none,_=>e
def St.chg (s:St) (δ:List (Nat×Option Blk)) (d:Option Nat) (v:V):St:=⟨aDq s.env d v,updL s.L δ,s.nx⟩
theorem aGt (s:St) (d:Option Nat) (v:V):s.chg [] d v=s.setO d v:=by cases d <;> rfl
theorem aGm {F:Nat→Prop} {l:List V} (h:V.fits F l) (i:Nat):(l.getD i .junk).fit F:=by
 rcases Nat.lt_or_ge i l.length with hi | hi
 ·have:l.getD i .junk∈l:=by grind
  exact (aA3 F l).1 h _ this
 ·simp [List.getD,List.getElem?_eq_none hi,V.fit]
theorem aBv {F:Nat→Prop} {l:List V} (h:V.fits F l) (k:Nat):V.fits F (l.take k):=(aA3 F _).2 fun x hx=>(aA3 F l).1 h x (List.mem_of_mem_take hx)
theorem aBo {F:Nat→Prop} {l:List V} (h:V.fits F l) (k:Nat):V.fits F (l.drop k):=(aA3 F _).2 fun x hx=>(aA3 F l).1 h x (List.mem_of_mem_drop hx)
theorem aEj {F:Nat→Prop} {l r:List V} (h:V.fits F l) (k:V.fits F r):V.fits F (l++r):=(aA3 F _).2 fun x hx=>(List.mem_append.1 hx).elim ((aA3 F l).1 h x) ((aA3 F r).1 k x)
theorem aB8 {F:Nat→Prop} {x:V} (h:x.fit F):V.fits F x.cells:=by
 cases x <;> simp only [V.cells,V.fits,and_true] <;> first | exact h | (simp only [V.fit] at h; exact h)
theorem aEi {F:Nat→Prop} {l:List V} (ag:Bool) (h:V.fits F l):(pack ag l).fit F:=by
 cases ag
 ·simp only [pack,Bool.false_eq_true,if_false]
  cases l with
  | nil=>simp [V.fit]
  | cons x r=>exact h.1
 ·simpa only [pack,if_true,V.fit] using h
theorem aEc {F:Nat→Prop} {z l:List V} (k:Nat) (h:V.fits F z) (h':V.fits F l):V.fits F (aBs z k l):=aEj (aEj (aBv h k) h') (aBo h _)
theorem aJ6 {F:Nat→Prop} {x:V} {l:List V} (h:V.fits F l):(x.recell l).fit F:=by
 cases x <;> simp only [V.recell] <;> first
  | (simp only [V.fit]; exact h)
  | (cases l with
     | nil=>simp [V.fit]
     | cons y r=>exact h.1)
theorem aQg {F:Nat→Prop} {l:List V} {x:V} (k:Nat) (h:V.fits F l) (h':x.fit F):V.fits F (l.set k x):=(aA3 F _).2 fun y hy=>(List.mem_or_eq_of_mem_set hy).elim ((aA3 F l).1 h y) fun e=>e ▸ h'
theorem bBl {F:Nat→Prop} {s:St} (h:SFit F s) {x:Src} (hx:bAw x=true):(s.ev x).fit F:=by
 cases x with
 | t n=>exact h.env n
 | k v=>exact aD1 F hx
def bBe (Fr:Nat→Prop) (s:St):Prop:=∀ id b,Fr id→s.L id=some b→b.fit Fr
theorem aJm {F:Nat→Prop} {s:St} (h:bBe F s) {L2:Heap} (hL:∀ id,F id→L2 id=s.L id):∀ (k:Nat) {x:V},x.fit F→view L2 k x=view s.L k x:=by
 intro k
 induction k with
 | zero=>intro x hx; rfl
 | succ k ih =>
   intro x hx
   cases x with
   | own id sz off len =>
     simp only [V.fit] at hx
     simp only [view,hL id hx]
     cases hb:s.L id with
     | none=>rfl
     | some b =>
       cases b with
       | vec ty0 sz' es =>
         simp only
         have:((es.drop off).take len).map (view L2 k)=((es.drop off).take len).map (view s.L k):=List.map_congr_left fun y hy =>
          ih ((aA3 F es).1 (h _ _ hx hb) y (List.mem_of_mem_drop (List.mem_of_mem_take hy)))
         grind
       | _=>rfl
   | ptr id o =>
     simp only [V.fit] at hx
     simp only [view,hL id hx]
     cases hb:s.L id with
     | none=>rfl
     | some b =>
       cases b with
       | box ty cs =>
         simp only
         have:(cs.drop o).map (view L2 k)=(cs.drop o).map (view s.L k):=List.map_congr_left fun y hy =>
          ih ((aA3 F cs).1 (h _ _ hx hb) y (List.mem_of_mem_drop hy))
         grind
       | _=>rfl
   | fn f cs =>
     simp only [V.fit] at hx
     simp only [view]
     rw [List.map_congr_left fun y hy=>ih ((aA3 F cs).1 hx y hy)]
   | agg cs =>
     simp only [V.fit] at hx
     simp only [view]
     rw [List.map_congr_left fun y hy=>ih ((aA3 F cs).1 hx y hy)]
   | tup cs =>
     simp only [V.fit] at hx
     simp only [view]
     rw [List.map_congr_left fun y hy=>ih ((aA3 F cs).1 hx y hy)]
   | _=>rfl
end Go.Ab
namespace Go.Ab
open Go.RowKit
theorem aQr {F F':Nat→Prop} (hF:∀ i,F i→F' i):∀ (δ:List (Nat×Option Blk)) (L:Heap),(∀ id b,L id=some b→F' id∧b.fit F')→(∀ p,p∈δ→∀ b,p.2=some b→F' p.1∧b.fit F')→∀ id b,updL L δ id=some b→F' id∧b.fit F'
 | [],L,h,_=>h
 | (i,x)::r,L,h,hd=>by
   refine aQr hF r (upd L i x) (fun id b hb=>?_) (fun p hp=>hd p (by grind))
   by_cases e:id=i
   ·subst e
    rw [aAe] at hb
    simp_all
   ·rw [aAd _ _ _ _ e] at hb
    grind
theorem aYi {F F':Nat→Prop} (hF:∀ i,F i→F' i) {b:Blk} (h:b.fit F):b.fit F':=by
 cases b <;> simp only [Blk.fit] at h ⊢ <;> exact aBb hF h
theorem aA8 {F F':Nat→Prop} {s:St} (h:SFit F s) (hF:∀ i,F i→F' i) {δ:List (Nat×Option Blk)} {d:Option Nat} {v:V} (hv:v.fit F') (hd:∀ p,p∈δ→∀ b,p.2=some b→F' p.1∧b.fit F'):SFit F' (s.chg δ d v):=by
 refine ⟨fun t=>?_,aQr hF δ s.L (fun id b hb=>⟨hF _ (h.blk id b hb).1,aYi hF (h.blk id b hb).2⟩) hd⟩
 cases d with
 | none=>exact aGi hF (h.env t)
 | some d =>
   simp only [St.chg,aDq,upd]
   split
   ·exact hv
   ·exact aGi hF (h.env t)
structure Agree (i:I) (s s2:St):Prop where
 env:∀ t,t∈i.reads→s2.env t=s.env t
 nx:1≤i.rank→s2.nx=s.nx
 L:i.rank=0∨i.rank=2∨(i.rank=1∧∃ Fr,(∀ x,x∈i.srcs→(s.ev x).fit Fr)∧bBe Fr s∧∀ id,Fr id→s2.L id=s.L id)∨s2.L=s.L
section
variable {P:Program} {i:I} {s:St} {F F':Nat→Prop} {K1:St→Prop}
def Loc (P:Program) (i:I) (s:St) (F':Nat→Prop) (K1:St→Prop):Prop :=
 ∃ δ v,K1 (s.chg δ i.dst v)∧(∀ s2,Agree i s s2→∀ K2:St→Prop,K2 (s2.chg δ i.dst v)→aAb P i s2 K2)∧SFit F' (s.chg δ i.dst v)∧(i.rank≤1→δ=[])∧(i.rank=2→∃ d b,i.mk=some d∧δ=[(s.nx+d,b)])
theorem aAt (hf:SFit F s) (hF:∀ i,F i→F' i) (hr:i.rank≠2) {v:V} (h1:K1 (s.setO i.dst v)) (hv:v.fit F) (h2:∀ s2,Agree i s s2→∀ K2:St→Prop,K2 (s2.setO i.dst v)→aAb P i s2 K2):Loc P i s F' K1 :=
 ⟨[],v,by rw [aGt]; exact h1,fun s2 ag K2 hk=>h2 s2 ag K2 (by rwa [aGt] at hk),aA8 hf hF (aGi hF hv) (by simp),fun _=>rfl,fun h=>absurd h hr⟩
theorem bHb {s2:St} (ag:Agree i s s2) {x:Src} (hx:x∈i.srcs):s2.ev x=s.ev x:=by
 cases x with
 | k v=>rfl
 | t n=>exact ag.env n (List.mem_flatMap.2 ⟨.t n,hx,by simp [srcT]⟩)
theorem aZz {op:BinOp} {k:IntKind} {a b:Int} {K:V→Prop} (h:vint op k a b K):∃ v:V,v.imm=true∧K v∧∀ K':V→Prop,K' v→vint op k a b K':=by
 cases op <;> simp only [vint] at h <;> first
  | exact ⟨_,rfl,h,fun K' h=>h⟩
  | exact ⟨_,rfl,h.2,fun K' h'=>⟨h.1,h'⟩⟩
  | exact h.elim
theorem aY8 {op:BinOp} {a b:List UInt8} {K:V→Prop} (h:vstr op a b K):∃ v:V,v.imm=true∧K v∧∀ K':V→Prop,K' v→vstr op a b K':=by
 cases op <;> simp only [vstr] at h <;> first
  | exact ⟨_,rfl,h,fun K' h=>h⟩
  | exact ⟨_,rfl,h.2,fun K' h'=>⟨h.1,h'⟩⟩
  | exact h.elim
theorem aKz {op:BinOp} {x y:V} {K:V→Prop} (h:vbin op x y K):∃ v:V,v.imm=true∧K v∧∀ K':V→Prop,K' v→vbin op x y K':=by
 unfold vbin at h ⊢
 split at h
 ·obtain ⟨v,h1,h2,h3⟩:=aZz h.2
  grind
 ·obtain ⟨v,h1,h2,h3⟩:=aY8 h
  grind
 grind
theorem aOf {op:UnOp} {x:V} {K:V→Prop} (h:vun op x K):∃ v:V,v.imm=true∧K v∧∀ K':V→Prop,K' v→vun op x K':=by
 unfold vun at h ⊢
 split at h
 ·exact ⟨_,rfl,h,fun K' hk=>hk⟩
 ·exact ⟨_,rfl,h,fun K' hk=>hk⟩
 grind
theorem aC9 {o:Option V} {d:Nat} {K:Nat→Prop} (h:aBi o d K):∃ k,K k∧∀ K':Nat→Prop,K' k→aBi o d K':=by
 unfold aBi at h ⊢
 grind
theorem aPt {s2:St} (ag:Agree i s s2) {x:Option Src} (hx:∀ y,x=some y→y∈i.srcs):x.map s2.ev=x.map s.ev:=by
 cases x with
 | none=>rfl
 | some y=>simp [bHb ag (hx y rfl)]
theorem aH5 {sz:Nat} {y:V} {K:List V→Prop} (hf:SFit F s) (hy:y.fit F) (h:aA1 sz s.L y K):∃ ys,V.fits F ys∧K ys∧∀ K':List V→Prop,K' ys→aA1 sz s.L y K':=by
 unfold aA1 at h ⊢
 split at h
 ·exact ⟨[],by simp [V.fits],h,fun K' hk=>hk⟩
 ·exact ⟨_,by simpa only [V.fit] using hy,h.2,fun K' hk=>⟨h.1,hk⟩⟩
 ·split at h
  ·rename_i hL
   exact ⟨_,aBv (aBo (hf.blk _ _ hL).2 _) _,h.2.2,fun K' hk=>⟨h.1,h.2.1,hk⟩⟩
  grind
 ·rename_i t
  refine ⟨_,?_,h.2,fun K' hk=>⟨h.1,hk⟩⟩
  exact (aA3 F _).2 fun x hx=>by
   obtain ⟨b,_,rfl⟩:=List.mem_map.1 hx; simp [V.fit]
 grind
theorem loc (hr4:i.rank≠4) (hc:i.constOk=true) (hf:SFit F s) (hF:∀ id,F id→F' id) (hmk:∀ d,i.mk=some d→F' (s.nx+d)) (h:aAb P i s K1):Loc P i s F' K1:=by
 have ev:∀ {s2:St},Agree i s s2→∀ {x:Src},x∈i.srcs→s2.ev x=s.ev x:=fun ag _ hx=>bHb ag hx
 have fit:∀ {x:Src},x∈i.srcs→(s.ev x).fit F:=fun {x} hx=>bBl hf (by
  simp only [I.constOk,Bool.and_eq_true] at hc
  grind)
 cases i with
 | ecall d n f args=>exact absurd rfl hr4
 | ecr d n f args b=>exact absurd rfl hr4
 | vcall d n x args=>exact absurd rfl hr4
 | clos d f caps =>
   have e1:∀ s2,Agree (I.clos d f caps) s s2→∀ p,p∈caps→s2.ev p=s.ev p:=fun s2 ag p hp=>ev ag (by simpa only [I.srcs] using hp)
   have f1:∀ p,p∈caps→(s.ev p).fit F:=fun p hp=>fit (by simpa only [I.srcs] using hp)
   have e2:∀ s2,Agree (I.clos d f caps) s s2→caps.map s2.ev=caps.map s.ev:=fun s2 ag=>List.map_congr_left (e1 s2 ag)
   simp only [aAb] at h
   refine aAt hf hF (by simp [I.rank]) h (by
    simp only [V.fit]
    exact (aA3 F _).2 fun x hx=>by
     grind) fun s2 ag K2 hk=>?_
   simp only [aAb,e2 s2 ag]
   exact hk
 | mov d x =>
   refine aAt hf hF (by simp [I.rank]) h (fit (by simp [I.srcs])) fun s2 ag K2 hk=>?_
   simp only [aAb,ev ag (show x∈(I.mov d x).srcs by simp [I.srcs])]; exact hk
 | pick d c x y =>
   have e1:=fun (s2:St) (ag:Agree _ s s2)=>ev ag (show c∈(I.pick d c x y).srcs by simp [I.srcs])
   have e2:=fun (s2:St) (ag:Agree _ s s2)=>ev ag (show x∈(I.pick d c x y).srcs by simp [I.srcs])
   have e3:=fun (s2:St) (ag:Agree _ s s2)=>ev ag (show y∈(I.pick d c x y).srcs by simp [I.srcs])
   have f2:=fit (show x∈(I.pick d c x y).srcs by simp [I.srcs])
   have f3:=fit (show y∈(I.pick d c x y).srcs by simp [I.srcs])
   simp only [aAb] at h
   split at h
   ·rename_i t ht
    refine aAt hf hF (by simp [I.rank]) h (by grind) fun s2 ag K2 hk=>?_
    simp only [aAb,e1 s2 ag,e2 s2 ag,e3 s2 ag,ht]; exact hk
   grind
 | bin d op x y =>
   have e1:=fun (s2:St) (ag:Agree _ s s2)=>ev ag (show x∈(I.bin d op x y).srcs by simp [I.srcs])
   have e2:=fun (s2:St) (ag:Agree _ s s2)=>ev ag (show y∈(I.bin d op x y).srcs by simp [I.srcs])
   obtain ⟨v,h1,h2,h3⟩:=aKz (show vbin op (s.ev x) (s.ev y) (fun v=>K1 (s.setO d v)) from h)
   exact aAt hf hF (by simp [I.rank]) h2 (aD1 F h1) fun s2 ag K2 hk=>by simp only [aAb,e1 s2 ag,e2 s2 ag]; exact h3 _ hk
 | eqA d neg ks x y =>
   have e1:=fun (s2:St) (ag:Agree _ s s2)=>ev ag (show x∈(I.eqA d neg ks x y).srcs by simp [I.srcs])
   have e2:=fun (s2:St) (ag:Agree _ s s2)=>ev ag (show y∈(I.eqA d neg ks x y).srcs by simp [I.srcs])
   simp only [aAb] at h
   split at h
   ·rename_i p q hp hq
    obtain ⟨t,h1,h2⟩:=h
    exact aAt hf hF (by simp [I.rank]) h2 (by simp [V.fit]) fun s2 ag K2 hk=>by simp only [aAb,e1 s2 ag,e2 s2 ag,hp,hq]; exact ⟨t,h1,hk⟩
   grind
 | eqB d neg x y =>
   have e1:=fun (s2:St) (ag:Agree _ s s2)=>ev ag (show x∈(I.eqB d neg x y).srcs by simp [I.srcs])
   have e2:=fun (s2:St) (ag:Agree _ s s2)=>ev ag (show y∈(I.eqB d neg x y).srcs by simp [I.srcs])
   simp only [aAb] at h
   split at h
   ·rename_i p q hp hq
    exact aAt hf hF (by simp [I.rank]) h (by simp [V.fit]) fun s2 ag K2 hk=>by simp only [aAb,e1 s2 ag,e2 s2 ag,hp,hq]; exact hk
   grind
 | isnil d neg kd x =>
   have e1:=fun (s2:St) (ag:Agree _ s s2)=>ev ag (show x∈(I.isnil d neg kd x).srcs by simp [I.srcs])
   simp only [aAb] at h
   split at h <;> first
    | exact h.elim
    | (rename_i hx; exact aAt hf hF (by simp [I.rank]) h (by simp [V.fit]) fun s2 ag K2 hk=>by simp only [aAb,e1 s2 ag,hx]; exact hk)
    | (rename_i hx; exact aAt hf hF (by simp [I.rank]) h.2 (by simp [V.fit]) fun s2 ag K2 hk=>by simp only [aAb,e1 s2 ag,hx]; exact ⟨h.1,hk⟩)
 | un d op x =>
   have e1:=fun (s2:St) (ag:Agree _ s s2)=>ev ag (show x∈(I.un d op x).srcs by simp [I.srcs])
   obtain ⟨v,h1,h2,h3⟩:=aOf (show vun op (s.ev x) (fun v=>K1 (s.setO d v)) from h)
   exact aAt hf hF (by simp [I.rank]) h2 (aD1 F h1) fun s2 ag K2 hk=>by simp only [aAb,e1 s2 ag]; exact h3 _ hk
 | cvt d k x =>
   have e1:=fun (s2:St) (ag:Agree _ s s2)=>ev ag (show x∈(I.cvt d k x).srcs by simp [I.srcs])
   simp only [aAb] at h
   split at h
   ·rename_i hx; exact aAt hf hF (by simp [I.rank]) h (by simp [V.fit]) fun s2 ag K2 hk=>by simp only [aAb,e1 s2 ag,hx]; exact hk
   grind
 | cvs d x =>
   have e1:=fun (s2:St) (ag:Agree _ s s2)=>ev ag (show x∈(I.cvs d x).srcs by simp [I.srcs])
   simp only [aAb] at h
   split at h
   ·rename_i hx; exact aAt hf hF (by simp [I.rank]) h (by simp [V.fit]) fun s2 ag K2 hk=>by simp only [aAb,e1 s2 ag,hx]; exact hk
   grind
 | build d zero parts =>
   have e1:∀ s2,Agree (I.build d zero parts) s s2→∀ p,p∈parts→s2.ev p.2.2=s.ev p.2.2:=fun s2 ag p hp=>ev ag (by simp only [I.srcs]; grind)
   have f1:∀ p,p∈parts→(s.ev p.2.2).fit F:=fun p hp=>fit (by simp only [I.srcs]; grind)
   simp only [I.constOk,Bool.and_eq_true] at hc
   simp only [aAb] at h
   have hz:=aCh F hc.2
   have hfit:∀ (ps:List (Nat×Nat×Src)) (z:List V),(∀ p,p∈ps→(s.ev p.2.2).fit F)→V.fits F z→V.fits F (ps.foldl (fun cs p=>aBs cs p.1 (s.ev p.2.2).cells) z):=by
    intro ps
    induction ps with
    | nil=>simp
    | cons p r ih=>intro z hp hz; exact ih _ (fun q hq=>hp q (by grind)) (aEc _ hz (aB8 (hp p (by simp))))
   have heq:∀ (s2:St) (ps:List (Nat×Nat×Src)) (z:List V),(∀ p,p∈ps→s2.ev p.2.2=s.ev p.2.2)→ps.foldl (fun cs p=>aBs cs p.1 (s2.ev p.2.2).cells) z=ps.foldl (fun cs p=>aBs cs p.1 (s.ev p.2.2).cells) z:=by
    intro s2 ps
    induction ps with
    | nil=>simp
    | cons p r ih=>grind
   refine aAt hf hF (by simp [I.rank]) h.2 (by simp only [V.fit]; grind) fun s2 ag K2 hk=>?_
   simp only [aAb,heq s2 parts zero (e1 s2 ag)]
   exact ⟨fun p hp=>by grind,hk⟩
 | field d off sz ag x =>
   have e1:=fun (s2:St) (agr:Agree _ s s2)=>ev agr (show x∈(I.field d off sz ag x).srcs by simp [I.srcs])
   have f1:=fit (show x∈(I.field d off sz ag x).srcs by simp [I.srcs])
   simp only [aAb] at h
   split at h
   ·rename_i cs hx
    rw [hx] at f1
    simp only [V.fit] at f1
    exact aAt hf hF (by simp [I.rank]) h.2 (aEi ag (aBv (aBo f1 _) _)) fun s2 agr K2 hk=>by simp only [aAb,e1 s2 agr,hx]; exact ⟨h.1,hk⟩
   grind
 | ext d j x =>
   have e1:=fun (s2:St) (ag:Agree _ s s2)=>ev ag (show x∈(I.ext d j x).srcs by simp [I.srcs])
   have f1:=fit (show x∈(I.ext d j x).srcs by simp [I.srcs])
   simp only [aAb] at h
   split at h
   ·rename_i cs hx
    rw [hx] at f1
    simp only [V.fit] at f1
    exact aAt hf hF (by simp [I.rank]) h.2 (aGm f1 j) fun s2 ag K2 hk=>by simp only [aAb,e1 s2 ag,hx]; exact ⟨h.1,hk⟩
   grind
 | idx d x y =>
   have e1:=fun (s2:St) (ag:Agree _ s s2)=>ev ag (show x∈(I.idx d x y).srcs by simp [I.srcs])
   have e2:=fun (s2:St) (ag:Agree _ s s2)=>ev ag (show y∈(I.idx d x y).srcs by simp [I.srcs])
   simp only [aAb] at h
   split at h
   ·rename_i hx hy; exact aAt hf hF (by simp [I.rank]) h.2.2 (by simp [V.fit]) fun s2 ag K2 hk=>by simp only [aAb,e1 s2 ag,e2 s2 ag,hx,hy]; exact ⟨h.1,h.2.1,hk⟩
   grind
 | idxA d m sz ag x y =>
   have e1:=fun (s2:St) (agr:Agree _ s s2)=>ev agr (show x∈(I.idxA d m sz ag x y).srcs by simp [I.srcs])
   have e2:=fun (s2:St) (agr:Agree _ s s2)=>ev agr (show y∈(I.idxA d m sz ag x y).srcs by simp [I.srcs])
   have f1:=fit (show x∈(I.idxA d m sz ag x y).srcs by simp [I.srcs])
   simp only [aAb] at h
   split at h
   ·rename_i hx hy
    rw [hx] at f1
    simp only [V.fit] at f1
    exact aAt hf hF (by simp [I.rank]) h.2.2.2 (aEi ag (aBv (aBo f1 _) _)) fun s2 agr K2 hk=>by simp only [aAb,e1 s2 agr,e2 s2 agr,hx,hy]; exact ⟨h.1,h.2.1,h.2.2.1,hk⟩
   grind
 | slcS d x lo hi =>
   have e1:=fun (s2:St) (ag:Agree _ s s2)=>ev ag (show x∈(I.slcS d x lo hi).srcs by simp [I.srcs])
   have e2:=fun (s2:St) (ag:Agree (I.slcS d x lo hi) s s2)=>aPt ag (x:=lo) (fun y hy=>by subst hy; simp [I.srcs])
   have e3:=fun (s2:St) (ag:Agree (I.slcS d x lo hi) s s2)=>aPt ag (x:=hi) (fun y hy=>by subst hy; simp [I.srcs])
   simp only [aAb] at h
   split at h
   ·rename_i hx
    obtain ⟨l,h1,b1⟩:=aC9 h
    obtain ⟨u,h2,b2⟩:=aC9 h1
    exact aAt hf hF (by simp [I.rank]) h2.2.2 (by simp [V.fit]) fun s2 ag K2 hk=>by simp only [aAb,e1 s2 ag,e2 s2 ag,e3 s2 ag,hx]; exact b1 _ (b2 _ ⟨h2.1,h2.2.1,hk⟩)
   grind
 | slc d sz x lo hi =>
   have e1:=fun (s2:St) (ag:Agree _ s s2)=>ev ag (show x∈(I.slc d sz x lo hi).srcs by simp [I.srcs])
   have f1:=fit (show x∈(I.slc d sz x lo hi).srcs by simp [I.srcs])
   have e2:=fun (s2:St) (ag:Agree (I.slc d sz x lo hi) s s2)=>aPt ag (x:=lo) (fun y hy=>by subst hy; simp [I.srcs])
   have e3:=fun (s2:St) (ag:Agree (I.slc d sz x lo hi) s s2)=>aPt ag (x:=hi) (fun y hy=>by subst hy; simp [I.srcs])
   simp only [aAb] at h
   split at h
   ·rename_i hx
    obtain ⟨l,h1,b1⟩:=aC9 h
    obtain ⟨u,h2,b2⟩:=aC9 h1
    exact aAt hf hF (by simp [I.rank]) h2.2.2 (by grind) fun s2 ag K2 hk=>by simp only [aAb,e1 s2 ag,e2 s2 ag,e3 s2 ag,hx]; exact b1 _ (b2 _ ⟨h2.1,h2.2.1,hk⟩)
   ·rename_i hx
    rw [hx] at f1
    simp only [V.fit] at f1
    obtain ⟨l,h1,b1⟩:=aC9 h.2
    obtain ⟨u,h2,b2⟩:=aC9 h1
    exact aAt hf hF (by simp [I.rank]) h2.2.2 (by simp only [V.fit]; exact aBo (aBv f1 _) _) fun s2 ag K2 hk=>by simp only [aAb,e1 s2 ag,e2 s2 ag,e3 s2 ag,hx]; exact ⟨h.1,b1 _ (b2 _ ⟨h2.1,h2.2.1,hk⟩)⟩
   ·rename_i hx
    rw [hx] at f1
    simp only [V.fit] at f1
    obtain ⟨l,h1,b1⟩:=aC9 h.2
    obtain ⟨u,h2,b2⟩:=aC9 h1
    exact aAt hf hF (by simp [I.rank]) h2.2.2 (by simp only [V.fit]; exact f1) fun s2 ag K2 hk=>by simp only [aAb,e1 s2 ag,e2 s2 ag,e3 s2 ag,hx]; exact ⟨h.1,b1 _ (b2 _ ⟨h2.1,h2.2.1,hk⟩)⟩
   grind
 | len d st x =>
   have e1:=fun (s2:St) (ag:Agree _ s s2)=>ev ag (show x∈(I.len d st x).srcs by simp [I.srcs])
   simp only [aAb] at h
   split at h <;> first
    | exact h.elim
    | (rename_i hx; exact aAt hf hF (by simp [I.rank]) h (by simp [V.fit]) fun s2 ag K2 hk=>by simp only [aAb,e1 s2 ag,hx]; exact hk)
 | fadr d off x =>
   have e1:=fun (s2:St) (ag:Agree _ s s2)=>ev ag (show x∈(I.fadr d off x).srcs by simp [I.srcs])
   have f1:=fit (show x∈(I.fadr d off x).srcs by simp [I.srcs])
   simp only [aAb] at h
   split at h <;> first
    | exact h.elim
    | (rename_i hx; rw [hx] at f1; simp only [V.fit] at f1
       exact aAt hf hF (by simp [I.rank]) h (by simp only [V.fit]; first | exact f1 | exact aBo f1 _) fun s2 ag K2 hk=>by simp only [aAb,e1 s2 ag,hx]; exact hk)
 | iadr d sz x y =>
   have e1:=fun (s2:St) (ag:Agree _ s s2)=>ev ag (show x∈(I.iadr d sz x y).srcs by simp [I.srcs])
   have e2:=fun (s2:St) (ag:Agree _ s s2)=>ev ag (show y∈(I.iadr d sz x y).srcs by simp [I.srcs])
   have f1:=fit (show x∈(I.iadr d sz x y).srcs by simp [I.srcs])
   simp only [aAb] at h
   split at h
   ·rename_i hx hy
    rw [hx] at f1; simp only [V.fit] at f1
    exact aAt hf hF (by simp [I.rank]) h.2.2.2 (by simp only [V.fit]; exact aB8 (aGm f1 _)) fun s2 ag K2 hk=>by simp only [aAb,e1 s2 ag,e2 s2 ag,hx,hy]; exact ⟨h.1,h.2.1,h.2.2.1,hk⟩
   ·rename_i hx hy
    rw [hx] at f1; simp only [V.fit] at f1
    exact aAt hf hF (by simp [I.rank]) h.2.2.2 (by simp only [V.fit]; exact f1) fun s2 ag K2 hk=>by simp only [aAb,e1 s2 ag,e2 s2 ag,hx,hy]; exact ⟨h.1,h.2.1,h.2.2.1,hk⟩
   grind
 | iadrA d m sz x y =>
   have e1:=fun (s2:St) (ag:Agree _ s s2)=>ev ag (show x∈(I.iadrA d m sz x y).srcs by simp [I.srcs])
   have e2:=fun (s2:St) (ag:Agree _ s s2)=>ev ag (show y∈(I.iadrA d m sz x y).srcs by simp [I.srcs])
   have f1:=fit (show x∈(I.iadrA d m sz x y).srcs by simp [I.srcs])
   simp only [aAb] at h
   split at h
   ·rename_i hx hy
    rw [hx] at f1; simp only [V.fit] at f1
    exact aAt hf hF (by simp [I.rank]) h.2.2 (by simp only [V.fit]; exact aBo f1 _) fun s2 ag K2 hk=>by simp only [aAb,e1 s2 ag,e2 s2 ag,hx,hy]; exact ⟨h.1,h.2.1,hk⟩
   ·rename_i hx hy
    rw [hx] at f1; simp only [V.fit] at f1
    exact aAt hf hF (by simp [I.rank]) h.2.2 (by simp only [V.fit]; exact f1) fun s2 ag K2 hk=>by simp only [aAb,e1 s2 ag,e2 s2 ag,hx,hy]; exact ⟨h.1,h.2.1,hk⟩
   grind
 | nchk d x =>
   have e1:=fun (s2:St) (ag:Agree _ s s2)=>ev ag (show x∈(I.nchk d x).srcs by simp [I.srcs])
   have f1:=fit (show x∈(I.nchk d x).srcs by simp [I.srcs])
   simp only [aAb] at h
   split at h <;> first
    | exact h.elim
    | (rename_i hx; rw [hx] at f1
       exact aAt hf hF (by simp [I.rank]) h f1 fun s2 ag K2 hk=>by simp only [aAb,e1 s2 ag,hx]; exact hk)
 | load d c sz ag x =>
   have e1:=fun (s2:St) (agr:Agree _ s s2)=>ev agr (show x∈(I.load d c sz ag x).srcs by simp [I.srcs])
   have f1:=fit (show x∈(I.load d c sz ag x).srcs by simp [I.srcs])
   have hL':c=false→∀ s2,Agree (I.load d c sz ag x) s s2→∀ id,(∀ Fr:Nat→Prop,(s.ev x).fit Fr→Fr id)→s2.L id=s.L id:=by
    intro hcf s2 agr id hid
    subst hcf
    rcases agr.L with h | h | ⟨h,Fr,h1,h2,h3⟩ | h
    ·simp [I.rank] at h
    ·simp [I.rank] at h
    ·exact h3 id (hid Fr (h1 x (by simp [I.srcs])))
    grind
   simp only [aAb] at h
   split at h
   ·rename_i cs hx
    rw [hx] at f1; simp only [V.fit] at f1
    exact aAt hf hF (by simp only [I.rank]; grind) h.2 (aEi ag (aBv f1 _)) fun s2 agr K2 hk=>by simp only [aAb,e1 s2 agr,hx]; exact ⟨h.1,hk⟩
   ·rename_i id off hx
    rw [hx] at f1; simp only [V.fit] at f1
    split at h
    ·rename_i cs hb
     have hb2:=fun s2 agr=>(hL' h.1 s2 agr _ (fun Fr hfr=>by rw [hx] at hfr; simpa only [V.fit] using hfr)).trans hb
     exact aAt hf hF (by simp only [I.rank]; grind) h.2.2 (aEi ag (aBv (aBo (hf.blk _ _ hb).2 _) _)) fun s2 agr K2 hk=>by simp only [aAb,e1 s2 agr,hx,hb2 s2 agr]; exact ⟨h.1,h.2.1,hk⟩
    grind
   ·rename_i id i j hx
    rw [hx] at f1; simp only [V.fit] at f1
    split at h
    ·rename_i ty0 sz' es hb
     have hb2:=fun s2 agr=>(hL' h.1 s2 agr _ (fun Fr hfr=>by rw [hx] at hfr; simpa only [V.fit] using hfr)).trans hb
     exact aAt hf hF (by simp only [I.rank]; grind) h.2.2.2 (aEi ag (aBv (aBo (aB8 (aGm (hf.blk _ _ hb).2 _)) _) _)) fun s2 agr K2 hk=>by simp only [aAb,e1 s2 agr,hx,hb2 s2 agr]; exact ⟨h.1,h.2.1,h.2.2.1,hk⟩
    grind
   grind
 | store sz x y =>
   have e1:=fun (s2:St) (ag:Agree _ s s2)=>ev ag (show x∈(I.store sz x y).srcs by simp [I.srcs])
   have e2:=fun (s2:St) (ag:Agree _ s s2)=>ev ag (show y∈(I.store sz x y).srcs by simp [I.srcs])
   have f1:=fit (show x∈(I.store sz x y).srcs by simp [I.srcs])
   have f2:=fit (show y∈(I.store sz x y).srcs by simp [I.srcs])
   have hL':∀ s2,Agree (I.store sz x y) s s2→s2.L=s.L:=fun s2 ag=>by
    rcases ag.L with h | h | h | h
    ·simp [I.rank] at h
    ·simp [I.rank] at h
    ·simp [I.rank] at h
    omega
   simp only [aAb] at h
   split at h
   ·rename_i id off hx
    rw [hx] at f1; simp only [V.fit] at f1
    split at h
    ·rename_i ty0 cs hb
     have hb2:∀ s2,Agree (I.store sz x y) s s2→s2.L id=some (.box ty0 cs):=fun s2 ag=>by grind
     refine ⟨[(id,some (.box ty0 (aBs cs off (s.ev y).cells)))],.junk,h.2.2,fun s2 ag K2 hk=>?_,aA8 hf hF (by simp [V.fit]) (fun p hp b hpb=>?_),fun hr=>by simp [I.rank] at hr,fun hr=>by simp [I.rank] at hr⟩
     ·simp only [aAb,e1 s2 ag,e2 s2 ag,hx,hb2 s2 ag]; exact ⟨h.1,h.2.1,hk⟩
     ·simp only [List.mem_singleton] at hp
      subst hp
      simp only [Option.some.injEq] at hpb
      subst hpb
      exact ⟨hF _ f1,by simp only [Blk.fit]; exact aBb hF (aEc _ (hf.blk _ _ hb).2 (aB8 f2))⟩
    grind
   ·rename_i id i j hx
    rw [hx] at f1; simp only [V.fit] at f1
    split at h
    ·rename_i ty0 sz' es hb
     have hb2:∀ s2,Agree (I.store sz x y) s s2→s2.L id=some (.vec ty0 sz' es):=fun s2 ag=>by grind
     have hes:V.fits F es:=(hf.blk _ _ hb).2
     refine ⟨[(id,some (.vec ty0 sz' (es.set i ((es.getD i .junk).recell (aBs (es.getD i .junk).cells j (s.ev y).cells)))))],.junk,h.2.2.2,fun s2 ag K2 hk=>?_,aA8 hf hF (by simp [V.fit]) (fun p hp b hpb=>?_),fun hr=>by simp [I.rank] at hr,fun hr=>by simp [I.rank] at hr⟩
     ·simp only [aAb,e1 s2 ag,e2 s2 ag,hx,hb2 s2 ag]; exact ⟨h.1,h.2.1,h.2.2.1,hk⟩
     ·simp only [List.mem_singleton] at hp
      subst hp
      simp only [Option.some.injEq] at hpb
      subst hpb
      exact ⟨hF _ f1,by simp only [Blk.fit]; exact aBb hF (aQg _ hes (aJ6 (aEc _ (aB8 (aGm hes _)) (aB8 f2))))⟩
    grind
   grind
 | stq nw sz x y =>
   have e1:=fun (s2:St) (ag:Agree _ s s2)=>ev ag (show x∈(I.stq nw sz x y).srcs by simp [I.srcs])
   have e2:=fun (s2:St) (ag:Agree _ s s2)=>ev ag (show y∈(I.stq nw sz x y).srcs by simp [I.srcs])
   have f1:=fit (show x∈(I.stq nw sz x y).srcs by simp [I.srcs])
   have f2:=fit (show y∈(I.stq nw sz x y).srcs by simp [I.srcs])
   have hL':∀ s2,Agree (I.stq nw sz x y) s s2→s2.L=s.L:=fun s2 ag=>by
    rcases ag.L with h | h | h | h
    ·simp [I.rank] at h
    ·simp [I.rank] at h
    ·simp [I.rank] at h
    omega
   simp only [aAb] at h
   obtain ⟨hq,h⟩:=h
   split at h
   ·rename_i id off hx
    rw [hx] at f1; simp only [V.fit] at f1
    split at h
    ·rename_i ty0 cs hb
     have hb2:∀ s2,Agree (I.stq nw sz x y) s s2→s2.L id=some (.box ty0 cs):=fun s2 ag=>by grind
     refine ⟨[(id,some (.box ty0 (aBs cs off (s.ev y).cells)))],.junk,h.2.2,fun s2 ag K2 hk=>?_,aA8 hf hF (by simp [V.fit]) (fun p hp b hpb=>?_),fun hr=>by simp [I.rank] at hr,fun hr=>by simp [I.rank] at hr⟩
     ·simp only [aAb,e1 s2 ag,e2 s2 ag,hx,hb2 s2 ag]; exact ⟨by rw [ag.nx (by simp [I.rank])]; grind,h.1,h.2.1,hk⟩
     ·simp only [List.mem_singleton] at hp
      subst hp
      simp only [Option.some.injEq] at hpb
      subst hpb
      exact ⟨hF _ f1,by simp only [Blk.fit]; exact aBb hF (aEc _ (hf.blk _ _ hb).2 (aB8 f2))⟩
    grind
   ·rename_i id i j hx
    rw [hx] at f1; simp only [V.fit] at f1
    split at h
    ·rename_i ty0 sz' es hb
     have hb2:∀ s2,Agree (I.stq nw sz x y) s s2→s2.L id=some (.vec ty0 sz' es):=fun s2 ag=>by grind
     have hes:V.fits F es:=(hf.blk _ _ hb).2
     refine ⟨[(id,some (.vec ty0 sz' (es.set i ((es.getD i .junk).recell (aBs (es.getD i .junk).cells j (s.ev y).cells)))))],.junk,h.2.2.2,fun s2 ag K2 hk=>?_,aA8 hf hF (by simp [V.fit]) (fun p hp b hpb=>?_),fun hr=>by simp [I.rank] at hr,fun hr=>by simp [I.rank] at hr⟩
     ·simp only [aAb,e1 s2 ag,e2 s2 ag,hx,hb2 s2 ag]; exact ⟨by rw [ag.nx (by simp [I.rank])]; grind,h.1,h.2.1,h.2.2.1,hk⟩
     ·simp only [List.mem_singleton] at hp
      subst hp
      simp only [Option.some.injEq] at hpb
      subst hpb
      exact ⟨hF _ f1,by simp only [Blk.fit]; exact aBb hF (aQg _ hes (aJ6 (aEc _ (aB8 (aGm hes _)) (aB8 f2))))⟩
    grind
   grind
 | mkm d =>
   have hm:=hmk d rfl
   refine ⟨[(s.nx+d,some (.map 0 []))],.map (s.nx+d),h,fun s2 ag K2 hk=>?_,aA8 hf hF (by simp only [V.fit]; exact hm) (fun p hp b hpb=>?_),fun hr=>by simp [I.rank] at hr,fun _=>⟨d,_,rfl,rfl⟩⟩
   ·simp only [aAb,ag.nx (by simp [I.rank])]
    exact (by simpa only [St.chg,St.add,St.set,updL,aDq,I.dst,ag.nx (by simp [I.rank])] using hk)
   ·simp only [List.mem_singleton] at hp
    subst hp
    simp only [Option.some.injEq] at hpb
    subst hpb
    exact ⟨hm,by simp only [Blk.fit]⟩
 | mget d ag ks z c x k =>
   have e1:=fun (s2:St) (agr:Agree _ s s2)=>ev agr (show x∈(I.mget d ag ks z c x k).srcs by simp [I.srcs])
   have e2:=fun (s2:St) (agr:Agree _ s s2)=>ev agr (show k∈(I.mget d ag ks z c x k).srcs by simp [I.srcs])
   have f1:=fit (show x∈(I.mget d ag ks z c x k).srcs by simp [I.srcs])
   simp only [aAb] at h
   obtain ⟨h0,h⟩:=h
   split at h
   ·rename_i hx
    exact aAt hf hF (by simp [I.rank]) h.2 (aD1 F h.1) fun s2 agr K2 hk=>by simp only [aAb,e1 s2 agr,e2 s2 agr,hx]; exact ⟨h0,h.1,hk⟩
   ·rename_i id hx
    rw [hx] at f1; simp only [V.fit] at f1
    split at h
    ·rename_i cl es hb
     obtain ⟨r,h1,h2,h3⟩:=h
     refine aAt hf hF (by simp [I.rank]) h3 (aD1 F h2) fun s2 agr K2 hk=>?_
     have hL:s2.L id=some (.map cl es):=by
      rcases agr.L with h | h | ⟨_,Fr,q1,q2,q3⟩ | h
      ·simp [I.rank] at h
      ·simp [I.rank] at h
      ·have:=q1 x (by simp [I.srcs])
       rw [hx] at this; simp only [V.fit] at this
       grind
      grind
     simp only [aAb,e1 s2 agr,e2 s2 agr,hx,hL]
     exact ⟨h0,r,h1,h2,hk⟩
    grind
   grind
 | mput ag ks x k v =>
   have e1:=fun (s2:St) (agr:Agree _ s s2)=>ev agr (show x∈(I.mput ag ks x k v).srcs by simp [I.srcs])
   have e2:=fun (s2:St) (agr:Agree _ s s2)=>ev agr (show k∈(I.mput ag ks x k v).srcs by simp [I.srcs])
   have e3:=fun (s2:St) (agr:Agree _ s s2)=>ev agr (show v∈(I.mput ag ks x k v).srcs by simp [I.srcs])
   have f1:=fit (show x∈(I.mput ag ks x k v).srcs by simp [I.srcs])
   have hL':∀ s2,Agree (I.mput ag ks x k v) s s2→s2.L=s.L:=fun s2 ag=>by
    rcases ag.L with h | h | h | h
    ·simp [I.rank] at h
    ·simp [I.rank] at h
    ·simp [I.rank] at h
    omega
   simp only [aAb] at h
   obtain ⟨h0,h00,h⟩:=h
   split at h
   ·rename_i id hx
    rw [hx] at f1; simp only [V.fit] at f1
    split at h
    ·rename_i cl es hb
     obtain ⟨r,h1,h2⟩:=h
     refine ⟨[(id,some (aLa cl es (s.ev k) (s.ev v) r))],.junk,h2,fun s2 agr K2 hk=>?_,aA8 hf hF (by simp [V.fit]) (fun p hp b hpb=>?_),fun hr=>by simp [I.rank] at hr,fun hr=>by simp [I.rank] at hr⟩
     ·simp only [aAb,e1 s2 agr,e2 s2 agr,e3 s2 agr,hx,hL' s2 agr,hb]; exact ⟨h0,h00,r,h1,hk⟩
     ·simp only [List.mem_singleton] at hp
      subst hp
      simp only [Option.some.injEq] at hpb
      subst hpb
      exact ⟨hF _ f1,by cases r <;> simp only [aLa,Blk.fit]⟩
    grind
   grind
 | ment d ag ks z x k =>
   have e1:=fun (s2:St) (agr:Agree _ s s2)=>ev agr (show x∈(I.ment d ag ks z x k).srcs by simp [I.srcs])
   have e2:=fun (s2:St) (agr:Agree _ s s2)=>ev agr (show k∈(I.ment d ag ks z x k).srcs by simp [I.srcs])
   have f1:=fit (show x∈(I.ment d ag ks z x k).srcs by simp [I.srcs])
   have hL':∀ s2,Agree (I.ment d ag ks z x k) s s2→s2.L=s.L:=fun s2 ag=>by
    rcases ag.L with h | h | h | h
    ·simp [I.rank] at h
    ·simp [I.rank] at h
    ·simp [I.rank] at h
    omega
   simp only [aAb] at h
   obtain ⟨h0,h⟩:=h
   split at h
   ·rename_i id hx
    rw [hx] at f1; simp only [V.fit] at f1
    split at h
    ·rename_i cl es hb
     obtain ⟨r,h1,h2,h3⟩:=h
     refine ⟨[(id,some (aLa cl es (s.ev k) (mres false z es r) r))],.tup [mres false z es r,.int .i64 (aJz cl es r)],?_,fun s2 agr K2 hk=>?_,aA8 hf hF (by simp only [V.fit,V.fits]; exact ⟨aD1 _ h2,by simp,trivial⟩) (fun p hp b hpb=>?_),fun hr=>by simp [I.rank] at hr,fun hr=>by simp [I.rank] at hr⟩
     ·cases d <;> exact h3
     ·simp only [aAb,e1 s2 agr,e2 s2 agr,hx,hL' s2 agr,hb]
      refine ⟨h0,r,h1,h2,?_⟩
      cases d <;> exact hk
     ·simp only [List.mem_singleton] at hp
      subst hp
      simp only [Option.some.injEq] at hpb
      subst hpb
      exact ⟨hF _ f1,by cases r <;> simp only [aLa,Blk.fit]⟩
    grind
   grind
 | mst x t v =>
   have e1:=fun (s2:St) (agr:Agree _ s s2)=>ev agr (show x∈(I.mst x t v).srcs by simp [I.srcs])
   have e2:=fun (s2:St) (agr:Agree _ s s2)=>ev agr (show t∈(I.mst x t v).srcs by simp [I.srcs])
   have e3:=fun (s2:St) (agr:Agree _ s s2)=>ev agr (show v∈(I.mst x t v).srcs by simp [I.srcs])
   have f1:=fit (show x∈(I.mst x t v).srcs by simp [I.srcs])
   have hL':∀ s2,Agree (I.mst x t v) s s2→s2.L=s.L:=fun s2 ag=>by
    rcases ag.L with h | h | h | h
    ·simp [I.rank] at h
    ·simp [I.rank] at h
    ·simp [I.rank] at h
    omega
   simp only [aAb] at h
   obtain ⟨h00,h⟩:=h
   split at h
   ·rename_i id m hx ht
    rw [hx] at f1; simp only [V.fit] at f1
    split at h
    ·rename_i cl es hb
     obtain ⟨i,h1,h2⟩:=h
     refine ⟨[(id,some (.map cl (es.set i ((es.getD i default).1,s.ev v,(es.getD i default).2.2))))],.junk,h2,fun s2 agr K2 hk=>?_,aA8 hf hF (by simp [V.fit]) (fun p hp b hpb=>?_),fun hr=>by simp [I.rank] at hr,fun hr=>by simp [I.rank] at hr⟩
     ·simp only [aAb,e1 s2 agr,e2 s2 agr,e3 s2 agr,hx,ht,hL' s2 agr,hb]; exact ⟨h00,i,h1,hk⟩
     ·simp only [List.mem_singleton] at hp
      subst hp
      simp only [Option.some.injEq] at hpb
      subst hpb
      exact ⟨hF _ f1,by simp only [Blk.fit]⟩
    grind
   grind
 | alloc d ty zero =>
   simp only [I.constOk,Bool.and_eq_true] at hc
   have hm:=hmk d rfl
   refine ⟨[(s.nx+d,some (.box ty zero))],.ptr (s.nx+d) 0,h,fun s2 ag K2 hk=>?_,aA8 hf hF (by simp only [V.fit]; exact hm) (fun p hp b hpb=>?_),fun hr=>by simp [I.rank] at hr,fun _=>⟨d,_,rfl,rfl⟩⟩
   ·simp only [aAb,ag.nx (by simp [I.rank])]
    exact (by simpa only [St.chg,St.add,St.set,updL,aDq,I.dst,ag.nx (by simp [I.rank])] using hk)
   ·simp only [List.mem_singleton] at hp
    subst hp
    simp only [Option.some.injEq] at hpb
    subst hpb
    exact ⟨hm,by simp only [Blk.fit]; exact aCh F' hc.2⟩
 | mkz d ty m =>
   have hm:=hmk d rfl
   refine ⟨[(s.nx+d,some (.vec ty 1 (aAv (List.replicate m 0))))],.own (s.nx+d) 1 0 m,h,fun s2 ag K2 hk=>?_,aA8 hf hF (by simp only [V.fit]; exact hm) (fun p hp b hpb=>?_),fun hr=>by simp [I.rank] at hr,fun _=>⟨d,_,rfl,rfl⟩⟩
   ·simp only [aAb,ag.nx (by simp [I.rank])]
    exact (by simpa only [St.chg,St.add,St.set,updL,aDq,I.dst,ag.nx (by simp [I.rank])] using hk)
   ·simp only [List.mem_singleton] at hp
    subst hp
    simp only [Option.some.injEq] at hpb
    subst hpb
    exact ⟨hm,by simp only [Blk.fit]; exact aCh F' (aA7 _ _ fun _=>rfl)⟩
 | box d ty x =>
   have e1:=fun (s2:St) (ag:Agree _ s s2)=>ev ag (show x∈(I.box d ty x).srcs by simp [I.srcs])
   have f1:=fit (show x∈(I.box d ty x).srcs by simp [I.srcs])
   have hm:=hmk d rfl
   simp only [aAb] at h
   refine ⟨[(s.nx+d,some (.box ty (s.ev x).cells))],.ptr (s.nx+d) 0,h.2,fun s2 ag K2 hk=>?_,aA8 hf hF (by simp only [V.fit]; exact hm) (fun p hp b hpb=>?_),fun hr=>by simp [I.rank] at hr,fun _=>⟨d,_,rfl,rfl⟩⟩
   ·simp only [aAb,ag.nx (by simp [I.rank]),e1 s2 ag]
    exact ⟨h.1,by simpa only [St.chg,St.add,St.set,updL,aDq,I.dst,ag.nx (by simp [I.rank])] using hk⟩
   ·simp only [List.mem_singleton] at hp
    subst hp
    simp only [Option.some.injEq] at hpb
    subst hpb
    exact ⟨hm,by simp only [Blk.fit]; exact aBb hF (aB8 f1)⟩
 | mkl d sz parts =>
   have e1:∀ s2,Agree (I.mkl d sz parts) s s2→∀ p,p∈parts→s2.ev p=s.ev p:=fun s2 ag p hp=>ev ag (by simpa only [I.srcs] using hp)
   have f1:∀ p,p∈parts→(s.ev p).fit F:=fun p hp=>fit (by simpa only [I.srcs] using hp)
   have e2:∀ s2,Agree (I.mkl d sz parts) s s2→parts.map s2.ev=parts.map s.ev:=fun s2 ag=>List.map_congr_left (e1 s2 ag)
   simp only [aAb] at h
   refine aAt hf hF (by simp [I.rank]) h.2 (by
    simp only [V.fit]
    exact (aA3 F _).2 fun x hx=>by
     grind) fun s2 ag K2 hk=>?_
   simp only [aAb,e2 s2 ag]
   exact ⟨fun p hp=>by grind,hk⟩
 | mkv d ty sz parts =>
   have e1:∀ s2,Agree (I.mkv d ty sz parts) s s2→∀ p,p∈parts→s2.ev p=s.ev p:=fun s2 ag p hp=>ev ag (by simpa only [I.srcs] using hp)
   have f1:∀ p,p∈parts→(s.ev p).fit F:=fun p hp=>fit (by simpa only [I.srcs] using hp)
   have e2:∀ s2,Agree (I.mkv d ty sz parts) s s2→parts.map s2.ev=parts.map s.ev:=fun s2 ag=>List.map_congr_left (e1 s2 ag)
   have hm:=hmk d rfl
   simp only [aAb] at h
   refine ⟨[(s.nx+d,some (.vec ty sz (parts.map s.ev)))],.own (s.nx+d) sz 0 parts.length,h.2,fun s2 ag K2 hk=>?_,aA8 hf hF (by simp only [V.fit]; exact hm) (fun p hp b hpb=>?_),fun hr=>by simp [I.rank] at hr,fun _=>⟨d,_,rfl,rfl⟩⟩
   ·simp only [aAb,ag.nx (by simp [I.rank]),e2 s2 ag]
    exact ⟨fun p hp=>by grind,by simpa only [St.chg,St.add,St.set,updL,aDq,I.dst,ag.nx (by simp [I.rank])] using hk⟩
   ·simp only [List.mem_singleton] at hp
    subst hp
    simp only [Option.some.injEq] at hpb
    subst hpb
    exact ⟨hm,by
     simp only [Blk.fit]
     exact (aA3 F' _).2 fun x hx=>by
      obtain ⟨p,hp,rfl⟩:=List.mem_map.1 hx; exact aGi hF (f1 p hp)⟩
 | mk0 d ty sz x =>
   have e1:=fun (s2:St) (ag:Agree _ s s2)=>ev ag (show x∈(I.mk0 d ty sz x).srcs by simp [I.srcs])
   have hm:=hmk d rfl
   simp only [aAb] at h
   split at h
   ·rename_i m hev
    refine ⟨[(s.nx+d,some (.vec ty sz []))],.own (s.nx+d) sz 0 0,h.2.2,fun s2 ag K2 hk=>?_,aA8 hf hF (by simp only [V.fit]; exact hm) (fun p hp b hpb=>?_),fun hr=>by simp [I.rank] at hr,fun _=>⟨d,_,rfl,rfl⟩⟩
    ·simp only [aAb,ag.nx (by simp [I.rank]),e1 s2 ag,hev]
     exact ⟨h.1,h.2.1,by simpa only [St.chg,St.add,St.set,updL,aDq,I.dst,ag.nx (by simp [I.rank])] using hk⟩
    ·simp only [List.mem_singleton] at hp
     subst hp
     simp only [Option.some.injEq] at hpb
     subst hpb
     exact ⟨hm,by simp only [Blk.fit]; exact (aA3 F' _).2 fun x hx=>by grind⟩
   grind
 | appl d ty sz x =>
   have e1:=fun (s2:St) (ag:Agree _ s s2)=>ev ag (show x∈(I.appl d ty sz x).srcs by simp [I.srcs])
   have f1:=fit (show x∈(I.appl d ty sz x).srcs by simp [I.srcs])
   have hm:=hmk d rfl
   simp only [aAb] at h
   split at h
   ·rename_i hev
    refine ⟨[(s.nx+d,some (.vec ty sz []))],.own (s.nx+d) sz 0 0,h,fun s2 ag K2 hk=>?_,aA8 hf hF (by simp only [V.fit]; exact hm) (fun p hp b hpb=>?_),fun hr=>by simp [I.rank] at hr,fun _=>⟨d,_,rfl,rfl⟩⟩
    ·simp only [aAb,ag.nx (by simp [I.rank]),e1 s2 ag,hev]
     exact (by simpa only [St.chg,St.add,St.set,updL,aDq,I.dst,ag.nx (by simp [I.rank])] using hk)
    ·simp only [List.mem_singleton] at hp
     subst hp
     simp only [Option.some.injEq] at hpb
     subst hpb
     exact ⟨hm,by simp only [Blk.fit]; exact (aA3 F' _).2 fun x hx=>by grind⟩
   ·rename_i sz' es hev
    rw [hev] at f1; simp only [V.fit] at f1
    refine ⟨[(s.nx+d,some (.vec ty sz es))],.own (s.nx+d) sz 0 es.length,h.2.2,fun s2 ag K2 hk=>?_,aA8 hf hF (by simp only [V.fit]; exact hm) (fun p hp b hpb=>?_),fun hr=>by simp [I.rank] at hr,fun _=>⟨d,_,rfl,rfl⟩⟩
    ·simp only [aAb,ag.nx (by simp [I.rank]),e1 s2 ag,hev]
     exact ⟨h.1,h.2.1,by simpa only [St.chg,St.add,St.set,updL,aDq,I.dst,ag.nx (by simp [I.rank])] using hk⟩
    ·simp only [List.mem_singleton] at hp
     subst hp
     simp only [Option.some.injEq] at hpb
     subst hpb
     exact ⟨hm,by simp only [Blk.fit]; exact aBb hF f1⟩
   grind
 | s2b d ty x =>
   have e1:=fun (s2:St) (ag:Agree _ s s2)=>ev ag (show x∈(I.s2b d ty x).srcs by simp [I.srcs])
   have hm:=hmk d rfl
   simp only [aAb] at h
   split at h
   ·rename_i t hev
    refine ⟨[(s.nx+d,some (.vec ty 1 (aAv t)))],.own (s.nx+d) 1 0 t.length,h,fun s2 ag K2 hk=>?_,aA8 hf hF (by simp only [V.fit]; exact hm) (fun p hp b hpb=>?_),fun hr=>by simp [I.rank] at hr,fun _=>⟨d,_,rfl,rfl⟩⟩
    ·simp only [aAb,ag.nx (by simp [I.rank]),e1 s2 ag,hev]
     exact (by simpa only [St.chg,St.add,St.set,updL,aDq,I.dst,ag.nx (by simp [I.rank])] using hk)
    ·simp only [List.mem_singleton] at hp
     subst hp
     simp only [Option.some.injEq] at hpb
     subst hpb
     exact ⟨hm,by simp only [Blk.fit]; exact (aA3 F' _).2 fun x hx=>by obtain ⟨b,_,rfl⟩:=List.mem_map.1 hx; simp [V.fit]⟩
   grind
 | b2s d x =>
   have e1:=fun (s2:St) (agr:Agree _ s s2)=>ev agr (show x∈(I.b2s d x).srcs by simp [I.srcs])
   have hL':∀ s2,Agree (I.b2s d x) s s2→∀ id,(∀ Fr:Nat→Prop,(s.ev x).fit Fr→Fr id)→s2.L id=s.L id:=by
    intro s2 agr id hid
    rcases agr.L with h | h | ⟨h,Fr,h1,h2,h3⟩ | h
    ·simp [I.rank] at h
    ·simp [I.rank] at h
    ·exact h3 id (hid Fr (h1 x (by simp [I.srcs])))
    grind
   simp only [aAb] at h
   obtain ⟨hno,h⟩:=h
   unfold aA1 at h
   split at h
   ·rename_i hx
    obtain ⟨bs,hb,hK⟩:=h
    exact aAt hf hF (by simp [I.rank]) hK (by simp [V.fit]) fun s2 ag K2 hk=>by simp only [aAb,e1 s2 ag,hx,aA1,aMc]; exact ⟨trivial,bs,hb,hk⟩
   ·rename_i hx
    obtain ⟨hz,bs,hb,hK⟩:=h
    exact aAt hf hF (by simp [I.rank]) hK (by simp [V.fit]) fun s2 ag K2 hk=>by simp only [aAb,e1 s2 ag,hx,aA1,aMc]; exact ⟨trivial,hz,bs,hb,hk⟩
   ·rename_i id z off len hx
    split at h
    ·rename_i ty0 z0 es hb
     obtain ⟨hz,ho,bs,hbs,hK⟩:=h
     have hb2:=fun s2 agr=>(hL' s2 agr _ (fun Fr hfr=>by rw [hx] at hfr; simpa only [V.fit] using hfr)).trans hb
     exact aAt hf hF (by simp [I.rank]) hK (by simp [V.fit]) fun s2 ag K2 hk=>by simp only [aAb,e1 s2 ag,hx,aA1,aMc,hb2 s2 ag]; exact ⟨trivial,hz,ho,bs,hbs,hk⟩
    grind
   ·rename_i hx; rw [hx] at hno; exact hno.elim
   grind
 | app d ty sz x y =>
   have e1:=fun (s2:St) (ag:Agree _ s s2)=>ev ag (show x∈(I.app d ty sz x y).srcs by simp [I.srcs])
   have e2:=fun (s2:St) (ag:Agree _ s s2)=>ev ag (show y∈(I.app d ty sz x y).srcs by simp [I.srcs])
   have f1:=fit (show x∈(I.app d ty sz x y).srcs by simp [I.srcs])
   have f2:=fit (show y∈(I.app d ty sz x y).srcs by simp [I.srcs])
   have hm:=hmk d rfl
   have hL':∀ s2,Agree (I.app d ty sz x y) s s2→s2.L=s.L:=fun s2 ag=>by
    rcases ag.L with h | h | h | h
    ·simp [I.rank] at h
    ·simp [I.rank] at h
    ·simp [I.rank] at h
    omega
   simp only [aAb] at h
   rcases h with ⟨hx,h,hK⟩ | h
   ·obtain ⟨ys,g1,g2,g3⟩:=aH5 hf f2 h
    exact aAt hf hF (by simp [I.rank]) (v:=.nils) hK (by grind) fun s2 ag K2 hk=>by
     simp only [aAb,e1 s2 ag,e2 s2 ag,hx,hL' s2 ag]
     exact .inl ⟨trivial,h,hk⟩
   simp only [aCf] at h
   split at h
   ·rename_i hx
    obtain ⟨ys,g1,g2,g3⟩:=aH5 hf f2 h
    refine ⟨[(s.nx+d,some (.vec ty sz ys))],.own (s.nx+d) sz 0 ys.length,g2.2,fun s2 ag K2 hk=>?_,aA8 hf hF (by simp only [V.fit]; exact hm) (fun p hp b hpb=>?_),fun hr=>by simp [I.rank] at hr,fun hr=>by simp [I.rank] at hr⟩
    ·simp only [aAb,aCf,e1 s2 ag,e2 s2 ag,hx,hL' s2 ag,ag.nx (by simp [I.rank])]
     refine .inr ?_
     exact g3 _ ⟨g2.1,by simpa only [St.chg,St.add,St.set,updL,aDq,I.dst,ag.nx (by simp [I.rank]),hL' s2 ag] using hk⟩
    ·simp only [List.mem_singleton] at hp
     subst hp
     simp only [Option.some.injEq] at hpb
     subst hpb
     exact ⟨hm,by simp only [Blk.fit]; exact aBb hF g1⟩
   ·rename_i id sz' off n hx
    rw [hx] at f1; simp only [V.fit] at f1
    split at h
    ·rename_i tyy szz es hb
     obtain ⟨p0,p1,p2,h⟩:=h
     obtain ⟨ys,g1,g2,g3⟩:=aH5 hf f2 h
     refine ⟨[(id,none),(s.nx+d,some (.vec ty sz ((es.drop off).take n++ys)))],.own (s.nx+d) sz 0 (n+ys.length),g2.2,fun s2 ag K2 hk=>?_,aA8 hf hF (by simp only [V.fit]; exact hm) (fun p hp b hpb=>?_),fun hr=>by simp [I.rank] at hr,fun hr=>by simp [I.rank] at hr⟩
     ·simp only [aAb,aCf,e1 s2 ag,e2 s2 ag,hx,hL' s2 ag,ag.nx (by simp [I.rank]),hb]
      refine .inr ?_
      exact ⟨p0,p1,p2,g3 _ ⟨g2.1,by simpa only [St.chg,St.add,St.drop,St.set,updL,aDq,I.dst,ag.nx (by simp [I.rank]),hL' s2 ag] using hk⟩⟩
     ·simp only [List.mem_cons,List.not_mem_nil,or_false] at hp
      rcases hp with rfl | rfl
      ·grind
      ·simp only [Option.some.injEq] at hpb
       subst hpb
       exact ⟨hm,by simp only [Blk.fit]; exact aBb hF (aEj (aBv (aBo (hf.blk _ _ hb).2 _) _) g1)⟩
    grind
   grind
 | ldo d sz ag x =>
   have e1:=fun (s2:St) (agr:Agree _ s s2)=>ev agr (show x∈(I.ldo d sz ag x).srcs by simp [I.srcs])
   have f1:=fit (show x∈(I.ldo d sz ag x).srcs by simp [I.srcs])
   have hL':∀ s2,Agree (I.ldo d sz ag x) s s2→∀ id,(∀ Fr:Nat→Prop,(s.ev x).fit Fr→Fr id)→s2.L id=s.L id:=by
    intro s2 agr id hid
    rcases agr.L with h | h | ⟨h,Fr,h1,h2,h3⟩ | h
    ·simp [I.rank] at h
    ·simp [I.rank] at h
    ·exact h3 id (hid Fr (h1 x (by simp [I.srcs])))
    grind
   simp only [aAb] at h
   split at h
   ·rename_i id off hx
    obtain ⟨hq,h⟩:=h
    split at h
    ·rename_i cs hb
     have hb2:=fun s2 agr=>(hL' s2 agr _ (fun Fr hfr=>by rw [hx] at hfr; simpa only [V.fit] using hfr)).trans hb
     exact aAt hf hF (by simp [I.rank]) h.2 (aEi ag (aBv (aBo (hf.blk _ _ hb).2 _) _)) fun s2 agr K2 hk=>by simp only [aAb,e1 s2 agr,hx,hb2 s2 agr,agr.nx (by simp [I.rank])]; exact ⟨hq,h.1,hk⟩
    grind
   grind
 | ldr d sz ag x b =>
   have e1:=fun (s2:St) (agr:Agree _ s s2)=>ev agr (show x∈(I.ldr d sz ag x b).srcs by simp [I.srcs])
   have e2:=fun (s2:St) (agr:Agree _ s s2)=>ev agr (show .t b∈(I.ldr d sz ag x b).srcs by simp [I.srcs])
   simp only [St.ev] at e2
   have hL':∀ s2,Agree (I.ldr d sz ag x b) s s2→∀ id,(∀ Fr:Nat→Prop,(s.ev x).fit Fr→Fr id)→s2.L id=s.L id:=by
    intro s2 agr id hid
    rcases agr.L with h | h | ⟨h,Fr,h1,h2,h3⟩ | h
    ·simp [I.rank] at h
    ·simp [I.rank] at h
    ·exact h3 id (hid Fr (h1 x (by simp [I.srcs])))
    grind
   simp only [aAb] at h
   split at h
   ·rename_i id off id' off' hb hx
    obtain ⟨hq,h⟩:=h
    split at h
    ·rename_i ty cs hbl
     have hb2:=fun s2 agr=>(hL' s2 agr _ (fun Fr hfr=>by rw [hx] at hfr; simpa only [V.fit] using hfr)).trans hbl
     exact aAt hf hF (by simp [I.rank]) h.2 (aEi ag (aBv (aBo (hf.blk _ _ hbl).2 _) _)) fun s2 agr K2 hk=>by simp only [aAb,e1 s2 agr,e2 s2 agr,hb,hx,hb2 s2 agr]; exact ⟨hq,h.1,hk⟩
    grind
   grind
 | apq d ty sz x y =>
   have e1:=fun (s2:St) (ag:Agree _ s s2)=>ev ag (show x∈(I.apq d ty sz x y).srcs by simp [I.srcs])
   have e2:=fun (s2:St) (ag:Agree _ s s2)=>ev ag (show y∈(I.apq d ty sz x y).srcs by simp [I.srcs])
   have f2:=fit (show y∈(I.apq d ty sz x y).srcs by simp [I.srcs])
   have hm:=hmk d rfl
   have hL':∀ s2,Agree (I.apq d ty sz x y) s s2→s2.L=s.L:=fun s2 ag=>by
    rcases ag.L with h | h | h | h
    ·simp [I.rank] at h
    ·simp [I.rank] at h
    ·simp [I.rank] at h
    omega
   simp only [aAb] at h
   split at h
   ·rename_i id sz' off n hx
    split at h
    ·rename_i tyy szz es hb
     split at h
     ·rename_i sz2 ys hy
      rw [hy] at f2; simp only [V.fit] at f2
      obtain ⟨p0,p1,p2,p3,p4,h⟩:=h
      refine ⟨[(id,none),(s.nx+d,some (.vec ty sz ((es.drop off).take n++ys)))],.own (s.nx+d) sz 0 (n+ys.length),h,fun s2 ag K2 hk=>?_,aA8 hf hF (by simp only [V.fit]; exact hm) (fun p hp b hpb=>?_),fun hr=>by simp [I.rank] at hr,fun hr=>by simp [I.rank] at hr⟩
      ·simp only [aAb,e1 s2 ag,e2 s2 ag,hx,hy,hL' s2 ag,ag.nx (by simp [I.rank]),hb]
       exact ⟨p0,p1,p2,p3,p4,by simpa only [St.chg,St.add,St.drop,St.set,updL,aDq,I.dst,ag.nx (by simp [I.rank]),hL' s2 ag] using hk⟩
      ·simp only [List.mem_cons,List.not_mem_nil,or_false] at hp
       rcases hp with rfl | rfl
       ·grind
       ·simp only [Option.some.injEq] at hpb
        subst hpb
        exact ⟨hm,by simp only [Blk.fit]; exact aBb hF (aEj (aBv (aBo (hf.blk _ _ hb).2 _) _) f2)⟩
     grind
    grind
   grind
 | ptreq d neg x y =>
   have e1:=fun (s2:St) (ag:Agree _ s s2)=>ev ag (show x∈(I.ptreq d neg x y).srcs by simp [I.srcs])
   have e2:=fun (s2:St) (ag:Agree _ s s2)=>ev ag (show y∈(I.ptreq d neg x y).srcs by simp [I.srcs])
   simp only [aAb] at h
   split at h
   ·rename_i hx hy; exact aAt hf hF (by simp [I.rank]) h.2.2 (by simp [V.fit]) fun s2 ag K2 hk=>by simp only [aAb,e1 s2 ag,e2 s2 ag,hx,hy]; exact ⟨h.1,h.2.1,hk⟩
   grind
 | touns d x =>
   have e1:=fun (s2:St) (ag:Agree _ s s2)=>ev ag (show x∈(I.touns d x).srcs by simp [I.srcs])
   have f1:=fit (show x∈(I.touns d x).srcs by simp [I.srcs])
   simp only [aAb] at h
   split at h
   ·rename_i id o hx
    rw [hx] at f1; simp only [V.fit] at f1
    split at h
    ·rename_i ty0 cs hb
     refine aAt hf hF (by simp [I.rank]) h.2 (by simp only [V.fit]; exact f1) fun s2 ag K2 hk=>?_
     have hL:s2.L id=some (.box ty0 cs):=by
      rcases ag.L with h | h | ⟨_,Fr,q1,q2,q3⟩ | h
      ·simp [I.rank] at h
      ·simp [I.rank] at h
      ·have:=q1 x (by simp [I.srcs])
       rw [hx] at this; simp only [V.fit] at this
       grind
      grind
     simp only [aAb,e1 s2 ag,hx,hL]
     exact ⟨h.1,hk⟩
    grind
   grind
 | frouns d u z x =>
   have e1:=fun (s2:St) (ag:Agree _ s s2)=>ev ag (show x∈(I.frouns d u z x).srcs by simp [I.srcs])
   have f1:=fit (show x∈(I.frouns d u z x).srcs by simp [I.srcs])
   simp only [aAb] at h
   split at h
   ·rename_i id o hx
    rw [hx] at f1; simp only [V.fit] at f1
    split at h
    ·rename_i ty0 cs hb
     refine aAt hf hF (by simp [I.rank]) h.2.2.2 (by simp only [V.fit]; exact f1) fun s2 ag K2 hk=>?_
     have hL:s2.L id=some (.box ty0 cs):=by
      rcases ag.L with h | h | ⟨_,Fr,q1,q2,q3⟩ | h
      ·simp [I.rank] at h
      ·simp [I.rank] at h
      ·have:=q1 x (by simp [I.srcs])
       rw [hx] at this; simp only [V.fit] at this
       grind
      grind
     simp only [aAb,e1 s2 ag,hx,hL]
     exact ⟨h.1,h.2.1,h.2.2.1,hk⟩
    grind
   grind
 | sdata d x =>
   have e1:=fun (s2:St) (ag:Agree _ s s2)=>ev ag (show x∈(I.sdata d x).srcs by simp [I.srcs])
   have f1:=fit (show x∈(I.sdata d x).srcs by simp [I.srcs])
   simp only [aAb] at h
   split at h
   ·rename_i hx; exact aAt hf hF (by simp [I.rank]) h (by simp [V.fit]) fun s2 ag K2 hk=>by simp only [aAb,e1 s2 ag,hx]; exact hk
   ·rename_i id sz off n hx
    rw [hx] at f1; simp only [V.fit] at f1
    exact aAt hf hF (by simp [I.rank]) h.2 (by simp only [V.fit]; exact f1) fun s2 ag K2 hk=>by simp only [aAb,e1 s2 ag,hx]; exact ⟨h.1,hk⟩
   grind
 | ustr d ty x y =>
   have e1:=fun (s2:St) (ag:Agree _ s s2)=>ev ag (show x∈(I.ustr d ty x y).srcs by simp [I.srcs])
   have e2:=fun (s2:St) (ag:Agree _ s s2)=>ev ag (show y∈(I.ustr d ty x y).srcs by simp [I.srcs])
   have hL':∀ s2,Agree (I.ustr d ty x y) s s2→s2.L=s.L:=fun s2 ag=>by
    rcases ag.L with h | h | h | h
    ·simp [I.rank] at h
    ·simp [I.rank] at h
    ·simp [I.rank] at h
    omega
   simp only [aAb] at h
   split at h
   ·rename_i m hx hy
    exact aAt hf hF (by simp [I.rank]) h.2 (by simp [V.fit]) fun s2 ag K2 hk=>by simp only [aAb,e1 s2 ag,e2 s2 ag,hx,hy]; exact ⟨h.1,hk⟩
   ·rename_i id i' j m hx hy
    split at h
    ·rename_i ty' sz es hb
     obtain ⟨q1,q2,q3,q4,q5,q6,bs,q7,q8⟩:=h
     refine ⟨[(id,none)],.str bs,?_,fun s2 ag K2 hk=>?_,aA8 hf hF (by simp [V.fit]) (fun p hp b hpb=>?_),fun hr=>by simp [I.rank] at hr,fun hr=>by simp [I.rank] at hr⟩
     ·cases d <;> exact q8
     ·simp only [aAb,e1 s2 ag,e2 s2 ag,hx,hy,hL' s2 ag,hb]
      refine ⟨q1,q2,q3,q4,q5,q6,bs,q7,?_⟩
      cases d <;> exact hk
     grind
    grind
   grind
 | call d c f args =>
   have e1:∀ s2,Agree (I.call d c f args) s s2→∀ p,p∈args→s2.ev p=s.ev p:=fun s2 ag p hp=>ev ag (by simpa only [I.srcs] using hp)
   have f1:∀ p,p∈args→(s.ev p).fit F:=fun p hp=>fit (by simpa only [I.srcs] using hp)
   have e2:∀ s2,Agree (I.call d c f args) s s2→args.map s2.ev=args.map s.ev:=fun s2 ag=>List.map_congr_left (e1 s2 ag)
   simp only [aAb] at h
   cases c with
   | true =>
     simp only [if_true] at h
     obtain ⟨r,h1,h2,h4,h3⟩:=h
     exact aAt hf hF (by simp [I.rank]) h3 (aD1 F h4) fun s2 ag K2 hk=>by simp only [aAb,if_true,e2 s2 ag]; exact ⟨r,h1,h2,h4,hk⟩
   | false =>
     simp only [Bool.false_eq_true,if_false] at h
     obtain ⟨r,h1,h2,h3,h4⟩:=h
     have e3:∀ s2,Agree (I.call d false f args) s s2→(args.map fun a=>view s2.L 3 (s2.ev a))=args.map fun a=>view s.L 3 (s.ev a):=fun s2 ag=>List.map_congr_left fun p hp=>by
      rw [e1 s2 ag p hp]
      rcases ag.L with h | h | ⟨h,Fr,h1,h2,h3⟩ | h
      ·simp [I.rank] at h
      ·simp [I.rank] at h
      ·exact aJm h2 h3 3 (h1 p (by simpa only [I.srcs] using hp))
      grind
     exact aAt hf hF (by simp [I.rank]) h4 (aD1 F (aQm h3)) fun s2 ag K2 hk=>by simp only [aAb,Bool.false_eq_true,if_false,e3 s2 ag]; exact ⟨r,h1,h2,h3,hk⟩
 | pcall d x args =>
   have e0:=fun (s2:St) (ag:Agree _ s s2)=>ev ag (show x∈(I.pcall d x args).srcs by simp [I.srcs])
   have e1:∀ s2,Agree (I.pcall d x args) s s2→∀ p,p∈args→s2.ev p=s.ev p:=fun s2 ag p hp=>ev ag (by simp only [I.srcs]; grind)
   simp only [aAb] at h
   split at h
   ·rename_i f cs hfn
    obtain ⟨hb,r,h1,h2,h3,h4⟩:=h
    have e2:∀ s2,Agree (I.pcall d x args) s s2→(∀ p,p∈(I.pcall d x args).srcs→∀ k,view s2.L k (s.ev p)=view s.L k (s.ev p)):=fun s2 ag p hp k=>by
     rcases ag.L with h | h | ⟨h,Fr,h1,h2,h3⟩ | h
     ·simp [I.rank] at h
     ·simp [I.rank] at h
     ·exact aJm h2 h3 k (h1 p hp)
     grind
    have e3:∀ s2,Agree (I.pcall d x args) s s2→(args.map fun a=>view s2.L 3 (s2.ev a))=args.map fun a=>view s.L 3 (s.ev a):=fun s2 ag=>List.map_congr_left fun p hp=>by
     rw [e1 s2 ag p hp]
     exact e2 s2 ag p (by simp only [I.srcs]; grind) 3
    have e4:∀ s2,Agree (I.pcall d x args) s s2→view s2.L 4 (s2.ev x)=.fn f cs:=fun s2 ag=>by
     rw [e0 s2 ag,e2 s2 ag x (by simp [I.srcs]) 4,hfn]
    exact aAt hf hF (by simp [I.rank]) h4 (aD1 F (aQm h3)) fun s2 ag K2 hk=>by simp only [aAb,e4 s2 ag,e3 s2 ag]; exact ⟨hb,r,h1,h2,h3,hk⟩
   grind
 | mx3 d isMax x y z =>
   have e1:=fun (s2:St) (ag:Agree _ s s2)=>ev ag (show x∈(I.mx3 d isMax x y z).srcs by simp [I.srcs])
   have e2:=fun (s2:St) (ag:Agree _ s s2)=>ev ag (show y∈(I.mx3 d isMax x y z).srcs by simp [I.srcs])
   have e3:=fun (s2:St) (ag:Agree _ s s2)=>ev ag (show z∈(I.mx3 d isMax x y z).srcs by simp [I.srcs])
   simp only [aAb] at h
   split at h
   ·rename_i hp hq hr
    exact aAt hf hF (by simp [I.rank]) h.2.2 (by simp [V.fit]) fun s2 ag K2 hk=>by simp only [aAb,e1 s2 ag,e2 s2 ag,e3 s2 ag,hp,hq,hr]; exact ⟨h.1,h.2.1,hk⟩
   grind
 | mx d isMax x y =>
   have e1:=fun (s2:St) (ag:Agree _ s s2)=>ev ag (show x∈(I.mx d isMax x y).srcs by simp [I.srcs])
   have e2:=fun (s2:St) (ag:Agree _ s s2)=>ev ag (show y∈(I.mx d isMax x y).srcs by simp [I.srcs])
   simp only [aAb] at h
   split at h
   ·rename_i hx hy; exact aAt hf hF (by simp [I.rank]) h.2 (by simp [V.fit]) fun s2 ag K2 hk=>by simp only [aAb,e1 s2 ag,e2 s2 ag,hx,hy]; exact ⟨h.1,hk⟩
   grind
end
section
variable {P:Program} {K K':St→Prop}
theorem ECall.mono {f:FuncId} {args:List V} {L:Heap} {nx:Nat} {A B:V→Heap→Nat→Prop} (h:ECall P f args L nx A) (hab:∀ r L' nx',A r L' nx'→B r L' nx'):ECall P f args L nx B:=by
 obtain ⟨⟨r,L',nx',h1⟩,h2⟩:=h
 refine ⟨⟨r,L',nx',hab _ _ _ h1⟩,fun D G w vs hp hl hr=>(h2 D G w vs hp hl hr).mono ?_⟩
 grind
theorem aA9 {s:St} {d:Option Nat} {v:V} {t:Nat} (h:d≠some t):(s.setO d v).env t=s.env t:=by
 cases d with
 | none=>rfl
 | some d=>exact aAd _ _ _ _ fun e=>h (by rw [e])
theorem aD2 {s:St} {d:Nat} {v:V} {t:Nat} (h:some d≠some t):(s.set d v).env t=s.env t:=aAd _ _ _ _ fun e=>h (by rw [e])
theorem aE2 {sz:Nat} {L:Heap} {y:V} {A B:List V→Prop} (h:aA1 sz L y A) (hab:∀ l,A l→B l):aA1 sz L y B:=by
 unfold aA1 at *
 grind
theorem aBa {o:Option V} {d:Nat} {A B:Nat→Prop} (h:aBi o d A) (hab:∀ l,A l→B l):aBi o d B:=by
 unfold aBi at *
 grind
theorem aVd {op:BinOp} {x y:V} {A B:V→Prop} (h:vbin op x y A) (hab:∀ l,A l→B l):vbin op x y B:=by
 obtain ⟨v,_,h1,h2⟩:=aKz h
 grind
theorem aZ8 {op:UnOp} {x:V} {A B:V→Prop} (h:vun op x A) (hab:∀ l,A l→B l):vun op x B:=by
 obtain ⟨v,_,h1,h2⟩:=aOf h
 grind
theorem aF5 {i:I} {s:St} (h:aAb P i s K) (hK:∀ s',K s'→(∀ t,i.dst≠some t→s'.env t=s.env t)→K' s'):aAb P i s K':=by
 have k0:∀ {d:Option Nat} {v:V},i.dst=d→K (s.setO d v)→K' (s.setO d v):=fun e h=>hK _ h fun t ht=>aA9 (by grind)
 cases i <;> simp only [aAb,I.dst] at*<;> first
  | exact k0 rfl h
  | exact aVd h fun v hv=>k0 rfl hv
  | exact aZ8 h fun v hv=>k0 rfl hv
  | exact ⟨h.1,k0 rfl h.2⟩
  | exact hK _ h fun t ht=>aD2 ht
  | exact ⟨h.1,hK _ h.2 fun t ht=>aD2 ht⟩
  | skip
 case pick=>grind
 case eqA=>grind
 case eqB=>grind
 case isnil=>split at h <;> first | grind | grind | omega
 case cvt=>grind
 case cvs=>grind
 case field=>grind
 case ext=>grind
 case idx=>grind
 case idxA=>grind
 case slcS=>split at h <;> first | exact aBa h fun l h=>aBa h fun r h=>⟨h.1,h.2.1,k0 rfl h.2.2⟩ | omega
 case slc=>split at h <;> first
  | exact aBa h fun l h=>aBa h fun r h=>⟨h.1,h.2.1,k0 rfl h.2.2⟩
  | exact ⟨h.1,aBa h.2 fun l h=>aBa h fun r h=>⟨h.1,h.2.1,k0 rfl h.2.2⟩⟩
  | omega
 case len=>grind
 case fadr=>grind
 case iadr=>grind
 case iadrA=>grind
 case mk0=>split at h <;> first | exact ⟨h.1,h.2.1,hK _ h.2.2 fun t ht=>aD2 ht⟩ | omega
 case appl=>split at h <;> first | exact hK _ h fun t ht=>aD2 ht | exact ⟨h.1,h.2.1,hK _ h.2.2 fun t ht=>aD2 ht⟩ | omega
 case s2b=>split at h <;> first | exact hK _ h fun t ht=>aD2 ht | omega
 case b2s=>exact ⟨h.1,aE2 h.2 fun l hl=>by grind⟩
 case nchk=>grind
 case load =>
  grind
 case store =>
  split at h
  ·split at h
   ·exact ⟨h.1,h.2.1,hK _ h.2.2 fun _ _=>rfl⟩
   omega
  ·split at h
   ·exact ⟨h.1,h.2.1,h.2.2.1,hK _ h.2.2.2 fun _ _=>rfl⟩
   omega
  omega
 case stq =>
  obtain ⟨hq,h⟩:=h
  refine ⟨hq,?_⟩
  split at h
  ·split at h
   ·exact ⟨h.1,h.2.1,hK _ h.2.2 fun _ _=>rfl⟩
   omega
  ·split at h
   ·exact ⟨h.1,h.2.1,h.2.2.1,hK _ h.2.2.2 fun _ _=>rfl⟩
   omega
  omega
 case ldr =>
  grind
 case ldo =>
  grind
 case apq =>
  split at h
  ·split at h
   ·split at h
    ·exact ⟨h.1,h.2.1,h.2.2.1,h.2.2.2.1,h.2.2.2.2.1,hK _ h.2.2.2.2.2 fun t ht=>aD2 ht⟩
    omega
   omega
  omega
 case app =>
  refine h.imp (fun h=>⟨h.1,h.2.1,hK _ h.2.2 fun t ht=>aD2 ht⟩) fun h=>?_
  simp only [aCf] at h ⊢
  split at h
  ·exact aE2 h fun l h=>⟨h.1,hK _ h.2 fun t ht=>aD2 ht⟩
  ·split at h
   ·exact ⟨h.1,h.2.1,h.2.2.1,aE2 h.2.2.2 fun l h=>⟨h.1,hK _ h.2 fun t ht=>aD2 ht⟩⟩
   omega
  omega
 case call =>
  grind
 case ecall=>exact h.mono fun r L' nx' h=>hK _ h fun t ht=>aA9 ht
 case ecr=>exact h.mono fun r L' nx' h=>⟨h.1,hK _ h.2 fun t ht=>aA9 ht⟩
 case mget =>
  grind
 case mput =>
  refine ⟨h.1,h.2.1,?_⟩
  have h:=h.2.2
  split at h
  ·split at h
   ·obtain ⟨r,h1,h2⟩:=h; exact ⟨r,h1,hK _ h2 fun _ _=>rfl⟩
   omega
  omega
 case ment =>
  refine ⟨h.1,?_⟩
  have h:=h.2
  split at h
  ·split at h
   ·obtain ⟨r,h1,h2,h3⟩:=h; exact ⟨r,h1,h2,hK _ h3 fun t ht=>aA9 ht⟩
   omega
  omega
 case mst =>
  refine ⟨h.1,?_⟩
  have h:=h.2
  split at h
  ·split at h
   ·obtain ⟨i,h1,h2⟩:=h; exact ⟨i,h1,hK _ h2 fun _ _=>rfl⟩
   omega
  omega
 case pcall =>
  grind
 case vcall=>split at h <;> first | exact ⟨h.1,h.2.mono fun r L' nx' h=>hK _ h fun t ht=>aA9 ht⟩ | omega
 case mx=>grind
 case mx3=>grind
 case ptreq=>grind
 case touns =>
  grind
 case frouns =>
  grind
 case sdata=>grind
 case ustr =>
  split at h
  ·grind
  ·split at h
   ·obtain ⟨q1,q2,q3,q4,q5,q6,bs,q7,q8⟩:=h
    exact ⟨q1,q2,q3,q4,q5,q6,bs,q7,hK _ q8 fun t ht=>aA9 (s:=s.drop _) ht⟩
   omega
  omega
theorem aE7 {i:I} {s:St} (h:aAb P i s K) (hK:∀ s',K s'→K' s'):aAb P i s K':=aF5 h fun s' h _=>hK s' h
theorem aCt {x:GI} {s:St} (h:aAz P x s K) (hK:∀ s',K s'→K' s'):aAz P x s K':=by
 unfold aAz at *
 split
 ·rename_i hg; simp only [hg] at h; exact aE7 h hK
 ·rename_i t w hg
  simp only [hg] at h
  split at h
  ·split
   ·rename_i e; simp only [e,if_true] at h; exact aE7 h hK
   grind
  ·grind
  omega
theorem aM4:∀ {l:List GI} {s:St} {K K':St→Prop},aops P l s K→(∀ s',K s'→K' s')→aops P l s K'
 | [],s,K,K',h,hK=>hK _ h
 | x::r,s,K,K',h,hK=>aCt h fun s' h=>aM4 h hK
theorem aH9:∀ (l r:List GI) (s:St),aops P l s (fun s'=>aops P r s' K)→aops P (l++r) s K
 | [],r,s,h=>h
 | x::l,r,s,h=>aCt h fun s' h=>aH9 l r s' h
theorem aGw {sz:Nat} {L:Heap} {y:V} {A:List V→Prop} (h:aA1 sz L y A):∃ l,A l:=by
 unfold aA1 at h
 grind
theorem aFc {o:Option V} {d:Nat} {A:Nat→Prop} (h:aBi o d A):∃ l,A l:=by
 unfold aBi at h
 grind
theorem aPz {i:I} {s:St} (h:aAb P i s K):∃ s',K s':=by
 cases i <;> simp only [aAb] at h <;> first
  | exact ⟨_,h⟩
  | exact ⟨_,h.2⟩
  | skip
 case pick=>grind
 case bin=>obtain ⟨v,_,h1,_⟩:=aKz h; grind
 case un=>obtain ⟨v,_,h1,_⟩:=aOf h; grind
 case eqA=>grind
 case eqB=>grind
 case isnil=>grind
 case cvt=>grind
 case cvs=>grind
 case field=>grind
 case ext=>grind
 case idx=>grind
 case idxA=>grind
 case slcS=>split at h <;> first | (obtain ⟨l,h⟩:=aFc h; obtain ⟨r,h⟩:=aFc h; exact ⟨_,h.2.2⟩) | exact h.elim
 case slc=>split at h <;> first
  | (obtain ⟨l,h⟩:=aFc h; obtain ⟨r,h⟩:=aFc h; exact ⟨_,h.2.2⟩)
  | (obtain ⟨l,h⟩:=aFc h.2; obtain ⟨r,h⟩:=aFc h; exact ⟨_,h.2.2⟩)
  | grind
 case len=>grind
 case fadr=>grind
 case iadr=>grind
 case iadrA=>grind
 case mk0=>grind
 case appl=>grind
 case s2b=>grind
 case b2s=>obtain ⟨l,bs,h1,h2⟩:=aGw h.2; grind
 case nchk=>grind
 case load =>
  grind
 case store =>
  grind
 case stq =>
  grind
 case ldr =>
  grind
 case ldo =>
  grind
 case apq =>
  grind
 case app =>
  rcases h with h | h
  ·grind
  simp only [aCf] at h
  split at h
  ·obtain ⟨l,h⟩:=aGw h; grind
  ·split at h
   ·obtain ⟨l,h⟩:=aGw h.2.2.2; grind
   grind
  grind
 case call =>
  grind
 case mx=>grind
 case mx3=>grind
 case ptreq=>grind
 case touns =>
  grind
 case frouns =>
  grind
 case sdata=>grind
 case ustr =>
  grind
 case ecall=>obtain ⟨⟨r,L',nx',h1⟩,_⟩:=h; grind
 case ecr=>obtain ⟨⟨r,L',nx',h1⟩,_⟩:=h; grind
 case mget =>
  grind
 case mput =>
  grind
 case ment =>
  grind
 case mst =>
  grind
 case pcall =>
  grind
 case vcall =>
  split at h
  ·obtain ⟨_,⟨r,L',nx',h1⟩,_⟩:=h; grind
  grind
theorem aK8 {x:GI} {s:St} (h:aAz P x s K):∃ s',K s':=by
 unfold aAz at h
 split at h
 ·exact aPz h
 ·split at h
  ·split at h
   ·exact aPz h
   grind
  ·grind
  grind
theorem aUs:∀ {l:List GI} {s:St} {K:St→Prop},aops P l s K→∃ s',K s'
 | [],s,K,h=>⟨s,h⟩
 | x::r,s,K,h=>by
   obtain ⟨s1,h1⟩:=aK8 h
   exact aUs h1
theorem aZb {op:BinOp} {x y:V} {A B:V→Prop} (h:vbin op x y A) (h':vbin op x y B):vbin op x y fun v=>A v∧B v:=by
 unfold vbin at *
 split at h
 ·refine ⟨h.1,?_⟩
  have h1:=h.2
  have h2:=h'.2
  cases op <;> simp only [vint] at h1 h2 ⊢ <;> first | grind | grind | exact h1.elim
 ·cases op <;> simp only [vstr] at h h' ⊢ <;> first | grind | grind | exact h.elim
 omega
theorem bFc {op:UnOp} {x:V} {A B:V→Prop} (h:vun op x A) (h':vun op x B):vun op x fun v=>A v∧B v:=by
 unfold vun at *
 split at h <;> first | grind | omega
theorem aDb {o:Option V} {d:Nat} {A B:Nat→Prop} (h:aBi o d A) (h':aBi o d B):aBi o d fun n=>A n∧B n:=by
 unfold aBi at *
 split at h <;> first | grind | grind | omega
theorem aMi {i:I} {s:St} (hr:i.rank=0) (ha:i.ang=false) (h:aAb P i s K) (h':aAb P i s K'):aAb P i s fun s'=>K s'∧K' s':=by
 cases i <;> simp only [aAb] at h h' ⊢ <;> first
  | exact ⟨h,h'⟩
  | exact ⟨h.1,h.2,h'.2⟩
  | exact aZb h h'
  | exact bFc h h'
  | skip
 case pick=>split at h <;> (try simp only [*] at h') <;> first | exact ⟨h,h'⟩ | exact h.elim
 case eqA =>
  split at h <;> (try simp only [*] at h')
  ·obtain ⟨t,h1,h2⟩:=h
   obtain ⟨t',h3,h4⟩:=h'
   obtain rfl:t=t':=Option.some.inj (h1.symm.trans h3)
   exact ⟨t,h1,h2,h4⟩
  ·exact h.elim
 case eqB=>split at h <;> (try simp only [*] at h') <;> first | exact ⟨h,h'⟩ | exact h.elim
 case isnil=>split at h <;> (try simp only [*] at h') <;> first | exact ⟨h,h'⟩ | exact ⟨h.1,h.2,h'.2⟩ | exact h.elim
 case cvt=>split at h <;> (try simp only [*] at h') <;> first | exact ⟨h,h'⟩ | exact h.elim
 case cvs=>split at h <;> (try simp only [*] at h') <;> first | exact ⟨h,h'⟩ | exact h.elim
 case field=>split at h <;> (try simp only [*] at h') <;> first | exact ⟨h.1,h.2,h'.2⟩ | exact h.elim
 case ext=>split at h <;> (try simp only [*] at h') <;> first | exact ⟨h.1,h.2,h'.2⟩ | exact h.elim
 case idx=>split at h <;> (try simp only [*] at h') <;> first | exact ⟨h.1,h.2.1,h.2.2,h'.2.2⟩ | exact h.elim
 case idxA=>split at h <;> (try simp only [*] at h') <;> first | exact ⟨h.1,h.2.1,h.2.2.1,h.2.2.2,h'.2.2.2⟩ | exact h.elim
 case slcS =>
  split at h <;> (try simp only [*] at h')
  ·exact aBa (aDb h h') fun l h=>aBa (aDb h.1 h.2) fun r h=>⟨h.1.1,h.1.2.1,h.1.2.2,h.2.2.2⟩
  ·exact h.elim
 case slc =>
  split at h <;> (try simp only [*] at h')
  ·exact aBa (aDb h h') fun l h=>aBa (aDb h.1 h.2) fun r h=>⟨h.1.1,h.1.2.1,h.1.2.2,h.2.2.2⟩
  ·exact ⟨h.1,aBa (aDb h.2 h'.2) fun l h=>aBa (aDb h.1 h.2) fun r h=>⟨h.1.1,h.1.2.1,h.1.2.2,h.2.2.2⟩⟩
  ·exact ⟨h.1,aBa (aDb h.2 h'.2) fun l h=>aBa (aDb h.1 h.2) fun r h=>⟨h.1.1,h.1.2.1,h.1.2.2,h.2.2.2⟩⟩
  ·exact h.elim
 case len=>split at h <;> (try simp only [*] at h') <;> first | exact ⟨h,h'⟩ | exact h.elim
 case fadr=>split at h <;> (try simp only [*] at h') <;> first | exact ⟨h,h'⟩ | exact h.elim
 case iadr=>split at h <;> (try simp only [*] at h') <;> first | exact ⟨h.1,h.2.1,h.2.2.1,h.2.2.2,h'.2.2.2⟩ | exact h.elim
 case iadrA=>split at h <;> (try simp only [*] at h') <;> first | exact ⟨h.1,h.2.1,h.2.2,h'.2.2⟩ | exact h.elim
 case mk0=>simp [I.rank] at hr
 case appl=>simp [I.rank] at hr
 case s2b=>simp [I.rank] at hr
 case b2s=>simp [I.rank] at hr
 case nchk=>split at h <;> (try simp only [*] at h') <;> first | exact ⟨h,h'⟩ | exact h.elim
 case load d c sz ag x =>
  simp only [I.rank] at hr
  split at h <;> (try simp only [*] at h')
  ·exact ⟨h.1,h.2,h'.2⟩
  ·split at h
   ·have:=h.1; subst this; simp at hr
   ·exact h.elim
  ·split at h
   ·have:=h.1; subst this; simp at hr
   ·exact h.elim
  ·exact h.elim
 case store=>simp [I.rank] at hr
 case stq=>simp [I.rank] at hr
 case app=>simp [I.rank] at hr
 case ldo=>simp [I.rank] at hr
 case ldr=>simp [I.rank] at hr
 case apq=>simp [I.rank] at hr
 case call d c f args =>
  simp only [I.ang] at ha
  subst ha
  simp [I.rank] at hr
 case mx =>
  split at h
  ·rename_i h1 h2
   simp only [h1,h2] at h'
   exact ⟨h.1,h.2,h'.2⟩
  ·exact h.elim
 case mx3 =>
  split at h
  ·rename_i h1 h2 h3
   simp only [h1,h2,h3] at h'
   exact ⟨h.1,h.2.1,h.2.2,h'.2.2⟩
  ·exact h.elim
 case ptreq =>
  split at h
  ·rename_i h1 h2
   simp only [h1,h2] at h'
   exact ⟨h.1,h.2.1,h.2.2,h'.2.2⟩
  ·exact h.elim
 case sdata =>
  split at h
  ·rename_i h1
   simp only [h1] at h'
   exact ⟨h,h'⟩
  ·rename_i h1
   simp only [h1] at h'
   exact ⟨h.1,h.2,h'.2⟩
  ·exact h.elim
 case touns=>simp [I.rank] at hr
 case frouns=>simp [I.rank] at hr
 case ustr=>simp [I.rank] at hr
 case ecall=>simp [I.rank] at hr
 case ecr=>simp [I.rank] at hr
 case vcall=>simp [I.rank] at hr
 case pcall=>simp [I.rank] at hr
 case mget=>simp [I.rank] at hr
 case mput=>simp [I.rank] at hr
 case ment=>simp [I.rank] at hr
 case mst=>simp [I.rank] at hr
theorem aUf {x:GI} {s:St} (hr:x.i.rank=0) (ha:x.i.ang=false) (h:aAz P x s K) (h':aAz P x s K'):aAz P x s fun s'=>K s'∧K' s':=by
 unfold aAz at *
 split
 ·rename_i hg; simp only [hg] at h h'; exact aMi hr ha h h'
 ·rename_i t w hg
  simp only [hg] at h h'
  split at h
  ·rename_i b hb
   simp only [hb] at h'
   split
   ·rename_i e; simp only [e,if_true] at h h'; exact aMi hr ha h h'
   grind
  ·grind
  omega
end
end Go.Ab
namespace Go.Ab
open Go.RowKit
theorem aTi (i:I):i.rank≤4:=by cases i <;> simp [I.rank] <;> split <;> omega
instance:Inhabited GI:=⟨⟨none,.alloc 0 0 []⟩⟩
section
variable {P:Program} {x y:GI} {s:St} {F F':Nat→Prop} {K K1:St→Prop}
def GLoc (P:Program) (x:GI) (s:St) (F':Nat→Prop) (K1:St→Prop):Prop :=
 ∃ δ v,K1 (s.chg δ x.i.dst v)∧(∀ s2,(∀ t,t∈x.reads→s2.env t=s.env t)→Agree x.i s s2→∀ K2:St→Prop,K2 (s2.chg δ x.i.dst v)→aAz P x s2 K2)∧SFit F' (s.chg δ x.i.dst v) ∧
   (x.i.rank≤1→δ=[])∧(x.i.rank=2→δ=[]∨∃ d b,x.i.mk=some d∧δ=[(s.nx+d,b)])
theorem gloc (hr4:x.i.rank≠4) (hc:x.i.constOk=true) (hf:SFit F s) (hF:∀ id,F id→F' id) (hmk:∀ d,x.i.mk=some d→F' (s.nx+d)) (h:aAz P x s K1):GLoc P x s F' K1:=by
 obtain ⟨g,i⟩:=x
 cases g with
 | none =>
   obtain ⟨δ,v,h1,h2,h3,h4,h5⟩:=loc hr4 hc hf hF hmk h
   exact ⟨δ,v,h1,fun s2 _ ag K2 hk=>h2 s2 ag K2 hk,h3,h4,fun hr=>.inr (h5 hr)⟩
 | some tw =>
   obtain ⟨t,w⟩:=tw
   have ht:∀ s2:St,(∀ u,u∈(⟨some (t,w),i⟩:GI).reads→s2.env u=s.env u)→s2.env t=s.env t:=fun s2 h=>h t (by simp [GI.reads])
   have skip:K1 (s.setO i.dst (.tup []))→(∀ s2:St,s2.env t=s.env t→∀ K2:St→Prop,K2 (s2.setO i.dst (.tup []))→aAz P ⟨some (t,w),i⟩ s2 K2)→GLoc P ⟨some (t,w),i⟩ s F' K1:=fun h1 h2 =>
    ⟨[],.tup [],by rw [aGt]; exact h1,fun s2 he _ K2 hk=>h2 s2 (ht s2 he) K2 (by rwa [aGt] at hk),aA8 hf hF (by simp [V.fit,V.fits]) (by simp),fun _=>rfl,fun _=>.inl rfl⟩
   simp only [aAz] at h
   split at h
   ·rename_i b hb
    split at h
    ·rename_i hbw
     obtain ⟨δ,v,h1,h2,h3,h4,h5⟩:=loc hr4 hc hf hF hmk h
     refine ⟨δ,v,h1,fun s2 he ag K2 hk=>?_,h3,h4,fun hr=>.inr (h5 hr)⟩
     simp only [aAz,ht s2 he,hb,hbw,if_true]
     grind
    ·rename_i hbw
     exact skip h fun s2 he K2 hk=>by simp only [aAz,he,hb,hbw,if_false]; exact hk
   ·rename_i hb
    exact skip h fun s2 he K2 hk=>by simp only [aAz,he,hb]; exact hk
   grind
theorem aBf {a b:List Nat} (h:disj a b=true) {t:Nat} (ha:t∈a):t∉b:=by
 simp only [disj,List.all_eq_true] at h
 grind
theorem aLh {e:Nat→V} {d:Option Nat} {v:V} {t:Nat} (h:∀ k,d=some k→k≠t):aDq e d v t=e t:=by
 cases d with
 | none=>rfl
 | some k=>simp only [aDq]; exact aAd _ _ _ _ fun hh=>h k rfl hh.symm
theorem aG4 {e:Nat→V} {d d':Option Nat} {v v':V} (h:∀ k,d=some k→d'≠some k):aDq (aDq e d v) d' v'=aDq (aDq e d' v') d v:=by
 cases d with
 | none=>rfl
 | some k =>
   cases d' with
   | none=>rfl
   | some k' =>
     have hne:k≠k':=fun hh=>h k rfl (by rw [hh])
     funext t
     simp only [aDq,upd]
     grind
theorem aKy {α:Type} (f:Nat→α) {i j:Nat} (u v:α) (h:i≠j):upd (upd f i u) j v=upd (upd f j v) i u:=by
 funext t
 simp only [upd]
 grind
theorem aX8 {x y:GI} (h:x.swq y=true):x.i.rank≤3∧y.i.rank≤3:=by
 unfold GI.swq at h
 split at h
 ·exact ⟨by simp [I.rank],by simp [I.rank]⟩
 ·exact ⟨by simp [I.rank],by simp [I.rank]⟩
 ·exact ⟨by simp [I.rank],by simp [I.rank]⟩
 grind
theorem aH4 {s:St} {d:Option Nat} {v:V} {q:Src} (h:∀ k,d=some k→q≠.t k):(s.setO d v).ev q=s.ev q:=by
 cases d with
 | none=>rfl
 | some k =>
   cases q with
   | k v=>rfl
   | t m=>exact aAd _ _ _ _ fun e=>h k rfl (by rw [e])
theorem aVh {d:Option Nat} {sz:Nat} {ag:Bool} {a:Src} {d' ty sz':Nat} {b c:Src} (h1:∀ k,d=some k→b≠.t k∧c≠.t k) (h2:a≠.t d') (h3:d≠some d') :
 aAb P (.ldo d sz ag a) s (fun s1=>aAb P (.apq d' ty sz' b c) s1 K)↔aAb P (.apq d' ty sz' b c) s (fun s1=>aAb P (.ldo d sz ag a) s1 K):=by
 have eb:∀ v,(s.setO d v).ev b=s.ev b:=fun v=>aH4 fun k hk=>(h1 k hk).1
 have ec:∀ v,(s.setO d v).ev c=s.ev c:=fun v=>aH4 fun k hk=>(h1 k hk).2
 have ea:∀ (s':St) (w:V),s'.env=s.env→(s'.set d' w).ev a=s.ev a:=fun s' w he=>by
  have:=aH4 (s:=s') (d:=some d') (v:=w) (q:=a) fun k hk=>by grind
  rw [show s'.set d' w=s'.setO (some d') w from rfl,this]
  cases a with
  | k v=>rfl
  | t m=>show s'.env m=s.env m; rw [he]
 have eq:∀ (id:Nat) (B:Blk) (v w:V),(((s.setO d v).drop id).add (s.nx+d') B).set d' w=(((s.drop id).add (s.nx+d') B).set d' w).setO d v:=fun id B v w=>by
  cases d with
  | none=>rfl
  | some k =>
    have hne:k≠d':=fun e=>h3 (by rw [e])
    simp only [St.setO,St.set,St.add,St.drop,aKy _ _ _ hne]
 simp only [aAb,eb,ec,aCq,aB1]
 cases hb:s.ev b with
 | own id' szz off n =>
   cases ha:s.ev a with
   | ptr id o =>
     simp only
     constructor
     ·rintro ⟨q1,h⟩
      split at h
      ·rename_i ty0 cs hL
       obtain ⟨q2,h⟩:=h
       split at h
       ·rename_i ty1 sz1 es hL'
        have hne:id≠id':=fun e=>by grind
        split at h
        ·rename_i sz2 ys hc
         obtain ⟨r1,r2,r3,r4,r5,r6⟩:=h
         try simp only [hL',hc]
         refine ⟨r1,r2,r3,r4,r5,?_⟩
         rw [ea _ _ (by rfl),ha]
         simp only
         refine ⟨q1,?_⟩
         have e:((((s.drop id').add (s.nx+d') (.vec ty sz' ((es.drop off).take n++ys))).set d' (.own (s.nx+d') sz' 0 (n+ys.length))).L id)=s.L id:=by
          show upd (upd s.L id' none) (s.nx+d') _ id=_
          rw [aAd _ _ _ _ (by omega),aAd _ _ _ _ hne]
         grind
        omega
       omega
      grind
     ·intro h
      split at h
      ·rename_i ty1 sz1 es hL'
       split at h
       ·rename_i sz2 ys hc
        obtain ⟨r1,r2,r3,r4,r5,h⟩:=h
        rw [ea _ _ (by rfl),ha] at h
        simp only at h
        obtain ⟨q1,h⟩:=h
        have q1:id<s.nx:=q1
        have e0:((((s.drop id').add (s.nx+d') (.vec ty sz' ((es.drop off).take n++ys))).set d' (.own (s.nx+d') sz' 0 (n+ys.length))).L id)=upd s.L id' none id:=by
         show upd (upd s.L id' none) (s.nx+d') _ id=_
         rw [aAd _ _ _ _ (by omega)]
        by_cases hne:id=id'
        ·have e1:upd s.L id' none id=none:=by rw [hne]; exact aAe _ _ _
         grind
        have e:((((s.drop id').add (s.nx+d') (.vec ty sz' ((es.drop off).take n++ys))).set d' (.own (s.nx+d') sz' 0 (n+ys.length))).L id)=s.L id:=by
         rw [e0,aAd _ _ _ _ hne]
        grind
       grind
      grind
   | _ =>
     simp only
     constructor
     ·simp
     ·intro h
      split at h
      ·split at h
       ·obtain ⟨r1,r2,r3,r4,r5,h⟩:=h
        rw [ea _ _ (by rfl),ha] at h
        omega
       omega
      omega
 | _ =>
   grind
theorem aZu {x y:GI} (hs:x.swq y=true) (i1:disj x.i.dst.toList y.reads=true) (i2:disj y.i.dst.toList x.reads=true) (i3:disj x.i.dst.toList y.i.dst.toList=true) (h:aAz P x s (fun s1=>aAz P y s1 K)):aAz P y s (fun s2=>aAz P x s2 K):=by
 unfold GI.swq at hs
 split at hs
 ·rename_i a zx ax vx b zy ay vy
  have hab:a≠b:=by grind
  simp only [aAz,aAb] at h ⊢
  obtain ⟨hq,h⟩:=h
  have ids:∀ {x:V} {id id':Nat},True→(if a=true then s.nx≤id else id<s.nx)→(if b=true then s.nx≤id' else id'<s.nx)→id≠id':=by
   grind
  have hput:∀ (id:Nat) (bl:Blk) (q:Src),(s.put id bl).ev q=s.ev q:=fun id bl q=>by rfl
  have hswap:∀ (id id':Nat) (bl bl':Blk),id≠id'→(s.put id bl).put id' bl'=(s.put id' bl').put id bl:=fun id id' bl bl' hne=>by
   simp only [St.put,aKy _ _ _ hne]
  have hL:∀ (id id':Nat) (bl:Blk),id≠id'→(s.put id bl).L id'=s.L id':=fun id id' bl hne=>aAd _ _ _ _ (Ne.symm hne)
  have hnx:∀ (id:Nat) (bl:Blk),(s.put id bl).nx=s.nx:=fun _ _=>rfl
  split at h
  ·rename_i id o hx
   simp only [hx,idq] at hq
   split at h
   ·rename_i ty cs hb
    obtain ⟨c1,c2,c3,h⟩:=h
    simp only [hput,hnx] at c3 h
    split at h
    ·rename_i id' o' hy
     simp only [hy,idq] at c3
     have hne:=ids (x:=.junk) trivial hq c3
     rw [hL _ _ _ hne] at h
     split at h
     ·rename_i ty' cs' hb'
      obtain ⟨d1,d2,d3⟩:=h
      simp only [hput,hnx,hx,hy,hb',idq,hL _ _ _ (Ne.symm hne),hb]
      grind
     grind
    ·rename_i id' i' j' hy
     simp only [hy,idq] at c3
     have hne:=ids (x:=.junk) trivial hq c3
     rw [hL _ _ _ hne] at h
     split at h
     ·rename_i ty' sz' es' hb'
      obtain ⟨d1,d2,d3,d4⟩:=h
      simp only [hput,hnx,hx,hy,hb',idq,hL _ _ _ (Ne.symm hne),hb]
      grind
     grind
    grind
   grind
  ·rename_i id i j hx
   simp only [hx,idq] at hq
   split at h
   ·rename_i ty sz es hb
    obtain ⟨c1,c2,c2',c3,h⟩:=h
    simp only [hput,hnx] at c3 h
    split at h
    ·rename_i id' o' hy
     simp only [hy,idq] at c3
     have hne:=ids (x:=.junk) trivial hq c3
     rw [hL _ _ _ hne] at h
     split at h
     ·rename_i ty' cs' hb'
      obtain ⟨d1,d2,d3⟩:=h
      simp only [hput,hnx,hx,hy,hb',idq,hL _ _ _ (Ne.symm hne),hb]
      grind
     grind
    ·rename_i id' i' j' hy
     simp only [hy,idq] at c3
     have hne:=ids (x:=.junk) trivial hq c3
     rw [hL _ _ _ hne] at h
     split at h
     ·rename_i ty' sz' es' hb'
      obtain ⟨d1,d2,d3,d4⟩:=h
      simp only [hput,hnx,hx,hy,hb',idq,hL _ _ _ (Ne.symm hne),hb]
      grind
     grind
    grind
   grind
  grind
 ·rename_i d sz ag a d' ty sz' b c
  refine (aVh (P:=P) (fun k hk=>⟨fun e=>?_,fun e=>?_⟩) (fun e=>?_) fun e=>?_).1 h
  ·exact aBf i1 (t:=k) (by simp [I.dst,hk]) (by simp [GI.reads,I.reads,I.srcs,srcT,e])
  ·exact aBf i1 (t:=k) (by simp [I.dst,hk]) (by simp [GI.reads,I.reads,I.srcs,srcT,e])
  ·exact aBf i2 (t:=d') (by simp [I.dst]) (by simp [GI.reads,I.reads,I.srcs,srcT,e])
  ·exact aBf i3 (t:=d') (by simp [I.dst,e]) (by simp [I.dst])
 ·rename_i d' ty sz' b c d sz ag a
  refine (aVh (P:=P) (fun k hk=>⟨fun e=>?_,fun e=>?_⟩) (fun e=>?_) fun e=>?_).2 h
  ·exact aBf i2 (t:=k) (by simp [I.dst,hk]) (by simp [GI.reads,I.reads,I.srcs,srcT,e])
  ·exact aBf i2 (t:=k) (by simp [I.dst,hk]) (by simp [GI.reads,I.reads,I.srcs,srcT,e])
  ·exact aBf i1 (t:=d') (by simp [I.dst]) (by simp [GI.reads,I.reads,I.srcs,srcT,e])
  ·exact aBf i3 (t:=d') (by simp [I.dst]) (by simp [I.dst,e])
 grind
theorem aZx (hx4:x.i.rank≠4) (hy4:y.i.rank≠4) (hx:x.i.constOk=true) (hy:y.i.constOk=true) (hind:x.indep y=true) (hf:SFit F s) (hnx:∀ d,x.i.mk=some d→¬ F (s.nx+d)) (hny:∀ d,y.i.mk=some d→¬ F (s.nx+d))
 (hne:∀ d,x.i.mk=some d→y.i.mk≠some d) (h:aAz P x s (fun s1=>aAz P y s1 K)):aAz P y s (fun s2=>aAz P x s2 K):=by
 simp only [GI.indep,Bool.and_eq_true,Bool.not_eq_true',Bool.and_eq_false_iff,decide_eq_false_iff_not,Decidable.not_not] at hind
 obtain ⟨⟨⟨⟨⟨i1,i2⟩,i3⟩,i45⟩,_⟩,_⟩:=hind
 simp only [Bool.or_eq_true,Bool.and_eq_true,Bool.not_eq_true',Bool.and_eq_false_iff,decide_eq_false_iff_not,Decidable.not_not] at i45
 rcases i45 with hsw | ⟨i4,i5⟩
 ·exact aZu hsw i1 i2 i3 h
 obtain ⟨δx,vx,hK,hx2,hfit1,hd1,hd2⟩:=gloc (F':=fun id=>F id∨∃ d,x.i.mk=some d∧id=s.nx+d) hx4 hx hf (fun id h=>.inl h) (fun d hd=>.inr ⟨d,hd,rfl⟩) h
 obtain ⟨δy,vy,hK',hy2,_,hd3,hd4⟩:=gloc (F':=fun _=>True) hy4 hy hfit1 (fun _ _=>trivial) (fun _ _=>trivial) hK
 have dxt:∀ t,t∈y.reads→∀ k,x.i.dst=some k→k≠t:=fun t ht k hk e=>by
  subst e
  exact aBf i1 (by grind) ht
 have dyt:∀ t,t∈x.reads→∀ k,y.i.dst=some k→k≠t:=fun t ht k hk e=>by
  subst e
  exact aBf i2 (by grind) ht
 have dxy:∀ k,x.i.dst=some k→y.i.dst≠some k:=fun k hk hk'=>aBf i3 (t:=k) (by grind) (by grind)
 have rd:∀ z:GI,∀ t,t∈z.i.reads→t∈z.reads:=fun z t ht=>by simp [GI.reads,ht]
 have evs:∀ (z:GI) (s1 s2:St),(∀ t,t∈z.reads→s1.env t=s2.env t)→∀ q,q∈z.i.srcs→s1.ev q=s2.ev q:=fun z s1 s2 he q hq=>by
  cases q with
  | k v=>rfl
  | t m=>exact he m (rd z m (List.mem_flatMap.2 ⟨.t m,hq,by simp [srcT]⟩))
 have consts:∀ z:GI,z.i.constOk=true→∀ q,q∈z.i.srcs→(s.ev q).fit F:=fun z hz q hq=>bBl hf (by
  simp only [I.constOk,Bool.and_eq_true] at hz
  grind)
 have e1:∀ t,t∈y.reads→s.env t=(s.chg δx x.i.dst vx).env t:=fun t ht=>(aLh (dxt t ht)).symm
 have e2:∀ t,t∈x.reads→(s.chg δy y.i.dst vy).env t=s.env t:=fun t ht=>aLh (dyt t ht)
 have xr:x.i.rank≤3:=by have:=aTi x.i; omega
 have yr:y.i.rank≤3:=by have:=aTi y.i; omega
 -- what x changed among the blocks that were there
 have Lx:x.i.rank≠3→∀ id,F id→(s.chg δx x.i.dst vx).L id=s.L id:=fun hr id hid=>by
  rcases Nat.lt_or_ge x.i.rank 2 with h | h
  ·rw [hd1 (by omega)]; rfl
  ·rcases hd2 (by omega) with h | ⟨d,b,h1,h2⟩
   ·rw [h]; rfl
   ·rw [h2]
    exact aAd _ _ _ _ fun e=>by grind
 have Ly:y.i.rank≠3→∀ id,F id→(s.chg δy y.i.dst vy).L id=s.L id:=fun hr id hid=>by
  rcases Nat.lt_or_ge y.i.rank 2 with h | h
  ·rw [hd3 (by omega)]; rfl
  ·rcases hd4 (by omega) with h | ⟨d,b,h1,h2⟩
   ·rw [h]; rfl
   ·rw [h2]
    refine aAd _ _ _ _ fun e=>?_
    subst e
    exact hny d h1 hid
 have a1:Agree y.i (s.chg δx x.i.dst vx) s:=by
  refine ⟨fun t ht=>e1 t (rd y t ht),fun _=>rfl,?_⟩
  by_cases h0:y.i.rank=0
  ·omega
  by_cases h2:y.i.rank=2
  ·omega
  by_cases h1:y.i.rank=1
  ·have hx3:x.i.rank≠3:=fun hh=>by omega
   refine .inr (.inr (.inl ⟨h1,F,fun q hq=>?_,fun id b hid hb=>?_,fun id hid=>(Lx hx3 id hid).symm⟩))
   ·grind
   ·rw [Lx hx3 id hid] at hb; exact (hf.blk id b hb).2
  ·have hx0:x.i.rank=0:=by omega
   refine .inr (.inr (.inr ?_))
   rw [hd1 (by omega)]; rfl
 have a2:Agree x.i s (s.chg δy y.i.dst vy):=by
  refine ⟨fun t ht=>e2 t (rd x t ht),fun _=>rfl,?_⟩
  by_cases h0:x.i.rank=0
  ·omega
  by_cases h2:x.i.rank=2
  ·omega
  by_cases h1:x.i.rank=1
  ·have hy3:y.i.rank≠3:=fun hh=>by omega
   exact .inr (.inr (.inl ⟨h1,F,fun q hq=>consts x hx q hq,fun id b hid hb=>(hf.blk id b hb).2,fun id hid=>Ly hy3 id hid⟩))
  ·have hy0:y.i.rank=0:=by omega
   refine .inr (.inr (.inr ?_))
   rw [hd3 (by omega)]; rfl
 refine hy2 s e1 a1 _ (hx2 _ e2 a2 _ ?_)
 have heq:(s.chg δy y.i.dst vy).chg δx x.i.dst vx=(s.chg δx x.i.dst vx).chg δy y.i.dst vy:=by
  have hL:updL (updL s.L δy) δx=updL (updL s.L δx) δy:=by
   by_cases h1:δx=[]
   ·subst h1; rfl
   by_cases h2:δy=[]
   ·subst h2; rfl
   have hx1:¬ x.i.rank≤1:=fun h=>h1 (hd1 h)
   have hy1:¬ y.i.rank≤1:=fun h=>h2 (hd3 h)
   have hx3:x.i.rank=2:=by
    omega
   have hy3:y.i.rank=2:=by
    omega
   rcases hd2 hx3 with h | ⟨d,b,k1,k2⟩
   ·grind
   rcases hd4 hy3 with h | ⟨d',b',k3,k4⟩
   ·grind
   rw [k2,k4]
   simp only [updL]
   refine (aKy _ _ _ ?_)
   intro e
   have e':s.nx+d'=s.nx+d:=e
   grind
  simp only [St.chg,hL,aG4 dxy]
 grind
theorem bAu:∀ (xs:List GI) (s:St) (F:Nat→Prop) (z:GI) (r:List GI),(∀ x,x∈xs→x.i.constOk=true∧x.indep z=true)→z.i.constOk=true→(∀ x,x∈xs→x.i.rank≠4)→z.i.rank≠4→SFit F s →
 (∀ x,x∈z::xs→∀ d,x.i.mk=some d→¬ F (s.nx+d))→(mks (z::xs)).Nodup→aops P (xs++z::r) s K→aops P (z::(xs++r)) s K
 | [],s,F,z,r,_,_,_,_,_,_,_,h=>h
 | x::xs,s,F,z,r,hx,hz,hx4,hz4,hf,hn,hnd,h=>by
   have hxm:∀ d,x.i.mk=some d→∀ y,y∈z::xs→y.i.mk≠some d:=by
    intro d hd y hy hyd
    simp only [mks,List.filterMap_cons] at hnd
    grind
   obtain ⟨δ,v,h1,h2,h3,_⟩:=gloc (F':=fun id=>F id∨∃ d,x.i.mk=some d∧id=s.nx+d) (hx4 x (by simp)) (hx x (by simp)).1 hf (fun id h=>.inl h) (fun d hd=>.inr ⟨d,hd,rfl⟩) h
   have hnd':(mks (z::xs)).Nodup:=by
    simp only [mks,List.filterMap_cons] at hnd ⊢
    grind
   have ih:=bAu xs (s.chg δ x.i.dst v) _ z r (fun y hy=>hx y (by grind)) hz (fun y hy=>hx4 y (by grind)) hz4 h3 (fun y hy d hd hF=>by
    rcases hF with hF | ⟨d',hd',he⟩
    ·refine hn y ?_ d hd hF
     grind
    ·have:(s.chg δ x.i.dst v).nx=s.nx:=rfl
     grind) hnd' h1
   have step:aAz P x s (fun s1=>aAz P z s1 fun s2=>aops P (xs++r) s2 K):=h2 s (fun _ _=>rfl) ⟨fun _ _=>rfl,fun _=>rfl,.inr (.inr (.inr rfl))⟩ _ ih
   exact aZx (hx4 x (by simp)) hz4 (hx x (by simp)).1 hz (hx x (by simp)).2 hf (hn x (by simp)) (hn z (by simp)) (fun d hd=>hxm d hd z (by simp)) step
mutual
theorem aPw:∀ (x:V),x.fit (fun _=>True)
 | .junk=>by simp [V.fit]
 | .bool _=>by simp [V.fit]
 | .int _ _=>by simp [V.fit]
 | .str _=>by simp [V.fit]
 | .nilp=>by simp [V.fit]
 | .nils=>by simp [V.fit]
 | .ptr _ _=>by simp [V.fit]
 | .eptr _ _ _=>by simp [V.fit]
 | .cptr cs=>by simp only [V.fit]; exact aDm cs
 | .lst _ cs=>by simp only [V.fit]; exact aDm cs
 | .own _ _ _ _=>by simp [V.fit]
 | .agg cs=>by simp only [V.fit]; exact aDm cs
 | .tup cs=>by simp only [V.fit]; exact aDm cs
 | .fn _ cs=>by simp only [V.fit]; exact aDm cs
 | .map _=>by simp [V.fit]
 | .nilm=>by simp [V.fit]
 | .raw _=>by simp [V.fit]
theorem aDm:∀ (l:List V),V.fits (fun _=>True) l
 | []=>by simp [V.fits]
 | x::r=>by simp only [V.fits]; exact ⟨aPw x,aDm r⟩
end
theorem aIq (s:St):SFit (fun _=>True) s:=⟨fun t=>aPw _,fun id b _=>⟨trivial,by cases b <;> simp only [Blk.fit] <;> exact aDm _⟩⟩
theorem val0 (hc:x.i.constOk=true) (hr:x.i.rank=0) (h:aAz P x s K):∃ v,K (s.setO x.i.dst v)∧∀ s2:St,(∀ t,t∈x.reads→s2.env t=s.env t)→∀ K2:St→Prop,K2 (s2.setO x.i.dst v)→aAz P x s2 K2:=by
 obtain ⟨δ,v,h1,h2,_,h4,_⟩:=gloc (F:=fun _=>True) (F':=fun _=>True) (by omega) hc (aIq s) (fun _ _=>trivial) (fun _ _=>trivial) h
 have e:=h4 (by omega)
 subst e
 rw [aGt] at h1
 refine ⟨v,h1,fun s2 he K2 hk=>h2 s2 he ⟨fun t ht=>he t (by simp [GI.reads,ht]),fun hh=>by omega,.inl hr⟩ K2 (by rw [aGt]; exact hk)⟩
theorem aF7 {s:St} (h:aAz P x s K) (hK:∀ s',K s'→(∀ t,x.i.dst≠some t→s'.env t=s.env t)→K1 s'):aAz P x s K1:=by
 have sk:K (s.setO x.i.dst (.tup []))→K1 (s.setO x.i.dst (.tup [])):=fun h=>hK _ h fun t ht=>aA9 ht
 unfold aAz at *
 split
 ·rename_i hg; simp only [hg] at h; exact aF5 h hK
 ·rename_i t w hg
  simp only [hg] at h
  split at h
  ·split
   ·rename_i e; simp only [e,if_true] at h; exact aF5 h hK
   grind
  ·grind
  omega
theorem aC7 {s:St} {d d':Option Nat} {v v':V} (h:∀ k,d=some k→d'≠some k):(s.setO d v).setO d' v'=(s.setO d' v').setO d v:=by
 have e1:∀ (s:St) (d:Option Nat) (v:V),s.setO d v=⟨aDq s.env d v,s.L,s.nx⟩:=fun s d v=>by cases d <;> rfl
 simp only [e1]
 rw [aG4 h]
theorem shift {zd:Option Nat} {v:V} (hr:x.i.rank=4) (h1:∀ k,zd=some k→k∉x.reads) (h2:∀ k,x.i.dst=some k→zd≠some k):aAz P x (s.setO zd v) K↔aAz P x s fun s'=>K (s'.setO zd v):=by
 obtain ⟨g,i⟩:=x
 cases i <;> simp only [I.rank] at hr <;> try (first | omega | (split at hr <;> omega))
 case ecall d n f args =>
  have he:∀ t,t∈(⟨g,.ecall d n f args⟩:GI).reads→(s.setO zd v).env t=s.env t:=fun t ht=>aA9 fun e=>h1 t e ht
  have hev:args.map (s.setO zd v).ev=args.map s.ev:=List.map_congr_left fun q hq=>by
   cases q with
   | k u=>rfl
   | t m=>exact he m (by
       simp only [GI.reads,I.reads,I.srcs]
       exact List.mem_append_left _ (List.mem_flatMap.2 ⟨.t m,hq,by simp [srcT]⟩))
  have hpost:∀ r L' nx',((⟨(s.setO zd v).env,L',nx'⟩:St).setO d r)=((⟨s.env,L',nx'⟩:St).setO d r).setO zd v:=fun r L' nx'=>by
   have e:(⟨(s.setO zd v).env,L',nx'⟩:St)=(⟨s.env,L',nx'⟩:St).setO zd v:=by cases zd <;> rfl
   rw [e]
   exact (aC7 h2).symm
  have hrun:aAb P (.ecall d n f args) (s.setO zd v) K↔aAb P (.ecall d n f args) s fun s'=>K (s'.setO zd v):=by
   simp only [aAb,hev,aCq,aB1,hpost]
  have h2':∀ k,d=some k→zd≠some k:=h2
  have hsk:K ((s.setO zd v).setO d (.tup []))↔K ((s.setO d (.tup [])).setO zd v):=by rw [aC7 h2']
  cases g with
  | none=>exact hrun
  | some tw =>
    obtain ⟨t,w⟩:=tw
    simp only [aAz,I.dst]
    rw [he t (by simp [GI.reads])]
    grind
 case ecr d n f args b =>
  have he:∀ t,t∈(⟨g,.ecr d n f args b⟩:GI).reads→(s.setO zd v).env t=s.env t:=fun t ht=>aA9 fun e=>h1 t e ht
  have hb:(s.setO zd v).env b=s.env b:=he b (by simp [GI.reads,I.reads,I.srcs,srcT])
  have hev:args.map (s.setO zd v).ev=args.map s.ev:=List.map_congr_left fun q hq=>by
   cases q with
   | k u=>rfl
   | t m=>exact he m (by
       simp only [GI.reads,I.reads,I.srcs]
       exact List.mem_append_left _ (List.mem_flatMap.2 ⟨.t m,List.mem_cons_of_mem _ hq,by simp [srcT]⟩))
  have hpost:∀ r L' nx',((⟨(s.setO zd v).env,L',nx'⟩:St).setO d r)=((⟨s.env,L',nx'⟩:St).setO d r).setO zd v:=fun r L' nx'=>by
   have e:(⟨(s.setO zd v).env,L',nx'⟩:St)=(⟨s.env,L',nx'⟩:St).setO zd v:=by cases zd <;> rfl
   rw [e]
   exact (aC7 h2).symm
  have hrun:aAb P (.ecr d n f args b) (s.setO zd v) K↔aAb P (.ecr d n f args b) s fun s'=>K (s'.setO zd v):=by
   simp only [aAb,hev,hb,aCq,aB1,hpost]
  have h2':∀ k,d=some k→zd≠some k:=h2
  have hsk:K ((s.setO zd v).setO d (.tup []))↔K ((s.setO d (.tup [])).setO zd v):=by rw [aC7 h2']
  cases g with
  | none=>exact hrun
  | some tw =>
    obtain ⟨t,w⟩:=tw
    simp only [aAz,I.dst]
    rw [he t (by simp [GI.reads])]
    grind
 case vcall d n x args =>
  have he:∀ t,t∈(⟨g,.vcall d n x args⟩:GI).reads→(s.setO zd v).env t=s.env t:=fun t ht=>aA9 fun e=>h1 t e ht
  have hev:args.map (s.setO zd v).ev=args.map s.ev:=List.map_congr_left fun q hq=>by
   cases q with
   | k u=>rfl
   | t m=>exact he m (by
       simp only [GI.reads,I.reads,I.srcs]
       exact List.mem_append_left _ (List.mem_flatMap.2 ⟨.t m,List.mem_cons_of_mem _ hq,by simp [srcT]⟩))
  have hex:(s.setO zd v).ev x=s.ev x:=by
   cases x with
   | k u=>rfl
   | t m=>exact he m (by
       simp only [GI.reads,I.reads,I.srcs]
       exact List.mem_append_left _ (List.mem_flatMap.2 ⟨.t m,List.mem_cons_self ..,by simp [srcT]⟩))
  have hpost:∀ r L' nx',((⟨(s.setO zd v).env,L',nx'⟩:St).setO d r)=((⟨s.env,L',nx'⟩:St).setO d r).setO zd v:=fun r L' nx'=>by
   have e:(⟨(s.setO zd v).env,L',nx'⟩:St)=(⟨s.env,L',nx'⟩:St).setO zd v:=by cases zd <;> rfl
   rw [e]
   exact (aC7 h2).symm
  have hrun:aAb P (.vcall d n x args) (s.setO zd v) K↔aAb P (.vcall d n x args) s fun s'=>K (s'.setO zd v):=by
   simp only [aAb,hev,hex,aCq,aB1,hpost]
  have h2':∀ k,d=some k→zd≠some k:=h2
  have hsk:K ((s.setO zd v).setO d (.tup []))↔K ((s.setO d (.tup [])).setO zd v):=by rw [aC7 h2']
  cases g with
  | none=>exact hrun
  | some tw =>
    obtain ⟨t,w⟩:=tw
    simp only [aAz,I.dst]
    rw [he t (by simp [GI.reads])]
    grind
theorem aCx (h:x.indep y=true):(∀ k,x.i.dst=some k→k∉y.reads)∧(∀ k,y.i.dst=some k→k∉x.reads)∧(∀ k,x.i.dst=some k→y.i.dst≠some k) ∧
 (4≤x.i.rank→y.i.rank=0)∧(4≤y.i.rank→x.i.rank=0)∧(x.i.rank=4→y.i.ang=false)∧(y.i.rank=4→x.i.ang=false):=by
 simp only [GI.indep,Bool.and_eq_true,Bool.not_eq_true',Bool.and_eq_false_iff,decide_eq_false_iff_not,Decidable.not_not] at h
 obtain ⟨⟨⟨⟨⟨i1,i2⟩,i3⟩,i45⟩,i6⟩,i7⟩:=h
 have i45':(4≤x.i.rank→y.i.rank=0)∧(4≤y.i.rank→x.i.rank=0):=by
  simp only [Bool.or_eq_true,Bool.and_eq_true,Bool.not_eq_true',Bool.and_eq_false_iff,decide_eq_false_iff_not,Decidable.not_not] at i45
  rcases i45 with h | ⟨h,h'⟩
  ·obtain ⟨h1,h2⟩:=aX8 h
   omega
  omega
 refine ⟨fun k hk=>aBf i1 (by grind),fun k hk=>aBf i2 (by grind),fun k hk hk'=>aBf i3 (t:=k) (by grind) (by grind),fun h=>?_,fun h=>?_,fun h=>?_,fun h=>?_⟩
 ·omega
 ·omega
 ·grind
 grind
theorem bJm (hz:y.i.constOk=true) (hind:x.indep y=true) (hr:y.i.rank=0) (ha:y.i.ang=false) (hx4:x.i.rank=4) (h:aAz P x s (fun s1=>aAz P y s1 K)):aAz P y s (fun s2=>aAz P x s2 K):=by
 obtain ⟨i1,i2,i3,_⟩:=aCx hind
 have henv:=aF7 (K1:=fun s1=>aAz P y s1 K∧∀ t,t∈y.reads→s1.env t=s.env t) h fun s' h he=>⟨h,fun t ht=>he t fun e=>i1 t e ht⟩
 obtain ⟨s1,h1,he1⟩:=aK8 henv
 obtain ⟨v,k1,k2⟩:=val0 hz hr h1
 have all:aAz P x s fun s1'=>K (s1'.setO y.i.dst v):=aCt henv fun s1' hh=>by
  obtain ⟨m1,m2⟩:=hh
  have m3:aAz P y s1' (fun s'=>s'=s1'.setO y.i.dst v):=k2 s1' (fun t ht=>(m2 t ht).trans (he1 t ht).symm) _ rfl
  obtain ⟨s',m4,m5⟩:=aK8 (aUf hr ha m1 m3)
  grind
 exact k2 s (fun t ht=>(he1 t ht).symm) _ ((shift hx4 i2 i3).2 all)
theorem bNx (hx:x.i.constOk=true) (hind:x.indep y=true) (hr:x.i.rank=0) (hy4:y.i.rank=4) (h:aAz P x s (fun s1=>aAz P y s1 K)):aAz P y s (fun s2=>aAz P x s2 K):=by
 obtain ⟨i1,i2,i3,_⟩:=aCx hind
 obtain ⟨v,k1,k2⟩:=val0 hx hr h
 have h1:=(shift hy4 i1 (fun k hk hk'=>i3 k hk' hk)).1 k1
 exact aF7 h1 fun s' hk he=>k2 s' (fun t ht=>he t fun e=>i2 t e ht) _ hk
theorem bAt:∀ (xs:List GI) (s:St) (z:GI) (r:List GI),(∀ x,x∈xs→x.i.constOk=true∧x.indep z=true)→z.i.rank=4→aops P (xs++z::r) s K→aops P (z::(xs++r)) s K
 | [],s,z,r,_,_,h=>h
 | x::xs,s,z,r,hx,hz4,h=>by
   have hi:=(hx x (by simp)).2
   have step:aAz P x s (fun s1=>aAz P z s1 fun s2=>aops P (xs++r) s2 K):=aCt h fun s1 h1=>bAt xs s1 z r (fun y hy=>hx y (by grind)) hz4 h1
   exact bNx (hx x (by simp)).1 hi ((aCx hi).2.2.2.2.1 (by omega)) hz4 step
theorem aP3:∀ (xs:List GI) (s:St) (z:GI) (r:List GI),(∀ x,x∈xs→x.i.constOk=true∧x.indep z=true)→z.i.constOk=true→z.i.rank=0→aops P (xs++z::r) s K→aops P (z::(xs++r)) s K
 | [],s,z,r,_,_,_,h=>h
 | x::xs,s,z,r,hx,hz,hz0,h=>by
   have hi:=(hx x (by simp)).2
   have step:aAz P x s (fun s1=>aAz P z s1 fun s2=>aops P (xs++r) s2 K):=aCt h fun s1 h1=>aP3 xs s1 z r (fun y hy=>hx y (by grind)) hz hz0 h1
   by_cases hx4:x.i.rank=4
   ·exact bJm hz hi hz0 ((aCx hi).2.2.2.2.2.1 hx4) hx4 step
   ·have key:aAz P z s (fun s2=>aAz P x s2 fun s3=>aops P (xs++r) s3 K):=by
     obtain ⟨i1,i2,i3,_⟩:=aCx hi
     obtain ⟨δ,v,h1,h2,_⟩:=gloc (F:=fun _=>True) (F':=fun _=>True) hx4 (hx x (by simp)).1 (aIq s) (fun _ _=>trivial) (fun _ _=>trivial) step
     obtain ⟨u,k1,k2⟩:=val0 hz hz0 h1
     have e1:∀ t,t∈z.reads→s.env t=(s.chg δ x.i.dst v).env t:=fun t ht=>(aLh fun k hk e=>by grind).symm
     refine k2 s e1 _ (h2 _ (fun t ht=>aA9 fun e=>i2 t e ht) ⟨fun t ht=>aA9 fun e=>i2 t e (by simp [GI.reads,ht]),fun _=>aB1 _ _ _,.inr (.inr (.inr (aCq _ _ _)))⟩ _ ?_)
     have e2:(s.setO z.i.dst u).chg δ x.i.dst v=(s.chg δ x.i.dst v).setO z.i.dst u:=by
      have e1:∀ (s:St) (d:Option Nat) (v:V),s.setO d v=⟨aDq s.env d v,s.L,s.nx⟩:=fun s d v=>by cases d <;> rfl
      simp only [e1,St.chg]
      rw [aG4 i3]
     grind
    exact key
theorem aZ2 (xs:List GI) (s:St) (F:Nat→Prop) (z:GI) (r:List GI) (hx:∀ x,x∈xs→x.i.constOk=true∧x.indep z=true) (hz:z.i.constOk=true) (hf:SFit F s)
 (hn:∀ x,x∈z::xs→∀ d,x.i.mk=some d→¬ F (s.nx+d)) (hnd:(mks (z::xs)).Nodup) (h:aops P (xs++z::r) s K):aops P (z::(xs++r)) s K:=by
 by_cases h4:z.i.rank=4
 ·exact bAt xs s z r hx h4 h
 by_cases h0:z.i.rank=0
 ·exact aP3 xs s z r hx hz h0 h
 ·exact bAu xs s F z r hx hz (fun x hxm hx4=>h0 ((aCx (hx x hxm).2).2.2.2.1 (by omega))) h4 hf hn hnd h
end
end Go.Ab
namespace Go.Ab
open Go.RowKit
theorem aMd (acc:Array Nat) (v:Nat) {i:Nat} (h:i<acc.size):(acc.push v).getD i 0=acc.getD i 0:=by
 simp [Array.getD_eq_getD_getElem?,Array.getElem?_push,Nat.ne_of_lt h]
theorem aL8 (acc:Array Nat) (v:Nat) {i:Nat} (h:i=acc.size):(acc.push v).getD i 0=v:=by
 simp_all
theorem aGn {ops:Array Oper} {S:Nat→Prop} (hS:∀ k o,S k→ops[k]?=some o→∀ e,e∈o.after→Region.binds .any e=true→S e.on)
 {i:Nat} {o:Oper} (hi:ops[i]?=some o) (hd:∀ e,e∈o.after→Region.binds .any e=true→S e.on) {j:Nat} (hj:aM8 ops j i=true):S j:=by
 have key:(fun (n:Nat) (acc:Array Nat)=>acc.size=n∧∀ i o,i<n→ops[i]?=some o→(∀ e,e∈o.after→Region.binds .any e=true→S e.on)→∀ j,(acc.getD i 0).testBit j=true→S j)
  ops.size (Region.before ops):=by
  unfold Region.before
  refine Array.foldl_induction (motive:=fun (n:Nat) (acc:Array Nat)=>acc.size=n∧∀ i o,i<n→ops[i]?=some o→(∀ e,e∈o.after→Region.binds .any e=true→S e.on)→∀ j,(acc.getD i 0).testBit j=true→S j) ?_ ?_
  ·simp
  ·rintro ⟨n,hn⟩ acc ⟨hsz,hacc⟩
   simp only at hsz hacc ⊢
   refine ⟨by grind,fun i o hi ho hd j hj=>?_⟩
   rcases Nat.lt_or_ge i n with h | h
   ·have e1:i<acc.size:=by omega
    rw [aMd _ _ e1] at hj
    grind
   ·obtain rfl:i=n:=by omega
    rw [aL8 _ _ hsz.symm] at hj
    have ho':ops[i]=o:=by
     grind
    have hj:(Array.foldl (fun s e=>if Region.binds Region.Mode.any e=true then s ||| 2^e.on ||| acc.getD e.on 0 else s) 0 ops[i].after).testBit j=true:=hj
    rw [ho',← Array.foldl_toList] at hj
    have hd':∀ e,e∈o.after.toList→Region.binds .any e=true→S e.on:=fun e he=>hd e (Array.mem_toList_iff.1 he)
    have fold:∀ (l:List Edge) (s0:Nat),(∀ e,e∈l→Region.binds .any e=true→S e.on)→(l.foldl (fun s e=>if Region.binds Region.Mode.any e=true then s ||| 2^e.on ||| acc.getD e.on 0 else s) s0).testBit j=true→s0.testBit j=true∨S j:=by
     intro l
     induction l with
     | nil=>grind
     | cons e r ih =>
       intro s0 hl h
       rw [List.foldl_cons] at h
       rcases ih _ (fun e he=>hl e (by grind)) h with h | h
       ·by_cases hb:Region.binds Region.Mode.any e=true
        ·rw [if_pos hb] at h
         simp only [Nat.testBit_or,Bool.or_eq_true] at h
         have hse:=hl e (by simp) hb
         rcases h with (h | h) | h
         ·grind
         ·grind
         ·rcases Nat.lt_or_ge e.on i with hlt | hge
          ·have hlt':e.on<ops.size:=by omega
           exact .inr (hacc e.on ops[e.on] hlt (Array.getElem?_eq_getElem hlt') (hS e.on _ hse (Array.getElem?_eq_getElem hlt')) j h)
          grind
        grind
       grind
    grind
 exact key.2 i o (Array.getElem?_eq_some_iff.1 hi).1 hi hd j hj
theorem aFh {l r:List GI} (h:l.Perm r) (hn:(mks l).Nodup):(mks r).Nodup:=(h.filterMap _).nodup_iff.1 hn
def aB6 (ops:Array Oper) (listed:Array Bool):List Nat:=(List.range ops.size).filter fun i=>!listed.getD i true
theorem aB0 {l:Array Bool} {i:Nat} (h:i<l.size):l.getD i true=l.getD i false:=by simp [h]
theorem aC5 {p q:Nat→Bool} {i:Nat}:∀ (l:List Nat),l.Pairwise (·<·)→i∈l→p i=true→(∀ j,j≠i→q j=p j)→q i=false →
 ∃ a b,l.filter p=a++i::b∧l.filter q=a++b∧(∀ j,j∈a→j<i)
 | [],_,h,_,_,_=>by grind
 | x::r,hp,h,hpi,hq,hqi=>by
   by_cases e:x=i
   ·subst e
    have hr:∀ j,j∈r→j≠x:=fun j hj=>Nat.ne_of_gt (List.rel_of_pairwise_cons hp hj)
    refine ⟨[],r.filter p,by grind,?_,by simp⟩
    simp only [List.filter_cons,hqi,Bool.false_eq_true,if_false,List.nil_append]
    exact List.filter_congr fun j hj=>by grind
   ·have hi:i∈r:=by
     grind
    obtain ⟨a,b,h1,h2,h3⟩:=aC5 r (List.Pairwise.of_cons hp) hi hpi hq hqi
    by_cases hx:p x=true
    ·refine ⟨x::a,b,by grind,by grind,fun j hj=>?_⟩
     rcases List.mem_cons.1 hj with rfl | hj
     ·simp_all
     grind
    grind
section
variable {P:Program} {ops:Array Oper} {l:List GI} {K:St→Prop}
def at_ (l:List GI) (is:List Nat):List GI:=is.map fun i=>l.getD i default
end
end Go.Ab
