/- What the statements of this seat share: the library's functions, the table of the code. No condition. -/
import Derived.Test.YtdnhjbdnebokiaaGreatDoorRows
import Derived.Test.YtdnhjbdnebokiaaGreatDoorFe
import Derived.Test.YtdnhjbdnebokiaaGreatDoorShelf
import Derived.Test.YtdnhjbdnebokiaaGreatDoorAbK4
import Derived.Test.YtdnhjbdnebokiaaGreatDoorAbEy
import Derived.Test.YtdnhjbdnebokiaaGreatDoorAbRn
import Derived.Test.YtdnhjbdnebokiaaGreatDoorAbK6
import Derived.Test.YtdnhjbdnebokiaaGreatDoorAbQ1
import Derived.Test.YtdnhjbdnebokiaaGreatDoorAbK7
import Derived.Test.YtdnhjbdnebokiaaGreatDoorAbC1
import Derived.Test.YtdnhjbdnebokiaaGreatDoorFns
import Derived.Shelf.Strings.SlTrimAscii
import Derived.Shelf.Strings.IndexAnyAll
import Derived.Shelf.Strings.FieldsFuncAny
import Derived.WalkKit
import Derived.ProofKit
import Derived.OpenShut
import Derived.JoinedCond
import Derived.HandedShaped
import Derived.Handed
import Derived.LaidMore
import Derived.LaidSub
import Derived.Lay
import Derived.Stop.Joined
import Derived.ChangeSame
set_option linter.unusedSimpArgs false
set_option linter.unusedVariables false
namespace Go.Proofs
open Go.RowKit Go.Lib Go.Shelf
set_option maxHeartbeats 4000000 in
set_option maxRecDepth 100000 in
theorem isBl (w:World):PredAtRunes Tryz.prog 165 #[] (fun r=>decide (r=32)||decide (r=9)) w:=fun W r _ _=>by
 unfold FnGives
 by_cases h1:r=32 <;> by_cases h2:r=9
 all_goals
  have z1:(r:Int)=32↔r=32:=by omega
  have z2:(r:Int)=9↔r=9:=by omega
  go_enter Tryz.func165,Tryz.ntmps165
  go_wp2
  all_goals first | (exfalso; omega) | (go_ret; exact ⟨by simp [h1,h2,z1,z2],0,rfl⟩)
end Go.Proofs
namespace Go.Proofs.YtdnhjbdnebokiaaGreatDoor
open Go.ChangeShapes Go.WideShapes Go.ChangeAt Go.RowKit Go.Ab Go.Lib
theorem own:ownKnob Tryz.prog.godebug=none:=by kernel_rfl
theorem laid:laidOutB Tryz.prog=true:=by kernel_rfl
def tset:List TypeId:=[22,3,4]
theorem closed:tset.all (okT Tryz.prog tset)=true:=by kernel_rfl
theorem ui:Tryz.prog.underlying 3=some (.int .i64):=by kernel_rfl
theorem ul:Tryz.prog.underlying 22=some (.slice 3):=by kernel_rfl
theorem ub:Tryz.prog.underlying 4=some .bool:=by kernel_rfl
theorem ci:Tryz.prog.cellsOf 3=1:=by kernel_rfl
theorem laid_callsX {H:Type} {enc:TypeId×Value→H} {C:Checked} {os:Os} {f:FuncId} {fn:Func} {s:ChangeSpec} {conds:List PathCond} {apart fresh handsOn again:Bool} {X:World→Prop}
 (own:ownKnob C.prog.godebug=none) (started:os.Started) (noInit:C.prog.inits.idxOf? f=none) (hfn:C.prog.funcs[f]?=some fn)
 (witness:∃ (w:World) (tape:Tape) (i:Input),w.os=os∧(w.forCall tape i).Shaped C.prog∧i.vars=[]∧Input.okWide C.prog (w.forCall tape i) .any w.heap.size f i ∧
  ((s.pre enc C.prog fn conds apart (w.forCall tape i).memory i.args∧X (w.forCall tape i).memory)∧sizedMet enc C.prog fn (OpenSpec.ofChange s) apart (w.forCall tape i).memory i.args)∧Assume.holds {} C.prog (lone (Frame.enter C.prog f i.args .normal) [] (w.forCall tape i)))
 (hX:∀ w w':World,w'.heap=w.heap→X w→X w')
 (contract:∀ (W:World) (base:Nat) (args:Array Value) (ds gs:List (DataW H)) (before:List MemPlace),
  (∀ (j:Nat) t v,fn.params[j]?=some t→args[j]?=some v→Value.okWide C.prog W .any base t v) →
  DataW.Whole enc C.prog fn.params.toList s.vars apart W args.toList ds gs before→W.ShapedOpen C.prog→X W →
  Calls C.prog f args W fun e W'=>∃ v,e=.returned v∧s.post enc C.prog fn apart fresh handsOn again W args v W') :
 ReturnsInHanded {} C os f .any (fun w args=>(s.pre enc C.prog fn conds apart w args∧X w)∧sizedMet enc C.prog fn (OpenSpec.ofChange s) apart w args) (s.post enc C.prog fn apart fresh handsOn again):=by
 refine returnsInHanded_of_calls own started noInit witness ?_
 intro w tape i _ hsh _ hok hpre hholds
 obtain ⟨_,_,_,fn',hfn',_,_,_,_,hval⟩:=hok
 have e:fn'=fn:=Option.some.inj (hfn'.symm.trans hfn)
 subst e
 obtain ⟨⟨⟨ds,gs,before,hw,hc⟩,hx⟩,hz⟩:=hpre
 have hw':=DataW.Whole.of_heap (w':=w.forCall tape i) (by rfl) hw
 refine (contract (w.forCall tape i) w.heap.size i.args ds gs before hval hw' hsh (hX _ _ (by rfl) hx)).mono fun e W' ⟨v,he,hp⟩=>?_
 subst he
 exact ChangeSpec.post_blind hp
theorem bKh {P:Program} {w:World} {n:String} {sp:Int} {s:List UInt8} {r:List (String×DataW Unit)} {ps:List MemPlace} (g t:Nat) {f0 f1:Field} (hg:P.globalNamed n=some g) (ht:(P.globals[g]?).map (·.type)=some t)
 (hu:P.underlying t=some (.struct #[f0,f1])) (h0:P.underlying f0.type=some (.int .i64)) (h1:P.underlying f1.type=some .string) (c0:P.cellsOf f0.type=1) (c1:P.cellsOf f1.type=1) (o0:f0.offset=0) (o1:f1.offset=1) (ct:P.cellsOf t=2)
 (h:DataW.LaidVars P w ((n,.agg [.lit (.int .i64 sp),.lit (.string s)])::r) ps) :
 (g<w.heap.size∧∀ j v,[Value.int .i64 sp,.string ⟨s.toArray⟩][j]?=some v→w.cell? ⟨g,j,none⟩=some v)∧∃ q,DataW.LaidVars P w r q:=by
 obtain ⟨g',t',cs,fuel,p,q,e1,e2,e3,e4,e5,_⟩:=h
 rw [hg] at e1; cases e1
 rw [ht] at e2; cases e2
 refine ⟨?_,q,e5⟩
 obtain ⟨y0,y1,m,hx,hl,t0,t1⟩:=trod_struct2 hu e4
 rw [ct] at hl
 rw [c0,o0] at t0
 rw [c1,o1] at t1
 obtain ⟨k,k1,rfl,_⟩:=DataW.trod_int h0 t0
 obtain ⟨z,z1,rfl,_⟩:=DataW.trod_string h1 t1
 simp only [Prod.mk.injEq,DataW.agg.injEq,List.cons.injEq,DataW.lit.injEq,Lit.int.injEq,Lit.string.injEq,true_and,and_true] at hx
 obtain ⟨⟨rfl,rfl⟩,_⟩:=hx
 unfold World.var? at e3
 rw [hg] at e3
 simp only [Option.bind_some] at e3
 split at e3
 ·rename_i cs' ty fr hh
  cases e3
  have hcs:cs.toList=[.int .i64 sp,.string z]:=by
   match hm:cs.toList,hl with
   | [a,b],_ =>
     rw [hm] at k1 z1
     simp at k1 z1
     rw [k1,z1]
  have hz:(⟨z.data.toList.toArray⟩:ByteArray)=z:=by cases z; simp
  refine ⟨(Array.getElem?_eq_some_iff.1 hh).1,fun j v hj=>?_⟩
  rw [hz,← hcs] at hj
  unfold World.cell?
  rw [hh]
  simpa using hj
 ·cases e3
noncomputable def fld (i:Nat):Field:=(match Tryz.prog.underlying 32 with
 | some (.struct fs)=>fs
 | _=>#[])[i]!
theorem pinw {w : World} {ps : List MemPlace} {a b : String × DataW Unit} (h : DataW.LaidVars Tryz.prog w [a, ("transclude/edit.rules", Rows.laid_transclude_edit_rules), b] ps) : PinW w := by
 obtain ⟨_,_,_,_,_,q,_,_,_,_,h,_⟩:=h
 obtain ⟨h1,q,h⟩:=bKh 0 32 (f0:=fld 0) (f1:=fld 1) (by kernel_rfl) (by kernel_rfl) (by kernel_rfl) (by kernel_rfl) (by kernel_rfl) (by kernel_rfl) (by kernel_rfl) (by kernel_rfl) (by kernel_rfl) (by kernel_rfl) h
 intro x vs hx
 by_cases e1:x=0
 ·subst e1
  cases hx
  exact h1
 ·have b1:(x==0)=false:=by simpa using e1
  simp only [aZo,pins,List.lookup,b1] at hx
  cases hx
theorem gi2:gint Tryz.prog 1:=fun w h=>Tryz.laysM143.s1_3 w h
def biFF:List V→Option V
 | [.str s,.fn f []]=>if f=165∧s=[97,110,110] then some (.lst 1 [.str [97,110,110]]) else none
 | _=>none
def bAr (eq fi:Bool):List V→Option V
 | [.map i]=>if i=2 then some (.map 0) else if i=6 then some (.map 4) else if i=10 then some (.map (if eq&&!fi then 0 else 8)) else if i=14 then some (.map (if eq&&fi then 4 else 12)) else none
 | _=>none
structure Inp where
 a:List Int
 b:List Int
 c:List Int
 d:List Int
def sgS (a b c d:List UInt8):Nat→List UInt8
 | 0=>a
 | 1=>b
 | 2=>c
 | 3=>d
 | 4=>hSS2++a
 | 5=>(hSS2++a)++hRR2
 | 6=>tx2 a b
 | 7=>hSS2++c
 | 8=>(hSS2++c)++hRR2
 | 9=>tx2 c b
 | 10=>tx2 a d
 | _=>tx2 c d
def sgL (a b c d:List Int):Nat→List Int
 | 0=>a
 | 1=>b
 | 2=>c
 | _=>d
def sg (x:Inp):Sy:=⟨sgS (bdyF x.a) (bdyF x.b) (bdyF x.c) (bdyF x.d),sgL x.a x.b x.c x.d,fun _=>0⟩
def biMrg:List V→Option V
 | [.map o,.map x,.map y]=>if o=24 then (if x=36∧y=40 then some (.tup [.agg [.map 44,.nils],.int .i64 0]) else if x=36∧y=24 then some (.tup [.agg [.map 36,.nils],.int .i64 0])
  else if x=40∧y=36 then some (.tup [.agg [.map 44,.nils],.int .i64 0]) else if x=40∧y=24 then some (.tup [.agg [.map 40,.nils],.int .i64 0]) else none) else none
 | _=>none
theorem strc:StrC Tryz.prog sF:=bFb (fun s c w h1 h2 h3=>Any.strings_Trim_laid Tryz.lays160 (by kernel_rfl) s c w h1 h2 h3) (fun s c w h1 h2 h3=>Any.strings_TrimRight_laid Tryz.lays162 (by kernel_rfl) s c w h1 h2 h3)
 (fun s c w h2 h3=>Any.strings_TrimLeft_laid Tryz.lays161 (by kernel_rfl) s c w h2 h3) (fun s p w h=>Tryz.strings_HasSuffix s p w h) (fun s c w=>Tryz.strings_IndexByte s c w)
theorem sect (s:List UInt8) (hs:s.length≤8192) (hl:Go.Ab.Lit s):aQ8 Tryz.prog (sF 124) s:=bMr bN3 strc.toStrC0 bNx s hs hl (aZp bNs (t2 fn2 fn23 fn22 fn29 fn27 fn33 fn30 fn31 fn32) s (aYx fn36 fn56 fn67 fn57 fn59 fn68 fn69 fn74 bN2 s hs hl) hs hl)
theorem jn:bIx Tryz.prog sF:=fun l h1 h2 h3=>t255 bMv strc.suf fn27 fn33 fn30 fn23 l h1 h2 h3
theorem mrg:MrgL Tryz.prog sF sT:=⟨⟨bO4,bMg,bL7,bM9,bNe,bL0,by kernel_rfl,by kernel_rfl⟩,bNa,bNp,bOu,bMu,bOx,jn⟩
theorem bJl (x:Inp):BiOk Tryz.prog (sg x) 36 biMrg:=by
 intro ar r e
 unfold biMrg at e
 split at e
 ·split at e
  ·rename_i q
   subst q
   split at e
   ·rename_i q
    obtain ⟨rfl,rfl⟩:=q
    cases e
    exact aMa mrg sect x.a x.b x.c x.d false
   ·split at e
    ·rename_i q
     obtain ⟨rfl,rfl⟩:=q
     cases e
     exact aMa mrg sect x.a x.b x.c x.b false
    ·split at e
     ·rename_i q
      obtain ⟨rfl,rfl⟩:=q
      cases e
      exact aMa mrg sect x.a x.b x.c x.d true
     ·split at e
      ·rename_i q
       obtain ⟨rfl,rfl⟩:=q
       cases e
       exact aMa mrg sect x.a x.b x.a x.d true
      ·cases e
  ·cases e
 ·cases e
theorem bKq:goFieldsP (fun r=>decide (r=32)||decide (r=9)) ⟨#[97,110,110]⟩=[⟨#[97,110,110]⟩]:=by kernel_rfl
theorem bOr (σ:Sy):BiOk Tryz.prog σ 164 biFF:=by
 intro ar r e
 unfold biFF at e
 split at e
 ·rename_i s f
  split at e
  ·rename_i q
   obtain ⟨rfl,rfl⟩:=q
   cases e
   intro D w vs hD hg hl hr
   obtain ⟨u,v,rfl,hu,hv⟩:=vs2 hl hr
   cases hu
   obtain ⟨ws,rfl,hwl,_⟩:=aNk hv
   have hws:ws=#[]:=Array.eq_empty_of_size_eq_zero (by simpa [V.czL] using hwl.symm)
   subst hws
   refine (Any.strings_FieldsFunc_runes Tryz.lays229 165 #[] (enters_of Tryz.func165 (by kernel_rfl) rfl) _ ⟨#[97,110,110]⟩ w (by decide) (isBl w) (by kernel_rfl) (by kernel_rfl)).mono ?_
   rintro e w' ⟨A,rfl,hA,ho,hb⟩
   rw [bKq] at ho ⊢
   refine ⟨_,rfl,hb,?_⟩
   have hc:=World.ownsRow.cellAt ho 0 (by decide)
   simp only [List.map_cons,List.map_nil,List.getElem?_cons_zero] at hc
   have hlt:A<w'.heap.size:=by
    unfold World.cell? at hc
    split at hc
    ·rename_i hh; exact (Array.getElem?_eq_some_iff.1 hh).1
    ·cases hc
   show Rep _ _ _ (.lst 1 [.str [97,110,110]]) _
   refine .lst 1 [.str [97,110,110]] _ 1 A 0 (Nat.le_refl _) (by decide) (fun _=>⟨rfl,hlt,fun h=>by have:=hD _ h; omega⟩) (fun e he=>?_) (fun i j c h=>?_) (fun i j c h=>?_)
   ·simp at he; subst he; rfl
   ·match i,j,h with
    | 0,0,h=>rw [show 0+0*1+0=0 from rfl,hc]; rfl
    | 0,j+1,h=>simp [V.cells] at h
    | i+1,_,h=>simp at h
   ·match i,j,h with
    | 0,0,h=>simp [V.cells] at h; subst h; rw [show 0+0*1+0=0 from rfl,aC4,hc]; exact .str _ (by decide)
    | 0,j+1,h=>simp [V.cells] at h
    | i+1,_,h=>simp at h
  ·cases e
 ·cases e
theorem aI3 (l:List Int):PTr Tryz.prog 4 [.lst 1 (ints l)] (.str (bdyF l)):=bI2 fe4 fe8 fe9 fe22 l
theorem bH1 {x:Inp} {eq fi:Bool} (h:eq=true→if fi=true then bdyF x.d=bdyF x.b else bdyF x.c=bdyF x.a):BiOk Tryz.prog (sg x) 4 (bAr eq fi):=by
 intro ar r e
 unfold bAr at e
 split at e
 ·split at e
  ·rename_i q
   subst q
   cases e
   exact aI3 x.a
  ·split at e
   ·rename_i q
    subst q
    cases e
    exact aI3 x.b
   ·split at e
    ·rename_i q
     subst q
     cases e
     have hp:=aI3 x.c
     cases eq <;> cases fi
     ·exact hp
     ·exact hp
     ·have h:=h rfl
      rw [if_neg (by decide)] at h
      rw [h] at hp
      exact hp
     ·exact hp
    ·split at e
     ·rename_i q
      subst q
      cases e
      have hp:=aI3 x.d
      cases eq <;> cases fi
      ·exact hp
      ·exact hp
      ·exact hp
      ·have h:=h rfl
       rw [if_pos rfl] at h
       rw [h] at hp
       exact hp
     ·cases e
 ·cases e
theorem zv (w:World):(zeroValue 268).run Tryz.prog w=.ok (.agg (Array.replicate 256 (.bool false))) w:=by kernel_rfl
def pbL (eq fi:Bool):List (Nat×(List V→Option V)):=[(59,biIB),(162,biSS (okTr trimS) fun a b=>.str (trimS a b)),(163,biSS okA fun a b=>.int .i64 (indexAny a b)),(164,biFF),
 (61,biSS okS fun a b=>.tup [.str (cut a b).1,.str (cut a b).2.1,.bool (cut a b).2.2]),(63,biSS okS fun a b=>.str (trimSuffix a b)),(31,biOr aWk aZa),
 (236,biJoin),(174,biSS okA fun a b=>.bool (containsAny a b)),(210,biRep),(4,bAr eq fi),(36,biMrg)]
theorem bE0 {z:Inp} {eq fi:Bool} (he:eq=true→if fi=true then bdyF z.d=bdyF z.b else bdyF z.c=bdyF z.a):∀ x,x∈pbL eq fi→BiOk Tryz.prog (sg z) x.1 x.2 :=
 List.forall_mem_cons.2 ⟨bMy fun s c w=>Tryz.strings_IndexByte s c w,
 List.forall_mem_cons.2 ⟨bH6 fun s c w h1 h2 h3=>Any.strings_Trim_laid Tryz.lays160 (by kernel_rfl) s c w h1 h2 h3,
 List.forall_mem_cons.2 ⟨bGj fun s c w h1 h2 h3 h4=>Any.strings_IndexAny Tryz.lays153 zv (by kernel_rfl) s c w (by omega) (by omega) h3 h4,
 List.forall_mem_cons.2 ⟨bOr _,
 List.forall_mem_cons.2 ⟨bJj gi2 fun s p m w h1 h2=>Tryz.strings_Cut s p m w h1 h2,
 List.forall_mem_cons.2 ⟨bGr fun s p w h=>Tryz.strings_TrimSuffix s p w h,
 List.forall_mem_cons.2 ⟨bJ9 gi2 fun s p m w h1 h2 h3=>Tryz.strings_Split s p m w h1 h2 h3,
 List.forall_mem_cons.2 ⟨bG7 fun bk o c xs sep w h1 h2 h3 h4 h5=>Tryz.strings_Join bk o c xs sep w h1 h2 h3 h4 h5,
 List.forall_mem_cons.2 ⟨bHp fun s c w h1 h2 h3 h4=>Any.strings_ContainsAny Tryz.lays150 zv (by kernel_rfl) s c w (by omega) (by omega) h3 h4,
 List.forall_mem_cons.2 ⟨bJ0 gi2 fun s a b m w h1 h2 h3 h4=>Tryz.strings_ReplaceAll s a b m w h1 h2 h3 h4,
 List.forall_mem_cons.2 ⟨bH1 he,List.forall_mem_cons.2 ⟨bJl _,List.forall_mem_nil _⟩⟩⟩⟩⟩⟩⟩⟩⟩⟩⟩⟩
def tabQ:Nat→Option Ent:=(tabT tabL).get
def dfS (eq fi:Bool) (i j:Nat):Bool:=!eq&&(if fi then (i==9&&j==11)||(i==11&&j==9) else (i==10&&j==11)||(i==11&&j==10))
def QQ (eq fi:Bool):SyQ:=⟨12,1,76,dfS eq fi,[(.str hSS2,.map 0,4),(.map 16,.str hRR2,5),(.map 20,.map 4,6),(.str hSS2,.map 8,7),(.map 28,.str hRR2,8),(.map 32,.map 4,9),(.map 20,.map 12,10),(.map 32,.map 12,11)]⟩
theorem bE7 {a b c d:List UInt8} (ha:1≤a.length∧a.length≤30) (hb:1≤b.length∧b.length≤30) (hc:1≤c.length∧c.length≤30) (hd:1≤d.length∧d.length≤30) (i:Nat):1≤(sgS a b c d i).length∧(sgS a b c d i).length≤76:=by
 unfold sgS
 split <;> (try simp only [tx2,hSS2,hRR2,List.length_append,List.length_cons,List.length_nil]) <;> omega
theorem tx_r {a b d:List UInt8} (h:tx2 a b=tx2 a d):b=d:=by unfold tx2 at h; exact List.append_cancel_left h
theorem tx_l {a c d:List UInt8} (h:tx2 a d=tx2 c d):a=c:=by unfold tx2 at h; exact List.append_cancel_left (List.append_cancel_right (List.append_cancel_right h))
theorem qok (x:Inp) (eq fi:Bool) (h:eq=false→if fi=true then bdyF x.b≠bdyF x.d else bdyF x.a≠bdyF x.c):SyOk (QQ eq fi) (sg x):=by
 have ha:=aDx x.a
 have hb:=aDx x.b
 have hc:=aDx x.c
 have hd:=aDx x.d
 refine ⟨fun i _=>(bE7 ha hb hc hd i).1,fun i _=>(bE7 ha hb hc hd i).2,fun i j e=>?_,fun u v j e=>?_⟩
 ·simp only [QQ,dfS,Bool.and_eq_true,Bool.not_eq_true'] at e
  obtain ⟨e0,e⟩:=e
  have hn:=h e0
  cases fi
  ·rw [if_neg (by decide)] at hn
   simp only [Bool.false_eq_true,if_false,Bool.or_eq_true,Bool.and_eq_true,beq_iff_eq] at e
   rcases e with ⟨rfl,rfl⟩ | ⟨rfl,rfl⟩
   ·exact fun q=>hn (tx_l q)
   ·exact fun q=>hn (tx_l q.symm)
  ·rw [if_pos rfl] at hn
   simp only [if_true,Bool.or_eq_true,Bool.and_eq_true,beq_iff_eq] at e
   rcases e with ⟨rfl,rfl⟩ | ⟨rfl,rfl⟩
   ·exact fun q=>hn (tx_r q)
   ·exact fun q=>hn (tx_r q.symm)
 ·simp only [QQ,List.mem_cons,List.not_mem_nil,or_false,Prod.mk.injEq] at e
  rcases e with ⟨rfl,rfl,rfl⟩ | ⟨rfl,rfl,rfl⟩ | ⟨rfl,rfl,rfl⟩ | ⟨rfl,rfl,rfl⟩ | ⟨rfl,rfl,rfl⟩ | ⟨rfl,rfl,rfl⟩ | ⟨rfl,rfl,rfl⟩ | ⟨rfl,rfl,rfl⟩
  ·exact ⟨hSS2,bdyF x.a,rfl,rfl,rfl,by simp only [hSS2,hRR2,List.length_append,List.length_cons,List.length_nil]; omega⟩
  ·exact ⟨hSS2++bdyF x.a,hRR2,rfl,rfl,rfl,by simp only [hSS2,hRR2,List.length_append,List.length_cons,List.length_nil]; omega⟩
  ·exact ⟨(hSS2++bdyF x.a)++hRR2,bdyF x.b,rfl,rfl,rfl,by simp only [hSS2,hRR2,List.length_append,List.length_cons,List.length_nil]; omega⟩
  ·exact ⟨hSS2,bdyF x.c,rfl,rfl,rfl,by simp only [hSS2,hRR2,List.length_append,List.length_cons,List.length_nil]; omega⟩
  ·exact ⟨hSS2++bdyF x.c,hRR2,rfl,rfl,rfl,by simp only [hSS2,hRR2,List.length_append,List.length_cons,List.length_nil]; omega⟩
  ·exact ⟨(hSS2++bdyF x.c)++hRR2,bdyF x.b,rfl,rfl,rfl,by simp only [hSS2,hRR2,List.length_append,List.length_cons,List.length_nil]; omega⟩
  ·exact ⟨(hSS2++bdyF x.a)++hRR2,bdyF x.d,rfl,rfl,rfl,by simp only [hSS2,hRR2,List.length_append,List.length_cons,List.length_nil]; omega⟩
  ·exact ⟨(hSS2++bdyF x.c)++hRR2,bdyF x.d,rfl,rfl,rfl,by simp only [hSS2,hRR2,List.length_append,List.length_cons,List.length_nil]; omega⟩
theorem bFs:∀ x,x∈tabL→x.2.clo=true→aBp Tryz.prog x.1=true:=fun x hx=>by
 have h:(tabL.all fun x=>!x.2.clo||aBp Tryz.prog x.1)=true:=by kernel_rfl
 have:=List.all_eq_true.1 h x hx
 intro hc
 rw [hc] at this
 simpa using this
theorem bLx:∀ x,x∈tabL→x.2.c.pl=true:=fun x hx=>List.all_eq_true.1 (show (tabL.all fun x=>x.2.c.pl)=true by kernel_rfl) x hx
def ebN:Eb:=fun _ _ _ _=>none
theorem bN8 {z:Inp} {l:List (Nat×(List V→Option V))} (h:∀ x,x∈l→BiOk Tryz.prog (sg z) x.1 x.2):TabOkY Tryz.prog (sg z) tabQ (pbG (pbT l)) ebN :=
 ⟨fun f e h=>bFp (f,e) (aIw h),fun f e h hc=>bFs (f,e) (aIw h) hc,fun f e h=>bLx (f,e) (aIw h),bJ2 h,fun f ar L nx v L' nx' h=>by cases h⟩
def evB (eq fi:Bool) (l:List (Nat×(List V→Option V))) (f:Nat) (ar:List V):Option V:=aOx tabQ (pbG (pbT l)) (runY (QQ eq fi) tabQ (pbG (pbT l)) ebN 100000 V) f ar
theorem aH9 {z:Inp} {eq fi:Bool} (hq:eq=false→if fi=true then bdyF z.b≠bdyF z.d else bdyF z.a≠bdyF z.c) {l:List (Nat×(List V→Option V))} (h:∀ x,x∈l→BiOk Tryz.prog (sg z) x.1 x.2) {f:Nat} {ar:List V} {r:V} (e:evB eq fi l f ar=some r):PTr Tryz.prog f (ar.map (V.cz (sg z))) (r.cz (sg z)) :=
 bDc (qok z eq fi hq) (bN8 h) 100000 e
def aKt (t:List UInt8) (r:V):List V→Option V
 | [.str s]=>if s.length=t.length then (if s=t then some r else none) else none
 | _=>none
theorem aV6 {σ:Sy} {f:Nat} {t:List UInt8} {r:V} (h:PTr Tryz.prog f [.str t] (r.cz σ)):BiOk Tryz.prog σ f (aKt t r):=by
 intro ar v e
 unfold aKt at e
 split at e
 ·split at e
  ·split at e
   ·rename_i q
    subst q
    cases e
    exact h
   ·cases e
  ·cases e
 ·cases e
def biTru:List V→Option V
 | []=>some (.bool true)
 | _=>none
theorem bJd {σ:Sy} {f:Nat} (h:PTr Tryz.prog f [] (.bool true)):BiOk Tryz.prog σ f biTru:=by
 intro ar v e
 unfold biTru at e
 split at e
 ·cases e; exact h
 ·cases e
end Go.Proofs.YtdnhjbdnebokiaaGreatDoor
