import Derived.Test.YtikmbicdjpkipaaGreatDoorAbR8
import Derived.Lib.SlTrimSet
import Derived.Test.YtikmbicdjpkipaaGreatDoorAbP1
import Derived.Test.YtikmbicdjpkipaaGreatDoorAbK1
import Derived.Test.YtikmbicdjpkipaaGreatDoorAbK4
import Derived.KernelRfl
open List renaming dropWhile_suffix->xD,reverse_cons->xg,dropWhile->yL,reverse_nil->y3,nil_append->yf,reverse_append->wF,cons_append->yg,eq_nil_of_length_eq_zero->xO,take_length->zu
open ByteArray renaming size->zC
open And renaming intro->z8
set_option linter.unusedSimpArgs false
set_option linter.unusedVariables false
namespace Go.Ab
def wsp:List UInt8:=[32,9]
def c125(F T:Nat->Nat):C:=.n [.mov (some 2) (.s [])]<|.seq (.block 0<|.loop<|.seq (.seq (.ops false [⟨none,[.m 3 0,.ls 4 3,.bi 5 .gtr 4 0,.m 6 5]⟩,⟨some (6,true),[.m 7 0,.idx (some 8) (.t 7) (.i 0),.bin (some 9) .eql (.t 8) (.k (.int .u8 9)),.m 10 9]⟩,⟨some (10,false),[.m 11 0,.idx (some 12) (.t 11) (.i 0),.bin (some 13) .eql (.t 12) (.k (.int .u8 32))]⟩,⟨some (6,true),[.pt 14 10 13]⟩,⟨none,[.pf 15 6 14]⟩])<|.cond (.t 15) (.skip) (.exit 0))<|.block 1<|.o [.m 16 0,.slcS (some 17) (.t 16) (some (.i 1)) none,.m 0 17])<|.n [.m 18 0,.c 19 (F 138) [.t 18],.m 2 19]<|.ret
abbrev aQg(P:Program)(F T:Nat->Nat):Prop:=Fn P (F 125) 20 [(2,none)] (c125 F T)
def c138(F T:Nat->Nat):C:=.n [.mov (some 2) (.s [])]<|.seq (.block 0<|.loop<|.seq (.seq (.ops false [⟨none,[.m 3 0,.ls 4 3,.bi 5 .gtr 4 0,.m 6 5]⟩,⟨some (6,true),[.m 7 0,.m 8 0,.ls 9 8,.bi 10 .sub 9 1,.ix 11 7 10,.bin (some 12) .eql (.t 11) (.k (.int .u8 9)),.m 13 12]⟩,⟨some (13,false),[.m 14 0,.m 15 0,.ls 16 15,.bi 17 .sub 16 1,.ix 18 14 17,.bin (some 19) .eql (.t 18) (.k (.int .u8 32))]⟩,⟨some (6,true),[.pt 20 13 19]⟩,⟨none,[.pf 21 6 20]⟩])<|.cond (.t 21) (.skip) (.exit 0))<|.block 1<|.o [.m 22 0,.m 23 0,.ls 24 23,.bi 25 .sub 24 1,.slcS (some 26) (.t 22) none (some (.t 25)),.m 0 26])<|.n [.m 27 0,.m 2 27]<|.ret
abbrev aPm(P:Program)(F T:Nat->Nat):Prop:=Fn P (F 138) 28 [(2,none)] (c138 F T)
variable {P:Program} {F T:Nat->Nat}
open Go.Lib
structure StrC0(P:Program)(F:Nat->Nat):Prop where
 trim:∀s:List UInt8,s.length<=9223372036854775807->PTr P (F 140) [.str s,.str [32,9]] (.str (trimS s wsp))
 right:∀s cs:List UInt8,s.length<=100000->cs.length<=2->(∀b,b∈cs->b.toNat<128)->PTr P (F 143) [.str s,.str cs] (.str (trimRightS s cs))
 left:∀s cs:List UInt8,s.length<=100000->cs.length<=2->(∀b,b∈cs->b.toNat<128)->PTr P (F 144) [.str s,.str cs] (.str (trimLeftS s cs))
 ib:∀(s:List UInt8),PTr P (F 120) [.str s,.int .u8 10] (.int .i64 (indexByte s 10))
theorem aSz(s cs:List UInt8):(trimRightS s cs).length<=s.length:=by
 have:=(xD (l:=s.reverse) (λx=>cs.contains x)).length_le;simp only[trimRightS,List.length_reverse]at this ⊢;exact this
theorem aYt(s cs:List UInt8):(trimLeftS s cs).length<=s.length:=by
 exact(xD (l:=s) (λx=>cs.contains x)).length_le
theorem aNr{f:Nat}{s t r:List UInt8}(hr0:r.length<2^63)(h:∀w:World,Calls P f #[.string ⟨s.toArray⟩,.string ⟨t.toArray⟩] w λe w'=>e=.returned (.string ⟨r.toArray⟩)∧Go.RowKit.Below w.heap.size w w'):PTr P f [.str s,.str t] (.str r):=by
 intro D w vs hD hg hl hr;obtain⟨u,v,rfl,hu,hv⟩:=vs2 hl hr;cases hu;cases hv
 refine(h w).mono ?_;rintro e w' ⟨rfl,hb⟩;exact⟨_,rfl,hb,.str _ hr0⟩
theorem bEd
 (h1:∀(s cs:ByteArray) (w:World),s.size<=9223372036854775807->cs.size<4294967281->(∀(j:Nat) b,cs.data.toList[j]?=some b->b.toNat<128)->Calls P (F 140) #[.string s,.string cs] w λe w'=>e=.returned (.string ⟨(trimS s.data.toList cs.data.toList).toArray⟩)∧Go.RowKit.Below w.heap.size w w')
 (h2:∀(s cs:ByteArray) (w:World),s.size<=9223372036854775807->cs.size<4294967281->(∀(j:Nat) b,cs.data.toList[j]?=some b->b.toNat<128)->Calls P (F 143) #[.string s,.string cs] w λe w'=>e=.returned (.string ⟨(trimRightS s.data.toList cs.data.toList).toArray⟩)∧Go.RowKit.Below w.heap.size w w')
 (h3:∀(s cs:ByteArray) (w:World),cs.size<4294967281->(∀(j:Nat) b,cs.data.toList[j]?=some b->b.toNat<128)->Calls P (F 144) #[.string s,.string cs] w λe w'=>e=.returned (.string ⟨(trimLeftS s.data.toList cs.data.toList).toArray⟩)∧Go.RowKit.Below w.heap.size w w')
 (h5:∀(s:ByteArray) (c:Int) (w:World),Calls P (F 120) #[.string s,.int .u8 c] w λe w'=>e=.returned (.int .i64 (indexByte s.data.toList c.toNat.toUInt8))∧w'=w):StrC0 P F:=by
 have mem:∀{cs:List UInt8},(∀b,b∈cs->b.toNat<128)->∀(j:Nat) b,cs[j]?=some b->b.toNat<128:=λh j b hb=>h b (List.mem_of_getElem? hb);refine⟨λs hs=>aNr (by have:=aYt (trimRightS s wsp) wsp;have:=aSz s wsp;unfold trimS;omega) λw=>?_,λs cs hs hc ha=>aNr (by have:=aSz s cs;omega) λw=>?_,λs cs hs hc ha=>aNr (by have:=aYt s cs;omega) λw=>?_,λs=>?_⟩
 .exact h1 ⟨s.toArray⟩ ⟨([32,9]:List UInt8).toArray⟩ w (by simp[zC];omega) (by simp[zC]) (mem (by decide))
 .exact h2 ⟨s.toArray⟩ ⟨cs.toArray⟩ w (by simp[zC];omega) (by simp[zC];omega) (mem ha)
 .exact h3 ⟨s.toArray⟩ ⟨cs.toArray⟩ w (by simp[zC];omega) (mem ha)
 .intro D w vs hD hg hl hr;obtain⟨u,v,rfl,hu,hv⟩:=vs2 hl hr;cases hu;cases hv
  refine(h5 ⟨s.toArray⟩ 10 w).mono ?_;rintro e w' ⟨rfl,rfl⟩;exact⟨_,rfl,Go.RowKit.Below.refl _ _,.int _ _⟩
theorem aNy(x:UInt8):wsp.contains x=true↔(x.toNat=9∨x.toNat=32):=by
 have h:∀n:Nat,n<256->(x.toNat=n↔x=UInt8.ofNat n):=λn hn=>⟨λe=>by rw[<-e];simp,λe=>by rw[e];simp;omega⟩;rw[h 9 (by omega),h 32 (by omega)];simp only[wsp,List.contains_cons,List.contains_nil,Bool.or_false,Bool.or_eq_true,beq_iff_eq];exact or_comm
theorem aL3(cs:List UInt8)(x:UInt8)(r:List UInt8):trimRightS (x::r) cs=if trimRightS r cs=[]then(if cs.contains x then[]else[x])else x::trimRightS r cs:=by
 simp only[trimRightS,xg,List.dropWhile_append,List.isEmpty_iff,List.reverse_eq_nil_iff];by_cases h:yL (λx=>cs.contains x) r.reverse=[]
 .rw[if_pos h,if_pos h];cases hc:cs.contains x<;>simp only[yL,hc,xg,y3,yf]<;>rfl
 .rw[if_neg h,if_neg h];simp
theorem aOl(cs:List UInt8):∀s:List UInt8,trimRightS (trimLeftS s cs) cs=trimLeftS (trimRightS s cs) cs
 | []=>rfl
 | x::r=>by
   have ih:=aOl cs r;by_cases hx:cs.contains x=true
   .have e:∀q,trimLeftS (x::q) cs=trimLeftS q cs:=λq=>by simp only[trimLeftS,yL,hx]
    rw[e,ih,aL3];by_cases h:trimRightS r cs=[]
    .rw[if_pos h,if_pos hx,h]
    .rw[if_neg h,e]
   .have hx':cs.contains x=false:=by simpa using hx
    have e:∀q:List UInt8,trimLeftS (x::q) cs=x::q:=λq=>by simp only[trimLeftS,yL,hx']
    rw[e,aL3];by_cases h:trimRightS r cs=[]
    .rw[if_pos h,if_neg hx,e]
    .rw[if_neg h,e]
theorem aU2{s:List UInt8}(h:0<s.length):trimRightS s wsp=if(s.getD (s.length-1) 0).toNat=9∨(s.getD (s.length-1) 0).toNat=32 then trimRightS (s.take (s.length-1)) wsp else s:=by
 obtain⟨u,x,rfl⟩:∃u x,s=u++[x]:=by
  rcases List.eq_nil_or_concat s with rfl|⟨u,x,rfl⟩
  .simp at h
  .exact⟨u,x,by simp⟩
 have e1:(u++[x]).getD ((u++[x]).length-1) 0=x:=by simp
 have e2:(u++[x]).take ((u++[x]).length-1)=u:=by simp
 rw[e1,e2];by_cases hx:wsp.contains x=true
 .rw[if_pos ((aNy x).1 hx)];simp only[trimRightS,wF,xg,y3,yf,yg,yL,hx]
 .rw[if_neg (λq=>hx ((aNy x).2 q))];have hx':wsp.contains x=false:=by simpa using hx
  simp only[trimRightS,wF,xg,y3,yf,yg,yL,hx',List.reverse_reverse]
theorem bBt{s:List UInt8}(h:0<s.length):trimLeftS s wsp=if(s.getD 0 0).toNat=9∨(s.getD 0 0).toNat=32 then trimLeftS (s.drop 1) wsp else s:=by
 cases s with
 | nil=>simp at h
 | cons x r =>
   have e1:(x::r).getD 0 0=x:=rfl;have e2:(x::r).drop 1=r:=rfl;rw[e1,e2];by_cases hx:wsp.contains x=true
   .rw[if_pos ((aNy x).1 hx)];simp only[trimLeftS,yL,hx]
   .rw[if_neg (λq=>hx ((aNy x).2 q))];have hx':wsp.contains x=false:=by simpa using hx
    simp only[trimLeftS,yL,hx']
theorem t138(hf:aPm P F T)(s:List UInt8)(hs:s.length<=9223372036854775807):PTr P (F 138) [.str s] (.str (trimRightS s wsp)):=by
 refine ptrC [] hf (by simp) rfl ?_;simp only[c138,push_cast,seval,-Nat.reducePow];refine aAd (λm s1=>∃t,m=t.length∧t.length<=9223372036854775807∧trimRightS t wsp=trimRightS s wsp∧s1.env 0=.str t) s.length ⟨s,?_⟩ λm s1 hJ=>?_
 .simp only[push_cast,seval,-Nat.reducePow];exact hs
 .obtain⟨t,rfl,hl,ht,j0⟩:=hJ;by_cases h0:0<t.length
  .have h0':(0:Int)<(t.length:Nat):=by omega
   have hst:=aU2 h0;have e1:(((t.length:Nat):Int)-1).toNat=t.length-1:=by omega
   have e2:(t.take (t.length-1)).length=t.length-1:=by rw[List.length_take];omega
   obtain⟨x,hx⟩:∃x,t.getD (t.length-1) 0=x:=⟨_,rfl⟩;rw[hx]at hst;by_cases h9:x.toNat=9
   .have h9':((x.toNat:Nat):Int)=9:=by omega
    rw[if_pos (.inl h9)]at hst;simp only[push_cast,seval,-Nat.reducePow,j0,h0',e1,hx,h9']
    repeat refine z8 (by omega) ?_
    exact⟨t.length-1,by omega,t.take (t.length-1),e2.symm,by omega,by rw[<-hst];exact ht,rfl⟩
   .have h9':¬((x.toNat:Nat):Int)=9:=by omega
    by_cases h32:x.toNat=32
    .have h32':((x.toNat:Nat):Int)=32:=by omega
     rw[if_pos (.inr h32)]at hst;simp only[push_cast,seval,-Nat.reducePow,j0,h0',e1,hx,h9',h32']
     repeat refine z8 (by omega) ?_
     exact⟨t.length-1,by omega,t.take (t.length-1),e2.symm,by omega,by rw[<-hst];exact ht,rfl⟩
    .have h32':¬((x.toNat:Nat):Int)=32:=by omega
     rw[if_neg (by omega)]at hst;simp only[push_cast,seval,-Nat.reducePow,j0,h0',e1,hx,h9',h32']
     repeat refine z8 (by omega) ?_
     rw[<-ht,hst];rfl
  .have h0':¬(0:Int)<(t.length:Nat):=by omega
   have:t=[]:=xO (by omega);subst this;simp only[push_cast,seval,-Nat.reducePow,j0];rw[<-ht];rfl
theorem t125(hf:aQg P F T)(h138:aPm P F T)(s:List UInt8)(hs:s.length<=9223372036854775807):PTr P (F 125) [.str s] (.str (trimS s wsp)):=by
 refine ptrC [] hf (by simp) rfl ?_;simp only[c125,push_cast,seval,-Nat.reducePow];refine aAd (λm s1=>∃t,m=t.length∧t.length<=9223372036854775807∧trimLeftS t wsp=trimLeftS s wsp∧s1.env 0=.str t) s.length ⟨s,?_⟩ λm s1 hJ=>?_
 .simp only[push_cast,seval,-Nat.reducePow];exact hs
 .obtain⟨t,rfl,hl,ht,j0⟩:=hJ;have hfin:trimLeftS t wsp=t->trimRightS t wsp=trimS s wsp:=λe=>by rw[trimS,<-aOl,<-ht,e]
  by_cases h0:0<t.length
  .have h0':(0:Int)<(t.length:Nat):=by omega
   have hst:=bBt h0;have e2:(t.drop 1).length=t.length-1:=by rw[List.length_drop]
   obtain⟨x,hx⟩:∃x,t.getD 0 0=x:=⟨_,rfl⟩;rw[hx]at hst;by_cases h9:x.toNat=9
   .have h9':((x.toNat:Nat):Int)=9:=by omega
    rw[if_pos (.inl h9)]at hst;simp only[push_cast,seval,-Nat.reducePow,j0,h0',hx,h9',zu]
    repeat refine z8 (by omega) ?_
    exact⟨t.length-1,by omega,t.drop 1,e2.symm,by omega,by rw[<-hst];exact ht,rfl⟩
   .have h9':¬((x.toNat:Nat):Int)=9:=by omega
    by_cases h32:x.toNat=32
    .have h32':((x.toNat:Nat):Int)=32:=by omega
     rw[if_pos (.inr h32)]at hst;simp only[push_cast,seval,-Nat.reducePow,j0,h0',hx,h9',h32',zu]
     repeat refine z8 (by omega) ?_
     exact⟨t.length-1,by omega,t.drop 1,e2.symm,by omega,by rw[<-hst];exact ht,rfl⟩
    .have h32':¬((x.toNat:Nat):Int)=32:=by omega
     rw[if_neg (by omega)]at hst;simp only[push_cast,seval,-Nat.reducePow,j0,h0',hx,h9',h32']
     repeat refine z8 (by omega) ?_
     refine aAa (t138 h138 t hl) (by simp only[push_cast,seval,-Nat.reducePow]) (by simp only[push_cast,seval,-Nat.reducePow]) ?_;simp only[push_cast,seval,-Nat.reducePow,view,hfin hst]
  .have h0':¬(0:Int)<(t.length:Nat):=by omega
   have:t=[]:=xO (by omega);subst this;simp only[push_cast,seval,-Nat.reducePow,j0];refine aAa (t138 h138 [] (by simp)) (by simp only[push_cast,seval,-Nat.reducePow]) (by simp only[push_cast,seval,-Nat.reducePow]) ?_;simp only[push_cast,seval,-Nat.reducePow,view,hfin rfl]
end Go.Ab
namespace Go.Ab
variable {P:Program} {F T:Nat->Nat}
theorem aB7{L:Heap}{i ty z sz n:Nat}{es:List V}(h:L i=some (.vec ty z es))(hi:V.imms es=true)(hn:n=es.length):view L 3 (.own i sz 0 n)=.lst sz es:=by
 subst hn;simp only[view,h,Nat.zero_add,Nat.le_refl,if_true,List.drop_zero,zu];rw[show es.map (view L 2)=es.map id from List.map_congr_left λx hx=>aAb 2 x (aBh hi hx),List.map_id]
end Go.Ab
