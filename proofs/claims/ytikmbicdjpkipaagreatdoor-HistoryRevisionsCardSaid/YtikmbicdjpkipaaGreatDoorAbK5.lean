import Derived.Test.YtikmbicdjpkipaaGreatDoorAbY1
import Derived.Test.YtikmbicdjpkipaaGreatDoorAbK4
open Int renaming lt_tmod_of_pos->wO,tmod_lt_of_pos->xJ
set_option linter.unusedSimpArgs false
set_option linter.unusedVariables false
namespace Go.Ab
variable {P:Program}
def bLw(t:Nat):C:=
 .seq (.ops false [⟨none,[.mov (some 2) (.k .nilp)]⟩]) <|
 .seq (.ops false [⟨none,[.mov (some 5) (.t 0),.build (some 6) [.nils,(.int .i64 0),(.int .u64 0)] [(0,1,(.t 5)),(2,1,(.k (.int .u64 11400714819323198485)))],.box 7 t (.t 6),.mov (some 3) (.t 7)]⟩]) <|
 .seq (.seq (.ops false [⟨none,[.mov (some 4) (.k (.int .i64 0))]⟩]) <|
 .block 0 <|
  .loop <|
   .seq (.seq (.ops false [⟨none,[.mov (some 8) (.t 4),.mov (some 9) (.t 0),.len (some 10) false (.t 9),.bin (some 11) .lss (.t 8) (.t 10),.mov (some 12) (.t 11)]⟩,
    ⟨some (12,true),[.mov (some 13) (.t 4),.bin (some 14) .lss (.t 13) (.k (.int .i64 64))]⟩,
    ⟨none,[.pick (some 15) (.t 12) (.t 14) (.k (.bool false))]⟩]) <|
   .cond (.t 15)
    (.skip)
    (.exit 0)) <|
   .seq (.block 1 <|
    .seq (.ops true [⟨none,[.mov (some 18) (.t 3),.mov (some 19) (.t 3),.nchk (some 20) (.t 19),.fadr (some 21) 2 (.t 20),.load (some 22) false 1 false (.t 21),.mov (some 23) (.t 0),.mov (some 24) (.t 4),.iadr (some 25) 1 (.t 23) (.t 24),.load (some 26) false 1 false (.t 25),.cvt (some 27) .u64 (.t 26),.bin (some 28) .xor (.t 22) (.t 27),.bin (some 29) .mul (.t 28) (.k (.int .u64 18397679294719823053)),.nchk (some 30) (.t 18),.fadr (some 31) 2 (.t 30),.store 1 (.t 31) (.t 29)]⟩]) <|
    .ops true [⟨none,[.mov (some 32) (.t 3),.mov (some 33) (.t 3),.nchk (some 34) (.t 33),.fadr (some 35) 2 (.t 34),.load (some 36) false 1 false (.t 35),.mov (some 37) (.t 3),.nchk (some 38) (.t 37),.fadr (some 39) 2 (.t 38),.load (some 40) false 1 false (.t 39),.bin (some 41) .shr (.t 40) (.k (.int .u64 33)),.bin (some 42) .xor (.t 36) (.t 41),.nchk (some 43) (.t 32),.fadr (some 44) 2 (.t 43),.store 1 (.t 44) (.t 42)]⟩]) <|
   .ops false [⟨none,[.mov (some 16) (.t 4),.bin (some 17) .add (.t 16) (.k (.int .i64 1)),.mov (some 4) (.t 17)]⟩]) <|
 .seq (.ops false [⟨none,[.mov (some 45) (.t 3),.mov (some 2) (.t 45)]⟩]) <|
 .ret
def bDy(r:Nat):C:=
 .seq (.ops false [⟨none,[.mov (some 4) (.k (.int .i64 0))]⟩]) <|
 .seq (.seq (.ops true [⟨none,[.mov (some 5) (.t 0),.nchk (some 6) (.t 5),.fadr (some 7) 1 (.t 6),.load (some 8) false 1 false (.t 7),.mov (some 9) (.t 0),.nchk (some 10) (.t 9),.fadr (some 11) 0 (.t 10),.load (some 12) false 1 false (.t 11),.len (some 13) false (.t 12),.bin (some 14) .lss (.t 8) (.t 13)]⟩]) <|
 .cond (.t 14)
  (.seq (.ops false [⟨none,[.mov (some 15) (.t 0),.nchk (some 16) (.t 15),.fadr (some 17) 1 (.t 16),.load (some 18) false 1 false (.t 17),.bin (some 19) .add (.t 18) (.k (.int .i64 1)),.nchk (some 20) (.t 15),.fadr (some 21) 1 (.t 20),.store 1 (.t 21) (.t 19)]⟩]) <|
  .seq (.ops true [⟨none,[.mov (some 22) (.t 0),.nchk (some 23) (.t 22),.fadr (some 24) 0 (.t 23),.load (some 25) false 1 false (.t 24),.mov (some 26) (.t 0),.nchk (some 27) (.t 26),.fadr (some 28) 1 (.t 27),.load (some 29) false 1 false (.t 28),.bin (some 30) .sub (.t 29) (.k (.int .i64 1)),.iadr (some 31) 1 (.t 25) (.t 30),.load (some 32) false 1 false (.t 31),.mov (some 33) (.t 1),.call (some 34) true r [(.t 32),(.t 33)],.mov (some 4) (.t 34)]⟩]) <|
  .ret)
  (.skip)) <|
 .seq (.ops false [⟨none,[.mov (some 35) (.t 0),.mov (some 36) (.t 0),.nchk (some 37) (.t 36),.fadr (some 38) 2 (.t 37),.load (some 39) false 1 false (.t 38),.bin (some 40) .mul (.t 39) (.k (.int .u64 6364136223846793005)),.bin (some 41) .add (.t 40) (.k (.int .u64 1442695040888963407)),.nchk (some 42) (.t 35),.fadr (some 43) 2 (.t 42),.store 1 (.t 43) (.t 41)]⟩]) <|
 .seq (.ops false [⟨none,[.mov (some 44) (.t 0),.nchk (some 45) (.t 44),.fadr (some 46) 2 (.t 45),.load (some 47) false 1 false (.t 46),.bin (some 48) .shr (.t 47) (.k (.int .u64 33)),.mov (some 49) (.t 1),.cvt (some 50) .u64 (.t 49),.bin (some 51) .rem (.t 48) (.t 50),.cvt (some 52) .i64 (.t 51),.mov (some 4) (.t 52)]⟩]) <|
 .ret
def sdS(s v:Int):Int:=aG5 .xor .u64 (IntKind.u64.wrap (aG5 .xor .u64 s (IntKind.u64.wrap v)*18397679294719823053)) (vshr .u64 (IntKind.u64.wrap (aG5 .xor .u64 s (IntKind.u64.wrap v)*18397679294719823053)) 33)
def sdL(l:List Int):Int:=(l.take 64).foldl sdS 11400714819323198485
def ints(l:List Int):List V:=l.map λn=>.int .i64 n
theorem bBd{l:List Int}{i:Nat}(h:i<l.length):(ints l).getD i .junk=.int .i64 (l.getD i 0):=by simp[ints,List.getD,h]
theorem bKy(l:List Int){i:Nat}(h:i<l.length):(l.take (i+1)).foldl sdS 11400714819323198485=sdS ((l.take i).foldl sdS 11400714819323198485) (l.getD i 0):=by
 rw[List.take_add_one,List.getElem?_eq_getElem h,List.foldl_append];grind
theorem bPv{f t:Nat}(hf:Fn P f 46 [(2,none)] (bLw t))(l:List Int)(hl:l.length<2^63){L:Heap}{nx:Nat}:
 ECall P f [.lst 1 (ints l)] L nx λv L' nx'=>v=.ptr (nx+53) 0∧L' (nx+53)=some (.box t [.lst 1 (ints l),.int .i64 0,.int .u64 (sdL l)])∧nx+54<=nx'∧∀b,b<nx->L' b=L b:=by
 refine aB0 [27,29] hf (by simp) ?_;have hln:(ints l).length=l.length:=List.length_map ..;have hu:=λ(x:Option Blk) (M:Heap)=>aAe M (nx+53) x;simp only[bLw,push_cast,seval,-Nat.reducePow,hln];refine aAd (λm s1=>∃i,i<=l.length∧i<=64∧m=64-i∧s1.env 0=.lst 1 (ints l)∧s1.env 3=.ptr (nx+53) 0∧s1.env 4=.int .i64 i∧s1.L (nx+53)=some (.box t [.lst 1 (ints l),.int .i64 0,.int .u64 ((l.take i).foldl sdS 11400714819323198485)])∧nx+54<=s1.nx∧∀b,b<nx->s1.L b=L b) 64 ⟨0,?_⟩ λm s1 hJ=>?_
 .simp only[push_cast,seval,-Nat.reducePow];exact⟨by omega,λb hb=>aAc _ _ _ _ (by omega)⟩
 .obtain⟨i,h1,h2,rfl,j0,j3,j4,jL,jn,jb⟩:=hJ;by_cases h:i<l.length∧i<64
  .have a1:((i:Nat):Int)<((l.length:Nat):Int):=by omega
   have a2:((i:Nat):Int)<64:=by omega
   have hg:=bBd h.1;have hu:=λ(x:Option Blk) (M:Heap)=>aAe M (nx+53) x;simp only[push_cast,seval,-Nat.reducePow,j0,j3,j4,jL,hln,a1,a2,hg,hu];refine⟨h.1,⟨by omega,by omega⟩,64-(i+1),by omega,i+1,by omega,by omega,rfl,by simp,?_,by omega,λb hb=>?_⟩
   .rw[bKy l h.1];rfl
   .rw[aAc _ _ _ _ (by omega),aAc _ _ _ _ (by omega)];grind
  .have he:(l.take i).foldl sdS 11400714819323198485=sdL l:=by
    unfold sdL;grind
   rw[he]at jL;by_cases ha:i<l.length
   .have a1:((i:Nat):Int)<((l.length:Nat):Int):=by omega
    have a2:¬((i:Nat):Int)<64:=by omega
    simp only[push_cast,seval,-Nat.reducePow,j0,j3,j4,jL,hln,a1,a2];grind
   .have a1:¬((i:Nat):Int)<((l.length:Nat):Int):=by omega
    simp only[push_cast,seval,-Nat.reducePow,j0,j3,j4,jL,hln,a1];grind
def rndN(v n:Int):Int:=if v.tmod n<0 then v.tmod n+n else v.tmod n
theorem aQj(v:Int){n:Int}(hn:1<=n):0<=rndN v n∧rndN v n<n:=by
 have h1:=wO v (show 0<n by omega);have h2:=xJ v (show 0<n by omega);unfold rndN;omega
theorem bBy{f:Nat}(hf:Fn P f 15 [(4,none)] cRnd)(v n:Int)(hn:1<=n)(hn2:n<=5000):PTr P f [.int .i64 v,.int .i64 n] (.int .i64 (rndN v n)):=by
 refine ptrC [] hf (by simp) rfl ?_;have h1:=wO v (show 0<n by omega);have h2:=xJ v (show 0<n by omega);have h0:¬n=0:=by omega
 unfold rndN;simp only[cRnd,push_cast,seval,-Nat.reducePow,h0];refine aAy (λh=>?_) λh=>?_
 .simp only[push_cast,seval,-Nat.reducePow];rw[if_pos h];exact⟨by omega,rfl⟩
 .simp only[push_cast,seval,-Nat.reducePow];rw[if_neg h];rfl
def lcgF(s:Int):Int:=IntKind.u64.wrap (IntKind.u64.wrap (s*6364136223846793005)+1442695040888963407)
def srV(l:List Int)(a:Nat)(s n:Int):Int:=if a<l.length then rndN (l.getD a 0) n else(vshr .u64 (lcgF s) 33).tmod n
def srA(l:List Int)(a:Nat):Nat:=if a<l.length then a+1 else a
def srS(l:List Int)(a:Nat)(s:Int):Int:=if a<l.length then s else lcgF s
theorem bO3(s:Int):0<=vshr .u64 (lcgF s) 33:=by
 have h:0<=lcgF s:=Int.emod_nonneg _ (by decide);exact Int.fdiv_nonneg h (by decide)
theorem aSr(l:List Int)(a:Nat)(s:Int){n:Int}(hn:1<=n):0<=srV l a s n∧srV l a s n<n:=by
 unfold srV;split
 .exact aQj _ hn
 .exact⟨Int.tmod_nonneg _ (bO3 s),xJ _ (by omega)⟩
theorem bGx{f r t:Nat}(hf:Fn P f 53 [(4,none)] (bDy r))(hr:Fn P r 15 [(4,none)] cRnd)(l:List Int)(hl:l.length<2^63)(a:Nat)(ha:a<=l.length)(s n:Int)(hn:1<=n)(hn2:n<=5000)(hw:IntKind.u64.wrap n=n){L:Heap}{nx p:Nat}
 (hL:L p=some (.box t [.lst 1 (ints l),.int .i64 a,.int .u64 s])) (hp:p<nx) :
 ECall P f [.ptr p 0,.int .i64 n] L nx λv L' nx'=>v=.int .i64 (srV l a s n)∧L' p=some (.box t [.lst 1 (ints l),.int .i64 (srA l a),.int .u64 (srS l a s)])∧nx<=nx'∧∀b,b<nx->b≠p->L' b=L b:=by
 refine aB0 [40,41] hf (by simp) ?_;have hln:(ints l).length=l.length:=List.length_map ..;have hu:=λ(x:Option Blk) (M:Heap)=>aAe M p x;by_cases h:a<l.length
 .have a1:((a:Nat):Int)<((l.length:Nat):Int):=by omega
  have hg:=bBd h;simp only[bDy,push_cast,seval,-Nat.reducePow,hL,hln,a1,hu,Int.add_sub_cancel,Int.toNat_natCast,hg];refine⟨by omega,by omega,h,?_⟩;refine aAa (bBy hr _ n hn hn2) (by rfl) (by rfl) ?_;simp only[push_cast,seval,-Nat.reducePow];exact⟨by omega,by rw[srV,if_pos h],by simp[srA,srS,h],by omega,λb hb hbp=>aAc _ _ _ _ hbp⟩
 .have a1:¬((a:Nat):Int)<((l.length:Nat):Int):=by omega
  have h0:¬n=0:=by omega
  have q1:=aSr l a s hn;have q2:srV l a s n=(vshr .u64 (IntKind.u64.wrap (IntKind.u64.wrap (s*6364136223846793005)+1442695040888963407)) 33).tmod n:=by unfold srV lcgF;omega
  simp only[bDy,push_cast,seval,-Nat.reducePow,hL,hln,a1,hu,hw,h0,<-q2];refine⟨⟨by omega,by omega⟩,⟨by omega,by omega⟩,by omega,?_,by omega,λb hb hbp=>aAc _ _ _ _ hbp⟩;rw[srA,if_neg h,srS,if_neg h];rfl
theorem bGj{l:List Int}{a:Nat}(h:a<=l.length):srA l a<=l.length:=by
 unfold srA;split<;>omega
theorem aX2:∀{es:List V},(∀e,e∈es->∃m,e=.int .i64 m)->∃l:List Int,es=ints l
 | [],_=>⟨[],rfl⟩
 | e::r,h=>by obtain⟨m,rfl⟩:=h e (by simp);obtain⟨l,rfl⟩:=aX2 (es:=r) λx hx=>h x (by grind);exact⟨m::l,rfl⟩
theorem arg_intsL{t te:TypeId}{x:V}(hu:P.underlying t=some (.slice te))(he:P.underlying te=some (.int .i64))(hc:P.cellsOf te=1)(h:ArgT P t x):∃l,x=.lst 1 (ints l):=by
 obtain⟨n,hn⟩:=aQ4 (by simp[isAg,hu]) h;cases n with
 | zero=>exact(aCw hn).elim
 | succ n =>
   simp only[VT,hu,hc]at hn;obtain⟨es,h1,h2⟩:=hn;simp only[List.cons.injEq,and_true]at h1;obtain⟨l,hl⟩:=aX2 (es:=es) λe hx=>by
    obtain⟨ys,h3,h4,h5⟩:=h2 e hx;have ha:isAg P te=false:=by simp[isAg,he]
    cases n with
    | zero=>exact(aCw h5).elim
    | succ n=>simp only[VT,he]at h5;obtain⟨m,h6,-⟩:=h5;subst h6;exact⟨m,by rw[h3,ha];rfl⟩
   grind
end Go.Ab
