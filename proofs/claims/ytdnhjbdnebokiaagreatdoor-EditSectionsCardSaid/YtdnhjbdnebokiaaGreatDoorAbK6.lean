/- The made texts of one to three lines: the function's walk; lists of numbers as arguments. No condition. -/
import Derived.Test.YtdnhjbdnebokiaaGreatDoorAbK5
import Derived.Test.YtdnhjbdnebokiaaGreatDoorAbK4
set_option linter.unusedSimpArgs false
set_option linter.unusedVariables false
namespace Go.Ab
variable {P:Program}
theorem aXz:∀ {es:List V},(∀ e,e∈es→∃ m,e=.int .i64 m)→∃ l:List Int,es=ints l
 | [],_=>⟨[],rfl⟩
 | e::r,h=>by
   obtain ⟨m,rfl⟩:=h e (by simp)
   obtain ⟨l,rfl⟩:=aXz (es:=r) fun x hx=>h x (by simp [hx])
   exact ⟨m::l,rfl⟩
theorem arg_intsL {t te:TypeId} {x:V} (hu:P.underlying t=some (.slice te)) (he:P.underlying te=some (.int .i64)) (hc:P.cellsOf te=1) (h:ArgT P t x):∃ l,x=.lst 1 (ints l):=by
 obtain ⟨n,hn⟩:=aMd (by simp [isAg,hu]) h
 cases n with
 | zero=>exact (aKa hn).elim
 | succ n =>
   simp only [VT,hu,hc] at hn
   obtain ⟨es,h1,h2⟩:=hn
   simp only [List.cons.injEq,and_true] at h1
   obtain ⟨l,hl⟩:=aXz (es:=es) fun e hx=>by
    obtain ⟨ys,h3,h4,h5⟩:=h2 e hx
    have ha:isAg P te=false:=by simp [isAg,he]
    cases n with
    | zero=>exact (aKa h5).elim
    | succ n =>
      simp only [VT,he] at h5
      obtain ⟨m,h6,-⟩:=h5
      subst h6
      exact ⟨m,by rw [h3,ha]; rfl⟩
   exact ⟨l,by rw [h1,hl]⟩
theorem bDa {f:Nat} {sz:Nat} {es:List V} {r:V} (h:es.length<2^63→PTr P f [.lst sz es] r):PTr P f [.lst sz es] r:=by
 intro D w vs hD hg hn hr
 have h0:=hr 0 (.lst sz es) rfl
 have hl:es.length<2^63:=by
  revert h0
  generalize vs.getD 0 undef=v
  intro h0
  cases h0
  omega
 exact h hl D w vs hD hg hn hr
theorem bL5 {i:Nat} (h:i<5):(List.take 1 (List.drop (i*1) [V.str [111,110,101,10],V.str [116,119,111,32,119,111,114,100,115,10],V.str [116,104,114,101,101,10],V.str [10],V.str [102,111,117,114,32,52,10]])).headD V.junk=.str (aFd.getD i []):=by
 match i,h with
 | 0,_=>rfl
 | 1,_=>rfl
 | 2,_=>rfl
 | 3,_=>rfl
 | 4,_=>rfl
def bJz (fr nx:Nat):C :=
 .seq (.ops false [⟨none,[.mov (some 2) (.k (.str []))]⟩]) <|
 .seq (.ops false [⟨none,[.mov (some 6) (.t 0),.ecall (some 7) 22 fr [(.t 6)],.mov (some 3) (.t 7)]⟩]) <|
 .seq (.ops false [⟨none,[.mov (some 4) (.k (.str []))]⟩]) <|
 .seq (.seq (.ops false [⟨none,[.mov (some 8) (.t 3),.ecall (some 9) 22 nx [(.t 8),(.k (.int .i64 3))],.bin (some 10) .add (.k (.int .i64 1)) (.t 9),.mov (some 5) (.t 10)]⟩]) <|
 .block 0 <|
  .loop <|
   .seq (.seq (.ops false [⟨none,[.mov (some 11) (.t 5),.bin (some 12) .gtr (.t 11) (.k (.int .i64 0))]⟩]) <|
   .cond (.t 12)
    (.skip)
    (.exit 0)) <|
   .seq (.block 1 <|
    .ops false [⟨none,[.mov (some 15) (.t 4),.build (some 16) [(.str []),(.str []),(.str []),(.str []),(.str [])] [(0,1,(.k (.str [111,110,101,10]))),(1,1,(.k (.str [116,119,111,32,119,111,114,100,115,10]))),(2,1,(.k (.str [116,104,114,101,101,10]))),(3,1,(.k (.str [10]))),(4,1,(.k (.str [102,111,117,114,32,52,10])))],.mov (some 17) (.t 3),.ecall (some 18) 22 nx [(.t 17),(.k (.int .i64 5))],.idxA (some 19) 5 1 false (.t 16) (.t 18),.bin (some 20) .add (.t 15) (.t 19),.mov (some 4) (.t 20)]⟩]) <|
   .ops false [⟨none,[.mov (some 13) (.t 5),.bin (some 14) .sub (.t 13) (.k (.int .i64 1)),.mov (some 5) (.t 14)]⟩]) <|
 .seq (.ops false [⟨none,[.mov (some 21) (.t 4),.mov (some 2) (.t 21)]⟩]) <|
 .ret
theorem bI2 {f fr nx r t:Nat} (hf:Fn P f 22 [(2,none)] (bJz fr nx)) (hfr:Fn P fr 46 [(2,none)] (bGu t)) (hnx:Fn P nx 53 [(4,none)] (bB8 r)) (hr:Fn P r 15 [(4,none)] cRnd) (l:List Int):PTr P f [.lst 1 (ints l)] (.str (bdyF l)):=by
 refine bDa fun hl=>?_
 have hl:l.length<2^63:=by simpa [ints] using hl
 refine ptrC [] hf (by simp) rfl ?_
 simp only [bJz,push_cast,seval,-Nat.reducePow]
 refine aAc (bI4 hfr l hl) ?_
 rintro v L1 n1 ⟨rfl,hL,hn1,hb⟩
 simp only [push_cast,seval,-Nat.reducePow]
 refine aAc (bEp hnx hr l hl 0 (by omega) (sdL l) 3 (by decide) (by decide) (by decide) hL (by omega)) ?_
 rintro v L2 n2 ⟨rfl,hL2,hn2,hb2⟩
 have h3:=aK3 l 0 (sdL l) (n:=3) (by decide)
 simp only [push_cast,seval,-Nat.reducePow]
 refine ⟨by omega,?_⟩
 refine aAl (fun m s1=>∃ (a:Nat) (s:Int) (q:List UInt8),a≤l.length∧s1.env 3=.ptr 97 0∧s1.env 4=.str q∧s1.env 5=.int .i64 m∧m≤3∧s1.L 97=some (.box t [.lst 1 (ints l),.int .i64 a,.int .u64 s])∧98≤s1.nx∧bdG l m a s q=bdyF l∧q.length+10*m≤30) (1+(srV l 0 (sdL l) 3).toNat) ⟨srA l 0,srS l 0 (sdL l),[],bEl (by omega),?_⟩ fun m s1 hJ=>?_
 ·simp only [push_cast,seval,-Nat.reducePow]
  refine ⟨by rw [Int.toNat_of_nonneg h3.1],by omega,hL2,by omega,rfl,by omega⟩
 ·obtain ⟨a,s,q,ha,j3,j4,j5,hm,jL,jn,jb,jl⟩:=hJ
  cases m with
  | zero =>
    have a1:¬ (0:Int)<((0:Nat):Int):=by omega
    simp only [push_cast,seval,-Nat.reducePow,j3,j4,j5,a1]
    rw [← jb]
    rfl
  | succ m =>
    have a1:(0:Int)<(m:Int)+1:=by omega
    have h5:=aK3 l a s (n:=5) (by decide)
    have hb:=aOe l a s
    simp only [push_cast,seval,-Nat.reducePow,j3,j4,j5,a1]
    refine aAc (bEp hnx hr l hl a ha s 5 (by decide) (by decide) (by decide) jL (by omega)) ?_
    rintro v L3 n3 ⟨rfl,hL3,hn3,hb3⟩
    have hq:=bL5 (i:=(srV l a s 5).toNat) (by omega)
    simp only [push_cast,seval,-Nat.reducePow,hq,j3,j4,j5]
    refine ⟨h5.1,h5.2,by omega,⟨by omega,by omega⟩,m,by omega,srA l a,srS l a s,_,bEl ha,rfl,by rw [Int.add_sub_cancel],by omega,hL3,by omega,jb,?_⟩
    rw [List.length_append]
    omega
end Go.Ab
