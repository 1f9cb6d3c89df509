/- Several texts of one kind, merged. No condition. -/
import Derived.Test.YtgdllpgidgiccaaGreatDoorAbM2
import Derived.Test.YtgdllpgidgiccaaGreatDoorAbM4
import Derived.Test.YtgdllpgidgiccaaGreatDoorAbR7
set_option linter.unusedSimpArgs false
set_option linter.unusedVariables false
namespace Go.Ab
def c271 (F T:Nat→Nat):C :=
 .n [.mov (some 4) (.k (.bool false))] <|
 .seq (.n [.m 14 0,.ls 15 14,.bi 16 .gtr 15 500] <|
 .cond (.t 16)
 (.n [.c 17 (F 254) [],.m 4 17] <|
 .ret)
 (.skip)) <|
 .n [.m 18 1,.e 19 74 (F 39) [.t 18],.e 20 74 (F 40) [.t 19,.i 2],.m 5 20] <|
 .n [.m 22 0,.c 23 (F 258) [.t 22],.m 21 23,.x 24 0 21,.x 25 1 21,.m 6 24,.m 7 25] <|
 .n [.m 27 0,.c 28 (F 272) [.t 27],.m 26 28,.x 29 0 26,.x 30 1 26,.m 8 29,.m 9 30] <|
 .n [.m 32 5,.c 33 (F 258) [.t 32],.m 31 33,.x 34 0 31,.x 35 1 31,.m 10 34,.m 11 35] <|
 .n [.m 37 5,.c 38 (F 272) [.t 37],.m 36 38,.x 39 0 36,.x 40 1 36,.m 12 39,.m 13 40] <|
 .seq (.ops false [⟨none,[.m 41 7,.m 42 9,.b 43 .eql 41 42,.m 44 43]⟩,
 ⟨some (44,true),[.m 45 11,.m 46 13,.b 47 .eql 45 46]⟩,
 ⟨none,[.pf 48 44 47,.m 49 48]⟩,
 ⟨some (49,true),[.m 50 6,.m 51 8,.c 52 (F 273) [.t 50,.t 51]]⟩,
 ⟨none,[.pf 53 49 52,.m 54 53]⟩,
 ⟨some (54,true),[.m 55 10,.m 56 12,.c 57 (F 273) [.t 55,.t 56]]⟩,
 ⟨none,[.pf 58 54 57,.m 59 58]⟩,
 ⟨some (59,true),[.m 60 6,.c 61 (F 255) [.t 60],.m 62 0,.b 63 .eql 61 62]⟩,
 ⟨none,[.pf 64 59 63,.m 65 64]⟩,
 ⟨some (65,true),[.m 66 10,.c 67 (F 255) [.t 66],.m 68 5,.b 69 .eql 67 68]⟩,
 ⟨none,[.pf 70 65 69,.m 71 70]⟩,
 ⟨some (71,true),[.c 72 (F 254) []]⟩,
 ⟨none,[.pf 73 71 72,.m 4 73]⟩]) <|
 .ret
abbrev bI1 (P:Program) (F T:Nat→Nat):Prop:=Fn P (F 271) 74 [(4,none)] (c271 F T)
def c272 (F T:Nat→Nat):C :=
 .n [.mov (some 2) (.k .nils),.mov (some 3) (.i 0)] <|
 .n [.m 13 0,.c 14 (F 159) [.t 13],.m 12 14,.x 15 0 12,.x 16 1 12,.m 4 15,.m 5 16] <|
 .seq (.n [.m 17 5,.bi 18 .neq 17 0] <|
 .cond (.t 18)
 (.n [.m 19 5,.mov (some 2) (.k .nils),.m 3 19] <|
 .ret)
 (.skip)) <|
 .n [.m 20 0,.ls 21 20,.m 6 21] <|
 .seqc (.n [.m 22 4,.ll 23 22,.bi 24 .gtr 23 0] <|
 .cond (.t 24)
 (.o [.m 25 4,.iadr (some 26) 5 (.t 25) (.i 0),.f 27 2 26,.l 28 27,.m 6 28])
 (.skip)) <|
 .n [.m 29 0,.m 30 6,.slcS (some 31) (.t 29) none (some (.t 30)),.build (some 32) [(.str []),(.int .i64 0),(.str [])] [(2,1,(.t 31))],.mkv 33 (T 28) 3 [.t 32],.m 7 33] <|
 .seq (.n [.mov (some 8) (.i 0)] <|
 .block 0 <|
 .loop <|
 .seq (.n [.m 34 8,.m 35 4,.ll 36 35,.b 37 .lss 34 36] <|
 .cond (.t 37)
 (.skip)
 (.exit 0)) <|
 .seq (.block 1 <|
 .n [.m 40 0,.ls 41 40,.mov (some 9) (.i 0),.m 10 41] <|
 .seqc (.n [.mov (some 11) (.i 0)] <|
 .block 2 <|
 .loop <|
 .seq (.n [.m 42 11,.m 43 8,.b 44 .lss 42 43] <|
 .cond (.t 44)
 (.skip)
 (.exit 2)) <|
 .seq (.block 3 <|
 .seq (.p [.m 47 4,.m 48 11,.ia 49 5 47 48,.f 50 1 49,.l 51 50,.m 52 4,.m 53 8,.ia 54 5 52 53,.f 55 1 54,.l 56 55,.b 57 .eql 51 56]) <|
 .cond (.t 57)
 (.o [.m 58 9,.bi 59 .add 58 1,.m 9 59])
 (.skip)) <|
 .o [.m 45 11,.bi 46 .add 45 1,.m 11 46]) <|
 .seqc (.n [.m 60 8,.bi 61 .add 60 1,.m 62 4,.ll 63 62,.b 64 .lss 61 63] <|
 .cond (.t 64)
 (.o [.m 65 4,.m 66 8,.bi 67 .add 66 1,.ia 68 5 65 67,.f 69 2 68,.l 70 69,.m 10 70])
 (.skip)) <|
 .p [.m 71 7,.m 72 4,.m 73 8,.ia 74 5 72 73,.f 75 1 74,.l 76 75,.m 77 9,.m 78 0,.m 79 4,.m 80 8,.ia 81 5 79 80,.f 82 2 81,.l 83 82,.m 84 10,.slcS (some 85) (.t 78) (some (.t 83)) (some (.t 84)),.build (some 86) [(.str []),(.int .i64 0),(.str [])] [(0,1,(.t 76)),(1,1,(.t 77)),(2,1,(.t 85))],.mkl (some 87) 3 [.t 86],.app 88 (T 28) 3 (.t 71) (.t 87),.m 7 88]) <|
 .o [.m 38 8,.bi 39 .add 38 1,.m 8 39]) <|
 .n [.m 89 7,.m 2 89,.mov (some 3) (.i 0)] <|
 .ret
abbrev bGq (P:Program) (F T:Nat→Nat):Prop:=Fn P (F 272) 90 [(2,none),(3,none)] (c272 F T)
def c273 (F T:Nat→Nat):C :=
 .n [.mov (some 4) (.k (.bool false))] <|
 .seq (.n [.m 6 0,.ll 7 6,.m 8 1,.ll 9 8,.b 10 .neq 7 9] <|
 .cond (.t 10)
 (.n [.mov (some 4) (.k (.bool false))] <|
 .ret)
 (.skip)) <|
 .seq (.n [.mov (some 5) (.i 0)] <|
 .block 0 <|
 .loop <|
 .seq (.n [.m 11 5,.m 12 0,.ll 13 12,.b 14 .lss 11 13] <|
 .cond (.t 14)
 (.skip)
 (.exit 0)) <|
 .seq (.block 1 <|
 .seq (.p [.m 17 0,.m 18 5,.ia 19 3 17 18,.load (some 20) false 3 true (.t 19),.m 21 1,.m 22 5,.ia 23 3 21 22,.load (some 24) false 3 true (.t 23),.eqA (some 25) true [1,0,1] (.t 20) (.t 24)]) <|
 .cond (.t 25)
 (.n [.mov (some 4) (.k (.bool false))] <|
 .ret)
 (.skip)) <|
 .o [.m 15 5,.bi 16 .add 15 1,.m 5 16]) <|
 .n [.mov (some 4) (.k (.bool true))] <|
 .ret
abbrev bEx (P:Program) (F T:Nat→Nat):Prop:=Fn P (F 273) 26 [(4,none)] (c273 F T)
end Go.Ab
namespace Go.Ab
variable {P:Program} {F T:Nat→Nat}
open Go.Lib
theorem t272 (hf:bGq P F T) (h159:aPl P (F 159)) (s:List UInt8) (hs:s.length≤8192):PTr P (F 272) [.str s] (.tup [.lst 3 ((aAh s).map Un.v),.int .i64 0]):=by
 have h1:=h159 s hs
 have hok:=aJe s
 have hpr:=aKz s
 have hcnt:=aNt s
 have hul:=aC3 s
 have hun:aAh s=⟨[],0,aH1 s⟩::uGo s [] (aEm s):=rfl
 have hlead:aH1 s=s.take (nxF s (aEm s)):=by
  unfold aH1 nxF
  cases aEm s with
  | nil=>simp
  | cons x r=>rfl
 refine ptrC [] hf (by simp) (by simp [V.imm,V.imms,aCn]) ?_
 simp only [c272,push_cast,seval,-Nat.reducePow]
 refine aAb h1 (by simp only [push_cast,seval,-Nat.reducePow]) (by simp only [push_cast,seval,-Nat.reducePow,aD7]) ?_
 obtain ⟨l,hl⟩:∃ l,l=aEm s:=⟨_,rfl⟩
 rw [← hl] at hok hpr hcnt hun hlead ⊢
 have hlen:=aCs l
 simp only [push_cast,seval,-Nat.reducePow,hlen]
 refine aAo (fun s1=>s1.env 0=.str s∧s1.env 4=.lst 5 (secV l)∧s1.env 6=.int .i64 (nxF s l)) ?_ ?_
 ·cases l with
  | nil=>simp only [push_cast,seval,-Nat.reducePow,nxF,hlen,List.length_nil]
  | cons x r =>
    have h0:(0:Int)<(r.length:Int)+1:=by omega
    have hg:(secV (x::r)).getD 0 .junk=.agg [.int .i64 x.lev,.str x.title,.int .i64 x.fr,.int .i64 x.bd,.int .i64 x.to]:=rfl
    simp only [push_cast,seval,-Nat.reducePow,h0,hlen,nxF,hg]
    omega
 rintro s1 ⟨j0,j4,j6⟩
 have hnx:=bEf hok
 simp only [push_cast,seval,-Nat.reducePow,j0,j4,j6]
 refine ⟨hnx,?_⟩
 refine aAg (fun m s1=>∃ d r out id,l=d++r∧m=r.length∧out++uGo s d r=aAh s∧s1.env 0=.str s∧s1.env 4=.lst 5 (secV l)∧s1.env 8=.int .i64 d.length∧s1.env 7=.own id 3 0 out.length∧s1.L id=some (.vec (T 28) 3 (out.map Un.v))∧id<s1.nx) l.length ⟨[],l,[⟨[],0,aH1 s⟩],s1.nx+33,?_⟩ fun m s1 hJ=>?_
 ·simp only [push_cast,seval,-Nat.reducePow]
  exact ⟨hun.symm,j0,j4,by rw [← hlead]; rfl,by omega⟩
 ·obtain ⟨d,r,out,id,rfl,rfl,ho,j0,j4,j8,j7,jL,hid⟩:=hJ
  cases r with
  | nil =>
    have h':¬ ((d.length:Nat):Int)<((d++[]).length:Nat):=by simp
    rw [uGo,List.append_nil] at ho
    subst ho
    have hlu:=aGb (aAh s)
    have hlend:(secV d).length=d.length:=aCs d
    simp only [push_cast,seval,-Nat.reducePow,j0,j4,j8,j7,hlen,hlend]
    have hv:view s1.L 2 (.own id 3 0 (aAh s).length)=.lst 3 ((aAh s).map Un.v):=by
     have:=aFm (n:=1) (sz:=3) jL (aCn _)
     rwa [aGb] at this
    simp only [view] at hv ⊢
    simp only [List.map_cons,List.map_nil,hv,view]
  | cons x r =>
    have h':((d.length:Nat):Int)<((d++x::r).length:Nat):=by simp; omega
    have hdl:(d++x::r).length=d.length+(r.length+1):=by simp
    simp only [push_cast,seval,-Nat.reducePow,j0,j4,j8,j7,h',hlen]
    refine aAo (fun s2=>s2.env 0=.str s∧s2.env 4=.lst 5 (secV (d++x::r))∧s2.env 8=.int .i64 d.length∧s2.env 7=.own id 3 0 out.length∧s2.L id=some (.vec (T 28) 3 (out.map Un.v))∧id<s2.nx∧s2.env 9=.int .i64 (cntT d x.title)∧s2.env 10=.int .i64 s.length) ?_ ?_
    ·simp only [push_cast,seval,-Nat.reducePow]
     refine aAg (fun m s2=>∃ k,k≤d.length∧m=d.length-k∧s2.env 0=.str s∧s2.env 4=.lst 5 (secV (d++x::r))∧s2.env 8=.int .i64 d.length∧s2.env 7=.own id 3 0 out.length∧s2.L id=some (.vec (T 28) 3 (out.map Un.v))∧id<s2.nx∧s2.env 9=.int .i64 (cntT (d.take k) x.title)∧s2.env 10=.int .i64 s.length∧s2.env 11=.int .i64 k) d.length ⟨0,?_⟩ fun m s2 hJ=>?_
     ·simp only [push_cast,seval,-Nat.reducePow,j0,j4,j8,j7]
      exact ⟨by omega,jL,by omega,rfl⟩
     ·obtain ⟨k,hk,rfl,i0,i4,i8,i7,iL,iid,i9,i10,i11⟩:=hJ
      by_cases h:k<d.length
      ·have h1:((k:Nat):Int)<(d.length:Nat):=by omega
       have hgk:(secV (d++x::r)).getD k .junk=.agg [.int .i64 d[k].lev,.str d[k].title,.int .i64 d[k].fr,.int .i64 d[k].bd,.int .i64 d[k].to]:=by
        simp [secV,List.getD,List.getElem?_append_left,h,Sec.v]
       have htk:d.take (k+1)=d.take k++[d[k]]:=by rw [List.take_add_one]; simp [h]
       have hcl:cntT (d.take k) x.title≤d.length:=by
        unfold cntT
        exact Nat.le_trans (List.length_filter_le _ _) (by rw [List.length_take]; omega)
       simp only [push_cast,seval,-Nat.reducePow,i0,i4,i8,i7,i9,i10,i11,h1,hlen,hgk,aHn,Sec.v]
       refine ⟨by omega,aAf (fun e=>?_) (fun e=>?_)⟩
       ·have hn:cntT (d.take (k+1)) x.title=cntT (d.take k) x.title+1:=by rw [htk,aH0,if_pos e]
        simp only [push_cast,seval,-Nat.reducePow,i0,i4,i8,i7,i9,i10,i11]
        exact ⟨by omega,by omega,d.length-(k+1),by omega,k+1,by omega,rfl,iL,by omega,by rw [hn]; simp,by simp⟩
       ·have hn:cntT (d.take (k+1)) x.title=cntT (d.take k) x.title:=by rw [htk,aH0,if_neg e]; rfl
        simp only [push_cast,seval,-Nat.reducePow,i0,i4,i8,i7,i9,i10,i11]
        exact ⟨by omega,d.length-(k+1),by omega,k+1,by omega,rfl,iL,by omega,by rw [hn],by simp⟩
      ·have h1:¬ ((k:Nat):Int)<(d.length:Nat):=by omega
       obtain rfl:k=d.length:=by omega
       rw [List.take_length] at i9
       simp only [push_cast,seval,-Nat.reducePow,i0,i4,i8,i7,i9,i10,i11,h1]
       exact ⟨iL,by omega⟩
    rintro s2 ⟨i0,i4,i8,i7,iL,iid,i9,i10⟩
    have hx:=hok x (by simp)
    have x1:=hx.bd
    have x2:=hx.le
    have x3:=hx.to
    have hol2:out.length≤8193:=by have:=congrArg List.length ho; rw [List.length_append] at this; omega
    rw [uGo] at ho
    have e1:(((d.length:Nat):Int)+1).toNat=d.length+1:=by omega
    have hnle:x.fr≤nxF s r∧nxF s r≤s.length:=by
     cases r with
     | nil=>simp only [nxF]; omega
     | cons y r2 =>
       have y1:=(List.pairwise_cons.1 (List.pairwise_append.1 hpr).2.1).1 y (by simp)
       have y2:=hok y (by simp)
       have:=y2.bd
       have:=y2.le
       have:=y2.to
       simp only [nxF]
       omega
    simp only [push_cast,seval,-Nat.reducePow]
    refine aAo (fun s3=>s3.env 0=.str s∧s3.env 4=.lst 5 (secV (d++x::r))∧s3.env 8=.int .i64 d.length∧s3.env 7=.own id 3 0 out.length∧s3.L id=some (.vec (T 28) 3 (out.map Un.v))∧id<s3.nx∧s3.env 9=.int .i64 (cntT d x.title)∧s3.env 10=.int .i64 (nxF s r)) ?_ ?_
    ·cases r with
     | nil =>
       have q:¬ ((d.length:Nat):Int)+1<((d++[x]).length:Nat):=by simp
       simp only [push_cast,seval,-Nat.reducePow,i0,i4,i8,i7,i9,i10,hlen,q,nxF]
       exact ⟨by omega,iL,by omega⟩
     | cons y r2 =>
       have q:((d.length:Nat):Int)+1<((d++x::y::r2).length:Nat):=by simp; omega
       simp only [push_cast,seval,-Nat.reducePow,i0,i4,i8,i7,i9,i10,hlen,q,nxF,e1,aTc,Sec.v]
       exact ⟨by omega,by omega,by omega,by omega,iL,by omega⟩
    rintro s3 ⟨k0,k4,k8,k7,kL,kid,k9,k10⟩
    have hlo:=aGb out
    simp only [push_cast,seval,-Nat.reducePow,k0,k4,k8,k7,k9,k10,hlen,aHn,Sec.v,kL,hlo]
    refine ⟨by omega,by omega,by omega,by omega,r.length,by omega,d++[x],r,out++[⟨x.title,cntT d x.title,(s.take (nxF s r)).drop x.fr⟩],s3.nx+88,by simp,rfl,by rw [← ho]; simp,by simp,by simp,?_,by omega⟩
    rw [aAe,List.map_append,List.take_of_length_le (by rw [hlo]; exact Nat.le_refl _)]
    rfl
theorem t273 (hf:bEx P F T) (us:List Un) (hu:us.length≤2^32):PTr P (F 273) [.lst 3 (us.map Un.v),.lst 3 (us.map Un.v)] (.bool true):=by
 have hln:=aGb us
 refine ptrC [] hf (by simp [aCn]) rfl ?_
 simp only [c273,push_cast,seval,-Nat.reducePow,hln]
 refine aAg (fun m s=>∃ i,i≤us.length∧m=us.length-i∧s.env 0=.lst 3 (us.map Un.v)∧s.env 1=.lst 3 (us.map Un.v)∧s.env 5=.int .i64 i) us.length ⟨0,?_⟩ fun m s hJ=>?_
 ·simp only [push_cast,seval,-Nat.reducePow]
  omega
 ·obtain ⟨i,hi,rfl,j0,j1,j5⟩:=hJ
  by_cases h:i<us.length
  ·have h':((i:Nat):Int)<(us.length:Nat):=by omega
   have hg:(us.map Un.v).getD i .junk=.agg [.str (us.getD i ⟨[],0,[]⟩).title,.int .i64 (us.getD i ⟨[],0,[]⟩).nth,.str (us.getD i ⟨[],0,[]⟩).text]:=by simp [List.getD,h,Un.v]
   simp only [push_cast,seval,-Nat.reducePow,j0,j1,j5,h',hln,hg]
   exact ⟨h,h,by omega,us.length-(i+1),by omega,i+1,by omega,rfl,by simp⟩
  ·have h':¬ ((i:Nat):Int)<(us.length:Nat):=by omega
   simp only [push_cast,seval,-Nat.reducePow,j0,j1,j5,h',hln,view]
theorem aXd (J:bF8 P F) (s:List UInt8) (hs:s.length≤8192):PTr P (F 255) [.lst 3 ((aAh s).map Un.v)] (.str s):=by
 have hul:=aC3 s
 have hsum:=aH4 s
 have jn:=J ((aAh s).map Un.u3) (by rw [List.length_map]; omega) (fun v hv=>by
  obtain ⟨w,hw,rfl⟩:=List.mem_map.1 hv
  have:=aN3 hw
  show w.text.length≤_
  omega) (by
  rw [List.map_map]
  show sumT (aAh s)≤_
  omega)
 rw [← un_v,List.map_map,show ((aAh s).map ((fun u:U3=>u.2.2) ∘ Un.u3))=(aAh s).map Un.text from rfl,← aNm,aMv] at jn
 exact jn
theorem bDx {f:Nat} {args:List V} {r:V} {sz:Nat} {es:List V} (i:Nat) (hi:args[i]?=some (.lst sz es)) (h:es.length<2^63→PTr P f args r):PTr P f args r:=by
 intro D w vs hD hg hn hr
 have h0:=hr i _ hi
 have hl:es.length<2^63:=by
  revert h0
  generalize vs.getD i undef=v
  intro h0
  cases h0
  omega
 exact h hl D w vs hD hg hn hr
theorem law271 (hf:bI1 P F T) (K:MrgFns P F T) (h159:aPl P (F 159)) (h272:bGq P F T) (h273:bEx P F T) (C:TC2 P F T) (h39:Is39 P F T) (kn:PTr P (F 254) [] (.bool true))
 (s:List UInt8) (es:List V) (hi:V.imms es=true) (hes:∀ e,e∈es→∃ m,e=.int .i64 m):PTr P (F 271) [.str s,.lst 1 es] (.bool true):=by
 refine bDx 1 rfl fun hl=>?_
 refine ptrC [] hf (by simp [hi]) rfl ?_
 by_cases h:500<s.length
 ·have h':(500:Int)<(s.length:Nat):=by omega
  simp only [c271,push_cast,seval,-Nat.reducePow,h']
  refine aAb kn (by simp only [push_cast,seval,-Nat.reducePow]) (by simp only [push_cast,seval,-Nat.reducePow]) ?_
  simp only [push_cast,seval,-Nat.reducePow,view]
 ·have h':¬ (500:Int)<(s.length:Nat):=by omega
  simp only [c271,push_cast,seval,-Nat.reducePow,h']
  refine aAa (n39 h39 es hi hes hl) ?_
  rintro v L0 n0 ⟨p,rfl,hp,hn,hT⟩
  refine aAa (n40 C 2 (by omega) hT (by omega)) ?_
  rintro v L1 n1 ⟨t,rfl,hq,hT1⟩
  have hq2:t.length≤8192:=Nat.le_trans hq (by decide)
  simp only [push_cast,seval,-Nat.reducePow]
  refine aAb (t258 K.h258 K.sect K.h131 s (by omega)) (by simp only [push_cast,seval,-Nat.reducePow]) (by simp only [push_cast,seval,-Nat.reducePow,aCn]) ?_
  simp only [push_cast,seval,-Nat.reducePow]
  refine aAb (t272 h272 h159 s (by omega)) (by simp only [push_cast,seval,-Nat.reducePow]) (by simp only [push_cast,seval,-Nat.reducePow,aCn]) ?_
  simp only [push_cast,seval,-Nat.reducePow]
  refine aAb (t258 K.h258 K.sect K.h131 t hq2) (by simp only [push_cast,seval,-Nat.reducePow]) (by simp only [push_cast,seval,-Nat.reducePow,aCn]) ?_
  simp only [push_cast,seval,-Nat.reducePow]
  refine aAb (t272 h272 h159 t hq2) (by simp only [push_cast,seval,-Nat.reducePow]) (by simp only [push_cast,seval,-Nat.reducePow,aCn]) ?_
  have u1:=aC3 s
  have u2:=aC3 t
  simp only [push_cast,seval,-Nat.reducePow]
  refine aAb (t273 h273 (aAh s) (by omega)) (by simp only [push_cast,seval,-Nat.reducePow,aCn]) (by simp only [push_cast,seval,-Nat.reducePow]) ?_
  simp only [push_cast,seval,-Nat.reducePow]
  refine aAb (t273 h273 (aAh t) (by omega)) (by simp only [push_cast,seval,-Nat.reducePow,aCn]) (by simp only [push_cast,seval,-Nat.reducePow]) ?_
  simp only [push_cast,seval,-Nat.reducePow]
  refine aAb (aXd K.jn s (by omega)) (by simp only [push_cast,seval,-Nat.reducePow,aCn]) (by simp only [push_cast,seval,-Nat.reducePow]) ?_
  simp only [push_cast,seval,-Nat.reducePow]
  refine aAb (aXd K.jn t hq2) (by simp only [push_cast,seval,-Nat.reducePow,aCn]) (by simp only [push_cast,seval,-Nat.reducePow]) ?_
  simp only [push_cast,seval,-Nat.reducePow]
  refine aAb kn (by simp only [push_cast,seval,-Nat.reducePow]) (by simp only [push_cast,seval,-Nat.reducePow]) ?_
  simp only [push_cast,seval,-Nat.reducePow,view]
end Go.Ab
