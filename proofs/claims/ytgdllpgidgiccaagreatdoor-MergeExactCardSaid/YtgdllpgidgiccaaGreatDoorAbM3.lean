/- Several texts of one kind, merged. No condition. -/
import Derived.Test.YtgdllpgidgiccaaGreatDoorAbM2
import Derived.Test.YtgdllpgidgiccaaGreatDoorAbM1
set_option linter.unusedSimpArgs false
set_option linter.unusedVariables false
namespace Go.Ab
variable {P:Program} {F T:Nat→Nat}
open Go.Lib
theorem aDa {L:Heap} {n i ty z sz:Nat} {es:List V} (h:L i=some (.vec ty z es)) (hi:V.imms es=true):view L (n+1) (.own i sz 0 es.length)=.lst sz es:=by
 simp only [view,h,Nat.zero_add,Nat.le_refl,if_true,List.drop_zero,List.take_length]
 rw [show es.map (view L n)=es.map id from List.map_congr_left fun x hx=>aE1 n x (aB3 hi hx),List.map_id]
theorem aT6 (d:List Sec) (x y:Sec) (r:List Sec):(secV (d++x::y::r)).getD (d.length+1) .junk=y.v:=by
 simp [secV,List.getD]
abbrev intN (n:Nat):V:=.int .i64 n
theorem t258 (hf:bGq P F T) (h124:aNw P (F 124)) (h131:bDa P F T) (s:List UInt8) (hs:s.length≤8192):PTr P (F 258) [.str s] (.tup [.lst 3 ((aAf s).map Un.v),.int .i64 0]):=by
 have h1:=h124 s hs
 have h2:=t131 h131 h124 s hs
 have hok:=aJ4 s
 have hpr:=aLw s
 have hcnt:=aO5 s
 have hun:aAf s=⟨[],0,aHz s⟩::uGo s [] (aEh s):=rfl
 have himm:∀ l:List Un,V.imms (l.map Un.v)=true:=fun l=>aHg _ _ fun u=>rfl
 refine ptrC [] hf (by simp) (by simp [V.imm,V.imms,himm]) ?_
 simp only [c258,push_cast,seval,-Nat.reducePow]
 refine aAb h1 (by simp only [push_cast,seval,-Nat.reducePow]) (by simp only [push_cast,seval,-Nat.reducePow,aEe]) ?_
 simp only [push_cast,seval,-Nat.reducePow]
 refine aAb h2 (by simp only [push_cast,seval,-Nat.reducePow]) (by simp only [push_cast,seval,-Nat.reducePow]) ?_
 obtain ⟨l,hl⟩:∃ l,l=aEh s:=⟨_,rfl⟩
 rw [← hl] at hok hpr hcnt hun ⊢
 have hlen:=aCx l
 simp only [push_cast,seval,-Nat.reducePow,hlen]
 refine aAe (fun m s1=>∃ d r out id mid c ml,l=d++r∧m=r.length∧out++uGo s d r=aAf s∧(∀ t,((getK ml t).getD 0)=cntT d t)∧s1.env 0=.str s∧s1.env 4=.lst 5 (secV l)∧s1.env 30=.lst 5 (secV l)∧s1.env 31=.int .i64 l.length∧s1.env 32=.int .i64 d.length∧s1.env 8=.own id 3 0 out.length∧s1.L id=some (.vec (T 28) 3 (out.map Un.v))∧s1.env 9=.map mid∧s1.L mid=some (.map c (mE V.str intN ml))∧id<s1.nx∧mid<s1.nx∧id≠mid) l.length ⟨[],l,[⟨[],0,aHz s⟩],316,389,0,[],?_⟩ fun m s1 hJ=>?_
 ·simp only [push_cast,seval,-Nat.reducePow]
  exact ⟨hun.symm,fun t=>rfl,rfl,rfl⟩
 ·obtain ⟨d,r,out,id,mid,c,ml,rfl,rfl,ho,hm,j0,j4,j30,j31,j32,j8,jL,j9,jM,hid,hmid,hne⟩:=hJ
  cases r with
  | nil =>
    have h':¬ ((d.length:Nat):Int)<((d++[]).length:Nat):=by simp
    simp only [push_cast,seval,-Nat.reducePow,j0,j4,j30,j31,j32,j8,j9,h']
    rw [uGo,List.append_nil] at ho
    subst ho
    have hv:view s1.L 2 (.own id 3 0 (aAf s).length)=.lst 3 ((aAf s).map Un.v):=by
     have:=aDa (n:=1) (sz:=3) jL (himm _)
     rwa [List.length_map] at this
    simp only [view] at hv ⊢
    simp only [List.map_cons,List.map_nil,hv,view]
  | cons x r =>
    have h':((d.length:Nat):Int)<((d++x::r).length:Nat):=by simp; omega
    have hx:=hok x (by simp)
    have x1:=hx.bd
    have x2:=hx.le
    have x3:=hx.to
    have e1:(((d.length:Nat):Int)+1).toNat=d.length+1:=by omega
    rw [uGo] at ho
    have hfind:=aKu (ks:=[1]) (ag:=false) (enc:=V.str) (ev:=intN) aH5 (fun _=>rfl) x.title ml
    have hres:=bAr (enc:=V.str) (ev:=intN) (.int .i64 0) ml x.title
    have hcx:=hm x.title
    have hres2:mres false (.int .i64 0) (mE V.str intN ml) (ixK ml x.title)=.int .i64 (cntT d x.title:Nat):=by
     rw [hres,← hcx]
     cases getK ml x.title <;> rfl
    have hcl:cntT d x.title≤d.length:=by unfold cntT; exact List.length_filter_le _ _
    obtain ⟨c',ml',hput,hget⟩:=bBl (enc:=V.str) (ev:=intN) c ml x.title (cntT d x.title+1)
    have hput2:aH3 c (mE V.str intN ml) (.str x.title) (.int .i64 (((cntT d x.title:Nat):Int)+1)) (ixK ml x.title)=.map c' (mE V.str intN ml'):=hput
    have hm':∀ t,((getK ml' t).getD 0)=cntT (d++[x]) t:=fun t=>by
     rw [hget,aI5]
     by_cases ht:t=x.title
     ·subst ht; simp
     ·rw [if_neg ht,if_neg fun e=>ht e.symm,hm t]; rfl
    have hul:=aBr s
    have hol2:out.length≤8193:=by have:=congrArg List.length ho; rw [List.length_append] at this; omega
    have hdl:(d++x::r).length=d.length+(r.length+1):=by simp
    obtain ⟨⟨a1,a2,a3,a4⟩,a5,a6,a7,a8⟩:((s1.nx+83≠mid)∧(mid≠s1.nx+83)∧(s1.nx+83≠id)∧(id≠s1.nx+83))∧(s1.nx+136≠mid)∧(mid≠s1.nx+136)∧(s1.nx+136≠id)∧(id≠s1.nx+136):=by omega
    have hne2:mid≠id:=fun e=>hne e.symm
    have hol:(out.map Un.v).length=out.length:=List.length_map ..
    have hnot:∀ k:Nat,s1.nx+k≠mid∧mid≠s1.nx+k∧s1.nx+k≠id∧id≠s1.nx+k:=fun k=>by omega
    simp only [push_cast,seval,-Nat.reducePow,j0,j4,j30,j31,j32,j8,j9,h',hlen,aH9,Sec.v]
    refine ⟨by omega,?_⟩
    cases r with
    | nil =>
      have q:¬ ((d.length:Nat):Int)+1<((d++[x]).length:Nat):=by simp
      simp only [push_cast,seval,-Nat.reducePow,j0,j4,j30,j31,j32,j8,j9,q]
      refine aDf (cl:=c) (by simp only [upd,(hnot 83).2.1,if_false,jM]) (by simp [aFs,aH5,V.isA,V.imm]) hfind (by rw [hres2]; rfl) ?_
      simp only [push_cast,seval,-Nat.reducePow,j0,j8,j9,hres2,a1,a2,a3,a4,jL,hol]
      refine ⟨by omega,by omega,?_⟩
      refine aDf (cl:=c) (by simp only [upd,a2,hne2,(hnot 352).2.1,if_false,jM]) (by simp [aFs,aH5,V.isA,V.imm]) hfind (by rw [hres2]; rfl) ?_
      simp only [push_cast,seval,-Nat.reducePow,j0,j8,j9,hres2,a1,a2,a3,a4,jL,hol]
      refine ⟨by omega,?_⟩
      refine aHx (cl:=c) (by simp only [upd,a2,hne2,(hnot 352).2.1,if_false,jM]) (by simp [aFs,aH5,V.isA,V.imm]) rfl hfind ?_
      simp only [push_cast,seval,-Nat.reducePow,j0,j4,j30,j31,j32,j8,j9,hput2]
      refine ⟨by omega,([]:List Sec).length,by simp,d++[x],([]:List Sec),out++[⟨x.title,cntT d x.title,(s.take s.length).drop x.fr⟩],s1.nx+352,mid,c',ml',by simp,by simp,by rw [← ho]; simp [nxF],hm',by simp,by simp,?_,?_,?_⟩
      ·rw [aAc _ _ _ _ (hnot 352).1,aAd,List.map_append,List.take_of_length_le (by rw [hol]; exact Nat.le_refl _)]; rfl
      ·rfl
      ·exact ⟨aAd _ _ _,by omega,by omega,by omega⟩
    | cons y r2 =>
      have q:((d.length:Nat):Int)+1<((d++x::y::r2).length:Nat):=by simp; omega
      simp only [push_cast,seval,-Nat.reducePow,j0,j4,j30,j31,j32,j8,j9,q,e1,aT6,Sec.v,hlen]
      refine ⟨by omega,by omega,by omega,?_⟩
      refine aDf (cl:=c) (by simp only [upd,(hnot 83).2.1,if_false,jM]) (by simp [aFs,aH5,V.isA,V.imm]) hfind (by rw [hres2]; rfl) ?_
      simp only [push_cast,seval,-Nat.reducePow,j0,j8,j9,hres2,a1,a2,a3,a4,jL,hol]
      refine ⟨by have:=(List.pairwise_cons.1 (List.pairwise_append.1 hpr).2.1).1 y (by simp); omega,by have:=(hok y (by simp)).bd; have:=(hok y (by simp)).le; have:=(hok y (by simp)).to; omega,by omega,?_⟩
      refine aDf (cl:=c) (by simp only [upd,a2,hne2,(hnot 424).2.1,if_false,jM]) (by simp [aFs,aH5,V.isA,V.imm]) hfind (by rw [hres2]; rfl) ?_
      simp only [push_cast,seval,-Nat.reducePow,j0,j8,j9,hres2,a1,a2,a3,a4,jL,hol]
      refine ⟨by omega,?_⟩
      refine aHx (cl:=c) (by simp only [upd,a2,hne2,(hnot 424).2.1,if_false,jM]) (by simp [aFs,aH5,V.isA,V.imm]) rfl hfind ?_
      simp only [push_cast,seval,-Nat.reducePow,j0,j4,j30,j31,j32,j8,j9,hput2]
      refine ⟨by omega,(y::r2).length,by simp,d++[x],(y::r2),out++[⟨x.title,cntT d x.title,(s.take y.fr).drop x.fr⟩],s1.nx+424,mid,c',ml',by simp,by simp,by rw [← ho]; simp [nxF],hm',by simp,by simp,?_,?_,?_⟩
      ·rw [aAc _ _ _ _ (hnot 424).1,aAd,List.map_append,List.take_of_length_le (by rw [hol]; exact Nat.le_refl _)]; rfl
      ·rfl
      ·exact ⟨aAd _ _ _,by omega,by omega,by omega⟩
def tvS (s:List UInt8):V:=.agg [.bool true,.str s]
def aIg (l:List Un) (k:List UInt8×Int):Option (List UInt8):=(l.reverse.find? fun u=>decide (k=(u.title,(u.nth:Int)))).map Un.text
theorem aW1 (d:List Un) (u:Un) (k:List UInt8×Int):aIg (d++[u]) k=if k=(u.title,(u.nth:Int)) then some u.text else aIg d k:=by
 unfold aIg
 rw [List.reverse_append,List.reverse_singleton,List.singleton_append,List.find?_cons]
 by_cases h:k=(u.title,(u.nth:Int)) <;> simp [h]
theorem t259 (hf:bIe P F T) (h261:aSs P F T) (us:List Un) (hu:us.length≤2^30) (L:Heap) (nx:Nat) :
 ECall P (F 259) [.lst 3 (us.map Un.v)] L nx fun v L' nx'=>∃ c ml,nx≤nx'∧v=.map (nx+27)∧nx+27<nx'∧L' (nx+27)=some (.map c (mE pnV tvS ml))∧(∀ k,getK ml k=aIg us k)∧∀ x,x<nx→L' x=L x:=by
 have hln:(us.map Un.v).length=us.length:=List.length_map ..
 refine aA2 [] hf (by simp) ?_
 simp only [c259,push_cast,seval,-Nat.reducePow,hln]
 refine aAe (fun m s1=>∃ d r c ml,us=d++r∧m=r.length∧(∀ k,getK ml k=aIg d k)∧s1.env 7=.lst 3 (us.map Un.v)∧s1.env 8=.int .i64 us.length∧s1.env 9=.int .i64 d.length∧s1.env 3=.map (nx+27)∧s1.L (nx+27)=some (.map c (mE pnV tvS ml))∧nx+27<s1.nx∧∀ x,x<nx→s1.L x=L x) us.length ⟨[],us,0,[],?_⟩ fun m s1 hJ=>?_
 ·simp only [push_cast,seval,-Nat.reducePow]
  exact ⟨fun k=>rfl,rfl,by omega,fun x hx=>aAc _ _ _ _ (by omega)⟩
 ·obtain ⟨d,r,c,ml,rfl,rfl,hm,j7,j8,j9,j3,jL,hnx,hold⟩:=hJ
  cases r with
  | nil =>
    have h':¬ ((d.length:Nat):Int)<((d++[]).length:Nat):=by simp
    simp only [push_cast,seval,-Nat.reducePow,j7,j8,j9,j3,h']
    exact ⟨by omega,c,ml,by omega,by omega,jL,by simpa using hm,hold⟩
  | cons u r =>
    have h':((d.length:Nat):Int)<((d++u::r).length:Nat):=by simp; omega
    have hg:((d++u::r).map Un.v).getD d.length .junk=.agg [.str u.title,.int .i64 u.nth,.str u.text]:=by simp [List.getD,Un.v]
    have hdl:(d++u::r).length=d.length+(r.length+1):=by simp
    simp only [push_cast,seval,-Nat.reducePow,j7,j8,j9,j3,h',hln,hg]
    refine aAb (t261 h261 u.title u.nth u.text) (by simp only [push_cast,seval,-Nat.reducePow]) (by simp only [push_cast,seval,-Nat.reducePow]) ?_
    simp only [push_cast,seval,-Nat.reducePow,j3]
    obtain ⟨c',ml',hput,hget⟩:=bBl (enc:=pnV) (ev:=tvS) c ml (u.title,(u.nth:Int)) u.text
    have hfind:=aKu (ks:=[1,0]) (ag:=true) (enc:=pnV) (ev:=tvS) bF8 (fun _=>rfl) (u.title,(u.nth:Int)) ml
    have hput2:aH3 c (mE pnV tvS ml) (.agg [.str u.title,.int .i64 u.nth]) (.agg [.bool true,.str u.text]) (ixK ml (u.title,(u.nth:Int)))=.map c' (mE pnV tvS ml'):=hput
    have n1:nx+27≠s1.nx+26:=by omega
    refine aHx (cl:=c) (by simp only [upd,n1,if_false,jL]) (by simp [aFs,V.isA,V.cells,aAp,aCu,V.imm,V.imms]) rfl hfind ?_
    simp only [push_cast,seval,-Nat.reducePow,j7,j8,j9,j3,hput2]
    refine ⟨by omega,r.length,by omega,d++[u],r,c',ml',by simp,rfl,fun k=>?_,by simp,rfl,by omega,fun x hx=>?_⟩
    ·rw [hget,aW1,hm]
    ·rw [aAc _ _ _ _ (by omega),aAc _ _ _ _ (by omega),aAc _ _ _ _ (by omega)]; exact hold x hx
end Go.Ab
namespace Go.Ab
variable {P:Program} {F T:Nat→Nat}
open Go.Lib
theorem aBt (l:List Un):V.imms (l.map Un.v)=true:=aHg _ _ fun u=>rfl
theorem aC3 (l:List Un):(l.map Un.v).length=l.length:=List.length_map ..
theorem t263 (hf:bIz P F T) (us:List Un) (h0:0<us.length) (hu:us.length≤2^32) (L:Heap) (nx:Nat) :
 ECall P (F 263) [.lst 3 (us.map Un.v)] L nx fun v L' nx'=>∃ id,v=.own id 3 0 us.length∧L' id=some (.vec (T 28) 3 (us.map Un.v))∧nx≤id∧id<nx'∧∀ x,x<nx→L' x=L x:=by
 have hln:=aC3 us
 refine aA2 [] hf (by simp) ?_
 simp only [c263,push_cast,seval,-Nat.reducePow,hln]
 exact ⟨h0,hu,by omega,nx+23,rfl,aAd _ _ _,by omega,by omega,fun x hx=>by rw [aAc _ _ _ _ (by omega),aAc _ _ _ _ (by omega),aAc _ _ _ _ (by omega)]⟩
theorem t266 (hf:aYm P F T) (h261:aSs P F T) (u:Un) (t:List UInt8) (n:Int) (L:Heap) (nx b:Nat) (hL:L b=some (.box (T 30) [.str t,.int .i64 n])) (hb:b<nx) :
 ECall P (F 266) [u.v,.ptr b 0] L nx fun v L' nx'=>v=.bool (decide (u.title=t)&&decide ((u.nth:Int)=n))∧nx≤nx'∧∀ x,x<nx→L' x=L x:=by
 have n1:b≠nx+2:=by omega
 refine aA2 [] hf (by simp) ?_
 simp only [c266,push_cast,seval,-Nat.reducePow,Un.v,hL]
 refine aAb (t261 h261 u.title u.nth u.text) (by simp only [push_cast,seval,-Nat.reducePow]) (by simp only [push_cast,seval,-Nat.reducePow]) ?_
 simp only [push_cast,seval,-Nat.reducePow,hL,n1]
 exact ⟨by omega,by omega,fun x hx=>aAc _ _ _ _ (by omega)⟩
def ixG (t:List UInt8) (n:Int) (i:Nat):List Un→Int
 | []=>-1
 | u::r=>if (decide (u.title=t)&&decide ((u.nth:Int)=n))=true then i else ixG t n (i+1) r
theorem t267 (hf:bD1 P F T) (h266:aYm P F T) (h261:aSs P F T) (hb266:aDx P (F 266)=true) (us:List Un) (hu:us.length≤2^32) (t:List UInt8) (n:Int) (L:Heap) (nx b:Nat) (hL:L b=some (.box (T 30) [.str t,.int .i64 n])) (hb:b<nx) :
 ECall P (F 267) [.lst 3 (us.map Un.v),.fn (F 266) [.ptr b 0]] L nx fun v L' nx'=>v=.int .i64 (ixG t n 0 us)∧nx≤nx'∧∀ x,x<nx→L' x=L x:=by
 have hln:=aC3 us
 refine aA2 [] hf (by simp) ?_
 simp only [c267,push_cast,seval,-Nat.reducePow,hln]
 refine aAe (fun m s1=>∃ d r,us=d++r∧m=r.length∧ixG t n d.length r=ixG t n 0 us∧s1.env 0=.lst 3 (us.map Un.v)∧s1.env 1=.fn (F 266) [.ptr b 0]∧s1.env 7=.int .i64 us.length∧s1.env 8=.int .i64 d.length∧nx≤s1.nx∧∀ x,x<nx→s1.L x=L x) us.length ⟨[],us,?_⟩ fun m s1 hJ=>?_
 ·simp only [push_cast,seval,-Nat.reducePow]
  exact ⟨by omega,fun _ _=>trivial⟩
 ·obtain ⟨d,r,rfl,rfl,hi,j0,j1,j7,j8,hnx,hold⟩:=hJ
  cases r with
  | nil =>
    have h':¬ ((d.length:Nat):Int)<((d++[]).length:Nat):=by simp
    rw [ixG] at hi
    simp only [push_cast,seval,-Nat.reducePow,j0,j1,j7,j8,h']
    exact ⟨by omega,by rw [hi,List.append_nil],by omega,hold⟩
  | cons u r =>
    have h':((d.length:Nat):Int)<((d++u::r).length:Nat):=by simp; omega
    have hg:((d++u::r).map Un.v).getD d.length .junk=u.v:=by simp [List.getD]
    have hdl:(d++u::r).length=d.length+(r.length+1):=by simp
    rw [ixG] at hi
    simp only [push_cast,seval,-Nat.reducePow,j0,j1,j7,j8,h',hln,hg,Un.v]
    refine ⟨hb266,aAa (t266 h266 h261 u t n s1.L _ b (by rw [hold b hb]; exact hL) (by omega)) ?_⟩
    rintro v L1 n1 ⟨rfl,k1,k2⟩
    cases e:(decide (u.title=t)&&decide ((u.nth:Int)=n)) with
    | true =>
      rw [if_pos e] at hi
      simp only [push_cast,seval,-Nat.reducePow,j0,j1,j7,j8]
      exact ⟨by omega,by rw [hi],by omega,fun x hx=>by rw [k2 x (by omega)]; exact hold x hx⟩
    | false =>
      rw [if_neg (by rw [e]; decide)] at hi
      simp only [push_cast,seval,-Nat.reducePow,j0,j1,j7,j8]
      exact ⟨by omega,r.length,by omega,d++[u],r,by simp,rfl,by rw [← hi]; simp,by simp,by omega,fun x hx=>by rw [k2 x (by omega)]; exact hold x hx⟩
theorem t264 (hf:bG2 P F T) (h267:bD1 P F T) (h266:aYm P F T) (h261:aSs P F T) (hb266:aDx P (F 266)=true) (us:List Un) (hu:us.length≤2^32) (t:List UInt8) (n:Int) :
 PTr P (F 264) [.agg [.str t,.int .i64 n],.cptr [.lst 3 (us.map Un.v)]] (.int .i64 (ixG t n 0 us)):=by
 have him:=aBt us
 refine ptrC [] hf (by simp [him]) rfl ?_
 simp only [c264,push_cast,seval,-Nat.reducePow]
 refine aAa (t267 h267 h266 h261 hb266 us hu t n _ _ 2 (by simp only [push_cast,seval,-Nat.reducePow]) (by omega)) ?_
 rintro v L1 n1 ⟨rfl,k1,k2⟩
 simp only [push_cast,seval,-Nat.reducePow,view]
theorem aMy (k:List UInt8×Nat):∀ (l:List Un) (i:Nat),ixG k.1 k.2 i l=if hasU l k=true then ((i+atU l k:Nat):Int) else -1
 | [],i=>by simp [ixG,hasU]
 | u::r,i=>by
   rw [ixG,aMy k r (i+1)]
   have h1:hasU (u::r) k=(decide (u.nm=k)||hasU r k):=by unfold hasU; rw [List.any_cons]
   have h2:atU (u::r) k=if u.nm=k then 0 else atU r k+1:=by
    unfold atU
    rw [List.findIdx_cons]
    by_cases h:u.nm=k <;> simp [h]
   have h3:(decide (u.title=k.1)&&decide ((u.nth:Int)=k.2))=decide (u.nm=k):=by
    obtain ⟨a,b⟩:=k
    simp only [Un.nm,Prod.mk.injEq]
    by_cases ha:u.title=a <;> by_cases hb:u.nth=b <;> simp [ha,hb]
    omega
   rw [h1,h2,h3]
   by_cases h:u.nm=k
   ·simp [h]
   ·simp only [h,decide_false,Bool.false_or,if_false,Bool.false_eq_true]
    by_cases hh:hasU r k=true
    ·simp only [hh,if_true]; omega
    ·simp [hh]
def InsC (P:Program) (F T:Nat→Nat):Prop:=∀ (us:List Un) (i:Nat) (u:Un) (id nx:Nat) (L:Heap),L id=some (.vec (T 28) 3 (us.map Un.v))→0<us.length→i≤us.length→us.length≤2^31→id<nx →
 ECall P (F 265) [.own id 3 0 us.length,.int .i64 i,.lst 3 [u.v]] L nx fun v L' nx'=>∃ id',v=.own id' 3 0 (us.length+1)∧L' id'=some (.vec (T 28) 3 ((insU us i u).map Un.v))∧(id'=id∨nx≤id')∧id'<nx'∧nx≤nx'∧∀ x,x<nx→x≠id→L' x=L x
structure OrdFns (P:Program) (F T:Nat→Nat):Prop where
 h260:bKl P F T
 h261:aSs P F T
 h263:bIz P F T
 h264:bG2 P F T
 h266:aYm P F T
 h267:bD1 P F T
 b264:aDx P (F 264)=true
 b266:aDx P (F 266)=true
theorem t260 (K:OrdFns P F T) (o t:List Un) (hI:InsC P F T∨∀ u,u∈t→hasU o u.nm=true) (h0:0<o.length) (ho:o.length≤2^30) (htl:t.length≤2^30) (hfst:∀ u r,t=u::r→hasU o u.nm=true) :
 PTr P (F 260) [.lst 3 (o.map Un.v),.lst 3 (t.map Un.v)] (.lst 3 ((aCf o t).map Un.v)):=by
 have hln:=aC3 o
 have hlt:=aC3 t
 refine ptrC [] K.h260 (by simp [aBt]) (by simp [V.imm,aBt]) ?_
 simp only [c260,push_cast,seval,-Nat.reducePow,hln,hlt]
 refine aAa (t263 K.h263 o h0 (by omega) _ _) ?_
 rintro v L1 n1 ⟨id,rfl,k1,k2,k3,k4⟩
 simp only [push_cast,seval,-Nat.reducePow,hlt]
 have hne0:id≠n1+5:=by omega
 obtain ⟨p,hp⟩:∃ p,p=n1+5:=⟨_,rfl⟩
 rw [← hp] at hne0 ⊢
 refine aAe (fun m s=>∃ d r out id prev,t=d++r∧m=r.length∧ordG out prev r=aCf o t∧0<out.length∧out.length≤o.length+d.length∧(d=[]∨(hasU out prev=true∧∃ d' u,d=d'++[u]∧u.nm=prev))∧(∀ n,hasU o n=true→hasU out n=true) ∧
  s.env 1=.lst 3 (t.map Un.v)∧s.env 12=.lst 3 (t.map Un.v)∧s.env 13=.int .i64 t.length∧s.env 14=.int .i64 d.length∧s.env 5=.ptr p 0∧s.env 6=.fn (F 264) [.ptr p 0]∧s.L p=some (.box (T 32) [.own id 3 0 out.length])∧s.L id=some (.vec (T 28) 3 (out.map Un.v))∧id<s.nx∧p<s.nx∧id≠p) t.length ⟨[],t,o,id,([],0),?_⟩ fun m s hJ=>?_
 ·simp only [push_cast,seval,-Nat.reducePow,hne0,k2]
  exact ⟨rfl,h0,fun _ h=>h,k1,by omega,by omega⟩
 ·obtain ⟨d,r,out,id,prev,rfl,rfl,ho2,hpos,hol,hprev,hsub,j1,j12,j13,j14,j5,j6,jp,jL,hid,hpn,hne⟩:=hJ
  have hlo:=aC3 out
  have him:=aBt out
  cases r with
  | nil =>
    have h':¬ ((d.length:Nat):Int)<((d++[]).length:Nat):=by simp
    rw [ordG] at ho2
    simp only [push_cast,seval,-Nat.reducePow,j1,j12,j13,j14,j5,j6,jp,h']
    rw [List.append_nil] at ho2
    rw [← ho2]
    have:=aDa (n:=2) (sz:=3) jL him
    rw [hlo] at this
    exact this
  | cons u r =>
    have h':((d.length:Nat):Int)<((d++u::r).length:Nat):=by simp; omega
    have hg:((d++u::r).map Un.v).getD d.length .junk=.agg [.str u.title,.int .i64 u.nth,.str u.text]:=by simp [List.getD,Un.v]
    have hdl:(d++u::r).length=d.length+(r.length+1):=by simp
    rw [ordG] at ho2
    simp only [push_cast,seval,-Nat.reducePow,j1,j12,j13,j14,j5,j6,h',hlt,hg]
    refine aAb (t261 K.h261 u.title u.nth u.text) (by simp only [push_cast,seval,-Nat.reducePow]) (by simp only [push_cast,seval,-Nat.reducePow]) ?_
    simp only [push_cast,seval,-Nat.reducePow,j6]
    have n1':p≠s.nx+47:=by omega
    have n2':id≠s.nx+47:=by omega
    have c1:=t264 K.h264 K.h267 K.h266 K.h261 K.b266 out (by omega) u.title (u.nth:Int)
    have hv:∀ L:Heap,L p=some (.box (T 32) [.own id 3 0 out.length])→L id=some (.vec (T 28) 3 (out.map Un.v))→view L 4 (.fn (F 264) [.ptr p 0])=.fn (F 264) [.cptr [.lst 3 (out.map Un.v)]]:=fun L e1 e2=>by
     have:=aDa (n:=1) (sz:=3) e2 him
     rw [hlo] at this
     simp only [view,List.map_cons,List.map_nil,e1,List.drop_zero] at this ⊢
     rw [this]
    rw [aMy (u.nm) out 0] at c1
    refine aKo (hv _ ?_ ?_) K.b264 c1 ?_ rfl ?_
    ·rw [aAc _ _ _ _ n1',aAc _ _ _ _ n1']; exact jp
    ·rw [aAc _ _ _ _ n2',aAc _ _ _ _ n2']; exact jL
    ·simp [view,V.imms,V.imm,him]
    cases hh:hasU out u.nm with
    | true =>
      rw [if_pos hh] at ho2
      have q:¬ ((atU out u.nm:Nat):Int)<0:=by omega
      simp only [push_cast,seval,-Nat.reducePow,q,j1,j12,j13,j14,j5,j6]
      exact ⟨by omega,r.length,by omega,d++[u],r,out,id,u.nm,by simp,rfl,ho2,hpos,by simp; omega,.inr ⟨hh,d,u,rfl,rfl⟩,hsub,by simp,by rw [aAc _ _ _ _ n1',aAc _ _ _ _ n1']; exact jp,by rw [aAc _ _ _ _ n2',aAc _ _ _ _ n2']; exact jL,by omega,by omega,hne⟩
    | false =>
      rw [if_neg (by rw [hh]; decide)] at ho2
      have hIns:InsC P F T:=by
       rcases hI with hI | hI
       ·exact hI
       ·have:=hsub _ (hI u (by simp))
        rw [hh] at this
        cases this
      rcases hprev with rfl | ⟨hp1,d',u0,rfl,hp2⟩
      ·have:=hsub _ (hfst u r rfl)
       rw [hh] at this
       cases this
      have e1:(((d'++[u0]).length:Nat):Int)-1=((d'.length:Nat):Int):=by simp
      have hg2:((d'++[u0]++u::r).map Un.v).getD d'.length .junk=.agg [.str u0.title,.int .i64 u0.nth,.str u0.text]:=by simp [List.getD,Un.v]
      have c2:=t264 K.h264 K.h267 K.h266 K.h261 K.b266 out (by omega) u0.title (u0.nth:Int)
      rw [aMy (u0.nm) out 0,hp2,if_pos hp1,Nat.zero_add] at c2
      have hat:atU out prev<out.length:=by
       unfold atU
       rw [List.findIdx_lt_length]
       unfold hasU at hp1
       rw [List.any_eq_true] at hp1
       exact hp1
      simp only [push_cast,seval,-Nat.reducePow,j1,j12,j13,j14,j5,j6,jp,n1',e1,hg2,hlt]
      refine ⟨by omega,by omega,?_⟩
      refine aAb (t261 K.h261 u0.title u0.nth u0.text) (by simp only [push_cast,seval,-Nat.reducePow]) (by simp only [push_cast,seval,-Nat.reducePow]) ?_
      refine aKo (hv _ ?_ ?_) K.b264 c2 ?_ rfl ?_
      ·rw [aAc _ _ _ _ n1',aAc _ _ _ _ n1']; exact jp
      ·rw [aAc _ _ _ _ n2',aAc _ _ _ _ n2']; exact jL
      ·simp [view,V.imms,V.imm,him]
      simp only [push_cast,seval,-Nat.reducePow,j1,j12,j13,j14,j5,j6]
      refine ⟨by omega,aAa (hIns out (atU out prev+1) u id _ _ (by rw [aAc _ _ _ _ n2',aAc _ _ _ _ n2']; exact jL) hpos (by omega) (by omega) (by omega)) ?_⟩
      rintro v L2 n2 ⟨id2,rfl,y1,y2,y3,y4,y5⟩
      have y6:L2 p=some (.box (T 32) [.own id 3 0 out.length]):=by rw [y5 p (by omega) (fun e=>hne e.symm),aAc _ _ _ _ n1',aAc _ _ _ _ n1']; exact jp
      have y7:id2≠p:=by rcases y2 with rfl | y2 <;> omega
      simp only [push_cast,seval,-Nat.reducePow,j1,j12,j13,j14,j5,j6,y6]
      have hil:(insU out (atU out prev+1) u).length=out.length+1:=by unfold insU; simp; omega
      refine ⟨by omega,r.length,by omega,d'++[u0]++[u],r,insU out (atU out prev+1) u,id2,u.nm,by simp,rfl,ho2,by omega,by simp at hol ⊢; omega,.inr ⟨by rw [aIw]; simp,d'++[u0],u,rfl,rfl⟩,fun n hn=>by rw [aIw,hsub n hn,Bool.or_true],by simp; omega,?_⟩
      exact ⟨by rw [hil],by rw [aAc _ _ _ _ y7]; exact y1,by omega,by omega,y7⟩
end Go.Ab
