/- Several texts of one kind, merged. No condition. -/
import Derived.Test.YtcmnepgnkcoiiaaGreatDoorAbF2
import Derived.Test.YtcmnepgnkcoiiaaGreatDoorAbG14
import Derived.Test.YtcmnepgnkcoiiaaGreatDoorAbR3
set_option linter.unusedSimpArgs false
set_option linter.unusedVariables false
namespace Go.Ab
def zzT (q:Tx):Tx:=q++[47,122,122]
def unT:Tx:=[85,110,107,110,111,119,110]
theorem mt_all:((List.range 6).all fun sp=>tNames.all fun q=>validF (sp:Nat) q&&validF (sp:Nat) (zzT q)&&validF (sp:Nat) unT&&decide ((anc (sp:Nat) (zzT q) (zzT q).length).reverse=q::(anc (sp:Nat) q q.length).reverse)&&decide (anc (sp:Nat) unT unT.length=[]))=true:=by kernel_rfl
theorem mt_ok {sp:Nat} {q:Tx} (h:sp<6) (hq:q∈tNames):validF sp q=true∧validF sp (zzT q)=true∧validF sp unT=true∧levF sp (zzT q)=⟨3,sp,zzT q⟩::levF sp q∧levF sp unT=[⟨3,sp,unT⟩,⟨2,sp,[]⟩,⟨1,0,[]⟩]:=by
 have h1:=List.all_eq_true.1 (List.all_eq_true.1 mt_all sp (List.mem_range.2 h)) q hq
 simp only [Bool.and_eq_true,decide_eq_true_eq] at h1
 obtain ⟨⟨⟨⟨a,b⟩,c⟩,d⟩,e⟩:=h1
 refine ⟨a,b,c,?_,?_⟩
 ·unfold levF
  rw [d]
  simp
 ·unfold levF
  rw [e]
  rfl
theorem un_new:unT∉[]::tNames:=by decide
variable {g:List Tx} {right:Int} {lv:Scp}
theorem atLev_append:∀ (a b:List Rul) (x:Bool×Bool),atLev g right lv (a++b) x=atLev g right lv b (atLev g right lv a x)
 | [],b,x=>rfl
 | r::a,b,x=>by simp only [List.cons_append,atLev]; exact atLev_append a b _
theorem atLev_miss:∀ (rs:List Rul) (x:Bool×Bool),(∀ r,r∈rs→hitB g right lv r=false)→atLev g right lv rs x=x
 | [],x,_=>rfl
 | r::rs,x,h=>by
   rw [atLev,h r (by simp)]
   exact atLev_miss rs x fun q hq=>h q (List.mem_cons_of_mem _ hq)
theorem atLev_snd:∀ (rs:List Rul) (b c:Bool),(atLev g right lv rs (b,c)).2=(c&&!(rs.any fun r=>hitB g right lv r&&!r.al))
 | [],b,c=>by simp [atLev]
 | r::rs,b,c=>by
   rw [atLev]
   cases h:hitB g right lv r with
   | true =>
     simp only [if_true]
     rw [atLev_snd rs]
     simp only [List.any_cons,h,Bool.true_and]
     cases r.al <;> cases c <;> simp
   | false =>
     simp only [Bool.false_eq_true,if_false]
     rw [atLev_snd rs]
     simp only [List.any_cons,h,Bool.false_and,Bool.false_or]
def denB (right sp:Int) (s:Tx) (r:Rul):Bool:=decide (r.sc.k=3)&&decide (r.sc.sp=sp)&&decide (r.sc.n=s)&&decide (r.ri=right)&&decide (r.gr=aT)&&!r.al
theorem den_hit (right sp:Int) (s:Tx) (r:Rul):(hitB [aT] right ⟨3,sp,s⟩ r&&!r.al)=denB right sp s r:=by
 have h:[aT].contains r.gr=decide (r.gr=aT):=by
  by_cases e:r.gr=aT <;> simp [e]
 unfold hitB denB covB
 rw [h]
 by_cases a:r.sc.k=3 <;> by_cases b:r.sc.sp=sp <;> by_cases c:r.sc.n=s <;> by_cases d:r.ri=right <;> by_cases e:r.gr=aT <;> simp [a,b,c,d,e]
theorem near_law {sp:Nat} {q:Tx} (h:sp<6) (hq:q∈tNames) (rs:List Rul) (al:Bool) (hr:1≤right) (hr5:right≤5) :
 mayF (rs++[⟨al,right,aT,⟨3,sp,q⟩⟩]) [aT] right sp q=(al&&!(rs.any (denB right sp q))):=by
 have hv:=(mt_ok h hq).1
 have hx:hitB [aT] right ⟨3,sp,q⟩ ⟨al,right,aT,⟨3,sp,q⟩⟩=true:=by simp [hitB,covB]
 have e:levF sp q=⟨3,sp,q⟩::(((anc (sp:Nat) q q.length).reverse.map fun q=>(⟨3,sp,q⟩:Scp))++[⟨2,sp,[]⟩,⟨1,0,[]⟩]):=rfl
 have h2:(atLev [aT] right ⟨3,sp,q⟩ rs (false,true)).2=!(rs.any (denB right sp q)):=by
  rw [atLev_snd,Bool.true_and]
  congr 2
  funext r
  exact den_hit right sp q r
 unfold mayF
 rw [hv,decide_eq_true hr,decide_eq_true hr5,e,mayL,atLev_append]
 generalize atLev [aT] right ⟨3,sp,q⟩ rs (false,true)=y at h2
 simp only [atLev,hx,if_true,Bool.true_and,h2]
 exact Bool.and_comm _ _
theorem inh_law {sp:Nat} {q:Tx} (h:sp<6) (hq:q∈tNames) (rs:List Rul) (g:List Tx) (right:Int) (hn:∀ r,r∈rs→¬ (r.sc.sp=sp∧r.sc.n=zzT q)):mayF rs g right sp (zzT q)=mayF rs g right sp q:=by
 obtain ⟨a,b,c,d,e⟩:=mt_ok h hq
 have hm:atLev g right ⟨3,sp,zzT q⟩ rs (false,true)=(false,true):=atLev_miss rs _ fun r hr=>by
  have:=hn r hr
  unfold hitB covB
  by_cases x1:r.sc.k=3
  ·by_cases x2:r.sc.sp=sp
   ·have x3:¬ r.sc.n=zzT q:=fun x3=>this ⟨x2,x3⟩
    simp [x1,x2,x3]
   ·simp [x1,x2]
  ·simp [x1]
 unfold mayF
 rw [a,b,d,mayL,hm]
 rfl
def keepB (r:Rul):Bool:=!decide (r.sc.k=3)
theorem atLev_keep (hk:lv.k≠3):∀ (rs:List Rul) (x:Bool×Bool),atLev g right lv (rs.filter keepB) x=atLev g right lv rs x
 | [],x=>rfl
 | r::rs,x=>by
   by_cases e:r.sc.k=3
   ·have hf:(r::rs).filter keepB=rs.filter keepB:=by simp [List.filter_cons,keepB,e]
    have hh:hitB g right lv r=false:=by
     have:¬ r.sc.k=lv.k:=fun q=>hk (q ▸ e)
     simp [hitB,covB,this]
    rw [hf,atLev_keep hk rs x,atLev,hh]; rfl
   ·have hf:(r::rs).filter keepB=r::rs.filter keepB:=by simp [List.filter_cons,keepB,e]
    rw [hf,atLev,atLev,atLev_keep hk rs]
theorem mayL_keep3 (rs:List Rul) (sp:Int) (tl:List Scp):∀ l:List Tx,mayL (rs.filter keepB) g right ((l.map fun q=>(⟨3,sp,q⟩:Scp))++tl)=mayL (rs.filter keepB) g right tl
 | []=>rfl
 | q::l=>by
   have hm:atLev g right ⟨3,sp,q⟩ (rs.filter keepB) (false,true)=(false,true):=atLev_miss _ _ fun r hr=>by
    have:¬ r.sc.k=3:=by have:=(List.mem_filter.1 hr).2; simpa [keepB] using this
    simp [hitB,covB,this]
   rw [List.map_cons,List.cons_append,mayL,hm]
   exact mayL_keep3 rs sp tl l
theorem space_law {sp:Nat} {q:Tx} (h:sp<6) (hq:q∈tNames) (rs:List Rul) (g:List Tx) (right:Int) (hn:∀ r,r∈rs→r.sc.n∈[]::tNames):mayF rs g right sp unT=mayF (rs.filter keepB) g right sp q:=by
 obtain ⟨a,b,c,d,e⟩:=mt_ok h hq
 have hm:atLev g right ⟨3,sp,unT⟩ rs (false,true)=(false,true):=atLev_miss rs _ fun r hr=>by
  have:¬ r.sc.n=unT:=fun x=>un_new (x ▸ hn r hr)
  unfold hitB covB
  by_cases x1:r.sc.k=3 <;> simp [x1,this]
 have el:levF sp q=(q::(anc (sp:Nat) q q.length).reverse).map (fun q=>(⟨3,sp,q⟩:Scp))++[⟨2,sp,[]⟩,⟨1,0,[]⟩]:=rfl
 unfold mayF
 rw [a,c,e,el,mayL_keep3,mayL,hm]
 simp only [mayL,atLev_keep (lv:=⟨2,sp,[]⟩) (by simp),atLev_keep (lv:=⟨1,0,[]⟩) (by simp)]
 rfl
end Go.Ab
namespace Go.Ab
variable {P:Program} {F T:Nat→Nat}
theorem right_of (n:Int):∃ k:Int,1≤k∧k≤5∧k=1+(vbits .and .i64 n 7).tmod 5:=by
 obtain ⟨k,hk,e⟩:=and_small n 7 (by decide)
 have e':vbits .and .i64 n 7=k:=e
 refine ⟨1+((k:Int)).tmod 5,?_,?_,by rw [e']⟩
 ·have:=Int.tmod_nonneg (a:=(k:Int)) 5 (by omega); omega
 ·have:=Int.tmod_lt_of_pos (k:Int) (b:=5) (by omega); omega
theorem any_snoc {α:Type} (f:α→Bool) (a:List α) (x:α):(a++[x]).any f=(a.any f||f x):=by simp
theorem ruV_at2 {l:List Rul} {i:Nat} (h:i<l.length):∃ q,l[i]?=some q∧(ruV l).getD i .junk=.agg [.bool q.al,.int .i64 q.ri,.str q.gr,.int .i64 q.sc.k,.int .i64 q.sc.sp,.str q.sc.n]∧l.take (i+1)=l.take i++[q]∧q∈l :=
 ⟨l[i],by simp [h],by simp [ruV,List.getD,h,Rul.v],by rw [List.take_add_one]; simp [h],List.getElem_mem h⟩
theorem law251 (hf:Is251 P F T) (K:TC3 P F T) (h39:Is39 P F T) (M:MayC P F T) (kn:PTr P (F 176) [] (.bool true)) (es:List V) (hi:V.imms es=true) (hes:∀ e,e∈es→∃ m,e=.int .i64 m) (al:Bool) (n:Int) :
 PTr P (F 251) [.lst 1 es,.bool al,.int .i64 n] (.bool true):=by
 refine ptr_lenA fun hl=>?_
 refine ptrC [] hf (by simp [hi]) rfl ?_
 obtain ⟨k,hk1,hk5,hk⟩:=right_of n
 have hko:InR .i64 (1+(vbits .and .i64 n 7).tmod 5):=by rw [← hk]; simp only [InR]; omega
 simp only [c251,push_cast,seval,-Nat.reducePow]
 refine ecallK_intro (n39f h39 es hi hes hl) ?_
 rintro v L0 n0 ⟨p,rfl,hp,hn,hT,hfr⟩
 refine ecallK_intro (n207 K hT (by omega)) ?_
 rintro v L1 n1 ⟨gs,rs,ds,hG,rfl,hn1,hT1,hfr1⟩
 refine ecallK_intro (n213 K.toTC K.h213 hT1 (by omega)) ?_
 rintro v L2 n2 ⟨sp,q,hsp,hq,rfl,hT2⟩
 have le2:=hT2.le
 have hgi:=grV_imm gs
 have hri:=ruV_imm rs
 have hdi:=gdV_imm ds
 have hrl:=ruV_len rs
 have hr7:=hG.rl
 have hql:=tN_len hq
 simp only [push_cast,seval,-Nat.reducePow,polV,ttV,hgi,hri,hdi]
 rw [← hk]
 refine ⟨⟨by omega,by omega⟩,?_⟩
 refine loopK_intro (fun m s=>∃ (i b:Nat),i≤rs.length∧m=rs.length-i∧s.env 1=.bool al∧s.env 2=.int .i64 k∧s.env 8=.ptr (n2+8) 0∧s.env 9=.ptr (n2+9) 0∧s.env 10=.ptr b 0∧s.env 11=.bool ((rs.take i).any (denB k sp q))∧s.env 12=.int .i64 i ∧
  s.L (n2+8)=some (.box (T 16) [.lst 2 (grV gs),.lst 6 (ruV rs),.lst 5 (gdV ds)])∧s.L (n2+9)=some (.box (T 17) [.int .i64 sp,.str q])∧s.L b=some (.box (T 18) [.int .i64 3,.int .i64 sp,.str q])∧n2+10≤b∧b<s.nx) rs.length ⟨0,n2+184,?_⟩ fun m s hJ=>?_
 ·simp only [push_cast,seval,-Nat.reducePow]
  exact ⟨rfl,rfl,by omega,by omega⟩
 ·obtain ⟨i,b,hi,rfl,j1,j2,j8,j9,j10,j11,j12,jP,jT,jS,hb1,hb2⟩:=hJ
  have u8:∀ (z:Nat) (x:Option Blk) (M:Heap),upd M (s.nx+z) x (n2+8)=M (n2+8):=fun z x M=>upd_ne _ _ _ _ (by omega)
  have u9:∀ (z:Nat) (x:Option Blk) (M:Heap),upd M (s.nx+z) x (n2+9)=M (n2+9):=fun z x M=>upd_ne _ _ _ _ (by omega)
  have ub:∀ (z:Nat) (x:Option Blk) (M:Heap),upd M (s.nx+z) x b=M b:=fun z x M=>upd_ne _ _ _ _ (by omega)
  by_cases h:i<rs.length
  ·have h':((i:Nat):Int)<((rs.length:Nat):Int):=by omega
   obtain ⟨r,hr,hrv,ht,hrm⟩:=ruV_at2 h
   obtain ⟨d,hd⟩:∃ d,(rs.take i).any (denB k sp q)=d:=⟨_,rfl⟩
   have hnx:(rs.take (i+1)).any (denB k sp q)=(d||denB k sp q r):=by rw [ht,any_snoc,hd]
   rw [hd] at j11
   have fin:∀ z,denB k sp q r=z→(rs.take (i+1)).any (denB k sp q)=(d||z):=fun z e=>by rw [hnx,e]
   cases d with
   | true =>
     simp only [Bool.true_or] at hnx
     simp only [push_cast,seval,-Nat.reducePow,j1,j2,j8,j9,j10,j11,j12,jP,jT,jS,u8,u9,ub,h',hrl,hrv]
     exact ⟨h,⟨by omega,by omega⟩,rs.length-(i+1),by omega,i+1,b,by omega,rfl,rfl,by rw [hnx],by simp,by rw [ub,ub]; exact jS,hb1,by omega⟩
   | false =>
     simp only [Bool.false_or] at hnx
     have hdr:denB k sp q r=(decide (r.sc.k=3)&&decide (r.sc.sp=sp)&&decide (r.sc.n=q)&&decide (r.ri=k)&&decide (r.gr=aT)&&!r.al):=rfl
     rw [hdr] at hnx
     by_cases a1:r.sc.k=3
     ·by_cases a2:r.sc.sp=sp
      ·by_cases a3:r.sc.n=q
       ·by_cases a4:r.ri=k
        ·by_cases a5:r.gr=aT
         ·simp only [decide_eq_true a1,decide_eq_true a2,decide_eq_true a3,decide_eq_true a4,decide_eq_true a5,Bool.true_and] at hnx
          rw [aT] at a5
          simp only [push_cast,seval,-Nat.reducePow,j1,j2,j8,j9,j10,j11,j12,jP,jT,jS,u8,u9,ub,h',hrl,hrv,a1,a2,a3,a4,a5]
          exact ⟨h,⟨by omega,by omega⟩,rs.length-(i+1),by omega,i+1,b,by omega,rfl,rfl,by rw [hnx],by simp,by rw [ub,ub]; exact jS,hb1,by omega⟩
         ·simp only [decide_eq_true a1,decide_eq_true a2,decide_eq_true a3,decide_eq_true a4,decide_eq_false a5,Bool.true_and,Bool.false_and] at hnx
          rw [aT] at a5
          simp only [push_cast,seval,-Nat.reducePow,j1,j2,j8,j9,j10,j11,j12,jP,jT,jS,u8,u9,ub,h',hrl,hrv,a1,a2,a3,a4,a5]
          exact ⟨h,⟨by omega,by omega⟩,rs.length-(i+1),by omega,i+1,b,by omega,rfl,rfl,by rw [hnx],by simp,by rw [ub,ub]; exact jS,hb1,by omega⟩
        ·simp only [decide_eq_true a1,decide_eq_true a2,decide_eq_true a3,decide_eq_false a4,Bool.true_and,Bool.false_and] at hnx
         simp only [push_cast,seval,-Nat.reducePow,j1,j2,j8,j9,j10,j11,j12,jP,jT,jS,u8,u9,ub,h',hrl,hrv,a1,a2,a3,a4]
         exact ⟨h,⟨by omega,by omega⟩,rs.length-(i+1),by omega,i+1,b,by omega,rfl,rfl,by rw [hnx],by simp,by rw [ub,ub]; exact jS,hb1,by omega⟩
       ·simp only [decide_eq_true a1,decide_eq_true a2,decide_eq_false a3,Bool.true_and,Bool.false_and] at hnx
        simp only [push_cast,seval,-Nat.reducePow,j1,j2,j8,j9,j10,j11,j12,jP,jT,jS,u8,u9,ub,h',hrl,hrv,a1,a2,a3]
        exact ⟨h,⟨by omega,by omega⟩,rs.length-(i+1),by omega,i+1,b,by omega,rfl,rfl,by rw [hnx],by simp,by rw [ub,ub]; exact jS,hb1,by omega⟩
      ·simp only [decide_eq_true a1,decide_eq_false a2,Bool.true_and,Bool.false_and] at hnx
       simp only [push_cast,seval,-Nat.reducePow,j1,j2,j8,j9,j10,j11,j12,jP,jT,jS,u8,u9,ub,h',hrl,hrv,a1,a2,Bool.false_and]
       exact ⟨h,⟨by omega,by omega⟩,rs.length-(i+1),by omega,i+1,b,by omega,rfl,rfl,by rw [hnx],by simp,by rw [ub,ub]; exact jS,hb1,by omega⟩
     ·simp only [decide_eq_false a1,Bool.false_and] at hnx
      simp only [push_cast,seval,-Nat.reducePow,j1,j2,j8,j9,j10,j11,j12,jP,jT,jS,u8,u9,ub,h',hrl,hrv,a1,Bool.false_and]
      exact ⟨h,⟨by omega,by omega⟩,rs.length-(i+1),by omega,i+1,b,by omega,rfl,rfl,by rw [hnx],by simp,by rw [ub,ub]; exact jS,hb1,by omega⟩
  ·have h':¬ ((i:Nat):Int)<((rs.length:Nat):Int):=by omega
   obtain rfl:i=rs.length:=by omega
   rw [List.take_length] at j11
   have e:ruV (rs++[⟨al,k,aT,⟨3,sp,q⟩⟩])=ruV rs++[.agg [.bool al,.int .i64 k,.str aT,.int .i64 3,.int .i64 sp,.str q]]:=by simp [ruV,Rul.v]
   have htk:List.take rs.length (ruV rs)=ruV rs:=List.take_of_length_le (by omega)
   simp only [push_cast,seval,-Nat.reducePow,j1,j2,j8,j9,j10,j11,j12,jP,jT,jS,u8,u9,ub,h',hrl]
   refine ⟨by omega,by omega,fz_intro4 (p:=s.nx+101) (id:=s.nx+245) (ty:=T 19) (ty0:=T 16) (sz:=6) (es:=ruV (rs++[⟨al,k,aT,⟨3,sp,q⟩⟩])) (pre:=[.lst 2 (grV gs)]) (post:=[.lst 5 (gdV ds)]) (n:=rs.length+1) (by simp only [push_cast,seval,-Nat.reducePow]) (by rw [e]; simp only [push_cast,seval,-Nat.reducePow,aT,htk]) (by simp [ruV_len]) (ruV_imm _) (by simp [V.imms,V.imm,hgi]) (by simp [V.imms,V.imm,hdi]) ?_⟩
   intro s' f2 f3 f4 f5 f6
   have v1:s'.env 1=.bool al:=(f4 1 (by simp only [push_cast,seval,-Nat.reducePow,j1])).trans (by simp only [push_cast,seval,-Nat.reducePow,j1])
   have v2:s'.env 2=.int .i64 k:=(f4 2 (by simp only [push_cast,seval,-Nat.reducePow,j2])).trans (by simp only [push_cast,seval,-Nat.reducePow,j2])
   have v11:s'.env 11=.bool (rs.any (denB k sp q)):=(f4 11 (by simp only [push_cast,seval,-Nat.reducePow,j11])).trans (by simp only [push_cast,seval,-Nat.reducePow,j11])
   have v9:=f5 9 (n2+9) 0 (by simp only [push_cast,seval,-Nat.reducePow,j9])
   have v14:=f5 14 (s.nx+101) 0 (by simp only [push_cast,seval,-Nat.reducePow])
   have vT:=f6 (n2+9) (T 17) [.int .i64 sp,.str q] (by simp only [push_cast,seval,-Nat.reducePow,u9,jT]) (by simp [V.imms,V.imm])
   have f3':s'.L (s.nx+101)=some (.box (T 16) [.lst 2 (grV gs),.lst 6 (ruV (rs++[⟨al,k,aT,⟨3,sp,q⟩⟩])),.lst 5 (gdV ds)]):=f3
   have c1:=may_ok M (sp:=sp) (s:=q) (g:=[aT]) (by omega) (by simp) (grV gs) (rs++[⟨al,k,aT,⟨3,sp,q⟩⟩]) (gdV ds) hgi hdi (by simp; omega) k
   rw [near_law hsp hq rs al hk1 hk5] at c1
   simp only [polV,ttV,List.map_cons,List.map_nil] at c1
   have hrx:=ruV_imm (rs++[⟨al,k,aT,⟨3,sp,q⟩⟩])
   simp only [push_cast,seval,-Nat.reducePow,v1,v2,v9,v11,v14,vT,f3']
   simp only [aT] at c1 hrx ⊢
   refine callK_intro c1 (by simp only [push_cast,seval,-Nat.reducePow,hgi,hdi,hrx]) (by simp only [push_cast,seval,-Nat.reducePow]) ?_
   cases al with
   | true =>
     simp only [push_cast,seval,-Nat.reducePow,v1,v11,beq_self_eq_true]
     refine callK_intro kn (by simp only [push_cast,seval,-Nat.reducePow]) (by simp only [push_cast,seval,-Nat.reducePow]) ?_
     simp only [push_cast,seval,-Nat.reducePow,view]
   | false =>
     simp only [push_cast,seval,-Nat.reducePow,v1,v11,Bool.false_and,beq_self_eq_true]
     refine callK_intro kn (by simp only [push_cast,seval,-Nat.reducePow]) (by simp only [push_cast,seval,-Nat.reducePow]) ?_
     simp only [push_cast,seval,-Nat.reducePow,view]
end Go.Ab
namespace Go.Ab
variable {P:Program} {F T:Nat→Nat}
theorem filter_snoc (f:Rul→Bool) (a:List Rul) (x:Rul):(a++[x]).filter f=a.filter f++(if f x then [x] else []):=by
 rw [List.filter_append]; cases h:f x <;> simp [h]
theorem law252 (hf:Is252 P F T) (K:TC3 P F T) (h39:Is39 P F T) (M:MayC P F T) (G:RGrC P F T) (kn:PTr P (F 176) [] (.bool true)) (es:List V) (hi:V.imms es=true) (hes:∀ e,e∈es→∃ m,e=.int .i64 m) (n:Int) :
 PTr P (F 252) [.lst 1 es,.int .i64 n] (.bool true):=by
 refine ptr_lenA fun hl=>?_
 refine ptrC [] hf (by simp [hi]) rfl ?_
 obtain ⟨k,hk1,hk5,hk⟩:=right_of n
 simp only [c252,push_cast,seval,-Nat.reducePow]
 refine ecallK_intro (n39f h39 es hi hes hl) ?_
 rintro v L0 n0 ⟨p,rfl,hp,hn,hT,hfr⟩
 refine ecallK_intro (n207 K hT (by omega)) ?_
 rintro v L1 n1 ⟨gs,rs,ds,hG,rfl,hn1,hT1,hfr1⟩
 refine ecallK_intro (n213 K.toTC K.h213 hT1 (by omega)) ?_
 rintro v L2 n2 ⟨sp,q,hsp,hq,rfl,hT2⟩
 have le2:=hT2.le
 have hgi:=grV_imm gs
 have hri:=ruV_imm rs
 have hdi:=gdV_imm ds
 have hrl:=ruV_len rs
 have hr7:=hG.rl
 have hg3:=hG.gl
 have hql:=tN_len hq
 simp only [push_cast,seval,-Nat.reducePow,polV,ttV,hgi,hri,hdi]
 have w2:=((((hT2.tb.add (i:=n2+6) (x:=some (Blk.box (T 16) [.nils,.nils,.nils])) (by omega)).add (i:=n2+7) (x:=some (Blk.box (T 17) [.int .i64 0,.str []])) (by omega)).add (i:=n2+6) (x:=some (Blk.box (T 16) [.lst 2 (grV gs),.lst 6 (ruV rs),.lst 5 (gdV ds)])) (by omega)).add (i:=n2+7) (x:=some (Blk.box (T 17) [.int .i64 sp,.str q])) (by omega)).add (i:=n2+6) (x:=none) (by omega)
 refine ecallK_intro (n208 K.toTC K.h208 w2 (by omega)) ?_
 rintro v L3 n3 ⟨u,hu,rfl,hT3⟩
 have le3:=hT3.le
 have hx3:L3 (n2+7)=some (.box (T 17) [.int .i64 sp,.str q]):=by
  rw [hT3.fr _ (by omega) (by omega),upd_ne _ _ _ _ (by omega)]; exact upd_same _ _ _
 have hgl:=grpF_len u gs
 have hsi:=imms_str (grpF u gs)
 have u7:∀ (z:Nat) (x:Option Blk) (M:Heap),upd M (n3+z) x (n2+7)=M (n2+7):=fun z x M=>upd_ne _ _ _ _ (by omega)
 refine callK_intro (rgr_ok G hG u) (by simp only [push_cast,seval,-Nat.reducePow,hgi,hri,hdi]) (by simp only [V.imm]; exact hsi) ?_
 simp only [push_cast,seval,-Nat.reducePow,hx3,u7]
 refine ⟨by omega,?_⟩
 have hzz:q++[47,122,122]=zzT q:=rfl
 simp only [hzz]
 refine loopK_intro (fun m s=>∃ (i b:Nat),i≤rs.length∧m=rs.length-i∧(∀ r,r∈rs.take i→¬ (r.sc.sp=sp∧r.sc.n=zzT q))∧s.env 1=.int .i64 n∧s.env 6=.cptr [.lst 2 (grV gs),.lst 6 (ruV rs),.lst 5 (gdV ds)]∧s.env 7=.ptr (n2+7) 0∧s.env 8=.lst 1 ((grpF u gs).map .str)∧s.env 9=.ptr b 0∧s.env 10=.int .i64 i ∧
  s.L (n2+7)=some (.box (T 17) [.int .i64 sp,.str q])∧s.L b=some (.box (T 17) [.int .i64 sp,.str (zzT q)])∧n2+10≤b∧b<s.nx) rs.length ⟨0,n3+116,?_⟩ fun m s hJ=>?_
 ·simp only [push_cast,seval,-Nat.reducePow,u7,hx3]
  exact ⟨rfl,by omega,by omega⟩
 ·obtain ⟨i,b,hi,rfl,hno,j1,j6,j7,j8,j9,j10,jT,jB,hb1,hb2⟩:=hJ
  by_cases h:i<rs.length
  ·have h':((i:Nat):Int)<((rs.length:Nat):Int):=by omega
   obtain ⟨r,hr,hrv,ht,hrm⟩:=ruV_at2 h
   by_cases a1:r.sc.sp=sp
   ·by_cases a2:r.sc.n=zzT q
    ·simp only [push_cast,seval,-Nat.reducePow,j1,j6,j7,j8,j9,j10,jT,jB,h',hrl,hrv,a1,a2]
     refine ⟨h,callK_intro kn (by simp only [push_cast,seval,-Nat.reducePow]) (by simp only [push_cast,seval,-Nat.reducePow]) ?_⟩
     simp only [push_cast,seval,-Nat.reducePow,view]
    ·simp only [push_cast,seval,-Nat.reducePow,j1,j6,j7,j8,j9,j10,jT,jB,h',hrl,hrv,a1,a2]
     exact ⟨h,⟨by omega,by omega⟩,rs.length-(i+1),by omega,i+1,b,by omega,rfl,fun x hx=>by
      rw [ht] at hx
      rcases List.mem_append.1 hx with hx | hx
      ·exact hno x hx
      ·rw [List.mem_singleton.1 hx]; exact fun e=>a2 e.2,rfl,by simp,jB,hb1,by omega⟩
   ·simp only [push_cast,seval,-Nat.reducePow,j1,j6,j7,j8,j9,j10,jT,jB,h',hrl,hrv,a1,Bool.false_and]
    exact ⟨h,⟨by omega,by omega⟩,rs.length-(i+1),by omega,i+1,b,by omega,rfl,fun x hx=>by
     rw [ht] at hx
     rcases List.mem_append.1 hx with hx | hx
     ·exact hno x hx
     ·rw [List.mem_singleton.1 hx]; exact fun e=>a1 e.1,rfl,by simp,jB,hb1,by omega⟩
  ·have h':¬ ((i:Nat):Int)<((rs.length:Nat):Int):=by omega
   obtain rfl:i=rs.length:=by omega
   rw [List.take_length] at hno
   simp only [push_cast,seval,-Nat.reducePow,j1,j6,j7,j8,j9,j10,jT,jB,h',hrl]
   have hu0:unT=[85,110,107,110,111,119,110]:=rfl
   rw [← hk]
   refine ⟨⟨by omega,by omega⟩,fz_le (p:=s.nx+333) (ty:=T 16) (cs:=[.nils,.nils,.nils]) (cs':=[.lst 2 (grV []),.lst 6 (ruV []),.lst 5 (gdV [])]) (by simp only [push_cast,seval,-Nat.reducePow]) (by simp [leL_cons,leL_nil,grV,ruV,gdV,le_nils]) ?_⟩
   have s7:∀ (z:Nat) (x:Option Blk) (M:Heap),upd M (s.nx+z) x (n2+7)=M (n2+7):=fun z x M=>upd_ne _ _ _ _ (by omega)
   have sb:∀ (z:Nat) (x:Option Blk) (M:Heap),upd M (s.nx+z) x b=M b:=fun z x M=>upd_ne _ _ _ _ (by omega)
   simp only [push_cast,seval,-Nat.reducePow,← hu0]
   refine cutK_intro (fun s=>∃ b c d:Nat,s.env 1=.int .i64 k∧s.env 6=.cptr [.lst 2 (grV gs),.lst 6 (ruV rs),.lst 5 (gdV ds)]∧s.env 7=.ptr (n2+7) 0∧s.env 8=.lst 1 ((grpF u gs).map .str)∧s.env 9=.ptr b 0∧s.env 11=.ptr c 0∧s.env 12=.ptr d 0∧s.L (n2+7)=some (.box (T 17) [.int .i64 sp,.str q])∧s.L b=some (.box (T 17) [.int .i64 sp,.str (zzT q)])∧s.L c=some (.box (T 17) [.int .i64 sp,.str unT])∧s.L d=some (.box (T 16) [.lst 2 (grV []),.lst 6 (ruV (rs.filter keepB)),.lst 5 (gdV [])])∧n2+7<b∧b<c∧c<d∧d<s.nx) ?_ ?_
   ·simp only [push_cast,seval,-Nat.reducePow,j1,j6,j7,j8,j9,j10,jT,jB,s7,sb,hrl]
    refine loopK_intro (fun m s=>∃ (i b c d:Nat),i≤rs.length∧m=rs.length-i∧s.env 1=.int .i64 k∧s.env 6=.cptr [.lst 2 (grV gs),.lst 6 (ruV rs),.lst 5 (gdV ds)]∧s.env 7=.ptr (n2+7) 0∧s.env 8=.lst 1 ((grpF u gs).map .str)∧s.env 9=.ptr b 0∧s.env 11=.ptr c 0∧s.env 12=.ptr d 0∧s.env 13=.int .i64 i∧s.L (n2+7)=some (.box (T 17) [.int .i64 sp,.str q])∧s.L b=some (.box (T 17) [.int .i64 sp,.str (zzT q)])∧s.L c=some (.box (T 17) [.int .i64 sp,.str unT])∧s.L d=some (.box (T 16) [.lst 2 (grV []),.lst 6 (ruV ((rs.take i).filter keepB)),.lst 5 (gdV [])])∧n2+7<b∧b<c∧c<d∧d<s.nx) rs.length ⟨0,b,s.nx+225,s.nx+333,?_⟩ fun m s hJ=>?_
    ·simp only [push_cast,seval,-Nat.reducePow,j1,j6,j7,j8,j9,j10,jT,jB,s7,sb,hrl]
     exact ⟨rfl,rfl,by omega,by omega,by omega,by omega⟩
    ·obtain ⟨i,b,c,d,hi,rfl,i1,i6,i7,i8,i9,i11,i12,i13,iT,iB,iC,iD,o1,o2,o3,o4⟩:=hJ
     by_cases h:i<rs.length
     ·have h':((i:Nat):Int)<((rs.length:Nat):Int):=by omega
      obtain ⟨r,hr,hrv,ht,hrm⟩:=ruV_at2 h
      have hfl:(rs.take (i+1)).filter keepB=(rs.take i).filter keepB++(if keepB r then [r] else []):=by rw [ht,filter_snoc]
      by_cases a1:r.sc.k=3
      ·have hkp:keepB r=false:=by simp [keepB,a1]
       rw [hkp,if_neg (by simp),List.append_nil] at hfl
       simp only [push_cast,seval,-Nat.reducePow,i1,i6,i7,i8,i9,i11,i12,i13,iT,iB,iC,iD,h',hrl,hrv,a1]
       exact ⟨h,⟨by omega,by omega⟩,rs.length-(i+1),by omega,i+1,b,c,d,by omega,rfl,rfl,rfl,rfl,by simp,iB,iC,by rw [hfl]; exact iD,o1,o2,o3,by omega⟩
      ·have hkp:keepB r=true:=by simp [keepB,a1]
       rw [hkp,if_pos rfl] at hfl
       obtain ⟨R,hR⟩:∃ R,(rs.take i).filter keepB=R:=⟨_,rfl⟩
       rw [hR] at iD hfl
       have hRl:R.length≤7:=by rw [← hR]; exact Nat.le_trans (List.length_filter_le ..) (by simp; omega)
       have hRv:=ruV_len R
       have ud:∀ (z:Nat) (x:Option Blk) (M:Heap),upd M (s.nx+z) x d=M d:=fun z x M=>upd_ne _ _ _ _ (by omega)
       have uc:∀ (z:Nat) (x:Option Blk) (M:Heap),upd M (s.nx+z) x c=M c:=fun z x M=>upd_ne _ _ _ _ (by omega)
       have ub:∀ (z:Nat) (x:Option Blk) (M:Heap),upd M (s.nx+z) x b=M b:=fun z x M=>upd_ne _ _ _ _ (by omega)
       have u7:∀ (z:Nat) (x:Option Blk) (M:Heap),upd M (s.nx+z) x (n2+7)=M (n2+7):=fun z x M=>upd_ne _ _ _ _ (by omega)
       have dz:∀ (z:Nat) (x:Option Blk) (M:Heap),upd M d x (s.nx+z)=M (s.nx+z):=fun z x M=>upd_ne _ _ _ _ (by omega)
       have dd:∀ (x:Option Blk) (M:Heap),upd M d x d=x:=fun x M=>upd_same _ _ _
       have d7:∀ (x:Option Blk) (M:Heap),upd M d x (n2+7)=M (n2+7):=fun x M=>upd_ne _ _ _ _ (by omega)
       have db:∀ (x:Option Blk) (M:Heap),upd M d x b=M b:=fun x M=>upd_ne _ _ _ _ (by omega)
       have dc:∀ (x:Option Blk) (M:Heap),upd M d x c=M c:=fun x M=>upd_ne _ _ _ _ (by omega)
       have htk:List.take R.length (ruV R)=ruV R:=List.take_of_length_le (by omega)
       have e:ruV (R++[r])=ruV R++[.agg [.bool r.al,.int .i64 r.ri,.str r.gr,.int .i64 r.sc.k,.int .i64 r.sc.sp,.str r.sc.n]]:=by simp [ruV,Rul.v]
       simp only [push_cast,seval,-Nat.reducePow,i1,i6,i7,i8,i9,i11,i12,i13,iT,iB,iC,iD,h',hrl,hrv,a1,ud,hRv,htk]
       refine ⟨h,by omega,h,by omega,fz_intro4 (p:=d) (id:=s.nx+292) (ty:=T 19) (ty0:=T 16) (sz:=6) (es:=ruV (R++[r])) (pre:=[.lst 2 (grV [])]) (post:=[.lst 5 (gdV [])]) (n:=R.length+1) (by simp only [push_cast,seval,-Nat.reducePow,dd]) (by rw [e]; simp only [push_cast,seval,-Nat.reducePow,dz]) (by simp [ruV_len]) (ruV_imm _) rfl rfl ?_⟩
       intro s' f2 f3 f4 f5 f6
       have v1:s'.env 1=.int .i64 k:=(f4 1 (by simp only [push_cast,seval,-Nat.reducePow,i1])).trans (by simp only [push_cast,seval,-Nat.reducePow,i1])
       have v6:s'.env 6=.cptr [.lst 2 (grV gs),.lst 6 (ruV rs),.lst 5 (gdV ds)]:=(f4 6 (by simp only [push_cast,seval,-Nat.reducePow,i6,V.imm,hgi,hri,hdi])).trans (by simp only [push_cast,seval,-Nat.reducePow,i6])
       have v8:s'.env 8=.lst 1 ((grpF u gs).map .str):=(f4 8 (by simp only [push_cast,seval,-Nat.reducePow,i8,V.imm,hsi])).trans (by simp only [push_cast,seval,-Nat.reducePow,i8])
       have v13:s'.env 13=.int .i64 i:=(f4 13 (by simp only [push_cast,seval,-Nat.reducePow,i13])).trans (by simp only [push_cast,seval,-Nat.reducePow,i13])
       have v7:=f5 7 (n2+7) 0 (by simp only [push_cast,seval,-Nat.reducePow,i7])
       have v9:=f5 9 b 0 (by simp only [push_cast,seval,-Nat.reducePow,i9])
       have v11:=f5 11 c 0 (by simp only [push_cast,seval,-Nat.reducePow,i11])
       have v12:=f5 12 d 0 (by simp only [push_cast,seval,-Nat.reducePow,i12])
       have vT:=f6 (n2+7) (T 17) [.int .i64 sp,.str q] (by simp only [push_cast,seval,-Nat.reducePow,u7,d7,iT]) (by simp [V.imms,V.imm])
       have vB:=f6 b (T 17) [.int .i64 sp,.str (zzT q)] (by simp only [push_cast,seval,-Nat.reducePow,ub,db,iB]) (by simp [V.imms,V.imm])
       have vC:=f6 c (T 17) [.int .i64 sp,.str unT] (by simp only [push_cast,seval,-Nat.reducePow,uc,dc,iC]) (by simp [V.imms,V.imm])
       have f3':s'.L d=some (.box (T 16) [.lst 2 (grV []),.lst 6 (ruV (R++[r])),.lst 5 (gdV [])]):=f3
       have f2':s'.nx=s.nx+321:=f2
       simp only [push_cast,seval,-Nat.reducePow,v1,v6,v7,v8,v9,v11,v12,v13,vT,vB,vC]
       exact ⟨⟨by omega,by omega⟩,rs.length-(i+1),by omega,i+1,b,c,d,by omega,rfl,rfl,rfl,rfl,by simp,vB,vC,by rw [hfl]; exact f3',o1,o2,o3,by omega⟩
     ·have h':¬ ((i:Nat):Int)<((rs.length:Nat):Int):=by omega
      obtain rfl:i=rs.length:=by omega
      rw [List.take_length] at iD
      simp only [push_cast,seval,-Nat.reducePow,i1,i6,i7,i8,i9,i11,i12,i13,iT,iB,iC,iD,h',hrl]
      exact ⟨b,c,d,rfl,rfl,rfl,iB,iC,iD,o1,o2,o3,by omega⟩
   ·rintro s ⟨b,c,d,i1,i6,i7,i8,i9,i11,i12,iT,iB,iC,iD,o1,o2,o3,o4⟩
    have hfi:=ruV_imm (rs.filter keepB)
    have hfl:(rs.filter keepB).length≤rs.length:=List.length_filter_le ..
    have c1:=may_ok M (sp:=sp) (s:=zzT q) (g:=grpF u gs) (by simp only [zzT,List.length_append,List.length_cons,List.length_nil]; omega) (by omega) (grV gs) rs (gdV ds) hgi hdi (by omega) k
    have c2:=may_ok M (sp:=sp) (s:=q) (g:=grpF u gs) (by omega) (by omega) (grV gs) rs (gdV ds) hgi hdi (by omega) k
    have c3:=may_ok M (sp:=sp) (s:=unT) (g:=grpF u gs) (by simp [unT]) (by omega) (grV gs) rs (gdV ds) hgi hdi (by omega) k
    have c4:=may_ok M (sp:=sp) (s:=q) (g:=grpF u gs) (by omega) (by omega) (grV []) (rs.filter keepB) (gdV []) (grV_imm []) (gdV_imm []) (by omega) k
    rw [inh_law hsp hq rs _ _ hno] at c1
    rw [space_law hsp hq rs _ _ hG.rn] at c3
    simp only [polV,ttV] at c1 c2 c3 c4
    simp only [push_cast,seval,-Nat.reducePow,i1,i6,i7,i8,i9,i11,i12,iT,iB,iC,iD]
    refine callK_intro c1 (by simp only [push_cast,seval,-Nat.reducePow,hgi,hri,hdi,hsi]) (by simp only [push_cast,seval,-Nat.reducePow]) ?_
    simp only [push_cast,seval,-Nat.reducePow,i1,i6,i7,i8,i9,i11,i12,iT,iB,iC,iD]
    refine callK_intro c2 (by simp only [push_cast,seval,-Nat.reducePow,hgi,hri,hdi,hsi]) (by simp only [push_cast,seval,-Nat.reducePow]) ?_
    simp only [push_cast,seval,-Nat.reducePow,i1,i6,i7,i8,i9,i11,i12,iT,iB,iC,iD,beq_self_eq_true]
    refine callK_intro c3 (by simp only [push_cast,seval,-Nat.reducePow,hgi,hri,hdi,hsi]) (by simp only [push_cast,seval,-Nat.reducePow]) ?_
    simp only [push_cast,seval,-Nat.reducePow,i1,i6,i7,i8,i9,i11,i12,iT,iB,iC,iD,beq_self_eq_true]
    refine callK_intro c4 (by simp only [push_cast,seval,-Nat.reducePow,grV_imm,gdV_imm,hfi,hsi]) (by simp only [push_cast,seval,-Nat.reducePow]) ?_
    simp only [push_cast,seval,-Nat.reducePow,beq_self_eq_true]
    refine callK_intro kn (by simp only [push_cast,seval,-Nat.reducePow]) (by simp only [push_cast,seval,-Nat.reducePow]) ?_
    simp only [push_cast,seval,-Nat.reducePow,view]
end Go.Ab
