/- Several texts of one kind, merged. No condition. -/
import Derived.Test.YtcmnepgnkcoiiaaGreatDoorAbC4
import Derived.Sort.Walk0
import Derived.Test.YtcmnepgnkcoiiaaGreatDoorAbG13
import Derived.Test.YtcmnepgnkcoiiaaGreatDoorAbF1
set_option linter.unusedSimpArgs false
set_option linter.unusedVariables false
namespace Go.Ab
abbrev Tx:=List UInt8
def okC (c:UInt8):Bool:=(decide (97≤c.toNat)&&decide (c.toNat≤122))||(decide (48≤c.toNat)&&decide (c.toNat≤57))||decide (c.toNat=45)||decide (c.toNat=95)
def aOo (s:Tx):Bool:=decide (1≤s.length)&&decide (s.length≤30)&&decide (97≤(s.getD 0 0).toNat)&&decide ((s.getD 0 0).toNat≤122)&&s.all okC
def ltB (a b:Tx):Bool:=Op.bytesLess a b
theorem aIy {a b:Tx}:ltB a b=true↔a<b:=by unfold ltB; rw [Go.Proofs.bytesLess_eq]; simp
theorem aI4 (a:Tx):ltB a a=false:=by
 cases h:ltB a a with
 | false=>rfl
 | true=>exact absurd (aIy.1 h) (List.lt_irrefl a)
theorem aKh {a b c:Tx} (h:ltB a b=true) (k:ltB b c=true):ltB a c=true:=aIy.2 (List.lt_trans (aIy.1 h) (aIy.1 k))
theorem aZm {a b:Tx} (h:ltB a b=false) (k:a≠b):ltB b a=true:=by
 rw [aIy]
 have h':¬ a<b:=fun e=>by rw [aIy.2 e] at h; cases h
 rcases List.le_total b a with h1 | h1
 ·rcases Decidable.em (b<a) with h2 | h2
  ·exact h2
  ·exact absurd (List.le_antisymm (List.not_lt.1 h2) (List.not_lt.1 h')) k
 ·exact absurd (List.le_antisymm h1 (List.not_lt.1 h')) k
def putF (s:Tx):List Tx→List Tx
 | []=>[s]
 | x::r=>if ltB x s=true then x::putF s r else if x=s then x::r else s::x::r
theorem aH0 (s y:Tx):∀ l:List Tx,y∈putF s l↔y=s∨y∈l
 | []=>by simp [putF]
 | x::r=>by
   unfold putF
   split
   ·simp only [List.mem_cons,aH0 s y r]
    constructor
    ·rintro (h | h | h)
     ·exact .inr (.inl h)
     ·exact .inl h
     ·exact .inr (.inr h)
    ·rintro (h | h | h)
     ·exact .inr (.inl h)
     ·exact .inl h
     ·exact .inr (.inr h)
   ·split
    ·rename_i e
     subst e
     simp
    ·simp
def srt:List Tx→Prop
 | []=>True
 | x::r=>(∀ y,y∈r→ltB x y=true)∧srt r
theorem aM7 (s:Tx):∀ l:List Tx,srt l→srt (putF s l)
 | [],_=>by simp [putF,srt]
 | x::r,h=>by
   obtain ⟨h1,h2⟩:=h
   unfold putF
   split
   ·rename_i e
    refine ⟨fun y hy=>?_,aM7 s r h2⟩
    rcases (aH0 s y r).1 hy with rfl | hy
    ·exact e
    ·exact h1 y hy
   ·rename_i e
    split
    ·exact ⟨h1,h2⟩
    ·rename_i e2
     have hs:ltB s x=true:=aZm (by simpa using e) e2
     exact ⟨fun y hy=>by
      rcases List.mem_cons.1 hy with rfl | hy
      ·exact hs
      ·exact aKh hs (h1 y hy),h1,h2⟩
theorem aTy (s:Tx):∀ l:List Tx,srt l→(putF s l).length=if s∈l then l.length else l.length+1
 | [],_=>by simp [putF]
 | x::r,h=>by
   obtain ⟨h1,h2⟩:=h
   unfold putF
   split
   ·rename_i e
    have hne:s≠x:=fun q=>by rw [q,aI4] at e; cases e
    rw [List.length_cons,aTy s r h2]
    by_cases hm:s∈r <;> simp [hm,hne]
   ·rename_i e
    split
    ·rename_i e2; subst e2; simp
    ·rename_i e2
     have hs:ltB s x=true:=aZm (by simpa using e) e2
     have hn:s∉x::r:=fun q=>by
      rcases List.mem_cons.1 q with q | q
      ·exact e2 q.symm
      ·have:=aKh hs (h1 s q)
       rw [aI4] at this; cases this
     simp [hn]
theorem bD0:∀ (a b:List Tx),srt a→srt b→(∀ x,x∈a↔x∈b)→a=b
 | [],[],_,_,_=>rfl
 | [],y::q,_,_,h=>by have:=(h y).2 (by simp); simp at this
 | x::r,[],_,_,h=>by have:=(h x).1 (by simp); simp at this
 | x::r,y::q,h1,h2,h=>by
   have e:x=y:=by
    by_cases hxy:x=y
    ·exact hxy
    ·have a:y∈r:=by
      rcases List.mem_cons.1 ((h y).2 (by simp)) with e | e
      ·exact absurd e.symm hxy
      ·exact e
     have b:x∈q:=by
      rcases List.mem_cons.1 ((h x).1 (by simp)) with e | e
      ·exact absurd e hxy
      ·exact e
     have:=aKh (h1.1 y a) (h2.1 x b)
     rw [aI4] at this; cases this
   subst e
   congr 1
   refine bD0 r q h1.2 h2.2 fun z=>?_
   have n1:x∉r:=fun q=>by have:=h1.1 x q; rw [aI4] at this; cases this
   have n2:x∉q:=fun q=>by have:=h2.1 x q; rw [aI4] at this; cases this
   constructor
   ·intro hz
    rcases List.mem_cons.1 ((h z).1 (List.mem_cons_of_mem _ hz)) with e | e
    ·exact absurd (e ▸ hz) n1
    ·exact e
   ·intro hz
    rcases List.mem_cons.1 ((h z).2 (List.mem_cons_of_mem _ hz)) with e | e
    ·exact absurd (e ▸ hz) n2
    ·exact e
theorem aPi:∀ l:List Tx,srt l→l.Nodup
 | [],_=>List.nodup_nil
 | x::r,h=>List.nodup_cons.2 ⟨fun q=>(by have:=h.1 x q; rw [aI4] at this; cases this),aPi r h.2⟩
def belM (u:Tx) (l:List Tx) (m:Tx):Bool:=(aOo u&&decide (m=u))||(decide (0<m.length)&&decide ((m.getD 0 0).toNat=64)&&l.contains (m.drop 1))
def belG (u:Tx) (l:List Tx) (g:Gro):Bool:=g.m.any (belM u l)
def rndF (u:Tx):List Gro→List Tx→List Tx
 | [],l=>l
 | g::r,l=>rndF u r (if belG u l g then putF g.n l else l)
def aT:Tx:=[97,108,108]
def uT:Tx:=[117,115,101,114,115]
def grp0 (u:Tx):List Tx:=if aOo u then [aT,uT] else [aT]
def itF (u:Tx) (gs:List Gro):Nat→List Tx→List Tx
 | 0,l=>l
 | k+1,l=>if l.length<(rndF u gs l).length then itF u gs k (rndF u gs l) else rndF u gs l
def grpF (u:Tx) (gs:List Gro):List Tx:=itF u gs (gs.length+4) (grp0 u)
def isG (gs:List Gro) (x:Tx):Prop:=x=aT∨x=uT∨∃ g,g∈gs∧g.n=x
theorem aJs (u:Tx) (gs:List Gro):∀ (r:List Gro) (l:List Tx),(∀ g,g∈r→g∈gs)→srt l→(∀ x,x∈l→isG gs x) →
 srt (rndF u r l)∧(∀ x,x∈rndF u r l→isG gs x)∧(∀ x,x∈l→x∈rndF u r l)∧l.length≤(rndF u r l).length∧((rndF u r l).length=l.length→∀ g,g∈r→belG u l g=true→g.n∈l)∧((rndF u r l).length=l.length→rndF u r l=l)
 | [],l,hr,hs,hg=>⟨hs,hg,fun x h=>h,Nat.le_refl _,fun _ g hg=>by simp at hg,fun _=>rfl⟩
 | g::r,l,hr,hs,hg=>by
   unfold rndF
   by_cases hb:belG u l g=true
   ·rw [if_pos hb]
    have hlen:=aTy g.n l hs
    obtain ⟨a1,a2,a3,a4,a5,a6⟩:=aJs u gs r (putF g.n l) (fun q hq=>hr q (List.mem_cons_of_mem _ hq)) (aM7 _ _ hs) fun x hx=>by
     rcases (aH0 _ _ _).1 hx with rfl | hx
     ·exact .inr (.inr ⟨g,hr g (by simp),rfl⟩)
     ·exact hg x hx
    by_cases hm:g.n∈l
    ·rw [if_pos hm] at hlen
     have he:putF g.n l=l:=bD0 _ _ (aM7 _ _ hs) hs fun x=>by rw [aH0]; exact ⟨fun h=>h.elim (fun e=>e ▸ hm) id,.inr⟩
     rw [he] at a1 a2 a3 a4 a5 a6 ⊢
     refine ⟨a1,a2,a3,a4,fun hl q hq hqb=>?_,a6⟩
     rcases List.mem_cons.1 hq with rfl | hq
     ·exact hm
     ·exact a5 hl q hq hqb
    ·rw [if_neg hm] at hlen
     exact ⟨a1,a2,fun x hx=>a3 x ((aH0 _ _ _).2 (.inr hx)),by omega,fun hl=>by omega,fun hl=>by omega⟩
   ·rw [if_neg hb]
    obtain ⟨a1,a2,a3,a4,a5,a6⟩:=aJs u gs r l (fun q hq=>hr q (List.mem_cons_of_mem _ hq)) hs hg
    refine ⟨a1,a2,a3,a4,fun hl q hq hqb=>?_,a6⟩
    rcases List.mem_cons.1 hq with rfl | hq
    ·exact absurd hqb hb
    ·exact a5 hl q hq hqb
theorem aQj {gs:List Gro} {l:List Tx} (hs:srt l) (hg:∀ x,x∈l→isG gs x):l.length≤gs.length+2:=by
 have:l.length≤(aT::uT::gs.map Gro.n).length:=List.Nodup.length_le_of_subset (aPi l hs) fun x hx=>by
  rcases hg x hx with rfl | rfl | ⟨g,hgm,rfl⟩
  ·simp
  ·simp
  ·simp only [List.mem_cons,List.mem_map]; exact .inr (.inr ⟨g,hgm,rfl⟩)
 simpa using this
theorem aTa (u:Tx):srt (grp0 u):=by
 unfold grp0; split
 ·refine ⟨fun y hy=>?_,by simp [srt]⟩
  rw [List.mem_singleton.1 hy]; rfl
 ·simp [srt]
theorem aS4 (u:Tx) (gs:List Gro):∀ x,x∈grp0 u→isG gs x:=by
 intro x hx
 unfold grp0 at hx; split at hx
 ·rcases List.mem_cons.1 hx with h | h
  ·exact .inl h
  ·exact .inr (.inl (List.mem_singleton.1 h))
 ·exact .inl (List.mem_singleton.1 hx)
theorem aSw (u:Tx) (gs:List Gro):∀ (k:Nat) (l:List Tx),srt l→(∀ x,x∈l→isG gs x)→srt (itF u gs k l)∧(∀ x,x∈itF u gs k l→isG gs x)∧(∀ x,x∈l→x∈itF u gs k l)
 | 0,l,hs,hg=>⟨hs,hg,fun x h=>h⟩
 | k+1,l,hs,hg=>by
   obtain ⟨a1,a2,a3,a4,a5,a6⟩:=aJs u gs gs l (fun g h=>h) hs hg
   unfold itF
   split
   ·obtain ⟨b1,b2,b3⟩:=aSw u gs k _ a1 a2
    exact ⟨b1,b2,fun x hx=>b3 x (a3 x hx)⟩
   ·exact ⟨a1,a2,a3⟩
theorem aN5 (u:Tx) (gs:List Gro):srt (grpF u gs)∧(∀ x,x∈grpF u gs→isG gs x)∧(∀ x,x∈grp0 u→x∈grpF u gs):=aSw u gs _ _ (aTa u) (aS4 u gs)
theorem bCd (u:Tx) (gs:List Gro):(grpF u gs).length≤gs.length+2:=aQj (aN5 u gs).1 (aN5 u gs).2.1
end Go.Ab
namespace Go.Ab
variable {P:Program} {F T:Nat→Nat}
open Go.Lib
theorem aXn (c:UInt8):okC c=true↔(¬ c.toNat<97∧¬ 122<c.toNat)∨(¬ c.toNat<48∧¬ 57<c.toNat)∨c.toNat=45∨c.toNat=95:=by
 unfold okC
 simp only [Bool.or_eq_true,Bool.and_eq_true,decide_eq_true_eq]
 omega
theorem aQi (s:Tx):aOo s=(!decide (s.length<1)&&!decide (30<s.length)&&!decide ((s.getD 0 0).toNat<97)&&!decide (122<(s.getD 0 0).toNat)&&s.all okC):=by
 have e1:decide (1≤s.length)=!decide (s.length<1):=by by_cases h:s.length<1 <;> simp [h] <;> omega
 have e2:decide (s.length≤30)=!decide (30<s.length):=by by_cases h:30<s.length <;> simp [h] <;> omega
 have e3:decide (97≤(s.getD 0 0).toNat)=!decide ((s.getD 0 0).toNat<97):=by by_cases h:(s.getD 0 0).toNat<97 <;> simp only [h,decide_true,decide_false,Bool.not_true,Bool.not_false,decide_eq_true_eq,decide_eq_false_iff_not] <;> omega
 have e4:decide ((s.getD 0 0).toNat≤122)=!decide (122<(s.getD 0 0).toNat):=by by_cases h:122<(s.getD 0 0).toNat <;> simp only [h,decide_true,decide_false,Bool.not_true,Bool.not_false,decide_eq_true_eq,decide_eq_false_iff_not] <;> omega
 unfold aOo
 rw [e1,e2,e3,e4]
theorem t217 (hf:aWu P F T) (s:Tx):PTr P (F 217) [.str s] (.bool (aOo s)):=by
 refine ptrC [] hf (by simp) rfl ?_
 rw [aQi]
 by_cases a1:s.length<1
 ·have a1':((s.length:Nat):Int)<1:=by omega
  simp only [c217,push_cast,seval,-Nat.reducePow,a1,a1',view,Bool.false_and]
 have a1':¬ ((s.length:Nat):Int)<1:=by omega
 by_cases a2:30<s.length
 ·have a2':(30:Int)<((s.length:Nat):Int):=by omega
  simp only [c217,push_cast,seval,-Nat.reducePow,a1,a1',a2,a2',view,Bool.false_and]
 have a2':¬ (30:Int)<((s.length:Nat):Int):=by omega
 have a0:0<s.length:=by omega
 have hall:∀ (i:Nat),i<s.length→okC (s.getD i 0)=false→s.all okC=false:=fun i hi h=>by
  cases e:s.all okC with
  | false=>rfl
  | true=>have:=List.all_eq_true.1 e (s.getD i 0) (by simp [List.getD,hi]); rw [h] at this; cases this
 have hall2:(∀ (i:Nat),i<s.length→okC (s.getD i 0)=true)→s.all okC=true:=fun h=>List.all_eq_true.2 fun x hx=>by
  obtain ⟨i,hi,rfl⟩:=List.mem_iff_getElem.1 hx
  have:=h i hi
  simpa [List.getD,hi] using this
 obtain ⟨c0,hc0⟩:∃ c,s.getD 0 0=c:=⟨_,rfl⟩
 rw [hc0]
 by_cases a3:c0.toNat<97
 ·have a3':((c0.toNat:Nat):Int)<97:=by omega
  simp only [c217,push_cast,seval,-Nat.reducePow,a1,a1',a2,a2',a0,hc0,a3,a3',view,Bool.false_and]
 have a3':¬ ((c0.toNat:Nat):Int)<97:=by omega
 by_cases a4:122<c0.toNat
 ·have a4':(122:Int)<((c0.toNat:Nat):Int):=by omega
  simp only [c217,push_cast,seval,-Nat.reducePow,a1,a1',a2,a2',a0,hc0,a3,a3',a4,a4',view,Bool.false_and]
 have a4':¬ (122:Int)<((c0.toNat:Nat):Int):=by omega
 simp only [c217,push_cast,seval,-Nat.reducePow,a1,a1',a2,a2',a0,hc0,a3,a3',a4,a4']
 refine aAc (fun m s1=>∃ i,i≤s.length∧m=s.length-i∧(∀ k,k<i→okC (s.getD k 0)=true)∧s1.env 0=.str s∧s1.env 3=.int .i64 i) s.length ⟨0,?_⟩ fun m s1 hJ=>?_
 ·simp only [push_cast,seval,-Nat.reducePow]
  exact ⟨rfl,fun k hk=>absurd hk (Nat.not_lt_zero _)⟩
 ·obtain ⟨i,hi,rfl,hn,j0,j3⟩:=hJ
  by_cases h:i<s.length
  ·have h':((i:Nat):Int)<((s.length:Nat):Int):=by omega
   obtain ⟨c,hc⟩:∃ c,s.getD i 0=c:=⟨_,rfl⟩
   have hok:=aXn c
   have hbad:okC c=false→s.all okC=false:=fun e=>hall i h (by rw [hc]; exact e)
   have hgo:okC c=true→∀ k,k<i+1→okC (s.getD k 0)=true:=fun e k hk=>by
    by_cases hki:k=i
    ·rw [hki,hc]; exact e
    ·exact hn k (by omega)
   have step:okC c=true→(True∧∃ m',m'<s.length-i∧∃ i_1,i_1≤s.length∧m'=s.length-i_1∧(∀ k,k<i_1→okC (s.getD k 0)=true)∧((i:Int)+1)=i_1):=fun e=>⟨trivial,s.length-(i+1),by omega,i+1,by omega,rfl,hgo e,by simp⟩
   by_cases b1:c.toNat<97
   ·have b1':((c.toNat:Nat):Int)<97:=by omega
    by_cases b3:c.toNat<48
    ·have b3':((c.toNat:Nat):Int)<48:=by omega
     by_cases b5:c.toNat=45
     ·have b5':((c.toNat:Nat):Int)=45:=by omega
      have e:okC c=true:=hok.2 (by omega)
      simp only [push_cast,seval,-Nat.reducePow,j0,j3,h',hc,b1',b3',b5']
      exact ⟨h,⟨by omega,by omega⟩,s.length-(i+1),by omega,i+1,by omega,rfl,hgo e,by simp⟩
     ·have b5':¬ ((c.toNat:Nat):Int)=45:=by omega
      have b6':¬ ((c.toNat:Nat):Int)=95:=by omega
      have e:okC c=false:=by cases q:okC c with | false=>rfl | true=>exact absurd (hok.1 q) (by omega)
      simp only [push_cast,seval,-Nat.reducePow,j0,j3,h',hc,b1',b3',b5',b6',view,hbad e]
      exact h
    ·have b3':¬ ((c.toNat:Nat):Int)<48:=by omega
     by_cases b4:57<c.toNat
     ·have b4':(57:Int)<((c.toNat:Nat):Int):=by omega
      have b5':¬ ((c.toNat:Nat):Int)=45:=by omega
      by_cases b6:c.toNat=95
      ·have b6':((c.toNat:Nat):Int)=95:=by omega
       have e:okC c=true:=hok.2 (by omega)
       simp only [push_cast,seval,-Nat.reducePow,j0,j3,h',hc,b1',b3',b4',b5',b6']
       exact ⟨h,⟨by omega,by omega⟩,s.length-(i+1),by omega,i+1,by omega,rfl,hgo e,by simp⟩
      ·have b6':¬ ((c.toNat:Nat):Int)=95:=by omega
       have e:okC c=false:=by cases q:okC c with | false=>rfl | true=>exact absurd (hok.1 q) (by omega)
       simp only [push_cast,seval,-Nat.reducePow,j0,j3,h',hc,b1',b3',b4',b5',b6',view,hbad e]
       exact h
     ·have b4':¬ (57:Int)<((c.toNat:Nat):Int):=by omega
      have e:okC c=true:=hok.2 (by omega)
      simp only [push_cast,seval,-Nat.reducePow,j0,j3,h',hc,b1',b3',b4']
      exact ⟨h,⟨by omega,by omega⟩,s.length-(i+1),by omega,i+1,by omega,rfl,hgo e,by simp⟩
   ·have b1':¬ ((c.toNat:Nat):Int)<97:=by omega
    by_cases b2:122<c.toNat
    ·have b2':(122:Int)<((c.toNat:Nat):Int):=by omega
     have b3':¬ ((c.toNat:Nat):Int)<48:=by omega
     have b4':(57:Int)<((c.toNat:Nat):Int):=by omega
     have b5':¬ ((c.toNat:Nat):Int)=45:=by omega
     have b6':¬ ((c.toNat:Nat):Int)=95:=by omega
     have e:okC c=false:=by cases q:okC c with | false=>rfl | true=>exact absurd (hok.1 q) (by omega)
     simp only [push_cast,seval,-Nat.reducePow,j0,j3,h',hc,b1',b2',b3',b4',b5',b6',view,hbad e]
     exact h
    ·have b2':¬ (122:Int)<((c.toNat:Nat):Int):=by omega
     have e:okC c=true:=hok.2 (by omega)
     simp only [push_cast,seval,-Nat.reducePow,j0,j3,h',hc,b1',b2']
     exact ⟨h,⟨by omega,by omega⟩,s.length-(i+1),by omega,i+1,by omega,rfl,hgo e,by simp⟩
  ·have h':¬ ((i:Nat):Int)<((s.length:Nat):Int):=by omega
   have e:=hall2 fun k hk=>hn k (by omega)
   simp only [push_cast,seval,-Nat.reducePow,j0,j3,h',e,view]
theorem aP2 (s:Tx):∀ (l:List Tx) (k:Nat),k≤l.length→(∀ j,j<k→ltB (l.getD j []) s=true)→putF s l=l.take k++putF s (l.drop k)
 | l,0,_,_=>by simp
 | [],k+1,h,_=>by simp at h
 | x::r,k+1,h,hj=>by
   have h0:ltB x s=true:=hj 0 (by omega)
   rw [putF,if_pos h0,List.take_succ_cons,List.drop_succ_cons,List.cons_append,aP2 s r k (by simpa using h) fun j hk=>hj (j+1) (by omega)]
theorem t218 (hf:bBx P F T) (l:List Tx) (s:Tx) (hl:l.length≤1000):PTr P (F 218) [.lst 1 (l.map .str),.str s] (.lst 1 ((putF s l).map .str)):=by
 refine ptrC [] hf (by simp) (by simp [V.imm,aBj]) ?_
 have hln:(l.map V.str).length=l.length:=List.length_map ..
 have hli:=aBj l
 simp only [c218,push_cast,seval,-Nat.reducePow,hln]
 refine aAc (fun m s1=>∃ k,k≤l.length∧m=l.length-k∧(∀ j,j<k→ltB (l.getD j []) s=true)∧s1.env 0=.lst 1 (l.map .str)∧s1.env 1=.str s∧s1.env 5=.int .i64 k) l.length ⟨0,?_⟩ fun m s1 hJ=>?_
 ·simp only [push_cast,seval,-Nat.reducePow]
  exact ⟨rfl,fun k hk=>absurd hk (Nat.not_lt_zero _)⟩
 ·obtain ⟨k,hk,rfl,hn,j0,j1,j5⟩:=hJ
  have hput:=aP2 s l k hk hn
  by_cases h:k<l.length
  ·have h':((k:Nat):Int)<((l.length:Nat):Int):=by omega
   have hg:=aHs h
   have hd:l.drop k=l.getD k []::l.drop (k+1):=by rw [List.drop_eq_getElem_cons h]; simp [List.getD,h]
   cases hb:Op.bytesLess (l.getD k []) s with
   | true =>
     simp only [push_cast,seval,-Nat.reducePow,j0,j1,j5,h',hln,hg,hb]
     refine ⟨h,⟨by omega,by omega⟩,l.length-(k+1),by omega,k+1,by omega,rfl,fun j hj=>?_,by simp⟩
     by_cases hjk:j=k
     ·rw [hjk]; exact hb
     ·exact hn j (by omega)
   | false =>
     have hb':¬ ltB (l.getD k []) s=true:=by show ¬ Op.bytesLess (l.getD k []) s=true; rw [hb]; simp
     rw [hd,putF,if_neg hb'] at hput
     by_cases e:l.getD k []=s
     ·rw [if_pos e,← hd,List.take_append_drop] at hput
      rw [e] at hb
      simp only [push_cast,seval,-Nat.reducePow,j0,j1,j5,h',hln,hg,hb,e,hput]
      exact ⟨h,h,by simp only [view]⟩
     ·rw [if_neg e] at hput
      have hdm:(l.drop k).map V.str=(l.map V.str).drop k:=List.map_drop
      have htm:(l.take k).map V.str=(l.map V.str).take k:=List.map_take
      have hdl:(List.drop k (l.map V.str)).length=l.length-k:=by rw [List.length_drop,hln]
      have hres:(putF s l).map V.str=(l.map V.str).take k++(V.str s::(l.map V.str).drop k):=by rw [hput,← hd,List.map_append,List.map_cons,hdm,htm]
      obtain ⟨A,hA⟩:∃ A,(l.map V.str).take k=A:=⟨_,rfl⟩
      have hlen2:A.length=k:=by rw [← hA,List.length_take,hln]; omega
      have hkl:List.take (l.length-k) (List.drop k (l.map V.str))=List.drop k (l.map V.str):=List.take_of_length_le (by omega)
      rw [hA] at hres
      have hml:List.take l.length (l.map V.str)=l.map V.str:=List.take_of_length_le (by omega)
      simp only [push_cast,seval,-Nat.reducePow,j0,j1,j5,h',hln,hg,hb,e,hres,hA]
      refine ⟨h,h,hk,aC1 ?_⟩
      cases A with
      | nil =>
        simp only [List.length_nil] at hlen2
        subst hlen2
        simp only [push_cast,seval,-Nat.reducePow,j0,j1,j5,hln,hml]
        refine aC1 ?_
        simp only [push_cast,seval,-Nat.reducePow,j0,j1,j5,hln,hml]
        exact ⟨by omega,by omega,aEs (aAe _ _ _) (by simp [V.imms,V.imm,hli]) (by simp; omega)⟩
      | cons x r =>
        have e1:List.take (r.length+1) (r++[V.str s])=r++[V.str s]:=List.take_of_length_le (by simp)
        rw [List.length_cons] at hlen2
        simp only [push_cast,seval,-Nat.reducePow,j0,j1,j5,hln,hml,List.take_length,e1,hdl]
        refine ⟨by omega,by omega,hk,by simp,by omega,?_⟩
        have hxr:V.imms (x::r)=true:=by rw [← hA,← htm]; exact aBj _
        have hdi:V.imms (List.drop k (l.map V.str))=true:=by rw [← hdm]; exact aBj _
        have hz:x::(r++[V.str s]++List.drop k (l.map V.str))=x::(r++V.str s::List.drop k (l.map V.str)):=by simp
        rw [hz]
        refine aEs (aAe _ _ _) ?_ (by simp; omega)
        rw [← List.cons_append,aBc,hxr,Bool.true_and]
        simp only [V.imms,V.imm,hdi,Bool.true_and]
  ·have h':¬ ((k:Nat):Int)<((l.length:Nat):Int):=by omega
   obtain rfl:k=l.length:=by omega
   rw [List.drop_length,List.take_length,putF] at hput
   have hres:(putF s l).map V.str=l.map V.str++[V.str s]:=by rw [hput]; simp
   have hml:List.take l.length (l.map V.str)=l.map V.str:=List.take_of_length_le (by omega)
   have hdz:List.drop l.length (l.map V.str)=[]:=List.drop_of_length_le (by omega)
   obtain ⟨A,hA⟩:∃ A,l.map V.str=A:=⟨_,rfl⟩
   have hlen2:A.length=l.length:=by rw [← hA,hln]
   rw [hA] at hres hml hdz j0 hli
   have hmp:List.map V.str l=A:=hA
   simp only [push_cast,seval,-Nat.reducePow,j0,j1,j5,h',hln,hlen2,hres,hml]
   refine aC1 ?_
   cases A with
   | nil =>
     simp only [push_cast,seval,-Nat.reducePow,j0,j1,j5,hlen2,hml,hdz]
     refine aC1 ?_
     simp only [push_cast,seval,-Nat.reducePow,j0,j1,j5,hlen2,hml,hdz]
     have hl0:l.length=0:=by simpa using hlen2.symm
     have hl1:l=[]:=List.length_eq_zero_iff.1 hl0
     subst hl1
     exact ⟨by simp,by simp,aEs (aAe _ _ _) (by simp [V.imms,V.imm]) (by simp)⟩
   | cons x r =>
     have e1:List.take (r.length+1) (r++[V.str s])=r++[V.str s]:=List.take_of_length_le (by simp)
     rw [List.length_cons] at hlen2
     simp only [push_cast,seval,-Nat.reducePow,j0,j1,j5,hln,hlen2,hml,hdz,List.take_length,e1]
     have e2:List.take l.length (r++[V.str s])=r++[V.str s]:=List.take_of_length_le (by simp; omega)
     rw [e2]
     refine ⟨by omega,by omega,by simp; omega,by omega,aEs (aAe _ _ _) ?_ (by simp; omega)⟩
     rw [← List.cons_append,aBc,hli,Bool.true_and]
     simp only [V.imms,V.imm,Bool.true_and]
theorem bK4 {gs:List Gro} {i:Nat} (h:i<gs.length):∃ q,gs[i]?=some q∧(grV gs).getD i .junk=.agg [.str q.n,.lst 1 (q.m.map .str)]∧q∈gs:=⟨gs[i],by simp [h],by simp [grV,List.getD,h,Gro.v],List.getElem_mem h⟩
theorem t219 (hf:bAy P F T) (h217:aWu P F T) (h193:aR5 P F T) (g:Gro) (u:Tx) (l:List Tx) (hl:l.length≤1000) (hm60:g.m.length≤2^60):PTr P (F 219) [g.v,.str u,.lst 1 (l.map .str)] (.bool (belG u l g)):=by
 refine ptrC [] hf (by simp) rfl ?_
 obtain ⟨gn,ms⟩:=g
 have hm60:ms.length≤2^60:=hm60
 have hln:(ms.map V.str).length=ms.length:=List.length_map ..
 have hmi:=aBj ms
 have hli:=aBj l
 have c1:=t217 h217 u
 simp only [c219,push_cast,seval,-Nat.reducePow,Gro.v,hmi]
 refine aAc (fun m s1=>∃ i,i≤ms.length∧m=ms.length-i∧belG u l ⟨gn,ms⟩=(ms.drop i).any (belM u l)∧s1.env 1=.str u∧s1.env 2=.lst 1 (l.map .str)∧s1.env 3=.ptr 3 0∧s1.L 3=some (.box (T 22) [.str gn,.lst 1 (ms.map .str)])∧s1.env 7=.int .i64 i) ms.length ⟨0,?_⟩ fun m s1 hJ=>?_
 ·simp only [push_cast,seval,-Nat.reducePow]
  exact ⟨rfl,rfl⟩
 ·obtain ⟨i,hi,rfl,hb,j1,j2,j3,jB,j7⟩:=hJ
  by_cases h:i<ms.length
  ·have h':((i:Nat):Int)<((ms.length:Nat):Int):=by omega
   have hg:=aHs h
   have hd:ms.drop i=ms.getD i []::ms.drop (i+1):=by rw [List.drop_eq_getElem_cons h]; simp [List.getD,h]
   rw [hd,List.any_cons] at hb
   obtain ⟨m,hm⟩:∃ m,ms.getD i []=m:=⟨_,rfl⟩
   rw [hm] at hg hb
   have c2:=t193 h193 l (m.drop 1) (by omega)
   have go:belM u l m=false→belG u l ⟨gn,ms⟩=(ms.drop (i+1)).any (belM u l):=fun e=>by rw [hb,e,Bool.false_or]
   have hit:belM u l m=true→belG u l ⟨gn,ms⟩=true:=fun e=>by rw [hb,e,Bool.true_or]
   have tailG:∀ (z:Bool),z=(decide (0<m.length)&&decide ((m.getD 0 0).toNat=64)&&l.contains (m.drop 1))→(aOo u&&decide (m=u))=false→belM u l m=z:=fun z hz e=>by unfold belM; rw [e,Bool.false_or,hz]
   simp only [push_cast,seval,-Nat.reducePow,j1,j2,j3,jB,j7,h',hln,hg]
   refine ⟨h,aAb c1 (by simp only [push_cast,seval,-Nat.reducePow]) (by simp only [push_cast,seval,-Nat.reducePow]) ?_⟩
   cases hnb:aOo u with
   | true =>
     by_cases hmu:m=u
     ·have e:belM u l m=true:=by unfold belM; simp [hnb,hmu]
      subst hmu
      simp only [push_cast,seval,-Nat.reducePow,j1,j2,j3,jB,j7,hnb,view,hit e]
     ·have hmu':decide (m=u)=false:=decide_eq_false hmu
      have key:belM u l m=(decide (0<m.length)&&decide ((m.getD 0 0).toNat=64)&&l.contains (m.drop 1)):=tailG _ rfl (by simp [hnb,hmu])
      by_cases b1:0<m.length
      ·have b1':(0:Int)<((m.length:Nat):Int):=by omega
       have b1n:1≤m.length:=b1
       have hti:(1:Int).toNat=1:=rfl
       have htl:List.take m.length m=m:=List.take_length
       by_cases b2:(m.getD 0 0).toNat=64
       ·have b2':(((m.getD 0 0).toNat:Nat):Int)=64:=by omega
        rw [decide_eq_true b1,decide_eq_true b2,Bool.true_and,Bool.true_and] at key
        simp only [push_cast,seval,-Nat.reducePow,j1,j2,j3,jB,j7,hnb,hmu,b1,b1',b2',b1n,htl]
        refine aAb c2 (by simp only [push_cast,seval,-Nat.reducePow,hli]) (by simp only [push_cast,seval,-Nat.reducePow]) ?_
        cases e:l.contains (m.drop 1) with
        | true =>
          rw [e] at key
          simp only [push_cast,seval,-Nat.reducePow,j1,j2,j3,jB,j7,view,hit key]
        | false =>
          rw [e] at key
          simp only [push_cast,seval,-Nat.reducePow,j1,j2,j3,jB,j7]
          exact ⟨⟨by omega,by omega⟩,ms.length-(i+1),by omega,i+1,by omega,rfl,go key,by simp⟩
       ·have b2':¬ (((m.getD 0 0).toNat:Nat):Int)=64:=by omega
        rw [decide_eq_true b1,decide_eq_false b2,Bool.true_and,Bool.false_and] at key
        simp only [push_cast,seval,-Nat.reducePow,j1,j2,j3,jB,j7,hnb,hmu,b1,b1',b2']
        exact ⟨⟨by omega,by omega⟩,ms.length-(i+1),by omega,i+1,by omega,rfl,go key,by simp⟩
      ·have b1':¬ (0:Int)<((m.length:Nat):Int):=by omega
       rw [decide_eq_false b1,Bool.false_and,Bool.false_and] at key
       simp only [push_cast,seval,-Nat.reducePow,j1,j2,j3,jB,j7,hnb,hmu,b1']
       exact ⟨⟨by omega,by omega⟩,ms.length-(i+1),by omega,i+1,by omega,rfl,go key,by simp⟩
   | false =>
     have key:belM u l m=(decide (0<m.length)&&decide ((m.getD 0 0).toNat=64)&&l.contains (m.drop 1)):=tailG _ rfl (by simp [hnb])
     by_cases b1:0<m.length
     ·have b1':(0:Int)<((m.length:Nat):Int):=by omega
      have b1n:1≤m.length:=b1
      have hti:(1:Int).toNat=1:=rfl
      have htl:List.take m.length m=m:=List.take_length
      by_cases b2:(m.getD 0 0).toNat=64
      ·have b2':(((m.getD 0 0).toNat:Nat):Int)=64:=by omega
       rw [decide_eq_true b1,decide_eq_true b2,Bool.true_and,Bool.true_and] at key
       simp only [push_cast,seval,-Nat.reducePow,j1,j2,j3,jB,j7,hnb,b1,b1',b2',b1n,htl]
       refine aAb c2 (by simp only [push_cast,seval,-Nat.reducePow,hli]) (by simp only [push_cast,seval,-Nat.reducePow]) ?_
       cases e:l.contains (m.drop 1) with
       | true =>
         rw [e] at key
         simp only [push_cast,seval,-Nat.reducePow,j1,j2,j3,jB,j7,view,hit key]
       | false =>
         rw [e] at key
         simp only [push_cast,seval,-Nat.reducePow,j1,j2,j3,jB,j7]
         exact ⟨⟨by omega,by omega⟩,ms.length-(i+1),by omega,i+1,by omega,rfl,go key,by simp⟩
      ·have b2':¬ (((m.getD 0 0).toNat:Nat):Int)=64:=by omega
       rw [decide_eq_true b1,decide_eq_false b2,Bool.true_and,Bool.false_and] at key
       simp only [push_cast,seval,-Nat.reducePow,j1,j2,j3,jB,j7,hnb,b1,b1',b2']
       exact ⟨⟨by omega,by omega⟩,ms.length-(i+1),by omega,i+1,by omega,rfl,go key,by simp⟩
     ·have b1':¬ (0:Int)<((m.length:Nat):Int):=by omega
      rw [decide_eq_false b1,Bool.false_and,Bool.false_and] at key
      simp only [push_cast,seval,-Nat.reducePow,j1,j2,j3,jB,j7,hnb,b1']
      exact ⟨⟨by omega,by omega⟩,ms.length-(i+1),by omega,i+1,by omega,rfl,go key,by simp⟩
  ·have h':¬ ((i:Nat):Int)<((ms.length:Nat):Int):=by omega
   obtain rfl:i=ms.length:=by omega
   rw [List.drop_length,List.any_nil] at hb
   simp only [push_cast,seval,-Nat.reducePow,j1,j2,j3,jB,j7,h',hln,hb,view]
theorem aKt (u:Tx):∀ (a b:List Gro) (l:List Tx),rndF u (a++b) l=rndF u b (rndF u a l)
 | [],b,l=>rfl
 | g::a,b,l=>by simp only [List.cons_append,rndF]; exact aKt u a b _
theorem t209 (hf:bGj P F T) (h217:aWu P F T) (h193:aR5 P F T) (h218:bBx P F T) (h219:bAy P F T) (gs:List Gro) (rv dv:List V) (hrv:V.imms rv=true) (hdv:V.imms dv=true) (u:Tx) (hgl:gs.length≤100) (hm:∀ g,g∈gs→g.m.length≤2^60) :
 PTr P (F 209) [.agg [.lst 2 (grV gs),.lst 6 rv,.lst 5 dv],.str u] (.lst 1 ((grpF u gs).map .str)):=by
 refine ptrC [] hf (by simp) (by simp [V.imm,aBj]) ?_
 have hgi:=aIp gs
 have hgn:=aQ5 gs
 have c1:=t217 h217 u
 have c2:=t218 h218 [aT] uT (by simp)
 have hp0:putF uT [aT]=[aT,uT]:=rfl
 rw [hp0] at c2
 simp only [aT,uT,List.map_cons,List.map_nil] at c2
 simp only [c209,push_cast,seval,-Nat.reducePow,hgi,hrv,hdv]
 have g0s:=aTa u
 have g0g:=aS4 u gs
 refine aAl (fun s=>s.env 1=.str u∧s.env 2=.ptr 2 0∧s.L 2=some (.box (T 16) [.lst 2 (grV gs),.lst 6 rv,.lst 5 dv])∧s.env 5=.lst 1 ((grp0 u).map .str)∧3≤s.nx) ?_ ?_
 ·simp only [push_cast,seval,-Nat.reducePow]
  refine aAb c1 (by simp only [push_cast,seval,-Nat.reducePow]) (by simp only [push_cast,seval,-Nat.reducePow]) ?_
  cases hn:aOo u with
  | true =>
    have e:grp0 u=[aT,uT]:=by unfold grp0; rw [hn]; rfl
    rw [e]
    simp only [push_cast,seval,-Nat.reducePow]
    refine aAb c2 (by simp only [push_cast,seval,-Nat.reducePow]) (by simp only [push_cast,seval,-Nat.reducePow]) ?_
    simp only [push_cast,seval,-Nat.reducePow,aT,uT]
  | false =>
    have e:grp0 u=[aT]:=by unfold grp0; rw [hn]; rfl
    rw [e]
    simp only [push_cast,seval,-Nat.reducePow,aT]
 ·rintro s0 ⟨k1,k2,kB,k5,kn⟩
  simp only [push_cast,seval,-Nat.reducePow,k1,k2,kB,k5]
  refine aAc (fun m s=>∃ (l:List Tx) (n:Int),m=2*(gs.length+3-l.length)+(if n<l.length then 1 else 0)∧srt l∧(∀ x,x∈l→isG gs x)∧((n<l.length∧∃ k,gs.length+3≤k+l.length∧grpF u gs=itF u gs k l)∨(¬ n<l.length∧grpF u gs=l)) ∧
   s.env 1=.str u∧s.env 2=.ptr 2 0∧s.L 2=some (.box (T 16) [.lst 2 (grV gs),.lst 6 rv,.lst 5 dv])∧s.env 5=.lst 1 (l.map .str)∧s.env 6=.int .i64 n∧3≤s.nx) (2*(gs.length+3-(grp0 u).length)+1) ⟨grp0 u,-1,?_⟩ fun m s hJ=>?_
  ·have hneg:(-1:Int)<(((grp0 u).length:Nat):Int):=by omega
   simp only [push_cast,seval,-Nat.reducePow,k1,k2,kB,k5,hneg]
   exact ⟨g0s,g0g,.inl ⟨gs.length+4,by omega,rfl⟩⟩
  ·obtain ⟨l,n,rfl,hs,hg,hcase,j1,j2,jB,j5,j6,jn⟩:=hJ
   have hll:=aQj hs hg
   have hln:(l.map V.str).length=l.length:=List.length_map ..
   rcases hcase with ⟨hlt,k,hk,hgr⟩ | ⟨hnl,hgr⟩
   ·simp only [push_cast,seval,-Nat.reducePow,j1,j2,jB,j5,j6,hln,hlt]
    refine aAc (fun m s=>∃ i,i≤gs.length∧m=gs.length-i∧s.env 1=.str u∧s.env 2=.ptr 2 0∧s.L 2=some (.box (T 16) [.lst 2 (grV gs),.lst 6 rv,.lst 5 dv])∧s.env 5=.lst 1 ((rndF u (gs.take i) l).map .str)∧s.env 6=.int .i64 l.length∧s.env 7=.int .i64 i∧3≤s.nx) gs.length ⟨0,?_⟩ fun m s hJ=>?_
    ·simp only [push_cast,seval,-Nat.reducePow,j1,j2,jB,j5,j6,rndF]
     exact rfl
    ·obtain ⟨i,hi,rfl,i1,i2,iB,i5,i6,i7,in_⟩:=hJ
     have hsub:∀ g,g∈gs.take i→g∈gs:=fun g h=>List.mem_of_mem_take h
     obtain ⟨a1,a2,a3,a4,a5,a6⟩:=aJs u gs (gs.take i) l hsub hs hg
     have hrl:=aQj a1 a2
     obtain ⟨R,hR⟩:∃ R,rndF u (gs.take i) l=R:=⟨_,rfl⟩
     rw [hR] at i5 a1 a2 hrl
     have hRi:=aBj R
     by_cases h:i<gs.length
     ·have h':((i:Nat):Int)<((gs.length:Nat):Int):=by omega
      obtain ⟨q,hq,hqv,hqm⟩:=bK4 h
      have ht:gs.take (i+1)=gs.take i++[q]:=by rw [List.take_add_one,hq]; rfl
      have hR2:rndF u (gs.take (i+1)) l=if belG u R q then putF q.n R else R:=by rw [ht,aKt,hR]; rfl
      have cb:=t219 h219 h217 h193 q u R (by omega) (hm q hqm)
      have cp:=t218 h218 R q.n (by omega)
      have hqi:=aBj q.m
      simp only [Gro.v] at cb
      simp only [push_cast,seval,-Nat.reducePow,i1,i2,iB,i5,i6,i7,h',hgn,hqv]
      refine ⟨h,aAb cb (by simp only [push_cast,seval,-Nat.reducePow,hqi,hRi]) (by simp only [push_cast,seval,-Nat.reducePow]) ?_⟩
      cases hb:belG u R q with
      | true =>
        rw [hb,if_pos rfl] at hR2
        simp only [push_cast,seval,-Nat.reducePow,i1,i2,iB,i5,i6,i7,hgn,hqv,h]
        refine aAb cp (by simp only [push_cast,seval,-Nat.reducePow,hRi]) (by simp only [V.imm]; exact aBj _) ?_
        simp only [push_cast,seval,-Nat.reducePow,i1,i2,iB,i5,i6,i7]
        exact ⟨⟨by omega,by omega⟩,gs.length-(i+1),by omega,i+1,by omega,rfl,by rw [hR2],by simp⟩
      | false =>
        rw [hb,if_neg (by simp)] at hR2
        simp only [push_cast,seval,-Nat.reducePow,i1,i2,iB,i5,i6,i7]
        exact ⟨⟨by omega,by omega⟩,gs.length-(i+1),by omega,i+1,by omega,rfl,by rw [hR2],by simp⟩
     ·have h':¬ ((i:Nat):Int)<((gs.length:Nat):Int):=by omega
      obtain rfl:i=gs.length:=by omega
      rw [List.take_length] at hR a3 a4 a5 a6
      rw [hR] at a3 a4 a5 a6
      obtain ⟨k,rfl⟩:∃ k',k=k'+1:=⟨k-1,by omega⟩
      rw [itF,hR] at hgr
      simp only [push_cast,seval,-Nat.reducePow,i1,i2,iB,i5,i6,i7,h',hgn]
      by_cases hgrow:l.length<R.length
      ·have hgrow':((l.length:Nat):Int)<((R.length:Nat):Int):=by omega
       rw [if_pos hgrow] at hgr
       exact ⟨2*(gs.length+3-R.length)+1,by omega,R,l.length,by rw [if_pos hgrow'],a1,a2,.inl ⟨hgrow',k,by omega,hgr⟩,rfl,rfl⟩
      ·have hgrow':¬ ((l.length:Nat):Int)<((R.length:Nat):Int):=by omega
       rw [if_neg hgrow] at hgr
       exact ⟨2*(gs.length+3-R.length)+0,by omega,R,l.length,by rw [if_neg hgrow'],a1,a2,.inr ⟨hgrow',hgr⟩,rfl,rfl⟩
   ·simp only [push_cast,seval,-Nat.reducePow,j1,j2,jB,j5,j6,hln,hnl,hgr]
    simp only [view]
end Go.Ab
namespace Go.Ab
variable {P:Program} {F T:Nat→Nat}
structure RGrC (P:Program) (F T:Nat→Nat):Prop where
 h209:bGj P F T
 h217:aWu P F T
 h193:aR5 P F T
 h218:bBx P F T
 h219:bAy P F T
theorem bHj (R:RGrC P F T) {gs:List Gro} {rs:List Rul} {ds:List Grd} (hG:PolG gs rs ds) (u:Tx):PTr P (F 209) [.agg [.lst 2 (grV gs),.lst 6 (ruV rs),.lst 5 (gdV ds)],.str u] (.lst 1 ((grpF u gs).map .str)) :=
 t209 R.h209 R.h217 R.h193 R.h218 R.h219 gs _ _ (aE7 rs) (aIv ds) u (by have:=hG.gl; omega) fun g hg=>by have:=(hG.gm g hg).1; omega
theorem bIl {q:Tx} (h:q∈aJf):q.length≤9:=by
 simp only [aJf,List.mem_cons,List.not_mem_nil,or_false] at h
 rcases h with rfl | rfl | rfl | rfl | rfl | rfl | rfl | rfl | rfl | rfl <;> simp
end Go.Ab
