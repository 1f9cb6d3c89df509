/- Texts of four sections. No condition. -/
import Derived.Test.YtgdllpgidgiccaaGreatDoorAbM1
import Derived.Test.YtgdllpgidgiccaaGreatDoorAbR8
import Derived.Test.YtgdllpgidgiccaaGreatDoorAbZ2
import Derived.Test.YtgdllpgidgiccaaGreatDoorAbZ4
set_option linter.unusedSimpArgs false
set_option linter.unusedVariables false
namespace Go.Ab
open Go.Lib
def hlB (t:List UInt8):List UInt8:=[61,61,32]++t++[32,61,61]
def tbB (x:List UInt8×List UInt8):List UInt8:=hlB x.1++[10]++(x.2++[10])
def catB (l:List (List UInt8×List UInt8)):List UInt8:=l.flatMap tbB
def Cln (w:List UInt8):Prop:=∀ b,b∈w→b≠61∧b≠123∧b≠125∧b≠91∧b≠93∧b≠60∧b≠10
structure TOk (t:List UInt8):Prop where
 hd:aN0 (hlB t)=some (2,t)
 no:∀ b,b∈hlB t→b≠10∧b≠125∧b≠93∧b≠60
theorem aFw (x:List UInt8×List UInt8) (r:List (List UInt8×List UInt8)):catB (x::r)=tbB x++catB r:=rfl
theorem bGb {s:List UInt8} (h:∀ b,b∈s→b≠61):runL 61 s=0:=by
 cases s with
 | nil=>rfl
 | cons x r=>simp [runL,h x (by simp)]
theorem aQk {s:List UInt8} (h:∀ b,b∈s→b≠61):aN0 s=none:=by
 have h1:∀ b,b∈trimRightS s wsp→b≠61:=fun b hb=>h b (by
  unfold trimRightS at hb
  rw [List.mem_reverse] at hb
  exact List.mem_reverse.1 ((List.dropWhile_suffix _).subset hb))
 unfold aN0
 rw [if_pos (.inl (bGb h1))]
theorem aUn:∀ {l r:List UInt8},(∀ b,b∈l→b≠10)→aCt (l++10::r)=l.length
 | [],r,_=>by simp [aCt]
 | x::l,r,h=>by
   have ih:=aUn (l:=l) (r:=r) fun b hb=>h b (by simp [hb])
   rw [List.cons_append,aCt,if_neg (h x (by simp)),ih,List.length_cons]
theorem aNs {s pre l rest:List UInt8} (hs:s=pre++(l++10::rest)) (hl:∀ b,b∈l→b≠10) (n:Nat) :
 rawF s (List.replicate s.length true) (n+1) pre.length=(match aN0 l with | some (k,t)=>[⟨k,t,pre.length,pre.length+l.length+1,s.length⟩] | none=>[])++rawF s (List.replicate s.length true) n (pre++l++[10]).length:=by
 have hlen:s.length=pre.length+(l.length+(rest.length+1)):=by rw [hs]; simp
 have hd:s.drop pre.length=l++10::rest:=by rw [hs]; simp
 have hE:aBz s pre.length=pre.length+l.length:=by unfold aBz; rw [hd,aUn hl]
 have hm:min (aBz s pre.length+1) s.length=pre.length+l.length+1:=by omega
 have ht:(s.take (aBz s pre.length)).drop pre.length=l:=by
  rw [hE,hs,List.take_append,List.take_of_length_le (by omega),Nat.add_sub_cancel_left,List.drop_left]
  simp
 have hall:(((List.replicate s.length true).take (aBz s pre.length)).drop pre.length).all id=true:=by
  rw [List.all_eq_true]
  intro b hb
  have:=List.mem_of_mem_take (List.mem_of_mem_drop hb)
  rw [(List.mem_replicate.1 this).2]
  rfl
 rw [rawF,if_pos (by omega)]
 have hn:min (aBz s pre.length+1) s.length=(pre++l++[10]).length:=by rw [hm]; simp; omega
 rw [hn]
 congr 1
 unfold aDi
 rw [if_pos hall,ht,hm]
 rfl
def secB (off:Nat):List (List UInt8×List UInt8)→List Sec
 | []=>[]
 | x::r=>⟨2,x.1,off,off+(hlB x.1).length+1,off+(tbB x).length⟩::secB (off+(tbB x).length) r
def rawB (N off:Nat):List (List UInt8×List UInt8)→List Sec
 | []=>[]
 | x::r=>⟨2,x.1,off,off+(hlB x.1).length+1,N⟩::rawB N (off+(tbB x).length) r
theorem aUc (N:Nat):∀ (l:List (List UInt8×List UInt8)) (off:Nat),N=off+(catB l).length→toF (rawB N off l)=secB off l
 | [],_,_=>rfl
 | x::r,off,h=>by
   rw [aFw,List.length_append] at h
   rw [rawB,secB,toF,aUc N r _ (by omega)]
   congr 1
   unfold toOf
   cases r with
   | nil=>simp [rawB,catB] at h ⊢; omega
   | cons y r2=>simp [rawB]
theorem aMn {s:List UInt8}:∀ (l:List (List UInt8×List UInt8)) (pre:List UInt8) (n:Nat),s=pre++catB l→(∀ x,x∈l→TOk x.1∧Cln x.2)→2*l.length<n→rawF s (List.replicate s.length true) n pre.length=rawB s.length pre.length l
 | [],pre,n,hs,_,hn=>by
   obtain ⟨m,rfl⟩:∃ m,n=m+1:=⟨n-1,by omega⟩
   have:s=pre:=by rw [hs]; simp [catB]
   rw [rawF,if_neg (by rw [this]; omega)]
   rfl
 | x::r,pre,n,hs,h,hn=>by
   obtain ⟨m,rfl⟩:∃ m,n=m+1+1:=⟨n-2,by simp at hn; omega⟩
   obtain ⟨hx1,hx2⟩:=h x (by simp)
   rw [aFw] at hs
   have hs1:s=pre++(hlB x.1++10::(x.2++10::catB r)):=by rw [hs]; simp [tbB]
   have hs2:s=(pre++hlB x.1++[10])++(x.2++10::catB r):=by rw [hs1]; simp
   have hs3:s=(pre++hlB x.1++[10]++x.2++[10])++catB r:=by rw [hs1]; simp
   have e3:(pre++hlB x.1++[10]++x.2++[10]).length=pre.length+(tbB x).length:=by simp only [tbB,List.length_append,List.length_cons,List.length_nil]; omega
   have ih:=aMn r _ m hs3 (fun y hy=>h y (by simp [hy])) (by rw [List.length_cons] at hn; omega)
   rw [aNs hs1 (fun b hb=>(hx1.no b hb).1),aNs hs2 (fun b hb=>(hx2 b hb).2.2.2.2.2.2),ih,hx1.hd,aQk (fun b hb=>(hx2 b hb).1),e3]
   simp [rawB]
theorem aLe {lead:List UInt8} (l:List (List UInt8×List UInt8)) (hl:∀ b,b∈lead→b≠61∧b≠125∧b≠93∧b≠60∧b≠10) (h:∀ x,x∈l→TOk x.1∧Cln x.2):aCc (lead++[10]++catB l)=secB (lead.length+1) l:=by
 obtain ⟨s,hs⟩:∃ s,s=lead++[10]++catB l:=⟨_,rfl⟩
 rw [← hs]
 have hno:∀ b,b∈s→b≠125∧b≠93∧b≠60:=by
  intro b hb
  rw [hs] at hb
  rcases List.mem_append.1 hb with hb | hb
  ·rcases List.mem_append.1 hb with hb | hb
   ·exact ⟨(hl b hb).2.1,(hl b hb).2.2.1,(hl b hb).2.2.2.1⟩
   ·rw [List.mem_singleton.1 hb]; decide
  ·obtain ⟨x,hx,hb⟩:=List.mem_flatMap.1 hb
   obtain ⟨h1,h2⟩:=h x hx
   unfold tbB at hb
   rcases List.mem_append.1 hb with hb | hb
   ·rcases List.mem_append.1 hb with hb | hb
    ·exact (h1.no b hb).2
    ·rw [List.mem_singleton.1 hb]; decide
   ·rcases List.mem_append.1 hb with hb | hb
    ·have:=h2 b hb
     exact ⟨this.2.2.1,this.2.2.2.2.1,this.2.2.2.2.2.1⟩
    ·rw [List.mem_singleton.1 hb]; decide
 have hne:s≠[]:=by rw [hs]; simp
 have hp:aBk s=[tx s]:=by rw [aWz hno,if_neg hne]
 have hlen:(catB l).length≥2*l.length:=by
  clear hp hno hs h
  induction l with
  | nil=>simp
  | cons x r ih=>rw [aFw,List.length_append,List.length_cons]; simp only [tbB,hlB,List.length_append,List.length_cons,List.length_nil]; omega
 have hsl:s.length=lead.length+1+(catB l).length:=by rw [hs]; simp; omega
 have h0:s=[]++(lead++10::catB l):=by rw [hs]; simp
 have h1:s=([]++lead++[10])++catB l:=by rw [hs]; simp
 have hr:=aNs h0 (fun b hb=>(hl b hb).2.2.2.2) s.length
 rw [aQk (fun b hb=>(hl b hb).1),List.nil_append,aMn l _ s.length h1 h (by omega)] at hr
 rw [aCc,hp,bE8]
 have e:([]++lead++[10]:List UInt8).length=lead.length+1:=by simp
 rw [e] at hr
 rw [show (s.length+1)=s.length+1 from rfl]
 have hr':rawF s (List.replicate s.length true) (s.length+1) 0=rawB s.length (lead.length+1) l:=hr
 rw [hr',aUc _ _ _ hsl]
theorem bDh (s:List UInt8) (off:Nat) (l:List (List UInt8×List UInt8)) (h:s.length=off+(catB l).length):nxF s (secB off l)=off:=by
 cases l with
 | nil=>simp [catB] at h; exact h
 | cons x r=>rfl
theorem aNa {s:List UInt8}:∀ (l:List (List UInt8×List UInt8)) (pre:List UInt8) (p:List Sec),s=pre++catB l→(l.map Prod.fst).Pairwise (·≠·)→(∀ y,y∈p→y.title∉l.map Prod.fst)→uGo s p (secB pre.length l)=l.map fun x=>⟨x.1,0,tbB x⟩
 | [],_,_,_,_,_=>rfl
 | x::r,pre,p,hs,hd,hp=>by
   rw [List.map_cons,List.pairwise_cons] at hd
   rw [aFw] at hs
   have hs2:s=(pre++tbB x)++catB r:=by rw [hs,List.append_assoc]
   have hlen:s.length=pre.length+(tbB x).length+(catB r).length:=by rw [hs2]; simp only [List.length_append]
   have hc:cntT p x.1=0:=by
    unfold cntT
    rw [List.length_eq_zero_iff,List.filter_eq_nil_iff]
    intro y hy
    simp only [decide_eq_true_eq]
    intro e
    exact hp y hy (by rw [e]; simp)
   have ht:(s.take (pre.length+(tbB x).length)).drop pre.length=tbB x:=by
    rw [hs2,List.take_append,List.take_of_length_le (by simp)]
    simp
   have ih:=aNa r (pre++tbB x) (p++[⟨2,x.1,pre.length,pre.length+(hlB x.1).length+1,pre.length+(tbB x).length⟩]) hs2 hd.2 (fun y hy=>by
    rcases List.mem_append.1 hy with hy | hy
    ·have:=hp y hy
     rw [List.map_cons,List.mem_cons,not_or] at this
     exact this.2
    ·rw [List.mem_singleton.1 hy]
     intro hm
     exact hd.1 _ hm rfl)
   rw [secB,uGo,bDh s _ r hlen,ht,List.map_cons]
   rw [List.length_append] at ih
   rw [ih]
   show (⟨x.1,cntT p x.1,tbB x⟩:Un)::_=_
   rw [hc]
theorem aQz {lead:List UInt8} (l:List (List UInt8×List UInt8)) (hl:∀ b,b∈lead→b≠61∧b≠125∧b≠93∧b≠60∧b≠10) (h:∀ x,x∈l→TOk x.1∧Cln x.2) (hd:(l.map Prod.fst).Pairwise (·≠·)) :
 aAg (lead++[10]++catB l)=⟨[],0,lead++[10]⟩::l.map fun x=>⟨x.1,0,tbB x⟩:=by
 have hs:=aLe l hl h
 have hlen:(lead++[10]).length=lead.length+1:=by simp
 have hu:=aNa (s:=lead++[10]++catB l) l (lead++[10]) [] rfl hd (fun y hy=>by cases hy)
 rw [hlen] at hu
 rw [aAg,hs,hu]
 congr 2
 unfold aK1
 rw [hs]
 cases l with
 | nil=>simp [secB,catB]
 | cons x r =>
   show (lead++[10]++catB (x::r)).take (lead.length+1)=_
   rw [← hlen,List.take_left]
theorem aK9 {s:List UInt8}:∀ (l:List (List UInt8×List UInt8)) (pre:List UInt8) (k:Nat),s=pre++catB l→k<l.length→(s.take ((secB pre.length l).getD k zsec).to).drop ((secB pre.length l).getD k zsec).bd=(l.getD k ([],[])).2++[10]
 | [],_,k,_,hk=>by simp at hk
 | x::r,pre,0,hs,_=>by
   rw [aFw] at hs
   have e1:((secB pre.length (x::r)).getD 0 zsec).to=pre.length+(tbB x).length:=rfl
   have e2:((secB pre.length (x::r)).getD 0 zsec).bd=pre.length+(hlB x.1).length+1:=rfl
   rw [e1,e2]
   have hs2:s=(pre++tbB x)++catB r:=by rw [hs,List.append_assoc]
   have h1:s.take (pre.length+(tbB x).length)=pre++tbB x:=by
    rw [hs2,← List.length_append,List.take_left]
   have h2:pre++tbB x=(pre++hlB x.1++[10])++(x.2++[10]):=by simp [tbB]
   have h3:pre.length+(hlB x.1).length+1=(pre++hlB x.1++[10]).length:=by simp only [List.length_append,List.length_cons,List.length_nil]
   rw [h1,h2,h3,List.drop_left]
   rfl
 | x::r,pre,k+1,hs,hk=>by
   rw [aFw] at hs
   have hs2:s=(pre++tbB x)++catB r:=by rw [hs,List.append_assoc]
   have ih:=aK9 r (pre++tbB x) k hs2 (by simp at hk; omega)
   rw [List.length_append] at ih
   exact ih
def aHg:List UInt8:=[108,101,97,100]
def oldB:List UInt8:=[111,108,100]
def blsB (w:Nat→List UInt8):List (List UInt8×List UInt8):=[([65],w 0),([66],w 1),([67],w 2),([68],w 3)]
def bldB (w:Nat→List UInt8):List UInt8:=aHg++[10]++catB (blsB w)
theorem bL3:TOk [65]:=⟨by decide,by decide⟩
theorem bMw:TOk [66]:=⟨by decide,by decide⟩
theorem bM0:TOk [67]:=⟨by decide,by decide⟩
theorem bMe:TOk [68]:=⟨by decide,by decide⟩
theorem bFx {w:Nat→List UInt8} (h:∀ k,Cln (w k)):∀ x,x∈blsB w→TOk x.1∧Cln x.2:=by
 intro x hx
 simp only [blsB,List.mem_cons,List.not_mem_nil,or_false] at hx
 rcases hx with rfl | rfl | rfl | rfl
 ·exact ⟨bL3,h 0⟩
 ·exact ⟨bMw,h 1⟩
 ·exact ⟨bM0,h 2⟩
 ·exact ⟨bMe,h 3⟩
theorem bBg:∀ b,b∈aHg→b≠61∧b≠125∧b≠93∧b≠60∧b≠10:=by decide
theorem aC3 {w:Nat→List UInt8} (h:∀ k,Cln (w k)):aAg (bldB w)=[⟨[],0,aHg++[10]⟩,⟨[65],0,tbB ([65],w 0)⟩,⟨[66],0,tbB ([66],w 1)⟩,⟨[67],0,tbB ([67],w 2)⟩,⟨[68],0,tbB ([68],w 3)⟩] :=
 aQz (blsB w) bBg (bFx h) (by simp [blsB])
theorem aKx {t a b:List UInt8} (h:tbB (t,a)=tbB (t,b)):a=b:=by
 unfold tbB at h
 exact List.append_cancel_right (List.append_cancel_left h)
theorem aSe {w v:Nat→List UInt8} (hw:∀ k,Cln (w k)) (hv:∀ k,Cln (v k)) (h:bldB w=bldB v):w 0=v 0∧w 1=v 1∧w 2=v 2∧w 3=v 3:=by
 have h1:=congrArg aAg h
 rw [aC3 hw,aC3 hv] at h1
 simp only [List.cons.injEq,Un.mk.injEq,true_and,and_true] at h1
 exact ⟨aKx h1.1,aKx h1.2.1,aKx h1.2.2.1,aKx h1.2.2.2⟩
theorem bBd {w v:Nat→List UInt8} (h0:w 0=v 0) (h1:w 1=v 1) (h2:w 2=v 2) (h3:w 3=v 3):bldB w=bldB v:=by
 unfold bldB blsB
 rw [h0,h1,h2,h3]
def newB (o x y:List UInt8):List UInt8:=if x=o then y else x
theorem aXq {o x y:List UInt8} (h:x=o∨y=o):aCz (some o) (some x) (some y)=(some (newB o x y),false):=by
 unfold aCz newB
 by_cases h1:x=y
 ·subst h1; by_cases h2:x=o <;> simp [h2]
 ·by_cases h2:x=o
  ·subst h2; simp [h1]
  ·rcases h with h | h
   ·exact absurd h h2
   ·subst h; simp [h1,h2]
theorem aEa {t o x y:List UInt8} (h:x=o∨y=o):aCz (some (tbB (t,o))) (some (tbB (t,x))) (some (tbB (t,y)))=(some (tbB (t,newB o x y)),false):=by
 rw [aXq (by rcases h with rfl | rfl <;> simp)]
 unfold newB
 by_cases e:x=o
 ·subst e; simp
 ·rw [if_neg e,if_neg fun hh=>e (aKx hh)]
theorem aZh {wb wx wy:Nat→List UInt8} (hb:∀ k,Cln (wb k)) (hx:∀ k,Cln (wx k)) (hy:∀ k,Cln (wy k)) (h:∀ k,wx k=wb k∨wy k=wb k) :
 aIm (bldB wb) (bldB wx) (bldB wy)=(bldB fun k=>newB (wb k) (wx k) (wy k),[]):=by
 have hn:∀ k,Cln (newB (wb k) (wx k) (wy k)):=fun k=>by unfold newB; split; exact hy k; exact hx k
 unfold aIm
 by_cases h1:bldB wx=bldB wb∨bldB wx=bldB wy
 ·rw [if_pos h1]
  congr 1
  rcases h1 with h1 | h1
  ·obtain ⟨a0,a1,a2,a3⟩:=aSe hx hb h1
   exact bBd (by simp [newB,a0]) (by simp [newB,a1]) (by simp [newB,a2]) (by simp [newB,a3])
  ·obtain ⟨a0,a1,a2,a3⟩:=aSe hx hy h1
   exact bBd (by simp [newB,a0]) (by simp [newB,a1]) (by simp [newB,a2]) (by simp [newB,a3])
 rw [if_neg h1]
 by_cases h2:bldB wy=bldB wb
 ·rw [if_pos h2]
  congr 1
  obtain ⟨a0,a1,a2,a3⟩:=aSe hy hb h2
  have e:∀ o x:List UInt8,x=newB o x o:=fun o x=>by unfold newB; split <;> first | assumption | rfl
  exact bBd (by simp only [a0]; exact e _ _) (by simp only [a1]; exact e _ _) (by simp only [a2]; exact e _ _) (by simp only [a3]; exact e _ _)
 rw [if_neg h2]
 have hord:aDr (aAg (bldB wx)) (aAg (bldB wy))=aAg (bldB wx):=aVz (by rw [aC3 hx,aC3 hy]; rfl)
 have hl:aCz (some (aHg++[10])) (some (aHg++[10])) (some (aHg++[10]))=(some (aHg++[10]),false):=by unfold aCz; rw [if_pos rfl]
 simp only [hord]
 have hjoin:=aM0 (bldB fun k=>newB (wb k) (wx k) (wy k))
 rw [aC3 hn] at hjoin
 have g:∀ w:Nat→List UInt8,(∀ k,Cln (w k))→(txtU (aAg (bldB w)) ([],0)=some (aHg++[10])∧txtU (aAg (bldB w)) ([65],0)=some (tbB ([65],w 0))∧txtU (aAg (bldB w)) ([66],0)=some (tbB ([66],w 1))∧txtU (aAg (bldB w)) ([67],0)=some (tbB ([67],w 2))∧txtU (aAg (bldB w)) ([68],0)=some (tbB ([68],w 3))):=fun w hw=>by
  rw [aC3 hw]
  refine ⟨?_,?_,?_,?_,?_⟩ <;> simp [aKy,Un.nm]
 obtain ⟨b0,b1,b2,b3,b4⟩:=g wb hb
 obtain ⟨x0,x1,x2,x3,x4⟩:=g wx hx
 obtain ⟨y0,y1,y2,y3,y4⟩:=g wy hy
 have hr:aKd (aAg (bldB wb)) (aAg (bldB wx)) (aAg (bldB wy)) (aAg (bldB wx))=[⟨[],0,aHg++[10]⟩,⟨[65],0,tbB ([65],newB (wb 0) (wx 0) (wy 0))⟩,⟨[66],0,tbB ([66],newB (wb 1) (wx 1) (wy 1))⟩,⟨[67],0,tbB ([67],newB (wb 2) (wx 2) (wy 2))⟩,⟨[68],0,tbB ([68],newB (wb 3) (wx 3) (wy 3))⟩]:=by
  rw [aKg,show (aAg (bldB wx)).map Un.nm=[([],0),([65],0),([66],0),([67],0),([68],0)] from by rw [aC3 hx]; rfl]
  simp only [aOl,List.filterMap_cons,List.filterMap_nil,b0,b1,b2,b3,b4,x0,x1,x2,x3,x4,y0,y1,y2,y3,y4,hl,aEa (h 0),aEa (h 1),aEa (h 2),aEa (h 3),Option.map_some]
 have hc:aGg (aAg (bldB wb)) (aAg (bldB wx)) (aAg (bldB wy)) (aAg (bldB wx))=[]:=by
  rw [aZb,show (aAg (bldB wx)).map Un.nm=[([],0),([65],0),([66],0),([67],0),([68],0)] from by rw [aC3 hx]; rfl]
  simp [aY2,List.filter_cons,b0,b1,b2,b3,b4,x0,x1,x2,x3,x4,y0,y1,y2,y3,y4,hl,aEa (h 0),aEa (h 1),aEa (h 2),aEa (h 3)]
 rw [hr,hc,hjoin]
theorem aUu {w:Nat→List UInt8} (h:∀ k,Cln (w k)):aCc (bldB w)=secB 5 (blsB w):=aLe (blsB w) bBg (bFx h)
theorem aVe {w:Nat→List UInt8} (h:∀ k,Cln (w k)) {k:Nat} (hk:k<4):bEg (bldB w) k=w k++[10]:=by
 have hb:=aK9 (s:=bldB w) (blsB w) (aHg++[10]) k rfl hk
 have hp:aGi (aCc (bldB w)) k=(secB 5 (blsB w)).getD k zsec:=by
  rw [aUu h]
  unfold aGi
  rw [if_pos ⟨by omega,by simp [secB,blsB]; omega⟩]
  simp
 unfold bEg
 rw [hp]
 have hl:(aHg++[10]).length=5:=rfl
 rw [hl] at hb
 rw [hb]
 have:k=0∨k=1∨k=2∨k=3:=by omega
 rcases this with rfl | rfl | rfl | rfl <;> rfl
theorem aLw {w:Nat→List UInt8} (h:∀ k,(w k).length≤100):(bldB w).length≤445:=by
 have h0:=h 0
 have h1:=h 1
 have h2:=h 2
 have h3:=h 3
 simp only [bldB,blsB,catB,List.flatMap_cons,List.flatMap_nil,tbB,hlB,aHg,List.length_append,List.length_cons,List.length_nil]
 omega
end Go.Ab
