/- Several texts of one kind, merged. No condition. -/
import Derived.Test.YtgdllpgidgiccaaGreatDoorAbE5
set_option linter.unusedSimpArgs false
set_option linter.unusedVariables false
namespace Go.Ab
theorem aE1 {L:Heap}:∀ (n:Nat) (v:V),v.imm=true→view L n v=v
 | 0,v,_=>by unfold view; cases v <;> rfl
 | n+1,v,h=>by
   cases v <;> try rfl
   ·simp [V.imm] at h
   ·simp [V.imm] at h
   ·rename_i cs
    simp only [V.imm] at h
    simp only [view]
    rw [show cs.map (view L n)=cs.map id from List.map_congr_left fun x hx=>aE1 n x (aB3 h hx),List.map_id]
   ·rename_i cs
    simp only [V.imm] at h
    simp only [view]
    rw [show cs.map (view L n)=cs.map id from List.map_congr_left fun x hx=>aE1 n x (aB3 h hx),List.map_id]
   ·rename_i cs
    simp only [V.imm] at h
    simp only [view]
    rw [show cs.map (view L n)=cs.map id from List.map_congr_left fun x hx=>aE1 n x (aB3 h hx),List.map_id]
theorem bFd {L:Heap} {i ty z sz n:Nat} {es:List V} (h:L i=some (.vec ty z es)) (hn:n≤es.length) (hi:V.imms es=true):view L 3 (.own i sz 0 n)=.lst sz (es.take n):=by
 simp only [view,h,Nat.zero_add,hn,if_true,List.drop_zero]
 rw [show (es.take n).map (view L 2)=(es.take n).map id from List.map_congr_left fun x hx=>aE1 2 x (aB3 hi (List.mem_of_mem_take hx)),List.map_id]
theorem aLm {L:Heap} {id ty z sz:Nat} {es:List V} (h:L id=some (.vec ty z es)) (hi:V.imms es=true):view L 3 (.own id sz 0 es.length)=.lst sz es:=by
 rw [bFd h (Nat.le_refl _) hi,List.take_length]
def encL (l:List (List Node)):List V:=l.map fun x=>.lst 5 (encs x)
theorem aSg (a b:List (List Node)):encL (a++b)=encL a++encL b:=by simp [encL]
theorem aMg (a:List (List Node)):(encL a).length=a.length:=by simp [encL]
theorem aYp (l:List (List Node)):V.imms (encL l)=true:=aHg _ _ fun a=>by simp [V.imm,aAm]
theorem bGk (a:List (List Node)) (x:List Node) (r:List (List Node)):(encL (a++x::r)).getD a.length .junk=.lst 5 (encs x):=by
 rw [aSg,← aMg a,List.getD_eq_getElem?_getD,List.getElem?_append_right (Nat.le_refl _)]; simp [encL]
attribute [push_cast] aMg aYp bGk
variable {P:Program} {F T:Nat→Nat}
end Go.Ab
namespace Go.Ab
variable {P:Program} {F T:Nat→Nat}
end Go.Ab
namespace Go.Ab
noncomputable def eqB (a b:List Node):Bool:=@decide (a=b) (Classical.propDecidable _)
theorem bJq {a b:List Node} (h:a=b):eqB a b=true:=by unfold eqB; simp [h]
theorem aRi {a b:List Node} (h:a≠b):eqB a b=false:=by unfold eqB; simp [h]
theorem aJh {p r r':List Node} {x y:Node} (h:x≠y):eqB (p++x::r) (p++y::r')=false:=aRi fun e=>h (by simpa using (List.cons.inj (List.append_cancel_left e)).1)
theorem aKt (a:List Node):eqB a a=true:=bJq rfl
variable {P:Program} {F T:Nat→Nat}
theorem aHp {L:Heap} {b:Bool} {n:Nat}:view L n (.bool b)=.bool b:=aE1 n _ rfl
theorem t6' (hf:Is6 P F T):∀ (n:Nat) (l l':List Node),aAk l<n→aAk l≤2^26→PTr P (F 6) [.lst 5 (encs l),.lst 5 (encs l')] (.bool (eqB l l')):=by
 intro n
 induction n with
 | zero=>intro l l' h _; omega
 | succ n ih =>
 intro l l' hn hb
 refine ptrC [] hf (by simp) rfl ?_
 by_cases hl:l.length=l'.length
 case neg =>
  have hl':((l.length:Nat):Int)≠((l'.length:Nat):Int):=by omega
  simp only [c6,push_cast,seval,-Nat.reducePow,hl',aHp]
  rw [aRi fun e=>hl (by rw [e])]
 have hl':((l.length:Nat):Int)=((l'.length:Nat):Int):=by omega
 simp only [c6,push_cast,seval,-Nat.reducePow,hl']
 refine aAe (fun m s=>∃ p r r',l=p++r∧l'=p++r'∧r.length=r'.length∧m=r.length∧s.env 1=.lst 5 (encs (p++r'))∧s.env 16=.lst 5 (encs (p++r))∧s.env 17=.int .i64 (p++r).length∧s.env 18=.int .i64 p.length) l.length ⟨[],l,l',?_⟩ fun m s hJ=>?_
 ·simp only [push_cast,seval,-Nat.reducePow,List.nil_append,hl']
  simp [hl]
 obtain ⟨p,r,r',rfl,rfl,hrr,rfl,h1,h16,h17,h18⟩:=hJ
 cases r with
 | nil =>
   obtain rfl:r'=[]:=by cases r' with | nil=>rfl | cons a b=>simp at hrr
   simp only [push_cast,seval,-Nat.reducePow,h1,h16,h17,h18,aHp]
   rw [aKt]
 | cons x r =>
   cases r' with
   | nil=>simp at hrr
   | cons y r' =>
     obtain ⟨k,t,s0,ks,as⟩:=x
     obtain ⟨k',t',s0',ks',as'⟩:=y
     have q3:=aCi p
     simp only [aAl,aAk,Node.bulk] at hn hb
     by_cases e1:k=k'
     case neg =>
      simp only [push_cast,seval,-Nat.reducePow,h1,h16,h17,h18,Node.cs,e1,aHp]
      rw [aJh (by simp [e1])]
     by_cases e2:t=t'
     case neg =>
      simp only [push_cast,seval,-Nat.reducePow,h1,h16,h17,h18,Node.cs,e1,e2,aHp]
      rw [aJh (by simp [e2])]
     by_cases e3:s0=s0'
     case neg =>
      simp only [push_cast,seval,-Nat.reducePow,h1,h16,h17,h18,Node.cs,e1,e2,e3,aHp]
      rw [aJh (by simp [e3])]
     subst e1 e2 e3
     by_cases e4:as.length=as'.length
     case neg =>
      have e4':((as.length:Nat):Int)≠((as'.length:Nat):Int):=by omega
      simp only [push_cast,seval,-Nat.reducePow,h1,h16,h17,h18,Node.cs,e4',aHp]
      rw [aJh (fun e=>e4 (by simp at e; rw [e.2]))]
     have e4':((as.length:Nat):Int)=((as'.length:Nat):Int):=by omega
     simp only [push_cast,seval,-Nat.reducePow,h1,h16,h17,h18,Node.cs,e4']
     refine aAb (ih ks ks' (by omega) (by omega)) (by simp only [push_cast,seval,-Nat.reducePow]) (by simp only [push_cast,seval,-Nat.reducePow]) ?_
     by_cases e5:ks=ks'
     case neg =>
      simp only [push_cast,seval,-Nat.reducePow,h1,h16,h17,h18,Node.cs,aRi e5,aHp]
      rw [aJh (by simp [e5])]
     subst e5
     simp only [push_cast,seval,-Nat.reducePow,h1,h16,h17,h18,Node.cs,aKt]
     refine aAe (fun m s=>∃ c q q' i6 i7,as=c++q∧as'=c++q'∧q.length=q'.length∧m=q.length∧s.env 1=.lst 5 (encs (p++.mk k t s0 ks as'::r'))∧s.env 16=.lst 5 (encs (p++.mk k t s0 ks as::r))∧s.env 17=.int .i64 (p++.mk k t s0 ks as::r).length∧s.env 18=.int .i64 p.length ∧
      s.env 7=.ptr i7 0∧s.L i7=some (.box (T 0) (Node.mk k t s0 ks as').cs)∧i7<s.nx∧s.env 64=.lst 3 (encA (c++q))∧s.env 65=.int .i64 (c++q).length∧s.env 66=.int .i64 c.length) as.length ⟨[],as,as',s.nx+105,s.nx+205,?_⟩ fun m s2 hJ=>?_
     ·simp only [push_cast,seval,-Nat.reducePow,List.nil_append,h1,h16,h17,h18,Node.cs]
      simp [e4,e4']
     obtain ⟨c,q,q',i6,i7,rfl,rfl,hqq,rfl,g1,g16,g17,g18,g7,gL,gi,g64,g65,g66⟩:=hJ
     cases q with
     | nil =>
       obtain rfl:q'=[]:=by cases q' with | nil=>rfl | cons a b=>simp at hqq
       simp only [push_cast,seval,-Nat.reducePow,g1,g16,g17,g18,g64,g65,g66]
       refine ⟨by omega,r.length,by omega,p++[.mk k t s0 ks c],r,r',List.append_cons _ _ _,List.append_cons _ _ _,by simpa using hrr,rfl,?_,?_,?_,?_⟩
       ·simp
       ·simp
       ·simp
       ·simp
     | cons u q =>
       cases q' with
       | nil=>simp at hqq
       | cons v q' =>
         obtain ⟨ub,un,uv⟩:=u
         obtain ⟨vb,vn,vv⟩:=v
         have n1:i7≠s2.nx+108:=by omega
         have n2:i7≠s2.nx+208:=by omega
         have q7:=aIu c
         simp only [aBy,aA0,Arg.bulk] at hn hb
         have hne:∀ {u v:Arg},u≠v→eqB (p++.mk k t s0 ks (c++u::q)::r) (p++.mk k t s0 ks (c++v::q')::r')=false:=fun h=>aJh fun e=>h (by simp at e; exact e.1)
         by_cases e6:ub=vb
         case neg =>
          have e6':(ub==vb)=false:=by cases ub <;> cases vb <;> simp_all
          simp only [push_cast,seval,-Nat.reducePow,g1,g16,g17,g18,g7,gL,g64,g65,g66,n1,n2,Node.cs,Arg.cs,e6',aHp]
          rw [hne (by simp [e6])]
         subst e6
         have e6':(ub==ub)=true:=by simp
         simp only [push_cast,seval,-Nat.reducePow,g1,g16,g17,g18,g7,gL,g64,g65,g66,n1,n2,Node.cs,Arg.cs,e6']
         refine aAb (ih un vn (by omega) (by omega)) (by simp only [push_cast,seval,-Nat.reducePow]) (by simp only [push_cast,seval,-Nat.reducePow]) ?_
         by_cases e7:un=vn
         case neg =>
          simp only [push_cast,seval,-Nat.reducePow,g1,g16,g17,g18,g7,gL,g64,g65,g66,n1,n2,Node.cs,Arg.cs,aRi e7,aHp]
          rw [hne (by simp [e7])]
         subst e7
         simp only [push_cast,seval,-Nat.reducePow,g1,g16,g17,g18,g7,gL,g64,g65,g66,n1,n2,Node.cs,Arg.cs,aKt]
         refine aAb (ih uv vv (by omega) (by omega)) (by simp only [push_cast,seval,-Nat.reducePow]) (by simp only [push_cast,seval,-Nat.reducePow]) ?_
         by_cases e8:uv=vv
         case neg =>
          simp only [push_cast,seval,-Nat.reducePow,g1,g16,g17,g18,g7,gL,g64,g65,g66,n1,n2,Node.cs,Arg.cs,aRi e8,aHp]
          rw [hne (by simp [e8])]
         subst e8
         simp only [push_cast,seval,-Nat.reducePow,g1,g16,g17,g18,g7,gL,g64,g65,g66,n1,n2,Node.cs,Arg.cs,aKt]
         refine ⟨by omega,q.length,by omega,c++[.mk ub un uv],q,q',i6,i7,List.append_cons _ _ _,List.append_cons _ _ _,by simpa using hqq,rfl,?_⟩
         simp [n1,n2,gL,upd,Node.cs]
         omega
theorem t6 (hf:Is6 P F T) (l l':List Node) (hb:aAk l≤2^26):PTr P (F 6) [.lst 5 (encs l),.lst 5 (encs l')] (.bool (eqB l l')):=t6' hf _ l l' (Nat.lt_succ_self _) hb
end Go.Ab
