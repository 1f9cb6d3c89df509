import Derived.Test.YtikmbicdjpkipaaGreatDoorAbJ1
import Derived.Test.YtikmbicdjpkipaaGreatDoorAbK4
open List renaming drop_succ_cons->yA,drop_zero->yn,take_succ_cons->yB,take_zero->yW
open List.cons renaming injEq->yO
set_option linter.unusedSimpArgs false
set_option linter.unusedVariables false
namespace Go.Ab
theorem aS4{α:Type}(g:α->V):∀es:List V,(∀x,x∈es->∃q,x=g q)->∃l:List α,es=l.map g
 | [],_=>⟨[],rfl⟩
 | e::r,h=>by obtain⟨q,hq⟩:=h e (by simp);obtain⟨l,hl⟩:=aS4 g r λx hx=>h x (by simp[hx]);exact⟨q::l,by rw[hq,hl];rfl⟩
structure SttTys(P:Program)(ts tpl tp tt thl tr tql tq twl tw tll tl ti tx:TypeId):Prop where
 hi:P.underlying ti=some (.int .i64)
 hx:P.underlying tx=some .string
 ci:P.cellsOf ti=1
 cx:P.cellsOf tx=1
 st:aH1 P tt=some [(0,ti),(1,tx)]
 ct:P.cellsOf tt=2
 sr:aH1 P tr=some [(0,ti),(1,tx),(2,tx),(3,tx),(4,ti),(5,ti)]
 cr:P.cellsOf tr=6
 ar:isAg P tr=true
 hhl:P.underlying thl=some (.slice tr)
 chl:P.cellsOf thl=1
 sp:aH1 P tp=some [(0,tt),(2,thl)]
 cp:P.cellsOf tp=3
 ap:isAg P tp=true
 hpl:P.underlying tpl=some (.slice tp)
 cpl:P.cellsOf tpl=1
 sq:aH1 P tq=some [(0,ti),(1,tx),(2,tx),(3,tt),(5,ti),(6,tx),(7,ti)]
 cq:P.cellsOf tq=8
 aq:isAg P tq=true
 hql:P.underlying tql=some (.slice tq)
 cql:P.cellsOf tql=1
 sw:aH1 P tw=some [(0,tx),(1,tt)]
 cw:P.cellsOf tw=3
 aw:isAg P tw=true
 hwl:P.underlying twl=some (.slice tw)
 cwl:P.cellsOf twl=1
 sl:aH1 P tl=some [(0,tx),(1,ti)]
 cl:P.cellsOf tl=2
 al:isAg P tl=true
 hll:P.underlying tll=some (.slice tl)
 cll:P.cellsOf tll=1
 ss:aH1 P ts=some [(0,ti),(1,ti),(2,tpl),(3,tpl),(4,tql),(5,ti),(6,twl),(7,tll)]
 cs:P.cellsOf ts=8
 as_:isAg P ts=true
variable {P:Program} {ts tpl tp tt thl tr tql tq twl tw tll tl ti tx:TypeId}
theorem vt_i{n:Nat}{xs:List V}(hi:P.underlying ti=some (.int .i64))(h:VT P n ti xs):∃m:Int,xs=[.int .i64 m]:=by
 cases n with
 | zero=>exact(aCw h).elim
 | succ n=>obtain⟨m,e,_⟩:=bGo hi h;exact⟨m,e⟩
theorem vt_x{n:Nat}{xs:List V}(hi:P.underlying tx=some .string)(h:VT P n tx xs):∃m:List UInt8,xs=[.str m]:=by
 cases n with
 | zero=>exact(aCw h).elim
 | succ n=>exact bGr hi h
theorem vt_t{n:Nat}{xs:List V}(H:SttTys P ts tpl tp tt thl tr tql tq twl tw tll tl ti tx)(h:VT P n tt xs):∃t:Ttl,xs=[.int .i64 t.1,.str t.2]:=by
 cases n with
 | zero=>exact(aCw h).elim
 | succ n =>
   obtain⟨q1,q2⟩:=aD4 H.st h;rw[H.ct]at q1
   match xs,q1 with
   | [a,b],_=>have k1:=q2 (0,ti) (by simp);have k2:=q2 (1,tx) (by simp);simp only[H.ci,H.cx,yA,yn,yB,yW]at k1 k2;obtain⟨m,e1⟩:=vt_i H.hi k1;obtain⟨s,e2⟩:=vt_x H.hx k2;simp only[yO,and_true]at e1 e2;exact⟨(m,s),by rw[e1,e2]⟩
theorem vt_l{β:Type}(g:β->V){n:Nat}{xs:List V}{te tsl:TypeId}(hu:P.underlying tsl=some (.slice te))(ha:isAg P te=true)(dec:∀n ys,ys.length=P.cellsOf te->VT P n te ys->∃b,V.agg ys=g b)(h:VT P n tsl xs):∃l:List β,xs=[.lst (P.cellsOf te) (l.map g)]:=by
 cases n with
 | zero=>exact(aCw h).elim
 | succ n =>
   obtain⟨es,h1,hes⟩:=bFh hu h;obtain⟨l,rfl⟩:=aS4 g es λx hx=>by obtain⟨ys,g1,g2,g3⟩:=hes x hx;obtain⟨b,hb⟩:=dec n ys g2 g3;exact⟨b,by rw[g1,ha,<-hb];rfl⟩
   exact⟨l,h1⟩
theorem vt_r(H:SttTys P ts tpl tp tt thl tr tql tq twl tw tll tl ti tx)(n:Nat)(ys:List V)(hl:ys.length=P.cellsOf tr)(h:VT P n tr ys):∃b:Rev,V.agg ys=b.v:=by
 cases n with
 | zero=>exact(aCw h).elim
 | succ n =>
   obtain⟨_,q⟩:=aD4 H.sr h;rw[H.cr]at hl
   match ys,hl with
   | [a,b,c,d,e,f],_=>have k1:=q (0,ti) (by simp);have k2:=q (1,tx) (by simp);have k3:=q (2,tx) (by simp);have k4:=q (3,tx) (by simp);have k5:=q (4,ti) (by simp);have k6:=q (5,ti) (by simp);simp only[H.ci,H.cx,yA,yn,yB,yW]at k1 k2 k3 k4 k5 k6;obtain⟨m1,e1⟩:=vt_i H.hi k1;obtain⟨m2,e2⟩:=vt_x H.hx k2;obtain⟨m3,e3⟩:=vt_x H.hx k3;obtain⟨m4,e4⟩:=vt_x H.hx k4;obtain⟨m5,e5⟩:=vt_i H.hi k5;obtain⟨m6,e6⟩:=vt_i H.hi k6;simp only[yO,and_true]at e1 e2 e3 e4 e5 e6;exact⟨⟨m1,m2,m3,m4,m5,m6⟩,by rw[e1,e2,e3,e4,e5,e6];rfl⟩
theorem vt_p(H:SttTys P ts tpl tp tt thl tr tql tq twl tw tll tl ti tx)(n:Nat)(ys:List V)(hl:ys.length=P.cellsOf tp)(h:VT P n tp ys):∃b:Sto,V.agg ys=b.v:=by
 cases n with
 | zero=>exact(aCw h).elim
 | succ n =>
   obtain⟨_,q⟩:=aD4 H.sp h;rw[H.cp]at hl
   match ys,hl with
   | [a,b,c],_=>have k1:=q (0,tt) (by simp);have k2:=q (2,thl) (by simp);simp only[H.ct,H.chl,yA,yn,yB,yW]at k1 k2;obtain⟨t,e1⟩:=vt_t H k1;obtain⟨l,e2⟩:=vt_l Rev.v H.hhl H.ar (vt_r H) k2;simp only[yO,and_true,H.cr]at e1 e2;exact⟨⟨t,l⟩,by rw[e1.1,e1.2,e2];rfl⟩
theorem vt_q(H:SttTys P ts tpl tp tt thl tr tql tq twl tw tll tl ti tx)(n:Nat)(ys:List V)(hl:ys.length=P.cellsOf tq)(h:VT P n tq ys):∃b:Ppl,V.agg ys=b.v:=by
 cases n with
 | zero=>exact(aCw h).elim
 | succ n =>
   obtain⟨_,q⟩:=aD4 H.sq h;rw[H.cq]at hl
   match ys,hl with
   | [a,b,c,d,e,f,g,i],_=>have k1:=q (0,ti) (by simp);have k2:=q (1,tx) (by simp);have k3:=q (2,tx) (by simp);have k4:=q (3,tt) (by simp);have k5:=q (5,ti) (by simp);have k6:=q (6,tx) (by simp);have k7:=q (7,ti) (by simp);simp only[H.ci,H.cx,H.ct,yA,yn,yB,yW]at k1 k2 k3 k4 k5 k6 k7;obtain⟨m1,e1⟩:=vt_i H.hi k1;obtain⟨m2,e2⟩:=vt_x H.hx k2;obtain⟨m3,e3⟩:=vt_x H.hx k3;obtain⟨m4,e4⟩:=vt_t H k4;obtain⟨m5,e5⟩:=vt_i H.hi k5;obtain⟨m6,e6⟩:=vt_x H.hx k6;obtain⟨m7,e7⟩:=vt_i H.hi k7;simp only[yO,and_true]at e1 e2 e3 e4 e5 e6 e7;exact⟨⟨m1,m2,m3,m4,m5,m6,m7⟩,by rw[e1,e2,e3,e4.1,e4.2,e5,e6,e7];rfl⟩
theorem vt_w(H:SttTys P ts tpl tp tt thl tr tql tq twl tw tll tl ti tx)(n:Nat)(ys:List V)(hl:ys.length=P.cellsOf tw)(h:VT P n tw ys):∃b:Wat,V.agg ys=b.v:=by
 cases n with
 | zero=>exact(aCw h).elim
 | succ n =>
   obtain⟨_,q⟩:=aD4 H.sw h;rw[H.cw]at hl
   match ys,hl with
   | [a,b,c],_=>have k1:=q (0,tx) (by simp);have k2:=q (1,tt) (by simp);simp only[H.ct,H.cx,yA,yn,yB,yW]at k1 k2;obtain⟨m1,e1⟩:=vt_x H.hx k1;obtain⟨m2,e2⟩:=vt_t H k2;simp only[yO,and_true]at e1 e2;exact⟨⟨m1,m2⟩,by rw[e1,e2.1,e2.2];rfl⟩
theorem bUy(H:SttTys P ts tpl tp tt thl tr tql tq twl tw tll tl ti tx)(n:Nat)(ys:List V)(hl:ys.length=P.cellsOf tl)(h:VT P n tl ys):∃b:Las,V.agg ys=b.v:=by
 cases n with
 | zero=>exact(aCw h).elim
 | succ n =>
   obtain⟨_,q⟩:=aD4 H.sl h;rw[H.cl]at hl
   match ys,hl with
   | [a,b],_=>have k1:=q (0,tx) (by simp);have k2:=q (1,ti) (by simp);simp only[H.ci,H.cx,yA,yn,yB,yW]at k1 k2;obtain⟨m1,e1⟩:=vt_x H.hx k1;obtain⟨m2,e2⟩:=vt_i H.hi k2;simp only[yO,and_true]at e1 e2;exact⟨⟨m1,m2⟩,by rw[e1,e2];rfl⟩
theorem arg_stt(H:SttTys P ts tpl tp tt thl tr tql tq twl tw tll tl ti tx){x:V}(h:ArgT P ts x):∃s:Stt,x=s.v:=by
 obtain⟨n,ys,h1,h2,h3⟩:=h;rw[H.as_]at h2 h3;rw[if_pos rfl,H.cs]at h3;cases n with
 | zero=>exact(aCw h1).elim
 | succ n =>
   obtain⟨_,q⟩:=aD4 H.ss h1
   match ys,h3 with
   | [a,b,c,d,e,f,g,i],_=>have k1:=q (0,ti) (by simp);have k2:=q (1,ti) (by simp);have k3:=q (2,tpl) (by simp);have k4:=q (3,tpl) (by simp);have k5:=q (4,tql) (by simp);have k6:=q (5,ti) (by simp);have k7:=q (6,twl) (by simp);have k8:=q (7,tll) (by simp);simp only[H.ci,H.cpl,H.cql,H.cwl,H.cll,yA,yn,yB,yW]at k1 k2 k3 k4 k5 k6 k7 k8;obtain⟨m1,e1⟩:=vt_i H.hi k1;obtain⟨m2,e2⟩:=vt_i H.hi k2;obtain⟨m3,e3⟩:=vt_l Sto.v H.hpl H.ap (vt_p H) k3;obtain⟨m4,e4⟩:=vt_l Sto.v H.hpl H.ap (vt_p H) k4;obtain⟨m5,e5⟩:=vt_l Ppl.v H.hql H.aq (vt_q H) k5;obtain⟨m6,e6⟩:=vt_i H.hi k6;obtain⟨m7,e7⟩:=vt_l Wat.v H.hwl H.aw (vt_w H) k7;obtain⟨m8,e8⟩:=vt_l Las.v H.hll H.al (bUy H) k8;simp only[yO,and_true,H.cp,H.cq,H.cw,H.cl]at e1 e2 e3 e4 e5 e6 e7 e8;exact⟨⟨m1,m2,m3,m4,m5,m6,m7,m8⟩,by rw[h2,e1,e2,e3,e4,e5,e6,e7,e8];rfl⟩
theorem arg_ttl(H:SttTys P ts tpl tp tt thl tr tql tq twl tw tll tl ti tx)(ha:isAg P tt=true){x:V}(h:ArgT P tt x):∃t:Ttl,x=tV t:=by
 obtain⟨n,ys,h1,h2,h3⟩:=h;obtain⟨t,rfl⟩:=vt_t H h1;exact⟨t,by rw[h2,ha];rfl⟩
end Go.Ab
