import Derived.Test.YtikmbicdjpkipaaGreatDoorSeaT
import Derived.Test.YtikmbicdjpkipaaGreatDoorSeaQ
set_option linter.unusedVariables false
namespace Go.Proofs.YtikmbicdjpkipaaGreatDoor
open Go.RowKit Go.Ab Go.Lib
set_option maxRecDepth 1000000
theorem gnf:GnF Tryz.prog sF sT:=⟨bTu,bUz,bUf,bR2,bSj,bPr,bR1,bRd,bUr,bSp,bVz,bT1,bQs,bUq,bRh⟩
theorem stf:StF Tryz.prog sF sT:=⟨bUi,bRn,bTp,bS3,bRe,bQt,bQo,bPo,bN4,bVy,bSc,bVs,bV6,bSl,bSs,bSf,bQ8,bRs,bRl,bUx,bUg,bQ5,bWh,bVm,bV4,bQ1,bS2,bVj,bS6,bWf,bTl,bRf,bRa⟩
theorem valT:∀t,ttT t∨t=polT->aBb t.1 t.2=true∧t.2.length<=1000:=λt ht=>by
 rcases ht with ht|rfl
 .exact(allT (p:=λt=>aBb t.1 t.2=true∧t.2.length<=1000) ⟨by kernel_rfl,by decide⟩ ⟨by kernel_rfl,by decide⟩ ⟨by kernel_rfl,by decide⟩ ⟨by kernel_rfl,by decide⟩ ⟨by kernel_rfl,by decide⟩ ⟨by kernel_rfl,by decide⟩ ⟨by kernel_rfl,by decide⟩ ⟨by kernel_rfl,by decide⟩) t ht
 .exact⟨by kernel_rfl,by decide⟩
theorem ste:StE Tryz.prog sF sT usT ttT (λ_=>true) aCr where
 cd:=stf
 ntt:=by unfold ttT;decide
 us0:=by unfold usT;decide
 h199:=λt ht=>by have h:=t199 bHg bLr bHa bKe bIc bHf bHc t.1 t.2 (by have:=(valT t ht).2;omega);rw[(valT t ht).1]at h;exact h
 h217:=λu _=>t217 bKg u
 hnm:=allU (p:=λu=>u≠[]->aCr u=true) (λ_=>by kernel_rfl) (λ_=>by kernel_rfl) (λh=>absurd rfl h) (λ_=>by kernel_rfl)
 h327:=λt ht=>evP aFs (List.map_inj_left.1 rdq t ht) rfl rfl
 hred:=allT (p:=λt=>(redS (λ_=>true) t).length<=8192) (by decide) (by decide) (by decide) (by decide) (by decide) (by decide) (by decide) (by decide)
theorem polA:(aC5.all λw=>decide ((polF w).2.2=0)&&decide (w.length<=8000))=true:=by kernel_rfl
theorem hpol:∀w,w∈aC5->PolC Tryz.prog sF w∧w.length<=8000:=λw hw=>by
 have h:=List.all_eq_true.1 polA w hw;simp only[Bool.and_eq_true,decide_eq_true_eq]at h;have hp:=t316 parr w h.2;rw[h.1]at hp;exact⟨⟨_,_,_,_,hp,by rw[aCy];exact aA6 _,by rw[aCy];exact aBv _,by rw[aCy];exact aBy _,by rw[aBl,aBl,aBl];rfl⟩,h.2⟩
theorem bCx{f:Nat}{x y t p q v:V}{a:List V}(h:a.length<2^63->PTr Tryz.prog f [x,y,t,.lst 1 a,p,q] v):PTr Tryz.prog f [x,y,t,.lst 1 a,p,q] v:=by
 intro D w vs hD hg hl hr;obtain⟨_,cap,_,_,_,hc,h63,_⟩:=aEq (hr 3 _ rfl);exact h (by omega) D w vs hD hg hl hr
theorem denied(s:Stt)(u:List UInt8)(t:Ttl)(l:List Int)(m n:Int):PTr Tryz.prog 3 [s.v,.str u,tV t,.lst 1 (ints l),.int .i64 m,.int .i64 n] (.bool true):=
 bCx λhl=>t379 hvf rvc gnf ste hpol maw s u t l (by simpa[ints]using hl) m n
end Go.Proofs.YtikmbicdjpkipaaGreatDoor
