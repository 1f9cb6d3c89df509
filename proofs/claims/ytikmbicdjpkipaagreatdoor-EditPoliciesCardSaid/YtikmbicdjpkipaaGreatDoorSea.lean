import Derived.Test.YtikmbicdjpkipaaGreatDoorSeaT
import Derived.Test.YtikmbicdjpkipaaGreatDoorSeaQ
set_option linter.unusedVariables false
namespace Go.Proofs.YtikmbicdjpkipaaGreatDoor
open Go.RowKit Go.Ab Go.Lib
set_option maxRecDepth 1000000
theorem gnf:GnF Tryz.prog sF sT:=⟨bOa,bHx,bLh,bM9,bPx,bPd,bL1,bN8,bLn,bP0,bOy,bPa,bNs,bO0,bPy⟩
theorem stf:StF Tryz.prog sF sT:=⟨bNi,bMr,bNy,bPr,bNm,bL3,bKy,bLc,bJi,bLy,bMc,bO5,bMf,bPm,bNt,bPl,bLi,bMx,bLz,bOb,bLp,bPw,bL6,bOz,bLt,bMp,bLx,bN9,bMg,bNw,bN7,bQb,bM5⟩
theorem valT:∀t,ttT t∨t=polT->aBn t.1 t.2=true∧t.2.length<=1000:=λt ht=>by
 rcases ht with ht|rfl
 .exact(allT (p:=λt=>aBn t.1 t.2=true∧t.2.length<=1000) ⟨by kernel_rfl,by decide⟩ ⟨by kernel_rfl,by decide⟩ ⟨by kernel_rfl,by decide⟩ ⟨by kernel_rfl,by decide⟩ ⟨by kernel_rfl,by decide⟩ ⟨by kernel_rfl,by decide⟩ ⟨by kernel_rfl,by decide⟩ ⟨by kernel_rfl,by decide⟩) t ht
 .exact⟨by kernel_rfl,by decide⟩
theorem ste:StE Tryz.prog sF sT usT ttT (λ_=>true) aE2 where
 cd:=stf
 ntt:=by unfold ttT;decide
 us0:=by unfold usT;decide
 h199:=λt ht=>by have h:=t199 bI5 bKv bIe bKw bKx bKh bIv t.1 t.2 (by have:=(valT t ht).2;omega);rw[(valT t ht).1]at h;exact h
 h217:=λu _=>t217 bIw u
 hnm:=allU (p:=λu=>u≠[]->aE2 u=true) (λ_=>by kernel_rfl) (λ_=>by kernel_rfl) (λh=>absurd rfl h) (λ_=>by kernel_rfl)
 h327:=allT (p:=λt=>PTr Tryz.prog 148 [tV t] (.str (redS (λ_=>true) t))) rda rdb rdc rdd rde rdf rdg rdh
 hred:=allT (p:=λt=>(redS (λ_=>true) t).length<=8192) (by decide) (by decide) (by decide) (by decide) (by decide) (by decide) (by decide) (by decide)
theorem polA:(aCt.all λw=>decide ((polF w).2.2=0)&&decide (w.length<=8000))=true:=by kernel_rfl
theorem hpol:∀w,w∈aCt->PolC Tryz.prog sF w∧w.length<=8000:=λw hw=>by
 have h:=List.all_eq_true.1 polA w hw;simp only[Bool.and_eq_true,decide_eq_true_eq]at h;have hp:=t316 parr w h.2;rw[h.1]at hp;exact⟨⟨_,_,_,_,hp,by rw[aDe];exact aBb _,by rw[aDe];exact aB5 _,by rw[aDe];exact aBz _,by rw[aBv,aBv,aBv];rfl⟩,h.2⟩
theorem epf:EpF Tryz.prog sF sT:=⟨bO4,bOs,bN2,bOh,bO2,bLq,bLl,bL0,bNr⟩
theorem bB1{f:Nat}{x y v:V}{a:List V}(h:a.length<2^63->PTr Tryz.prog f [x,.lst 1 a,y] v):PTr Tryz.prog f [x,.lst 1 a,y] v:=by
 intro D w vs hD hg hl hr;obtain⟨_,cap,_,_,_,hc,h63,_⟩:=aEf (hr 1 _ rfl);exact h (by omega) D w vs hD hg hl hr
theorem denied(s:Stt)(l:List Int)(text:List UInt8):PTr Tryz.prog 5 [s.v,.lst 1 (ints l),.str text] (.bool true):=
 bB1 λhl=>t383 epf plc gnf ste hpol (t292 bHx) maw s l (by simpa[ints]using hl) text
end Go.Proofs.YtikmbicdjpkipaaGreatDoor
