import Derived.Test.YtikmbicdjpkipaaGreatDoorSeaA
open List renaming forall_mem_cons->xo
set_option linter.unusedVariables false
namespace Go.Proofs.YtikmbicdjpkipaaGreatDoor
open Go.RowKit Go.Ab Go.Lib
set_option maxRecDepth 1000000
theorem strc:StrC0 Tryz.prog sF:=bEd (λs c w h1 h2 h3=>Any.strings_Trim_laid Tryz.lays160 (by kernel_rfl) s c w h1 h2 h3) (λs c w h1 h2 h3=>Any.strings_TrimRight_laid Tryz.lays162 (by kernel_rfl) s c w h1 h2 h3)
 (λs c w h2 h3=>Any.strings_TrimLeft_laid Tryz.lays161 (by kernel_rfl) s c w h2 h3) (λs c w=>Tryz.strings_IndexByte s c w)
theorem titc:TitC Tryz.prog sF:=bIp gi2 (λs p m w h1 h2 h3=>Tryz.strings_Split s p m w h1 h2 h3) (λs p m w h1 h2=>Tryz.strings_Cut s p m w h1 h2) (λs p w h=>Tryz.strings_TrimSuffix s p w h) (λs c w=>Tryz.strings_IndexByte s c w)
theorem anyc:AnyC Tryz.prog sF:=bK2 λs c w h2 hs hc ha=>aKk Tryz.lays150 (by kernel_rfl) s c w h2 hs hc ha
theorem poll:PolL Tryz.prog sF:=⟨λs hs=>by rw[<-aHg];exact strc.trim s (by omega),λs hs=>bL3 (F:=sF) (λs c w h2 hs hc ha=>aI2 Tryz.lays153 zv (by kernel_rfl) s c w h2 hs hc ha) s hs,
 λs hs=>bHi (F:=sF) (λs w hs=>Any.strings_FieldsFunc_runes Tryz.lays229 196 #[] (enters_of Tryz.func196 (by kernel_rfl) rfl) _ s w hs (isBl w) (by kernel_rfl) (by kernel_rfl)) s hs,
 λs hs=>bNp (F:=sF) gi2 (λs p m w h1 h2=>Tryz.strings_Cut s p m w h1 h2) s hs⟩
theorem titl:TitL Tryz.prog sF:=⟨λs hs=>bM4 (F:=sF) gi2 (λs a b m w h1 h2 h3 h4=>Tryz.strings_ReplaceAll s a b m w h1 h2 h3 h4) s hs,λs _=>t425 bVr bRr fn98 s,
 λs hs=>by rw[<-bO2];exact strc.left s [32] (by omega) (by decide) (by decide),λs hs=>by rw[<-bO7];exact strc.right s [32] (by omega) (by decide) (by decide),
 λl h1 h2 h3=>bN6 (F:=sF) (λbk o c xs sep w h1 h2 h3 h4 h5=>Tryz.strings_Join bk o c xs sep w h1 h2 h3 h4 h5) l h1 h2 h3⟩
theorem spl:∃ty,SplP Tryz.prog sF ty:=⟨_,λs L nx hs=>aT4 gi2 (λs p m w h1 h2 h3=>Tryz.strings_Split s p m w h1 h2 h3) 10 s (lnF s) (by omega) (aTw s.length s (Nat.le_refl _)) (λq hq=>by have:=(aKt s).1 q hq;omega) L nx⟩
theorem sps:∃ty,SpsP Tryz.prog sF ty:=⟨_,λs L nx hs=>aT4 gi2 (λs p m w h1 h2 h3=>Tryz.strings_Split s p m w h1 h2 h3) 47 s (aAj s) (by omega) (aGy s.length s (Nat.le_refl _)) (λq hq=>by have:=aD6 q hq;omega) L nx⟩
theorem titk:TitK Tryz.prog sF sT:=⟨bSw,bWe,bS8,fn97,fn98,bOc,bPm,bP2,bQn,bMt,titc,titl,sps⟩
theorem prgf:PrgF Tryz.prog sF sT:=⟨bQ6,bTe,bVo,bRc,bTq,bTn,bUo,bU6,bR8,bT0,bV3,bUv,bU7,bQz,bWg,bVe,bSe,bR7,bS5,bTz,fn98,bNo,bLu,by kernel_rfl,by kernel_rfl,titk,poll,anyc,spl⟩
theorem titr:TitR Tryz.prog sF sT:=⟨bU0,bR4,bTv,bLr,bHg,bHa,bKe,bIc,bHf,bHc⟩
theorem parr:ParR Tryz.prog sF sT:=⟨bTt,bVv,⟨bTa,bSk,bRv,bRt,bR3,bRj,bTf,bNr,bOj,titr⟩,⟨bR6,bU3,bRb,bQ7,bTs,bQr,bKg,bNr,bOj,titr⟩⟩
theorem plc:PlC Tryz.prog sF sT:=⟨bQo,bPo,bN4,bS7,bV7,bT4,bVi,bSo,bQ9,bUk,bSm,bOe,p361 prgf,t316 parr⟩
theorem srtc:bC8 Tryz.prog sF sT:=bJx λblk off cap ss w h1 h2 h3=>Tryz.slices_Sort_string blk off cap ss w h1 h2 h3
theorem mayc:MayC Tryz.prog sF sT:=⟨titc,bOc,bPm,bP2,bQn,bMt,bUp,bT3,bRk,bTg,bOl,bLu,bUs⟩
theorem bS0:RMayC Tryz.prog sF sT:=⟨bLr,bHa,bKe,bIc,bHf,bHc,bHg,bT2,bUj,bRw,bM7,bSn⟩
theorem grpc:GrpC Tryz.prog sF sT:=⟨bTm,bNo,bOl,bLu,bSa,bV0,bRp,by kernel_rfl,srtc⟩
theorem rgrc:RGrC Tryz.prog sF sT:=⟨bVn,bKg,bM7,bTj,bTx⟩
theorem rvc:RvC Tryz.prog sF sT:=⟨bV1,bVb,bS9,bTh,bTd,bTr,bVc,bTc,plc,mayc,bS0,grpc,rgrc⟩
theorem hvf:HvF Tryz.prog sF sT:=⟨bQp,bUn,bU5,bRi,bPr,bTw,bT5,by kernel_rfl⟩
def biVal:List V->Option V
 | [.agg [.int .i64 sp,.str s]]=>some (.bool (aBb sp s))
 | _=>none
theorem aEy{f:Nat}(h:∀sp s,PTr Tryz.prog f [ttV sp s] (.bool (aBb sp s))):BiOk Tryz.prog sg f biVal:=by
 intro ar v e;unfold biVal at e;split at e
 .rename_i sp s;cases e
  have:=h sp s;simpa only[List.map_cons,List.map_nil,V.cz,V.czL,ttV]using this
 .cases e
def biNm:List V->Option V
 | [.str s]=>some (.bool (aCr s))
 | _=>none
theorem aJ8{f:Nat}(h:∀s,PTr Tryz.prog f [.str s] (.bool (aCr s))):BiOk Tryz.prog sg f biNm:=by
 intro ar v e;unfold biNm at e;split at e
 .cases e
  exact h _
 .cases e
def l2:List (Nat×(List V->Option V)):=(59,biVal)::(47,biVal)::(109,biNm)::(51,biNm)::l1
theorem aFs:∀x,x∈l2->BiOk Tryz.prog sg x.1 x.2:=xo.2 ⟨aEy λsp s=>t185 bOc titc bPm bP2 bQn bMt sp s (by omega),xo.2 ⟨aEy λsp s=>t199 bHg bLr bHa bKe bIc bHf bHc sp s (by omega),
 xo.2 ⟨aJ8 λs=>t191 bNo s,xo.2 ⟨aJ8 λs=>t217 bKg s,l1_ok⟩⟩⟩⟩
end Go.Proofs.YtikmbicdjpkipaaGreatDoor
