import Derived.Test.YtikmbicdjpkipaaGreatDoorSeaA
set_option linter.unusedVariables false
namespace Go.Proofs.YtikmbicdjpkipaaGreatDoor
open Go.RowKit Go.Ab Go.Lib
set_option maxRecDepth 1000000
theorem strc:StrC0 Tryz.prog sF:=bAo (λs c w h1 h2 h3=>Any.strings_Trim_laid Tryz.lays160 (by kernel_rfl) s c w h1 h2 h3) (λs c w h1 h2 h3=>Any.strings_TrimRight_laid Tryz.lays162 (by kernel_rfl) s c w h1 h2 h3)
 (λs c w h2 h3=>Any.strings_TrimLeft_laid Tryz.lays161 (by kernel_rfl) s c w h2 h3) (λs c w=>Tryz.strings_IndexByte s c w)
theorem titc:TitC Tryz.prog sF:=bF4 gi2 (λs p m w h1 h2 h3=>Tryz.strings_Split s p m w h1 h2 h3) (λs p m w h1 h2=>Tryz.strings_Cut s p m w h1 h2) (λs p w h=>Tryz.strings_TrimSuffix s p w h) (λs c w=>Tryz.strings_IndexByte s c w)
theorem anyc:AnyC Tryz.prog sF:=bDl λs c w h2 hs hc ha=>aI4 Tryz.lays150 (by kernel_rfl) s c w h2 hs hc ha
theorem poll:PolL Tryz.prog sF:=⟨λs hs=>by rw[<-aG3];exact strc.trim s (by omega),λs hs=>bGd (F:=sF) (λs c w h2 hs hc ha=>aH7 Tryz.lays153 zv (by kernel_rfl) s c w h2 hs hc ha) s hs,
 λs hs=>bFj (F:=sF) (λs w hs=>Any.strings_FieldsFunc_runes Tryz.lays229 196 #[] (enters_of Tryz.func196 (by kernel_rfl) rfl) _ s w hs (isBl w) (by kernel_rfl) (by kernel_rfl)) s hs,
 λs hs=>bIo (F:=sF) gi2 (λs p m w h1 h2=>Tryz.strings_Cut s p m w h1 h2) s hs⟩
theorem titl:TitL Tryz.prog sF:=⟨λs hs=>bI6 (F:=sF) gi2 (λs a b m w h1 h2 h3 h4=>Tryz.strings_ReplaceAll s a b m w h1 h2 h3 h4) s hs,λs _=>t425 bMw bPq fn98 s,
 λs hs=>by rw[<-bLb];exact strc.left s [32] (by omega) (by decide) (by decide),λs hs=>by rw[<-bKr];exact strc.right s [32] (by omega) (by decide) (by decide),
 λl h1 h2 h3=>bK0 (F:=sF) (λbk o c xs sep w h1 h2 h3 h4 h5=>Tryz.strings_Join bk o c xs sep w h1 h2 h3 h4 h5) l h1 h2 h3⟩
theorem spl:∃ty,SplP Tryz.prog sF ty:=⟨_,λs L nx hs=>aRi gi2 (λs p m w h1 h2 h3=>Tryz.strings_Split s p m w h1 h2 h3) 10 s (lnF s) (by omega) (aRg s.length s (Nat.le_refl _)) (λq hq=>by have:=(aKe s).1 q hq;omega) L nx⟩
theorem sps:∃ty,SpsP Tryz.prog sF ty:=⟨_,λs L nx hs=>aRi gi2 (λs p m w h1 h2 h3=>Tryz.strings_Split s p m w h1 h2 h3) 47 s (aAi s) (by omega) (aGq s.length s (Nat.le_refl _)) (λq hq=>by have:=aDw q hq;omega) L nx⟩
theorem titk:TitK Tryz.prog sF sT:=⟨bNo,bMt,bOg,fn97,fn98,bP3,bLu,bPo,bOw,bOt,titc,titl,sps⟩
theorem prgf:PrgF Tryz.prog sF sT:=⟨bPk,bNf,bNx,bMv,bM4,bMh,bQd,bM6,bM8,bOo,bM3,bQe,bQc,bPv,bOp,bN5,bOf,bPs,bP4,bMu,fn98,bN1,bPt,by kernel_rfl,by kernel_rfl,titk,poll,anyc,spl⟩
theorem titr:TitR Tryz.prog sF sT:=⟨bOk,bM1,bP9,bKv,bI5,bIe,bKw,bKx,bKh,bIv⟩
theorem parr:ParR Tryz.prog sF sT:=⟨bLm,bLj,⟨bNn,bPj,bLk,bLs,bO3,bNc,bMq,bKo,bKl,titr⟩,⟨bO8,bPg,bNe,bQf,bLv,bOl,bIw,bKo,bKl,titr⟩⟩
theorem plc:PlC Tryz.prog sF sT:=⟨bKy,bLc,bJi,bNd,bOu,bOv,bO7,bNl,bMe,bNj,bO1,bJp,p361 prgf,t316 parr⟩
end Go.Proofs.YtikmbicdjpkipaaGreatDoor
