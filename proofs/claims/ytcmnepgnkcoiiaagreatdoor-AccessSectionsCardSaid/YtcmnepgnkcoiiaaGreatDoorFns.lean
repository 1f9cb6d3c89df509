/- The functions of this seat, by program. No condition. -/
import Derived.Test.YtcmnepgnkcoiiaaGreatDoorProg
import Derived.Test.YtcmnepgnkcoiiaaGreatDoorAbE5
import Derived.Test.YtcmnepgnkcoiiaaGreatDoorAbP1
import Derived.Test.YtcmnepgnkcoiiaaGreatDoorAbP3
import Derived.Test.YtcmnepgnkcoiiaaGreatDoorAbR0
import Derived.Test.YtcmnepgnkcoiiaaGreatDoorAbR1
import Derived.Test.YtcmnepgnkcoiiaaGreatDoorAbR7
import Derived.Test.YtcmnepgnkcoiiaaGreatDoorAbZ1
import Derived.Test.YtcmnepgnkcoiiaaGreatDoorAbZ4
import Derived.Test.YtcmnepgnkcoiiaaGreatDoorAbG11
import Derived.Test.YtcmnepgnkcoiiaaGreatDoorAbG12
import Derived.Test.YtcmnepgnkcoiiaaGreatDoorAbG13
import Derived.Test.YtcmnepgnkcoiiaaGreatDoorAbG14
namespace Go.Ab
open Go.Proofs
set_option maxRecDepth 100000
def sF (k:Nat):Nat:=[0,0,146,76,0,0,0,0,0,0,0,0,0,0,0,0,0,0,0,0,0,0,164,165,114,115,0,196,0,185,205,198,199,207,0,0,145,51,0,15,27,0,183,0,0,0,32,34,0,0,72,0,0,0,0,0,160,161,162,163,73,74,75,50,126,101,0,170,171,172,173,174,175,176,177,178,179,180,181,182,184,102,103,104,105,106,107,108,109,110,111,112,113,71,193,202,203,194,204,197,143,133,56,134,188,189,190,191,192,135,136,137,100,0,151,166,201,158,159,169,91,123,200,0,97,55,0,0,98,30,0,0,99,0,0,0,129,130,77,0,131,132,0,147,148,150,149,153,152,155,154,144,141,167,168,156,186,187,0,28,0,0,0,0,0,0,0,29,52,53,54,64,93,95,5,9,14,13,22,25,19,44,45,69,48,43,66,63,65,94,96,35,23,21,46,47,70,49,26,31,68,57,58,78,116,79,3,16,17,20,18,4,6,24,10,11,12,40,41,42,36,33,59,37,60,38,39,62,61,67,80,81,82,83,84,85,86,87,88,89,90,92,117,118,119,120,121,122,127,128,138,7,8].getD k 0
def sT (k:Nat):Nat:=[128,155,200,5,84,193,191,196,123,120,71,117,185,219,66,4,26,43,47,49,56,9,39,162,3,146,35].getD k 0
theorem fn2:Is2 Tryz.prog sF sT:=by
 refine ⟨⟨Tryz.prog.funcs[sF 2]?.getD default,(Tryz.prog.funcs[sF 2]?.getD default).body.getD .skip,fun d=>if d=1000165 then 4 else if d=1000164 then 4 else 0,?_,?_,?_,?_,?_⟩,?_,?_⟩
 ·kernel_rfl
 ·kernel_rfl
 ·kernel_rfl
 ·kernel_rfl
 ·kernel_rfl
 ·rfl
 ·decide
theorem fn3:Is3 Tryz.prog sF sT:=by
 refine ⟨⟨Tryz.prog.funcs[sF 3]?.getD default,(Tryz.prog.funcs[sF 3]?.getD default).body.getD .skip,fun d=>0,?_,?_,?_,?_,?_⟩,?_,?_⟩
 ·kernel_rfl
 ·kernel_rfl
 ·kernel_rfl
 ·kernel_rfl
 ·kernel_rfl
 ·rfl
 ·decide
theorem fn22:Is22 Tryz.prog sF sT:=by
 refine ⟨⟨Tryz.prog.funcs[sF 22]?.getD default,(Tryz.prog.funcs[sF 22]?.getD default).body.getD .skip,fun d=>if d=1000185 then 4 else 0,?_,?_,?_,?_,?_⟩,?_,?_⟩
 ·kernel_rfl
 ·kernel_rfl
 ·kernel_rfl
 ·kernel_rfl
 ·kernel_rfl
 ·rfl
 ·decide
theorem fn23:Is23 Tryz.prog sF sT:=by
 refine ⟨⟨Tryz.prog.funcs[sF 23]?.getD default,(Tryz.prog.funcs[sF 23]?.getD default).body.getD .skip,fun d=>0,?_,?_,?_,?_,?_⟩,?_,?_⟩
 ·kernel_rfl
 ·kernel_rfl
 ·kernel_rfl
 ·kernel_rfl
 ·kernel_rfl
 ·rfl
 ·decide
theorem fn24:Is24 Tryz.prog sF sT:=by
 refine ⟨⟨Tryz.prog.funcs[sF 24]?.getD default,(Tryz.prog.funcs[sF 24]?.getD default).body.getD .skip,fun d=>0,?_,?_,?_,?_,?_⟩,?_,?_⟩
 ·kernel_rfl
 ·kernel_rfl
 ·kernel_rfl
 ·kernel_rfl
 ·kernel_rfl
 ·rfl
 ·decide
theorem fn25:Is25 Tryz.prog sF sT:=by
 refine ⟨⟨Tryz.prog.funcs[sF 25]?.getD default,(Tryz.prog.funcs[sF 25]?.getD default).body.getD .skip,fun d=>0,?_,?_,?_,?_,?_⟩,?_,?_⟩
 ·kernel_rfl
 ·kernel_rfl
 ·kernel_rfl
 ·kernel_rfl
 ·kernel_rfl
 ·rfl
 ·decide
theorem fn27:Is27 Tryz.prog sF sT:=by
 refine ⟨⟨Tryz.prog.funcs[sF 27]?.getD default,(Tryz.prog.funcs[sF 27]?.getD default).body.getD .skip,fun d=>if d=1000205 then 4 else 0,?_,?_,?_,?_,?_⟩,?_,?_⟩
 ·kernel_rfl
 ·kernel_rfl
 ·kernel_rfl
 ·kernel_rfl
 ·kernel_rfl
 ·rfl
 ·decide
theorem fn29:Is29 Tryz.prog sF sT:=by
 refine ⟨⟨Tryz.prog.funcs[sF 29]?.getD default,(Tryz.prog.funcs[sF 29]?.getD default).body.getD .skip,fun d=>if d=1000196 then 4 else if d=1000164 then 4 else if d=1000198 then 4 else 0,?_,?_,?_,?_,?_⟩,?_,?_⟩
 ·kernel_rfl
 ·kernel_rfl
 ·kernel_rfl
 ·kernel_rfl
 ·kernel_rfl
 ·rfl
 ·decide
theorem fn30:Is30 Tryz.prog sF sT:=by
 refine ⟨⟨Tryz.prog.funcs[sF 30]?.getD default,(Tryz.prog.funcs[sF 30]?.getD default).body.getD .skip,fun d=>0,?_,?_,?_,?_,?_⟩,?_,?_⟩
 ·kernel_rfl
 ·kernel_rfl
 ·kernel_rfl
 ·kernel_rfl
 ·kernel_rfl
 ·rfl
 ·decide
theorem fn31:Is31 Tryz.prog sF sT:=by
 refine ⟨⟨Tryz.prog.funcs[sF 31]?.getD default,(Tryz.prog.funcs[sF 31]?.getD default).body.getD .skip,fun d=>if d=1000196 then 4 else if d=1000207 then 4 else if d=1000164 then 4 else 0,?_,?_,?_,?_,?_⟩,?_,?_⟩
 ·kernel_rfl
 ·kernel_rfl
 ·kernel_rfl
 ·kernel_rfl
 ·kernel_rfl
 ·rfl
 ·decide
theorem fn32:Is32 Tryz.prog sF sT:=by
 refine ⟨⟨Tryz.prog.funcs[sF 32]?.getD default,(Tryz.prog.funcs[sF 32]?.getD default).body.getD .skip,fun d=>0,?_,?_,?_,?_,?_⟩,?_,?_⟩
 ·kernel_rfl
 ·kernel_rfl
 ·kernel_rfl
 ·kernel_rfl
 ·kernel_rfl
 ·rfl
 ·decide
theorem fn33:Is33 Tryz.prog sF sT:=by
 refine ⟨⟨Tryz.prog.funcs[sF 33]?.getD default,(Tryz.prog.funcs[sF 33]?.getD default).body.getD .skip,fun d=>if d=1000205 then 4 else 0,?_,?_,?_,?_,?_⟩,?_,?_⟩
 ·kernel_rfl
 ·kernel_rfl
 ·kernel_rfl
 ·kernel_rfl
 ·kernel_rfl
 ·rfl
 ·decide
theorem fn36:Is36 Tryz.prog sF sT:=by
 refine ⟨⟨Tryz.prog.funcs[sF 36]?.getD default,(Tryz.prog.funcs[sF 36]?.getD default).body.getD .skip,fun d=>if d=19 then 1 else if d=1000161 then 4 else if d=1000162 then 4 else if d=1000163 then 4 else 0,?_,?_,?_,?_,?_⟩,?_,?_⟩
 ·kernel_rfl
 ·kernel_rfl
 ·kernel_rfl
 ·kernel_rfl
 ·kernel_rfl
 ·rfl
 ·decide
theorem fn37:Is37 Tryz.prog sF sT:=by
 refine ⟨⟨Tryz.prog.funcs[sF 37]?.getD default,(Tryz.prog.funcs[sF 37]?.getD default).body.getD .skip,fun d=>if d=1000073 then 4 else if d=1000074 then 4 else if d=1000075 then 4 else 0,?_,?_,?_,?_,?_⟩,?_,?_⟩
 ·kernel_rfl
 ·kernel_rfl
 ·kernel_rfl
 ·kernel_rfl
 ·kernel_rfl
 ·rfl
 ·decide
theorem fn39:Is39 Tryz.prog sF sT:=by
 refine ⟨⟨Tryz.prog.funcs[sF 39]?.getD default,(Tryz.prog.funcs[sF 39]?.getD default).body.getD .skip,fun d=>0,?_,?_,?_,?_,?_⟩,?_,?_⟩
 ·kernel_rfl
 ·kernel_rfl
 ·kernel_rfl
 ·kernel_rfl
 ·kernel_rfl
 ·rfl
 ·decide
theorem fn40:Is40 Tryz.prog sF sT:=by
 refine ⟨⟨Tryz.prog.funcs[sF 40]?.getD default,(Tryz.prog.funcs[sF 40]?.getD default).body.getD .skip,fun d=>if d=1000032 then 4 else if d=1000034 then 4 else if d=1000050 then 4 else 0,?_,?_,?_,?_,?_⟩,?_,?_⟩
 ·kernel_rfl
 ·kernel_rfl
 ·kernel_rfl
 ·kernel_rfl
 ·kernel_rfl
 ·rfl
 ·decide
theorem fn46:Is46 Tryz.prog sF sT:=by
 refine ⟨⟨Tryz.prog.funcs[sF 46]?.getD default,(Tryz.prog.funcs[sF 46]?.getD default).body.getD .skip,fun d=>0,?_,?_,?_,?_,?_⟩,?_,?_⟩
 ·kernel_rfl
 ·kernel_rfl
 ·kernel_rfl
 ·kernel_rfl
 ·kernel_rfl
 ·rfl
 ·decide
theorem fn47:Is47 Tryz.prog sF sT:=by
 refine ⟨⟨Tryz.prog.funcs[sF 47]?.getD default,(Tryz.prog.funcs[sF 47]?.getD default).body.getD .skip,fun d=>if d=1000032 then 4 else 0,?_,?_,?_,?_,?_⟩,?_,?_⟩
 ·kernel_rfl
 ·kernel_rfl
 ·kernel_rfl
 ·kernel_rfl
 ·kernel_rfl
 ·rfl
 ·decide
theorem fn50:Is50 Tryz.prog sF sT:=by
 refine ⟨⟨Tryz.prog.funcs[sF 50]?.getD default,(Tryz.prog.funcs[sF 50]?.getD default).body.getD .skip,fun d=>0,?_,?_,?_,?_,?_⟩,?_,?_⟩
 ·kernel_rfl
 ·kernel_rfl
 ·kernel_rfl
 ·kernel_rfl
 ·kernel_rfl
 ·rfl
 ·decide
theorem fn56:Is56 Tryz.prog sF sT:=by
 refine ⟨⟨Tryz.prog.funcs[sF 56]?.getD default,(Tryz.prog.funcs[sF 56]?.getD default).body.getD .skip,fun d=>0,?_,?_,?_,?_,?_⟩,?_,?_⟩
 ·kernel_rfl
 ·kernel_rfl
 ·kernel_rfl
 ·kernel_rfl
 ·kernel_rfl
 ·rfl
 ·decide
theorem fn57:Is57 Tryz.prog sF sT:=by
 refine ⟨⟨Tryz.prog.funcs[sF 57]?.getD default,(Tryz.prog.funcs[sF 57]?.getD default).body.getD .skip,fun d=>if d=1000172 then 4 else if d=1000173 then 4 else if d=1000174 then 4 else if d=1000176 then 4 else if d=1000177 then 4 else if d=1000178 then 4 else if d=1000179 then 4 else if d=1000180 then 4 else 0,?_,?_,?_,?_,?_⟩,?_,?_⟩
 ·kernel_rfl
 ·kernel_rfl
 ·kernel_rfl
 ·kernel_rfl
 ·kernel_rfl
 ·rfl
 ·decide
theorem fn58:Is58 Tryz.prog sF sT:=by
 refine ⟨⟨Tryz.prog.funcs[sF 58]?.getD default,(Tryz.prog.funcs[sF 58]?.getD default).body.getD .skip,fun d=>if d=1000172 then 4 else if d=1000181 then 4 else if d=1000184 then 4 else 0,?_,?_,?_,?_,?_⟩,?_,?_⟩
 ·kernel_rfl
 ·kernel_rfl
 ·kernel_rfl
 ·kernel_rfl
 ·kernel_rfl
 ·rfl
 ·decide
theorem fn59:Is59 Tryz.prog sF sT:=by
 refine ⟨⟨Tryz.prog.funcs[sF 59]?.getD default,(Tryz.prog.funcs[sF 59]?.getD default).body.getD .skip,fun d=>0,?_,?_,?_,?_,?_⟩,?_,?_⟩
 ·kernel_rfl
 ·kernel_rfl
 ·kernel_rfl
 ·kernel_rfl
 ·kernel_rfl
 ·rfl
 ·decide
theorem fn60:Is60 Tryz.prog sF sT:=by
 refine ⟨⟨Tryz.prog.funcs[sF 60]?.getD default,(Tryz.prog.funcs[sF 60]?.getD default).body.getD .skip,fun d=>if d=1000074 then 4 else if d=1000075 then 4 else if d=1000103 then 4 else if d=1000104 then 4 else if d=1000106 then 4 else if d=1000107 then 4 else if d=1000108 then 4 else if d=1000109 then 4 else if d=1000110 then 4 else if d=1000111 then 4 else if d=1000112 then 4 else 0,?_,?_,?_,?_,?_⟩,?_,?_⟩
 ·kernel_rfl
 ·kernel_rfl
 ·kernel_rfl
 ·kernel_rfl
 ·kernel_rfl
 ·rfl
 ·decide
theorem fn61:Is61 Tryz.prog sF sT:=by
 refine ⟨⟨Tryz.prog.funcs[sF 61]?.getD default,(Tryz.prog.funcs[sF 61]?.getD default).body.getD .skip,fun d=>if d=1000113 then 4 else 0,?_,?_,?_,?_,?_⟩,?_,?_⟩
 ·kernel_rfl
 ·kernel_rfl
 ·kernel_rfl
 ·kernel_rfl
 ·kernel_rfl
 ·rfl
 ·decide
theorem fn62:Is62 Tryz.prog sF sT:=by
 refine ⟨⟨Tryz.prog.funcs[sF 62]?.getD default,(Tryz.prog.funcs[sF 62]?.getD default).body.getD .skip,fun d=>0,?_,?_,?_,?_,?_⟩,?_,?_⟩
 ·kernel_rfl
 ·kernel_rfl
 ·kernel_rfl
 ·kernel_rfl
 ·kernel_rfl
 ·rfl
 ·decide
theorem fn63:Is63 Tryz.prog sF sT:=by
 refine ⟨⟨Tryz.prog.funcs[sF 63]?.getD default,(Tryz.prog.funcs[sF 63]?.getD default).body.getD .skip,fun d=>if d=1000032 then 4 else if d=1000034 then 4 else if d=1000071 then 4 else 0,?_,?_,?_,?_,?_⟩,?_,?_⟩
 ·kernel_rfl
 ·kernel_rfl
 ·kernel_rfl
 ·kernel_rfl
 ·kernel_rfl
 ·rfl
 ·decide
theorem fn65:Is65 Tryz.prog sF sT:=by
 refine ⟨⟨Tryz.prog.funcs[sF 65]?.getD default,(Tryz.prog.funcs[sF 65]?.getD default).body.getD .skip,fun d=>0,?_,?_,?_,?_,?_⟩,?_,?_⟩
 ·kernel_rfl
 ·kernel_rfl
 ·kernel_rfl
 ·kernel_rfl
 ·kernel_rfl
 ·rfl
 ·decide
theorem fn67:Is67 Tryz.prog sF sT:=by
 refine ⟨⟨Tryz.prog.funcs[sF 67]?.getD default,(Tryz.prog.funcs[sF 67]?.getD default).body.getD .skip,fun d=>0,?_,?_,?_,?_,?_⟩,?_,?_⟩
 ·kernel_rfl
 ·kernel_rfl
 ·kernel_rfl
 ·kernel_rfl
 ·kernel_rfl
 ·rfl
 ·decide
theorem fn68:Is68 Tryz.prog sF sT:=by
 refine ⟨⟨Tryz.prog.funcs[sF 68]?.getD default,(Tryz.prog.funcs[sF 68]?.getD default).body.getD .skip,fun d=>0,?_,?_,?_,?_,?_⟩,?_,?_⟩
 ·kernel_rfl
 ·kernel_rfl
 ·kernel_rfl
 ·kernel_rfl
 ·kernel_rfl
 ·rfl
 ·decide
theorem fn69:Is69 Tryz.prog sF sT:=by
 refine ⟨⟨Tryz.prog.funcs[sF 69]?.getD default,(Tryz.prog.funcs[sF 69]?.getD default).body.getD .skip,fun d=>if d=2000048 then 5 else if d=2000049 then 6 else if d=1000163 then 4 else if d=1000190 then 4 else 0,?_,?_,?_,?_,?_⟩,?_,?_⟩
 ·kernel_rfl
 ·kernel_rfl
 ·kernel_rfl
 ·kernel_rfl
 ·kernel_rfl
 ·rfl
 ·decide
theorem fn70:Is70 Tryz.prog sF sT:=by
 refine ⟨⟨Tryz.prog.funcs[sF 70]?.getD default,(Tryz.prog.funcs[sF 70]?.getD default).body.getD .skip,fun d=>if d=11 then 2 else if d=2000015 then 5 else if d=2000016 then 6 else if d=1000163 then 4 else if d=1000190 then 4 else 0,?_,?_,?_,?_,?_⟩,?_,?_⟩
 ·kernel_rfl
 ·kernel_rfl
 ·kernel_rfl
 ·kernel_rfl
 ·kernel_rfl
 ·rfl
 ·decide
theorem fn71:Is71 Tryz.prog sF sT:=by
 refine ⟨⟨Tryz.prog.funcs[sF 71]?.getD default,(Tryz.prog.funcs[sF 71]?.getD default).body.getD .skip,fun d=>if d=1000172 then 4 else 0,?_,?_,?_,?_,?_⟩,?_,?_⟩
 ·kernel_rfl
 ·kernel_rfl
 ·kernel_rfl
 ·kernel_rfl
 ·kernel_rfl
 ·rfl
 ·decide
theorem fn72:Is72 Tryz.prog sF sT:=by
 refine ⟨⟨Tryz.prog.funcs[sF 72]?.getD default,(Tryz.prog.funcs[sF 72]?.getD default).body.getD .skip,fun d=>0,?_,?_,?_,?_,?_⟩,?_,?_⟩
 ·kernel_rfl
 ·kernel_rfl
 ·kernel_rfl
 ·kernel_rfl
 ·kernel_rfl
 ·rfl
 ·decide
theorem fn73:Is73 Tryz.prog sF sT:=by
 refine ⟨⟨Tryz.prog.funcs[sF 73]?.getD default,(Tryz.prog.funcs[sF 73]?.getD default).body.getD .skip,fun d=>if d=1000163 then 4 else if d=1000172 then 4 else 0,?_,?_,?_,?_,?_⟩,?_,?_⟩
 ·kernel_rfl
 ·kernel_rfl
 ·kernel_rfl
 ·kernel_rfl
 ·kernel_rfl
 ·rfl
 ·decide
theorem fn74:Is74 Tryz.prog sF sT:=by
 refine ⟨⟨Tryz.prog.funcs[sF 74]?.getD default,(Tryz.prog.funcs[sF 74]?.getD default).body.getD .skip,fun d=>if d=1000163 then 4 else if d=1000172 then 4 else 0,?_,?_,?_,?_,?_⟩,?_,?_⟩
 ·kernel_rfl
 ·kernel_rfl
 ·kernel_rfl
 ·kernel_rfl
 ·kernel_rfl
 ·rfl
 ·decide
theorem fn75:Is75 Tryz.prog sF sT:=by
 refine ⟨⟨Tryz.prog.funcs[sF 75]?.getD default,(Tryz.prog.funcs[sF 75]?.getD default).body.getD .skip,fun d=>if d=1000163 then 4 else if d=1000172 then 4 else if d=1000181 then 4 else if d=1000184 then 4 else 0,?_,?_,?_,?_,?_⟩,?_,?_⟩
 ·kernel_rfl
 ·kernel_rfl
 ·kernel_rfl
 ·kernel_rfl
 ·kernel_rfl
 ·rfl
 ·decide
theorem fn76:Is76 Tryz.prog sF sT:=by
 refine ⟨⟨Tryz.prog.funcs[sF 76]?.getD default,(Tryz.prog.funcs[sF 76]?.getD default).body.getD .skip,fun d=>if d=1000162 then 4 else if d=1000172 then 4 else if d=1000173 then 4 else if d=1000181 then 4 else 0,?_,?_,?_,?_,?_⟩,?_,?_⟩
 ·kernel_rfl
 ·kernel_rfl
 ·kernel_rfl
 ·kernel_rfl
 ·kernel_rfl
 ·rfl
 ·decide
theorem fn77:Is77 Tryz.prog sF sT:=by
 refine ⟨⟨Tryz.prog.funcs[sF 77]?.getD default,(Tryz.prog.funcs[sF 77]?.getD default).body.getD .skip,fun d=>if d=65 then 1 else if d=1000162 then 4 else if d=1000163 then 4 else if d=1000172 then 4 else if d=1000173 then 4 else if d=1000181 then 4 else if d=1000192 then 4 else 0,?_,?_,?_,?_,?_⟩,?_,?_⟩
 ·kernel_rfl
 ·kernel_rfl
 ·kernel_rfl
 ·kernel_rfl
 ·kernel_rfl
 ·rfl
 ·decide
theorem fn78:Is78 Tryz.prog sF sT:=by
 refine ⟨⟨Tryz.prog.funcs[sF 78]?.getD default,(Tryz.prog.funcs[sF 78]?.getD default).body.getD .skip,fun d=>if d=1000163 then 4 else 0,?_,?_,?_,?_,?_⟩,?_,?_⟩
 ·kernel_rfl
 ·kernel_rfl
 ·kernel_rfl
 ·kernel_rfl
 ·kernel_rfl
 ·rfl
 ·decide
theorem fn79:Is79 Tryz.prog sF sT:=by
 refine ⟨⟨Tryz.prog.funcs[sF 79]?.getD default,(Tryz.prog.funcs[sF 79]?.getD default).body.getD .skip,fun d=>0,?_,?_,?_,?_,?_⟩,?_,?_⟩
 ·kernel_rfl
 ·kernel_rfl
 ·kernel_rfl
 ·kernel_rfl
 ·kernel_rfl
 ·rfl
 ·decide
theorem fn80:Is80 Tryz.prog sF sT:=by
 refine ⟨⟨Tryz.prog.funcs[sF 80]?.getD default,(Tryz.prog.funcs[sF 80]?.getD default).body.getD .skip,fun d=>if d=1000172 then 4 else if d=1000173 then 4 else 0,?_,?_,?_,?_,?_⟩,?_,?_⟩
 ·kernel_rfl
 ·kernel_rfl
 ·kernel_rfl
 ·kernel_rfl
 ·kernel_rfl
 ·rfl
 ·decide
theorem fn81:Is81 Tryz.prog sF sT:=by
 refine ⟨⟨Tryz.prog.funcs[sF 81]?.getD default,(Tryz.prog.funcs[sF 81]?.getD default).body.getD .skip,fun d=>0,?_,?_,?_,?_,?_⟩,?_,?_⟩
 ·kernel_rfl
 ·kernel_rfl
 ·kernel_rfl
 ·kernel_rfl
 ·kernel_rfl
 ·rfl
 ·decide
theorem fn82:Is82 Tryz.prog sF sT:=by
 refine ⟨⟨Tryz.prog.funcs[sF 82]?.getD default,(Tryz.prog.funcs[sF 82]?.getD default).body.getD .skip,fun d=>if d=1000075 then 4 else if d=1000106 then 4 else 0,?_,?_,?_,?_,?_⟩,?_,?_⟩
 ·kernel_rfl
 ·kernel_rfl
 ·kernel_rfl
 ·kernel_rfl
 ·kernel_rfl
 ·rfl
 ·decide
theorem fn83:Is83 Tryz.prog sF sT:=by
 refine ⟨⟨Tryz.prog.funcs[sF 83]?.getD default,(Tryz.prog.funcs[sF 83]?.getD default).body.getD .skip,fun d=>if d=22 then 2 else if d=1000107 then 4 else 0,?_,?_,?_,?_,?_⟩,?_,?_⟩
 ·kernel_rfl
 ·kernel_rfl
 ·kernel_rfl
 ·kernel_rfl
 ·kernel_rfl
 ·rfl
 ·decide
theorem fn84:Is84 Tryz.prog sF sT:=by
 refine ⟨⟨Tryz.prog.funcs[sF 84]?.getD default,(Tryz.prog.funcs[sF 84]?.getD default).body.getD .skip,fun d=>0,?_,?_,?_,?_,?_⟩,?_,?_⟩
 ·kernel_rfl
 ·kernel_rfl
 ·kernel_rfl
 ·kernel_rfl
 ·kernel_rfl
 ·rfl
 ·decide
theorem fn85:Is85 Tryz.prog sF sT:=by
 refine ⟨⟨Tryz.prog.funcs[sF 85]?.getD default,(Tryz.prog.funcs[sF 85]?.getD default).body.getD .skip,fun d=>if d=17 then 2 else 0,?_,?_,?_,?_,?_⟩,?_,?_⟩
 ·kernel_rfl
 ·kernel_rfl
 ·kernel_rfl
 ·kernel_rfl
 ·kernel_rfl
 ·rfl
 ·decide
theorem fn86:Is86 Tryz.prog sF sT:=by
 refine ⟨⟨Tryz.prog.funcs[sF 86]?.getD default,(Tryz.prog.funcs[sF 86]?.getD default).body.getD .skip,fun d=>if d=1000103 then 4 else 0,?_,?_,?_,?_,?_⟩,?_,?_⟩
 ·kernel_rfl
 ·kernel_rfl
 ·kernel_rfl
 ·kernel_rfl
 ·kernel_rfl
 ·rfl
 ·decide
theorem fn87:Is87 Tryz.prog sF sT:=by
 refine ⟨⟨Tryz.prog.funcs[sF 87]?.getD default,(Tryz.prog.funcs[sF 87]?.getD default).body.getD .skip,fun d=>if d=1000075 then 4 else if d=1000106 then 4 else if d=1000107 then 4 else 0,?_,?_,?_,?_,?_⟩,?_,?_⟩
 ·kernel_rfl
 ·kernel_rfl
 ·kernel_rfl
 ·kernel_rfl
 ·kernel_rfl
 ·rfl
 ·decide
theorem fn88:Is88 Tryz.prog sF sT:=by
 refine ⟨⟨Tryz.prog.funcs[sF 88]?.getD default,(Tryz.prog.funcs[sF 88]?.getD default).body.getD .skip,fun d=>if d=1000075 then 4 else 0,?_,?_,?_,?_,?_⟩,?_,?_⟩
 ·kernel_rfl
 ·kernel_rfl
 ·kernel_rfl
 ·kernel_rfl
 ·kernel_rfl
 ·rfl
 ·decide
theorem fn89:Is89 Tryz.prog sF sT:=by
 refine ⟨⟨Tryz.prog.funcs[sF 89]?.getD default,(Tryz.prog.funcs[sF 89]?.getD default).body.getD .skip,fun d=>if d=1000103 then 4 else 0,?_,?_,?_,?_,?_⟩,?_,?_⟩
 ·kernel_rfl
 ·kernel_rfl
 ·kernel_rfl
 ·kernel_rfl
 ·kernel_rfl
 ·rfl
 ·decide
theorem fn90:Is90 Tryz.prog sF sT:=by
 refine ⟨⟨Tryz.prog.funcs[sF 90]?.getD default,(Tryz.prog.funcs[sF 90]?.getD default).body.getD .skip,fun d=>0,?_,?_,?_,?_,?_⟩,?_,?_⟩
 ·kernel_rfl
 ·kernel_rfl
 ·kernel_rfl
 ·kernel_rfl
 ·kernel_rfl
 ·rfl
 ·decide
theorem fn91:Is91 Tryz.prog sF sT:=by
 refine ⟨⟨Tryz.prog.funcs[sF 91]?.getD default,(Tryz.prog.funcs[sF 91]?.getD default).body.getD .skip,fun d=>if d=50 then 2 else if d=1000074 then 4 else if d=1000103 then 4 else if d=1000107 then 4 else if d=1000109 then 4 else if d=1000136 then 4 else 0,?_,?_,?_,?_,?_⟩,?_,?_⟩
 ·kernel_rfl
 ·kernel_rfl
 ·kernel_rfl
 ·kernel_rfl
 ·kernel_rfl
 ·rfl
 ·decide
theorem fn92:Is92 Tryz.prog sF sT:=by
 refine ⟨⟨Tryz.prog.funcs[sF 92]?.getD default,(Tryz.prog.funcs[sF 92]?.getD default).body.getD .skip,fun d=>if d=1000107 then 4 else if d=1000109 then 4 else if d=1000110 then 4 else 0,?_,?_,?_,?_,?_⟩,?_,?_⟩
 ·kernel_rfl
 ·kernel_rfl
 ·kernel_rfl
 ·kernel_rfl
 ·kernel_rfl
 ·rfl
 ·decide
theorem fn93:Is93 Tryz.prog sF sT:=by
 refine ⟨⟨Tryz.prog.funcs[sF 93]?.getD default,(Tryz.prog.funcs[sF 93]?.getD default).body.getD .skip,fun d=>if d=1000032 then 4 else if d=1000034 then 4 else if d=1000071 then 4 else if d=1000100 then 4 else 0,?_,?_,?_,?_,?_⟩,?_,?_⟩
 ·kernel_rfl
 ·kernel_rfl
 ·kernel_rfl
 ·kernel_rfl
 ·kernel_rfl
 ·rfl
 ·decide
theorem fn97:Is97 Tryz.prog sF sT:=by
 refine ⟨⟨Tryz.prog.funcs[sF 97]?.getD default,(Tryz.prog.funcs[sF 97]?.getD default).body.getD .skip,fun d=>0,?_,?_,?_,?_,?_⟩,?_,?_⟩
 ·kernel_rfl
 ·kernel_rfl
 ·kernel_rfl
 ·kernel_rfl
 ·kernel_rfl
 ·rfl
 ·decide
theorem fn98:Is98 Tryz.prog sF sT:=by
 refine ⟨⟨Tryz.prog.funcs[sF 98]?.getD default,(Tryz.prog.funcs[sF 98]?.getD default).body.getD .skip,fun d=>0,?_,?_,?_,?_,?_⟩,?_,?_⟩
 ·kernel_rfl
 ·kernel_rfl
 ·kernel_rfl
 ·kernel_rfl
 ·kernel_rfl
 ·rfl
 ·decide
theorem bMt:bEh Tryz.prog sF sT:=by
 refine ⟨⟨Tryz.prog.funcs[sF 101]?.getD default,(Tryz.prog.funcs[sF 101]?.getD default).body.getD .skip,fun d=>0,?_,?_,?_,?_,?_⟩,?_,?_⟩
 ·kernel_rfl
 ·kernel_rfl
 ·kernel_rfl
 ·kernel_rfl
 ·kernel_rfl
 ·rfl
 ·decide
theorem bMr:aXp Tryz.prog sF sT:=by
 refine ⟨⟨Tryz.prog.funcs[sF 102]?.getD default,(Tryz.prog.funcs[sF 102]?.getD default).body.getD .skip,fun d=>0,?_,?_,?_,?_,?_⟩,?_,?_⟩
 ·kernel_rfl
 ·kernel_rfl
 ·kernel_rfl
 ·kernel_rfl
 ·kernel_rfl
 ·rfl
 ·decide
theorem bM7:bFe Tryz.prog sF sT:=by
 refine ⟨⟨Tryz.prog.funcs[sF 103]?.getD default,(Tryz.prog.funcs[sF 103]?.getD default).body.getD .skip,fun d=>0,?_,?_,?_,?_,?_⟩,?_,?_⟩
 ·kernel_rfl
 ·kernel_rfl
 ·kernel_rfl
 ·kernel_rfl
 ·kernel_rfl
 ·rfl
 ·decide
theorem bNa:bBt Tryz.prog sF sT:=by
 refine ⟨⟨Tryz.prog.funcs[sF 104]?.getD default,(Tryz.prog.funcs[sF 104]?.getD default).body.getD .skip,fun d=>0,?_,?_,?_,?_,?_⟩,?_,?_⟩
 ·kernel_rfl
 ·kernel_rfl
 ·kernel_rfl
 ·kernel_rfl
 ·kernel_rfl
 ·rfl
 ·decide
theorem bJ5:bCs Tryz.prog sF sT:=by
 refine ⟨⟨Tryz.prog.funcs[sF 105]?.getD default,(Tryz.prog.funcs[sF 105]?.getD default).body.getD .skip,fun d=>0,?_,?_,?_,?_,?_⟩,?_,?_⟩
 ·kernel_rfl
 ·kernel_rfl
 ·kernel_rfl
 ·kernel_rfl
 ·kernel_rfl
 ·rfl
 ·decide
theorem bKk:aHl Tryz.prog sF sT:=by
 refine ⟨⟨Tryz.prog.funcs[sF 106]?.getD default,(Tryz.prog.funcs[sF 106]?.getD default).body.getD .skip,fun d=>0,?_,?_,?_,?_,?_⟩,?_,?_⟩
 ·kernel_rfl
 ·kernel_rfl
 ·kernel_rfl
 ·kernel_rfl
 ·kernel_rfl
 ·rfl
 ·decide
theorem bL4:aUm Tryz.prog sF sT:=by
 refine ⟨⟨Tryz.prog.funcs[sF 107]?.getD default,(Tryz.prog.funcs[sF 107]?.getD default).body.getD .skip,fun d=>0,?_,?_,?_,?_,?_⟩,?_,?_⟩
 ·kernel_rfl
 ·kernel_rfl
 ·kernel_rfl
 ·kernel_rfl
 ·kernel_rfl
 ·rfl
 ·decide
theorem bL2:aZ3 Tryz.prog sF sT:=by
 refine ⟨⟨Tryz.prog.funcs[sF 108]?.getD default,(Tryz.prog.funcs[sF 108]?.getD default).body.getD .skip,fun d=>0,?_,?_,?_,?_,?_⟩,?_,?_⟩
 ·kernel_rfl
 ·kernel_rfl
 ·kernel_rfl
 ·kernel_rfl
 ·kernel_rfl
 ·rfl
 ·decide
theorem bLh:aY7 Tryz.prog sF sT:=by
 refine ⟨⟨Tryz.prog.funcs[sF 109]?.getD default,(Tryz.prog.funcs[sF 109]?.getD default).body.getD .skip,fun d=>0,?_,?_,?_,?_,?_⟩,?_,?_⟩
 ·kernel_rfl
 ·kernel_rfl
 ·kernel_rfl
 ·kernel_rfl
 ·kernel_rfl
 ·rfl
 ·decide
theorem bKq:bHr Tryz.prog sF sT:=by
 refine ⟨⟨Tryz.prog.funcs[sF 110]?.getD default,(Tryz.prog.funcs[sF 110]?.getD default).body.getD .skip,fun d=>0,?_,?_,?_,?_,?_⟩,?_,?_⟩
 ·kernel_rfl
 ·kernel_rfl
 ·kernel_rfl
 ·kernel_rfl
 ·kernel_rfl
 ·rfl
 ·decide
theorem bKt:bF8 Tryz.prog sF sT:=by
 refine ⟨⟨Tryz.prog.funcs[sF 111]?.getD default,(Tryz.prog.funcs[sF 111]?.getD default).body.getD .skip,fun d=>0,?_,?_,?_,?_,?_⟩,?_,?_⟩
 ·kernel_rfl
 ·kernel_rfl
 ·kernel_rfl
 ·kernel_rfl
 ·kernel_rfl
 ·rfl
 ·decide
theorem bJ7:bIa Tryz.prog sF sT:=by
 refine ⟨⟨Tryz.prog.funcs[sF 112]?.getD default,(Tryz.prog.funcs[sF 112]?.getD default).body.getD .skip,fun d=>if d=1000034 then 4 else 0,?_,?_,?_,?_,?_⟩,?_,?_⟩
 ·kernel_rfl
 ·kernel_rfl
 ·kernel_rfl
 ·kernel_rfl
 ·kernel_rfl
 ·rfl
 ·decide
theorem bKh:aQe Tryz.prog sF sT:=by
 refine ⟨⟨Tryz.prog.funcs[sF 116]?.getD default,(Tryz.prog.funcs[sF 116]?.getD default).body.getD .skip,fun d=>0,?_,?_,?_,?_,?_⟩,?_,?_⟩
 ·kernel_rfl
 ·kernel_rfl
 ·kernel_rfl
 ·kernel_rfl
 ·kernel_rfl
 ·rfl
 ·decide
theorem bMc:bG6 Tryz.prog sF sT:=by
 refine ⟨⟨Tryz.prog.funcs[sF 124]?.getD default,(Tryz.prog.funcs[sF 124]?.getD default).body.getD .skip,fun d=>0,?_,?_,?_,?_,?_⟩,?_,?_⟩
 ·kernel_rfl
 ·kernel_rfl
 ·kernel_rfl
 ·kernel_rfl
 ·kernel_rfl
 ·rfl
 ·decide
theorem bI8:aUi Tryz.prog sF sT:=by
 refine ⟨⟨Tryz.prog.funcs[sF 125]?.getD default,(Tryz.prog.funcs[sF 125]?.getD default).body.getD .skip,fun d=>0,?_,?_,?_,?_,?_⟩,?_,?_⟩
 ·kernel_rfl
 ·kernel_rfl
 ·kernel_rfl
 ·kernel_rfl
 ·kernel_rfl
 ·rfl
 ·decide
theorem bKc:bBi Tryz.prog sF sT:=by
 refine ⟨⟨Tryz.prog.funcs[sF 128]?.getD default,(Tryz.prog.funcs[sF 128]?.getD default).body.getD .skip,fun d=>0,?_,?_,?_,?_,?_⟩,?_,?_⟩
 ·kernel_rfl
 ·kernel_rfl
 ·kernel_rfl
 ·kernel_rfl
 ·kernel_rfl
 ·rfl
 ·decide
theorem bMm:bEa Tryz.prog sF sT:=by
 refine ⟨⟨Tryz.prog.funcs[sF 129]?.getD default,(Tryz.prog.funcs[sF 129]?.getD default).body.getD .skip,fun d=>0,?_,?_,?_,?_,?_⟩,?_,?_⟩
 ·kernel_rfl
 ·kernel_rfl
 ·kernel_rfl
 ·kernel_rfl
 ·kernel_rfl
 ·rfl
 ·decide
theorem bL5:bBm Tryz.prog sF sT:=by
 refine ⟨⟨Tryz.prog.funcs[sF 132]?.getD default,(Tryz.prog.funcs[sF 132]?.getD default).body.getD .skip,fun d=>0,?_,?_,?_,?_,?_⟩,?_,?_⟩
 ·kernel_rfl
 ·kernel_rfl
 ·kernel_rfl
 ·kernel_rfl
 ·kernel_rfl
 ·rfl
 ·decide
theorem bMu:bEz Tryz.prog sF sT:=by
 refine ⟨⟨Tryz.prog.funcs[sF 136]?.getD default,(Tryz.prog.funcs[sF 136]?.getD default).body.getD .skip,fun d=>0,?_,?_,?_,?_,?_⟩,?_,?_⟩
 ·kernel_rfl
 ·kernel_rfl
 ·kernel_rfl
 ·kernel_rfl
 ·kernel_rfl
 ·rfl
 ·decide
theorem bKi:bF1 Tryz.prog sF sT:=by
 refine ⟨⟨Tryz.prog.funcs[sF 137]?.getD default,(Tryz.prog.funcs[sF 137]?.getD default).body.getD .skip,fun d=>0,?_,?_,?_,?_,?_⟩,?_,?_⟩
 ·kernel_rfl
 ·kernel_rfl
 ·kernel_rfl
 ·kernel_rfl
 ·kernel_rfl
 ·rfl
 ·decide
theorem bHz:aRa Tryz.prog sF sT:=by
 refine ⟨⟨Tryz.prog.funcs[sF 138]?.getD default,(Tryz.prog.funcs[sF 138]?.getD default).body.getD .skip,fun d=>0,?_,?_,?_,?_,?_⟩,?_,?_⟩
 ·kernel_rfl
 ·kernel_rfl
 ·kernel_rfl
 ·kernel_rfl
 ·kernel_rfl
 ·rfl
 ·decide
theorem bL8:aXk Tryz.prog sF sT:=by
 refine ⟨⟨Tryz.prog.funcs[sF 141]?.getD default,(Tryz.prog.funcs[sF 141]?.getD default).body.getD .skip,fun d=>0,?_,?_,?_,?_,?_⟩,?_,?_⟩
 ·kernel_rfl
 ·kernel_rfl
 ·kernel_rfl
 ·kernel_rfl
 ·kernel_rfl
 ·rfl
 ·decide
theorem bLr:bHs Tryz.prog sF sT:=by
 refine ⟨⟨Tryz.prog.funcs[sF 159]?.getD default,(Tryz.prog.funcs[sF 159]?.getD default).body.getD .skip,fun d=>0,?_,?_,?_,?_,?_⟩,?_,?_⟩
 ·kernel_rfl
 ·kernel_rfl
 ·kernel_rfl
 ·kernel_rfl
 ·kernel_rfl
 ·rfl
 ·decide
theorem fn167:bEp Tryz.prog sF sT:=by
 refine ⟨⟨Tryz.prog.funcs[sF 167]?.getD default,(Tryz.prog.funcs[sF 167]?.getD default).body.getD .skip,fun d=>0,?_,?_,?_,?_,?_⟩,?_,?_⟩
 ·kernel_rfl
 ·kernel_rfl
 ·kernel_rfl
 ·kernel_rfl
 ·kernel_rfl
 ·rfl
 ·decide
theorem bLj:bFg Tryz.prog sF sT:=by
 refine ⟨⟨Tryz.prog.funcs[sF 168]?.getD default,(Tryz.prog.funcs[sF 168]?.getD default).body.getD .skip,fun d=>0,?_,?_,?_,?_,?_⟩,?_,?_⟩
 ·kernel_rfl
 ·kernel_rfl
 ·kernel_rfl
 ·kernel_rfl
 ·kernel_rfl
 ·rfl
 ·decide
theorem bKl:bGd Tryz.prog sF sT:=by
 refine ⟨⟨Tryz.prog.funcs[sF 169]?.getD default,(Tryz.prog.funcs[sF 169]?.getD default).body.getD .skip,fun d=>0,?_,?_,?_,?_,?_⟩,?_,?_⟩
 ·kernel_rfl
 ·kernel_rfl
 ·kernel_rfl
 ·kernel_rfl
 ·kernel_rfl
 ·rfl
 ·decide
theorem fn170:bAz Tryz.prog sF sT:=by
 refine ⟨⟨Tryz.prog.funcs[sF 170]?.getD default,(Tryz.prog.funcs[sF 170]?.getD default).body.getD .skip,fun d=>0,?_,?_,?_,?_,?_⟩,?_,?_⟩
 ·kernel_rfl
 ·kernel_rfl
 ·kernel_rfl
 ·kernel_rfl
 ·kernel_rfl
 ·rfl
 ·decide
theorem bMk:bIy Tryz.prog sF sT:=by
 refine ⟨⟨Tryz.prog.funcs[sF 176]?.getD default,(Tryz.prog.funcs[sF 176]?.getD default).body.getD .skip,fun d=>0,?_,?_,?_,?_,?_⟩,?_,?_⟩
 ·kernel_rfl
 ·kernel_rfl
 ·kernel_rfl
 ·kernel_rfl
 ·kernel_rfl
 ·rfl
 ·decide
theorem bLs:bFr Tryz.prog sF sT:=by
 refine ⟨⟨Tryz.prog.funcs[sF 178]?.getD default,(Tryz.prog.funcs[sF 178]?.getD default).body.getD .skip,fun d=>0,?_,?_,?_,?_,?_⟩,?_,?_⟩
 ·kernel_rfl
 ·kernel_rfl
 ·kernel_rfl
 ·kernel_rfl
 ·kernel_rfl
 ·rfl
 ·decide
theorem bIs:aZj Tryz.prog sF sT:=by
 refine ⟨⟨Tryz.prog.funcs[sF 179]?.getD default,(Tryz.prog.funcs[sF 179]?.getD default).body.getD .skip,fun d=>0,?_,?_,?_,?_,?_⟩,?_,?_⟩
 ·kernel_rfl
 ·kernel_rfl
 ·kernel_rfl
 ·kernel_rfl
 ·kernel_rfl
 ·rfl
 ·decide
theorem bJy:bGh Tryz.prog sF sT:=by
 refine ⟨⟨Tryz.prog.funcs[sF 180]?.getD default,(Tryz.prog.funcs[sF 180]?.getD default).body.getD .skip,fun d=>if d=10 then 1 else if d=28 then 3 else if d=1000039 then 4 else if d=1000037 then 4 else 0,?_,?_,?_,?_,?_⟩,?_,?_⟩
 ·kernel_rfl
 ·kernel_rfl
 ·kernel_rfl
 ·kernel_rfl
 ·kernel_rfl
 ·rfl
 ·decide
theorem bKy:bE0 Tryz.prog sF sT:=by
 refine ⟨⟨Tryz.prog.funcs[sF 181]?.getD default,(Tryz.prog.funcs[sF 181]?.getD default).body.getD .skip,fun d=>if d=9 then 1 else if d=1000066 then 4 else if d=1000067 then 4 else 0,?_,?_,?_,?_,?_⟩,?_,?_⟩
 ·kernel_rfl
 ·kernel_rfl
 ·kernel_rfl
 ·kernel_rfl
 ·kernel_rfl
 ·rfl
 ·decide
theorem bKa:bFy Tryz.prog sF sT:=by
 refine ⟨⟨Tryz.prog.funcs[sF 182]?.getD default,(Tryz.prog.funcs[sF 182]?.getD default).body.getD .skip,fun d=>0,?_,?_,?_,?_,?_⟩,?_,?_⟩
 ·kernel_rfl
 ·kernel_rfl
 ·kernel_rfl
 ·kernel_rfl
 ·kernel_rfl
 ·rfl
 ·decide
theorem bLg:bD5 Tryz.prog sF sT:=by
 refine ⟨⟨Tryz.prog.funcs[sF 183]?.getD default,(Tryz.prog.funcs[sF 183]?.getD default).body.getD .skip,fun d=>0,?_,?_,?_,?_,?_⟩,?_,?_⟩
 ·kernel_rfl
 ·kernel_rfl
 ·kernel_rfl
 ·kernel_rfl
 ·kernel_rfl
 ·rfl
 ·decide
theorem bL9:bE8 Tryz.prog sF sT:=by
 refine ⟨⟨Tryz.prog.funcs[sF 184]?.getD default,(Tryz.prog.funcs[sF 184]?.getD default).body.getD .skip,fun d=>0,?_,?_,?_,?_,?_⟩,?_,?_⟩
 ·kernel_rfl
 ·kernel_rfl
 ·kernel_rfl
 ·kernel_rfl
 ·kernel_rfl
 ·rfl
 ·decide
theorem bLc:bD2 Tryz.prog sF sT:=by
 refine ⟨⟨Tryz.prog.funcs[sF 185]?.getD default,(Tryz.prog.funcs[sF 185]?.getD default).body.getD .skip,fun d=>0,?_,?_,?_,?_,?_⟩,?_,?_⟩
 ·kernel_rfl
 ·kernel_rfl
 ·kernel_rfl
 ·kernel_rfl
 ·kernel_rfl
 ·rfl
 ·decide
theorem bJ3:bAj Tryz.prog sF sT:=by
 refine ⟨⟨Tryz.prog.funcs[sF 186]?.getD default,(Tryz.prog.funcs[sF 186]?.getD default).body.getD .skip,fun d=>0,?_,?_,?_,?_,?_⟩,?_,?_⟩
 ·kernel_rfl
 ·kernel_rfl
 ·kernel_rfl
 ·kernel_rfl
 ·kernel_rfl
 ·rfl
 ·decide
theorem bKg:bC0 Tryz.prog sF sT:=by
 refine ⟨⟨Tryz.prog.funcs[sF 187]?.getD default,(Tryz.prog.funcs[sF 187]?.getD default).body.getD .skip,fun d=>0,?_,?_,?_,?_,?_⟩,?_,?_⟩
 ·kernel_rfl
 ·kernel_rfl
 ·kernel_rfl
 ·kernel_rfl
 ·kernel_rfl
 ·rfl
 ·decide
theorem bMf:bAi Tryz.prog sF sT:=by
 refine ⟨⟨Tryz.prog.funcs[sF 188]?.getD default,(Tryz.prog.funcs[sF 188]?.getD default).body.getD .skip,fun d=>0,?_,?_,?_,?_,?_⟩,?_,?_⟩
 ·kernel_rfl
 ·kernel_rfl
 ·kernel_rfl
 ·kernel_rfl
 ·kernel_rfl
 ·rfl
 ·decide
theorem bMn:aZc Tryz.prog sF sT:=by
 refine ⟨⟨Tryz.prog.funcs[sF 189]?.getD default,(Tryz.prog.funcs[sF 189]?.getD default).body.getD .skip,fun d=>0,?_,?_,?_,?_,?_⟩,?_,?_⟩
 ·kernel_rfl
 ·kernel_rfl
 ·kernel_rfl
 ·kernel_rfl
 ·kernel_rfl
 ·rfl
 ·decide
theorem bL0:aXe Tryz.prog sF sT:=by
 refine ⟨⟨Tryz.prog.funcs[sF 190]?.getD default,(Tryz.prog.funcs[sF 190]?.getD default).body.getD .skip,fun d=>0,?_,?_,?_,?_,?_⟩,?_,?_⟩
 ·kernel_rfl
 ·kernel_rfl
 ·kernel_rfl
 ·kernel_rfl
 ·kernel_rfl
 ·rfl
 ·decide
theorem bKp:aZ1 Tryz.prog sF sT:=by
 refine ⟨⟨Tryz.prog.funcs[sF 191]?.getD default,(Tryz.prog.funcs[sF 191]?.getD default).body.getD .skip,fun d=>0,?_,?_,?_,?_,?_⟩,?_,?_⟩
 ·kernel_rfl
 ·kernel_rfl
 ·kernel_rfl
 ·kernel_rfl
 ·kernel_rfl
 ·rfl
 ·decide
theorem bMo:bIg Tryz.prog sF sT:=by
 refine ⟨⟨Tryz.prog.funcs[sF 193]?.getD default,(Tryz.prog.funcs[sF 193]?.getD default).body.getD .skip,fun d=>0,?_,?_,?_,?_,?_⟩,?_,?_⟩
 ·kernel_rfl
 ·kernel_rfl
 ·kernel_rfl
 ·kernel_rfl
 ·kernel_rfl
 ·rfl
 ·decide
theorem bLb:bHo Tryz.prog sF sT:=by
 refine ⟨⟨Tryz.prog.funcs[sF 196]?.getD default,(Tryz.prog.funcs[sF 196]?.getD default).body.getD .skip,fun d=>0,?_,?_,?_,?_,?_⟩,?_,?_⟩
 ·kernel_rfl
 ·kernel_rfl
 ·kernel_rfl
 ·kernel_rfl
 ·kernel_rfl
 ·rfl
 ·decide
theorem bMe:bIz Tryz.prog sF sT:=by
 refine ⟨⟨Tryz.prog.funcs[sF 197]?.getD default,(Tryz.prog.funcs[sF 197]?.getD default).body.getD .skip,fun d=>0,?_,?_,?_,?_,?_⟩,?_,?_⟩
 ·kernel_rfl
 ·kernel_rfl
 ·kernel_rfl
 ·kernel_rfl
 ·kernel_rfl
 ·rfl
 ·decide
theorem bLq:bH4 Tryz.prog sF sT:=by
 refine ⟨⟨Tryz.prog.funcs[sF 198]?.getD default,(Tryz.prog.funcs[sF 198]?.getD default).body.getD .skip,fun d=>0,?_,?_,?_,?_,?_⟩,?_,?_⟩
 ·kernel_rfl
 ·kernel_rfl
 ·kernel_rfl
 ·kernel_rfl
 ·kernel_rfl
 ·rfl
 ·decide
theorem bJz:bIn Tryz.prog sF sT:=by
 refine ⟨⟨Tryz.prog.funcs[sF 207]?.getD default,(Tryz.prog.funcs[sF 207]?.getD default).body.getD .skip,fun d=>if d=51 then 8 else if d=58 then 8 else if d=107 then 8 else if d=132 then 8 else if d=63 then 1 else if d=1000032 then 4 else if d=1000034 then 4 else if d=1000024 then 4 else if d=1000033 then 4 else 0,?_,?_,?_,?_,?_⟩,?_,?_⟩
 ·kernel_rfl
 ·kernel_rfl
 ·kernel_rfl
 ·kernel_rfl
 ·kernel_rfl
 ·rfl
 ·decide
theorem bKb:bGy Tryz.prog sF sT:=by
 refine ⟨⟨Tryz.prog.funcs[sF 208]?.getD default,(Tryz.prog.funcs[sF 208]?.getD default).body.getD .skip,fun d=>if d=1000034 then 4 else 0,?_,?_,?_,?_,?_⟩,?_,?_⟩
 ·kernel_rfl
 ·kernel_rfl
 ·kernel_rfl
 ·kernel_rfl
 ·kernel_rfl
 ·rfl
 ·decide
theorem bL7:bD8 Tryz.prog sF sT:=by
 refine ⟨⟨Tryz.prog.funcs[sF 213]?.getD default,(Tryz.prog.funcs[sF 213]?.getD default).body.getD .skip,fun d=>if d=1000032 then 4 else if d=1000034 then 4 else 0,?_,?_,?_,?_,?_⟩,?_,?_⟩
 ·kernel_rfl
 ·kernel_rfl
 ·kernel_rfl
 ·kernel_rfl
 ·kernel_rfl
 ·rfl
 ·decide
theorem fn215:bGv Tryz.prog sF sT:=by
 refine ⟨⟨Tryz.prog.funcs[sF 215]?.getD default,(Tryz.prog.funcs[sF 215]?.getD default).body.getD .skip,fun d=>if d=1000027 then 4 else if d=1000015 then 4 else if d=1000024 then 4 else 0,?_,?_,?_,?_,?_⟩,?_,?_⟩
 ·kernel_rfl
 ·kernel_rfl
 ·kernel_rfl
 ·kernel_rfl
 ·kernel_rfl
 ·rfl
 ·decide
theorem bH5:bAg Tryz.prog sF sT:=by
 refine ⟨⟨Tryz.prog.funcs[sF 220]?.getD default,(Tryz.prog.funcs[sF 220]?.getD default).body.getD .skip,fun d=>0,?_,?_,?_,?_,?_⟩,?_,?_⟩
 ·kernel_rfl
 ·kernel_rfl
 ·kernel_rfl
 ·kernel_rfl
 ·kernel_rfl
 ·rfl
 ·decide
theorem bKj:bIb Tryz.prog sF sT:=by
 refine ⟨⟨Tryz.prog.funcs[sF 221]?.getD default,(Tryz.prog.funcs[sF 221]?.getD default).body.getD .skip,fun d=>if d=1000034 then 4 else 0,?_,?_,?_,?_,?_⟩,?_,?_⟩
 ·kernel_rfl
 ·kernel_rfl
 ·kernel_rfl
 ·kernel_rfl
 ·kernel_rfl
 ·rfl
 ·decide
theorem bI1:aZk Tryz.prog sF sT:=by
 refine ⟨⟨Tryz.prog.funcs[sF 222]?.getD default,(Tryz.prog.funcs[sF 222]?.getD default).body.getD .skip,fun d=>0,?_,?_,?_,?_,?_⟩,?_,?_⟩
 ·kernel_rfl
 ·kernel_rfl
 ·kernel_rfl
 ·kernel_rfl
 ·kernel_rfl
 ·rfl
 ·decide
theorem bMl:bCc Tryz.prog sF sT:=by
 refine ⟨⟨Tryz.prog.funcs[sF 226]?.getD default,(Tryz.prog.funcs[sF 226]?.getD default).body.getD .skip,fun d=>if d=1000061 then 4 else 0,?_,?_,?_,?_,?_⟩,?_,?_⟩
 ·kernel_rfl
 ·kernel_rfl
 ·kernel_rfl
 ·kernel_rfl
 ·kernel_rfl
 ·rfl
 ·decide
theorem bMj:aXb Tryz.prog sF sT:=by
 refine ⟨⟨Tryz.prog.funcs[sF 227]?.getD default,(Tryz.prog.funcs[sF 227]?.getD default).body.getD .skip,fun d=>0,?_,?_,?_,?_,?_⟩,?_,?_⟩
 ·kernel_rfl
 ·kernel_rfl
 ·kernel_rfl
 ·kernel_rfl
 ·kernel_rfl
 ·rfl
 ·decide
theorem bM3:aWy Tryz.prog sF sT:=by
 refine ⟨⟨Tryz.prog.funcs[sF 228]?.getD default,(Tryz.prog.funcs[sF 228]?.getD default).body.getD .skip,fun d=>if d=1000061 then 4 else if d=1000080 then 4 else 0,?_,?_,?_,?_,?_⟩,?_,?_⟩
 ·kernel_rfl
 ·kernel_rfl
 ·kernel_rfl
 ·kernel_rfl
 ·kernel_rfl
 ·rfl
 ·decide
theorem bMp:bCt Tryz.prog sF sT:=by
 refine ⟨⟨Tryz.prog.funcs[sF 229]?.getD default,(Tryz.prog.funcs[sF 229]?.getD default).body.getD .skip,fun d=>0,?_,?_,?_,?_,?_⟩,?_,?_⟩
 ·kernel_rfl
 ·kernel_rfl
 ·kernel_rfl
 ·kernel_rfl
 ·kernel_rfl
 ·rfl
 ·decide
theorem bKu:aUb Tryz.prog sF sT:=by
 refine ⟨⟨Tryz.prog.funcs[sF 230]?.getD default,(Tryz.prog.funcs[sF 230]?.getD default).body.getD .skip,fun d=>0,?_,?_,?_,?_,?_⟩,?_,?_⟩
 ·kernel_rfl
 ·kernel_rfl
 ·kernel_rfl
 ·kernel_rfl
 ·kernel_rfl
 ·rfl
 ·decide
theorem bNf:aU9 Tryz.prog sF sT:=by
 refine ⟨⟨Tryz.prog.funcs[sF 240]?.getD default,(Tryz.prog.funcs[sF 240]?.getD default).body.getD .skip,fun d=>0,?_,?_,?_,?_,?_⟩,?_,?_⟩
 ·kernel_rfl
 ·kernel_rfl
 ·kernel_rfl
 ·kernel_rfl
 ·kernel_rfl
 ·rfl
 ·decide
end Go.Ab
