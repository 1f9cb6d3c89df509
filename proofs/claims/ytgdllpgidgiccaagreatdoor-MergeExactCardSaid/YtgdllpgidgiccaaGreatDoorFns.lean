/- The functions of this seat, by program. No condition. -/
import Derived.Test.YtgdllpgidgiccaaGreatDoorProg
import Derived.Test.YtgdllpgidgiccaaGreatDoorAbE5
import Derived.Test.YtgdllpgidgiccaaGreatDoorAbP1
import Derived.Test.YtgdllpgidgiccaaGreatDoorAbP3
import Derived.Test.YtgdllpgidgiccaaGreatDoorAbR0
import Derived.Test.YtgdllpgidgiccaaGreatDoorAbR1
import Derived.Test.YtgdllpgidgiccaaGreatDoorAbR7
import Derived.Test.YtgdllpgidgiccaaGreatDoorAbZ1
import Derived.Test.YtgdllpgidgiccaaGreatDoorAbZ4
import Derived.Test.YtgdllpgidgiccaaGreatDoorAbM2
import Derived.Test.YtgdllpgidgiccaaGreatDoorAbM5
namespace Go.Ab
open Go.Proofs
set_option maxRecDepth 100000
def sF (k:Nat):Nat:=[0,0,76,68,0,0,0,0,0,0,0,0,0,0,0,0,0,0,0,0,0,0,108,33,100,101,0,30,0,142,53,159,160,32,0,0,75,39,0,10,11,0,140,0,0,0,26,25,0,0,64,0,0,0,16,0,104,105,106,107,65,66,67,27,125,87,34,127,128,129,130,131,132,133,134,135,136,137,138,139,141,88,89,90,91,92,93,94,95,96,97,98,99,49,156,165,166,157,167,158,149,117,118,119,151,152,153,154,155,120,121,122,74,56,57,58,164,83,163,168,51,77,82,0,28,70,0,0,0,0,0,29,0,0,0,0,50,52,69,0,80,0,31,78,79,110,113,111,114,112,115,54,145,144,143,162,55,161,0,19,0,0,0,20,0,0,0,0,40,41,42,71,0,0,0,0,0,0,0,0,0,0,0,0,0,0,0,0,0,0,0,0,0,0,0,0,0,0,0,0,0,0,0,0,0,0,0,0,0,0,0,0,0,0,0,0,0,0,0,0,0,0,0,0,0,0,0,0,0,0,0,0,0,0,0,0,0,0,0,0,0,102,0,0,0,0,0,0,0,0,0,0,0,0,9,15,48,17,12,35,36,37,38,59,60,63,62,61,86,116,146,3,13,14,4,18,5,21,22,23,6,7,8,24,43,44,45,47,46,72,73].getD k 0
def sT (k:Nat):Nat:=[136,154,67,5,86,164,162,167,131,128,57,125,110,192,63,4,0,0,0,0,0,9,0,0,3,0,36,38,54,75,80,83,27,97].getD k 0
theorem fn2:Is2 Tryz.prog sF sT:=by
 refine ⟨⟨Tryz.prog.funcs[sF 2]?.getD default,(Tryz.prog.funcs[sF 2]?.getD default).body.getD .skip,fun d=>if d=1000033 then 4 else if d=1000108 then 4 else 0,?_,?_,?_,?_,?_⟩,?_,?_⟩
 ·kernel_rfl
 ·kernel_rfl
 ·kernel_rfl
 ·kernel_rfl
 ·kernel_rfl
 ·rfl
 ·decide
theorem fn3:Is3 Tryz.prog sF sT:=by
 refine ⟨⟨Tryz.prog.funcs[sF 3]?.getD default,(Tryz.prog.funcs[sF 3]?.getD default).body.getD .skip,fun d=>0,?_,?_,?_,?_,?_⟩,?_,?_⟩
 ·kernel_rfl
 ·kernel_rfl
 ·kernel_rfl
 ·kernel_rfl
 ·kernel_rfl
 ·rfl
 ·decide
theorem fn22:Is22 Tryz.prog sF sT:=by
 refine ⟨⟨Tryz.prog.funcs[sF 22]?.getD default,(Tryz.prog.funcs[sF 22]?.getD default).body.getD .skip,fun d=>if d=1000142 then 4 else 0,?_,?_,?_,?_,?_⟩,?_,?_⟩
 ·kernel_rfl
 ·kernel_rfl
 ·kernel_rfl
 ·kernel_rfl
 ·kernel_rfl
 ·rfl
 ·decide
theorem fn23:Is23 Tryz.prog sF sT:=by
 refine ⟨⟨Tryz.prog.funcs[sF 23]?.getD default,(Tryz.prog.funcs[sF 23]?.getD default).body.getD .skip,fun d=>0,?_,?_,?_,?_,?_⟩,?_,?_⟩
 ·kernel_rfl
 ·kernel_rfl
 ·kernel_rfl
 ·kernel_rfl
 ·kernel_rfl
 ·rfl
 ·decide
theorem fn24:Is24 Tryz.prog sF sT:=by
 refine ⟨⟨Tryz.prog.funcs[sF 24]?.getD default,(Tryz.prog.funcs[sF 24]?.getD default).body.getD .skip,fun d=>0,?_,?_,?_,?_,?_⟩,?_,?_⟩
 ·kernel_rfl
 ·kernel_rfl
 ·kernel_rfl
 ·kernel_rfl
 ·kernel_rfl
 ·rfl
 ·decide
theorem fn25:Is25 Tryz.prog sF sT:=by
 refine ⟨⟨Tryz.prog.funcs[sF 25]?.getD default,(Tryz.prog.funcs[sF 25]?.getD default).body.getD .skip,fun d=>0,?_,?_,?_,?_,?_⟩,?_,?_⟩
 ·kernel_rfl
 ·kernel_rfl
 ·kernel_rfl
 ·kernel_rfl
 ·kernel_rfl
 ·rfl
 ·decide
theorem fn27:Is27 Tryz.prog sF sT:=by
 refine ⟨⟨Tryz.prog.funcs[sF 27]?.getD default,(Tryz.prog.funcs[sF 27]?.getD default).body.getD .skip,fun d=>if d=1000053 then 4 else 0,?_,?_,?_,?_,?_⟩,?_,?_⟩
 ·kernel_rfl
 ·kernel_rfl
 ·kernel_rfl
 ·kernel_rfl
 ·kernel_rfl
 ·rfl
 ·decide
theorem fn29:Is29 Tryz.prog sF sT:=by
 refine ⟨⟨Tryz.prog.funcs[sF 29]?.getD default,(Tryz.prog.funcs[sF 29]?.getD default).body.getD .skip,fun d=>if d=1000030 then 4 else if d=1000108 then 4 else if d=1000159 then 4 else 0,?_,?_,?_,?_,?_⟩,?_,?_⟩
 ·kernel_rfl
 ·kernel_rfl
 ·kernel_rfl
 ·kernel_rfl
 ·kernel_rfl
 ·rfl
 ·decide
theorem fn30:Is30 Tryz.prog sF sT:=by
 refine ⟨⟨Tryz.prog.funcs[sF 30]?.getD default,(Tryz.prog.funcs[sF 30]?.getD default).body.getD .skip,fun d=>0,?_,?_,?_,?_,?_⟩,?_,?_⟩
 ·kernel_rfl
 ·kernel_rfl
 ·kernel_rfl
 ·kernel_rfl
 ·kernel_rfl
 ·rfl
 ·decide
theorem fn31:Is31 Tryz.prog sF sT:=by
 refine ⟨⟨Tryz.prog.funcs[sF 31]?.getD default,(Tryz.prog.funcs[sF 31]?.getD default).body.getD .skip,fun d=>if d=1000030 then 4 else if d=1000032 then 4 else if d=1000108 then 4 else 0,?_,?_,?_,?_,?_⟩,?_,?_⟩
 ·kernel_rfl
 ·kernel_rfl
 ·kernel_rfl
 ·kernel_rfl
 ·kernel_rfl
 ·rfl
 ·decide
theorem fn32:Is32 Tryz.prog sF sT:=by
 refine ⟨⟨Tryz.prog.funcs[sF 32]?.getD default,(Tryz.prog.funcs[sF 32]?.getD default).body.getD .skip,fun d=>0,?_,?_,?_,?_,?_⟩,?_,?_⟩
 ·kernel_rfl
 ·kernel_rfl
 ·kernel_rfl
 ·kernel_rfl
 ·kernel_rfl
 ·rfl
 ·decide
theorem fn33:Is33 Tryz.prog sF sT:=by
 refine ⟨⟨Tryz.prog.funcs[sF 33]?.getD default,(Tryz.prog.funcs[sF 33]?.getD default).body.getD .skip,fun d=>if d=1000053 then 4 else 0,?_,?_,?_,?_,?_⟩,?_,?_⟩
 ·kernel_rfl
 ·kernel_rfl
 ·kernel_rfl
 ·kernel_rfl
 ·kernel_rfl
 ·rfl
 ·decide
theorem fn36:Is36 Tryz.prog sF sT:=by
 refine ⟨⟨Tryz.prog.funcs[sF 36]?.getD default,(Tryz.prog.funcs[sF 36]?.getD default).body.getD .skip,fun d=>if d=19 then 1 else if d=1000105 then 4 else if d=1000106 then 4 else if d=1000107 then 4 else 0,?_,?_,?_,?_,?_⟩,?_,?_⟩
 ·kernel_rfl
 ·kernel_rfl
 ·kernel_rfl
 ·kernel_rfl
 ·kernel_rfl
 ·rfl
 ·decide
theorem fn37:Is37 Tryz.prog sF sT:=by
 refine ⟨⟨Tryz.prog.funcs[sF 37]?.getD default,(Tryz.prog.funcs[sF 37]?.getD default).body.getD .skip,fun d=>if d=1000065 then 4 else if d=1000066 then 4 else if d=1000067 then 4 else 0,?_,?_,?_,?_,?_⟩,?_,?_⟩
 ·kernel_rfl
 ·kernel_rfl
 ·kernel_rfl
 ·kernel_rfl
 ·kernel_rfl
 ·rfl
 ·decide
theorem fn39:Is39 Tryz.prog sF sT:=by
 refine ⟨⟨Tryz.prog.funcs[sF 39]?.getD default,(Tryz.prog.funcs[sF 39]?.getD default).body.getD .skip,fun d=>0,?_,?_,?_,?_,?_⟩,?_,?_⟩
 ·kernel_rfl
 ·kernel_rfl
 ·kernel_rfl
 ·kernel_rfl
 ·kernel_rfl
 ·rfl
 ·decide
theorem fn46:Is46 Tryz.prog sF sT:=by
 refine ⟨⟨Tryz.prog.funcs[sF 46]?.getD default,(Tryz.prog.funcs[sF 46]?.getD default).body.getD .skip,fun d=>0,?_,?_,?_,?_,?_⟩,?_,?_⟩
 ·kernel_rfl
 ·kernel_rfl
 ·kernel_rfl
 ·kernel_rfl
 ·kernel_rfl
 ·rfl
 ·decide
theorem fn47:Is47 Tryz.prog sF sT:=by
 refine ⟨⟨Tryz.prog.funcs[sF 47]?.getD default,(Tryz.prog.funcs[sF 47]?.getD default).body.getD .skip,fun d=>if d=1000026 then 4 else 0,?_,?_,?_,?_,?_⟩,?_,?_⟩
 ·kernel_rfl
 ·kernel_rfl
 ·kernel_rfl
 ·kernel_rfl
 ·kernel_rfl
 ·rfl
 ·decide
theorem fn50:Is50 Tryz.prog sF sT:=by
 refine ⟨⟨Tryz.prog.funcs[sF 50]?.getD default,(Tryz.prog.funcs[sF 50]?.getD default).body.getD .skip,fun d=>0,?_,?_,?_,?_,?_⟩,?_,?_⟩
 ·kernel_rfl
 ·kernel_rfl
 ·kernel_rfl
 ·kernel_rfl
 ·kernel_rfl
 ·rfl
 ·decide
theorem fn56:Is56 Tryz.prog sF sT:=by
 refine ⟨⟨Tryz.prog.funcs[sF 56]?.getD default,(Tryz.prog.funcs[sF 56]?.getD default).body.getD .skip,fun d=>0,?_,?_,?_,?_,?_⟩,?_,?_⟩
 ·kernel_rfl
 ·kernel_rfl
 ·kernel_rfl
 ·kernel_rfl
 ·kernel_rfl
 ·rfl
 ·decide
theorem fn57:Is57 Tryz.prog sF sT:=by
 refine ⟨⟨Tryz.prog.funcs[sF 57]?.getD default,(Tryz.prog.funcs[sF 57]?.getD default).body.getD .skip,fun d=>if d=1000129 then 4 else if d=1000130 then 4 else if d=1000131 then 4 else if d=1000133 then 4 else if d=1000134 then 4 else if d=1000135 then 4 else if d=1000136 then 4 else if d=1000137 then 4 else 0,?_,?_,?_,?_,?_⟩,?_,?_⟩
 ·kernel_rfl
 ·kernel_rfl
 ·kernel_rfl
 ·kernel_rfl
 ·kernel_rfl
 ·rfl
 ·decide
theorem fn58:Is58 Tryz.prog sF sT:=by
 refine ⟨⟨Tryz.prog.funcs[sF 58]?.getD default,(Tryz.prog.funcs[sF 58]?.getD default).body.getD .skip,fun d=>if d=1000129 then 4 else if d=1000138 then 4 else if d=1000141 then 4 else 0,?_,?_,?_,?_,?_⟩,?_,?_⟩
 ·kernel_rfl
 ·kernel_rfl
 ·kernel_rfl
 ·kernel_rfl
 ·kernel_rfl
 ·rfl
 ·decide
theorem fn59:Is59 Tryz.prog sF sT:=by
 refine ⟨⟨Tryz.prog.funcs[sF 59]?.getD default,(Tryz.prog.funcs[sF 59]?.getD default).body.getD .skip,fun d=>0,?_,?_,?_,?_,?_⟩,?_,?_⟩
 ·kernel_rfl
 ·kernel_rfl
 ·kernel_rfl
 ·kernel_rfl
 ·kernel_rfl
 ·rfl
 ·decide
theorem fn60:Is60 Tryz.prog sF sT:=by
 refine ⟨⟨Tryz.prog.funcs[sF 60]?.getD default,(Tryz.prog.funcs[sF 60]?.getD default).body.getD .skip,fun d=>if d=1000066 then 4 else if d=1000067 then 4 else if d=1000089 then 4 else if d=1000090 then 4 else if d=1000092 then 4 else if d=1000093 then 4 else if d=1000094 then 4 else if d=1000095 then 4 else if d=1000096 then 4 else if d=1000097 then 4 else if d=1000098 then 4 else 0,?_,?_,?_,?_,?_⟩,?_,?_⟩
 ·kernel_rfl
 ·kernel_rfl
 ·kernel_rfl
 ·kernel_rfl
 ·kernel_rfl
 ·rfl
 ·decide
theorem fn61:Is61 Tryz.prog sF sT:=by
 refine ⟨⟨Tryz.prog.funcs[sF 61]?.getD default,(Tryz.prog.funcs[sF 61]?.getD default).body.getD .skip,fun d=>if d=1000099 then 4 else 0,?_,?_,?_,?_,?_⟩,?_,?_⟩
 ·kernel_rfl
 ·kernel_rfl
 ·kernel_rfl
 ·kernel_rfl
 ·kernel_rfl
 ·rfl
 ·decide
theorem fn62:Is62 Tryz.prog sF sT:=by
 refine ⟨⟨Tryz.prog.funcs[sF 62]?.getD default,(Tryz.prog.funcs[sF 62]?.getD default).body.getD .skip,fun d=>0,?_,?_,?_,?_,?_⟩,?_,?_⟩
 ·kernel_rfl
 ·kernel_rfl
 ·kernel_rfl
 ·kernel_rfl
 ·kernel_rfl
 ·rfl
 ·decide
theorem fn65:Is65 Tryz.prog sF sT:=by
 refine ⟨⟨Tryz.prog.funcs[sF 65]?.getD default,(Tryz.prog.funcs[sF 65]?.getD default).body.getD .skip,fun d=>0,?_,?_,?_,?_,?_⟩,?_,?_⟩
 ·kernel_rfl
 ·kernel_rfl
 ·kernel_rfl
 ·kernel_rfl
 ·kernel_rfl
 ·rfl
 ·decide
theorem fn67:Is67 Tryz.prog sF sT:=by
 refine ⟨⟨Tryz.prog.funcs[sF 67]?.getD default,(Tryz.prog.funcs[sF 67]?.getD default).body.getD .skip,fun d=>0,?_,?_,?_,?_,?_⟩,?_,?_⟩
 ·kernel_rfl
 ·kernel_rfl
 ·kernel_rfl
 ·kernel_rfl
 ·kernel_rfl
 ·rfl
 ·decide
theorem fn68:Is68 Tryz.prog sF sT:=by
 refine ⟨⟨Tryz.prog.funcs[sF 68]?.getD default,(Tryz.prog.funcs[sF 68]?.getD default).body.getD .skip,fun d=>0,?_,?_,?_,?_,?_⟩,?_,?_⟩
 ·kernel_rfl
 ·kernel_rfl
 ·kernel_rfl
 ·kernel_rfl
 ·kernel_rfl
 ·rfl
 ·decide
theorem fn69:Is69 Tryz.prog sF sT:=by
 refine ⟨⟨Tryz.prog.funcs[sF 69]?.getD default,(Tryz.prog.funcs[sF 69]?.getD default).body.getD .skip,fun d=>if d=2000048 then 5 else if d=2000049 then 6 else if d=1000107 then 4 else if d=1000153 then 4 else 0,?_,?_,?_,?_,?_⟩,?_,?_⟩
 ·kernel_rfl
 ·kernel_rfl
 ·kernel_rfl
 ·kernel_rfl
 ·kernel_rfl
 ·rfl
 ·decide
theorem fn70:Is70 Tryz.prog sF sT:=by
 refine ⟨⟨Tryz.prog.funcs[sF 70]?.getD default,(Tryz.prog.funcs[sF 70]?.getD default).body.getD .skip,fun d=>if d=11 then 2 else if d=2000015 then 5 else if d=2000016 then 6 else if d=1000107 then 4 else if d=1000153 then 4 else 0,?_,?_,?_,?_,?_⟩,?_,?_⟩
 ·kernel_rfl
 ·kernel_rfl
 ·kernel_rfl
 ·kernel_rfl
 ·kernel_rfl
 ·rfl
 ·decide
theorem fn71:Is71 Tryz.prog sF sT:=by
 refine ⟨⟨Tryz.prog.funcs[sF 71]?.getD default,(Tryz.prog.funcs[sF 71]?.getD default).body.getD .skip,fun d=>if d=1000129 then 4 else 0,?_,?_,?_,?_,?_⟩,?_,?_⟩
 ·kernel_rfl
 ·kernel_rfl
 ·kernel_rfl
 ·kernel_rfl
 ·kernel_rfl
 ·rfl
 ·decide
theorem fn72:Is72 Tryz.prog sF sT:=by
 refine ⟨⟨Tryz.prog.funcs[sF 72]?.getD default,(Tryz.prog.funcs[sF 72]?.getD default).body.getD .skip,fun d=>0,?_,?_,?_,?_,?_⟩,?_,?_⟩
 ·kernel_rfl
 ·kernel_rfl
 ·kernel_rfl
 ·kernel_rfl
 ·kernel_rfl
 ·rfl
 ·decide
theorem fn73:Is73 Tryz.prog sF sT:=by
 refine ⟨⟨Tryz.prog.funcs[sF 73]?.getD default,(Tryz.prog.funcs[sF 73]?.getD default).body.getD .skip,fun d=>if d=1000107 then 4 else if d=1000129 then 4 else 0,?_,?_,?_,?_,?_⟩,?_,?_⟩
 ·kernel_rfl
 ·kernel_rfl
 ·kernel_rfl
 ·kernel_rfl
 ·kernel_rfl
 ·rfl
 ·decide
theorem fn74:Is74 Tryz.prog sF sT:=by
 refine ⟨⟨Tryz.prog.funcs[sF 74]?.getD default,(Tryz.prog.funcs[sF 74]?.getD default).body.getD .skip,fun d=>if d=1000107 then 4 else if d=1000129 then 4 else 0,?_,?_,?_,?_,?_⟩,?_,?_⟩
 ·kernel_rfl
 ·kernel_rfl
 ·kernel_rfl
 ·kernel_rfl
 ·kernel_rfl
 ·rfl
 ·decide
theorem fn75:Is75 Tryz.prog sF sT:=by
 refine ⟨⟨Tryz.prog.funcs[sF 75]?.getD default,(Tryz.prog.funcs[sF 75]?.getD default).body.getD .skip,fun d=>if d=1000107 then 4 else if d=1000129 then 4 else if d=1000138 then 4 else if d=1000141 then 4 else 0,?_,?_,?_,?_,?_⟩,?_,?_⟩
 ·kernel_rfl
 ·kernel_rfl
 ·kernel_rfl
 ·kernel_rfl
 ·kernel_rfl
 ·rfl
 ·decide
theorem fn76:Is76 Tryz.prog sF sT:=by
 refine ⟨⟨Tryz.prog.funcs[sF 76]?.getD default,(Tryz.prog.funcs[sF 76]?.getD default).body.getD .skip,fun d=>if d=1000106 then 4 else if d=1000129 then 4 else if d=1000130 then 4 else if d=1000138 then 4 else 0,?_,?_,?_,?_,?_⟩,?_,?_⟩
 ·kernel_rfl
 ·kernel_rfl
 ·kernel_rfl
 ·kernel_rfl
 ·kernel_rfl
 ·rfl
 ·decide
theorem fn77:Is77 Tryz.prog sF sT:=by
 refine ⟨⟨Tryz.prog.funcs[sF 77]?.getD default,(Tryz.prog.funcs[sF 77]?.getD default).body.getD .skip,fun d=>if d=65 then 1 else if d=1000106 then 4 else if d=1000107 then 4 else if d=1000129 then 4 else if d=1000130 then 4 else if d=1000138 then 4 else if d=1000155 then 4 else 0,?_,?_,?_,?_,?_⟩,?_,?_⟩
 ·kernel_rfl
 ·kernel_rfl
 ·kernel_rfl
 ·kernel_rfl
 ·kernel_rfl
 ·rfl
 ·decide
theorem fn78:Is78 Tryz.prog sF sT:=by
 refine ⟨⟨Tryz.prog.funcs[sF 78]?.getD default,(Tryz.prog.funcs[sF 78]?.getD default).body.getD .skip,fun d=>if d=1000107 then 4 else 0,?_,?_,?_,?_,?_⟩,?_,?_⟩
 ·kernel_rfl
 ·kernel_rfl
 ·kernel_rfl
 ·kernel_rfl
 ·kernel_rfl
 ·rfl
 ·decide
theorem fn79:Is79 Tryz.prog sF sT:=by
 refine ⟨⟨Tryz.prog.funcs[sF 79]?.getD default,(Tryz.prog.funcs[sF 79]?.getD default).body.getD .skip,fun d=>0,?_,?_,?_,?_,?_⟩,?_,?_⟩
 ·kernel_rfl
 ·kernel_rfl
 ·kernel_rfl
 ·kernel_rfl
 ·kernel_rfl
 ·rfl
 ·decide
theorem fn80:Is80 Tryz.prog sF sT:=by
 refine ⟨⟨Tryz.prog.funcs[sF 80]?.getD default,(Tryz.prog.funcs[sF 80]?.getD default).body.getD .skip,fun d=>if d=1000129 then 4 else if d=1000130 then 4 else 0,?_,?_,?_,?_,?_⟩,?_,?_⟩
 ·kernel_rfl
 ·kernel_rfl
 ·kernel_rfl
 ·kernel_rfl
 ·kernel_rfl
 ·rfl
 ·decide
theorem fn81:Is81 Tryz.prog sF sT:=by
 refine ⟨⟨Tryz.prog.funcs[sF 81]?.getD default,(Tryz.prog.funcs[sF 81]?.getD default).body.getD .skip,fun d=>0,?_,?_,?_,?_,?_⟩,?_,?_⟩
 ·kernel_rfl
 ·kernel_rfl
 ·kernel_rfl
 ·kernel_rfl
 ·kernel_rfl
 ·rfl
 ·decide
theorem fn82:Is82 Tryz.prog sF sT:=by
 refine ⟨⟨Tryz.prog.funcs[sF 82]?.getD default,(Tryz.prog.funcs[sF 82]?.getD default).body.getD .skip,fun d=>if d=1000067 then 4 else if d=1000092 then 4 else 0,?_,?_,?_,?_,?_⟩,?_,?_⟩
 ·kernel_rfl
 ·kernel_rfl
 ·kernel_rfl
 ·kernel_rfl
 ·kernel_rfl
 ·rfl
 ·decide
theorem fn83:Is83 Tryz.prog sF sT:=by
 refine ⟨⟨Tryz.prog.funcs[sF 83]?.getD default,(Tryz.prog.funcs[sF 83]?.getD default).body.getD .skip,fun d=>if d=22 then 2 else if d=1000093 then 4 else 0,?_,?_,?_,?_,?_⟩,?_,?_⟩
 ·kernel_rfl
 ·kernel_rfl
 ·kernel_rfl
 ·kernel_rfl
 ·kernel_rfl
 ·rfl
 ·decide
theorem fn84:Is84 Tryz.prog sF sT:=by
 refine ⟨⟨Tryz.prog.funcs[sF 84]?.getD default,(Tryz.prog.funcs[sF 84]?.getD default).body.getD .skip,fun d=>0,?_,?_,?_,?_,?_⟩,?_,?_⟩
 ·kernel_rfl
 ·kernel_rfl
 ·kernel_rfl
 ·kernel_rfl
 ·kernel_rfl
 ·rfl
 ·decide
theorem fn85:Is85 Tryz.prog sF sT:=by
 refine ⟨⟨Tryz.prog.funcs[sF 85]?.getD default,(Tryz.prog.funcs[sF 85]?.getD default).body.getD .skip,fun d=>if d=17 then 2 else 0,?_,?_,?_,?_,?_⟩,?_,?_⟩
 ·kernel_rfl
 ·kernel_rfl
 ·kernel_rfl
 ·kernel_rfl
 ·kernel_rfl
 ·rfl
 ·decide
theorem fn86:Is86 Tryz.prog sF sT:=by
 refine ⟨⟨Tryz.prog.funcs[sF 86]?.getD default,(Tryz.prog.funcs[sF 86]?.getD default).body.getD .skip,fun d=>if d=1000089 then 4 else 0,?_,?_,?_,?_,?_⟩,?_,?_⟩
 ·kernel_rfl
 ·kernel_rfl
 ·kernel_rfl
 ·kernel_rfl
 ·kernel_rfl
 ·rfl
 ·decide
theorem fn87:Is87 Tryz.prog sF sT:=by
 refine ⟨⟨Tryz.prog.funcs[sF 87]?.getD default,(Tryz.prog.funcs[sF 87]?.getD default).body.getD .skip,fun d=>if d=1000067 then 4 else if d=1000092 then 4 else if d=1000093 then 4 else 0,?_,?_,?_,?_,?_⟩,?_,?_⟩
 ·kernel_rfl
 ·kernel_rfl
 ·kernel_rfl
 ·kernel_rfl
 ·kernel_rfl
 ·rfl
 ·decide
theorem fn88:Is88 Tryz.prog sF sT:=by
 refine ⟨⟨Tryz.prog.funcs[sF 88]?.getD default,(Tryz.prog.funcs[sF 88]?.getD default).body.getD .skip,fun d=>if d=1000067 then 4 else 0,?_,?_,?_,?_,?_⟩,?_,?_⟩
 ·kernel_rfl
 ·kernel_rfl
 ·kernel_rfl
 ·kernel_rfl
 ·kernel_rfl
 ·rfl
 ·decide
theorem fn89:Is89 Tryz.prog sF sT:=by
 refine ⟨⟨Tryz.prog.funcs[sF 89]?.getD default,(Tryz.prog.funcs[sF 89]?.getD default).body.getD .skip,fun d=>if d=1000089 then 4 else 0,?_,?_,?_,?_,?_⟩,?_,?_⟩
 ·kernel_rfl
 ·kernel_rfl
 ·kernel_rfl
 ·kernel_rfl
 ·kernel_rfl
 ·rfl
 ·decide
theorem fn90:Is90 Tryz.prog sF sT:=by
 refine ⟨⟨Tryz.prog.funcs[sF 90]?.getD default,(Tryz.prog.funcs[sF 90]?.getD default).body.getD .skip,fun d=>0,?_,?_,?_,?_,?_⟩,?_,?_⟩
 ·kernel_rfl
 ·kernel_rfl
 ·kernel_rfl
 ·kernel_rfl
 ·kernel_rfl
 ·rfl
 ·decide
theorem fn91:Is91 Tryz.prog sF sT:=by
 refine ⟨⟨Tryz.prog.funcs[sF 91]?.getD default,(Tryz.prog.funcs[sF 91]?.getD default).body.getD .skip,fun d=>if d=50 then 2 else if d=1000066 then 4 else if d=1000089 then 4 else if d=1000093 then 4 else if d=1000095 then 4 else if d=1000121 then 4 else 0,?_,?_,?_,?_,?_⟩,?_,?_⟩
 ·kernel_rfl
 ·kernel_rfl
 ·kernel_rfl
 ·kernel_rfl
 ·kernel_rfl
 ·rfl
 ·decide
theorem fn92:Is92 Tryz.prog sF sT:=by
 refine ⟨⟨Tryz.prog.funcs[sF 92]?.getD default,(Tryz.prog.funcs[sF 92]?.getD default).body.getD .skip,fun d=>if d=1000093 then 4 else if d=1000095 then 4 else if d=1000096 then 4 else 0,?_,?_,?_,?_,?_⟩,?_,?_⟩
 ·kernel_rfl
 ·kernel_rfl
 ·kernel_rfl
 ·kernel_rfl
 ·kernel_rfl
 ·rfl
 ·decide
theorem fn97:Is97 Tryz.prog sF sT:=by
 refine ⟨⟨Tryz.prog.funcs[sF 97]?.getD default,(Tryz.prog.funcs[sF 97]?.getD default).body.getD .skip,fun d=>0,?_,?_,?_,?_,?_⟩,?_,?_⟩
 ·kernel_rfl
 ·kernel_rfl
 ·kernel_rfl
 ·kernel_rfl
 ·kernel_rfl
 ·rfl
 ·decide
theorem fn98:Is98 Tryz.prog sF sT:=by
 refine ⟨⟨Tryz.prog.funcs[sF 98]?.getD default,(Tryz.prog.funcs[sF 98]?.getD default).body.getD .skip,fun d=>0,?_,?_,?_,?_,?_⟩,?_,?_⟩
 ·kernel_rfl
 ·kernel_rfl
 ·kernel_rfl
 ·kernel_rfl
 ·kernel_rfl
 ·rfl
 ·decide
theorem bOb:bIo Tryz.prog sF sT:=by
 refine ⟨⟨Tryz.prog.funcs[sF 101]?.getD default,(Tryz.prog.funcs[sF 101]?.getD default).body.getD .skip,fun d=>0,?_,?_,?_,?_,?_⟩,?_,?_⟩
 ·kernel_rfl
 ·kernel_rfl
 ·kernel_rfl
 ·kernel_rfl
 ·kernel_rfl
 ·rfl
 ·decide
theorem bMz:bBj Tryz.prog sF sT:=by
 refine ⟨⟨Tryz.prog.funcs[sF 102]?.getD default,(Tryz.prog.funcs[sF 102]?.getD default).body.getD .skip,fun d=>0,?_,?_,?_,?_,?_⟩,?_,?_⟩
 ·kernel_rfl
 ·kernel_rfl
 ·kernel_rfl
 ·kernel_rfl
 ·kernel_rfl
 ·rfl
 ·decide
theorem bM4:bH8 Tryz.prog sF sT:=by
 refine ⟨⟨Tryz.prog.funcs[sF 103]?.getD default,(Tryz.prog.funcs[sF 103]?.getD default).body.getD .skip,fun d=>0,?_,?_,?_,?_,?_⟩,?_,?_⟩
 ·kernel_rfl
 ·kernel_rfl
 ·kernel_rfl
 ·kernel_rfl
 ·kernel_rfl
 ·rfl
 ·decide
theorem bPf:bDt Tryz.prog sF sT:=by
 refine ⟨⟨Tryz.prog.funcs[sF 104]?.getD default,(Tryz.prog.funcs[sF 104]?.getD default).body.getD .skip,fun d=>0,?_,?_,?_,?_,?_⟩,?_,?_⟩
 ·kernel_rfl
 ·kernel_rfl
 ·kernel_rfl
 ·kernel_rfl
 ·kernel_rfl
 ·rfl
 ·decide
theorem bNb:bDo Tryz.prog sF sT:=by
 refine ⟨⟨Tryz.prog.funcs[sF 105]?.getD default,(Tryz.prog.funcs[sF 105]?.getD default).body.getD .skip,fun d=>0,?_,?_,?_,?_,?_⟩,?_,?_⟩
 ·kernel_rfl
 ·kernel_rfl
 ·kernel_rfl
 ·kernel_rfl
 ·kernel_rfl
 ·rfl
 ·decide
theorem bOi:aI2 Tryz.prog sF sT:=by
 refine ⟨⟨Tryz.prog.funcs[sF 106]?.getD default,(Tryz.prog.funcs[sF 106]?.getD default).body.getD .skip,fun d=>0,?_,?_,?_,?_,?_⟩,?_,?_⟩
 ·kernel_rfl
 ·kernel_rfl
 ·kernel_rfl
 ·kernel_rfl
 ·kernel_rfl
 ·rfl
 ·decide
theorem bOx:aWc Tryz.prog sF sT:=by
 refine ⟨⟨Tryz.prog.funcs[sF 107]?.getD default,(Tryz.prog.funcs[sF 107]?.getD default).body.getD .skip,fun d=>0,?_,?_,?_,?_,?_⟩,?_,?_⟩
 ·kernel_rfl
 ·kernel_rfl
 ·kernel_rfl
 ·kernel_rfl
 ·kernel_rfl
 ·rfl
 ·decide
theorem bNp:bEr Tryz.prog sF sT:=by
 refine ⟨⟨Tryz.prog.funcs[sF 108]?.getD default,(Tryz.prog.funcs[sF 108]?.getD default).body.getD .skip,fun d=>0,?_,?_,?_,?_,?_⟩,?_,?_⟩
 ·kernel_rfl
 ·kernel_rfl
 ·kernel_rfl
 ·kernel_rfl
 ·kernel_rfl
 ·rfl
 ·decide
theorem bN9:aZ8 Tryz.prog sF sT:=by
 refine ⟨⟨Tryz.prog.funcs[sF 109]?.getD default,(Tryz.prog.funcs[sF 109]?.getD default).body.getD .skip,fun d=>0,?_,?_,?_,?_,?_⟩,?_,?_⟩
 ·kernel_rfl
 ·kernel_rfl
 ·kernel_rfl
 ·kernel_rfl
 ·kernel_rfl
 ·rfl
 ·decide
theorem bOn:bLx Tryz.prog sF sT:=by
 refine ⟨⟨Tryz.prog.funcs[sF 110]?.getD default,(Tryz.prog.funcs[sF 110]?.getD default).body.getD .skip,fun d=>0,?_,?_,?_,?_,?_⟩,?_,?_⟩
 ·kernel_rfl
 ·kernel_rfl
 ·kernel_rfl
 ·kernel_rfl
 ·kernel_rfl
 ·rfl
 ·decide
theorem bPd:bHg Tryz.prog sF sT:=by
 refine ⟨⟨Tryz.prog.funcs[sF 111]?.getD default,(Tryz.prog.funcs[sF 111]?.getD default).body.getD .skip,fun d=>0,?_,?_,?_,?_,?_⟩,?_,?_⟩
 ·kernel_rfl
 ·kernel_rfl
 ·kernel_rfl
 ·kernel_rfl
 ·kernel_rfl
 ·rfl
 ·decide
theorem bM0:aTb Tryz.prog sF sT:=by
 refine ⟨⟨Tryz.prog.funcs[sF 116]?.getD default,(Tryz.prog.funcs[sF 116]?.getD default).body.getD .skip,fun d=>0,?_,?_,?_,?_,?_⟩,?_,?_⟩
 ·kernel_rfl
 ·kernel_rfl
 ·kernel_rfl
 ·kernel_rfl
 ·kernel_rfl
 ·rfl
 ·decide
theorem bOz:bJh Tryz.prog sF sT:=by
 refine ⟨⟨Tryz.prog.funcs[sF 124]?.getD default,(Tryz.prog.funcs[sF 124]?.getD default).body.getD .skip,fun d=>0,?_,?_,?_,?_,?_⟩,?_,?_⟩
 ·kernel_rfl
 ·kernel_rfl
 ·kernel_rfl
 ·kernel_rfl
 ·kernel_rfl
 ·rfl
 ·decide
theorem bN5:bCs Tryz.prog sF sT:=by
 refine ⟨⟨Tryz.prog.funcs[sF 125]?.getD default,(Tryz.prog.funcs[sF 125]?.getD default).body.getD .skip,fun d=>0,?_,?_,?_,?_,?_⟩,?_,?_⟩
 ·kernel_rfl
 ·kernel_rfl
 ·kernel_rfl
 ·kernel_rfl
 ·kernel_rfl
 ·rfl
 ·decide
theorem bO6:bDa Tryz.prog sF sT:=by
 refine ⟨⟨Tryz.prog.funcs[sF 131]?.getD default,(Tryz.prog.funcs[sF 131]?.getD default).body.getD .skip,fun d=>0,?_,?_,?_,?_,?_⟩,?_,?_⟩
 ·kernel_rfl
 ·kernel_rfl
 ·kernel_rfl
 ·kernel_rfl
 ·kernel_rfl
 ·rfl
 ·decide
theorem bOo:bH6 Tryz.prog sF sT:=by
 refine ⟨⟨Tryz.prog.funcs[sF 136]?.getD default,(Tryz.prog.funcs[sF 136]?.getD default).body.getD .skip,fun d=>0,?_,?_,?_,?_,?_⟩,?_,?_⟩
 ·kernel_rfl
 ·kernel_rfl
 ·kernel_rfl
 ·kernel_rfl
 ·kernel_rfl
 ·rfl
 ·decide
theorem bOe:bGs Tryz.prog sF sT:=by
 refine ⟨⟨Tryz.prog.funcs[sF 137]?.getD default,(Tryz.prog.funcs[sF 137]?.getD default).body.getD .skip,fun d=>0,?_,?_,?_,?_,?_⟩,?_,?_⟩
 ·kernel_rfl
 ·kernel_rfl
 ·kernel_rfl
 ·kernel_rfl
 ·kernel_rfl
 ·rfl
 ·decide
theorem bN1:aX5 Tryz.prog sF sT:=by
 refine ⟨⟨Tryz.prog.funcs[sF 138]?.getD default,(Tryz.prog.funcs[sF 138]?.getD default).body.getD .skip,fun d=>0,?_,?_,?_,?_,?_⟩,?_,?_⟩
 ·kernel_rfl
 ·kernel_rfl
 ·kernel_rfl
 ·kernel_rfl
 ·kernel_rfl
 ·rfl
 ·decide
theorem bOq:bJt Tryz.prog sF sT:=by
 refine ⟨⟨Tryz.prog.funcs[sF 159]?.getD default,(Tryz.prog.funcs[sF 159]?.getD default).body.getD .skip,fun d=>0,?_,?_,?_,?_,?_⟩,?_,?_⟩
 ·kernel_rfl
 ·kernel_rfl
 ·kernel_rfl
 ·kernel_rfl
 ·kernel_rfl
 ·rfl
 ·decide
theorem bOp:bHj Tryz.prog sF sT:=by
 refine ⟨⟨Tryz.prog.funcs[sF 168]?.getD default,(Tryz.prog.funcs[sF 168]?.getD default).body.getD .skip,fun d=>0,?_,?_,?_,?_,?_⟩,?_,?_⟩
 ·kernel_rfl
 ·kernel_rfl
 ·kernel_rfl
 ·kernel_rfl
 ·kernel_rfl
 ·rfl
 ·decide
theorem bNj:bGw Tryz.prog sF sT:=by
 refine ⟨⟨Tryz.prog.funcs[sF 169]?.getD default,(Tryz.prog.funcs[sF 169]?.getD default).body.getD .skip,fun d=>0,?_,?_,?_,?_,?_⟩,?_,?_⟩
 ·kernel_rfl
 ·kernel_rfl
 ·kernel_rfl
 ·kernel_rfl
 ·kernel_rfl
 ·rfl
 ·decide
theorem bOk:bL3 Tryz.prog sF sT:=by
 refine ⟨⟨Tryz.prog.funcs[sF 254]?.getD default,(Tryz.prog.funcs[sF 254]?.getD default).body.getD .skip,fun d=>0,?_,?_,?_,?_,?_⟩,?_,?_⟩
 ·kernel_rfl
 ·kernel_rfl
 ·kernel_rfl
 ·kernel_rfl
 ·kernel_rfl
 ·rfl
 ·decide
theorem bMp:bJu Tryz.prog sF sT:=by
 refine ⟨⟨Tryz.prog.funcs[sF 255]?.getD default,(Tryz.prog.funcs[sF 255]?.getD default).body.getD .skip,fun d=>if d=1000033 then 4 else if d=1000030 then 4 else if d=1000032 then 4 else 0,?_,?_,?_,?_,?_⟩,?_,?_⟩
 ·kernel_rfl
 ·kernel_rfl
 ·kernel_rfl
 ·kernel_rfl
 ·kernel_rfl
 ·rfl
 ·decide
theorem bNt:bKe Tryz.prog sF sT:=by
 refine ⟨⟨Tryz.prog.funcs[sF 257]?.getD default,(Tryz.prog.funcs[sF 257]?.getD default).body.getD .skip,fun d=>if d=62 then 2 else if d=65 then 2 else if d=68 then 2 else if d=114 then 3 else if d=1000035 then 4 else 0,?_,?_,?_,?_,?_⟩,?_,?_⟩
 ·kernel_rfl
 ·kernel_rfl
 ·kernel_rfl
 ·kernel_rfl
 ·kernel_rfl
 ·rfl
 ·decide
theorem bN4:bGq Tryz.prog sF sT:=by
 refine ⟨⟨Tryz.prog.funcs[sF 258]?.getD default,(Tryz.prog.funcs[sF 258]?.getD default).body.getD .skip,fun d=>if d=28 then 1 else 0,?_,?_,?_,?_,?_⟩,?_,?_⟩
 ·kernel_rfl
 ·kernel_rfl
 ·kernel_rfl
 ·kernel_rfl
 ·kernel_rfl
 ·rfl
 ·decide
theorem bL8:bIe Tryz.prog sF sT:=by
 refine ⟨⟨Tryz.prog.funcs[sF 259]?.getD default,(Tryz.prog.funcs[sF 259]?.getD default).body.getD .skip,fun d=>0,?_,?_,?_,?_,?_⟩,?_,?_⟩
 ·kernel_rfl
 ·kernel_rfl
 ·kernel_rfl
 ·kernel_rfl
 ·kernel_rfl
 ·rfl
 ·decide
theorem bMq:bKl Tryz.prog sF sT:=by
 refine ⟨⟨Tryz.prog.funcs[sF 260]?.getD default,(Tryz.prog.funcs[sF 260]?.getD default).body.getD .skip,fun d=>if d=22 then 3 else if d=32 then 3 else if d=1000059 then 4 else if d=1000063 then 4 else 0,?_,?_,?_,?_,?_⟩,?_,?_⟩
 ·kernel_rfl
 ·kernel_rfl
 ·kernel_rfl
 ·kernel_rfl
 ·kernel_rfl
 ·rfl
 ·decide
theorem bNn:aSs Tryz.prog sF sT:=by
 refine ⟨⟨Tryz.prog.funcs[sF 261]?.getD default,(Tryz.prog.funcs[sF 261]?.getD default).body.getD .skip,fun d=>0,?_,?_,?_,?_,?_⟩,?_,?_⟩
 ·kernel_rfl
 ·kernel_rfl
 ·kernel_rfl
 ·kernel_rfl
 ·kernel_rfl
 ·rfl
 ·decide
theorem bN6:bIb Tryz.prog sF sT:=by
 refine ⟨⟨Tryz.prog.funcs[sF 262]?.getD default,(Tryz.prog.funcs[sF 262]?.getD default).body.getD .skip,fun d=>0,?_,?_,?_,?_,?_⟩,?_,?_⟩
 ·kernel_rfl
 ·kernel_rfl
 ·kernel_rfl
 ·kernel_rfl
 ·kernel_rfl
 ·rfl
 ·decide
theorem bMv:bIz Tryz.prog sF sT:=by
 refine ⟨⟨Tryz.prog.funcs[sF 263]?.getD default,(Tryz.prog.funcs[sF 263]?.getD default).body.getD .skip,fun d=>if d=5 then 1 else 0,?_,?_,?_,?_,?_⟩,?_,?_⟩
 ·kernel_rfl
 ·kernel_rfl
 ·kernel_rfl
 ·kernel_rfl
 ·kernel_rfl
 ·rfl
 ·decide
theorem bMb:bG2 Tryz.prog sF sT:=by
 refine ⟨⟨Tryz.prog.funcs[sF 264]?.getD default,(Tryz.prog.funcs[sF 264]?.getD default).body.getD .skip,fun d=>if d=1000061 then 4 else 0,?_,?_,?_,?_,?_⟩,?_,?_⟩
 ·kernel_rfl
 ·kernel_rfl
 ·kernel_rfl
 ·kernel_rfl
 ·kernel_rfl
 ·rfl
 ·decide
theorem bNv:aYm Tryz.prog sF sT:=by
 refine ⟨⟨Tryz.prog.funcs[sF 266]?.getD default,(Tryz.prog.funcs[sF 266]?.getD default).body.getD .skip,fun d=>0,?_,?_,?_,?_,?_⟩,?_,?_⟩
 ·kernel_rfl
 ·kernel_rfl
 ·kernel_rfl
 ·kernel_rfl
 ·kernel_rfl
 ·rfl
 ·decide
theorem bO0:bD1 Tryz.prog sF sT:=by
 refine ⟨⟨Tryz.prog.funcs[sF 267]?.getD default,(Tryz.prog.funcs[sF 267]?.getD default).body.getD .skip,fun d=>0,?_,?_,?_,?_,?_⟩,?_,?_⟩
 ·kernel_rfl
 ·kernel_rfl
 ·kernel_rfl
 ·kernel_rfl
 ·kernel_rfl
 ·rfl
 ·decide
theorem bLs:bCx Tryz.prog sF sT:=by
 refine ⟨⟨Tryz.prog.funcs[sF 272]?.getD default,(Tryz.prog.funcs[sF 272]?.getD default).body.getD .skip,fun d=>if d=33 then 1 else 0,?_,?_,?_,?_,?_⟩,?_,?_⟩
 ·kernel_rfl
 ·kernel_rfl
 ·kernel_rfl
 ·kernel_rfl
 ·kernel_rfl
 ·rfl
 ·decide
theorem bM9:bJy Tryz.prog sF sT:=by
 refine ⟨⟨Tryz.prog.funcs[sF 277]?.getD default,(Tryz.prog.funcs[sF 277]?.getD default).body.getD .skip,fun d=>if d=1000010 then 4 else if d=1000044 then 4 else if d=1000043 then 4 else 0,?_,?_,?_,?_,?_⟩,?_,?_⟩
 ·kernel_rfl
 ·kernel_rfl
 ·kernel_rfl
 ·kernel_rfl
 ·kernel_rfl
 ·rfl
 ·decide
theorem bMt:bHa Tryz.prog sF sT:=by
 refine ⟨⟨Tryz.prog.funcs[sF 284]?.getD default,(Tryz.prog.funcs[sF 284]?.getD default).body.getD .skip,fun d=>if d=1000026 then 4 else if d=1000025 then 4 else 0,?_,?_,?_,?_,?_⟩,?_,?_⟩
 ·kernel_rfl
 ·kernel_rfl
 ·kernel_rfl
 ·kernel_rfl
 ·kernel_rfl
 ·rfl
 ·decide
theorem bNf:bGh Tryz.prog sF sT:=by
 refine ⟨⟨Tryz.prog.funcs[sF 285]?.getD default,(Tryz.prog.funcs[sF 285]?.getD default).body.getD .skip,fun d=>if d=59 then 3 else if d=1000026 then 4 else if d=1000025 then 4 else if d=1000071 then 4 else 0,?_,?_,?_,?_,?_⟩,?_,?_⟩
 ·kernel_rfl
 ·kernel_rfl
 ·kernel_rfl
 ·kernel_rfl
 ·kernel_rfl
 ·rfl
 ·decide
theorem bM2:bH0 Tryz.prog sF sT:=by
 refine ⟨⟨Tryz.prog.funcs[sF 256]?.getD default,(Tryz.prog.funcs[sF 256]?.getD default).body.getD .skip,fun d=>0,?_,?_,?_,?_,?_⟩,?_,?_⟩
 ·kernel_rfl
 ·kernel_rfl
 ·kernel_rfl
 ·kernel_rfl
 ·kernel_rfl
 ·rfl
 ·decide
theorem fn276:bKr Tryz.prog sF sT:=by
 refine ⟨⟨Tryz.prog.funcs[sF 276]?.getD default,(Tryz.prog.funcs[sF 276]?.getD default).body.getD .skip,fun d=>if d=1000021 then 4 else 0,?_,?_,?_,?_,?_⟩,?_,?_⟩
 ·kernel_rfl
 ·kernel_rfl
 ·kernel_rfl
 ·kernel_rfl
 ·kernel_rfl
 ·rfl
 ·decide
theorem bOw:bJ5 Tryz.prog sF sT:=by
 refine ⟨⟨Tryz.prog.funcs[sF 278]?.getD default,(Tryz.prog.funcs[sF 278]?.getD default).body.getD .skip,fun d=>if d=121 then 3 else 0,?_,?_,?_,?_,?_⟩,?_,?_⟩
 ·kernel_rfl
 ·kernel_rfl
 ·kernel_rfl
 ·kernel_rfl
 ·kernel_rfl
 ·rfl
 ·decide
theorem bPa:bHn Tryz.prog sF sT:=by
 refine ⟨⟨Tryz.prog.funcs[sF 279]?.getD default,(Tryz.prog.funcs[sF 279]?.getD default).body.getD .skip,fun d=>0,?_,?_,?_,?_,?_⟩,?_,?_⟩
 ·kernel_rfl
 ·kernel_rfl
 ·kernel_rfl
 ·kernel_rfl
 ·kernel_rfl
 ·rfl
 ·decide
theorem bMd:bG0 Tryz.prog sF sT:=by
 refine ⟨⟨Tryz.prog.funcs[sF 286]?.getD default,(Tryz.prog.funcs[sF 286]?.getD default).body.getD .skip,fun d=>if d=38 then 2 else if d=29 then 3 else 0,?_,?_,?_,?_,?_⟩,?_,?_⟩
 ·kernel_rfl
 ·kernel_rfl
 ·kernel_rfl
 ·kernel_rfl
 ·kernel_rfl
 ·rfl
 ·decide
theorem bN7:bIa Tryz.prog sF sT:=by
 refine ⟨⟨Tryz.prog.funcs[sF 287]?.getD default,(Tryz.prog.funcs[sF 287]?.getD default).body.getD .skip,fun d=>0,?_,?_,?_,?_,?_⟩,?_,?_⟩
 ·kernel_rfl
 ·kernel_rfl
 ·kernel_rfl
 ·kernel_rfl
 ·kernel_rfl
 ·rfl
 ·decide
theorem bOr:bGd Tryz.prog sF sT:=by
 refine ⟨⟨Tryz.prog.funcs[sF 288]?.getD default,(Tryz.prog.funcs[sF 288]?.getD default).body.getD .skip,fun d=>0,?_,?_,?_,?_,?_⟩,?_,?_⟩
 ·kernel_rfl
 ·kernel_rfl
 ·kernel_rfl
 ·kernel_rfl
 ·kernel_rfl
 ·rfl
 ·decide
theorem bMr:bBg Tryz.prog sF sT:=by
 refine ⟨⟨Tryz.prog.funcs[sF 290]?.getD default,(Tryz.prog.funcs[sF 290]?.getD default).body.getD .skip,fun d=>0,?_,?_,?_,?_,?_⟩,?_,?_⟩
 ·kernel_rfl
 ·kernel_rfl
 ·kernel_rfl
 ·kernel_rfl
 ·kernel_rfl
 ·rfl
 ·decide
end Go.Ab
