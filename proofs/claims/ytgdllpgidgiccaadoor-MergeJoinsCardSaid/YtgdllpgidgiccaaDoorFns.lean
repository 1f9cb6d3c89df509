/- The functions of this seat, by program. No condition. -/
import Derived.Test.YtgdllpgidgiccaaDoorProg
import Derived.Test.YtgdllpgidgiccaaDoorAbE5
import Derived.Test.YtgdllpgidgiccaaDoorAbP1
import Derived.Test.YtgdllpgidgiccaaDoorAbP3
import Derived.Test.YtgdllpgidgiccaaDoorAbZ1
import Derived.Test.YtgdllpgidgiccaaDoorAbM2
namespace Go.Ab
open Go.Proofs
set_option maxRecDepth 100000
def sF (k:Nat):Nat:=[0,0,33,0,0,0,0,0,0,0,0,0,0,0,0,0,0,0,0,0,0,0,43,11,0,0,0,8,0,68,17,82,83,10,0,0,32,0,0,0,0,0,66,0,0,0,0,0,0,0,0,0,0,0,0,0,39,40,41,42,0,0,0,0,87,0,0,53,54,55,56,57,58,59,60,61,62,63,64,65,67,0,0,0,0,0,0,0,0,0,0,0,0,0,78,89,90,79,91,81,96,0,0,0,73,74,75,76,77,0,0,0,0,0,46,69,88,94,98,99,28,34,93,0,19,0,0,0,0,0,0,20,0,0,0,0,27,29,0,0,37,0,9,35,36,45,49,47,50,48,51,18,72,71,70,86,85,84,0,0,0,0,0,0,0,0,0,0,0,0,0,0,0,0,0,0,0,0,0,0,0,0,0,0,0,0,0,0,0,0,0,0,0,0,0,0,0,0,0,0,0,0,0,0,0,0,0,0,0,0,0,0,0,0,0,0,0,0,0,0,0,0,0,0,0,0,0,0,0,0,0,0,0,0,0,0,0,0,0,0,0,0,0,0,0,0,0,0,0,0,0,0,0,3,4,5,6,7,12,13,14,15,16,21,22,25,24,23,31,38,52,0,0,0,0,0,0,0,0,0,0,0,0,0,0,0,0,0,0,0,0].getD k 0
def sT (k:Nat):Nat:=[87,126,37,5,82,96,94,99,101,0,0,0,107,136,66,4,0,0,0,0,0,9,0,0,3,0,28,30,24,45,52,55,22,0].getD k 0
theorem fn2:Is2 Tryd.prog sF sT:=by
 refine ⟨⟨Tryd.prog.funcs[sF 2]?.getD default,(Tryd.prog.funcs[sF 2]?.getD default).body.getD .skip,fun d=>if d=1000011 then 4 else if d=1000043 then 4 else 0,?_,?_,?_,?_,?_⟩,?_,?_⟩
 ·kernel_rfl
 ·kernel_rfl
 ·kernel_rfl
 ·kernel_rfl
 ·kernel_rfl
 ·rfl
 ·decide
theorem fn22:Is22 Tryd.prog sF sT:=by
 refine ⟨⟨Tryd.prog.funcs[sF 22]?.getD default,(Tryd.prog.funcs[sF 22]?.getD default).body.getD .skip,fun d=>if d=1000068 then 4 else 0,?_,?_,?_,?_,?_⟩,?_,?_⟩
 ·kernel_rfl
 ·kernel_rfl
 ·kernel_rfl
 ·kernel_rfl
 ·kernel_rfl
 ·rfl
 ·decide
theorem fn23:Is23 Tryd.prog sF sT:=by
 refine ⟨⟨Tryd.prog.funcs[sF 23]?.getD default,(Tryd.prog.funcs[sF 23]?.getD default).body.getD .skip,fun d=>0,?_,?_,?_,?_,?_⟩,?_,?_⟩
 ·kernel_rfl
 ·kernel_rfl
 ·kernel_rfl
 ·kernel_rfl
 ·kernel_rfl
 ·rfl
 ·decide
theorem fn27:Is27 Tryd.prog sF sT:=by
 refine ⟨⟨Tryd.prog.funcs[sF 27]?.getD default,(Tryd.prog.funcs[sF 27]?.getD default).body.getD .skip,fun d=>if d=1000017 then 4 else 0,?_,?_,?_,?_,?_⟩,?_,?_⟩
 ·kernel_rfl
 ·kernel_rfl
 ·kernel_rfl
 ·kernel_rfl
 ·kernel_rfl
 ·rfl
 ·decide
theorem fn29:Is29 Tryd.prog sF sT:=by
 refine ⟨⟨Tryd.prog.funcs[sF 29]?.getD default,(Tryd.prog.funcs[sF 29]?.getD default).body.getD .skip,fun d=>if d=1000008 then 4 else if d=1000043 then 4 else if d=1000082 then 4 else 0,?_,?_,?_,?_,?_⟩,?_,?_⟩
 ·kernel_rfl
 ·kernel_rfl
 ·kernel_rfl
 ·kernel_rfl
 ·kernel_rfl
 ·rfl
 ·decide
theorem fn30:Is30 Tryd.prog sF sT:=by
 refine ⟨⟨Tryd.prog.funcs[sF 30]?.getD default,(Tryd.prog.funcs[sF 30]?.getD default).body.getD .skip,fun d=>0,?_,?_,?_,?_,?_⟩,?_,?_⟩
 ·kernel_rfl
 ·kernel_rfl
 ·kernel_rfl
 ·kernel_rfl
 ·kernel_rfl
 ·rfl
 ·decide
theorem fn31:Is31 Tryd.prog sF sT:=by
 refine ⟨⟨Tryd.prog.funcs[sF 31]?.getD default,(Tryd.prog.funcs[sF 31]?.getD default).body.getD .skip,fun d=>if d=1000008 then 4 else if d=1000010 then 4 else if d=1000043 then 4 else 0,?_,?_,?_,?_,?_⟩,?_,?_⟩
 ·kernel_rfl
 ·kernel_rfl
 ·kernel_rfl
 ·kernel_rfl
 ·kernel_rfl
 ·rfl
 ·decide
theorem fn32:Is32 Tryd.prog sF sT:=by
 refine ⟨⟨Tryd.prog.funcs[sF 32]?.getD default,(Tryd.prog.funcs[sF 32]?.getD default).body.getD .skip,fun d=>0,?_,?_,?_,?_,?_⟩,?_,?_⟩
 ·kernel_rfl
 ·kernel_rfl
 ·kernel_rfl
 ·kernel_rfl
 ·kernel_rfl
 ·rfl
 ·decide
theorem fn33:Is33 Tryd.prog sF sT:=by
 refine ⟨⟨Tryd.prog.funcs[sF 33]?.getD default,(Tryd.prog.funcs[sF 33]?.getD default).body.getD .skip,fun d=>if d=1000017 then 4 else 0,?_,?_,?_,?_,?_⟩,?_,?_⟩
 ·kernel_rfl
 ·kernel_rfl
 ·kernel_rfl
 ·kernel_rfl
 ·kernel_rfl
 ·rfl
 ·decide
theorem fn36:Is36 Tryd.prog sF sT:=by
 refine ⟨⟨Tryd.prog.funcs[sF 36]?.getD default,(Tryd.prog.funcs[sF 36]?.getD default).body.getD .skip,fun d=>if d=19 then 1 else if d=1000040 then 4 else if d=1000041 then 4 else if d=1000042 then 4 else 0,?_,?_,?_,?_,?_⟩,?_,?_⟩
 ·kernel_rfl
 ·kernel_rfl
 ·kernel_rfl
 ·kernel_rfl
 ·kernel_rfl
 ·rfl
 ·decide
theorem fn56:Is56 Tryd.prog sF sT:=by
 refine ⟨⟨Tryd.prog.funcs[sF 56]?.getD default,(Tryd.prog.funcs[sF 56]?.getD default).body.getD .skip,fun d=>0,?_,?_,?_,?_,?_⟩,?_,?_⟩
 ·kernel_rfl
 ·kernel_rfl
 ·kernel_rfl
 ·kernel_rfl
 ·kernel_rfl
 ·rfl
 ·decide
theorem fn57:Is57 Tryd.prog sF sT:=by
 refine ⟨⟨Tryd.prog.funcs[sF 57]?.getD default,(Tryd.prog.funcs[sF 57]?.getD default).body.getD .skip,fun d=>if d=1000055 then 4 else if d=1000056 then 4 else if d=1000057 then 4 else if d=1000059 then 4 else if d=1000060 then 4 else if d=1000061 then 4 else if d=1000062 then 4 else if d=1000063 then 4 else 0,?_,?_,?_,?_,?_⟩,?_,?_⟩
 ·kernel_rfl
 ·kernel_rfl
 ·kernel_rfl
 ·kernel_rfl
 ·kernel_rfl
 ·rfl
 ·decide
theorem fn58:Is58 Tryd.prog sF sT:=by
 refine ⟨⟨Tryd.prog.funcs[sF 58]?.getD default,(Tryd.prog.funcs[sF 58]?.getD default).body.getD .skip,fun d=>if d=1000055 then 4 else if d=1000064 then 4 else if d=1000067 then 4 else 0,?_,?_,?_,?_,?_⟩,?_,?_⟩
 ·kernel_rfl
 ·kernel_rfl
 ·kernel_rfl
 ·kernel_rfl
 ·kernel_rfl
 ·rfl
 ·decide
theorem fn59:Is59 Tryd.prog sF sT:=by
 refine ⟨⟨Tryd.prog.funcs[sF 59]?.getD default,(Tryd.prog.funcs[sF 59]?.getD default).body.getD .skip,fun d=>0,?_,?_,?_,?_,?_⟩,?_,?_⟩
 ·kernel_rfl
 ·kernel_rfl
 ·kernel_rfl
 ·kernel_rfl
 ·kernel_rfl
 ·rfl
 ·decide
theorem fn67:Is67 Tryd.prog sF sT:=by
 refine ⟨⟨Tryd.prog.funcs[sF 67]?.getD default,(Tryd.prog.funcs[sF 67]?.getD default).body.getD .skip,fun d=>0,?_,?_,?_,?_,?_⟩,?_,?_⟩
 ·kernel_rfl
 ·kernel_rfl
 ·kernel_rfl
 ·kernel_rfl
 ·kernel_rfl
 ·rfl
 ·decide
theorem fn68:Is68 Tryd.prog sF sT:=by
 refine ⟨⟨Tryd.prog.funcs[sF 68]?.getD default,(Tryd.prog.funcs[sF 68]?.getD default).body.getD .skip,fun d=>0,?_,?_,?_,?_,?_⟩,?_,?_⟩
 ·kernel_rfl
 ·kernel_rfl
 ·kernel_rfl
 ·kernel_rfl
 ·kernel_rfl
 ·rfl
 ·decide
theorem fn69:Is69 Tryd.prog sF sT:=by
 refine ⟨⟨Tryd.prog.funcs[sF 69]?.getD default,(Tryd.prog.funcs[sF 69]?.getD default).body.getD .skip,fun d=>if d=2000048 then 5 else if d=2000049 then 6 else if d=1000042 then 4 else if d=1000075 then 4 else 0,?_,?_,?_,?_,?_⟩,?_,?_⟩
 ·kernel_rfl
 ·kernel_rfl
 ·kernel_rfl
 ·kernel_rfl
 ·kernel_rfl
 ·rfl
 ·decide
theorem fn70:Is70 Tryd.prog sF sT:=by
 refine ⟨⟨Tryd.prog.funcs[sF 70]?.getD default,(Tryd.prog.funcs[sF 70]?.getD default).body.getD .skip,fun d=>if d=11 then 2 else if d=2000015 then 5 else if d=2000016 then 6 else if d=1000042 then 4 else if d=1000075 then 4 else 0,?_,?_,?_,?_,?_⟩,?_,?_⟩
 ·kernel_rfl
 ·kernel_rfl
 ·kernel_rfl
 ·kernel_rfl
 ·kernel_rfl
 ·rfl
 ·decide
theorem fn71:Is71 Tryd.prog sF sT:=by
 refine ⟨⟨Tryd.prog.funcs[sF 71]?.getD default,(Tryd.prog.funcs[sF 71]?.getD default).body.getD .skip,fun d=>if d=1000055 then 4 else 0,?_,?_,?_,?_,?_⟩,?_,?_⟩
 ·kernel_rfl
 ·kernel_rfl
 ·kernel_rfl
 ·kernel_rfl
 ·kernel_rfl
 ·rfl
 ·decide
theorem fn72:Is72 Tryd.prog sF sT:=by
 refine ⟨⟨Tryd.prog.funcs[sF 72]?.getD default,(Tryd.prog.funcs[sF 72]?.getD default).body.getD .skip,fun d=>0,?_,?_,?_,?_,?_⟩,?_,?_⟩
 ·kernel_rfl
 ·kernel_rfl
 ·kernel_rfl
 ·kernel_rfl
 ·kernel_rfl
 ·rfl
 ·decide
theorem fn73:Is73 Tryd.prog sF sT:=by
 refine ⟨⟨Tryd.prog.funcs[sF 73]?.getD default,(Tryd.prog.funcs[sF 73]?.getD default).body.getD .skip,fun d=>if d=1000042 then 4 else if d=1000055 then 4 else 0,?_,?_,?_,?_,?_⟩,?_,?_⟩
 ·kernel_rfl
 ·kernel_rfl
 ·kernel_rfl
 ·kernel_rfl
 ·kernel_rfl
 ·rfl
 ·decide
theorem fn74:Is74 Tryd.prog sF sT:=by
 refine ⟨⟨Tryd.prog.funcs[sF 74]?.getD default,(Tryd.prog.funcs[sF 74]?.getD default).body.getD .skip,fun d=>if d=1000042 then 4 else if d=1000055 then 4 else 0,?_,?_,?_,?_,?_⟩,?_,?_⟩
 ·kernel_rfl
 ·kernel_rfl
 ·kernel_rfl
 ·kernel_rfl
 ·kernel_rfl
 ·rfl
 ·decide
theorem fn75:Is75 Tryd.prog sF sT:=by
 refine ⟨⟨Tryd.prog.funcs[sF 75]?.getD default,(Tryd.prog.funcs[sF 75]?.getD default).body.getD .skip,fun d=>if d=1000042 then 4 else if d=1000055 then 4 else if d=1000064 then 4 else if d=1000067 then 4 else 0,?_,?_,?_,?_,?_⟩,?_,?_⟩
 ·kernel_rfl
 ·kernel_rfl
 ·kernel_rfl
 ·kernel_rfl
 ·kernel_rfl
 ·rfl
 ·decide
theorem fn76:Is76 Tryd.prog sF sT:=by
 refine ⟨⟨Tryd.prog.funcs[sF 76]?.getD default,(Tryd.prog.funcs[sF 76]?.getD default).body.getD .skip,fun d=>if d=1000041 then 4 else if d=1000055 then 4 else if d=1000056 then 4 else if d=1000064 then 4 else 0,?_,?_,?_,?_,?_⟩,?_,?_⟩
 ·kernel_rfl
 ·kernel_rfl
 ·kernel_rfl
 ·kernel_rfl
 ·kernel_rfl
 ·rfl
 ·decide
theorem fn77:Is77 Tryd.prog sF sT:=by
 refine ⟨⟨Tryd.prog.funcs[sF 77]?.getD default,(Tryd.prog.funcs[sF 77]?.getD default).body.getD .skip,fun d=>if d=65 then 1 else if d=1000041 then 4 else if d=1000042 then 4 else if d=1000055 then 4 else if d=1000056 then 4 else if d=1000064 then 4 else if d=1000077 then 4 else 0,?_,?_,?_,?_,?_⟩,?_,?_⟩
 ·kernel_rfl
 ·kernel_rfl
 ·kernel_rfl
 ·kernel_rfl
 ·kernel_rfl
 ·rfl
 ·decide
theorem fn78:Is78 Tryd.prog sF sT:=by
 refine ⟨⟨Tryd.prog.funcs[sF 78]?.getD default,(Tryd.prog.funcs[sF 78]?.getD default).body.getD .skip,fun d=>if d=1000042 then 4 else 0,?_,?_,?_,?_,?_⟩,?_,?_⟩
 ·kernel_rfl
 ·kernel_rfl
 ·kernel_rfl
 ·kernel_rfl
 ·kernel_rfl
 ·rfl
 ·decide
theorem fn79:Is79 Tryd.prog sF sT:=by
 refine ⟨⟨Tryd.prog.funcs[sF 79]?.getD default,(Tryd.prog.funcs[sF 79]?.getD default).body.getD .skip,fun d=>0,?_,?_,?_,?_,?_⟩,?_,?_⟩
 ·kernel_rfl
 ·kernel_rfl
 ·kernel_rfl
 ·kernel_rfl
 ·kernel_rfl
 ·rfl
 ·decide
theorem fn80:Is80 Tryd.prog sF sT:=by
 refine ⟨⟨Tryd.prog.funcs[sF 80]?.getD default,(Tryd.prog.funcs[sF 80]?.getD default).body.getD .skip,fun d=>if d=1000055 then 4 else if d=1000056 then 4 else 0,?_,?_,?_,?_,?_⟩,?_,?_⟩
 ·kernel_rfl
 ·kernel_rfl
 ·kernel_rfl
 ·kernel_rfl
 ·kernel_rfl
 ·rfl
 ·decide
theorem fn97:Is97 Tryd.prog sF sT:=by
 refine ⟨⟨Tryd.prog.funcs[sF 97]?.getD default,(Tryd.prog.funcs[sF 97]?.getD default).body.getD .skip,fun d=>0,?_,?_,?_,?_,?_⟩,?_,?_⟩
 ·kernel_rfl
 ·kernel_rfl
 ·kernel_rfl
 ·kernel_rfl
 ·kernel_rfl
 ·rfl
 ·decide
theorem fn98:Is98 Tryd.prog sF sT:=by
 refine ⟨⟨Tryd.prog.funcs[sF 98]?.getD default,(Tryd.prog.funcs[sF 98]?.getD default).body.getD .skip,fun d=>0,?_,?_,?_,?_,?_⟩,?_,?_⟩
 ·kernel_rfl
 ·kernel_rfl
 ·kernel_rfl
 ·kernel_rfl
 ·kernel_rfl
 ·rfl
 ·decide
theorem bJo:aZi Tryd.prog sF sT:=by
 refine ⟨⟨Tryd.prog.funcs[sF 104]?.getD default,(Tryd.prog.funcs[sF 104]?.getD default).body.getD .skip,fun d=>0,?_,?_,?_,?_,?_⟩,?_,?_⟩
 ·kernel_rfl
 ·kernel_rfl
 ·kernel_rfl
 ·kernel_rfl
 ·kernel_rfl
 ·rfl
 ·decide
theorem bKb:aZy Tryd.prog sF sT:=by
 refine ⟨⟨Tryd.prog.funcs[sF 105]?.getD default,(Tryd.prog.funcs[sF 105]?.getD default).body.getD .skip,fun d=>0,?_,?_,?_,?_,?_⟩,?_,?_⟩
 ·kernel_rfl
 ·kernel_rfl
 ·kernel_rfl
 ·kernel_rfl
 ·kernel_rfl
 ·rfl
 ·decide
theorem bJ8:aHa Tryd.prog sF sT:=by
 refine ⟨⟨Tryd.prog.funcs[sF 106]?.getD default,(Tryd.prog.funcs[sF 106]?.getD default).body.getD .skip,fun d=>0,?_,?_,?_,?_,?_⟩,?_,?_⟩
 ·kernel_rfl
 ·kernel_rfl
 ·kernel_rfl
 ·kernel_rfl
 ·kernel_rfl
 ·rfl
 ·decide
theorem bId:aU1 Tryd.prog sF sT:=by
 refine ⟨⟨Tryd.prog.funcs[sF 107]?.getD default,(Tryd.prog.funcs[sF 107]?.getD default).body.getD .skip,fun d=>0,?_,?_,?_,?_,?_⟩,?_,?_⟩
 ·kernel_rfl
 ·kernel_rfl
 ·kernel_rfl
 ·kernel_rfl
 ·kernel_rfl
 ·rfl
 ·decide
theorem bI7:aY4 Tryd.prog sF sT:=by
 refine ⟨⟨Tryd.prog.funcs[sF 108]?.getD default,(Tryd.prog.funcs[sF 108]?.getD default).body.getD .skip,fun d=>0,?_,?_,?_,?_,?_⟩,?_,?_⟩
 ·kernel_rfl
 ·kernel_rfl
 ·kernel_rfl
 ·kernel_rfl
 ·kernel_rfl
 ·rfl
 ·decide
theorem bIl:aP7 Tryd.prog sF sT:=by
 refine ⟨⟨Tryd.prog.funcs[sF 116]?.getD default,(Tryd.prog.funcs[sF 116]?.getD default).body.getD .skip,fun d=>0,?_,?_,?_,?_,?_⟩,?_,?_⟩
 ·kernel_rfl
 ·kernel_rfl
 ·kernel_rfl
 ·kernel_rfl
 ·kernel_rfl
 ·rfl
 ·decide
theorem bKf:bF6 Tryd.prog sF sT:=by
 refine ⟨⟨Tryd.prog.funcs[sF 124]?.getD default,(Tryd.prog.funcs[sF 124]?.getD default).body.getD .skip,fun d=>0,?_,?_,?_,?_,?_⟩,?_,?_⟩
 ·kernel_rfl
 ·kernel_rfl
 ·kernel_rfl
 ·kernel_rfl
 ·kernel_rfl
 ·rfl
 ·decide
theorem bJw:aZ1 Tryd.prog sF sT:=by
 refine ⟨⟨Tryd.prog.funcs[sF 131]?.getD default,(Tryd.prog.funcs[sF 131]?.getD default).body.getD .skip,fun d=>0,?_,?_,?_,?_,?_⟩,?_,?_⟩
 ·kernel_rfl
 ·kernel_rfl
 ·kernel_rfl
 ·kernel_rfl
 ·kernel_rfl
 ·rfl
 ·decide
theorem bJ3:bDo Tryd.prog sF sT:=by
 refine ⟨⟨Tryd.prog.funcs[sF 136]?.getD default,(Tryd.prog.funcs[sF 136]?.getD default).body.getD .skip,fun d=>0,?_,?_,?_,?_,?_⟩,?_,?_⟩
 ·kernel_rfl
 ·kernel_rfl
 ·kernel_rfl
 ·kernel_rfl
 ·kernel_rfl
 ·rfl
 ·decide
theorem bH1:bEk Tryd.prog sF sT:=by
 refine ⟨⟨Tryd.prog.funcs[sF 137]?.getD default,(Tryd.prog.funcs[sF 137]?.getD default).body.getD .skip,fun d=>0,?_,?_,?_,?_,?_⟩,?_,?_⟩
 ·kernel_rfl
 ·kernel_rfl
 ·kernel_rfl
 ·kernel_rfl
 ·kernel_rfl
 ·rfl
 ·decide
theorem fn253:bFn Tryd.prog sF sT:=by
 refine ⟨⟨Tryd.prog.funcs[sF 253]?.getD default,(Tryd.prog.funcs[sF 253]?.getD default).body.getD .skip,fun d=>0,?_,?_,?_,?_,?_⟩,?_,?_⟩
 ·kernel_rfl
 ·kernel_rfl
 ·kernel_rfl
 ·kernel_rfl
 ·kernel_rfl
 ·rfl
 ·decide
theorem bJz:bFm Tryd.prog sF sT:=by
 refine ⟨⟨Tryd.prog.funcs[sF 254]?.getD default,(Tryd.prog.funcs[sF 254]?.getD default).body.getD .skip,fun d=>0,?_,?_,?_,?_,?_⟩,?_,?_⟩
 ·kernel_rfl
 ·kernel_rfl
 ·kernel_rfl
 ·kernel_rfl
 ·kernel_rfl
 ·rfl
 ·decide
theorem bJ1:bHa Tryd.prog sF sT:=by
 refine ⟨⟨Tryd.prog.funcs[sF 255]?.getD default,(Tryd.prog.funcs[sF 255]?.getD default).body.getD .skip,fun d=>if d=1000011 then 4 else if d=1000008 then 4 else if d=1000010 then 4 else 0,?_,?_,?_,?_,?_⟩,?_,?_⟩
 ·kernel_rfl
 ·kernel_rfl
 ·kernel_rfl
 ·kernel_rfl
 ·kernel_rfl
 ·rfl
 ·decide
theorem fn256:bEq Tryd.prog sF sT:=by
 refine ⟨⟨Tryd.prog.funcs[sF 256]?.getD default,(Tryd.prog.funcs[sF 256]?.getD default).body.getD .skip,fun d=>0,?_,?_,?_,?_,?_⟩,?_,?_⟩
 ·kernel_rfl
 ·kernel_rfl
 ·kernel_rfl
 ·kernel_rfl
 ·kernel_rfl
 ·rfl
 ·decide
theorem bI9:bGu Tryd.prog sF sT:=by
 refine ⟨⟨Tryd.prog.funcs[sF 257]?.getD default,(Tryd.prog.funcs[sF 257]?.getD default).body.getD .skip,fun d=>if d=62 then 2 else if d=65 then 2 else if d=68 then 2 else if d=114 then 3 else if d=1000013 then 4 else 0,?_,?_,?_,?_,?_⟩,?_,?_⟩
 ·kernel_rfl
 ·kernel_rfl
 ·kernel_rfl
 ·kernel_rfl
 ·kernel_rfl
 ·rfl
 ·decide
theorem bIv:bDz Tryd.prog sF sT:=by
 refine ⟨⟨Tryd.prog.funcs[sF 258]?.getD default,(Tryd.prog.funcs[sF 258]?.getD default).body.getD .skip,fun d=>if d=28 then 1 else 0,?_,?_,?_,?_,?_⟩,?_,?_⟩
 ·kernel_rfl
 ·kernel_rfl
 ·kernel_rfl
 ·kernel_rfl
 ·kernel_rfl
 ·rfl
 ·decide
theorem bIr:bDw Tryd.prog sF sT:=by
 refine ⟨⟨Tryd.prog.funcs[sF 259]?.getD default,(Tryd.prog.funcs[sF 259]?.getD default).body.getD .skip,fun d=>0,?_,?_,?_,?_,?_⟩,?_,?_⟩
 ·kernel_rfl
 ·kernel_rfl
 ·kernel_rfl
 ·kernel_rfl
 ·kernel_rfl
 ·rfl
 ·decide
theorem bJb:bFw Tryd.prog sF sT:=by
 refine ⟨⟨Tryd.prog.funcs[sF 260]?.getD default,(Tryd.prog.funcs[sF 260]?.getD default).body.getD .skip,fun d=>if d=22 then 3 else if d=32 then 3 else if d=1000021 then 4 else if d=1000025 then 4 else 0,?_,?_,?_,?_,?_⟩,?_,?_⟩
 ·kernel_rfl
 ·kernel_rfl
 ·kernel_rfl
 ·kernel_rfl
 ·kernel_rfl
 ·rfl
 ·decide
theorem bH7:aQt Tryd.prog sF sT:=by
 refine ⟨⟨Tryd.prog.funcs[sF 261]?.getD default,(Tryd.prog.funcs[sF 261]?.getD default).body.getD .skip,fun d=>0,?_,?_,?_,?_,?_⟩,?_,?_⟩
 ·kernel_rfl
 ·kernel_rfl
 ·kernel_rfl
 ·kernel_rfl
 ·kernel_rfl
 ·rfl
 ·decide
theorem bI5:bC0 Tryd.prog sF sT:=by
 refine ⟨⟨Tryd.prog.funcs[sF 262]?.getD default,(Tryd.prog.funcs[sF 262]?.getD default).body.getD .skip,fun d=>0,?_,?_,?_,?_,?_⟩,?_,?_⟩
 ·kernel_rfl
 ·kernel_rfl
 ·kernel_rfl
 ·kernel_rfl
 ·kernel_rfl
 ·rfl
 ·decide
theorem bKc:bCx Tryd.prog sF sT:=by
 refine ⟨⟨Tryd.prog.funcs[sF 263]?.getD default,(Tryd.prog.funcs[sF 263]?.getD default).body.getD .skip,fun d=>if d=5 then 1 else 0,?_,?_,?_,?_,?_⟩,?_,?_⟩
 ·kernel_rfl
 ·kernel_rfl
 ·kernel_rfl
 ·kernel_rfl
 ·kernel_rfl
 ·rfl
 ·decide
theorem bJc:bDj Tryd.prog sF sT:=by
 refine ⟨⟨Tryd.prog.funcs[sF 264]?.getD default,(Tryd.prog.funcs[sF 264]?.getD default).body.getD .skip,fun d=>if d=1000023 then 4 else 0,?_,?_,?_,?_,?_⟩,?_,?_⟩
 ·kernel_rfl
 ·kernel_rfl
 ·kernel_rfl
 ·kernel_rfl
 ·kernel_rfl
 ·rfl
 ·decide
theorem bJh:aW5 Tryd.prog sF sT:=by
 refine ⟨⟨Tryd.prog.funcs[sF 266]?.getD default,(Tryd.prog.funcs[sF 266]?.getD default).body.getD .skip,fun d=>0,?_,?_,?_,?_,?_⟩,?_,?_⟩
 ·kernel_rfl
 ·kernel_rfl
 ·kernel_rfl
 ·kernel_rfl
 ·kernel_rfl
 ·rfl
 ·decide
theorem bJu:bAd Tryd.prog sF sT:=by
 refine ⟨⟨Tryd.prog.funcs[sF 267]?.getD default,(Tryd.prog.funcs[sF 267]?.getD default).body.getD .skip,fun d=>0,?_,?_,?_,?_,?_⟩,?_,?_⟩
 ·kernel_rfl
 ·kernel_rfl
 ·kernel_rfl
 ·kernel_rfl
 ·kernel_rfl
 ·rfl
 ·decide
end Go.Ab
