/- The functions of this seat, by program. No condition. -/
import Derived.Test.YtcmnepgnkcoiiaaGreatDoorProg
import Derived.Test.YtcmnepgnkcoiiaaGreatDoorAbP3
import Derived.Test.YtcmnepgnkcoiiaaGreatDoorAbR7
import Derived.Test.YtcmnepgnkcoiiaaGreatDoorAbG11
import Derived.Test.YtcmnepgnkcoiiaaGreatDoorAbG12
import Derived.Test.YtcmnepgnkcoiiaaGreatDoorAbG13
import Derived.Test.YtcmnepgnkcoiiaaGreatDoorAbG14
namespace Go.Ab
open Go.Proofs
set_option maxRecDepth 100000
def sF (k:Nat):Nat:=[0,0,146,76,0,0,0,0,0,0,0,0,0,0,0,0,0,0,0,0,0,0,164,165,114,115,0,196,0,185,205,198,199,207,0,0,145,51,0,15,27,0,183,0,0,0,32,34,0,0,72,0,0,0,0,0,160,161,162,163,73,74,75,50,126,101,0,170,171,172,173,174,175,176,177,178,179,180,181,182,184,102,103,104,105,106,107,108,109,110,111,112,113,71,193,202,203,194,204,197,143,133,56,134,188,189,190,191,192,135,136,137,100,0,151,166,201,158,159,169,91,123,200,0,97,55,0,0,98,30,0,0,99,0,0,0,129,130,77,0,131,132,0,147,148,150,149,153,152,155,154,144,141,167,168,156,186,187,0,28,0,0,0,0,0,0,0,29,52,53,54,64,93,95,5,9,14,13,22,25,19,44,45,69,48,43,66,63,65,94,96,35,23,21,46,47,70,49,26,31,68,57,58,78,116,79,3,16,17,20,18,4,6,24,10,11,12,40,41,42,36,33,59,37,60,38,39,62,61,67,80,81,82,83,84,85,86,87,88,89,90,92,117,118,119,120,121,122,127,128,138,7,8].getD k 0
def sT (k:Nat):Nat:=[128,155,200,5,84,193,191,196,123,120,71,117,185,219,66,4,26,43,47,49,56,9,39,162,3,146,35].getD k 0
theorem fn39:Is39 Tryz.prog sF sT:=by
 refine ⟨⟨Tryz.prog.funcs[sF 39]?.getD default,(Tryz.prog.funcs[sF 39]?.getD default).body.getD .skip,fun d=>0,?_,?_,?_,?_,?_⟩,?_,?_⟩
 ·kernel_rfl
 ·kernel_rfl
 ·kernel_rfl
 ·kernel_rfl
 ·kernel_rfl
 ·rfl
 ·decide
theorem fn46:Is46 Tryz.prog sF sT:=by
 refine ⟨⟨Tryz.prog.funcs[sF 46]?.getD default,(Tryz.prog.funcs[sF 46]?.getD default).body.getD .skip,fun d=>0,?_,?_,?_,?_,?_⟩,?_,?_⟩
 ·kernel_rfl
 ·kernel_rfl
 ·kernel_rfl
 ·kernel_rfl
 ·kernel_rfl
 ·rfl
 ·decide
theorem fn47:Is47 Tryz.prog sF sT:=by
 refine ⟨⟨Tryz.prog.funcs[sF 47]?.getD default,(Tryz.prog.funcs[sF 47]?.getD default).body.getD .skip,fun d=>if d=1000032 then 4 else 0,?_,?_,?_,?_,?_⟩,?_,?_⟩
 ·kernel_rfl
 ·kernel_rfl
 ·kernel_rfl
 ·kernel_rfl
 ·kernel_rfl
 ·rfl
 ·decide
theorem fn206:Is206 Tryz.prog sF sT:=by
 refine ⟨⟨Tryz.prog.funcs[sF 206]?.getD default,(Tryz.prog.funcs[sF 206]?.getD default).body.getD .skip,fun d=>if d=1000015 then 4 else if d=1000016 then 4 else if d=1000017 then 4 else 0,?_,?_,?_,?_,?_⟩,?_,?_⟩
 ·kernel_rfl
 ·kernel_rfl
 ·kernel_rfl
 ·kernel_rfl
 ·kernel_rfl
 ·rfl
 ·decide
theorem fn207:Is207 Tryz.prog sF sT:=by
 refine ⟨⟨Tryz.prog.funcs[sF 207]?.getD default,(Tryz.prog.funcs[sF 207]?.getD default).body.getD .skip,fun d=>if d=51 then 8 else if d=58 then 8 else if d=107 then 8 else if d=132 then 8 else if d=63 then 1 else if d=1000032 then 4 else if d=1000034 then 4 else if d=1000024 then 4 else if d=1000033 then 4 else 0,?_,?_,?_,?_,?_⟩,?_,?_⟩
 ·kernel_rfl
 ·kernel_rfl
 ·kernel_rfl
 ·kernel_rfl
 ·kernel_rfl
 ·rfl
 ·decide
theorem fn208:Is208 Tryz.prog sF sT:=by
 refine ⟨⟨Tryz.prog.funcs[sF 208]?.getD default,(Tryz.prog.funcs[sF 208]?.getD default).body.getD .skip,fun d=>if d=1000034 then 4 else 0,?_,?_,?_,?_,?_⟩,?_,?_⟩
 ·kernel_rfl
 ·kernel_rfl
 ·kernel_rfl
 ·kernel_rfl
 ·kernel_rfl
 ·rfl
 ·decide
theorem fn209:Is209 Tryz.prog sF sT:=by
 refine ⟨⟨Tryz.prog.funcs[sF 209]?.getD default,(Tryz.prog.funcs[sF 209]?.getD default).body.getD .skip,fun d=>0,?_,?_,?_,?_,?_⟩,?_,?_⟩
 ·kernel_rfl
 ·kernel_rfl
 ·kernel_rfl
 ·kernel_rfl
 ·kernel_rfl
 ·rfl
 ·decide
theorem fn210:Is210 Tryz.prog sF sT:=by
 refine ⟨⟨Tryz.prog.funcs[sF 210]?.getD default,(Tryz.prog.funcs[sF 210]?.getD default).body.getD .skip,fun d=>0,?_,?_,?_,?_,?_⟩,?_,?_⟩
 ·kernel_rfl
 ·kernel_rfl
 ·kernel_rfl
 ·kernel_rfl
 ·kernel_rfl
 ·rfl
 ·decide
theorem fn211:Is211 Tryz.prog sF sT:=by
 refine ⟨⟨Tryz.prog.funcs[sF 211]?.getD default,(Tryz.prog.funcs[sF 211]?.getD default).body.getD .skip,fun d=>if d=1000015 then 4 else if d=1000016 then 4 else if d=1000017 then 4 else 0,?_,?_,?_,?_,?_⟩,?_,?_⟩
 ·kernel_rfl
 ·kernel_rfl
 ·kernel_rfl
 ·kernel_rfl
 ·kernel_rfl
 ·rfl
 ·decide
theorem fn213:Is213 Tryz.prog sF sT:=by
 refine ⟨⟨Tryz.prog.funcs[sF 213]?.getD default,(Tryz.prog.funcs[sF 213]?.getD default).body.getD .skip,fun d=>if d=1000032 then 4 else if d=1000034 then 4 else 0,?_,?_,?_,?_,?_⟩,?_,?_⟩
 ·kernel_rfl
 ·kernel_rfl
 ·kernel_rfl
 ·kernel_rfl
 ·kernel_rfl
 ·rfl
 ·decide
theorem fn217:Is217 Tryz.prog sF sT:=by
 refine ⟨⟨Tryz.prog.funcs[sF 217]?.getD default,(Tryz.prog.funcs[sF 217]?.getD default).body.getD .skip,fun d=>0,?_,?_,?_,?_,?_⟩,?_,?_⟩
 ·kernel_rfl
 ·kernel_rfl
 ·kernel_rfl
 ·kernel_rfl
 ·kernel_rfl
 ·rfl
 ·decide
theorem fn218:Is218 Tryz.prog sF sT:=by
 refine ⟨⟨Tryz.prog.funcs[sF 218]?.getD default,(Tryz.prog.funcs[sF 218]?.getD default).body.getD .skip,fun d=>0,?_,?_,?_,?_,?_⟩,?_,?_⟩
 ·kernel_rfl
 ·kernel_rfl
 ·kernel_rfl
 ·kernel_rfl
 ·kernel_rfl
 ·rfl
 ·decide
theorem fn219:Is219 Tryz.prog sF sT:=by
 refine ⟨⟨Tryz.prog.funcs[sF 219]?.getD default,(Tryz.prog.funcs[sF 219]?.getD default).body.getD .skip,fun d=>0,?_,?_,?_,?_,?_⟩,?_,?_⟩
 ·kernel_rfl
 ·kernel_rfl
 ·kernel_rfl
 ·kernel_rfl
 ·kernel_rfl
 ·rfl
 ·decide
theorem fn221:Is221 Tryz.prog sF sT:=by
 refine ⟨⟨Tryz.prog.funcs[sF 221]?.getD default,(Tryz.prog.funcs[sF 221]?.getD default).body.getD .skip,fun d=>if d=1000034 then 4 else 0,?_,?_,?_,?_,?_⟩,?_,?_⟩
 ·kernel_rfl
 ·kernel_rfl
 ·kernel_rfl
 ·kernel_rfl
 ·kernel_rfl
 ·rfl
 ·decide
theorem fn223:Is223 Tryz.prog sF sT:=by
 refine ⟨⟨Tryz.prog.funcs[sF 223]?.getD default,(Tryz.prog.funcs[sF 223]?.getD default).body.getD .skip,fun d=>if d=1000060 then 4 else 0,?_,?_,?_,?_,?_⟩,?_,?_⟩
 ·kernel_rfl
 ·kernel_rfl
 ·kernel_rfl
 ·kernel_rfl
 ·kernel_rfl
 ·rfl
 ·decide
theorem fn224:Is224 Tryz.prog sF sT:=by
 refine ⟨⟨Tryz.prog.funcs[sF 224]?.getD default,(Tryz.prog.funcs[sF 224]?.getD default).body.getD .skip,fun d=>0,?_,?_,?_,?_,?_⟩,?_,?_⟩
 ·kernel_rfl
 ·kernel_rfl
 ·kernel_rfl
 ·kernel_rfl
 ·kernel_rfl
 ·rfl
 ·decide
theorem fn225:Is225 Tryz.prog sF sT:=by
 refine ⟨⟨Tryz.prog.funcs[sF 225]?.getD default,(Tryz.prog.funcs[sF 225]?.getD default).body.getD .skip,fun d=>if d=25 then 3 else 0,?_,?_,?_,?_,?_⟩,?_,?_⟩
 ·kernel_rfl
 ·kernel_rfl
 ·kernel_rfl
 ·kernel_rfl
 ·kernel_rfl
 ·rfl
 ·decide
theorem fn176:Is176 Tryz.prog sF sT:=by
 refine ⟨⟨Tryz.prog.funcs[sF 176]?.getD default,(Tryz.prog.funcs[sF 176]?.getD default).body.getD .skip,fun d=>0,?_,?_,?_,?_,?_⟩,?_,?_⟩
 ·kernel_rfl
 ·kernel_rfl
 ·kernel_rfl
 ·kernel_rfl
 ·kernel_rfl
 ·rfl
 ·decide
theorem fn177:Is177 Tryz.prog sF sT:=by
 refine ⟨⟨Tryz.prog.funcs[sF 177]?.getD default,(Tryz.prog.funcs[sF 177]?.getD default).body.getD .skip,fun d=>0,?_,?_,?_,?_,?_⟩,?_,?_⟩
 ·kernel_rfl
 ·kernel_rfl
 ·kernel_rfl
 ·kernel_rfl
 ·kernel_rfl
 ·rfl
 ·decide
theorem fn178:Is178 Tryz.prog sF sT:=by
 refine ⟨⟨Tryz.prog.funcs[sF 178]?.getD default,(Tryz.prog.funcs[sF 178]?.getD default).body.getD .skip,fun d=>0,?_,?_,?_,?_,?_⟩,?_,?_⟩
 ·kernel_rfl
 ·kernel_rfl
 ·kernel_rfl
 ·kernel_rfl
 ·kernel_rfl
 ·rfl
 ·decide
theorem fn179:Is179 Tryz.prog sF sT:=by
 refine ⟨⟨Tryz.prog.funcs[sF 179]?.getD default,(Tryz.prog.funcs[sF 179]?.getD default).body.getD .skip,fun d=>0,?_,?_,?_,?_,?_⟩,?_,?_⟩
 ·kernel_rfl
 ·kernel_rfl
 ·kernel_rfl
 ·kernel_rfl
 ·kernel_rfl
 ·rfl
 ·decide
theorem fn180:Is180 Tryz.prog sF sT:=by
 refine ⟨⟨Tryz.prog.funcs[sF 180]?.getD default,(Tryz.prog.funcs[sF 180]?.getD default).body.getD .skip,fun d=>if d=10 then 1 else if d=28 then 3 else if d=1000039 then 4 else if d=1000037 then 4 else 0,?_,?_,?_,?_,?_⟩,?_,?_⟩
 ·kernel_rfl
 ·kernel_rfl
 ·kernel_rfl
 ·kernel_rfl
 ·kernel_rfl
 ·rfl
 ·decide
theorem fn181:Is181 Tryz.prog sF sT:=by
 refine ⟨⟨Tryz.prog.funcs[sF 181]?.getD default,(Tryz.prog.funcs[sF 181]?.getD default).body.getD .skip,fun d=>if d=9 then 1 else if d=1000066 then 4 else if d=1000067 then 4 else 0,?_,?_,?_,?_,?_⟩,?_,?_⟩
 ·kernel_rfl
 ·kernel_rfl
 ·kernel_rfl
 ·kernel_rfl
 ·kernel_rfl
 ·rfl
 ·decide
theorem fn182:Is182 Tryz.prog sF sT:=by
 refine ⟨⟨Tryz.prog.funcs[sF 182]?.getD default,(Tryz.prog.funcs[sF 182]?.getD default).body.getD .skip,fun d=>0,?_,?_,?_,?_,?_⟩,?_,?_⟩
 ·kernel_rfl
 ·kernel_rfl
 ·kernel_rfl
 ·kernel_rfl
 ·kernel_rfl
 ·rfl
 ·decide
theorem fn185:Is185 Tryz.prog sF sT:=by
 refine ⟨⟨Tryz.prog.funcs[sF 185]?.getD default,(Tryz.prog.funcs[sF 185]?.getD default).body.getD .skip,fun d=>0,?_,?_,?_,?_,?_⟩,?_,?_⟩
 ·kernel_rfl
 ·kernel_rfl
 ·kernel_rfl
 ·kernel_rfl
 ·kernel_rfl
 ·rfl
 ·decide
theorem fn186:Is186 Tryz.prog sF sT:=by
 refine ⟨⟨Tryz.prog.funcs[sF 186]?.getD default,(Tryz.prog.funcs[sF 186]?.getD default).body.getD .skip,fun d=>0,?_,?_,?_,?_,?_⟩,?_,?_⟩
 ·kernel_rfl
 ·kernel_rfl
 ·kernel_rfl
 ·kernel_rfl
 ·kernel_rfl
 ·rfl
 ·decide
theorem fn187:Is187 Tryz.prog sF sT:=by
 refine ⟨⟨Tryz.prog.funcs[sF 187]?.getD default,(Tryz.prog.funcs[sF 187]?.getD default).body.getD .skip,fun d=>0,?_,?_,?_,?_,?_⟩,?_,?_⟩
 ·kernel_rfl
 ·kernel_rfl
 ·kernel_rfl
 ·kernel_rfl
 ·kernel_rfl
 ·rfl
 ·decide
theorem fn188:Is188 Tryz.prog sF sT:=by
 refine ⟨⟨Tryz.prog.funcs[sF 188]?.getD default,(Tryz.prog.funcs[sF 188]?.getD default).body.getD .skip,fun d=>0,?_,?_,?_,?_,?_⟩,?_,?_⟩
 ·kernel_rfl
 ·kernel_rfl
 ·kernel_rfl
 ·kernel_rfl
 ·kernel_rfl
 ·rfl
 ·decide
theorem fn189:Is189 Tryz.prog sF sT:=by
 refine ⟨⟨Tryz.prog.funcs[sF 189]?.getD default,(Tryz.prog.funcs[sF 189]?.getD default).body.getD .skip,fun d=>0,?_,?_,?_,?_,?_⟩,?_,?_⟩
 ·kernel_rfl
 ·kernel_rfl
 ·kernel_rfl
 ·kernel_rfl
 ·kernel_rfl
 ·rfl
 ·decide
theorem fn190:Is190 Tryz.prog sF sT:=by
 refine ⟨⟨Tryz.prog.funcs[sF 190]?.getD default,(Tryz.prog.funcs[sF 190]?.getD default).body.getD .skip,fun d=>0,?_,?_,?_,?_,?_⟩,?_,?_⟩
 ·kernel_rfl
 ·kernel_rfl
 ·kernel_rfl
 ·kernel_rfl
 ·kernel_rfl
 ·rfl
 ·decide
theorem fn191:Is191 Tryz.prog sF sT:=by
 refine ⟨⟨Tryz.prog.funcs[sF 191]?.getD default,(Tryz.prog.funcs[sF 191]?.getD default).body.getD .skip,fun d=>0,?_,?_,?_,?_,?_⟩,?_,?_⟩
 ·kernel_rfl
 ·kernel_rfl
 ·kernel_rfl
 ·kernel_rfl
 ·kernel_rfl
 ·rfl
 ·decide
theorem fn193:Is193 Tryz.prog sF sT:=by
 refine ⟨⟨Tryz.prog.funcs[sF 193]?.getD default,(Tryz.prog.funcs[sF 193]?.getD default).body.getD .skip,fun d=>0,?_,?_,?_,?_,?_⟩,?_,?_⟩
 ·kernel_rfl
 ·kernel_rfl
 ·kernel_rfl
 ·kernel_rfl
 ·kernel_rfl
 ·rfl
 ·decide
theorem fn220:Is220 Tryz.prog sF sT:=by
 refine ⟨⟨Tryz.prog.funcs[sF 220]?.getD default,(Tryz.prog.funcs[sF 220]?.getD default).body.getD .skip,fun d=>0,?_,?_,?_,?_,?_⟩,?_,?_⟩
 ·kernel_rfl
 ·kernel_rfl
 ·kernel_rfl
 ·kernel_rfl
 ·kernel_rfl
 ·rfl
 ·decide
theorem fn222:Is222 Tryz.prog sF sT:=by
 refine ⟨⟨Tryz.prog.funcs[sF 222]?.getD default,(Tryz.prog.funcs[sF 222]?.getD default).body.getD .skip,fun d=>0,?_,?_,?_,?_,?_⟩,?_,?_⟩
 ·kernel_rfl
 ·kernel_rfl
 ·kernel_rfl
 ·kernel_rfl
 ·kernel_rfl
 ·rfl
 ·decide
theorem fn226:Is226 Tryz.prog sF sT:=by
 refine ⟨⟨Tryz.prog.funcs[sF 226]?.getD default,(Tryz.prog.funcs[sF 226]?.getD default).body.getD .skip,fun d=>if d=1000061 then 4 else 0,?_,?_,?_,?_,?_⟩,?_,?_⟩
 ·kernel_rfl
 ·kernel_rfl
 ·kernel_rfl
 ·kernel_rfl
 ·kernel_rfl
 ·rfl
 ·decide
theorem fn227:Is227 Tryz.prog sF sT:=by
 refine ⟨⟨Tryz.prog.funcs[sF 227]?.getD default,(Tryz.prog.funcs[sF 227]?.getD default).body.getD .skip,fun d=>0,?_,?_,?_,?_,?_⟩,?_,?_⟩
 ·kernel_rfl
 ·kernel_rfl
 ·kernel_rfl
 ·kernel_rfl
 ·kernel_rfl
 ·rfl
 ·decide
theorem fn228:Is228 Tryz.prog sF sT:=by
 refine ⟨⟨Tryz.prog.funcs[sF 228]?.getD default,(Tryz.prog.funcs[sF 228]?.getD default).body.getD .skip,fun d=>if d=1000061 then 4 else if d=1000080 then 4 else 0,?_,?_,?_,?_,?_⟩,?_,?_⟩
 ·kernel_rfl
 ·kernel_rfl
 ·kernel_rfl
 ·kernel_rfl
 ·kernel_rfl
 ·rfl
 ·decide
theorem fn229:Is229 Tryz.prog sF sT:=by
 refine ⟨⟨Tryz.prog.funcs[sF 229]?.getD default,(Tryz.prog.funcs[sF 229]?.getD default).body.getD .skip,fun d=>0,?_,?_,?_,?_,?_⟩,?_,?_⟩
 ·kernel_rfl
 ·kernel_rfl
 ·kernel_rfl
 ·kernel_rfl
 ·kernel_rfl
 ·rfl
 ·decide
theorem fn230:Is230 Tryz.prog sF sT:=by
 refine ⟨⟨Tryz.prog.funcs[sF 230]?.getD default,(Tryz.prog.funcs[sF 230]?.getD default).body.getD .skip,fun d=>0,?_,?_,?_,?_,?_⟩,?_,?_⟩
 ·kernel_rfl
 ·kernel_rfl
 ·kernel_rfl
 ·kernel_rfl
 ·kernel_rfl
 ·rfl
 ·decide
theorem fn240:Is240 Tryz.prog sF sT:=by
 refine ⟨⟨Tryz.prog.funcs[sF 240]?.getD default,(Tryz.prog.funcs[sF 240]?.getD default).body.getD .skip,fun d=>0,?_,?_,?_,?_,?_⟩,?_,?_⟩
 ·kernel_rfl
 ·kernel_rfl
 ·kernel_rfl
 ·kernel_rfl
 ·kernel_rfl
 ·rfl
 ·decide
end Go.Ab
