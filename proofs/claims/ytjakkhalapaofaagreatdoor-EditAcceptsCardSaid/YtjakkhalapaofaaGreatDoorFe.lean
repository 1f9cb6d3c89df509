/- The functions of this seat for the evaluator, by program. No condition. -/
import Derived.Test.YtjakkhalapaofaaGreatDoorProg
import Derived.Test.YtjakkhalapaofaaGreatDoorEc
namespace Go.Ab
open Go.Proofs
set_option maxRecDepth 100000
theorem fe5:Fn Tryz.prog 5 153 [(6,none)] e5:=by
 refine ⟨⟨Tryz.prog.funcs[5]?.getD default,(Tryz.prog.funcs[5]?.getD default).body.getD .skip,fun d=>0,?_,?_,?_,?_,?_⟩,?_,?_⟩
 ·kernel_rfl
 ·kernel_rfl
 ·kernel_rfl
 ·kernel_rfl
 ·kernel_rfl
 ·rfl
 ·decide
theorem fe6:Fn Tryz.prog 6 22 [(2,none)] e6:=by
 refine ⟨⟨Tryz.prog.funcs[6]?.getD default,(Tryz.prog.funcs[6]?.getD default).body.getD .skip,fun d=>if d=1000021 then 4 else if d=1000020 then 4 else 0,?_,?_,?_,?_,?_⟩,?_,?_⟩
 ·kernel_rfl
 ·kernel_rfl
 ·kernel_rfl
 ·kernel_rfl
 ·kernel_rfl
 ·rfl
 ·decide
theorem fe7:Fn Tryz.prog 7 28 [(2,(some (8,true)))] e7:=by
 refine ⟨⟨Tryz.prog.funcs[7]?.getD default,(Tryz.prog.funcs[7]?.getD default).body.getD .skip,fun d=>if d=1000020 then 4 else if d=1000022 then 4 else 0,?_,?_,?_,?_,?_⟩,?_,?_⟩
 ·kernel_rfl
 ·kernel_rfl
 ·kernel_rfl
 ·kernel_rfl
 ·kernel_rfl
 ·rfl
 ·decide
theorem fe8:Fn Tryz.prog 8 124 [(12,(some (4,true))),(13,none)] e8:=by
 refine ⟨⟨Tryz.prog.funcs[8]?.getD default,(Tryz.prog.funcs[8]?.getD default).body.getD .skip,fun d=>if d=79 then 3 else if d=117 then 2 else if d=1000028 then 4 else 0,?_,?_,?_,?_,?_⟩,?_,?_⟩
 ·kernel_rfl
 ·kernel_rfl
 ·kernel_rfl
 ·kernel_rfl
 ·kernel_rfl
 ·rfl
 ·decide
theorem fe9:Fn Tryz.prog 9 66 [(0,none)] e9:=by
 refine ⟨⟨Tryz.prog.funcs[9]?.getD default,(Tryz.prog.funcs[9]?.getD default).body.getD .skip,fun d=>0,?_,?_,?_,?_,?_⟩,?_,?_⟩
 ·kernel_rfl
 ·kernel_rfl
 ·kernel_rfl
 ·kernel_rfl
 ·kernel_rfl
 ·rfl
 ·decide
theorem fe14:Fn Tryz.prog 14 15 [(4,none)] e14:=by
 refine ⟨⟨Tryz.prog.funcs[14]?.getD default,(Tryz.prog.funcs[14]?.getD default).body.getD .skip,fun d=>0,?_,?_,?_,?_,?_⟩,?_,?_⟩
 ·kernel_rfl
 ·kernel_rfl
 ·kernel_rfl
 ·kernel_rfl
 ·kernel_rfl
 ·rfl
 ·decide
theorem fe15:Fn Tryz.prog 15 15 [(2,(some (8,true)))] e15:=by
 refine ⟨⟨Tryz.prog.funcs[15]?.getD default,(Tryz.prog.funcs[15]?.getD default).body.getD .skip,fun d=>0,?_,?_,?_,?_,?_⟩,?_,?_⟩
 ·kernel_rfl
 ·kernel_rfl
 ·kernel_rfl
 ·kernel_rfl
 ·kernel_rfl
 ·rfl
 ·decide
theorem fe16:Fn Tryz.prog 16 83 [(4,(some (8,true))),(5,none)] e16:=by
 refine ⟨⟨Tryz.prog.funcs[16]?.getD default,(Tryz.prog.funcs[16]?.getD default).body.getD .skip,fun d=>0,?_,?_,?_,?_,?_⟩,?_,?_⟩
 ·kernel_rfl
 ·kernel_rfl
 ·kernel_rfl
 ·kernel_rfl
 ·kernel_rfl
 ·rfl
 ·decide
theorem fe17:Fn Tryz.prog 17 114 [(6,(some (4,true))),(7,none)] e17:=by
 refine ⟨⟨Tryz.prog.funcs[17]?.getD default,(Tryz.prog.funcs[17]?.getD default).body.getD .skip,fun d=>if d=68 then 3 else if d=1000028 then 4 else 0,?_,?_,?_,?_,?_⟩,?_,?_⟩
 ·kernel_rfl
 ·kernel_rfl
 ·kernel_rfl
 ·kernel_rfl
 ·kernel_rfl
 ·rfl
 ·decide
theorem fe18:Fn Tryz.prog 18 19 [(4,(some (3,true))),(5,none)] e18:=by
 refine ⟨⟨Tryz.prog.funcs[18]?.getD default,(Tryz.prog.funcs[18]?.getD default).body.getD .skip,fun d=>0,?_,?_,?_,?_,?_⟩,?_,?_⟩
 ·kernel_rfl
 ·kernel_rfl
 ·kernel_rfl
 ·kernel_rfl
 ·kernel_rfl
 ·rfl
 ·decide
theorem fe19:Fn Tryz.prog 19 16 [(2,(some (6,true)))] e19:=by
 refine ⟨⟨Tryz.prog.funcs[19]?.getD default,(Tryz.prog.funcs[19]?.getD default).body.getD .skip,fun d=>0,?_,?_,?_,?_,?_⟩,?_,?_⟩
 ·kernel_rfl
 ·kernel_rfl
 ·kernel_rfl
 ·kernel_rfl
 ·kernel_rfl
 ·rfl
 ·decide
theorem fe20:Fn Tryz.prog 20 46 [(2,none)] e20:=by
 refine ⟨⟨Tryz.prog.funcs[20]?.getD default,(Tryz.prog.funcs[20]?.getD default).body.getD .skip,fun d=>0,?_,?_,?_,?_,?_⟩,?_,?_⟩
 ·kernel_rfl
 ·kernel_rfl
 ·kernel_rfl
 ·kernel_rfl
 ·kernel_rfl
 ·rfl
 ·decide
theorem fe21:Fn Tryz.prog 21 53 [(4,none)] e21:=by
 refine ⟨⟨Tryz.prog.funcs[21]?.getD default,(Tryz.prog.funcs[21]?.getD default).body.getD .skip,fun d=>0,?_,?_,?_,?_,?_⟩,?_,?_⟩
 ·kernel_rfl
 ·kernel_rfl
 ·kernel_rfl
 ·kernel_rfl
 ·kernel_rfl
 ·rfl
 ·decide
theorem fe22:Fn Tryz.prog 22 7 [(2,none)] e22:=by
 refine ⟨⟨Tryz.prog.funcs[22]?.getD default,(Tryz.prog.funcs[22]?.getD default).body.getD .skip,fun d=>if d=1000021 then 4 else 0,?_,?_,?_,?_,?_⟩,?_,?_⟩
 ·kernel_rfl
 ·kernel_rfl
 ·kernel_rfl
 ·kernel_rfl
 ·kernel_rfl
 ·rfl
 ·decide
theorem fe23:Fn Tryz.prog 23 13 [(4,(some (4,true)))] e23:=by
 refine ⟨⟨Tryz.prog.funcs[23]?.getD default,(Tryz.prog.funcs[23]?.getD default).body.getD .skip,fun d=>0,?_,?_,?_,?_,?_⟩,?_,?_⟩
 ·kernel_rfl
 ·kernel_rfl
 ·kernel_rfl
 ·kernel_rfl
 ·kernel_rfl
 ·rfl
 ·decide
theorem fe24:Fn Tryz.prog 24 83 [(2,none)] e24:=by
 refine ⟨⟨Tryz.prog.funcs[24]?.getD default,(Tryz.prog.funcs[24]?.getD default).body.getD .skip,fun d=>0,?_,?_,?_,?_,?_⟩,?_,?_⟩
 ·kernel_rfl
 ·kernel_rfl
 ·kernel_rfl
 ·kernel_rfl
 ·kernel_rfl
 ·rfl
 ·decide
theorem fe25:Fn Tryz.prog 25 9 [(2,none)] e25:=by
 refine ⟨⟨Tryz.prog.funcs[25]?.getD default,(Tryz.prog.funcs[25]?.getD default).body.getD .skip,fun d=>0,?_,?_,?_,?_,?_⟩,?_,?_⟩
 ·kernel_rfl
 ·kernel_rfl
 ·kernel_rfl
 ·kernel_rfl
 ·kernel_rfl
 ·rfl
 ·decide
theorem fe26:Fn Tryz.prog 26 14 [(6,none)] e26:=by
 refine ⟨⟨Tryz.prog.funcs[26]?.getD default,(Tryz.prog.funcs[26]?.getD default).body.getD .skip,fun d=>0,?_,?_,?_,?_,?_⟩,?_,?_⟩
 ·kernel_rfl
 ·kernel_rfl
 ·kernel_rfl
 ·kernel_rfl
 ·kernel_rfl
 ·rfl
 ·decide
theorem fe27:Fn Tryz.prog 27 103 [(8,(some (3,true))),(9,none)] e27:=by
 refine ⟨⟨Tryz.prog.funcs[27]?.getD default,(Tryz.prog.funcs[27]?.getD default).body.getD .skip,fun d=>if d=28 then 3 else if d=1000028 then 4 else 0,?_,?_,?_,?_,?_⟩,?_,?_⟩
 ·kernel_rfl
 ·kernel_rfl
 ·kernel_rfl
 ·kernel_rfl
 ·kernel_rfl
 ·rfl
 ·decide
theorem fe28:Fn Tryz.prog 28 23 [(4,(some (3,true))),(5,none)] e28:=by
 refine ⟨⟨Tryz.prog.funcs[28]?.getD default,(Tryz.prog.funcs[28]?.getD default).body.getD .skip,fun d=>if d=1000058 then 4 else 0,?_,?_,?_,?_,?_⟩,?_,?_⟩
 ·kernel_rfl
 ·kernel_rfl
 ·kernel_rfl
 ·kernel_rfl
 ·kernel_rfl
 ·rfl
 ·decide
theorem fe29:Fn Tryz.prog 29 16 [(2,(some (6,true)))] e29:=by
 refine ⟨⟨Tryz.prog.funcs[29]?.getD default,(Tryz.prog.funcs[29]?.getD default).body.getD .skip,fun d=>0,?_,?_,?_,?_,?_⟩,?_,?_⟩
 ·kernel_rfl
 ·kernel_rfl
 ·kernel_rfl
 ·kernel_rfl
 ·kernel_rfl
 ·rfl
 ·decide
theorem fe30:Fn Tryz.prog 30 17 [(8,none)] e30:=by
 refine ⟨⟨Tryz.prog.funcs[30]?.getD default,(Tryz.prog.funcs[30]?.getD default).body.getD .skip,fun d=>0,?_,?_,?_,?_,?_⟩,?_,?_⟩
 ·kernel_rfl
 ·kernel_rfl
 ·kernel_rfl
 ·kernel_rfl
 ·kernel_rfl
 ·rfl
 ·decide
theorem fe31:Fn Tryz.prog 31 29 [(2,(some (3,true)))] e31:=by
 refine ⟨⟨Tryz.prog.funcs[31]?.getD default,(Tryz.prog.funcs[31]?.getD default).body.getD .skip,fun d=>if d=19 then 3 else if d=1000028 then 4 else 0,?_,?_,?_,?_,?_⟩,?_,?_⟩
 ·kernel_rfl
 ·kernel_rfl
 ·kernel_rfl
 ·kernel_rfl
 ·kernel_rfl
 ·rfl
 ·decide
theorem fe41:Fn Tryz.prog 41 2 [(0,(some (2,true)))] e41:=by
 refine ⟨⟨Tryz.prog.funcs[41]?.getD default,(Tryz.prog.funcs[41]?.getD default).body.getD .skip,fun d=>0,?_,?_,?_,?_,?_⟩,?_,?_⟩
 ·kernel_rfl
 ·kernel_rfl
 ·kernel_rfl
 ·kernel_rfl
 ·kernel_rfl
 ·rfl
 ·decide
theorem fe42:Fn Tryz.prog 42 31 [(2,none)] e42:=by
 refine ⟨⟨Tryz.prog.funcs[42]?.getD default,(Tryz.prog.funcs[42]?.getD default).body.getD .skip,fun d=>0,?_,?_,?_,?_,?_⟩,?_,?_⟩
 ·kernel_rfl
 ·kernel_rfl
 ·kernel_rfl
 ·kernel_rfl
 ·kernel_rfl
 ·rfl
 ·decide
theorem fe43:Fn Tryz.prog 43 45 [(2,none)] e43:=by
 refine ⟨⟨Tryz.prog.funcs[43]?.getD default,(Tryz.prog.funcs[43]?.getD default).body.getD .skip,fun d=>0,?_,?_,?_,?_,?_⟩,?_,?_⟩
 ·kernel_rfl
 ·kernel_rfl
 ·kernel_rfl
 ·kernel_rfl
 ·kernel_rfl
 ·rfl
 ·decide
theorem fe44:Fn Tryz.prog 44 84 [(6,(some (8,true))),(7,none)] e44:=by
 refine ⟨⟨Tryz.prog.funcs[44]?.getD default,(Tryz.prog.funcs[44]?.getD default).body.getD .skip,fun d=>0,?_,?_,?_,?_,?_⟩,?_,?_⟩
 ·kernel_rfl
 ·kernel_rfl
 ·kernel_rfl
 ·kernel_rfl
 ·kernel_rfl
 ·rfl
 ·decide
theorem fe45:Fn Tryz.prog 45 43 [(2,none)] e45:=by
 refine ⟨⟨Tryz.prog.funcs[45]?.getD default,(Tryz.prog.funcs[45]?.getD default).body.getD .skip,fun d=>0,?_,?_,?_,?_,?_⟩,?_,?_⟩
 ·kernel_rfl
 ·kernel_rfl
 ·kernel_rfl
 ·kernel_rfl
 ·kernel_rfl
 ·rfl
 ·decide
theorem fe46:Fn Tryz.prog 46 80 [(6,(some (8,true))),(7,none)] e46:=by
 refine ⟨⟨Tryz.prog.funcs[46]?.getD default,(Tryz.prog.funcs[46]?.getD default).body.getD .skip,fun d=>0,?_,?_,?_,?_,?_⟩,?_,?_⟩
 ·kernel_rfl
 ·kernel_rfl
 ·kernel_rfl
 ·kernel_rfl
 ·kernel_rfl
 ·rfl
 ·decide
theorem fe47:Fn Tryz.prog 47 29 [(6,(some (8,true))),(7,none)] e47:=by
 refine ⟨⟨Tryz.prog.funcs[47]?.getD default,(Tryz.prog.funcs[47]?.getD default).body.getD .skip,fun d=>0,?_,?_,?_,?_,?_⟩,?_,?_⟩
 ·kernel_rfl
 ·kernel_rfl
 ·kernel_rfl
 ·kernel_rfl
 ·kernel_rfl
 ·rfl
 ·decide
theorem fe48:Fn Tryz.prog 48 20 [(4,none)] e48:=by
 refine ⟨⟨Tryz.prog.funcs[48]?.getD default,(Tryz.prog.funcs[48]?.getD default).body.getD .skip,fun d=>0,?_,?_,?_,?_,?_⟩,?_,?_⟩
 ·kernel_rfl
 ·kernel_rfl
 ·kernel_rfl
 ·kernel_rfl
 ·kernel_rfl
 ·rfl
 ·decide
theorem fe49:Fn Tryz.prog 49 42 [(4,none)] e49:=by
 refine ⟨⟨Tryz.prog.funcs[49]?.getD default,(Tryz.prog.funcs[49]?.getD default).body.getD .skip,fun d=>if d=10 then 1 else if d=28 then 3 else if d=32 then 3 else if d=1000087 then 4 else 0,?_,?_,?_,?_,?_⟩,?_,?_⟩
 ·kernel_rfl
 ·kernel_rfl
 ·kernel_rfl
 ·kernel_rfl
 ·kernel_rfl
 ·rfl
 ·decide
theorem fe50:Fn Tryz.prog 50 40 [(2,none)] e50:=by
 refine ⟨⟨Tryz.prog.funcs[50]?.getD default,(Tryz.prog.funcs[50]?.getD default).body.getD .skip,fun d=>0,?_,?_,?_,?_,?_⟩,?_,?_⟩
 ·kernel_rfl
 ·kernel_rfl
 ·kernel_rfl
 ·kernel_rfl
 ·kernel_rfl
 ·rfl
 ·decide
theorem fe52:Fn Tryz.prog 52 38 [(2,none),(3,none),(4,none)] e52:=by
 refine ⟨⟨Tryz.prog.funcs[52]?.getD default,(Tryz.prog.funcs[52]?.getD default).body.getD .skip,fun d=>0,?_,?_,?_,?_,?_⟩,?_,?_⟩
 ·kernel_rfl
 ·kernel_rfl
 ·kernel_rfl
 ·kernel_rfl
 ·kernel_rfl
 ·rfl
 ·decide
theorem fe53:Fn Tryz.prog 53 54 [(2,none)] e53:=by
 refine ⟨⟨Tryz.prog.funcs[53]?.getD default,(Tryz.prog.funcs[53]?.getD default).body.getD .skip,fun d=>0,?_,?_,?_,?_,?_⟩,?_,?_⟩
 ·kernel_rfl
 ·kernel_rfl
 ·kernel_rfl
 ·kernel_rfl
 ·kernel_rfl
 ·rfl
 ·decide
theorem fe54:Fn Tryz.prog 54 65 [(8,none)] e54:=by
 refine ⟨⟨Tryz.prog.funcs[54]?.getD default,(Tryz.prog.funcs[54]?.getD default).body.getD .skip,fun d=>0,?_,?_,?_,?_,?_⟩,?_,?_⟩
 ·kernel_rfl
 ·kernel_rfl
 ·kernel_rfl
 ·kernel_rfl
 ·kernel_rfl
 ·rfl
 ·decide
theorem fe55:Fn Tryz.prog 55 32 [(6,(some (6,true))),(7,none)] e55:=by
 refine ⟨⟨Tryz.prog.funcs[55]?.getD default,(Tryz.prog.funcs[55]?.getD default).body.getD .skip,fun d=>if d=1000028 then 4 else 0,?_,?_,?_,?_,?_⟩,?_,?_⟩
 ·kernel_rfl
 ·kernel_rfl
 ·kernel_rfl
 ·kernel_rfl
 ·kernel_rfl
 ·rfl
 ·decide
theorem fe57:Fn Tryz.prog 57 35 [(2,(some (3,true))),(3,none),(4,none)] e57:=by
 refine ⟨⟨Tryz.prog.funcs[57]?.getD default,(Tryz.prog.funcs[57]?.getD default).body.getD .skip,fun d=>if d=29 then 3 else if d=1000102 then 4 else 0,?_,?_,?_,?_,?_⟩,?_,?_⟩
 ·kernel_rfl
 ·kernel_rfl
 ·kernel_rfl
 ·kernel_rfl
 ·kernel_rfl
 ·rfl
 ·decide
theorem fe58:Fn Tryz.prog 58 8 [(2,(some (3,true)))] e58:=by
 refine ⟨⟨Tryz.prog.funcs[58]?.getD default,(Tryz.prog.funcs[58]?.getD default).body.getD .skip,fun d=>if d=1000104 then 4 else 0,?_,?_,?_,?_,?_⟩,?_,?_⟩
 ·kernel_rfl
 ·kernel_rfl
 ·kernel_rfl
 ·kernel_rfl
 ·kernel_rfl
 ·rfl
 ·decide
theorem fe59:Fn Tryz.prog 59 42 [(10,none)] e59:=by
 refine ⟨⟨Tryz.prog.funcs[59]?.getD default,(Tryz.prog.funcs[59]?.getD default).body.getD .skip,fun d=>0,?_,?_,?_,?_,?_⟩,?_,?_⟩
 ·kernel_rfl
 ·kernel_rfl
 ·kernel_rfl
 ·kernel_rfl
 ·kernel_rfl
 ·rfl
 ·decide
theorem fe66:Fn Tryz.prog 66 28 [(2,none)] e66:=by
 refine ⟨⟨Tryz.prog.funcs[66]?.getD default,(Tryz.prog.funcs[66]?.getD default).body.getD .skip,fun d=>0,?_,?_,?_,?_,?_⟩,?_,?_⟩
 ·kernel_rfl
 ·kernel_rfl
 ·kernel_rfl
 ·kernel_rfl
 ·kernel_rfl
 ·rfl
 ·decide
theorem fe67:Fn Tryz.prog 67 20 [(2,none)] e67:=by
 refine ⟨⟨Tryz.prog.funcs[67]?.getD default,(Tryz.prog.funcs[67]?.getD default).body.getD .skip,fun d=>0,?_,?_,?_,?_,?_⟩,?_,?_⟩
 ·kernel_rfl
 ·kernel_rfl
 ·kernel_rfl
 ·kernel_rfl
 ·kernel_rfl
 ·rfl
 ·decide
theorem fe68:Fn Tryz.prog 68 104 [(2,none)] e68:=by
 refine ⟨⟨Tryz.prog.funcs[68]?.getD default,(Tryz.prog.funcs[68]?.getD default).body.getD .skip,fun d=>0,?_,?_,?_,?_,?_⟩,?_,?_⟩
 ·kernel_rfl
 ·kernel_rfl
 ·kernel_rfl
 ·kernel_rfl
 ·kernel_rfl
 ·rfl
 ·decide
theorem fe69:Fn Tryz.prog 69 91 [(2,none)] e69:=by
 refine ⟨⟨Tryz.prog.funcs[69]?.getD default,(Tryz.prog.funcs[69]?.getD default).body.getD .skip,fun d=>0,?_,?_,?_,?_,?_⟩,?_,?_⟩
 ·kernel_rfl
 ·kernel_rfl
 ·kernel_rfl
 ·kernel_rfl
 ·kernel_rfl
 ·rfl
 ·decide
theorem fe70:Fn Tryz.prog 70 98 [(2,none)] e70:=by
 refine ⟨⟨Tryz.prog.funcs[70]?.getD default,(Tryz.prog.funcs[70]?.getD default).body.getD .skip,fun d=>0,?_,?_,?_,?_,?_⟩,?_,?_⟩
 ·kernel_rfl
 ·kernel_rfl
 ·kernel_rfl
 ·kernel_rfl
 ·kernel_rfl
 ·rfl
 ·decide
theorem fe71:Fn Tryz.prog 71 107 [(2,none)] e71:=by
 refine ⟨⟨Tryz.prog.funcs[71]?.getD default,(Tryz.prog.funcs[71]?.getD default).body.getD .skip,fun d=>0,?_,?_,?_,?_,?_⟩,?_,?_⟩
 ·kernel_rfl
 ·kernel_rfl
 ·kernel_rfl
 ·kernel_rfl
 ·kernel_rfl
 ·rfl
 ·decide
theorem fe72:Fn Tryz.prog 72 81 [(2,none)] e72:=by
 refine ⟨⟨Tryz.prog.funcs[72]?.getD default,(Tryz.prog.funcs[72]?.getD default).body.getD .skip,fun d=>0,?_,?_,?_,?_,?_⟩,?_,?_⟩
 ·kernel_rfl
 ·kernel_rfl
 ·kernel_rfl
 ·kernel_rfl
 ·kernel_rfl
 ·rfl
 ·decide
theorem fe73:Fn Tryz.prog 73 72 [(6,(some (8,true))),(7,none)] e73:=by
 refine ⟨⟨Tryz.prog.funcs[73]?.getD default,(Tryz.prog.funcs[73]?.getD default).body.getD .skip,fun d=>if d=62 then 9 else if d=65 then 8 else if d=68 then 9 else 0,?_,?_,?_,?_,?_⟩,?_,?_⟩
 ·kernel_rfl
 ·kernel_rfl
 ·kernel_rfl
 ·kernel_rfl
 ·kernel_rfl
 ·rfl
 ·decide
theorem fe79:Fn Tryz.prog 79 44 [(4,(some (8,true))),(5,none)] e79:=by
 refine ⟨⟨Tryz.prog.funcs[79]?.getD default,(Tryz.prog.funcs[79]?.getD default).body.getD .skip,fun d=>if d=38 then 8 else 0,?_,?_,?_,?_,?_⟩,?_,?_⟩
 ·kernel_rfl
 ·kernel_rfl
 ·kernel_rfl
 ·kernel_rfl
 ·kernel_rfl
 ·rfl
 ·decide
theorem fe80:Fn Tryz.prog 80 42 [(4,(some (8,true))),(5,none)] e80:=by
 refine ⟨⟨Tryz.prog.funcs[80]?.getD default,(Tryz.prog.funcs[80]?.getD default).body.getD .skip,fun d=>0,?_,?_,?_,?_,?_⟩,?_,?_⟩
 ·kernel_rfl
 ·kernel_rfl
 ·kernel_rfl
 ·kernel_rfl
 ·kernel_rfl
 ·rfl
 ·decide
theorem fe81:Fn Tryz.prog 81 2 [(0,(some (2,true)))] e81:=by
 refine ⟨⟨Tryz.prog.funcs[81]?.getD default,(Tryz.prog.funcs[81]?.getD default).body.getD .skip,fun d=>0,?_,?_,?_,?_,?_⟩,?_,?_⟩
 ·kernel_rfl
 ·kernel_rfl
 ·kernel_rfl
 ·kernel_rfl
 ·kernel_rfl
 ·rfl
 ·decide
theorem fe82:Fn Tryz.prog 82 45 [(2,(some (3,true))),(3,none),(4,none)] e82:=by
 refine ⟨⟨Tryz.prog.funcs[82]?.getD default,(Tryz.prog.funcs[82]?.getD default).body.getD .skip,fun d=>0,?_,?_,?_,?_,?_⟩,?_,?_⟩
 ·kernel_rfl
 ·kernel_rfl
 ·kernel_rfl
 ·kernel_rfl
 ·kernel_rfl
 ·rfl
 ·decide
theorem fe83:Fn Tryz.prog 83 47 [(4,none)] e83:=by
 refine ⟨⟨Tryz.prog.funcs[83]?.getD default,(Tryz.prog.funcs[83]?.getD default).body.getD .skip,fun d=>0,?_,?_,?_,?_,?_⟩,?_,?_⟩
 ·kernel_rfl
 ·kernel_rfl
 ·kernel_rfl
 ·kernel_rfl
 ·kernel_rfl
 ·rfl
 ·decide
theorem fe84:Fn Tryz.prog 84 9 [(4,none)] e84:=by
 refine ⟨⟨Tryz.prog.funcs[84]?.getD default,(Tryz.prog.funcs[84]?.getD default).body.getD .skip,fun d=>0,?_,?_,?_,?_,?_⟩,?_,?_⟩
 ·kernel_rfl
 ·kernel_rfl
 ·kernel_rfl
 ·kernel_rfl
 ·kernel_rfl
 ·rfl
 ·decide
theorem fe85:Fn Tryz.prog 85 9 [(4,none)] e85:=by
 refine ⟨⟨Tryz.prog.funcs[85]?.getD default,(Tryz.prog.funcs[85]?.getD default).body.getD .skip,fun d=>0,?_,?_,?_,?_,?_⟩,?_,?_⟩
 ·kernel_rfl
 ·kernel_rfl
 ·kernel_rfl
 ·kernel_rfl
 ·kernel_rfl
 ·rfl
 ·decide
theorem fe86:Fn Tryz.prog 86 28 [(5,none)] e86:=by
 refine ⟨⟨Tryz.prog.funcs[86]?.getD default,(Tryz.prog.funcs[86]?.getD default).body.getD .skip,fun d=>if d=25 then 3 else 0,?_,?_,?_,?_,?_⟩,?_,?_⟩
 ·kernel_rfl
 ·kernel_rfl
 ·kernel_rfl
 ·kernel_rfl
 ·kernel_rfl
 ·rfl
 ·decide
theorem fe87:Fn Tryz.prog 87 11 [] e87:=by
 refine ⟨⟨Tryz.prog.funcs[87]?.getD default,(Tryz.prog.funcs[87]?.getD default).body.getD .skip,fun d=>if d=1000139 then 4 else 0,?_,?_,?_,?_,?_⟩,?_,?_⟩
 ·kernel_rfl
 ·kernel_rfl
 ·kernel_rfl
 ·kernel_rfl
 ·kernel_rfl
 ·rfl
 ·decide
theorem fe94:Fn Tryz.prog 94 34 [(2,none)] e94:=by
 refine ⟨⟨Tryz.prog.funcs[94]?.getD default,(Tryz.prog.funcs[94]?.getD default).body.getD .skip,fun d=>if d=9 then 1 else if d=1000148 then 4 else if d=1000147 then 4 else 0,?_,?_,?_,?_,?_⟩,?_,?_⟩
 ·kernel_rfl
 ·kernel_rfl
 ·kernel_rfl
 ·kernel_rfl
 ·kernel_rfl
 ·rfl
 ·decide
theorem fe95:Fn Tryz.prog 95 28 [(4,none)] e95:=by
 refine ⟨⟨Tryz.prog.funcs[95]?.getD default,(Tryz.prog.funcs[95]?.getD default).body.getD .skip,fun d=>0,?_,?_,?_,?_,?_⟩,?_,?_⟩
 ·kernel_rfl
 ·kernel_rfl
 ·kernel_rfl
 ·kernel_rfl
 ·kernel_rfl
 ·rfl
 ·decide
theorem fe102:Fn Tryz.prog 102 50 [(4,none)] e102:=by
 refine ⟨⟨Tryz.prog.funcs[102]?.getD default,(Tryz.prog.funcs[102]?.getD default).body.getD .skip,fun d=>if d=1000161 then 4 else if d=1000162 then 4 else if d=1000163 then 4 else 0,?_,?_,?_,?_,?_⟩,?_,?_⟩
 ·kernel_rfl
 ·kernel_rfl
 ·kernel_rfl
 ·kernel_rfl
 ·kernel_rfl
 ·rfl
 ·decide
theorem fe103:Fn Tryz.prog 103 68 [(2,none)] e103:=by
 refine ⟨⟨Tryz.prog.funcs[103]?.getD default,(Tryz.prog.funcs[103]?.getD default).body.getD .skip,fun d=>0,?_,?_,?_,?_,?_⟩,?_,?_⟩
 ·kernel_rfl
 ·kernel_rfl
 ·kernel_rfl
 ·kernel_rfl
 ·kernel_rfl
 ·rfl
 ·decide
theorem fe104:Fn Tryz.prog 104 8 [(2,none)] e104:=by
 refine ⟨⟨Tryz.prog.funcs[104]?.getD default,(Tryz.prog.funcs[104]?.getD default).body.getD .skip,fun d=>if d=5 then 1 else 0,?_,?_,?_,?_,?_⟩,?_,?_⟩
 ·kernel_rfl
 ·kernel_rfl
 ·kernel_rfl
 ·kernel_rfl
 ·kernel_rfl
 ·rfl
 ·decide
theorem fe105:Fn Tryz.prog 105 39 [(6,none)] e105:=by
 refine ⟨⟨Tryz.prog.funcs[105]?.getD default,(Tryz.prog.funcs[105]?.getD default).body.getD .skip,fun d=>0,?_,?_,?_,?_,?_⟩,?_,?_⟩
 ·kernel_rfl
 ·kernel_rfl
 ·kernel_rfl
 ·kernel_rfl
 ·kernel_rfl
 ·rfl
 ·decide
theorem fe121:Fn Tryz.prog 121 131 [(2,none)] e121:=by
 refine ⟨⟨Tryz.prog.funcs[121]?.getD default,(Tryz.prog.funcs[121]?.getD default).body.getD .skip,fun d=>0,?_,?_,?_,?_,?_⟩,?_,?_⟩
 ·kernel_rfl
 ·kernel_rfl
 ·kernel_rfl
 ·kernel_rfl
 ·kernel_rfl
 ·rfl
 ·decide
theorem fe122:Fn Tryz.prog 122 80 [(4,none)] e122:=by
 refine ⟨⟨Tryz.prog.funcs[122]?.getD default,(Tryz.prog.funcs[122]?.getD default).body.getD .skip,fun d=>0,?_,?_,?_,?_,?_⟩,?_,?_⟩
 ·kernel_rfl
 ·kernel_rfl
 ·kernel_rfl
 ·kernel_rfl
 ·kernel_rfl
 ·rfl
 ·decide
theorem fe123:Fn Tryz.prog 123 29 [(4,none)] e123:=by
 refine ⟨⟨Tryz.prog.funcs[123]?.getD default,(Tryz.prog.funcs[123]?.getD default).body.getD .skip,fun d=>0,?_,?_,?_,?_,?_⟩,?_,?_⟩
 ·kernel_rfl
 ·kernel_rfl
 ·kernel_rfl
 ·kernel_rfl
 ·kernel_rfl
 ·rfl
 ·decide
theorem fe124:Fn Tryz.prog 124 9 [(2,none)] e124:=by
 refine ⟨⟨Tryz.prog.funcs[124]?.getD default,(Tryz.prog.funcs[124]?.getD default).body.getD .skip,fun d=>0,?_,?_,?_,?_,?_⟩,?_,?_⟩
 ·kernel_rfl
 ·kernel_rfl
 ·kernel_rfl
 ·kernel_rfl
 ·kernel_rfl
 ·rfl
 ·decide
theorem fe125:Fn Tryz.prog 125 54 [(2,none)] e125:=by
 refine ⟨⟨Tryz.prog.funcs[125]?.getD default,(Tryz.prog.funcs[125]?.getD default).body.getD .skip,fun d=>0,?_,?_,?_,?_,?_⟩,?_,?_⟩
 ·kernel_rfl
 ·kernel_rfl
 ·kernel_rfl
 ·kernel_rfl
 ·kernel_rfl
 ·rfl
 ·decide
theorem fe127:Fn Tryz.prog 127 9 [(2,none)] e127:=by
 refine ⟨⟨Tryz.prog.funcs[127]?.getD default,(Tryz.prog.funcs[127]?.getD default).body.getD .skip,fun d=>0,?_,?_,?_,?_,?_⟩,?_,?_⟩
 ·kernel_rfl
 ·kernel_rfl
 ·kernel_rfl
 ·kernel_rfl
 ·kernel_rfl
 ·rfl
 ·decide
theorem fe129:Fn Tryz.prog 129 40 [(4,none)] e129:=by
 refine ⟨⟨Tryz.prog.funcs[129]?.getD default,(Tryz.prog.funcs[129]?.getD default).body.getD .skip,fun d=>0,?_,?_,?_,?_,?_⟩,?_,?_⟩
 ·kernel_rfl
 ·kernel_rfl
 ·kernel_rfl
 ·kernel_rfl
 ·kernel_rfl
 ·rfl
 ·decide
theorem fe134:Fn Tryz.prog 134 32 [(2,none)] e134:=by
 refine ⟨⟨Tryz.prog.funcs[134]?.getD default,(Tryz.prog.funcs[134]?.getD default).body.getD .skip,fun d=>if d=6 then 1 else 0,?_,?_,?_,?_,?_⟩,?_,?_⟩
 ·kernel_rfl
 ·kernel_rfl
 ·kernel_rfl
 ·kernel_rfl
 ·kernel_rfl
 ·rfl
 ·decide
theorem fe135:Fn Tryz.prog 135 122 [(4,(some (3,true))),(5,none)] e135:=by
 refine ⟨⟨Tryz.prog.funcs[135]?.getD default,(Tryz.prog.funcs[135]?.getD default).body.getD .skip,fun d=>if d=36 then 8 else if d=42 then 8 else if d=70 then 8 else if d=105 then 8 else 0,?_,?_,?_,?_,?_⟩,?_,?_⟩
 ·kernel_rfl
 ·kernel_rfl
 ·kernel_rfl
 ·kernel_rfl
 ·kernel_rfl
 ·rfl
 ·decide
theorem fe136:Fn Tryz.prog 136 102 [(2,none)] e136:=by
 refine ⟨⟨Tryz.prog.funcs[136]?.getD default,(Tryz.prog.funcs[136]?.getD default).body.getD .skip,fun d=>0,?_,?_,?_,?_,?_⟩,?_,?_⟩
 ·kernel_rfl
 ·kernel_rfl
 ·kernel_rfl
 ·kernel_rfl
 ·kernel_rfl
 ·rfl
 ·decide
theorem fe137:Fn Tryz.prog 137 19 [(4,none)] e137:=by
 refine ⟨⟨Tryz.prog.funcs[137]?.getD default,(Tryz.prog.funcs[137]?.getD default).body.getD .skip,fun d=>0,?_,?_,?_,?_,?_⟩,?_,?_⟩
 ·kernel_rfl
 ·kernel_rfl
 ·kernel_rfl
 ·kernel_rfl
 ·kernel_rfl
 ·rfl
 ·decide
theorem fe138:Fn Tryz.prog 138 19 [(4,none)] e138:=by
 refine ⟨⟨Tryz.prog.funcs[138]?.getD default,(Tryz.prog.funcs[138]?.getD default).body.getD .skip,fun d=>0,?_,?_,?_,?_,?_⟩,?_,?_⟩
 ·kernel_rfl
 ·kernel_rfl
 ·kernel_rfl
 ·kernel_rfl
 ·kernel_rfl
 ·rfl
 ·decide
theorem fe139:Fn Tryz.prog 139 134 [] e139:=by
 refine ⟨⟨Tryz.prog.funcs[139]?.getD default,(Tryz.prog.funcs[139]?.getD default).body.getD .skip,fun d=>if d=1000139 then 4 else if d=1000186 then 4 else 0,?_,?_,?_,?_,?_⟩,?_,?_⟩
 ·kernel_rfl
 ·kernel_rfl
 ·kernel_rfl
 ·kernel_rfl
 ·kernel_rfl
 ·rfl
 ·decide
theorem fe140:Fn Tryz.prog 140 8 [(2,none)] e140:=by
 refine ⟨⟨Tryz.prog.funcs[140]?.getD default,(Tryz.prog.funcs[140]?.getD default).body.getD .skip,fun d=>0,?_,?_,?_,?_,?_⟩,?_,?_⟩
 ·kernel_rfl
 ·kernel_rfl
 ·kernel_rfl
 ·kernel_rfl
 ·kernel_rfl
 ·rfl
 ·decide
theorem fe147:Fn Tryz.prog 147 31 [(2,none)] e147:=by
 refine ⟨⟨Tryz.prog.funcs[147]?.getD default,(Tryz.prog.funcs[147]?.getD default).body.getD .skip,fun d=>0,?_,?_,?_,?_,?_⟩,?_,?_⟩
 ·kernel_rfl
 ·kernel_rfl
 ·kernel_rfl
 ·kernel_rfl
 ·kernel_rfl
 ·rfl
 ·decide
theorem fe148:Fn Tryz.prog 148 28 [] e148:=by
 refine ⟨⟨Tryz.prog.funcs[148]?.getD default,(Tryz.prog.funcs[148]?.getD default).body.getD .skip,fun d=>0,?_,?_,?_,?_,?_⟩,?_,?_⟩
 ·kernel_rfl
 ·kernel_rfl
 ·kernel_rfl
 ·kernel_rfl
 ·kernel_rfl
 ·rfl
 ·decide
theorem fe160:Fn Tryz.prog 160 19 [(2,none),(3,none)] e160:=by
 refine ⟨⟨Tryz.prog.funcs[160]?.getD default,(Tryz.prog.funcs[160]?.getD default).body.getD .skip,fun d=>0,?_,?_,?_,?_,?_⟩,?_,?_⟩
 ·kernel_rfl
 ·kernel_rfl
 ·kernel_rfl
 ·kernel_rfl
 ·kernel_rfl
 ·rfl
 ·decide
theorem fe161:Fn Tryz.prog 161 28 [(4,none)] e161:=by
 refine ⟨⟨Tryz.prog.funcs[161]?.getD default,(Tryz.prog.funcs[161]?.getD default).body.getD .skip,fun d=>0,?_,?_,?_,?_,?_⟩,?_,?_⟩
 ·kernel_rfl
 ·kernel_rfl
 ·kernel_rfl
 ·kernel_rfl
 ·kernel_rfl
 ·rfl
 ·decide
theorem fe162:Fn Tryz.prog 162 67 [(6,none)] e162:=by
 refine ⟨⟨Tryz.prog.funcs[162]?.getD default,(Tryz.prog.funcs[162]?.getD default).body.getD .skip,fun d=>0,?_,?_,?_,?_,?_⟩,?_,?_⟩
 ·kernel_rfl
 ·kernel_rfl
 ·kernel_rfl
 ·kernel_rfl
 ·kernel_rfl
 ·rfl
 ·decide
theorem fe163:Fn Tryz.prog 163 55 [(6,none)] e163:=by
 refine ⟨⟨Tryz.prog.funcs[163]?.getD default,(Tryz.prog.funcs[163]?.getD default).body.getD .skip,fun d=>0,?_,?_,?_,?_,?_⟩,?_,?_⟩
 ·kernel_rfl
 ·kernel_rfl
 ·kernel_rfl
 ·kernel_rfl
 ·kernel_rfl
 ·rfl
 ·decide
theorem fe164:Fn Tryz.prog 164 57 [(4,none)] e164:=by
 refine ⟨⟨Tryz.prog.funcs[164]?.getD default,(Tryz.prog.funcs[164]?.getD default).body.getD .skip,fun d=>if d=28 then 3 else 0,?_,?_,?_,?_,?_⟩,?_,?_⟩
 ·kernel_rfl
 ·kernel_rfl
 ·kernel_rfl
 ·kernel_rfl
 ·kernel_rfl
 ·rfl
 ·decide
theorem fe165:Fn Tryz.prog 165 52 [(4,none)] e165:=by
 refine ⟨⟨Tryz.prog.funcs[165]?.getD default,(Tryz.prog.funcs[165]?.getD default).body.getD .skip,fun d=>0,?_,?_,?_,?_,?_⟩,?_,?_⟩
 ·kernel_rfl
 ·kernel_rfl
 ·kernel_rfl
 ·kernel_rfl
 ·kernel_rfl
 ·rfl
 ·decide
theorem fe166:Fn Tryz.prog 166 33 [(4,none)] e166:=by
 refine ⟨⟨Tryz.prog.funcs[166]?.getD default,(Tryz.prog.funcs[166]?.getD default).body.getD .skip,fun d=>0,?_,?_,?_,?_,?_⟩,?_,?_⟩
 ·kernel_rfl
 ·kernel_rfl
 ·kernel_rfl
 ·kernel_rfl
 ·kernel_rfl
 ·rfl
 ·decide
theorem fe169:Fn Tryz.prog 169 28 [(6,none)] e169:=by
 refine ⟨⟨Tryz.prog.funcs[169]?.getD default,(Tryz.prog.funcs[169]?.getD default).body.getD .skip,fun d=>0,?_,?_,?_,?_,?_⟩,?_,?_⟩
 ·kernel_rfl
 ·kernel_rfl
 ·kernel_rfl
 ·kernel_rfl
 ·kernel_rfl
 ·rfl
 ·decide
theorem fe174:Fn Tryz.prog 174 37 [(2,none)] e174:=by
 refine ⟨⟨Tryz.prog.funcs[174]?.getD default,(Tryz.prog.funcs[174]?.getD default).body.getD .skip,fun d=>if d=5 then 1 else 0,?_,?_,?_,?_,?_⟩,?_,?_⟩
 ·kernel_rfl
 ·kernel_rfl
 ·kernel_rfl
 ·kernel_rfl
 ·kernel_rfl
 ·rfl
 ·decide
theorem fe175:Fn Tryz.prog 175 40 [(2,none),(3,none)] e175:=by
 refine ⟨⟨Tryz.prog.funcs[175]?.getD default,(Tryz.prog.funcs[175]?.getD default).body.getD .skip,fun d=>0,?_,?_,?_,?_,?_⟩,?_,?_⟩
 ·kernel_rfl
 ·kernel_rfl
 ·kernel_rfl
 ·kernel_rfl
 ·kernel_rfl
 ·rfl
 ·decide
theorem fe177:Fn Tryz.prog 177 42 [(2,none)] e177:=by
 refine ⟨⟨Tryz.prog.funcs[177]?.getD default,(Tryz.prog.funcs[177]?.getD default).body.getD .skip,fun d=>0,?_,?_,?_,?_,?_⟩,?_,?_⟩
 ·kernel_rfl
 ·kernel_rfl
 ·kernel_rfl
 ·kernel_rfl
 ·kernel_rfl
 ·rfl
 ·decide
theorem fe178:Fn Tryz.prog 178 19 [(2,none)] e178:=by
 refine ⟨⟨Tryz.prog.funcs[178]?.getD default,(Tryz.prog.funcs[178]?.getD default).body.getD .skip,fun d=>0,?_,?_,?_,?_,?_⟩,?_,?_⟩
 ·kernel_rfl
 ·kernel_rfl
 ·kernel_rfl
 ·kernel_rfl
 ·kernel_rfl
 ·rfl
 ·decide
theorem fe179:Fn Tryz.prog 179 30 [(2,(some (3,true))),(3,none)] e179:=by
 refine ⟨⟨Tryz.prog.funcs[179]?.getD default,(Tryz.prog.funcs[179]?.getD default).body.getD .skip,fun d=>0,?_,?_,?_,?_,?_⟩,?_,?_⟩
 ·kernel_rfl
 ·kernel_rfl
 ·kernel_rfl
 ·kernel_rfl
 ·kernel_rfl
 ·rfl
 ·decide
theorem fe180:Fn Tryz.prog 180 30 [(4,none)] e180:=by
 refine ⟨⟨Tryz.prog.funcs[180]?.getD default,(Tryz.prog.funcs[180]?.getD default).body.getD .skip,fun d=>0,?_,?_,?_,?_,?_⟩,?_,?_⟩
 ·kernel_rfl
 ·kernel_rfl
 ·kernel_rfl
 ·kernel_rfl
 ·kernel_rfl
 ·rfl
 ·decide
theorem fe181:Fn Tryz.prog 181 34 [(2,(some (2,true))),(3,none),(4,none)] e181:=by
 refine ⟨⟨Tryz.prog.funcs[181]?.getD default,(Tryz.prog.funcs[181]?.getD default).body.getD .skip,fun d=>0,?_,?_,?_,?_,?_⟩,?_,?_⟩
 ·kernel_rfl
 ·kernel_rfl
 ·kernel_rfl
 ·kernel_rfl
 ·kernel_rfl
 ·rfl
 ·decide
theorem fe182:Fn Tryz.prog 182 58 [(4,none)] e182:=by
 refine ⟨⟨Tryz.prog.funcs[182]?.getD default,(Tryz.prog.funcs[182]?.getD default).body.getD .skip,fun d=>0,?_,?_,?_,?_,?_⟩,?_,?_⟩
 ·kernel_rfl
 ·kernel_rfl
 ·kernel_rfl
 ·kernel_rfl
 ·kernel_rfl
 ·rfl
 ·decide
theorem fe183:Fn Tryz.prog 183 21 [(4,none)] e183:=by
 refine ⟨⟨Tryz.prog.funcs[183]?.getD default,(Tryz.prog.funcs[183]?.getD default).body.getD .skip,fun d=>0,?_,?_,?_,?_,?_⟩,?_,?_⟩
 ·kernel_rfl
 ·kernel_rfl
 ·kernel_rfl
 ·kernel_rfl
 ·kernel_rfl
 ·rfl
 ·decide
theorem fe184:Fn Tryz.prog 184 34 [(2,none)] e184:=by
 refine ⟨⟨Tryz.prog.funcs[184]?.getD default,(Tryz.prog.funcs[184]?.getD default).body.getD .skip,fun d=>0,?_,?_,?_,?_,?_⟩,?_,?_⟩
 ·kernel_rfl
 ·kernel_rfl
 ·kernel_rfl
 ·kernel_rfl
 ·kernel_rfl
 ·rfl
 ·decide
theorem fe185:Fn Tryz.prog 185 20 [(2,none)] e185:=by
 refine ⟨⟨Tryz.prog.funcs[185]?.getD default,(Tryz.prog.funcs[185]?.getD default).body.getD .skip,fun d=>0,?_,?_,?_,?_,?_⟩,?_,?_⟩
 ·kernel_rfl
 ·kernel_rfl
 ·kernel_rfl
 ·kernel_rfl
 ·kernel_rfl
 ·rfl
 ·decide
theorem fe186:Fn Tryz.prog 186 49 [] e186:=by
 refine ⟨⟨Tryz.prog.funcs[186]?.getD default,(Tryz.prog.funcs[186]?.getD default).body.getD .skip,fun d=>0,?_,?_,?_,?_,?_⟩,?_,?_⟩
 ·kernel_rfl
 ·kernel_rfl
 ·kernel_rfl
 ·kernel_rfl
 ·kernel_rfl
 ·rfl
 ·decide
theorem fe192:Fn Tryz.prog 192 17 [(4,none)] e192:=by
 refine ⟨⟨Tryz.prog.funcs[192]?.getD default,(Tryz.prog.funcs[192]?.getD default).body.getD .skip,fun d=>0,?_,?_,?_,?_,?_⟩,?_,?_⟩
 ·kernel_rfl
 ·kernel_rfl
 ·kernel_rfl
 ·kernel_rfl
 ·kernel_rfl
 ·rfl
 ·decide
theorem fe196:Fn Tryz.prog 196 25 [(2,none)] e196:=by
 refine ⟨⟨Tryz.prog.funcs[196]?.getD default,(Tryz.prog.funcs[196]?.getD default).body.getD .skip,fun d=>0,?_,?_,?_,?_,?_⟩,?_,?_⟩
 ·kernel_rfl
 ·kernel_rfl
 ·kernel_rfl
 ·kernel_rfl
 ·kernel_rfl
 ·rfl
 ·decide
theorem fe212:Fn Tryz.prog 212 2 [(0,none)] e212:=by
 refine ⟨⟨Tryz.prog.funcs[212]?.getD default,(Tryz.prog.funcs[212]?.getD default).body.getD .skip,fun d=>0,?_,?_,?_,?_,?_⟩,?_,?_⟩
 ·kernel_rfl
 ·kernel_rfl
 ·kernel_rfl
 ·kernel_rfl
 ·kernel_rfl
 ·rfl
 ·decide
theorem fe214:Fn Tryz.prog 214 61 [(2,(some (2,true))),(3,none)] e214:=by
 refine ⟨⟨Tryz.prog.funcs[214]?.getD default,(Tryz.prog.funcs[214]?.getD default).body.getD .skip,fun d=>0,?_,?_,?_,?_,?_⟩,?_,?_⟩
 ·kernel_rfl
 ·kernel_rfl
 ·kernel_rfl
 ·kernel_rfl
 ·kernel_rfl
 ·rfl
 ·decide
theorem fe215:Fn Tryz.prog 215 9 [(2,none)] e215:=by
 refine ⟨⟨Tryz.prog.funcs[215]?.getD default,(Tryz.prog.funcs[215]?.getD default).body.getD .skip,fun d=>0,?_,?_,?_,?_,?_⟩,?_,?_⟩
 ·kernel_rfl
 ·kernel_rfl
 ·kernel_rfl
 ·kernel_rfl
 ·kernel_rfl
 ·rfl
 ·decide
theorem fe216:Fn Tryz.prog 216 9 [(4,none)] e216:=by
 refine ⟨⟨Tryz.prog.funcs[216]?.getD default,(Tryz.prog.funcs[216]?.getD default).body.getD .skip,fun d=>0,?_,?_,?_,?_,?_⟩,?_,?_⟩
 ·kernel_rfl
 ·kernel_rfl
 ·kernel_rfl
 ·kernel_rfl
 ·kernel_rfl
 ·rfl
 ·decide
theorem fe218:Fn Tryz.prog 218 11 [(4,none),(5,none)] e218:=by
 refine ⟨⟨Tryz.prog.funcs[218]?.getD default,(Tryz.prog.funcs[218]?.getD default).body.getD .skip,fun d=>0,?_,?_,?_,?_,?_⟩,?_,?_⟩
 ·kernel_rfl
 ·kernel_rfl
 ·kernel_rfl
 ·kernel_rfl
 ·kernel_rfl
 ·rfl
 ·decide
theorem fe219:Fn Tryz.prog 219 13 [(4,none)] e219:=by
 refine ⟨⟨Tryz.prog.funcs[219]?.getD default,(Tryz.prog.funcs[219]?.getD default).body.getD .skip,fun d=>if d=11 then 3 else 0,?_,?_,?_,?_,?_⟩,?_,?_⟩
 ·kernel_rfl
 ·kernel_rfl
 ·kernel_rfl
 ·kernel_rfl
 ·kernel_rfl
 ·rfl
 ·decide
theorem fe226:Fn Tryz.prog 226 107 [(2,(some (2,true))),(3,none)] e226:=by
 refine ⟨⟨Tryz.prog.funcs[226]?.getD default,(Tryz.prog.funcs[226]?.getD default).body.getD .skip,fun d=>0,?_,?_,?_,?_,?_⟩,?_,?_⟩
 ·kernel_rfl
 ·kernel_rfl
 ·kernel_rfl
 ·kernel_rfl
 ·kernel_rfl
 ·rfl
 ·decide
theorem fe227:Fn Tryz.prog 227 9 [(2,none)] e227:=by
 refine ⟨⟨Tryz.prog.funcs[227]?.getD default,(Tryz.prog.funcs[227]?.getD default).body.getD .skip,fun d=>0,?_,?_,?_,?_,?_⟩,?_,?_⟩
 ·kernel_rfl
 ·kernel_rfl
 ·kernel_rfl
 ·kernel_rfl
 ·kernel_rfl
 ·rfl
 ·decide
theorem fe233:Fn Tryz.prog 233 6 [(2,none)] e233:=by
 refine ⟨⟨Tryz.prog.funcs[233]?.getD default,(Tryz.prog.funcs[233]?.getD default).body.getD .skip,fun d=>0,?_,?_,?_,?_,?_⟩,?_,?_⟩
 ·kernel_rfl
 ·kernel_rfl
 ·kernel_rfl
 ·kernel_rfl
 ·kernel_rfl
 ·rfl
 ·decide
theorem fe254:Fn Tryz.prog 254 41 [(2,none)] e254:=by
 refine ⟨⟨Tryz.prog.funcs[254]?.getD default,(Tryz.prog.funcs[254]?.getD default).body.getD .skip,fun d=>0,?_,?_,?_,?_,?_⟩,?_,?_⟩
 ·kernel_rfl
 ·kernel_rfl
 ·kernel_rfl
 ·kernel_rfl
 ·kernel_rfl
 ·rfl
 ·decide
theorem fe256:Fn Tryz.prog 256 8 [(4,none)] e256:=by
 refine ⟨⟨Tryz.prog.funcs[256]?.getD default,(Tryz.prog.funcs[256]?.getD default).body.getD .skip,fun d=>0,?_,?_,?_,?_,?_⟩,?_,?_⟩
 ·kernel_rfl
 ·kernel_rfl
 ·kernel_rfl
 ·kernel_rfl
 ·kernel_rfl
 ·rfl
 ·decide
theorem fe258:Fn Tryz.prog 258 38 [(2,none)] e258:=by
 refine ⟨⟨Tryz.prog.funcs[258]?.getD default,(Tryz.prog.funcs[258]?.getD default).body.getD .skip,fun d=>0,?_,?_,?_,?_,?_⟩,?_,?_⟩
 ·kernel_rfl
 ·kernel_rfl
 ·kernel_rfl
 ·kernel_rfl
 ·kernel_rfl
 ·rfl
 ·decide
theorem fe259:Fn Tryz.prog 259 19 [(4,none)] e259:=by
 refine ⟨⟨Tryz.prog.funcs[259]?.getD default,(Tryz.prog.funcs[259]?.getD default).body.getD .skip,fun d=>0,?_,?_,?_,?_,?_⟩,?_,?_⟩
 ·kernel_rfl
 ·kernel_rfl
 ·kernel_rfl
 ·kernel_rfl
 ·kernel_rfl
 ·rfl
 ·decide
theorem fe260:Fn Tryz.prog 260 15 [(4,none),(5,none)] e260:=by
 refine ⟨⟨Tryz.prog.funcs[260]?.getD default,(Tryz.prog.funcs[260]?.getD default).body.getD .skip,fun d=>0,?_,?_,?_,?_,?_⟩,?_,?_⟩
 ·kernel_rfl
 ·kernel_rfl
 ·kernel_rfl
 ·kernel_rfl
 ·kernel_rfl
 ·rfl
 ·decide
theorem fe261:Fn Tryz.prog 261 8 [(3,none)] e261:=by
 refine ⟨⟨Tryz.prog.funcs[261]?.getD default,(Tryz.prog.funcs[261]?.getD default).body.getD .skip,fun d=>0,?_,?_,?_,?_,?_⟩,?_,?_⟩
 ·kernel_rfl
 ·kernel_rfl
 ·kernel_rfl
 ·kernel_rfl
 ·kernel_rfl
 ·rfl
 ·decide
theorem fe264:Fn Tryz.prog 264 53 [(2,none)] e264:=by
 refine ⟨⟨Tryz.prog.funcs[264]?.getD default,(Tryz.prog.funcs[264]?.getD default).body.getD .skip,fun d=>0,?_,?_,?_,?_,?_⟩,?_,?_⟩
 ·kernel_rfl
 ·kernel_rfl
 ·kernel_rfl
 ·kernel_rfl
 ·kernel_rfl
 ·rfl
 ·decide
theorem fe278:Fn Tryz.prog 278 18 [(4,none)] e278:=by
 refine ⟨⟨Tryz.prog.funcs[278]?.getD default,(Tryz.prog.funcs[278]?.getD default).body.getD .skip,fun d=>0,?_,?_,?_,?_,?_⟩,?_,?_⟩
 ·kernel_rfl
 ·kernel_rfl
 ·kernel_rfl
 ·kernel_rfl
 ·kernel_rfl
 ·rfl
 ·decide
theorem tabL_fn:∀ x,x∈tabL→Fn Tryz.prog x.1 x.2.n x.2.rs x.2.c:=List.forall_mem_cons.2 ⟨fe5,List.forall_mem_cons.2 ⟨fe6,List.forall_mem_cons.2 ⟨fe7,List.forall_mem_cons.2 ⟨fe8,List.forall_mem_cons.2 ⟨fe9,List.forall_mem_cons.2 ⟨fe14,List.forall_mem_cons.2 ⟨fe15,List.forall_mem_cons.2 ⟨fe16,List.forall_mem_cons.2 ⟨fe17,List.forall_mem_cons.2 ⟨fe18,List.forall_mem_cons.2 ⟨fe19,List.forall_mem_cons.2 ⟨fe20,List.forall_mem_cons.2 ⟨fe21,List.forall_mem_cons.2 ⟨fe22,List.forall_mem_cons.2 ⟨fe23,List.forall_mem_cons.2 ⟨fe24,List.forall_mem_cons.2 ⟨fe25,List.forall_mem_cons.2 ⟨fe26,List.forall_mem_cons.2 ⟨fe27,List.forall_mem_cons.2 ⟨fe28,List.forall_mem_cons.2 ⟨fe29,List.forall_mem_cons.2 ⟨fe30,List.forall_mem_cons.2 ⟨fe31,List.forall_mem_cons.2 ⟨fe41,List.forall_mem_cons.2 ⟨fe42,List.forall_mem_cons.2 ⟨fe43,List.forall_mem_cons.2 ⟨fe44,List.forall_mem_cons.2 ⟨fe45,List.forall_mem_cons.2 ⟨fe46,List.forall_mem_cons.2 ⟨fe47,List.forall_mem_cons.2 ⟨fe48,List.forall_mem_cons.2 ⟨fe49,List.forall_mem_cons.2 ⟨fe50,List.forall_mem_cons.2 ⟨fe52,List.forall_mem_cons.2 ⟨fe53,List.forall_mem_cons.2 ⟨fe54,List.forall_mem_cons.2 ⟨fe55,List.forall_mem_cons.2 ⟨fe57,List.forall_mem_cons.2 ⟨fe58,List.forall_mem_cons.2 ⟨fe59,List.forall_mem_cons.2 ⟨fe66,List.forall_mem_cons.2 ⟨fe67,List.forall_mem_cons.2 ⟨fe68,List.forall_mem_cons.2 ⟨fe69,List.forall_mem_cons.2 ⟨fe70,List.forall_mem_cons.2 ⟨fe71,List.forall_mem_cons.2 ⟨fe72,List.forall_mem_cons.2 ⟨fe73,List.forall_mem_cons.2 ⟨fe79,List.forall_mem_cons.2 ⟨fe80,List.forall_mem_cons.2 ⟨fe81,List.forall_mem_cons.2 ⟨fe82,List.forall_mem_cons.2 ⟨fe83,List.forall_mem_cons.2 ⟨fe84,List.forall_mem_cons.2 ⟨fe85,List.forall_mem_cons.2 ⟨fe86,List.forall_mem_cons.2 ⟨fe87,List.forall_mem_cons.2 ⟨fe94,List.forall_mem_cons.2 ⟨fe95,List.forall_mem_cons.2 ⟨fe102,List.forall_mem_cons.2 ⟨fe103,List.forall_mem_cons.2 ⟨fe104,List.forall_mem_cons.2 ⟨fe105,List.forall_mem_cons.2 ⟨fe121,List.forall_mem_cons.2 ⟨fe122,List.forall_mem_cons.2 ⟨fe123,List.forall_mem_cons.2 ⟨fe124,List.forall_mem_cons.2 ⟨fe125,List.forall_mem_cons.2 ⟨fe127,List.forall_mem_cons.2 ⟨fe129,List.forall_mem_cons.2 ⟨fe134,List.forall_mem_cons.2 ⟨fe135,List.forall_mem_cons.2 ⟨fe136,List.forall_mem_cons.2 ⟨fe137,List.forall_mem_cons.2 ⟨fe138,List.forall_mem_cons.2 ⟨fe139,List.forall_mem_cons.2 ⟨fe140,List.forall_mem_cons.2 ⟨fe147,List.forall_mem_cons.2 ⟨fe148,List.forall_mem_cons.2 ⟨fe160,List.forall_mem_cons.2 ⟨fe161,List.forall_mem_cons.2 ⟨fe162,List.forall_mem_cons.2 ⟨fe163,List.forall_mem_cons.2 ⟨fe164,List.forall_mem_cons.2 ⟨fe165,List.forall_mem_cons.2 ⟨fe166,List.forall_mem_cons.2 ⟨fe169,List.forall_mem_cons.2 ⟨fe174,List.forall_mem_cons.2 ⟨fe175,List.forall_mem_cons.2 ⟨fe177,List.forall_mem_cons.2 ⟨fe178,List.forall_mem_cons.2 ⟨fe179,List.forall_mem_cons.2 ⟨fe180,List.forall_mem_cons.2 ⟨fe181,List.forall_mem_cons.2 ⟨fe182,List.forall_mem_cons.2 ⟨fe183,List.forall_mem_cons.2 ⟨fe184,List.forall_mem_cons.2 ⟨fe185,List.forall_mem_cons.2 ⟨fe186,List.forall_mem_cons.2 ⟨fe192,List.forall_mem_cons.2 ⟨fe196,List.forall_mem_cons.2 ⟨fe212,List.forall_mem_cons.2 ⟨fe214,List.forall_mem_cons.2 ⟨fe215,List.forall_mem_cons.2 ⟨fe216,List.forall_mem_cons.2 ⟨fe218,List.forall_mem_cons.2 ⟨fe219,List.forall_mem_cons.2 ⟨fe226,List.forall_mem_cons.2 ⟨fe227,List.forall_mem_cons.2 ⟨fe233,List.forall_mem_cons.2 ⟨fe254,List.forall_mem_cons.2 ⟨fe256,List.forall_mem_cons.2 ⟨fe258,List.forall_mem_cons.2 ⟨fe259,List.forall_mem_cons.2 ⟨fe260,List.forall_mem_cons.2 ⟨fe261,List.forall_mem_cons.2 ⟨fe264,List.forall_mem_cons.2 ⟨fe278,List.forall_mem_nil _⟩⟩⟩⟩⟩⟩⟩⟩⟩⟩⟩⟩⟩⟩⟩⟩⟩⟩⟩⟩⟩⟩⟩⟩⟩⟩⟩⟩⟩⟩⟩⟩⟩⟩⟩⟩⟩⟩⟩⟩⟩⟩⟩⟩⟩⟩⟩⟩⟩⟩⟩⟩⟩⟩⟩⟩⟩⟩⟩⟩⟩⟩⟩⟩⟩⟩⟩⟩⟩⟩⟩⟩⟩⟩⟩⟩⟩⟩⟩⟩⟩⟩⟩⟩⟩⟩⟩⟩⟩⟩⟩⟩⟩⟩⟩⟩⟩⟩⟩⟩⟩⟩⟩⟩⟩⟩⟩⟩⟩⟩⟩⟩⟩⟩⟩⟩⟩⟩
end Go.Ab
