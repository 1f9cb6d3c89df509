/- The functions of this seat for the evaluator, by program. No condition. -/
import Derived.Test.YtdhhhhnbobdcoaaGreatDoorProg
import Derived.Test.YtdhhhhnbobdcoaaGreatDoorEc
namespace Go.Ab
open Go.Proofs
set_option maxRecDepth 100000
theorem fe4:Fn Tryz.prog 4 122 [(6,none)] e4:=by
 refine ⟨⟨Tryz.prog.funcs[4]?.getD default,(Tryz.prog.funcs[4]?.getD default).body.getD .skip,fun d=>if d=1000019 then 4 else if d=1000018 then 4 else 0,?_,?_,?_,?_,?_⟩,?_,?_⟩
 ·kernel_rfl
 ·kernel_rfl
 ·kernel_rfl
 ·kernel_rfl
 ·kernel_rfl
 ·rfl
 ·decide
theorem fe9:Fn Tryz.prog 9 56 [(0,none)] e9:=by
 refine ⟨⟨Tryz.prog.funcs[9]?.getD default,(Tryz.prog.funcs[9]?.getD default).body.getD .skip,fun d=>0,?_,?_,?_,?_,?_⟩,?_,?_⟩
 ·kernel_rfl
 ·kernel_rfl
 ·kernel_rfl
 ·kernel_rfl
 ·kernel_rfl
 ·rfl
 ·decide
theorem fe11:Fn Tryz.prog 11 2 [(0,none)] e11:=by
 refine ⟨⟨Tryz.prog.funcs[11]?.getD default,(Tryz.prog.funcs[11]?.getD default).body.getD .skip,fun d=>0,?_,?_,?_,?_,?_⟩,?_,?_⟩
 ·kernel_rfl
 ·kernel_rfl
 ·kernel_rfl
 ·kernel_rfl
 ·kernel_rfl
 ·rfl
 ·decide
theorem fe12:Fn Tryz.prog 12 15 [(4,none)] e12:=by
 refine ⟨⟨Tryz.prog.funcs[12]?.getD default,(Tryz.prog.funcs[12]?.getD default).body.getD .skip,fun d=>0,?_,?_,?_,?_,?_⟩,?_,?_⟩
 ·kernel_rfl
 ·kernel_rfl
 ·kernel_rfl
 ·kernel_rfl
 ·kernel_rfl
 ·rfl
 ·decide
theorem fe14:Fn Tryz.prog 14 37 [(6,none)] e14:=by
 refine ⟨⟨Tryz.prog.funcs[14]?.getD default,(Tryz.prog.funcs[14]?.getD default).body.getD .skip,fun d=>if d=1000040 then 4 else 0,?_,?_,?_,?_,?_⟩,?_,?_⟩
 ·kernel_rfl
 ·kernel_rfl
 ·kernel_rfl
 ·kernel_rfl
 ·kernel_rfl
 ·rfl
 ·decide
theorem fe17:Fn Tryz.prog 17 15 [(2,(some (8,true)))] e17:=by
 refine ⟨⟨Tryz.prog.funcs[17]?.getD default,(Tryz.prog.funcs[17]?.getD default).body.getD .skip,fun d=>0,?_,?_,?_,?_,?_⟩,?_,?_⟩
 ·kernel_rfl
 ·kernel_rfl
 ·kernel_rfl
 ·kernel_rfl
 ·kernel_rfl
 ·rfl
 ·decide
theorem fe18:Fn Tryz.prog 18 7 [(2,none)] e18:=by
 refine ⟨⟨Tryz.prog.funcs[18]?.getD default,(Tryz.prog.funcs[18]?.getD default).body.getD .skip,fun d=>if d=1000037 then 4 else 0,?_,?_,?_,?_,?_⟩,?_,?_⟩
 ·kernel_rfl
 ·kernel_rfl
 ·kernel_rfl
 ·kernel_rfl
 ·kernel_rfl
 ·rfl
 ·decide
theorem fe19:Fn Tryz.prog 19 46 [(2,none)] e19:=by
 refine ⟨⟨Tryz.prog.funcs[19]?.getD default,(Tryz.prog.funcs[19]?.getD default).body.getD .skip,fun d=>0,?_,?_,?_,?_,?_⟩,?_,?_⟩
 ·kernel_rfl
 ·kernel_rfl
 ·kernel_rfl
 ·kernel_rfl
 ·kernel_rfl
 ·rfl
 ·decide
theorem fe20:Fn Tryz.prog 20 83 [(4,(some (8,true))),(5,none)] e20:=by
 refine ⟨⟨Tryz.prog.funcs[20]?.getD default,(Tryz.prog.funcs[20]?.getD default).body.getD .skip,fun d=>0,?_,?_,?_,?_,?_⟩,?_,?_⟩
 ·kernel_rfl
 ·kernel_rfl
 ·kernel_rfl
 ·kernel_rfl
 ·kernel_rfl
 ·rfl
 ·decide
theorem fe21:Fn Tryz.prog 21 51 [(6,none),(7,none)] e21:=by
 refine ⟨⟨Tryz.prog.funcs[21]?.getD default,(Tryz.prog.funcs[21]?.getD default).body.getD .skip,fun d=>0,?_,?_,?_,?_,?_⟩,?_,?_⟩
 ·kernel_rfl
 ·kernel_rfl
 ·kernel_rfl
 ·kernel_rfl
 ·kernel_rfl
 ·rfl
 ·decide
theorem fe22:Fn Tryz.prog 22 100 [(10,none),(11,none)] e22:=by
 refine ⟨⟨Tryz.prog.funcs[22]?.getD default,(Tryz.prog.funcs[22]?.getD default).body.getD .skip,fun d=>0,?_,?_,?_,?_,?_⟩,?_,?_⟩
 ·kernel_rfl
 ·kernel_rfl
 ·kernel_rfl
 ·kernel_rfl
 ·kernel_rfl
 ·rfl
 ·decide
theorem fe23:Fn Tryz.prog 23 74 [(8,none),(9,none)] e23:=by
 refine ⟨⟨Tryz.prog.funcs[23]?.getD default,(Tryz.prog.funcs[23]?.getD default).body.getD .skip,fun d=>if d=1000055 then 0 else if d=1000055 then 4 else 0,?_,?_,?_,?_,?_⟩,?_,?_⟩
 ·kernel_rfl
 ·kernel_rfl
 ·kernel_rfl
 ·kernel_rfl
 ·kernel_rfl
 ·rfl
 ·decide
theorem fe31:Fn Tryz.prog 31 2 [(0,(some (2,true)))] e31:=by
 refine ⟨⟨Tryz.prog.funcs[31]?.getD default,(Tryz.prog.funcs[31]?.getD default).body.getD .skip,fun d=>0,?_,?_,?_,?_,?_⟩,?_,?_⟩
 ·kernel_rfl
 ·kernel_rfl
 ·kernel_rfl
 ·kernel_rfl
 ·kernel_rfl
 ·rfl
 ·decide
theorem fe33:Fn Tryz.prog 33 29 [(2,(some (3,true)))] e33:=by
 refine ⟨⟨Tryz.prog.funcs[33]?.getD default,(Tryz.prog.funcs[33]?.getD default).body.getD .skip,fun d=>if d=19 then 3 else if d=1000040 then 4 else 0,?_,?_,?_,?_,?_⟩,?_,?_⟩
 ·kernel_rfl
 ·kernel_rfl
 ·kernel_rfl
 ·kernel_rfl
 ·kernel_rfl
 ·rfl
 ·decide
theorem fe36:Fn Tryz.prog 36 15 [(0,(some (8,true)))] e36:=by
 refine ⟨⟨Tryz.prog.funcs[36]?.getD default,(Tryz.prog.funcs[36]?.getD default).body.getD .skip,fun d=>if d=1000019 then 4 else if d=1000018 then 4 else 0,?_,?_,?_,?_,?_⟩,?_,?_⟩
 ·kernel_rfl
 ·kernel_rfl
 ·kernel_rfl
 ·kernel_rfl
 ·kernel_rfl
 ·rfl
 ·decide
theorem fe37:Fn Tryz.prog 37 53 [(4,none)] e37:=by
 refine ⟨⟨Tryz.prog.funcs[37]?.getD default,(Tryz.prog.funcs[37]?.getD default).body.getD .skip,fun d=>0,?_,?_,?_,?_,?_⟩,?_,?_⟩
 ·kernel_rfl
 ·kernel_rfl
 ·kernel_rfl
 ·kernel_rfl
 ·kernel_rfl
 ·rfl
 ·decide
theorem fe40:Fn Tryz.prog 40 23 [(4,(some (3,true))),(5,none)] e40:=by
 refine ⟨⟨Tryz.prog.funcs[40]?.getD default,(Tryz.prog.funcs[40]?.getD default).body.getD .skip,fun d=>if d=1000081 then 4 else 0,?_,?_,?_,?_,?_⟩,?_,?_⟩
 ·kernel_rfl
 ·kernel_rfl
 ·kernel_rfl
 ·kernel_rfl
 ·kernel_rfl
 ·rfl
 ·decide
theorem fe41:Fn Tryz.prog 41 13 [(4,(some (4,true)))] e41:=by
 refine ⟨⟨Tryz.prog.funcs[41]?.getD default,(Tryz.prog.funcs[41]?.getD default).body.getD .skip,fun d=>0,?_,?_,?_,?_,?_⟩,?_,?_⟩
 ·kernel_rfl
 ·kernel_rfl
 ·kernel_rfl
 ·kernel_rfl
 ·kernel_rfl
 ·rfl
 ·decide
theorem fe42:Fn Tryz.prog 42 24 [(6,none)] e42:=by
 refine ⟨⟨Tryz.prog.funcs[42]?.getD default,(Tryz.prog.funcs[42]?.getD default).body.getD .skip,fun d=>0,?_,?_,?_,?_,?_⟩,?_,?_⟩
 ·kernel_rfl
 ·kernel_rfl
 ·kernel_rfl
 ·kernel_rfl
 ·kernel_rfl
 ·rfl
 ·decide
theorem fe43:Fn Tryz.prog 43 19 [(4,(some (3,true))),(5,none)] e43:=by
 refine ⟨⟨Tryz.prog.funcs[43]?.getD default,(Tryz.prog.funcs[43]?.getD default).body.getD .skip,fun d=>0,?_,?_,?_,?_,?_⟩,?_,?_⟩
 ·kernel_rfl
 ·kernel_rfl
 ·kernel_rfl
 ·kernel_rfl
 ·kernel_rfl
 ·rfl
 ·decide
theorem fe45:Fn Tryz.prog 45 31 [(2,none)] e45:=by
 refine ⟨⟨Tryz.prog.funcs[45]?.getD default,(Tryz.prog.funcs[45]?.getD default).body.getD .skip,fun d=>0,?_,?_,?_,?_,?_⟩,?_,?_⟩
 ·kernel_rfl
 ·kernel_rfl
 ·kernel_rfl
 ·kernel_rfl
 ·kernel_rfl
 ·rfl
 ·decide
theorem fe46:Fn Tryz.prog 46 45 [(2,none)] e46:=by
 refine ⟨⟨Tryz.prog.funcs[46]?.getD default,(Tryz.prog.funcs[46]?.getD default).body.getD .skip,fun d=>0,?_,?_,?_,?_,?_⟩,?_,?_⟩
 ·kernel_rfl
 ·kernel_rfl
 ·kernel_rfl
 ·kernel_rfl
 ·kernel_rfl
 ·rfl
 ·decide
theorem fe47:Fn Tryz.prog 47 84 [(6,(some (8,true))),(7,none)] e47:=by
 refine ⟨⟨Tryz.prog.funcs[47]?.getD default,(Tryz.prog.funcs[47]?.getD default).body.getD .skip,fun d=>0,?_,?_,?_,?_,?_⟩,?_,?_⟩
 ·kernel_rfl
 ·kernel_rfl
 ·kernel_rfl
 ·kernel_rfl
 ·kernel_rfl
 ·rfl
 ·decide
theorem fe48:Fn Tryz.prog 48 43 [(2,none)] e48:=by
 refine ⟨⟨Tryz.prog.funcs[48]?.getD default,(Tryz.prog.funcs[48]?.getD default).body.getD .skip,fun d=>0,?_,?_,?_,?_,?_⟩,?_,?_⟩
 ·kernel_rfl
 ·kernel_rfl
 ·kernel_rfl
 ·kernel_rfl
 ·kernel_rfl
 ·rfl
 ·decide
theorem fe49:Fn Tryz.prog 49 80 [(6,(some (8,true))),(7,none)] e49:=by
 refine ⟨⟨Tryz.prog.funcs[49]?.getD default,(Tryz.prog.funcs[49]?.getD default).body.getD .skip,fun d=>0,?_,?_,?_,?_,?_⟩,?_,?_⟩
 ·kernel_rfl
 ·kernel_rfl
 ·kernel_rfl
 ·kernel_rfl
 ·kernel_rfl
 ·rfl
 ·decide
theorem fe50:Fn Tryz.prog 50 83 [(2,none)] e50:=by
 refine ⟨⟨Tryz.prog.funcs[50]?.getD default,(Tryz.prog.funcs[50]?.getD default).body.getD .skip,fun d=>0,?_,?_,?_,?_,?_⟩,?_,?_⟩
 ·kernel_rfl
 ·kernel_rfl
 ·kernel_rfl
 ·kernel_rfl
 ·kernel_rfl
 ·rfl
 ·decide
theorem fe51:Fn Tryz.prog 51 9 [(2,none)] e51:=by
 refine ⟨⟨Tryz.prog.funcs[51]?.getD default,(Tryz.prog.funcs[51]?.getD default).body.getD .skip,fun d=>0,?_,?_,?_,?_,?_⟩,?_,?_⟩
 ·kernel_rfl
 ·kernel_rfl
 ·kernel_rfl
 ·kernel_rfl
 ·kernel_rfl
 ·rfl
 ·decide
theorem fe52:Fn Tryz.prog 52 18 [(4,none),(5,none)] e52:=by
 refine ⟨⟨Tryz.prog.funcs[52]?.getD default,(Tryz.prog.funcs[52]?.getD default).body.getD .skip,fun d=>if d=15 then 3 else if d=1000040 then 4 else 0,?_,?_,?_,?_,?_⟩,?_,?_⟩
 ·kernel_rfl
 ·kernel_rfl
 ·kernel_rfl
 ·kernel_rfl
 ·kernel_rfl
 ·rfl
 ·decide
theorem fe53:Fn Tryz.prog 53 18 [(8,none)] e53:=by
 refine ⟨⟨Tryz.prog.funcs[53]?.getD default,(Tryz.prog.funcs[53]?.getD default).body.getD .skip,fun d=>0,?_,?_,?_,?_,?_⟩,?_,?_⟩
 ·kernel_rfl
 ·kernel_rfl
 ·kernel_rfl
 ·kernel_rfl
 ·kernel_rfl
 ·rfl
 ·decide
theorem fe54:Fn Tryz.prog 54 19 [(2,none)] e54:=by
 refine ⟨⟨Tryz.prog.funcs[54]?.getD default,(Tryz.prog.funcs[54]?.getD default).body.getD .skip,fun d=>0,?_,?_,?_,?_,?_⟩,?_,?_⟩
 ·kernel_rfl
 ·kernel_rfl
 ·kernel_rfl
 ·kernel_rfl
 ·kernel_rfl
 ·rfl
 ·decide
theorem fe55:Fn Tryz.prog 55 8 [(2,none)] e55:=by
 refine ⟨⟨Tryz.prog.funcs[55]?.getD default,(Tryz.prog.funcs[55]?.getD default).body.getD .skip,fun d=>if d=5 then 1 else 0,?_,?_,?_,?_,?_⟩,?_,?_⟩
 ·kernel_rfl
 ·kernel_rfl
 ·kernel_rfl
 ·kernel_rfl
 ·kernel_rfl
 ·rfl
 ·decide
theorem fe56:Fn Tryz.prog 56 56 [(2,none)] e56:=by
 refine ⟨⟨Tryz.prog.funcs[56]?.getD default,(Tryz.prog.funcs[56]?.getD default).body.getD .skip,fun d=>0,?_,?_,?_,?_,?_⟩,?_,?_⟩
 ·kernel_rfl
 ·kernel_rfl
 ·kernel_rfl
 ·kernel_rfl
 ·kernel_rfl
 ·rfl
 ·decide
theorem fe59:Fn Tryz.prog 59 45 [(2,(some (3,true))),(3,none),(4,none)] e59:=by
 refine ⟨⟨Tryz.prog.funcs[59]?.getD default,(Tryz.prog.funcs[59]?.getD default).body.getD .skip,fun d=>0,?_,?_,?_,?_,?_⟩,?_,?_⟩
 ·kernel_rfl
 ·kernel_rfl
 ·kernel_rfl
 ·kernel_rfl
 ·kernel_rfl
 ·rfl
 ·decide
theorem fe60:Fn Tryz.prog 60 131 [(2,none)] e60:=by
 refine ⟨⟨Tryz.prog.funcs[60]?.getD default,(Tryz.prog.funcs[60]?.getD default).body.getD .skip,fun d=>0,?_,?_,?_,?_,?_⟩,?_,?_⟩
 ·kernel_rfl
 ·kernel_rfl
 ·kernel_rfl
 ·kernel_rfl
 ·kernel_rfl
 ·rfl
 ·decide
theorem fe64:Fn Tryz.prog 64 54 [(2,none)] e64:=by
 refine ⟨⟨Tryz.prog.funcs[64]?.getD default,(Tryz.prog.funcs[64]?.getD default).body.getD .skip,fun d=>0,?_,?_,?_,?_,?_⟩,?_,?_⟩
 ·kernel_rfl
 ·kernel_rfl
 ·kernel_rfl
 ·kernel_rfl
 ·kernel_rfl
 ·rfl
 ·decide
theorem fe72:Fn Tryz.prog 72 35 [(2,(some (3,true))),(3,none),(4,none)] e72:=by
 refine ⟨⟨Tryz.prog.funcs[72]?.getD default,(Tryz.prog.funcs[72]?.getD default).body.getD .skip,fun d=>if d=29 then 3 else if d=1000117 then 4 else 0,?_,?_,?_,?_,?_⟩,?_,?_⟩
 ·kernel_rfl
 ·kernel_rfl
 ·kernel_rfl
 ·kernel_rfl
 ·kernel_rfl
 ·rfl
 ·decide
theorem fe73:Fn Tryz.prog 73 16 [(2,(some (6,true)))] e73:=by
 refine ⟨⟨Tryz.prog.funcs[73]?.getD default,(Tryz.prog.funcs[73]?.getD default).body.getD .skip,fun d=>0,?_,?_,?_,?_,?_⟩,?_,?_⟩
 ·kernel_rfl
 ·kernel_rfl
 ·kernel_rfl
 ·kernel_rfl
 ·kernel_rfl
 ·rfl
 ·decide
theorem fe81:Fn Tryz.prog 81 8 [(2,(some (3,true)))] e81:=by
 refine ⟨⟨Tryz.prog.funcs[81]?.getD default,(Tryz.prog.funcs[81]?.getD default).body.getD .skip,fun d=>if d=1000055 then 4 else 0,?_,?_,?_,?_,?_⟩,?_,?_⟩
 ·kernel_rfl
 ·kernel_rfl
 ·kernel_rfl
 ·kernel_rfl
 ·kernel_rfl
 ·rfl
 ·decide
theorem fe82:Fn Tryz.prog 82 42 [(4,none)] e82:=by
 refine ⟨⟨Tryz.prog.funcs[82]?.getD default,(Tryz.prog.funcs[82]?.getD default).body.getD .skip,fun d=>if d=10 then 1 else if d=28 then 3 else if d=32 then 3 else if d=1000125 then 4 else 0,?_,?_,?_,?_,?_⟩,?_,?_⟩
 ·kernel_rfl
 ·kernel_rfl
 ·kernel_rfl
 ·kernel_rfl
 ·kernel_rfl
 ·rfl
 ·decide
theorem fe83:Fn Tryz.prog 83 65 [(8,none)] e83:=by
 refine ⟨⟨Tryz.prog.funcs[83]?.getD default,(Tryz.prog.funcs[83]?.getD default).body.getD .skip,fun d=>0,?_,?_,?_,?_,?_⟩,?_,?_⟩
 ·kernel_rfl
 ·kernel_rfl
 ·kernel_rfl
 ·kernel_rfl
 ·kernel_rfl
 ·rfl
 ·decide
theorem fe84:Fn Tryz.prog 84 20 [(4,none)] e84:=by
 refine ⟨⟨Tryz.prog.funcs[84]?.getD default,(Tryz.prog.funcs[84]?.getD default).body.getD .skip,fun d=>0,?_,?_,?_,?_,?_⟩,?_,?_⟩
 ·kernel_rfl
 ·kernel_rfl
 ·kernel_rfl
 ·kernel_rfl
 ·kernel_rfl
 ·rfl
 ·decide
theorem fe85:Fn Tryz.prog 85 104 [(2,none)] e85:=by
 refine ⟨⟨Tryz.prog.funcs[85]?.getD default,(Tryz.prog.funcs[85]?.getD default).body.getD .skip,fun d=>0,?_,?_,?_,?_,?_⟩,?_,?_⟩
 ·kernel_rfl
 ·kernel_rfl
 ·kernel_rfl
 ·kernel_rfl
 ·kernel_rfl
 ·rfl
 ·decide
theorem fe86:Fn Tryz.prog 86 91 [(2,none)] e86:=by
 refine ⟨⟨Tryz.prog.funcs[86]?.getD default,(Tryz.prog.funcs[86]?.getD default).body.getD .skip,fun d=>0,?_,?_,?_,?_,?_⟩,?_,?_⟩
 ·kernel_rfl
 ·kernel_rfl
 ·kernel_rfl
 ·kernel_rfl
 ·kernel_rfl
 ·rfl
 ·decide
theorem fe87:Fn Tryz.prog 87 98 [(2,none)] e87:=by
 refine ⟨⟨Tryz.prog.funcs[87]?.getD default,(Tryz.prog.funcs[87]?.getD default).body.getD .skip,fun d=>0,?_,?_,?_,?_,?_⟩,?_,?_⟩
 ·kernel_rfl
 ·kernel_rfl
 ·kernel_rfl
 ·kernel_rfl
 ·kernel_rfl
 ·rfl
 ·decide
theorem fe88:Fn Tryz.prog 88 107 [(2,none)] e88:=by
 refine ⟨⟨Tryz.prog.funcs[88]?.getD default,(Tryz.prog.funcs[88]?.getD default).body.getD .skip,fun d=>0,?_,?_,?_,?_,?_⟩,?_,?_⟩
 ·kernel_rfl
 ·kernel_rfl
 ·kernel_rfl
 ·kernel_rfl
 ·kernel_rfl
 ·rfl
 ·decide
theorem fe89:Fn Tryz.prog 89 81 [(2,none)] e89:=by
 refine ⟨⟨Tryz.prog.funcs[89]?.getD default,(Tryz.prog.funcs[89]?.getD default).body.getD .skip,fun d=>0,?_,?_,?_,?_,?_⟩,?_,?_⟩
 ·kernel_rfl
 ·kernel_rfl
 ·kernel_rfl
 ·kernel_rfl
 ·kernel_rfl
 ·rfl
 ·decide
theorem fe90:Fn Tryz.prog 90 72 [(6,(some (8,true))),(7,none)] e90:=by
 refine ⟨⟨Tryz.prog.funcs[90]?.getD default,(Tryz.prog.funcs[90]?.getD default).body.getD .skip,fun d=>if d=3000000 then 7 else 0,?_,?_,?_,?_,?_⟩,?_,?_⟩
 ·kernel_rfl
 ·kernel_rfl
 ·kernel_rfl
 ·kernel_rfl
 ·kernel_rfl
 ·rfl
 ·decide
theorem fe93:Fn Tryz.prog 93 79 [(6,(some (8,true))),(7,none)] e93:=by
 refine ⟨⟨Tryz.prog.funcs[93]?.getD default,(Tryz.prog.funcs[93]?.getD default).body.getD .skip,fun d=>0,?_,?_,?_,?_,?_⟩,?_,?_⟩
 ·kernel_rfl
 ·kernel_rfl
 ·kernel_rfl
 ·kernel_rfl
 ·kernel_rfl
 ·rfl
 ·decide
theorem fe98:Fn Tryz.prog 98 2 [(0,(some (2,true)))] e98:=by
 refine ⟨⟨Tryz.prog.funcs[98]?.getD default,(Tryz.prog.funcs[98]?.getD default).body.getD .skip,fun d=>0,?_,?_,?_,?_,?_⟩,?_,?_⟩
 ·kernel_rfl
 ·kernel_rfl
 ·kernel_rfl
 ·kernel_rfl
 ·kernel_rfl
 ·rfl
 ·decide
theorem fe99:Fn Tryz.prog 99 40 [(2,none)] e99:=by
 refine ⟨⟨Tryz.prog.funcs[99]?.getD default,(Tryz.prog.funcs[99]?.getD default).body.getD .skip,fun d=>0,?_,?_,?_,?_,?_⟩,?_,?_⟩
 ·kernel_rfl
 ·kernel_rfl
 ·kernel_rfl
 ·kernel_rfl
 ·kernel_rfl
 ·rfl
 ·decide
theorem bL4:Fn Tryz.prog 101 38 [(2,none),(3,none),(4,none)] e101:=by
 refine ⟨⟨Tryz.prog.funcs[101]?.getD default,(Tryz.prog.funcs[101]?.getD default).body.getD .skip,fun d=>0,?_,?_,?_,?_,?_⟩,?_,?_⟩
 ·kernel_rfl
 ·kernel_rfl
 ·kernel_rfl
 ·kernel_rfl
 ·kernel_rfl
 ·rfl
 ·decide
theorem bJ8:Fn Tryz.prog 102 54 [(2,none)] e102:=by
 refine ⟨⟨Tryz.prog.funcs[102]?.getD default,(Tryz.prog.funcs[102]?.getD default).body.getD .skip,fun d=>0,?_,?_,?_,?_,?_⟩,?_,?_⟩
 ·kernel_rfl
 ·kernel_rfl
 ·kernel_rfl
 ·kernel_rfl
 ·kernel_rfl
 ·rfl
 ·decide
theorem bLt:Fn Tryz.prog 103 42 [(10,none)] e103:=by
 refine ⟨⟨Tryz.prog.funcs[103]?.getD default,(Tryz.prog.funcs[103]?.getD default).body.getD .skip,fun d=>0,?_,?_,?_,?_,?_⟩,?_,?_⟩
 ·kernel_rfl
 ·kernel_rfl
 ·kernel_rfl
 ·kernel_rfl
 ·kernel_rfl
 ·rfl
 ·decide
theorem bMa:Fn Tryz.prog 105 30 [(2,(some (7,true))),(3,none)] e105:=by
 refine ⟨⟨Tryz.prog.funcs[105]?.getD default,(Tryz.prog.funcs[105]?.getD default).body.getD .skip,fun d=>0,?_,?_,?_,?_,?_⟩,?_,?_⟩
 ·kernel_rfl
 ·kernel_rfl
 ·kernel_rfl
 ·kernel_rfl
 ·kernel_rfl
 ·rfl
 ·decide
theorem bK0:Fn Tryz.prog 106 69 [(4,none)] e106:=by
 refine ⟨⟨Tryz.prog.funcs[106]?.getD default,(Tryz.prog.funcs[106]?.getD default).body.getD .skip,fun d=>0,?_,?_,?_,?_,?_⟩,?_,?_⟩
 ·kernel_rfl
 ·kernel_rfl
 ·kernel_rfl
 ·kernel_rfl
 ·kernel_rfl
 ·rfl
 ·decide
theorem bKg:Fn Tryz.prog 107 72 [(4,none)] e107:=by
 refine ⟨⟨Tryz.prog.funcs[107]?.getD default,(Tryz.prog.funcs[107]?.getD default).body.getD .skip,fun d=>0,?_,?_,?_,?_,?_⟩,?_,?_⟩
 ·kernel_rfl
 ·kernel_rfl
 ·kernel_rfl
 ·kernel_rfl
 ·kernel_rfl
 ·rfl
 ·decide
theorem bI7:Fn Tryz.prog 108 16 [(2,(some (6,true)))] e108:=by
 refine ⟨⟨Tryz.prog.funcs[108]?.getD default,(Tryz.prog.funcs[108]?.getD default).body.getD .skip,fun d=>0,?_,?_,?_,?_,?_⟩,?_,?_⟩
 ·kernel_rfl
 ·kernel_rfl
 ·kernel_rfl
 ·kernel_rfl
 ·kernel_rfl
 ·rfl
 ·decide
theorem bJ1:Fn Tryz.prog 109 32 [(2,none)] e109:=by
 refine ⟨⟨Tryz.prog.funcs[109]?.getD default,(Tryz.prog.funcs[109]?.getD default).body.getD .skip,fun d=>if d=6 then 1 else 0,?_,?_,?_,?_,?_⟩,?_,?_⟩
 ·kernel_rfl
 ·kernel_rfl
 ·kernel_rfl
 ·kernel_rfl
 ·kernel_rfl
 ·rfl
 ·decide
theorem bJn:Fn Tryz.prog 110 122 [(4,(some (3,true))),(5,none)] e110:=by
 refine ⟨⟨Tryz.prog.funcs[110]?.getD default,(Tryz.prog.funcs[110]?.getD default).body.getD .skip,fun d=>if d=36 then 8 else if d=42 then 8 else if d=70 then 8 else if d=105 then 8 else 0,?_,?_,?_,?_,?_⟩,?_,?_⟩
 ·kernel_rfl
 ·kernel_rfl
 ·kernel_rfl
 ·kernel_rfl
 ·kernel_rfl
 ·rfl
 ·decide
theorem bI8:Fn Tryz.prog 111 102 [(2,none)] e111:=by
 refine ⟨⟨Tryz.prog.funcs[111]?.getD default,(Tryz.prog.funcs[111]?.getD default).body.getD .skip,fun d=>0,?_,?_,?_,?_,?_⟩,?_,?_⟩
 ·kernel_rfl
 ·kernel_rfl
 ·kernel_rfl
 ·kernel_rfl
 ·kernel_rfl
 ·rfl
 ·decide
theorem bJ0:Fn Tryz.prog 112 28 [(6,none)] e112:=by
 refine ⟨⟨Tryz.prog.funcs[112]?.getD default,(Tryz.prog.funcs[112]?.getD default).body.getD .skip,fun d=>0,?_,?_,?_,?_,?_⟩,?_,?_⟩
 ·kernel_rfl
 ·kernel_rfl
 ·kernel_rfl
 ·kernel_rfl
 ·kernel_rfl
 ·rfl
 ·decide
theorem bLx:Fn Tryz.prog 113 37 [(2,none)] e113:=by
 refine ⟨⟨Tryz.prog.funcs[113]?.getD default,(Tryz.prog.funcs[113]?.getD default).body.getD .skip,fun d=>if d=5 then 1 else 0,?_,?_,?_,?_,?_⟩,?_,?_⟩
 ·kernel_rfl
 ·kernel_rfl
 ·kernel_rfl
 ·kernel_rfl
 ·kernel_rfl
 ·rfl
 ·decide
theorem bI1:Fn Tryz.prog 114 40 [(2,none),(3,none)] e114:=by
 refine ⟨⟨Tryz.prog.funcs[114]?.getD default,(Tryz.prog.funcs[114]?.getD default).body.getD .skip,fun d=>0,?_,?_,?_,?_,?_⟩,?_,?_⟩
 ·kernel_rfl
 ·kernel_rfl
 ·kernel_rfl
 ·kernel_rfl
 ·kernel_rfl
 ·rfl
 ·decide
theorem bLb:Fn Tryz.prog 117 50 [(4,none)] e117:=by
 refine ⟨⟨Tryz.prog.funcs[117]?.getD default,(Tryz.prog.funcs[117]?.getD default).body.getD .skip,fun d=>if d=1000161 then 4 else if d=1000162 then 4 else if d=1000163 then 4 else 0,?_,?_,?_,?_,?_⟩,?_,?_⟩
 ·kernel_rfl
 ·kernel_rfl
 ·kernel_rfl
 ·kernel_rfl
 ·kernel_rfl
 ·rfl
 ·decide
theorem bMu:Fn Tryz.prog 118 68 [(2,none)] e118:=by
 refine ⟨⟨Tryz.prog.funcs[118]?.getD default,(Tryz.prog.funcs[118]?.getD default).body.getD .skip,fun d=>0,?_,?_,?_,?_,?_⟩,?_,?_⟩
 ·kernel_rfl
 ·kernel_rfl
 ·kernel_rfl
 ·kernel_rfl
 ·kernel_rfl
 ·rfl
 ·decide
theorem bL3:Fn Tryz.prog 122 9 [(4,none)] e122:=by
 refine ⟨⟨Tryz.prog.funcs[122]?.getD default,(Tryz.prog.funcs[122]?.getD default).body.getD .skip,fun d=>0,?_,?_,?_,?_,?_⟩,?_,?_⟩
 ·kernel_rfl
 ·kernel_rfl
 ·kernel_rfl
 ·kernel_rfl
 ·kernel_rfl
 ·rfl
 ·decide
theorem bJe:Fn Tryz.prog 123 9 [(4,none)] e123:=by
 refine ⟨⟨Tryz.prog.funcs[123]?.getD default,(Tryz.prog.funcs[123]?.getD default).body.getD .skip,fun d=>0,?_,?_,?_,?_,?_⟩,?_,?_⟩
 ·kernel_rfl
 ·kernel_rfl
 ·kernel_rfl
 ·kernel_rfl
 ·kernel_rfl
 ·rfl
 ·decide
theorem bL6:Fn Tryz.prog 124 28 [(5,none)] e124:=by
 refine ⟨⟨Tryz.prog.funcs[124]?.getD default,(Tryz.prog.funcs[124]?.getD default).body.getD .skip,fun d=>if d=25 then 3 else 0,?_,?_,?_,?_,?_⟩,?_,?_⟩
 ·kernel_rfl
 ·kernel_rfl
 ·kernel_rfl
 ·kernel_rfl
 ·kernel_rfl
 ·rfl
 ·decide
theorem bKn:Fn Tryz.prog 125 11 [] e125:=by
 refine ⟨⟨Tryz.prog.funcs[125]?.getD default,(Tryz.prog.funcs[125]?.getD default).body.getD .skip,fun d=>if d=1000177 then 4 else 0,?_,?_,?_,?_,?_⟩,?_,?_⟩
 ·kernel_rfl
 ·kernel_rfl
 ·kernel_rfl
 ·kernel_rfl
 ·kernel_rfl
 ·rfl
 ·decide
theorem bLy:Fn Tryz.prog 126 34 [(2,none)] e126:=by
 refine ⟨⟨Tryz.prog.funcs[126]?.getD default,(Tryz.prog.funcs[126]?.getD default).body.getD .skip,fun d=>if d=9 then 1 else if d=1000180 then 4 else if d=1000179 then 4 else 0,?_,?_,?_,?_,?_⟩,?_,?_⟩
 ·kernel_rfl
 ·kernel_rfl
 ·kernel_rfl
 ·kernel_rfl
 ·kernel_rfl
 ·rfl
 ·decide
theorem bJy:Fn Tryz.prog 127 28 [(4,none)] e127:=by
 refine ⟨⟨Tryz.prog.funcs[127]?.getD default,(Tryz.prog.funcs[127]?.getD default).body.getD .skip,fun d=>0,?_,?_,?_,?_,?_⟩,?_,?_⟩
 ·kernel_rfl
 ·kernel_rfl
 ·kernel_rfl
 ·kernel_rfl
 ·kernel_rfl
 ·rfl
 ·decide
theorem bK5:Fn Tryz.prog 128 80 [(4,none)] e128:=by
 refine ⟨⟨Tryz.prog.funcs[128]?.getD default,(Tryz.prog.funcs[128]?.getD default).body.getD .skip,fun d=>0,?_,?_,?_,?_,?_⟩,?_,?_⟩
 ·kernel_rfl
 ·kernel_rfl
 ·kernel_rfl
 ·kernel_rfl
 ·kernel_rfl
 ·rfl
 ·decide
theorem bLh:Fn Tryz.prog 129 29 [(4,none)] e129:=by
 refine ⟨⟨Tryz.prog.funcs[129]?.getD default,(Tryz.prog.funcs[129]?.getD default).body.getD .skip,fun d=>0,?_,?_,?_,?_,?_⟩,?_,?_⟩
 ·kernel_rfl
 ·kernel_rfl
 ·kernel_rfl
 ·kernel_rfl
 ·kernel_rfl
 ·rfl
 ·decide
theorem bIo:Fn Tryz.prog 130 9 [(2,none)] e130:=by
 refine ⟨⟨Tryz.prog.funcs[130]?.getD default,(Tryz.prog.funcs[130]?.getD default).body.getD .skip,fun d=>0,?_,?_,?_,?_,?_⟩,?_,?_⟩
 ·kernel_rfl
 ·kernel_rfl
 ·kernel_rfl
 ·kernel_rfl
 ·kernel_rfl
 ·rfl
 ·decide
theorem bMv:Fn Tryz.prog 132 9 [(2,none)] e132:=by
 refine ⟨⟨Tryz.prog.funcs[132]?.getD default,(Tryz.prog.funcs[132]?.getD default).body.getD .skip,fun d=>0,?_,?_,?_,?_,?_⟩,?_,?_⟩
 ·kernel_rfl
 ·kernel_rfl
 ·kernel_rfl
 ·kernel_rfl
 ·kernel_rfl
 ·rfl
 ·decide
theorem bKl:Fn Tryz.prog 134 40 [(4,none)] e134:=by
 refine ⟨⟨Tryz.prog.funcs[134]?.getD default,(Tryz.prog.funcs[134]?.getD default).body.getD .skip,fun d=>0,?_,?_,?_,?_,?_⟩,?_,?_⟩
 ·kernel_rfl
 ·kernel_rfl
 ·kernel_rfl
 ·kernel_rfl
 ·kernel_rfl
 ·rfl
 ·decide
theorem bI4:Fn Tryz.prog 135 14 [(4,none)] e135:=by
 refine ⟨⟨Tryz.prog.funcs[135]?.getD default,(Tryz.prog.funcs[135]?.getD default).body.getD .skip,fun d=>0,?_,?_,?_,?_,?_⟩,?_,?_⟩
 ·kernel_rfl
 ·kernel_rfl
 ·kernel_rfl
 ·kernel_rfl
 ·kernel_rfl
 ·rfl
 ·decide
theorem bMi:Fn Tryz.prog 136 28 [(4,none)] e136:=by
 refine ⟨⟨Tryz.prog.funcs[136]?.getD default,(Tryz.prog.funcs[136]?.getD default).body.getD .skip,fun d=>0,?_,?_,?_,?_,?_⟩,?_,?_⟩
 ·kernel_rfl
 ·kernel_rfl
 ·kernel_rfl
 ·kernel_rfl
 ·kernel_rfl
 ·rfl
 ·decide
theorem bI3:Fn Tryz.prog 138 7 [(2,none)] e138:=by
 refine ⟨⟨Tryz.prog.funcs[138]?.getD default,(Tryz.prog.funcs[138]?.getD default).body.getD .skip,fun d=>0,?_,?_,?_,?_,?_⟩,?_,?_⟩
 ·kernel_rfl
 ·kernel_rfl
 ·kernel_rfl
 ·kernel_rfl
 ·kernel_rfl
 ·rfl
 ·decide
theorem bKc:Fn Tryz.prog 144 39 [(6,none)] e144:=by
 refine ⟨⟨Tryz.prog.funcs[144]?.getD default,(Tryz.prog.funcs[144]?.getD default).body.getD .skip,fun d=>0,?_,?_,?_,?_,?_⟩,?_,?_⟩
 ·kernel_rfl
 ·kernel_rfl
 ·kernel_rfl
 ·kernel_rfl
 ·kernel_rfl
 ·rfl
 ·decide
theorem bL5:Fn Tryz.prog 145 9 [(2,none)] e145:=by
 refine ⟨⟨Tryz.prog.funcs[145]?.getD default,(Tryz.prog.funcs[145]?.getD default).body.getD .skip,fun d=>0,?_,?_,?_,?_,?_⟩,?_,?_⟩
 ·kernel_rfl
 ·kernel_rfl
 ·kernel_rfl
 ·kernel_rfl
 ·kernel_rfl
 ·rfl
 ·decide
theorem bLn:Fn Tryz.prog 146 11 [(2,none),(3,none)] e146:=by
 refine ⟨⟨Tryz.prog.funcs[146]?.getD default,(Tryz.prog.funcs[146]?.getD default).body.getD .skip,fun d=>0,?_,?_,?_,?_,?_⟩,?_,?_⟩
 ·kernel_rfl
 ·kernel_rfl
 ·kernel_rfl
 ·kernel_rfl
 ·kernel_rfl
 ·rfl
 ·decide
theorem bLr:Fn Tryz.prog 147 51 [(2,none)] e147:=by
 refine ⟨⟨Tryz.prog.funcs[147]?.getD default,(Tryz.prog.funcs[147]?.getD default).body.getD .skip,fun d=>0,?_,?_,?_,?_,?_⟩,?_,?_⟩
 ·kernel_rfl
 ·kernel_rfl
 ·kernel_rfl
 ·kernel_rfl
 ·kernel_rfl
 ·rfl
 ·decide
theorem bJv:Fn Tryz.prog 148 42 [(2,none)] e148:=by
 refine ⟨⟨Tryz.prog.funcs[148]?.getD default,(Tryz.prog.funcs[148]?.getD default).body.getD .skip,fun d=>0,?_,?_,?_,?_,?_⟩,?_,?_⟩
 ·kernel_rfl
 ·kernel_rfl
 ·kernel_rfl
 ·kernel_rfl
 ·kernel_rfl
 ·rfl
 ·decide
theorem bMs:Fn Tryz.prog 149 19 [(2,none)] e149:=by
 refine ⟨⟨Tryz.prog.funcs[149]?.getD default,(Tryz.prog.funcs[149]?.getD default).body.getD .skip,fun d=>0,?_,?_,?_,?_,?_⟩,?_,?_⟩
 ·kernel_rfl
 ·kernel_rfl
 ·kernel_rfl
 ·kernel_rfl
 ·kernel_rfl
 ·rfl
 ·decide
theorem bMr:Fn Tryz.prog 150 30 [(2,(some (3,true))),(3,none)] e150:=by
 refine ⟨⟨Tryz.prog.funcs[150]?.getD default,(Tryz.prog.funcs[150]?.getD default).body.getD .skip,fun d=>0,?_,?_,?_,?_,?_⟩,?_,?_⟩
 ·kernel_rfl
 ·kernel_rfl
 ·kernel_rfl
 ·kernel_rfl
 ·kernel_rfl
 ·rfl
 ·decide
theorem bJo:Fn Tryz.prog 151 30 [(4,none)] e151:=by
 refine ⟨⟨Tryz.prog.funcs[151]?.getD default,(Tryz.prog.funcs[151]?.getD default).body.getD .skip,fun d=>0,?_,?_,?_,?_,?_⟩,?_,?_⟩
 ·kernel_rfl
 ·kernel_rfl
 ·kernel_rfl
 ·kernel_rfl
 ·kernel_rfl
 ·rfl
 ·decide
theorem bK6:Fn Tryz.prog 152 34 [(2,(some (2,true))),(3,none),(4,none)] e152:=by
 refine ⟨⟨Tryz.prog.funcs[152]?.getD default,(Tryz.prog.funcs[152]?.getD default).body.getD .skip,fun d=>0,?_,?_,?_,?_,?_⟩,?_,?_⟩
 ·kernel_rfl
 ·kernel_rfl
 ·kernel_rfl
 ·kernel_rfl
 ·kernel_rfl
 ·rfl
 ·decide
theorem bIu:Fn Tryz.prog 153 58 [(4,none)] e153:=by
 refine ⟨⟨Tryz.prog.funcs[153]?.getD default,(Tryz.prog.funcs[153]?.getD default).body.getD .skip,fun d=>0,?_,?_,?_,?_,?_⟩,?_,?_⟩
 ·kernel_rfl
 ·kernel_rfl
 ·kernel_rfl
 ·kernel_rfl
 ·kernel_rfl
 ·rfl
 ·decide
theorem bLz:Fn Tryz.prog 154 21 [(4,none)] e154:=by
 refine ⟨⟨Tryz.prog.funcs[154]?.getD default,(Tryz.prog.funcs[154]?.getD default).body.getD .skip,fun d=>0,?_,?_,?_,?_,?_⟩,?_,?_⟩
 ·kernel_rfl
 ·kernel_rfl
 ·kernel_rfl
 ·kernel_rfl
 ·kernel_rfl
 ·rfl
 ·decide
theorem bJa:Fn Tryz.prog 155 34 [(2,none)] e155:=by
 refine ⟨⟨Tryz.prog.funcs[155]?.getD default,(Tryz.prog.funcs[155]?.getD default).body.getD .skip,fun d=>0,?_,?_,?_,?_,?_⟩,?_,?_⟩
 ·kernel_rfl
 ·kernel_rfl
 ·kernel_rfl
 ·kernel_rfl
 ·kernel_rfl
 ·rfl
 ·decide
theorem bMq:Fn Tryz.prog 156 20 [(2,none)] e156:=by
 refine ⟨⟨Tryz.prog.funcs[156]?.getD default,(Tryz.prog.funcs[156]?.getD default).body.getD .skip,fun d=>0,?_,?_,?_,?_,?_⟩,?_,?_⟩
 ·kernel_rfl
 ·kernel_rfl
 ·kernel_rfl
 ·kernel_rfl
 ·kernel_rfl
 ·rfl
 ·decide
theorem bLs:Fn Tryz.prog 160 19 [(2,none),(3,none)] e160:=by
 refine ⟨⟨Tryz.prog.funcs[160]?.getD default,(Tryz.prog.funcs[160]?.getD default).body.getD .skip,fun d=>0,?_,?_,?_,?_,?_⟩,?_,?_⟩
 ·kernel_rfl
 ·kernel_rfl
 ·kernel_rfl
 ·kernel_rfl
 ·kernel_rfl
 ·rfl
 ·decide
theorem bJt:Fn Tryz.prog 161 28 [(4,none)] e161:=by
 refine ⟨⟨Tryz.prog.funcs[161]?.getD default,(Tryz.prog.funcs[161]?.getD default).body.getD .skip,fun d=>0,?_,?_,?_,?_,?_⟩,?_,?_⟩
 ·kernel_rfl
 ·kernel_rfl
 ·kernel_rfl
 ·kernel_rfl
 ·kernel_rfl
 ·rfl
 ·decide
theorem bIj:Fn Tryz.prog 162 67 [(6,none)] e162:=by
 refine ⟨⟨Tryz.prog.funcs[162]?.getD default,(Tryz.prog.funcs[162]?.getD default).body.getD .skip,fun d=>0,?_,?_,?_,?_,?_⟩,?_,?_⟩
 ·kernel_rfl
 ·kernel_rfl
 ·kernel_rfl
 ·kernel_rfl
 ·kernel_rfl
 ·rfl
 ·decide
theorem bJ7:Fn Tryz.prog 163 55 [(6,none)] e163:=by
 refine ⟨⟨Tryz.prog.funcs[163]?.getD default,(Tryz.prog.funcs[163]?.getD default).body.getD .skip,fun d=>0,?_,?_,?_,?_,?_⟩,?_,?_⟩
 ·kernel_rfl
 ·kernel_rfl
 ·kernel_rfl
 ·kernel_rfl
 ·kernel_rfl
 ·rfl
 ·decide
theorem bJh:Fn Tryz.prog 164 57 [(4,none)] e164:=by
 refine ⟨⟨Tryz.prog.funcs[164]?.getD default,(Tryz.prog.funcs[164]?.getD default).body.getD .skip,fun d=>if d=28 then 3 else 0,?_,?_,?_,?_,?_⟩,?_,?_⟩
 ·kernel_rfl
 ·kernel_rfl
 ·kernel_rfl
 ·kernel_rfl
 ·kernel_rfl
 ·rfl
 ·decide
theorem bKd:Fn Tryz.prog 165 52 [(4,none)] e165:=by
 refine ⟨⟨Tryz.prog.funcs[165]?.getD default,(Tryz.prog.funcs[165]?.getD default).body.getD .skip,fun d=>0,?_,?_,?_,?_,?_⟩,?_,?_⟩
 ·kernel_rfl
 ·kernel_rfl
 ·kernel_rfl
 ·kernel_rfl
 ·kernel_rfl
 ·rfl
 ·decide
theorem bJp:Fn Tryz.prog 166 33 [(4,none)] e166:=by
 refine ⟨⟨Tryz.prog.funcs[166]?.getD default,(Tryz.prog.funcs[166]?.getD default).body.getD .skip,fun d=>0,?_,?_,?_,?_,?_⟩,?_,?_⟩
 ·kernel_rfl
 ·kernel_rfl
 ·kernel_rfl
 ·kernel_rfl
 ·kernel_rfl
 ·rfl
 ·decide
theorem bKi:Fn Tryz.prog 175 19 [(4,none)] e175:=by
 refine ⟨⟨Tryz.prog.funcs[175]?.getD default,(Tryz.prog.funcs[175]?.getD default).body.getD .skip,fun d=>0,?_,?_,?_,?_,?_⟩,?_,?_⟩
 ·kernel_rfl
 ·kernel_rfl
 ·kernel_rfl
 ·kernel_rfl
 ·kernel_rfl
 ·rfl
 ·decide
theorem bMl:Fn Tryz.prog 176 19 [(4,none)] e176:=by
 refine ⟨⟨Tryz.prog.funcs[176]?.getD default,(Tryz.prog.funcs[176]?.getD default).body.getD .skip,fun d=>0,?_,?_,?_,?_,?_⟩,?_,?_⟩
 ·kernel_rfl
 ·kernel_rfl
 ·kernel_rfl
 ·kernel_rfl
 ·kernel_rfl
 ·rfl
 ·decide
theorem bKr:Fn Tryz.prog 177 134 [] e177:=by
 refine ⟨⟨Tryz.prog.funcs[177]?.getD default,(Tryz.prog.funcs[177]?.getD default).body.getD .skip,fun d=>if d=1000177 then 4 else if d=1000218 then 4 else 0,?_,?_,?_,?_,?_⟩,?_,?_⟩
 ·kernel_rfl
 ·kernel_rfl
 ·kernel_rfl
 ·kernel_rfl
 ·kernel_rfl
 ·rfl
 ·decide
theorem bMt:Fn Tryz.prog 178 8 [(2,none)] e178:=by
 refine ⟨⟨Tryz.prog.funcs[178]?.getD default,(Tryz.prog.funcs[178]?.getD default).body.getD .skip,fun d=>0,?_,?_,?_,?_,?_⟩,?_,?_⟩
 ·kernel_rfl
 ·kernel_rfl
 ·kernel_rfl
 ·kernel_rfl
 ·kernel_rfl
 ·rfl
 ·decide
theorem bLf:Fn Tryz.prog 179 31 [(2,none)] e179:=by
 refine ⟨⟨Tryz.prog.funcs[179]?.getD default,(Tryz.prog.funcs[179]?.getD default).body.getD .skip,fun d=>0,?_,?_,?_,?_,?_⟩,?_,?_⟩
 ·kernel_rfl
 ·kernel_rfl
 ·kernel_rfl
 ·kernel_rfl
 ·kernel_rfl
 ·rfl
 ·decide
theorem bKe:Fn Tryz.prog 180 28 [] e180:=by
 refine ⟨⟨Tryz.prog.funcs[180]?.getD default,(Tryz.prog.funcs[180]?.getD default).body.getD .skip,fun d=>0,?_,?_,?_,?_,?_⟩,?_,?_⟩
 ·kernel_rfl
 ·kernel_rfl
 ·kernel_rfl
 ·kernel_rfl
 ·kernel_rfl
 ·rfl
 ·decide
theorem bLi:Fn Tryz.prog 181 18 [(2,none)] e181:=by
 refine ⟨⟨Tryz.prog.funcs[181]?.getD default,(Tryz.prog.funcs[181]?.getD default).body.getD .skip,fun d=>0,?_,?_,?_,?_,?_⟩,?_,?_⟩
 ·kernel_rfl
 ·kernel_rfl
 ·kernel_rfl
 ·kernel_rfl
 ·kernel_rfl
 ·rfl
 ·decide
theorem bLv:Fn Tryz.prog 190 107 [(2,(some (2,true))),(3,none)] e190:=by
 refine ⟨⟨Tryz.prog.funcs[190]?.getD default,(Tryz.prog.funcs[190]?.getD default).body.getD .skip,fun d=>0,?_,?_,?_,?_,?_⟩,?_,?_⟩
 ·kernel_rfl
 ·kernel_rfl
 ·kernel_rfl
 ·kernel_rfl
 ·kernel_rfl
 ·rfl
 ·decide
theorem bLu:Fn Tryz.prog 191 20 [(2,none)] e191:=by
 refine ⟨⟨Tryz.prog.funcs[191]?.getD default,(Tryz.prog.funcs[191]?.getD default).body.getD .skip,fun d=>0,?_,?_,?_,?_,?_⟩,?_,?_⟩
 ·kernel_rfl
 ·kernel_rfl
 ·kernel_rfl
 ·kernel_rfl
 ·kernel_rfl
 ·rfl
 ·decide
theorem bJq:Fn Tryz.prog 192 9 [(2,none)] e192:=by
 refine ⟨⟨Tryz.prog.funcs[192]?.getD default,(Tryz.prog.funcs[192]?.getD default).body.getD .skip,fun d=>0,?_,?_,?_,?_,?_⟩,?_,?_⟩
 ·kernel_rfl
 ·kernel_rfl
 ·kernel_rfl
 ·kernel_rfl
 ·kernel_rfl
 ·rfl
 ·decide
theorem bJ9:Fn Tryz.prog 198 2 [(0,none)] e198:=by
 refine ⟨⟨Tryz.prog.funcs[198]?.getD default,(Tryz.prog.funcs[198]?.getD default).body.getD .skip,fun d=>0,?_,?_,?_,?_,?_⟩,?_,?_⟩
 ·kernel_rfl
 ·kernel_rfl
 ·kernel_rfl
 ·kernel_rfl
 ·kernel_rfl
 ·rfl
 ·decide
theorem bJu:Fn Tryz.prog 200 61 [(2,(some (2,true))),(3,none)] e200:=by
 refine ⟨⟨Tryz.prog.funcs[200]?.getD default,(Tryz.prog.funcs[200]?.getD default).body.getD .skip,fun d=>0,?_,?_,?_,?_,?_⟩,?_,?_⟩
 ·kernel_rfl
 ·kernel_rfl
 ·kernel_rfl
 ·kernel_rfl
 ·kernel_rfl
 ·rfl
 ·decide
theorem bK4:Fn Tryz.prog 201 9 [(2,none)] e201:=by
 refine ⟨⟨Tryz.prog.funcs[201]?.getD default,(Tryz.prog.funcs[201]?.getD default).body.getD .skip,fun d=>0,?_,?_,?_,?_,?_⟩,?_,?_⟩
 ·kernel_rfl
 ·kernel_rfl
 ·kernel_rfl
 ·kernel_rfl
 ·kernel_rfl
 ·rfl
 ·decide
theorem bLm:Fn Tryz.prog 202 9 [(4,none)] e202:=by
 refine ⟨⟨Tryz.prog.funcs[202]?.getD default,(Tryz.prog.funcs[202]?.getD default).body.getD .skip,fun d=>0,?_,?_,?_,?_,?_⟩,?_,?_⟩
 ·kernel_rfl
 ·kernel_rfl
 ·kernel_rfl
 ·kernel_rfl
 ·kernel_rfl
 ·rfl
 ·decide
theorem bL7:Fn Tryz.prog 204 11 [(4,none),(5,none)] e204:=by
 refine ⟨⟨Tryz.prog.funcs[204]?.getD default,(Tryz.prog.funcs[204]?.getD default).body.getD .skip,fun d=>0,?_,?_,?_,?_,?_⟩,?_,?_⟩
 ·kernel_rfl
 ·kernel_rfl
 ·kernel_rfl
 ·kernel_rfl
 ·kernel_rfl
 ·rfl
 ·decide
theorem bLc:Fn Tryz.prog 205 13 [(4,none)] e205:=by
 refine ⟨⟨Tryz.prog.funcs[205]?.getD default,(Tryz.prog.funcs[205]?.getD default).body.getD .skip,fun d=>if d=11 then 3 else 0,?_,?_,?_,?_,?_⟩,?_,?_⟩
 ·kernel_rfl
 ·kernel_rfl
 ·kernel_rfl
 ·kernel_rfl
 ·kernel_rfl
 ·rfl
 ·decide
theorem bLp:Fn Tryz.prog 218 49 [] e218:=by
 refine ⟨⟨Tryz.prog.funcs[218]?.getD default,(Tryz.prog.funcs[218]?.getD default).body.getD .skip,fun d=>0,?_,?_,?_,?_,?_⟩,?_,?_⟩
 ·kernel_rfl
 ·kernel_rfl
 ·kernel_rfl
 ·kernel_rfl
 ·kernel_rfl
 ·rfl
 ·decide
theorem bIp:Fn Tryz.prog 224 17 [(4,none)] e224:=by
 refine ⟨⟨Tryz.prog.funcs[224]?.getD default,(Tryz.prog.funcs[224]?.getD default).body.getD .skip,fun d=>0,?_,?_,?_,?_,?_⟩,?_,?_⟩
 ·kernel_rfl
 ·kernel_rfl
 ·kernel_rfl
 ·kernel_rfl
 ·kernel_rfl
 ·rfl
 ·decide
theorem bMj:Fn Tryz.prog 228 25 [(2,none)] e228:=by
 refine ⟨⟨Tryz.prog.funcs[228]?.getD default,(Tryz.prog.funcs[228]?.getD default).body.getD .skip,fun d=>0,?_,?_,?_,?_,?_⟩,?_,?_⟩
 ·kernel_rfl
 ·kernel_rfl
 ·kernel_rfl
 ·kernel_rfl
 ·kernel_rfl
 ·rfl
 ·decide
theorem bKh:Fn Tryz.prog 237 53 [(2,none)] e237:=by
 refine ⟨⟨Tryz.prog.funcs[237]?.getD default,(Tryz.prog.funcs[237]?.getD default).body.getD .skip,fun d=>0,?_,?_,?_,?_,?_⟩,?_,?_⟩
 ·kernel_rfl
 ·kernel_rfl
 ·kernel_rfl
 ·kernel_rfl
 ·kernel_rfl
 ·rfl
 ·decide
theorem bKx:Fn Tryz.prog 239 28 [(2,none)] e239:=by
 refine ⟨⟨Tryz.prog.funcs[239]?.getD default,(Tryz.prog.funcs[239]?.getD default).body.getD .skip,fun d=>0,?_,?_,?_,?_,?_⟩,?_,?_⟩
 ·kernel_rfl
 ·kernel_rfl
 ·kernel_rfl
 ·kernel_rfl
 ·kernel_rfl
 ·rfl
 ·decide
theorem bLa:Fn Tryz.prog 250 41 [(2,none)] e250:=by
 refine ⟨⟨Tryz.prog.funcs[250]?.getD default,(Tryz.prog.funcs[250]?.getD default).body.getD .skip,fun d=>0,?_,?_,?_,?_,?_⟩,?_,?_⟩
 ·kernel_rfl
 ·kernel_rfl
 ·kernel_rfl
 ·kernel_rfl
 ·kernel_rfl
 ·rfl
 ·decide
theorem bMd:Fn Tryz.prog 252 8 [(4,none)] e252:=by
 refine ⟨⟨Tryz.prog.funcs[252]?.getD default,(Tryz.prog.funcs[252]?.getD default).body.getD .skip,fun d=>0,?_,?_,?_,?_,?_⟩,?_,?_⟩
 ·kernel_rfl
 ·kernel_rfl
 ·kernel_rfl
 ·kernel_rfl
 ·kernel_rfl
 ·rfl
 ·decide
theorem bIx:Fn Tryz.prog 254 38 [(2,none)] e254:=by
 refine ⟨⟨Tryz.prog.funcs[254]?.getD default,(Tryz.prog.funcs[254]?.getD default).body.getD .skip,fun d=>0,?_,?_,?_,?_,?_⟩,?_,?_⟩
 ·kernel_rfl
 ·kernel_rfl
 ·kernel_rfl
 ·kernel_rfl
 ·kernel_rfl
 ·rfl
 ·decide
theorem bKs:Fn Tryz.prog 255 19 [(4,none)] e255:=by
 refine ⟨⟨Tryz.prog.funcs[255]?.getD default,(Tryz.prog.funcs[255]?.getD default).body.getD .skip,fun d=>0,?_,?_,?_,?_,?_⟩,?_,?_⟩
 ·kernel_rfl
 ·kernel_rfl
 ·kernel_rfl
 ·kernel_rfl
 ·kernel_rfl
 ·rfl
 ·decide
theorem bI6:Fn Tryz.prog 256 15 [(4,none),(5,none)] e256:=by
 refine ⟨⟨Tryz.prog.funcs[256]?.getD default,(Tryz.prog.funcs[256]?.getD default).body.getD .skip,fun d=>0,?_,?_,?_,?_,?_⟩,?_,?_⟩
 ·kernel_rfl
 ·kernel_rfl
 ·kernel_rfl
 ·kernel_rfl
 ·kernel_rfl
 ·rfl
 ·decide
theorem bK3:Fn Tryz.prog 257 8 [(3,none)] e257:=by
 refine ⟨⟨Tryz.prog.funcs[257]?.getD default,(Tryz.prog.funcs[257]?.getD default).body.getD .skip,fun d=>0,?_,?_,?_,?_,?_⟩,?_,?_⟩
 ·kernel_rfl
 ·kernel_rfl
 ·kernel_rfl
 ·kernel_rfl
 ·kernel_rfl
 ·rfl
 ·decide
theorem bIs:Fn Tryz.prog 268 6 [(2,none)] e268:=by
 refine ⟨⟨Tryz.prog.funcs[268]?.getD default,(Tryz.prog.funcs[268]?.getD default).body.getD .skip,fun d=>0,?_,?_,?_,?_,?_⟩,?_,?_⟩
 ·kernel_rfl
 ·kernel_rfl
 ·kernel_rfl
 ·kernel_rfl
 ·kernel_rfl
 ·rfl
 ·decide
theorem bJ3:Fn Tryz.prog 278 18 [(4,none)] e278:=by
 refine ⟨⟨Tryz.prog.funcs[278]?.getD default,(Tryz.prog.funcs[278]?.getD default).body.getD .skip,fun d=>0,?_,?_,?_,?_,?_⟩,?_,?_⟩
 ·kernel_rfl
 ·kernel_rfl
 ·kernel_rfl
 ·kernel_rfl
 ·kernel_rfl
 ·rfl
 ·decide
theorem bCu:∀ x,x∈tabL→Fn Tryz.prog x.1 x.2.n x.2.rs x.2.c:=List.forall_mem_cons.2 ⟨fe4,List.forall_mem_cons.2 ⟨fe9,List.forall_mem_cons.2 ⟨fe11,List.forall_mem_cons.2 ⟨fe12,List.forall_mem_cons.2 ⟨fe14,List.forall_mem_cons.2 ⟨fe17,List.forall_mem_cons.2 ⟨fe18,List.forall_mem_cons.2 ⟨fe19,List.forall_mem_cons.2 ⟨fe20,List.forall_mem_cons.2 ⟨fe21,List.forall_mem_cons.2 ⟨fe22,List.forall_mem_cons.2 ⟨fe23,List.forall_mem_cons.2 ⟨fe31,List.forall_mem_cons.2 ⟨fe33,List.forall_mem_cons.2 ⟨fe36,List.forall_mem_cons.2 ⟨fe37,List.forall_mem_cons.2 ⟨fe40,List.forall_mem_cons.2 ⟨fe41,List.forall_mem_cons.2 ⟨fe42,List.forall_mem_cons.2 ⟨fe43,List.forall_mem_cons.2 ⟨fe45,List.forall_mem_cons.2 ⟨fe46,List.forall_mem_cons.2 ⟨fe47,List.forall_mem_cons.2 ⟨fe48,List.forall_mem_cons.2 ⟨fe49,List.forall_mem_cons.2 ⟨fe50,List.forall_mem_cons.2 ⟨fe51,List.forall_mem_cons.2 ⟨fe52,List.forall_mem_cons.2 ⟨fe53,List.forall_mem_cons.2 ⟨fe54,List.forall_mem_cons.2 ⟨fe55,List.forall_mem_cons.2 ⟨fe56,List.forall_mem_cons.2 ⟨fe59,List.forall_mem_cons.2 ⟨fe60,List.forall_mem_cons.2 ⟨fe64,List.forall_mem_cons.2 ⟨fe72,List.forall_mem_cons.2 ⟨fe73,List.forall_mem_cons.2 ⟨fe81,List.forall_mem_cons.2 ⟨fe82,List.forall_mem_cons.2 ⟨fe83,List.forall_mem_cons.2 ⟨fe84,List.forall_mem_cons.2 ⟨fe85,List.forall_mem_cons.2 ⟨fe86,List.forall_mem_cons.2 ⟨fe87,List.forall_mem_cons.2 ⟨fe88,List.forall_mem_cons.2 ⟨fe89,List.forall_mem_cons.2 ⟨fe90,List.forall_mem_cons.2 ⟨fe93,List.forall_mem_cons.2 ⟨fe98,List.forall_mem_cons.2 ⟨fe99,List.forall_mem_cons.2 ⟨bL4,List.forall_mem_cons.2 ⟨bJ8,List.forall_mem_cons.2 ⟨bLt,List.forall_mem_cons.2 ⟨bMa,List.forall_mem_cons.2 ⟨bK0,List.forall_mem_cons.2 ⟨bKg,List.forall_mem_cons.2 ⟨bI7,List.forall_mem_cons.2 ⟨bJ1,List.forall_mem_cons.2 ⟨bJn,List.forall_mem_cons.2 ⟨bI8,List.forall_mem_cons.2 ⟨bJ0,List.forall_mem_cons.2 ⟨bLx,List.forall_mem_cons.2 ⟨bI1,List.forall_mem_cons.2 ⟨bLb,List.forall_mem_cons.2 ⟨bMu,List.forall_mem_cons.2 ⟨bL3,List.forall_mem_cons.2 ⟨bJe,List.forall_mem_cons.2 ⟨bL6,List.forall_mem_cons.2 ⟨bKn,List.forall_mem_cons.2 ⟨bLy,List.forall_mem_cons.2 ⟨bJy,List.forall_mem_cons.2 ⟨bK5,List.forall_mem_cons.2 ⟨bLh,List.forall_mem_cons.2 ⟨bIo,List.forall_mem_cons.2 ⟨bMv,List.forall_mem_cons.2 ⟨bKl,List.forall_mem_cons.2 ⟨bI4,List.forall_mem_cons.2 ⟨bMi,List.forall_mem_cons.2 ⟨bI3,List.forall_mem_cons.2 ⟨bKc,List.forall_mem_cons.2 ⟨bL5,List.forall_mem_cons.2 ⟨bLn,List.forall_mem_cons.2 ⟨bLr,List.forall_mem_cons.2 ⟨bJv,List.forall_mem_cons.2 ⟨bMs,List.forall_mem_cons.2 ⟨bMr,List.forall_mem_cons.2 ⟨bJo,List.forall_mem_cons.2 ⟨bK6,List.forall_mem_cons.2 ⟨bIu,List.forall_mem_cons.2 ⟨bLz,List.forall_mem_cons.2 ⟨bJa,List.forall_mem_cons.2 ⟨bMq,List.forall_mem_cons.2 ⟨bLs,List.forall_mem_cons.2 ⟨bJt,List.forall_mem_cons.2 ⟨bIj,List.forall_mem_cons.2 ⟨bJ7,List.forall_mem_cons.2 ⟨bJh,List.forall_mem_cons.2 ⟨bKd,List.forall_mem_cons.2 ⟨bJp,List.forall_mem_cons.2 ⟨bKi,List.forall_mem_cons.2 ⟨bMl,List.forall_mem_cons.2 ⟨bKr,List.forall_mem_cons.2 ⟨bMt,List.forall_mem_cons.2 ⟨bLf,List.forall_mem_cons.2 ⟨bKe,List.forall_mem_cons.2 ⟨bLi,List.forall_mem_cons.2 ⟨bLv,List.forall_mem_cons.2 ⟨bLu,List.forall_mem_cons.2 ⟨bJq,List.forall_mem_cons.2 ⟨bJ9,List.forall_mem_cons.2 ⟨bJu,List.forall_mem_cons.2 ⟨bK4,List.forall_mem_cons.2 ⟨bLm,List.forall_mem_cons.2 ⟨bL7,List.forall_mem_cons.2 ⟨bLc,List.forall_mem_cons.2 ⟨bLp,List.forall_mem_cons.2 ⟨bIp,List.forall_mem_cons.2 ⟨bMj,List.forall_mem_cons.2 ⟨bKh,List.forall_mem_cons.2 ⟨bKx,List.forall_mem_cons.2 ⟨bLa,List.forall_mem_cons.2 ⟨bMd,List.forall_mem_cons.2 ⟨bIx,List.forall_mem_cons.2 ⟨bKs,List.forall_mem_cons.2 ⟨bI6,List.forall_mem_cons.2 ⟨bK3,List.forall_mem_cons.2 ⟨bIs,List.forall_mem_cons.2 ⟨bJ3,List.forall_mem_nil _⟩⟩⟩⟩⟩⟩⟩⟩⟩⟩⟩⟩⟩⟩⟩⟩⟩⟩⟩⟩⟩⟩⟩⟩⟩⟩⟩⟩⟩⟩⟩⟩⟩⟩⟩⟩⟩⟩⟩⟩⟩⟩⟩⟩⟩⟩⟩⟩⟩⟩⟩⟩⟩⟩⟩⟩⟩⟩⟩⟩⟩⟩⟩⟩⟩⟩⟩⟩⟩⟩⟩⟩⟩⟩⟩⟩⟩⟩⟩⟩⟩⟩⟩⟩⟩⟩⟩⟩⟩⟩⟩⟩⟩⟩⟩⟩⟩⟩⟩⟩⟩⟩⟩⟩⟩⟩⟩⟩⟩⟩⟩⟩⟩⟩⟩⟩⟩⟩⟩⟩⟩⟩⟩⟩⟩⟩⟩⟩
end Go.Ab
