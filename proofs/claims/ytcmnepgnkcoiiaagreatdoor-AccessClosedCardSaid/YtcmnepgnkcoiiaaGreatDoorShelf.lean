/- Contracts of the library at this program: laid by the shelf's tools. No condition. -/
import Derived.Shelf.Strings.Trim
import Derived.Shelf.Small.Strs
import Derived.Shelf.Strings.Search3
import Derived.Shelf.Strings.Cut
import Derived.Shelf.LaysM
import Derived.Shelf.Strings.Shaped
import Derived.Shelf.Sort.Plain
import Derived.Shelf.Strings.Prefix
import Derived.Shelf.Strings.Split
import Derived.Shelf.Strings.Repeat
import Derived.Test.YtcmnepgnkcoiiaaGreatDoorProg
namespace Go.Proofs
open Go.Shelf
def Tryz.lays137_ren:Go.Shelf.Ren:=⟨fun | 137=>91 | 217=>123 | 266=>139 | n=>n,fun | 9=>9 | 5=>5 | 3=>3 | n=>n,fun | n=>n⟩
theorem Tryz.lays137:Go.Proofs.Lays.n137 Tryz.prog Tryz.lays137_ren:={
 mixed:=by kernel_rfl
 f137:=Tryz.func91.trans (congrArg some (by kernel_rfl))
 f217:=Tryz.func123.trans (congrArg some (by kernel_rfl))
 f266:=Tryz.func139.trans (congrArg some (by kernel_rfl))
 t3:=Tryz.underlying3
 a3:=Tryz.isAgg3
 z3:=Tryz.sizeOf3
 v3:=Tryz.zeroValue3
 t5:=Tryz.underlying5
 a5:=Tryz.isAgg5
 z5:=Tryz.sizeOf5
 v5:=Tryz.zeroValue5
 t9:=Tryz.underlying9
 a9:=Tryz.isAgg9
 z9:=Tryz.sizeOf9
 v9:=Tryz.zeroValue9 }
open Go.RowKit in
theorem Tryz.strings_IndexByte (s:ByteArray) (c:Int) (w:World) :
 Calls Tryz.prog 91 #[.string s,.int .u8 c] w fun e w'=>e=.returned (.int .i64 (Lib.indexByte s.data.toList c.toNat.toUInt8))∧w'=w:=Any.strings_IndexByte Tryz.lays137 s c w
def Tryz.lays145_ren:Go.Shelf.Ren:=⟨fun | 145=>93 | 220=>127 | 219=>143 | 217=>123 | 225=>157 | 224=>158 | 267=>159 | 266=>139 | 314=>169 | n=>n,fun | 9=>9 | 4=>4 | 59=>143 | 3=>3 | 5=>5 | 46=>102 | 146=>208 | 51=>138 | n=>n,fun | 1=>0 | n=>n⟩
theorem Tryz.lays145:Go.Proofs.Lays.n145 Tryz.prog Tryz.lays145_ren:={
 mixed:=by kernel_rfl
 f145:=Tryz.func93.trans (congrArg some (by kernel_rfl))
 f217:=Tryz.func123.trans (congrArg some (by kernel_rfl))
 f219:=Tryz.func143.trans (congrArg some (by kernel_rfl))
 f220:=Tryz.func127.trans (congrArg some (by kernel_rfl))
 f224:=Tryz.func158.trans (congrArg some (by kernel_rfl))
 f225:=Tryz.func157.trans (congrArg some (by kernel_rfl))
 f266:=Tryz.func139.trans (congrArg some (by kernel_rfl))
 f267:=Tryz.func159.trans (congrArg some (by kernel_rfl))
 f314:=Tryz.func169.trans (congrArg some (by kernel_rfl))
 t3:=Tryz.underlying3
 a3:=Tryz.isAgg3
 z3:=Tryz.sizeOf3
 v3:=Tryz.zeroValue3
 t4:=Tryz.underlying4
 a4:=Tryz.isAgg4
 z4:=Tryz.sizeOf4
 v4:=Tryz.zeroValue4
 t5:=Tryz.underlying5
 a5:=Tryz.isAgg5
 z5:=Tryz.sizeOf5
 v5:=Tryz.zeroValue5
 t9:=Tryz.underlying9
 a9:=Tryz.isAgg9
 z9:=Tryz.sizeOf9
 v9:=Tryz.zeroValue9
 t46:=Tryz.underlying102
 a46:=Tryz.isAgg102
 z46:=Tryz.sizeOf102
 v46:=Tryz.zeroValue102
 t51:=Tryz.underlying138
 a51:=Tryz.isAgg138
 z51:=Tryz.sizeOf138
 v51:=Tryz.zeroValue138
 t59:=Tryz.underlying143
 a59:=Tryz.isAgg143
 z59:=Tryz.sizeOf143
 v59:=Tryz.zeroValue143
 t146:=Tryz.underlying208
 a146:=Tryz.isAgg208
 z146:=Tryz.sizeOf208
 v146:=Tryz.zeroValue208
 g1:=by kernel_rfl }
open Go.RowKit Go.Lib in
theorem Tryz.strings_Cut (s sep:ByteArray) (m:Int) (w:World) (hs:s.size<4294967281) (hm:w.cell? ⟨0,0,none⟩=some (.int .i64 m)) :
 Calls Tryz.prog 93 #[.string s,.string sep] w fun e w'=>e=.returned (.tuple #[.string ⟨(Lib.cut s.data.toList sep.data.toList).1.toArray⟩,.string ⟨(Lib.cut s.data.toList sep.data.toList).2.1.toArray⟩,.bool (Lib.cut s.data.toList sep.data.toList).2.2])∧∃ n,w'=w.drewN n:=Any.strings_Cut Tryz.lays145 s sep m w hs hm
def Tryz.laysM143_ren:Go.Shelf.Ren:=⟨fun | 143=>126 | 219=>143 | 217=>123 | 225=>157 | 224=>158 | 267=>159 | 266=>139 | 314=>169 | n=>n,fun | 9=>9 | 3=>3 | 4=>4 | 5=>5 | 46=>102 | 146=>208 | 51=>138 | n=>n,fun | 1=>0 | n=>n⟩
theorem Tryz.laysM143:Go.Proofs.LaysM.n143 Tryz.prog Tryz.laysM143_ren:={
 mixed:=by kernel_rfl
 f143:=Tryz.func126.trans (congrArg some (by kernel_rfl))
 f217:=Tryz.func123.trans (congrArg some (by kernel_rfl))
 f219:=Tryz.func143.trans (congrArg some (by kernel_rfl))
 f224:=Tryz.func158.trans (congrArg some (by kernel_rfl))
 f225:=Tryz.func157.trans (congrArg some (by kernel_rfl))
 f266:=Tryz.func139.trans (congrArg some (by kernel_rfl))
 f267:=Tryz.func159.trans (congrArg some (by kernel_rfl))
 f314:=Tryz.func169.trans (congrArg some (by kernel_rfl))
 t3:=Tryz.underlying3
 a3:=Tryz.isAgg3
 z3:=Tryz.sizeOf3
 v3:=Tryz.zeroValue3
 t4:=Tryz.underlying4
 a4:=Tryz.isAgg4
 z4:=Tryz.sizeOf4
 v4:=Tryz.zeroValue4
 t5:=Tryz.underlying5
 a5:=Tryz.isAgg5
 z5:=Tryz.sizeOf5
 v5:=Tryz.zeroValue5
 t9:=Tryz.underlying9
 a9:=Tryz.isAgg9
 z9:=Tryz.sizeOf9
 v9:=Tryz.zeroValue9
 t46:=Tryz.underlying102
 a46:=Tryz.isAgg102
 z46:=Tryz.sizeOf102
 v46:=Tryz.zeroValue102
 t51:=Tryz.underlying138
 a51:=Tryz.isAgg138
 z51:=Tryz.sizeOf138
 v51:=Tryz.zeroValue138
 t146:=Tryz.underlying208
 a146:=Tryz.isAgg208
 z146:=Tryz.sizeOf208
 v146:=Tryz.zeroValue208
 g1:=by kernel_rfl
 i3:=by kernel_rfl
 i4:=by kernel_rfl
 i5:=by kernel_rfl
 i9:=by kernel_rfl
 i46:=by kernel_rfl
 i51:=by kernel_rfl
 i146:=by kernel_rfl
 m1:=by kernel_rfl
 s1_3:=fun w h=>Go.Proofs.cell_of_shapedOpen_int (zero:=#[.int .i64 0]) (t:=3) h (of_decide_eq_true (by kernel_rfl)) (by kernel_rfl) rfl (by kernel_rfl) (by kernel_rfl) Tryz.underlying3 }
def Tryz.lays190_ren:Go.Shelf.Ren:=⟨fun | 190=>39 | 125=>62 | 258=>61 | 128=>89 | 129=>90 | 302=>80 | 303=>81 | 304=>82 | 305=>83 | 306=>84 | 307=>85 | 308=>86 | 309=>87 | 310=>88 | 333=>117 | 329=>118 | 330=>119 | 334=>120 | 335=>121 | 336=>122 | 344=>138 | n=>n,fun | 31=>35 | 9=>9 | 3=>3 | 46=>102 | 0=>0 | 51=>138 | 53=>140 | 4=>4 | 183=>132 | 182=>131 | 131=>63 | 5=>5 | 218=>162 | 222=>166 | 228=>178 | 229=>96 | n=>n,fun | n=>n⟩
theorem Tryz.lays190:Go.Proofs.Lays.n190 Tryz.prog Tryz.lays190_ren:={
 mixed:=by kernel_rfl
 f125:=Tryz.func62.trans (congrArg some (by kernel_rfl))
 f128:=Tryz.func89.trans (congrArg some (by kernel_rfl))
 f129:=Tryz.func90.trans (congrArg some (by kernel_rfl))
 f190:=Tryz.func39.trans (congrArg some (by kernel_rfl))
 f258:=Tryz.func61.trans (congrArg some (by kernel_rfl))
 f302:=Tryz.func80.trans (congrArg some (by kernel_rfl))
 f303:=Tryz.func81.trans (congrArg some (by kernel_rfl))
 f304:=Tryz.func82.trans (congrArg some (by kernel_rfl))
 f305:=Tryz.func83.trans (congrArg some (by kernel_rfl))
 f306:=Tryz.func84.trans (congrArg some (by kernel_rfl))
 f307:=Tryz.func85.trans (congrArg some (by kernel_rfl))
 f308:=Tryz.func86.trans (congrArg some (by kernel_rfl))
 f309:=Tryz.func87.trans (congrArg some (by kernel_rfl))
 f310:=Tryz.func88.trans (congrArg some (by kernel_rfl))
 f329:=Tryz.func118.trans (congrArg some (by kernel_rfl))
 f330:=Tryz.func119.trans (congrArg some (by kernel_rfl))
 f333:=Tryz.func117.trans (congrArg some (by kernel_rfl))
 f334:=Tryz.func120.trans (congrArg some (by kernel_rfl))
 f335:=Tryz.func121.trans (congrArg some (by kernel_rfl))
 f336:=Tryz.func122.trans (congrArg some (by kernel_rfl))
 f344:=Tryz.func138.trans (congrArg some (by kernel_rfl))
 t0:=Tryz.underlying0
 a0:=Tryz.isAgg0
 z0:=Tryz.sizeOf0
 v0:=Tryz.zeroValue0
 t3:=Tryz.underlying3
 a3:=Tryz.isAgg3
 z3:=Tryz.sizeOf3
 v3:=Tryz.zeroValue3
 t4:=Tryz.underlying4
 a4:=Tryz.isAgg4
 z4:=Tryz.sizeOf4
 v4:=Tryz.zeroValue4
 t5:=Tryz.underlying5
 a5:=Tryz.isAgg5
 z5:=Tryz.sizeOf5
 v5:=Tryz.zeroValue5
 t9:=Tryz.underlying9
 a9:=Tryz.isAgg9
 z9:=Tryz.sizeOf9
 v9:=Tryz.zeroValue9
 t31:=Tryz.underlying35
 a31:=Tryz.isAgg35
 z31:=Tryz.sizeOf35
 v31:=Tryz.zeroValue35
 t46:=Tryz.underlying102
 a46:=Tryz.isAgg102
 z46:=Tryz.sizeOf102
 v46:=Tryz.zeroValue102
 t51:=Tryz.underlying138
 a51:=Tryz.isAgg138
 z51:=Tryz.sizeOf138
 v51:=Tryz.zeroValue138
 t53:=Tryz.underlying140
 a53:=Tryz.isAgg140
 z53:=Tryz.sizeOf140
 v53:=Tryz.zeroValue140
 t131:=Tryz.underlying63
 a131:=Tryz.isAgg63
 z131:=Tryz.sizeOf63
 v131:=Tryz.zeroValue63
 t182:=Tryz.underlying131
 a182:=Tryz.isAgg131
 z182:=Tryz.sizeOf131
 v182:=Tryz.zeroValue131
 t183:=Tryz.underlying132
 a183:=Tryz.isAgg132
 z183:=Tryz.sizeOf132
 v183:=Tryz.zeroValue132
 t218:=Tryz.underlying162
 a218:=Tryz.isAgg162
 z218:=Tryz.sizeOf162
 v218:=Tryz.zeroValue162
 t222:=Tryz.underlying166
 a222:=Tryz.isAgg166
 z222:=Tryz.sizeOf166
 v222:=Tryz.zeroValue166
 t228:=Tryz.underlying178
 a228:=Tryz.isAgg178
 z228:=Tryz.sizeOf178
 v228:=Tryz.zeroValue178
 t229:=Tryz.underlying96
 a229:=Tryz.isAgg96
 z229:=Tryz.sizeOf96
 v229:=Tryz.zeroValue96 }
open Go.Sort Go.RowKit in
theorem Tryz.slices_Sort_string (blk off cap:Nat) (ss:List (List UInt8)) (w:World) (hH:Holds encStr w blk off ss.toArray) (hblk:blk<w.heap.size) (hsz:ss.length<4611686018427387904) :
 Calls Tryz.prog 39 #[.slice (some ⟨blk,off,none⟩) ss.length cap] w fun e w' =>
  e=.returned (.tuple #[])∧∃ n os,w'=grow (putRow encStr (Sort.ahead w n) blk off (ss.mergeSort fun x y=>decide (x≤y)).toArray) os:=Any.slices_Sort_string Tryz.lays190 blk off cap ss w hH hblk hsz
def Tryz.lays102_ren:Go.Shelf.Ren:=⟨fun | 102=>95 | 209=>128 | 207=>144 | n=>n,fun | 9=>9 | 4=>4 | 3=>3 | n=>n,fun | n=>n⟩
theorem Tryz.lays102:Go.Proofs.Lays.n102 Tryz.prog Tryz.lays102_ren:={
 mixed:=by kernel_rfl
 f102:=Tryz.func95.trans (congrArg some (by kernel_rfl))
 f207:=Tryz.func144.trans (congrArg some (by kernel_rfl))
 f209:=Tryz.func128.trans (congrArg some (by kernel_rfl))
 t3:=Tryz.underlying3
 a3:=Tryz.isAgg3
 z3:=Tryz.sizeOf3
 v3:=Tryz.zeroValue3
 t4:=Tryz.underlying4
 a4:=Tryz.isAgg4
 z4:=Tryz.sizeOf4
 v4:=Tryz.zeroValue4
 t9:=Tryz.underlying9
 a9:=Tryz.isAgg9
 z9:=Tryz.sizeOf9
 v9:=Tryz.zeroValue9 }
open Go.RowKit Go.Lib in
theorem Tryz.strings_TrimSuffix (s p:ByteArray) (w:World) (hs:s.size≤9223372036854775807) :
 Calls Tryz.prog 95 #[.string s,.string p] w fun e w'=>e=.returned (.string ⟨(Lib.trimSuffix s.data.toList p.data.toList).toArray⟩)∧w'=w:=Any.strings_TrimSuffix Tryz.lays102 s p w hs
def Tryz.lays146_ren:Go.Shelf.Ren:=⟨fun | 146=>64 | 221=>92 | 268=>124 | 138=>125 | 143=>126 | 195=>140 | 197=>141 | 218=>142 | 219=>143 | 260=>156 | 217=>123 | 225=>157 | 224=>158 | 267=>159 | 266=>139 | 314=>169 | n=>n,fun | 9=>9 | 31=>35 | 3=>3 | 4=>4 | 0=>0 | 105=>181 | 21=>21 | 5=>5 | 46=>102 | 119=>204 | 139=>207 | 138=>206 | 146=>208 | 51=>138 | n=>n,fun | 1=>0 | 3=>1 | 4=>2 | n=>n⟩
theorem Tryz.lays146:Go.Proofs.Lays.n146 Tryz.prog Tryz.lays146_ren:={
 mixed:=by kernel_rfl
 f138:=Tryz.func125.trans (congrArg some (by kernel_rfl))
 f143:=Tryz.func126.trans (congrArg some (by kernel_rfl))
 f146:=Tryz.func64.trans (congrArg some (by kernel_rfl))
 f195:=Tryz.func140.trans (congrArg some (by kernel_rfl))
 f197:=Tryz.func141.trans (congrArg some (by kernel_rfl))
 f217:=Tryz.func123.trans (congrArg some (by kernel_rfl))
 f218:=Tryz.func142.trans (congrArg some (by kernel_rfl))
 f219:=Tryz.func143.trans (congrArg some (by kernel_rfl))
 f221:=Tryz.func92.trans (congrArg some (by kernel_rfl))
 f224:=Tryz.func158.trans (congrArg some (by kernel_rfl))
 f225:=Tryz.func157.trans (congrArg some (by kernel_rfl))
 f260:=Tryz.func156.trans (congrArg some (by kernel_rfl))
 f266:=Tryz.func139.trans (congrArg some (by kernel_rfl))
 f267:=Tryz.func159.trans (congrArg some (by kernel_rfl))
 f268:=Tryz.func124.trans (congrArg some (by kernel_rfl))
 f314:=Tryz.func169.trans (congrArg some (by kernel_rfl))
 t0:=Tryz.underlying0
 a0:=Tryz.isAgg0
 z0:=Tryz.sizeOf0
 v0:=Tryz.zeroValue0
 t3:=Tryz.underlying3
 a3:=Tryz.isAgg3
 z3:=Tryz.sizeOf3
 v3:=Tryz.zeroValue3
 t4:=Tryz.underlying4
 a4:=Tryz.isAgg4
 z4:=Tryz.sizeOf4
 v4:=Tryz.zeroValue4
 t5:=Tryz.underlying5
 a5:=Tryz.isAgg5
 z5:=Tryz.sizeOf5
 v5:=Tryz.zeroValue5
 t9:=Tryz.underlying9
 a9:=Tryz.isAgg9
 z9:=Tryz.sizeOf9
 v9:=Tryz.zeroValue9
 t21:=Tryz.underlying21
 a21:=Tryz.isAgg21
 z21:=Tryz.sizeOf21
 v21:=Tryz.zeroValue21
 t31:=Tryz.underlying35
 a31:=Tryz.isAgg35
 z31:=Tryz.sizeOf35
 v31:=Tryz.zeroValue35
 t46:=Tryz.underlying102
 a46:=Tryz.isAgg102
 z46:=Tryz.sizeOf102
 v46:=Tryz.zeroValue102
 t51:=Tryz.underlying138
 a51:=Tryz.isAgg138
 z51:=Tryz.sizeOf138
 v51:=Tryz.zeroValue138
 t105:=Tryz.underlying181
 a105:=Tryz.isAgg181
 z105:=Tryz.sizeOf181
 v105:=Tryz.zeroValue181
 t119:=Tryz.underlying204
 a119:=Tryz.isAgg204
 z119:=Tryz.sizeOf204
 t138:=Tryz.underlying206
 a138:=Tryz.isAgg206
 z138:=Tryz.sizeOf206
 v138:=Tryz.zeroValue206
 t139:=Tryz.underlying207
 a139:=Tryz.isAgg207
 z139:=Tryz.sizeOf207
 v139:=Tryz.zeroValue207
 t146:=Tryz.underlying208
 a146:=Tryz.isAgg208
 z146:=Tryz.sizeOf208
 v146:=Tryz.zeroValue208
 g1:=by kernel_rfl
 g3:=by kernel_rfl
 g4:=by kernel_rfl }
open Go.RowKit Go.Lib in
theorem Tryz.strings_Split (s sep:ByteArray) (m:Int) (w:World) (hs:s.size<4294967281) (hm:w.cell? ⟨0,0,none⟩=some (.int .i64 m)) (h1:1≤sep.size) :
 Calls Tryz.prog 64 #[.string s,.string sep] w fun e w' =>
  e=.returned (.slice (some ⟨w.heap.size,0,none⟩) (Lib.countB s sep+1) (Lib.countB s sep+1))∧w'=w.alloc (.cells ((Lib.splitB sep 0 (Lib.countB s sep) s).map Value.string).toArray 9):=Any.strings_Split Tryz.lays146 (by kernel_rfl) s sep m w hs hm h1
end Go.Proofs
