/- Contracts of the library at this program: laid by the shelf's tools. No condition. -/
import Derived.Shelf.Strings.Search3
import Derived.Shelf.LaysM
import Derived.Shelf.Strings.Shaped
import Derived.Shelf.Strings.Prefix
import Derived.Shelf.Strings.IndexAnyAll
import Derived.Shelf.Strings.Repeat
import Derived.Test.YtgleakjbgpmonaaProg
namespace Go.Proofs
open Go.Shelf
def Try.lays143_ren : Go.Shelf.Ren := ⟨fun | 143 => 43 | 219 => 80 | 217 => 100 | 225 => 101 | 224 => 102 | 267 => 103 | 266 => 109 | 314 => 110 | n => n, fun | 9 => 9 | 3 => 3 | 4 => 4 | 5 => 5 | 46 => 74 | 146 => 103 | 51 => 102 | n => n, fun | 1 => 0 | n => n⟩
theorem Try.lays143 : Go.Proofs.Lays.n143 Try.prog Try.lays143_ren := {
  mixed := by kernel_rfl
  f143 := Try.func43.trans (congrArg some (by kernel_rfl))
  f217 := Try.func100.trans (congrArg some (by kernel_rfl))
  f219 := Try.func80.trans (congrArg some (by kernel_rfl))
  f224 := Try.func102.trans (congrArg some (by kernel_rfl))
  f225 := Try.func101.trans (congrArg some (by kernel_rfl))
  f266 := Try.func109.trans (congrArg some (by kernel_rfl))
  f267 := Try.func103.trans (congrArg some (by kernel_rfl))
  f314 := Try.func110.trans (congrArg some (by kernel_rfl))
  t3 := Try.underlying3
  a3 := Try.isAgg3
  z3 := Try.sizeOf3
  v3 := Try.zeroValue3
  t4 := Try.underlying4
  a4 := Try.isAgg4
  z4 := Try.sizeOf4
  v4 := Try.zeroValue4
  t5 := Try.underlying5
  a5 := Try.isAgg5
  z5 := Try.sizeOf5
  v5 := Try.zeroValue5
  t9 := Try.underlying9
  a9 := Try.isAgg9
  z9 := Try.sizeOf9
  v9 := Try.zeroValue9
  t46 := Try.underlying74
  a46 := Try.isAgg74
  z46 := Try.sizeOf74
  v46 := Try.zeroValue74
  t51 := Try.underlying102
  a51 := Try.isAgg102
  z51 := Try.sizeOf102
  v51 := Try.zeroValue102
  t146 := Try.underlying103
  a146 := Try.isAgg103
  z146 := Try.sizeOf103
  v146 := Try.zeroValue103
  g1 := by kernel_rfl }
open Go.RowKit Go.Lib in

theorem Try.strings_Index (s sub : ByteArray) (m : Int) (w : World) (hs : s.size < 4294967281) (hm : w.cell? ⟨0, 0, none⟩ = some (.int .i64 m)) :
    Calls Try.prog 43 #[.string s, .string sub] w fun e w' => e = .returned (.int .i64 (Lib.index s.data.toList sub.data.toList)) ∧ w' = w := Any.strings_Index Try.lays143 s sub m w hs hm
def Try.laysM143_ren : Go.Shelf.Ren := ⟨fun | 143 => 43 | 219 => 80 | 217 => 100 | 225 => 101 | 224 => 102 | 267 => 103 | 266 => 109 | 314 => 110 | n => n, fun | 9 => 9 | 3 => 3 | 4 => 4 | 5 => 5 | 46 => 74 | 146 => 103 | 51 => 102 | n => n, fun | 1 => 0 | n => n⟩
theorem Try.laysM143 : Go.Proofs.LaysM.n143 Try.prog Try.laysM143_ren := {
  mixed := by kernel_rfl
  f143 := Try.func43.trans (congrArg some (by kernel_rfl))
  f217 := Try.func100.trans (congrArg some (by kernel_rfl))
  f219 := Try.func80.trans (congrArg some (by kernel_rfl))
  f224 := Try.func102.trans (congrArg some (by kernel_rfl))
  f225 := Try.func101.trans (congrArg some (by kernel_rfl))
  f266 := Try.func109.trans (congrArg some (by kernel_rfl))
  f267 := Try.func103.trans (congrArg some (by kernel_rfl))
  f314 := Try.func110.trans (congrArg some (by kernel_rfl))
  t3 := Try.underlying3
  a3 := Try.isAgg3
  z3 := Try.sizeOf3
  v3 := Try.zeroValue3
  t4 := Try.underlying4
  a4 := Try.isAgg4
  z4 := Try.sizeOf4
  v4 := Try.zeroValue4
  t5 := Try.underlying5
  a5 := Try.isAgg5
  z5 := Try.sizeOf5
  v5 := Try.zeroValue5
  t9 := Try.underlying9
  a9 := Try.isAgg9
  z9 := Try.sizeOf9
  v9 := Try.zeroValue9
  t46 := Try.underlying74
  a46 := Try.isAgg74
  z46 := Try.sizeOf74
  v46 := Try.zeroValue74
  t51 := Try.underlying102
  a51 := Try.isAgg102
  z51 := Try.sizeOf102
  v51 := Try.zeroValue102
  t146 := Try.underlying103
  a146 := Try.isAgg103
  z146 := Try.sizeOf103
  v146 := Try.zeroValue103
  g1 := by kernel_rfl
  i3 := by kernel_rfl
  i4 := by kernel_rfl
  i5 := by kernel_rfl
  i9 := by kernel_rfl
  i46 := by kernel_rfl
  i51 := by kernel_rfl
  i146 := by kernel_rfl
  m1 := by kernel_rfl
  s1_3 := fun w h => Go.Proofs.cell_of_shapedOpen_int (zero := #[.int .i64 0]) (t := 3) h (of_decide_eq_true (by kernel_rfl)) (by kernel_rfl) rfl (by kernel_rfl) (by kernel_rfl) Try.underlying3 }
def Try.lays105_ren : Go.Shelf.Ren := ⟨fun | 105 => 19 | 212 => 37 | 99 => 38 | 165 => 39 | 166 => 40 | 170 => 41 | 169 => 42 | 263 => 75 | 264 => 76 | 206 => 77 | 240 => 78 | 241 => 79 | 276 => 98 | 277 => 99 | n => n, fun | 9 => 9 | 3 => 3 | 4 => 4 | 20 => 20 | 0 => 0 | 46 => 74 | 109 => 75 | 5 => 5 | 72 => 80 | 76 => 83 | 51 => 102 | 146 => 103 | 53 => 105 | 148 => 106 | 70 => 77 | 37 => 78 | 75 => 82 | 127 => 108 | 164 => 126 | 80 => 86 | n => n, fun | n => n⟩
theorem Try.lays105 : Go.Proofs.Lays.n105 Try.prog Try.lays105_ren := {
  mixed := by kernel_rfl
  f99 := Try.func38.trans (congrArg some (by kernel_rfl))
  f105 := Try.func19.trans (congrArg some (by kernel_rfl))
  f165 := Try.func39.trans (congrArg some (by kernel_rfl))
  f166 := Try.func40.trans (congrArg some (by kernel_rfl))
  f169 := Try.func42.trans (congrArg some (by kernel_rfl))
  f170 := Try.func41.trans (congrArg some (by kernel_rfl))
  f206 := Try.func77.trans (congrArg some (by kernel_rfl))
  f212 := Try.func37.trans (congrArg some (by kernel_rfl))
  f240 := Try.func78.trans (congrArg some (by kernel_rfl))
  f241 := Try.func79.trans (congrArg some (by kernel_rfl))
  f263 := Try.func75.trans (congrArg some (by kernel_rfl))
  f264 := Try.func76.trans (congrArg some (by kernel_rfl))
  f276 := Try.func98.trans (congrArg some (by kernel_rfl))
  f277 := Try.func99.trans (congrArg some (by kernel_rfl))
  t0 := Try.underlying0
  a0 := Try.isAgg0
  z0 := Try.sizeOf0
  v0 := Try.zeroValue0
  t3 := Try.underlying3
  a3 := Try.isAgg3
  z3 := Try.sizeOf3
  v3 := Try.zeroValue3
  t4 := Try.underlying4
  a4 := Try.isAgg4
  z4 := Try.sizeOf4
  v4 := Try.zeroValue4
  t5 := Try.underlying5
  a5 := Try.isAgg5
  z5 := Try.sizeOf5
  v5 := Try.zeroValue5
  t9 := Try.underlying9
  a9 := Try.isAgg9
  z9 := Try.sizeOf9
  v9 := Try.zeroValue9
  t20 := Try.underlying20
  a20 := Try.isAgg20
  z20 := Try.sizeOf20
  v20 := Try.zeroValue20
  t37 := Try.underlying78
  a37 := Try.isAgg78
  z37 := Try.sizeOf78
  v37 := Try.zeroValue78
  t46 := Try.underlying74
  a46 := Try.isAgg74
  z46 := Try.sizeOf74
  v46 := Try.zeroValue74
  t51 := Try.underlying102
  a51 := Try.isAgg102
  z51 := Try.sizeOf102
  v51 := Try.zeroValue102
  t53 := Try.underlying105
  a53 := Try.isAgg105
  z53 := Try.sizeOf105
  v53 := Try.zeroValue105
  t70 := Try.underlying77
  a70 := Try.isAgg77
  z70 := Try.sizeOf77
  v70 := Try.zeroValue77
  t72 := Try.underlying80
  a72 := Try.isAgg80
  z72 := Try.sizeOf80
  v72 := Try.zeroValue80
  t75 := Try.underlying82
  a75 := Try.isAgg82
  z75 := Try.sizeOf82
  v75 := Try.zeroValue82
  t76 := Try.underlying83
  a76 := Try.isAgg83
  z76 := Try.sizeOf83
  v76 := Try.zeroValue83
  t109 := Try.underlying75
  a109 := Try.isAgg75
  z109 := Try.sizeOf75
  v109 := Try.zeroValue75
  t127 := Try.underlying108
  a127 := Try.isAgg108
  z127 := Try.sizeOf108
  v127 := Try.zeroValue108
  t146 := Try.underlying103
  a146 := Try.isAgg103
  z146 := Try.sizeOf103
  v146 := Try.zeroValue103
  t148 := Try.underlying106
  a148 := Try.isAgg106
  z148 := Try.sizeOf106
  v148 := Try.zeroValue106
  t164 := Try.underlying126
  a164 := Try.isAgg126
  z164 := Try.sizeOf126
  v164 := Try.zeroValue126 }
theorem Try.Builder_Extra_105 : Builder.Extra Try.prog Try.lays105_ren := {
  sizeBuilder := by kernel_rfl
  liesBuilder := by kernel_rfl
  t5 := Try.underlying5
  a5 := Try.isAgg5
  z5 := Try.sizeOf5
  v5 := Try.zeroValue5
  infoByte := by kernel_rfl
  cellsByte := by kernel_rfl
  sizeByte := by kernel_rfl
  neB5 := by decide }
open Go.RowKit Go.Lib in

theorem Try.strings_Repeat (s : ByteArray) (c : Nat) (w : World) (hc : c ≤ 9223372036854775807) (hlen : s.size * c ≤ 140737488355328) :
    Calls Try.prog 19 #[.string s, .int .i64 c] w fun e w' => e = .returned (.string ⟨(Lib.repeatL s.data.toList c).toArray⟩) ∧ Below w.heap.size w w' := Any.strings_Repeat Try.lays105 Try.Builder_Extra_105 s c w hc hlen
end Go.Proofs
