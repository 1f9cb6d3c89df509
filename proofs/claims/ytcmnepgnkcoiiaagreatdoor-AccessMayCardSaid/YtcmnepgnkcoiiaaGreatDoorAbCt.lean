/- The example of the chapter on rights, the program's May as a whole. No condition. -/
import Derived.Test.YtcmnepgnkcoiiaaGreatDoorAbCs
namespace Go.Ab
set_option linter.unusedVariables false
set_option linter.unusedSimpArgs false
variable {P : Program} {F T : Nat → Nat}
open Go.Lib
/-- the functions behind May -/
structure MayC (P : Program) (F T : Nat → Nat) : Prop where
 C : TitC P F
 h185 : Is185 P F T
 h187 : Is187 P F T
 h188 : Is188 P F T
 h189 : Is189 P F T
 h190 : Is190 P F T
 h186 : Is186 P F T
 h229 : Is229 P F T
 h181 : Is181 P F T
 h182 : Is182 P F T
 h220 : Is220 P F T
 h222 : Is222 P F T
 h178 : Is178 P F T
theorem may_ok (H : MayC P F T) {sp : Int} {s : List UInt8} {g : List (List UInt8)} (hs : s.length ≤ 90000) (hg : g.length ≤ 2 ^ 60) (gv : List V) (rs : List Rul) (dv : List V) (hgv : V.imms gv = true) (hdv : V.imms dv = true) (hrs : rs.length ≤ 2 ^ 60) (right : Int) :
 PTr P (F 178) [polV gv rs dv, .lst 1 (g.map .str), .int .i64 right, ttV sp s] (.bool (mayF rs g right sp s)) := by
 have h185 := t185 H.h185 H.C H.h187 H.h188 H.h189 H.h190 sp s (by omega)
 exact t178 H.h178 h185 (fun hv => t181 H.h181 H.h186 H.h229 (by rw [hv] at h185; exact h185) hs) (t182 H.h182) (fun x => t220 H.h220 H.h222 g x hg) gv rs dv hgv hdv hrs right
/-- the functions behind the example -/
structure KnoC (P : Program) (F T : Nat → Nat) : Prop where
 m : MayC P F T
 h179 : Is179 P F T
 h180 : Is180 P F T
 h191 : Is191 P F T
 h226 : Is226 P F T
 h227 : Is227 P F T
 h240 : Is240 P F T
 h228 : Is228 P F T
 h230 : Is230 P F T
def knR : List Rul := [⟨true, 1, [97, 108, 108], ⟨1, 0, []⟩⟩, ⟨false, 1, [97, 108, 108], ⟨3, 2, [65, 110, 110]⟩⟩]
theorem kn_may1 : mayF knR [[97, 108, 108]] 1 0 [65] = true := by decide +kernel
theorem kn_may2 : mayF knR [[97, 108, 108]] 1 2 [65, 110, 110] = false := by decide +kernel
theorem t176 (hf : Is176 P F T) (K : KnoC P F T) : PTr P (F 176) [] (.bool true) := by
 refine ptrC [] hf (by simp) rfl ?_
 have m1 := may_ok K.m (sp := 0) (s := [65]) (g := [[97, 108, 108]]) (by simp) (by simp) [] knR [] rfl rfl (by simp [knR]) 1
 have m2 := may_ok K.m (sp := 2) (s := [65, 110, 110]) (g := [[97, 108, 108]]) (by simp) (by simp) [] knR [] rfl rfl (by simp [knR]) 1
 rw [kn_may1] at m1
 rw [kn_may2] at m2
 have hc := t179n K.h179 (ruV knR) (ruV_imm _) 2 [65, 110, 110] [] [120]
 have hg := t180n K.h180 K.h191 K.h226 K.h227 K.h240 K.h228 K.h230 (ruV knR) (ruV_imm _)
 simp only [knR, ruV, Rul.v, polV, ttV, List.map_cons, List.map_nil] at m1 m2 hc hg
 simp only [c176, push_cast, seval, -Nat.reducePow]
 refine callK_le m1 (by simp only [push_cast, seval, -Nat.reducePow]) (by simp only [push_cast, seval, -Nat.reducePow]) (by simp only [push_cast, seval, -Nat.reducePow]) ?_
 simp only [push_cast, seval, -Nat.reducePow]
 refine callK_le m2 (by simp only [push_cast, seval, -Nat.reducePow]) (by simp only [push_cast, seval, -Nat.reducePow]) (by simp only [push_cast, seval, -Nat.reducePow]) ?_
 simp only [push_cast, seval, -Nat.reducePow]
 refine callK_le hc (by simp only [push_cast, seval, -Nat.reducePow]) (by simp only [push_cast, seval, -Nat.reducePow]) (by simp only [push_cast, seval, -Nat.reducePow]) ?_
 simp only [push_cast, seval, -Nat.reducePow]
 refine callK_le hg (by simp only [push_cast, seval, -Nat.reducePow]) (by simp only [push_cast, seval, -Nat.reducePow]) (by simp only [push_cast, seval, -Nat.reducePow]) ?_
 simp only [push_cast, seval, -Nat.reducePow, view]
end Go.Ab
