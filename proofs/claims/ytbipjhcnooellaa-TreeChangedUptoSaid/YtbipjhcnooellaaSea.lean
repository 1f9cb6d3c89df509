/- What the statements of this seat share: its functions' contracts. No condition. -/
import Derived.Test.YtbipjhcnooellaaRows
import Derived.Test.YtbipjhcnooellaaFns
import Derived.Test.YtbipjhcnooellaaAbTl
import Derived.Test.YtbipjhcnooellaaAbTm
import Derived.Test.YtbipjhcnooellaaAbTin
import Derived.WalkKit
import Derived.ProofKit
import Derived.OpenShut
import Derived.JoinedCond
namespace Go.Proofs.Ytbipjhcnooellaa
open Go.ChangeShapes Go.WideShapes Go.ChangeAt Go.RowKit Go.Ab
set_option linter.unusedVariables false

theorem own : ownKnob Try.prog.godebug = none := by kernel_rfl
theorem laid : laidOutB Try.prog = true := by kernel_rfl
theorem tys : NodeTys Try.prog 22 30 32 28 3 4 9 := ⟨by kernel_rfl, by kernel_rfl, by kernel_rfl, by kernel_rfl, by kernel_rfl, by kernel_rfl, by kernel_rfl, by kernel_rfl, by kernel_rfl, by kernel_rfl, by kernel_rfl, by kernel_rfl, by kernel_rfl, by kernel_rfl, by kernel_rfl, by kernel_rfl⟩
mutual
theorem bulk_d {H : Type} : ∀ d : DataW H, Rows.uptoBulk d = dbulk d
  | .lit l => by cases l <;> simp [Rows.uptoBulk, dbulk]
  | .nil => by simp [Rows.uptoBulk, dbulk]
  | .ptr d => by simp [Rows.uptoBulk, dbulk, bulk_d d]
  | .slice a b => by simp [Rows.uptoBulk, dbulk, bulk_all a, bulk_all b]
  | .agg a => by simp [Rows.uptoBulk, dbulk, bulk_all a]
  | .iface _ d => by simp [Rows.uptoBulk, dbulk, bulk_d d]
  | .map es => by simp [Rows.uptoBulk, dbulk, bulk_es es]
  | .held _ => by simp [Rows.uptoBulk, dbulk]
theorem bulk_all {H : Type} : ∀ l : List (DataW H), Rows.uptoBulkAll l = dbulkAll l
  | [] => by simp [Rows.uptoBulkAll, dbulkAll]
  | d :: r => by simp [Rows.uptoBulkAll, dbulkAll, bulk_d d, bulk_all r]
theorem bulk_es {H : Type} : ∀ l : List (Lit × DataW H), Rows.uptoBulkEntries l = dbulkEntries l
  | [] => by simp [Rows.uptoBulkEntries, dbulkEntries]
  | d :: r => by simp [Rows.uptoBulkEntries, dbulkEntries, bulk_e d, bulk_es r]
theorem bulk_e {H : Type} : ∀ x : Lit × DataW H, Rows.uptoBulkEntry x = dbulkEntry x
  | (l, d) => by cases l <;> simp [Rows.uptoBulkEntry, dbulkEntry, bulk_d d]
end
def tset : List TypeId := [22, 30, 32, 28, 3, 4, 9]
theorem closed : tset.all (okT Try.prog tset) = true := by kernel_rfl
theorem bound {H : Type} {l : List (DataW H)} (hk : Rows.uptoSmall H l = true) : dbulkAll l ≤ 1048576 := by
  rw [← bulk_all]
  simpa [Rows.uptoSmall] using hk

theorem treeFns : TreeFns Try.prog sF where
  s2 := t2 fn2 fn23 fn22 fn29 fn27 fn33 fn30 fn31 fn32
  s3 := t3 fn3 fn24 fn25
  s10 := t10 fn10 fn26
  s11 := t11 fn11
  s12 := t12 fn12 fn26
  s13 := t13 fn13
  s6 := t6 fn6
  s7 := t7 fn7
  s1 := t1 fn1 fn11 fn3 fn24 fn25
  s4 := t4 fn4 (t2 fn2 fn23 fn22 fn29 fn27 fn33 fn30 fn31 fn32) (t10 fn10 fn26) (t12 fn12 fn26) (t6 fn6)

end Go.Proofs.Ytbipjhcnooellaa
