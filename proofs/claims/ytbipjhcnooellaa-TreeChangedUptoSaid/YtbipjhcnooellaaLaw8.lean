/- The statement 'TreeChanged', where what it reads is of bulk at most 1048576: the function returns true and its arguments read as before. No further condition. -/
import Derived.Test.YtbipjhcnooellaaSea
namespace Go.Proofs.Ytbipjhcnooellaa
open Go.ChangeShapes Go.WideShapes Go.ChangeAt Go.RowKit Go.Ab
set_option linter.unusedVariables false

theorem main8 (xs : List V) (h : ArgsT Try.prog [22, 3, 3] xs) (hb : V.bks xs ≤ 1048576) (hi : V.imms xs = true) : PTr Try.prog 5 xs (.bool true) := by
  obtain ⟨x, r, rfl, hx, y, r2, rfl, hy, z, r3, rfl, hz, rfl⟩ := h
  obtain ⟨l, rfl, hl⟩ := arg_nodes tys hx
  obtain ⟨i, rfl, _⟩ := arg_int tys.hi hy
  obtain ⟨w, rfl, _⟩ := arg_int tys.hi hz
  simp only [V.bks] at hb
  exact law8 fn8 treeFns l i w (by omega)

set_option maxRecDepth 100000 in
theorem lifted8 (os : Os) (started : os.Started) (H : Type) (enc : TypeId × Value → H) (F : Stop.Interp) :
    ReturnsInHanded {} Try.checked os 5 .any ((Rows.OpenSpec.upto Rows.treeChangedSpec).pre6 enc Try.prog Try.f5 Rows.treeChangedUptoRow.domain false) (((Rows.OpenSpec.upto Rows.treeChangedSpec).at F).post enc Try.prog Try.f5 false true false false) := by
  refine returnsInHanded_of_cond (C := Try.checked) (s := Rows.OpenSpec.upto Rows.treeChangedSpec) (k := Rows.uptoSmall) rfl own started (by kernel_rfl) Try.func5
    (OpenSpec.witness (enc := enc) (C := Try.checked) (s := Rows.OpenSpec.upto Rows.treeChangedSpec) (k := Rows.uptoSmall) rfl false ⟨#[], #[.slice none 0 0, .int .i64 0, .int .i64 0], []⟩ 8 (by kernel_rfl) (by kernel_rfl) (by kernel_rfl)
      (x := ([.nil, .lit (.int .i64 0), .lit (.int .i64 0)], [], [])) (by kernel_rfl) rfl (by kernel_rfl)) ?_
  intro W base args ds gs before hval hW _ hk _
  exact law_contract (s := Rows.treeChangedSpec) (rt := 4) (S := tset) (ts := [22, 3, 3]) (B := 1048576) laid closed (by kernel_rfl) (by decide) (by decide +kernel) (by kernel_rfl) (by kernel_rfl) rfl
    (fun ds hd => by match ds, hd with | [d0, d1, d2], _ => rfl) main8 W base args ds gs before hval hW (bound hk)

theorem over8 : Rows.treeChangedUptoRow.holds Try.pinned (Rows.OpenSpec.upto Rows.treeChangedSpec) :=
  OpenClaim.holds_of_cond 5 Try.f5 rfl rfl rfl rfl rfl rfl rfl ⟨rfl, rfl, rfl, rfl, rfl⟩ rfl rfl rfl rfl rfl (by kernel_rfl) Try.func5 (by kernel_rfl)
    (of_decide_eq_true (by kernel_rfl)) (by unfold Func.isWrapper; first | (rw [if_pos (by decide +kernel)]; kernel_rfl) | (rw [if_neg (by decide +kernel)]; exact ⟨rfl, rfl⟩))
    (fun os started H enc _ F => lifted8 os started H enc F)
theorem proved8 : Rows.TreeChangedUptoSaid := over8
end Go.Proofs.Ytbipjhcnooellaa
