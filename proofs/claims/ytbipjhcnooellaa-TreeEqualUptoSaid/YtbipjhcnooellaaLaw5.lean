/- The statement 'TreeEqual', where what it reads is of bulk at most 1048576: the function returns true and its arguments read as before. No further condition. -/
import Derived.Test.YtbipjhcnooellaaSea
namespace Go.Proofs.Ytbipjhcnooellaa
open Go.ChangeShapes Go.WideShapes Go.ChangeAt Go.RowKit Go.Ab
set_option linter.unusedVariables false

theorem main5 (xs : List V) (h : ArgsT Try.prog [22, 22] xs) (hb : V.bks xs ≤ 1048576) (hi : V.imms xs = true) : PTr Try.prog 4 xs (.bool true) := by
  obtain ⟨x, r, rfl, hx, y, r2, rfl, hy, rfl⟩ := h
  obtain ⟨a, rfl, ha⟩ := arg_nodes tys hx
  obtain ⟨b, rfl, hb2⟩ := arg_nodes tys hy
  simp only [V.bks] at hb
  exact law5 fn5 treeFns a b (by omega) (by omega)

set_option maxRecDepth 100000 in
theorem lifted5 (os : Os) (started : os.Started) (H : Type) (enc : TypeId × Value → H) (F : Stop.Interp) :
    ReturnsInHanded {} Try.checked os 4 .any ((Rows.OpenSpec.upto Rows.treeEqualSpec).pre6 enc Try.prog Try.f4 Rows.treeEqualUptoRow.domain false) (((Rows.OpenSpec.upto Rows.treeEqualSpec).at F).post enc Try.prog Try.f4 false true false false) := by
  refine returnsInHanded_of_cond (C := Try.checked) (s := Rows.OpenSpec.upto Rows.treeEqualSpec) (k := Rows.uptoSmall) rfl own started (by kernel_rfl) Try.func4
    (OpenSpec.witness (enc := enc) (C := Try.checked) (s := Rows.OpenSpec.upto Rows.treeEqualSpec) (k := Rows.uptoSmall) rfl false ⟨#[], #[.slice none 0 0, .slice none 0 0], []⟩ 8 (by kernel_rfl) (by kernel_rfl) (by kernel_rfl)
      (x := ([.nil, .nil], [], [])) (by kernel_rfl) rfl (by kernel_rfl)) ?_
  intro W base args ds gs before hval hW _ hk _
  exact law_contract (s := Rows.treeEqualSpec) (rt := 4) (S := tset) (ts := [22, 22]) (B := 1048576) laid closed (by kernel_rfl) (by decide) (by decide +kernel) (by kernel_rfl) (by kernel_rfl) rfl
    (fun ds hd => by match ds, hd with | [d0, d1], _ => rfl) main5 W base args ds gs before hval hW (bound hk)

theorem over5 : Rows.treeEqualUptoRow.holds Try.pinned (Rows.OpenSpec.upto Rows.treeEqualSpec) :=
  OpenClaim.holds_of_cond 4 Try.f4 rfl rfl rfl rfl rfl rfl rfl ⟨rfl, rfl, rfl, rfl, rfl⟩ rfl rfl rfl rfl rfl (by kernel_rfl) Try.func4 (by kernel_rfl)
    (of_decide_eq_true (by kernel_rfl)) (by unfold Func.isWrapper; first | (rw [if_pos (by decide +kernel)]; kernel_rfl) | (rw [if_neg (by decide +kernel)]; exact ⟨rfl, rfl⟩))
    (fun os started H enc _ F => lifted5 os started H enc F)
theorem proved5 : Rows.TreeEqualUptoSaid := over5
end Go.Proofs.Ytbipjhcnooellaa
