/- The statement 'TreeJoin', where what it reads is of bulk at most 1048576: the function returns true and its arguments read as before. No further condition. -/
import Derived.Test.YtbipjhcnooellaaSea
namespace Go.Proofs.Ytbipjhcnooellaa
open Go.ChangeShapes Go.WideShapes Go.ChangeAt Go.RowKit Go.Ab
set_option linter.unusedVariables false

theorem main19 (xs : List V) (h : ArgsT Try.prog [22] xs) (hb : V.bks xs ≤ 1048576) (hi : V.imms xs = true) : PTr Try.prog 10 xs (.bool true) := by
  obtain ⟨x, r, rfl, hx, rfl⟩ := h
  obtain ⟨l, rfl, hl⟩ := arg_nodes tys hx
  simp only [V.bks] at hb
  exact law19 fn19 treeFns (fun l h => t20' fn20 fn28 _ l (Nat.lt_succ_self _) h) (fun l h => t21' fn21 _ l (Nat.lt_succ_self _) h) l (by omega)

set_option maxRecDepth 100000 in
theorem lifted19 (os : Os) (started : os.Started) (H : Type) (enc : TypeId × Value → H) (F : Stop.Interp) :
    ReturnsInHanded {} Try.checked os 10 .any ((Rows.OpenSpec.upto Rows.treeJoinSpec).pre6 enc Try.prog Try.f10 Rows.treeJoinUptoRow.domain false) (((Rows.OpenSpec.upto Rows.treeJoinSpec).at F).post enc Try.prog Try.f10 false true false false) := by
  refine returnsInHanded_of_cond (C := Try.checked) (s := Rows.OpenSpec.upto Rows.treeJoinSpec) (k := Rows.uptoSmall) rfl own started (by kernel_rfl) Try.func10
    (OpenSpec.witness (enc := enc) (C := Try.checked) (s := Rows.OpenSpec.upto Rows.treeJoinSpec) (k := Rows.uptoSmall) rfl false ⟨#[], #[.slice none 0 0], []⟩ 8 (by kernel_rfl) (by kernel_rfl) (by kernel_rfl)
      (x := ([.nil], [], [])) (by kernel_rfl) rfl (by kernel_rfl)) ?_
  intro W base args ds gs before hval hW _ hk _
  exact law_contract (s := Rows.treeJoinSpec) (rt := 4) (S := tset) (ts := [22]) (B := 1048576) laid closed (by kernel_rfl) (by decide) (by decide +kernel) (by kernel_rfl) (by kernel_rfl) rfl
    (fun ds hd => by match ds, hd with | [d0], _ => rfl) main19 W base args ds gs before hval hW (bound hk)

theorem over19 : Rows.treeJoinUptoRow.holds Try.pinned (Rows.OpenSpec.upto Rows.treeJoinSpec) :=
  OpenClaim.holds_of_cond 10 Try.f10 rfl rfl rfl rfl rfl rfl rfl ⟨rfl, rfl, rfl, rfl, rfl⟩ rfl rfl rfl rfl rfl (by kernel_rfl) Try.func10 (by kernel_rfl)
    (of_decide_eq_true (by kernel_rfl)) (by unfold Func.isWrapper; first | (rw [if_pos (by decide +kernel)]; kernel_rfl) | (rw [if_neg (by decide +kernel)]; exact ⟨rfl, rfl⟩))
    (fun os started H enc _ F => lifted19 os started H enc F)
theorem proved19 : Rows.TreeJoinUptoSaid := over19
end Go.Proofs.Ytbipjhcnooellaa
