/- The statement 'TreePlain', where what it reads is of bulk at most 1048576: the function returns true and its arguments read as before. No further condition. -/
import Derived.Test.YtbipjhcnooellaaSea
namespace Go.Proofs.Ytbipjhcnooellaa
open Go.ChangeShapes Go.WideShapes Go.ChangeAt Go.RowKit Go.Ab
set_option linter.unusedVariables false

theorem main16 (xs : List V) (h : ArgsT Try.prog [22] xs) (hb : V.bks xs ≤ 1048576) (hi : V.imms xs = true) : PTr Try.prog 9 xs (.bool true) := by
  obtain ⟨x, r, rfl, hx, rfl⟩ := h
  obtain ⟨l, rfl, hl⟩ := arg_nodes tys hx
  simp only [V.bks] at hb
  exact law16 fn16 treeFns (t17 fn17 fn27 fn30 fn23) (t18 fn18) l (by omega)

set_option maxRecDepth 100000 in
theorem lifted16 (os : Os) (started : os.Started) (H : Type) (enc : TypeId × Value → H) (F : Stop.Interp) :
    ReturnsInHanded {} Try.checked os 9 .any ((Rows.OpenSpec.upto Rows.treePlainSpec).pre6 enc Try.prog Try.f9 Rows.treePlainUptoRow.domain false) (((Rows.OpenSpec.upto Rows.treePlainSpec).at F).post enc Try.prog Try.f9 false true false false) := by
  refine returnsInHanded_of_cond (C := Try.checked) (s := Rows.OpenSpec.upto Rows.treePlainSpec) (k := Rows.uptoSmall) rfl own started (by kernel_rfl) Try.func9
    (OpenSpec.witness (enc := enc) (C := Try.checked) (s := Rows.OpenSpec.upto Rows.treePlainSpec) (k := Rows.uptoSmall) rfl false ⟨#[], #[.slice none 0 0], []⟩ 8 (by kernel_rfl) (by kernel_rfl) (by kernel_rfl)
      (x := ([.nil], [], [])) (by kernel_rfl) rfl (by kernel_rfl)) ?_
  intro W base args ds gs before hval hW _ hk _
  exact law_contract (s := Rows.treePlainSpec) (rt := 4) (S := tset) (ts := [22]) (B := 1048576) laid closed (by kernel_rfl) (by decide) (by decide +kernel) (by kernel_rfl) (by kernel_rfl) rfl
    (fun ds hd => by match ds, hd with | [d0], _ => rfl) main16 W base args ds gs before hval hW (bound hk)

theorem over16 : Rows.treePlainUptoRow.holds Try.pinned (Rows.OpenSpec.upto Rows.treePlainSpec) :=
  OpenClaim.holds_of_cond 9 Try.f9 rfl rfl rfl rfl rfl rfl rfl ⟨rfl, rfl, rfl, rfl, rfl⟩ rfl rfl rfl rfl rfl (by kernel_rfl) Try.func9 (by kernel_rfl)
    (of_decide_eq_true (by kernel_rfl)) (by unfold Func.isWrapper; first | (rw [if_pos (by decide +kernel)]; kernel_rfl) | (rw [if_neg (by decide +kernel)]; exact ⟨rfl, rfl⟩))
    (fun os started H enc _ F => lifted16 os started H enc F)
theorem proved16 : Rows.TreePlainUptoSaid := over16
end Go.Proofs.Ytbipjhcnooellaa
