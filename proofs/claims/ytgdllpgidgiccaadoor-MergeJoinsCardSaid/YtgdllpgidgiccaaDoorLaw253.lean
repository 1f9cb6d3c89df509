/- The statement 'MergeJoins', as its tied card says it: the function returns true and its arguments read as before, at every input; the two tables of package utf8 read as the program's text lays them. No further condition. -/
import Derived.Test.YtgdllpgidgiccaaDoorSea
import Derived.Test.YtgdllpgidgiccaaDoorCards
import Derived.Test.YtgdllpgidgiccaaDoorTie
namespace Go.Proofs.YtgdllpgidgiccaaDoor
open Go.ChangeShapes Go.WideShapes Go.ChangeAt Go.RowKit Go.Ab
set_option linter.unusedVariables false

theorem main253 (xs : List V) (h : ArgsT Tryd.prog [22] xs) (hi : V.imms xs = true) : PTr Tryd.prog 3 xs (.bool true) := by
  obtain ⟨x, r, rfl, hx, rfl⟩ := h
  obtain ⟨l, rfl⟩ := arg_units unis hx
  exact law253 fn253 jn fn256 kn l

set_option maxRecDepth 100000 in
theorem lifted253 (os : Os) (started : os.Started) (H : Type) (enc : TypeId × Value → H) :
    ReturnsInHanded {} Tryd.checked os 3 .any (fun w args => (Rows.mergeJoinsSpec.pre enc Tryd.prog Tryd.f3 [] false w args ∧ laidMetH Tryd.prog Rows.mergeJoinsRow.laid w) ∧ sizedMet enc Tryd.prog Tryd.f3 (OpenSpec.ofChange Rows.mergeJoinsSpec) false w args)
      (Rows.mergeJoinsSpec.post enc Tryd.prog Tryd.f3 false true false false) := by
  refine laid_calls (C := Tryd.checked) (X := fun w => laidMetH Tryd.prog Rows.mergeJoinsRow.laid w) own started (by kernel_rfl) Tryd.func3
    (ChangeSpec.witness_shaped (enc := enc) (C := Tryd.checked) (os := os) (X := fun w _ => laidMetH Tryd.prog Rows.mergeJoinsRow.laid w) false (World.laidAll Tryd.prog os Rows.mergeJoinsRow.laid) #[.slice none 0 0] 8 (World.laidAll_os _ _ _)
      (World.shaped_of_ZipB (by kernel_rfl) (by kernel_rfl)) (by kernel_rfl) (by kernel_rfl) (by kernel_rfl) (by rw [MakeChecks.laidMetH_plain _ _ _ (by kernel_rfl)]; exact laidMet_laidAll _ (by kernel_rfl) (by kernel_rfl))) ?_
  intro W base args ds gs before hval hW hsh
  exact law_contract (s := Rows.mergeJoinsSpec) (rt := 4) (S := tset) (ts := [22]) (B := dbulkAll (ds ++ gs)) laid closed (by kernel_rfl) (by decide) (by decide +kernel) (by kernel_rfl) (by kernel_rfl) rfl
    (fun ds hd => by match ds, hd with | [d0], _ => rfl) (fun xs a _ c => main253 xs a c) W base args ds gs before hval hW (Nat.le_refl _) hsh

theorem row253 : Rows.MergeJoinsSaid :=
  OpenClaim.holds_of_wide 3 Tryd.f3 rfl rfl rfl rfl rfl rfl rfl ⟨rfl, rfl, rfl, rfl, rfl⟩ rfl rfl rfl rfl rfl (by kernel_rfl) Tryd.func3 (by kernel_rfl)
    (of_decide_eq_true (by kernel_rfl)) (by unfold Func.isWrapper; first | (rw [if_pos (by decide +kernel)]; kernel_rfl) | (rw [if_neg (by decide +kernel)]; exact ⟨rfl, rfl⟩))
    (fun os started H enc _ => lifted253 os started H enc)

theorem proved253 : Rows.MergeJoinsCardSaid :=
  Claim7.holds_tied_plain_at .later [] [.data, .pinned] true (true, "9ab575443d5e6b33a95caf280cb4ea306acd731cc422cc5acabba7866bb0a46b") false
    row253 (fun _ h => by cases h) (by kernel_rfl) (fun _ h => by cases h) mergeJoins_row_tie rfl ⟨rfl, rfl⟩ (by kernel_rfl) rfl
    (fun f fn hf hfn => by
      obtain rfl : f = 3 := Option.some.inj ((show Tryd.prog.funcNamed Rows.mergeJoinsRow.func = some 3 by kernel_rfl).symm.trans hf) |>.symm
      obtain rfl : fn = Tryd.f3 := (Option.some.inj (Tryd.func3.symm.trans hfn)).symm
      refine ⟨by kernel_rfl, fun j t ht => ?_⟩
      have hall : Tryd.f3.params.all (fun t => !Tryd.prog.wantsStandIn t) = true := by kernel_rfl
      have hm : t ∈ Tryd.f3.params := Array.mem_of_getElem? ht
      have := Array.all_eq_true'.1 hall t hm
      exact (show Tryd.prog.wantsStandIn t = false by simpa using this))
    (by kernel_rfl)
end Go.Proofs.YtgdllpgidgiccaaDoor
