/- The statement 'AccessChange', as its tied card says it: the function returns true and its arguments read as before, at every input; the two tables of package utf8 read as the program's text lays them. No further condition. -/
import Derived.Test.YtcmnepgnkcoiiaaGreatDoorSea
import Derived.Test.YtcmnepgnkcoiiaaGreatDoorCards
import Derived.Test.YtcmnepgnkcoiiaaGreatDoorTie
namespace Go.Proofs.YtcmnepgnkcoiiaaGreatDoor
open Go.ChangeShapes Go.WideShapes Go.ChangeAt Go.RowKit Go.Ab
set_option linter.unusedVariables false

theorem main175 (xs : List V) (h : ArgsT Tryz.prog [26, 35, 43, 9, 9] xs) (hi : V.imms xs = true) : PTr Tryz.prog 9 xs (.bool true) := by
  obtain ⟨x, r, rfl, hx, h2⟩ := h
  obtain ⟨y, r, rfl, hy, h3⟩ := h2
  obtain ⟨t, r, rfl, ht, h4⟩ := h3
  obtain ⟨o, r, rfl, ho, h5⟩ := h4
  obtain ⟨n, r, rfl, hn, rfl⟩ := h5
  obtain ⟨gs, rs, ds, rfl⟩ := arg_policy pol hx
  obtain ⟨g, rfl⟩ := arg_strs pol hy
  obtain ⟨sp, s, rfl⟩ := arg_title pol ht
  obtain ⟨old, rfl⟩ := arg_str u9 ho
  obtain ⟨now, rfl⟩ := arg_str u9 hn
  exact law175 fn175 fn177 chgc kn gs rs ds g sp s old now

set_option maxRecDepth 100000 in
theorem lifted175 (os : Os) (started : os.Started) (H : Type) (enc : TypeId × Value → H) :
    ReturnsInHanded {} Tryz.checked os 9 .any (fun w args => (Rows.accessChangeSpec.pre enc Tryz.prog Tryz.f9 [] false w args ∧ laidMetH Tryz.prog Rows.accessChangeRow.laid w) ∧ sizedMet enc Tryz.prog Tryz.f9 (OpenSpec.ofChange Rows.accessChangeSpec) false w args)
      (Rows.accessChangeSpec.post enc Tryz.prog Tryz.f9 false true false false) := by
  refine laid_calls (C := Tryz.checked) (X := fun w => laidMetH Tryz.prog Rows.accessChangeRow.laid w) own started (by kernel_rfl) Tryz.func9
    (ChangeSpec.witness_shaped (enc := enc) (C := Tryz.checked) (os := os) (X := fun w _ => laidMetH Tryz.prog Rows.accessChangeRow.laid w) false (World.laidAll Tryz.prog os Rows.accessChangeRow.laid) #[.agg #[.slice none 0 0, .slice none 0 0, .slice none 0 0], .slice none 0 0, .agg #[.int .i64 0, .string ⟨#[]⟩], .string ⟨#[]⟩, .string ⟨#[]⟩] 8 (World.laidAll_os _ _ _)
      (World.shaped_of_ZipB (by kernel_rfl) (by kernel_rfl)) (by kernel_rfl) (by kernel_rfl) (by kernel_rfl) (by rw [MakeChecks.laidMetH_plain _ _ _ (by kernel_rfl)]; exact laidMet_laidAll _ (by kernel_rfl) (by kernel_rfl))) ?_
  intro W base args ds gs before hval hW hsh
  exact law_contract (s := Rows.accessChangeSpec) (rt := 4) (S := tset) (ts := [26, 35, 43, 9, 9]) (B := dbulkAll (ds ++ gs)) laid closed (by kernel_rfl) (by decide) (by decide +kernel) (by kernel_rfl) (by kernel_rfl) rfl
    (fun ds hd => by match ds, hd with | [d0, d1, d2, d3, d4], _ => rfl) (fun xs a _ c => main175 xs a c) W base args ds gs before hval hW (Nat.le_refl _) hsh

theorem row175 : Rows.AccessChangeSaid :=
  OpenClaim.holds_of_wide 9 Tryz.f9 rfl rfl rfl rfl rfl rfl rfl ⟨rfl, rfl, rfl, rfl, rfl⟩ rfl rfl rfl rfl rfl (by kernel_rfl) Tryz.func9 (by kernel_rfl)
    (of_decide_eq_true (by kernel_rfl)) (by unfold Func.isWrapper; first | (rw [if_pos (by decide +kernel)]; kernel_rfl) | (rw [if_neg (by decide +kernel)]; exact ⟨rfl, rfl⟩))
    (fun os started H enc _ => lifted175 os started H enc)

theorem proved175 : Rows.AccessChangeCardSaid :=
  Claim7.holds_tied_plain_at .later [] [.data, .pinned] true (true, "ecc2c47b55c2b91b913aad01e5f4e4bc3f3a1142f19cff223f6df41f96a8f9c7") false
    row175 (fun _ h => by cases h) (by kernel_rfl) (fun _ h => by cases h) accessChange_row_tie rfl ⟨rfl, rfl⟩ (by kernel_rfl) rfl
    (fun f fn hf hfn => by
      obtain rfl : f = 9 := Option.some.inj ((show Tryz.prog.funcNamed Rows.accessChangeRow.func = some 9 by kernel_rfl).symm.trans hf) |>.symm
      obtain rfl : fn = Tryz.f9 := (Option.some.inj (Tryz.func9.symm.trans hfn)).symm
      refine ⟨by kernel_rfl, fun j t ht => ?_⟩
      have hall : Tryz.f9.params.all (fun t => !Tryz.prog.wantsStandIn t) = true := by kernel_rfl
      have hm : t ∈ Tryz.f9.params := Array.mem_of_getElem? ht
      have := Array.all_eq_true'.1 hall t hm
      exact (show Tryz.prog.wantsStandIn t = false by simpa using this))
    (by kernel_rfl)
end Go.Proofs.YtcmnepgnkcoiiaaGreatDoor
