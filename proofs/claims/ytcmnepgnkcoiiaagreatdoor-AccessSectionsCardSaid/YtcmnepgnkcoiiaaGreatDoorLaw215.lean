/- The statement 'AccessSections', as its tied card says it: the function returns true and its arguments read as before, at every input; the two tables of package utf8 read as the program's text lays them. No further condition. -/
import Derived.Test.YtcmnepgnkcoiiaaGreatDoorSea
import Derived.Test.YtcmnepgnkcoiiaaGreatDoorCards
import Derived.Test.YtcmnepgnkcoiiaaGreatDoorTie
namespace Go.Proofs.YtcmnepgnkcoiiaaGreatDoor
open Go.ChangeShapes Go.WideShapes Go.ChangeAt Go.RowKit Go.Ab
set_option linter.unusedVariables false

theorem main215 (xs : List V) (h : ArgsT Tryz.prog [27, 3, 9] xs) (hi : V.imms xs = true) : PTr Tryz.prog 11 xs (.bool true) := by
  obtain ⟨x, r, rfl, hx, h2⟩ := h
  obtain ⟨y, r, rfl, hy, h3⟩ := h2
  obtain ⟨z, r, rfl, hz, rfl⟩ := h3
  obtain ⟨es, rfl, hes⟩ := arg_ints u27 u3 c3 hx
  obtain ⟨n, rfl, _, _⟩ := arg_int u3 hy
  obtain ⟨t, rfl⟩ := arg_str u9 hz
  exact law215 fn215 tc3 tc2 fn39 chgc fn167 fn170 kn es (by simpa [V.imms, V.imm] using hi) hes n t

set_option maxRecDepth 100000 in
theorem lifted215 (os : Os) (started : os.Started) (H : Type) (enc : TypeId × Value → H) :
    ReturnsInHanded {} Tryz.checked os 11 .any (fun w args => (Rows.accessSectionsSpec.pre enc Tryz.prog Tryz.f11 [] false w args ∧ laidMetH Tryz.prog Rows.accessSectionsRow.laid w) ∧ sizedMet enc Tryz.prog Tryz.f11 (OpenSpec.ofChange Rows.accessSectionsSpec) false w args)
      (Rows.accessSectionsSpec.post enc Tryz.prog Tryz.f11 false true false false) := by
  refine laid_calls (C := Tryz.checked) (X := fun w => laidMetH Tryz.prog Rows.accessSectionsRow.laid w) own started (by kernel_rfl) Tryz.func11
    (ChangeSpec.witness_shaped (enc := enc) (C := Tryz.checked) (os := os) (X := fun w _ => laidMetH Tryz.prog Rows.accessSectionsRow.laid w) false (World.laidAll Tryz.prog os Rows.accessSectionsRow.laid) #[.slice none 0 0, .int .i64 0, .string ⟨#[]⟩] 8 (World.laidAll_os _ _ _)
      (World.shaped_of_ZipB (by kernel_rfl) (by kernel_rfl)) (by kernel_rfl) (by kernel_rfl) (by kernel_rfl) (by rw [MakeChecks.laidMetH_plain _ _ _ (by kernel_rfl)]; exact laidMet_laidAll _ (by kernel_rfl) (by kernel_rfl))) ?_
  intro W base args ds gs before hval hW hsh
  exact law_contract (s := Rows.accessSectionsSpec) (rt := 4) (S := tset) (ts := [27, 3, 9]) (B := dbulkAll (ds ++ gs)) laid closed (by kernel_rfl) (by decide) (by decide +kernel) (by kernel_rfl) (by kernel_rfl) rfl
    (fun ds hd => by match ds, hd with | [d0, d1, d2], _ => rfl) (fun xs a _ c => main215 xs a c) W base args ds gs before hval hW (Nat.le_refl _) hsh

theorem row215 : Rows.AccessSectionsSaid :=
  OpenClaim.holds_of_wide 11 Tryz.f11 rfl rfl rfl rfl rfl rfl rfl ⟨rfl, rfl, rfl, rfl, rfl⟩ rfl rfl rfl rfl rfl (by kernel_rfl) Tryz.func11 (by kernel_rfl)
    (of_decide_eq_true (by kernel_rfl)) (by unfold Func.isWrapper; first | (rw [if_pos (by decide +kernel)]; kernel_rfl) | (rw [if_neg (by decide +kernel)]; exact ⟨rfl, rfl⟩))
    (fun os started H enc _ => lifted215 os started H enc)

theorem proved215 : Rows.AccessSectionsCardSaid :=
  Claim7.holds_tied_plain_at .later [] [.data, .pinned] true (true, "ecc2c47b55c2b91b913aad01e5f4e4bc3f3a1142f19cff223f6df41f96a8f9c7") false
    row215 (fun _ h => by cases h) (by kernel_rfl) (fun _ h => by cases h) accessSections_row_tie rfl ⟨rfl, rfl⟩ (by kernel_rfl) rfl
    (fun f fn hf hfn => by
      obtain rfl : f = 11 := Option.some.inj ((show Tryz.prog.funcNamed Rows.accessSectionsRow.func = some 11 by kernel_rfl).symm.trans hf) |>.symm
      obtain rfl : fn = Tryz.f11 := (Option.some.inj (Tryz.func11.symm.trans hfn)).symm
      refine ⟨by kernel_rfl, fun j t ht => ?_⟩
      have hall : Tryz.f11.params.all (fun t => !Tryz.prog.wantsStandIn t) = true := by kernel_rfl
      have hm : t ∈ Tryz.f11.params := Array.mem_of_getElem? ht
      have := Array.all_eq_true'.1 hall t hm
      exact (show Tryz.prog.wantsStandIn t = false by simpa using this))
    (by kernel_rfl)
end Go.Proofs.YtcmnepgnkcoiiaaGreatDoor
