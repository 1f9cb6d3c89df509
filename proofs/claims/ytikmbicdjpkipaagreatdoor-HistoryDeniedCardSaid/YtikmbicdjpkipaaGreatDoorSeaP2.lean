/- The policies, parsed by both. No condition. -/
import Derived.Test.YtikmbicdjpkipaaGreatDoorSeaV
set_option linter.unusedVariables false
namespace Go.Proofs.YtikmbicdjpkipaaGreatDoor
open Go.RowKit Go.Ab Go.Lib
set_option maxRecDepth 1000000
theorem mp3:PTr Tryz.prog 71 [.str tx3] (.tup [pv3,.int .i64 0,.int .i64 0]):=evP aAp (show evB l1 71 [.str tx3]=some (.tup [pv3,.int .i64 0,.int .i64 0]) by kernel_rfl) rfl (by kernel_rfl)
theorem mr3:PTr Tryz.prog 46 [.str tx3] (.tup [pv3,.int .i64 0,.int .i64 0]):=evP aAp (show evB l1 46 [.str tx3]=some (.tup [pv3,.int .i64 0,.int .i64 0]) by kernel_rfl) rfl (by kernel_rfl)
theorem gp30:PTr Tryz.prog 81 [pv3,.str [97,110,110]] (.lst 1 (([[97,108,108],[115,116,97,102,102],[117,115,101,114,115]]:List (List UInt8)).map .str)):=evP aAp (show evB l1 81 [pv3,.str [97,110,110]]=some (.lst 1 (([[97,108,108],[115,116,97,102,102],[117,115,101,114,115]]:List (List UInt8)).map .str)) by kernel_rfl) (by kernel_rfl) (by kernel_rfl)
theorem gr30:PTr Tryz.prog 21 [pv3,.str [97,110,110]] (.lst 1 (([[97,108,108],[115,116,97,102,102],[117,115,101,114,115]]:List (List UInt8)).map .str)):=evP aAp (show evB l1 21 [pv3,.str [97,110,110]]=some (.lst 1 (([[97,108,108],[115,116,97,102,102],[117,115,101,114,115]]:List (List UInt8)).map .str)) by kernel_rfl) (by kernel_rfl) (by kernel_rfl)
theorem gp31:PTr Tryz.prog 81 [pv3,.str [98,111,98]] (.lst 1 (([[97,108,108],[109,111,114,101],[115,116,97,102,102],[117,115,101,114,115]]:List (List UInt8)).map .str)):=evP aAp (show evB l1 81 [pv3,.str [98,111,98]]=some (.lst 1 (([[97,108,108],[109,111,114,101],[115,116,97,102,102],[117,115,101,114,115]]:List (List UInt8)).map .str)) by kernel_rfl) (by kernel_rfl) (by kernel_rfl)
theorem gr31:PTr Tryz.prog 21 [pv3,.str [98,111,98]] (.lst 1 (([[97,108,108],[109,111,114,101],[115,116,97,102,102],[117,115,101,114,115]]:List (List UInt8)).map .str)):=evP aAp (show evB l1 21 [pv3,.str [98,111,98]]=some (.lst 1 (([[97,108,108],[109,111,114,101],[115,116,97,102,102],[117,115,101,114,115]]:List (List UInt8)).map .str)) by kernel_rfl) (by kernel_rfl) (by kernel_rfl)
theorem gp32:PTr Tryz.prog 81 [pv3,.str []] (.lst 1 (([[97,108,108]]:List (List UInt8)).map .str)):=evP aAp (show evB l1 81 [pv3,.str []]=some (.lst 1 (([[97,108,108]]:List (List UInt8)).map .str)) by kernel_rfl) (by kernel_rfl) (by kernel_rfl)
theorem gr32:PTr Tryz.prog 21 [pv3,.str []] (.lst 1 (([[97,108,108]]:List (List UInt8)).map .str)):=evP aAp (show evB l1 21 [pv3,.str []]=some (.lst 1 (([[97,108,108]]:List (List UInt8)).map .str)) by kernel_rfl) (by kernel_rfl) (by kernel_rfl)
theorem gp33:PTr Tryz.prog 81 [pv3,.str [99,121]] (.lst 1 (([[97,108,108],[117,115,101,114,115]]:List (List UInt8)).map .str)):=evP aAp (show evB l1 81 [pv3,.str [99,121]]=some (.lst 1 (([[97,108,108],[117,115,101,114,115]]:List (List UInt8)).map .str)) by kernel_rfl) (by kernel_rfl) (by kernel_rfl)
theorem gr33:PTr Tryz.prog 21 [pv3,.str [99,121]] (.lst 1 (([[97,108,108],[117,115,101,114,115]]:List (List UInt8)).map .str)):=evP aAp (show evB l1 21 [pv3,.str [99,121]]=some (.lst 1 (([[97,108,108],[117,115,101,114,115]]:List (List UInt8)).map .str)) by kernel_rfl) (by kernel_rfl) (by kernel_rfl)
end Go.Proofs.YtikmbicdjpkipaaGreatDoor
