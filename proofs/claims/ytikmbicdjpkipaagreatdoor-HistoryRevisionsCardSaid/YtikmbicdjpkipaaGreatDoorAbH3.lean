import Derived.Test.YtikmbicdjpkipaaGreatDoorAbJ1
import Derived.Test.YtikmbicdjpkipaaGreatDoorAbH2
import Derived.Test.YtikmbicdjpkipaaGreatDoorAbC2
import Derived.Test.YtikmbicdjpkipaaGreatDoorAbR2
import Derived.Test.YtikmbicdjpkipaaGreatDoorAbF2
open List renaming length->xc,map->zw,findIdx?_eq_none_iff->zY,length_cons->zg,getD_eq_getElem?_getD->ze,findIdx?_append->wC,findIdx?_cons->yG,mem_append->zP,mem_singleton->zp,take_length->zu,getD_cons_zero->zk,getD->zI,drop_eq_getElem_cons->zH,take_concat_get->xn,concat_eq_append->yT,length_take->yR,map_cons->zE,eq_nil_or_concat->yJ,drop_of_length_le->zZ,map_nil->yb,findIdx?_eq_some_iff_getElem->ym,append_nil->yh,drop_append_of_le_length->xQ,length_map->zb,take_of_length_le->zj,isPrefixOf->yI,drop_zero->yn,getD_cons_succ->zM,any_eq_false->wQ
open UInt8 renaming toNat_inj->yp,toNat_ofNat->yd,ofNat->xI
open Nat renaming le_refl->zz
open And renaming intro->z8
open Bool renaming false_and->zi,and_self->zn
set_option linter.unusedSimpArgs false
set_option linter.unusedVariables false
namespace Go.Ab
def c316(F T:Nat->Nat):C:=.n [.alloc 2 (T 16) [.nils,.nils,.nils],.mov (some 3) (.i 0),.mov (some 4) (.i 0)]<|.seq (.n [.m 11 0,.ls 12 11,.bi 13 .gtr 12 8192]<|.cond (.t 13) (.n [.build (some 14) [.nils,.nils,.nils] [],.store 3 (.t 2) (.t 14),.mov (some 3) (.i 0),.mov (some 4) (.i 3)]<|.ret) (.skip))<|.n [.alloc 5 (T 16) [.nils,.nils,.nils]]<|.n [.m 15 0,.c 16 (F 387) [.t 15],.m 6 16]<|.seq (.n [.mov (some 7) (.i 0)]<|.block 0<|.loop<|.seq (.n [.m 17 7,.m 18 6,.ll 19 18,.b 20 .lss 17 19]<|.cond (.t 20) (.skip) (.exit 0))<|.seq (.block 1<|.seq (.p [.load (some 24) false 3 true (.t 5),.m 25 6,.m 26 7,.ia 27 1 25 26,.l 28 27,.c 29 (F 388) [.t 24,.t 28],.m 23 29,.x 30 0 23,.x 31 1 23,.alloc 8 (T 16) [.nils,.nils,.nils],.store 3 (.t 8) (.t 30),.m 9 31])<|.seq (.n [.m 32 9,.un (some 33) .not (.t 32)]<|.cond (.t 33) (.n [.build (some 34) [.nils,.nils,.nils] [],.m 35 7,.bi 36 .add 35 1,.store 3 (.t 2) (.t 34),.m 3 36,.mov (some 4) (.i 1)]<|.ret) (.skip))<|.o [.load (some 37) false 3 true (.t 8),.store 3 (.t 5) (.t 37)])<|.o [.m 21 7,.bi 22 .add 21 1,.m 7 22])<|.seq (.n [.load (some 38) false 3 true (.t 5),.c 39 (F 389) [.t 38],.m 10 39]<|.n [.m 40 10,.bi 41 .neq 40 0]<|.cond (.t 41) (.n [.build (some 42) [.nils,.nils,.nils] [],.m 43 10,.store 3 (.t 2) (.t 42),.mov (some 3) (.i 0),.m 4 43]<|.ret) (.skip))<|.n [.load (some 44) false 3 true (.t 5),.store 3 (.t 2) (.t 44),.mov (some 3) (.i 0),.mov (some 4) (.i 0)]<|.ret
abbrev bMr(P:Program)(F T:Nat->Nat):Prop:=Fn P (F 316) 45 [(2,(some (3,true))),(3,none),(4,none)] (c316 F T)
def c387(F T:Nat->Nat):C:=.n [.mov (some 2) (.k .nils)]<|.n [.mkv 6 (T 21) 1 [],.m 3 6]<|.n [.mov (some 4) (.i 0)]<|.seq (.n [.mov (some 5) (.i 0)]<|.block 0<|.loop<|.seq (.n [.m 7 5,.m 8 0,.ls 9 8,.b 10 .lss 7 9]<|.cond (.t 10) (.skip) (.exit 0))<|.seq (.block 1<|.n [.m 13 0,.m 14 5,.ix 15 13 14,.bin (some 16) .eql (.t 15) (.k (.int .u8 10))]<|.cond (.t 16) (.n [.m 17 3,.m 18 0,.m 19 4,.m 20 5,.slcS (some 21) (.t 18) (some (.t 19)) (some (.t 20)),.mkl (some 22) 1 [.t 21],.app 23 (T 21) 1 (.t 17) (.t 22),.m 3 23]<|.o [.m 24 5,.bi 25 .add 24 1,.m 4 25]) (.skip))<|.o [.m 11 5,.bi 12 .add 11 1,.m 5 12])<|.n [.m 26 3,.m 27 0,.m 28 4,.slcS (some 29) (.t 27) (some (.t 28)) none,.mkl (some 30) 1 [.t 29],.app 31 (T 21) 1 (.t 26) (.t 30),.m 2 31]<|.ret
abbrev bIw(P:Program)(F T:Nat->Nat):Prop:=Fn P (F 387) 32 [(2,none)] (c387 F T)
def c388(F T:Nat->Nat):C:=.n [.box 2 (T 16) (.t 0),.alloc 4 (T 16) [.nils,.nils,.nils],.mov (some 5) (.k (.bool false))]<|.n [.m 12 1,.c 13 (F 403) [.t 12],.m 6 13]<|.seq (.seq (.ops false [⟨none,[.m 14 6,.ll 15 14,.bi 16 .eql 15 0,.m 17 16]⟩,⟨some (17,false),[.m 18 6,.iadr (some 19) 1 (.t 18) (.i 0),.l 20 19,.idx (some 21) (.t 20) (.i 0),.bin (some 22) .eql (.t 21) (.k (.int .u8 35))]⟩,⟨none,[.pt 23 17 22]⟩])<|.cond (.t 23) (.n [.load (some 24) false 3 true (.t 2),.store 3 (.t 4) (.t 24),.mov (some 5) (.k (.bool true))]<|.ret) (.skip))<|.seq (.n [.m 25 6,.iadr (some 26) 1 (.t 25) (.i 0),.l 27 26]<|.block 0<|.n [.bin (some 29) .eql (.t 27) (.s [103,114,111,117,112]),.m 28 29]<|.cond (.t 28) (.seq (.n [.m 30 6,.ll 31 30,.bi 32 .lss 31 2]<|.cond (.t 32) (.n [.load (some 33) false 3 true (.t 2),.store 3 (.t 4) (.t 33),.mov (some 5) (.k (.bool false))]<|.ret) (.skip))<|.seq (.p [.f 34 0 2,.l 35 34,.appl 36 (T 22) 2 (.t 35),.m 37 6,.iadr (some 38) 1 (.t 37) (.i 1),.l 39 38,.m 40 6,.slc (some 41) 1 (.t 40) (some (.i 2)) none,.appl 42 (T 21) 1 (.t 41),.build (some 43) [(.str []),.nils] [(0,1,(.t 39)),(1,1,(.t 42))],.mkl (some 44) 2 [.t 43],.app 45 (T 22) 2 (.t 36) (.t 44),.f 46 0 2,.store 1 (.t 46) (.t 45)])<|.seq (.gh .fz<|.o [.load (some 47) false 3 true (.t 2),.store 3 (.t 4) (.t 47),.mov (some 5) (.k (.bool true))])<|.ret) (.seq (.n [.bin (some 49) .eql (.t 27) (.s [97,108,108,111,119]),.m 48 49]<|.cond (.t 48) (.skip) (.o [.bin (some 50) .eql (.t 27) (.s [100,101,110,121]),.m 48 50]))<|.cond (.t 48) (.seq (.seq (.ops false [⟨none,[.m 51 6,.ll 52 51,.bi 53 .lss 52 4,.m 54 53]⟩,⟨some (54,false),[.m 55 6,.iadr (some 56) 1 (.t 55) (.i 1),.l 57 56,.c 58 (F 404) [.t 57],.bi 59 .eql 58 0]⟩,⟨none,[.pt 60 54 59]⟩])<|.cond (.t 60) (.n [.load (some 61) false 3 true (.t 2),.store 3 (.t 4) (.t 61),.mov (some 5) (.k (.bool false))]<|.ret) (.skip))<|.n [.m 63 1,.c 64 (F 408) [.t 63,.i 3],.c 65 (F 405) [.t 64],.m 62 65,.x 66 0 62,.x 67 1 62,.alloc 7 (T 18) [(.int .i64 0),(.int .i64 0),(.str [])],.store 3 (.t 7) (.t 66),.m 8 67]<|.seq (.p [.f 68 1 2,.l 69 68,.appl 70 (T 19) 6 (.t 69),.m 71 6,.iadr (some 72) 1 (.t 71) (.i 0),.l 73 72,.bin (some 74) .eql (.t 73) (.s [97,108,108,111,119]),.m 75 6,.iadr (some 76) 1 (.t 75) (.i 1),.l 77 76,.c 78 (F 404) [.t 77],.m 79 6,.iadr (some 80) 1 (.t 79) (.i 2),.l 81 80,.load (some 82) false 3 true (.t 7),.build (some 83) [(.bool false),(.int .i64 0),(.str []),(.int .i64 0),(.int .i64 0),(.str [])] [(0,1,(.t 74)),(1,1,(.t 78)),(2,1,(.t 81)),(3,3,(.t 82))],.mkl (some 84) 6 [.t 83],.app 85 (T 19) 6 (.t 70) (.t 84),.f 86 1 2,.store 1 (.t 86) (.t 85)])<|.n [.load (some 87) false 3 true (.t 2),.m 88 8,.store 3 (.t 4) (.t 87),.m 5 88]<|.ret) (.seq (.n [.bin (some 90) .eql (.t 27) (.s [103,117,97,114,100]),.m 89 90]<|.cond (.t 89) (.skip) (.o [.bin (some 91) .eql (.t 27) (.s [115,116,114,105,99,116]),.m 89 91]))<|.cond (.t 89) (.seq (.n [.m 92 6,.ll 93 92,.bi 94 .lss 93 3]<|.cond (.t 94) (.n [.load (some 95) false 3 true (.t 2),.store 3 (.t 4) (.t 95),.mov (some 5) (.k (.bool false))]<|.ret) (.skip))<|.n [.m 97 1,.c 98 (F 408) [.t 97,.i 2],.c 99 (F 409) [.t 98],.m 96 99,.x 100 0 96,.x 101 1 96,.x 102 2 96,.alloc 9 (T 17) [(.int .i64 0),(.str [])],.store 2 (.t 9) (.t 100),.m 10 101,.m 11 102]<|.seq (.p [.f 103 2 2,.l 104 103,.appl 105 (T 20) 5 (.t 104),.m 106 6,.iadr (some 107) 1 (.t 106) (.i 0),.l 108 107,.bin (some 109) .eql (.t 108) (.s [115,116,114,105,99,116]),.m 110 6,.iadr (some 111) 1 (.t 110) (.i 1),.l 112 111,.load (some 113) false 2 true (.t 9),.m 114 10,.build (some 115) [(.bool false),(.str []),(.int .i64 0),(.str []),(.str [])] [(0,1,(.t 109)),(1,1,(.t 112)),(2,2,(.t 113)),(4,1,(.t 114))],.mkl (some 116) 5 [.t 115],.app 117 (T 20) 5 (.t 105) (.t 116),.f 118 2 2,.store 1 (.t 118) (.t 117)])<|.n [.load (some 119) false 3 true (.t 2),.m 120 11,.store 3 (.t 4) (.t 119),.m 5 120]<|.ret) (.skip))))<|.n [.load (some 121) false 3 true (.t 2),.store 3 (.t 4) (.t 121),.mov (some 5) (.k (.bool false))]<|.ret
abbrev bOy(P:Program)(F T:Nat->Nat):Prop:=Fn P (F 388) 122 [(4,(some (3,true))),(5,none)] (c388 F T)
def c389(F T:Nat->Nat):C:=.n [.box 1 (T 16) (.t 0),.mov (some 2) (.i 0)]<|.seq (.seq (.ops false [⟨none,[.f 9 0 1,.l 10 9,.ll 11 10,.bi 12 .gtr 11 24,.m 13 12]⟩,⟨some (13,false),[.f 14 1 1,.l 15 14,.ll 16 15,.bi 17 .gtr 16 64]⟩,⟨none,[.pt 18 13 17,.m 19 18]⟩,⟨some (19,false),[.f 20 2 1,.l 21 20,.ll 22 21,.bi 23 .gtr 22 64]⟩,⟨none,[.pt 24 19 23]⟩])<|.cond (.t 24) (.n [.mov (some 2) (.i 3)]<|.ret) (.skip))<|.seqc (.n [.mov (some 3) (.i 0)]<|.block 0<|.loop<|.seq (.n [.m 25 3,.f 26 0 1,.l 27 26,.ll 28 27,.b 29 .lss 25 28]<|.cond (.t 29) (.skip) (.exit 0))<|.seq (.block 1<|.n [.f 32 0 1,.l 33 32,.m 34 3,.c 35 (F 392) [.t 33,.t 34],.m 4 35]<|.n [.m 36 4,.bi 37 .neq 36 0]<|.cond (.t 37) (.n [.m 38 4,.m 2 38]<|.ret) (.skip))<|.o [.m 30 3,.bi 31 .add 30 1,.m 3 31])<|.seqc (.n [.mov (some 5) (.i 0)]<|.block 2<|.loop<|.seq (.n [.m 39 5,.f 40 1 1,.l 41 40,.ll 42 41,.b 43 .lss 39 42]<|.cond (.t 43) (.skip) (.exit 2))<|.seq (.block 3<|.n [.f 46 1 1,.l 47 46,.m 48 5,.ia 49 6 47 48,.load (some 50) false 6 true (.t 49),.alloc 6 (T 19) [(.bool false),(.int .i64 0),(.str []),(.int .i64 0),(.int .i64 0),(.str [])],.store 6 (.t 6) (.t 50)]<|.block 4<|.seq (.ops false [⟨none,[.f 52 1 6,.l 53 52,.bi 54 .lss 53 1,.m 55 54]⟩,⟨some (55,false),[.f 56 1 6,.l 57 56,.bi 58 .gtr 57 5]⟩,⟨none,[.pt 59 55 58,.m 51 59]⟩])<|.cond (.t 51) (.n [.mov (some 2) (.i 2)]<|.ret) (.n [.f 61 0 1,.l 62 61,.f 63 2 6,.l 64 63,.c 65 (F 393) [.t 62,.t 64],.un (some 66) .not (.t 65),.m 60 66]<|.cond (.t 60) (.n [.mov (some 2) (.i 4)]<|.ret) (.n [.f 68 3 6,.load (some 69) false 3 true (.t 68),.c 70 (F 394) [.t 69],.un (some 71) .not (.t 70),.m 67 71]<|.cond (.t 67) (.n [.mov (some 2) (.i 7)]<|.ret) (.skip))))<|.o [.m 44 5,.bi 45 .add 44 1,.m 5 45])<|.seq (.n [.mov (some 7) (.i 0)]<|.block 5<|.loop<|.seq (.n [.m 72 7,.f 73 2 1,.l 74 73,.ll 75 74,.b 76 .lss 72 75]<|.cond (.t 76) (.skip) (.exit 5))<|.seq (.block 6<|.n [.f 79 2 1,.l 80 79,.m 81 7,.ia 82 5 80 81,.load (some 83) false 5 true (.t 82),.alloc 8 (T 20) [(.bool false),(.str []),(.int .i64 0),(.str []),(.str [])],.store 5 (.t 8) (.t 83)]<|.block 7<|.n [.f 85 0 1,.l 86 85,.f 87 1 8,.l 88 87,.c 89 (F 393) [.t 86,.t 88],.un (some 90) .not (.t 89),.m 84 90]<|.cond (.t 84) (.n [.mov (some 2) (.i 4)]<|.ret) (.seq (.ops false [⟨none,[.f 92 2 8,.load (some 93) false 2 true (.t 92),.c 94 (F 199) [.t 93],.un (some 95) .not (.t 94),.m 96 95]⟩,⟨some (96,false),[.f 97 4 8,.l 98 97,.c 99 (F 395) [.t 98],.un (some 100) .not (.t 99)]⟩,⟨none,[.pt 101 96 100,.m 91 101]⟩])<|.cond (.t 91) (.n [.mov (some 2) (.i 7)]<|.ret) (.skip)))<|.o [.m 77 7,.bi 78 .add 77 1,.m 7 78])<|.n [.mov (some 2) (.i 0)]<|.ret
abbrev bNy(P:Program)(F T:Nat->Nat):Prop:=Fn P (F 389) 102 [(2,none)] (c389 F T)
def c392(F T:Nat->Nat):C:=.n [.mov (some 4) (.i 0)]<|.n [.m 8 0,.m 9 1,.ia 10 2 8 9,.load (some 11) false 2 true (.t 10),.alloc 5 (T 22) [(.str []),.nils],.store 2 (.t 5) (.t 11)]<|.seq (.n [.f 12 0 5,.l 13 12,.c 14 (F 217) [.t 13],.un (some 15) .not (.t 14)]<|.cond (.t 15) (.n [.mov (some 4) (.i 1)]<|.ret) (.skip))<|.seq (.seq (.p [.m 16 0,.m 17 1,.slc (some 18) 2 (.t 16) none (some (.t 17)),.f 19 0 5,.l 20 19,.c 21 (F 393) [.t 18,.t 20]])<|.cond (.t 21) (.n [.mov (some 4) (.i 5)]<|.ret) (.skip))<|.seq (.n [.f 22 1 5,.l 23 22,.ll 24 23,.bi 25 .gtr 24 24]<|.cond (.t 25) (.n [.mov (some 4) (.i 3)]<|.ret) (.skip))<|.seq (.n [.mov (some 6) (.i 0)]<|.block 0<|.loop<|.seq (.n [.m 26 6,.f 27 1 5,.l 28 27,.ll 29 28,.b 30 .lss 26 29]<|.cond (.t 30) (.skip) (.exit 0))<|.seq (.block 1<|.n [.f 33 1 5,.l 34 33,.m 35 6,.ia 36 1 34 35,.l 37 36,.m 7 37]<|.seq (.seq (.ops false [⟨none,[.m 38 7,.ls 39 38,.bi 40 .gtr 39 0,.m 41 40]⟩,⟨some (41,true),[.m 42 7,.idx (some 43) (.t 42) (.i 0),.bin (some 44) .eql (.t 43) (.k (.int .u8 64))]⟩,⟨none,[.pf 45 41 44]⟩])<|.cond (.t 45) (.seq (.n [.m 46 7,.slcS (some 47) (.t 46) (some (.i 1)) none,.c 48 (F 217) [.t 47],.un (some 49) .not (.t 48)]<|.cond (.t 49) (.n [.mov (some 4) (.i 1)]<|.ret) (.skip))<|.seq (.n [.m 50 0,.m 51 7,.slcS (some 52) (.t 51) (some (.i 1)) none,.c 53 (F 393) [.t 50,.t 52],.un (some 54) .not (.t 53)]<|.cond (.t 54) (.n [.mov (some 4) (.i 4)]<|.ret) (.skip))<|.exit 1) (.skip))<|.n [.m 55 7,.c 56 (F 217) [.t 55],.un (some 57) .not (.t 56)]<|.cond (.t 57) (.n [.mov (some 4) (.i 1)]<|.ret) (.skip))<|.o [.m 31 6,.bi 32 .add 31 1,.m 6 32])<|.n [.mov (some 4) (.i 0)]<|.ret
abbrev bKb(P:Program)(F T:Nat->Nat):Prop:=Fn P (F 392) 58 [(4,none)] (c392 F T)
def c393(F T:Nat->Nat):C:=.n [.mov (some 4) (.k (.bool false))]<|.seq (.n [.mov (some 5) (.i 0)]<|.block 0<|.loop<|.seq (.n [.m 6 5,.m 7 0,.ll 8 7,.b 9 .lss 6 8]<|.cond (.t 9) (.skip) (.exit 0))<|.seq (.block 1<|.n [.m 12 0,.m 13 5,.ia 14 2 12 13,.f 15 0 14,.l 16 15,.m 17 1,.b 18 .eql 16 17]<|.cond (.t 18) (.n [.mov (some 4) (.k (.bool true))]<|.ret) (.skip))<|.o [.m 10 5,.bi 11 .add 10 1,.m 5 11])<|.n [.m 19 1,.c 20 (F 410) [.t 19],.m 4 20]<|.ret
abbrev bE7(P:Program)(F T:Nat->Nat):Prop:=Fn P (F 393) 21 [(4,none)] (c393 F T)
def c394(F T:Nat->Nat):C:=.n [.box 1 (T 18) (.t 0),.mov (some 2) (.k (.bool false))]<|.seq (.n [.f 3 0 1,.l 4 3]<|.block 0<|.n [.bi 6 .eql 4 1,.m 5 6]<|.cond (.t 5) (.n [.f 7 1 1,.load (some 8) false 2 true (.t 7),.build (some 9) [(.int .i64 0),(.str [])] [],.eqA (some 10) false [0,1] (.t 8) (.t 9),.m 2 10]<|.ret) (.n [.bi 12 .eql 4 2,.m 11 12]<|.cond (.t 11) (.seq (.ops false [⟨none,[.f 13 1 1,.f 14 0 13,.l 15 14,.bi 16 .geq 15 0,.m 17 16]⟩,⟨some (17,true),[.f 18 1 1,.f 19 0 18,.l 20 19,.bi 21 .lss 20 6]⟩,⟨none,[.pf 22 17 21,.m 23 22]⟩,⟨some (23,true),[.f 24 1 1,.f 25 1 24,.l 26 25,.bin (some 27) .eql (.t 26) (.s [])]⟩,⟨none,[.pf 28 23 27,.m 2 28]⟩])<|.ret) (.n [.bi 30 .eql 4 3,.m 29 30]<|.cond (.t 29) (.n [.f 31 1 1,.load (some 32) false 2 true (.t 31),.c 33 (F 199) [.t 32],.m 2 33]<|.ret) (.skip))))<|.n [.mov (some 2) (.k (.bool false))]<|.ret
abbrev bIx(P:Program)(F T:Nat->Nat):Prop:=Fn P (F 394) 34 [(2,none)] (c394 F T)
def c395(F T:Nat->Nat):C:=.n [.mov (some 2) (.k (.bool false))]<|.seq (.seq (.ops false [⟨none,[.m 3 0,.ls 4 3,.bi 5 .gtr 4 100,.m 6 5]⟩,⟨some (6,false),[.m 7 0,.c 8 (F 125) [.t 7],.m 9 0,.b 10 .neq 8 9]⟩,⟨none,[.pt 11 6 10]⟩])<|.cond (.t 11) (.n [.mov (some 2) (.k (.bool false))]<|.ret) (.skip))<|.seq (.ops false [⟨none,[.m 12 0,.c 13 (F 102) [.t 12,.s [10],.i 0],.bi 14 .lss 13 0,.m 15 14]⟩,⟨some (15,true),[.m 16 0,.c 17 (F 102) [.t 16,.s [124],.i 0],.bi 18 .lss 17 0]⟩,⟨none,[.pf 19 15 18,.m 2 19]⟩])<|.ret
abbrev bHk(P:Program)(F T:Nat->Nat):Prop:=Fn P (F 395) 20 [(2,none)] (c395 F T)
def c403(F T:Nat->Nat):C:=.n [.mov (some 2) (.k .nils)]<|.n [.mov (some 3) (.k .nils)]<|.n [.mov (some 4) (.s [])]<|.seq (.n [.mov (some 5) (.i 0)]<|.block 0<|.loop<|.seq (.n [.m 6 5,.m 7 0,.ls 8 7,.b 9 .lss 6 8]<|.cond (.t 9) (.skip) (.exit 0))<|.seq (.block 1<|.seq (.seq (.ops false [⟨none,[.m 12 0,.m 13 5,.ix 14 12 13,.bin (some 15) .eql (.t 14) (.k (.int .u8 9)),.m 16 15]⟩,⟨some (16,false),[.m 17 0,.m 18 5,.ix 19 17 18,.bin (some 20) .eql (.t 19) (.k (.int .u8 32))]⟩,⟨none,[.pt 21 16 20]⟩])<|.cond (.t 21) (.seq (.n [.m 22 4,.bin (some 23) .neq (.t 22) (.s [])]<|.cond (.t 23) (.o [.m 24 3,.m 25 4,.mkl (some 26) 1 [.t 25],.app 27 (T 21) 1 (.t 24) (.t 26),.m 3 27]) (.skip))<|.n [.mov (some 4) (.s [])]<|.exit 1) (.skip))<|.o [.m 28 4,.m 29 0,.m 30 5,.m 31 5,.bi 32 .add 31 1,.slcS (some 33) (.t 29) (some (.t 30)) (some (.t 32)),.b 34 .add 28 33,.m 4 34])<|.o [.m 10 5,.bi 11 .add 10 1,.m 5 11])<|.seq (.n [.m 35 4,.bin (some 36) .neq (.t 35) (.s [])]<|.cond (.t 36) (.o [.m 37 3,.m 38 4,.mkl (some 39) 1 [.t 38],.app 40 (T 21) 1 (.t 37) (.t 39),.m 3 40]) (.skip))<|.n [.m 41 3,.m 2 41]<|.ret
abbrev bHj(P:Program)(F T:Nat->Nat):Prop:=Fn P (F 403) 42 [(2,none)] (c403 F T)
def c404(F T:Nat->Nat):C:=.n [.mov (some 2) (.i 0)]<|.n [.mkl (some 5) 1 [.s [],.s [114,101,97,100],.s [101,100,105,116],.s [109,111,118,101],.s [100,101,108,101,116,101],.s [114,101,118,105,101,119]],.m 3 5]<|.seq (.n [.mov (some 4) (.i 1)]<|.block 0<|.loop<|.seq (.n [.m 6 4,.m 7 3,.ll 8 7,.b 9 .lss 6 8]<|.cond (.t 9) (.skip) (.exit 0))<|.seq (.block 1<|.n [.m 12 3,.m 13 4,.ia 14 1 12 13,.l 15 14,.m 16 0,.b 17 .eql 15 16]<|.cond (.t 17) (.n [.m 18 4,.m 2 18]<|.ret) (.skip))<|.o [.m 10 4,.bi 11 .add 10 1,.m 4 11])<|.n [.mov (some 2) (.i 0)]<|.ret
abbrev bI3(P:Program)(F T:Nat->Nat):Prop:=Fn P (F 404) 19 [(2,none)] (c404 F T)
def c405(F T:Nat->Nat):C:=.n [.alloc 2 (T 18) [(.int .i64 0),(.int .i64 0),(.str [])],.mov (some 3) (.k (.bool false))]<|.seq (.n [.m 7 0,.bin (some 8) .eql (.t 7) (.s [60,97,108,108,62])]<|.cond (.t 8) (.n [.build (some 9) [(.int .i64 0),(.int .i64 0),(.str [])] [(0,1,(.i 1))],.store 3 (.t 2) (.t 9),.mov (some 3) (.k (.bool true))]<|.ret) (.skip))<|.seq (.n [.mov (some 4) (.i 0)]<|.block 0<|.loop<|.seq (.n [.m 10 4,.bi 11 .lss 10 6]<|.cond (.t 11) (.skip) (.exit 0))<|.seq (.block 1<|.n [.m 14 0,.m 15 4,.c 16 (F 406) [.t 15],.b 17 .eql 14 16]<|.cond (.t 17) (.n [.m 18 4,.build (some 19) [(.int .i64 0),(.str [])] [(0,1,(.t 18))],.build (some 20) [(.int .i64 0),(.int .i64 0),(.str [])] [(0,1,(.i 2)),(1,2,(.t 19))],.store 3 (.t 2) (.t 20),.mov (some 3) (.k (.bool true))]<|.ret) (.skip))<|.o [.m 12 4,.bi 13 .add 12 1,.m 4 13])<|.n [.m 22 0,.c 23 (F 407) [.t 22],.m 21 23,.x 24 0 21,.x 25 1 21,.alloc 5 (T 17) [(.int .i64 0),(.str [])],.store 2 (.t 5) (.t 24),.m 6 25]<|.n [.load (some 26) false 2 true (.t 5),.build (some 27) [(.int .i64 0),(.int .i64 0),(.str [])] [(0,1,(.i 3)),(1,2,(.t 26))],.m 28 6,.bi 29 .eql 28 0,.store 3 (.t 2) (.t 27),.m 3 29]<|.ret
abbrev bJe(P:Program)(F T:Nat->Nat):Prop:=Fn P (F 405) 30 [(2,(some (3,true))),(3,none)] (c405 F T)
def c406(F T:Nat->Nat):C:=.n [.mov (some 2) (.s [])]<|.seq (.n [.m 3 0,.bi 4 .eql 3 0]<|.cond (.t 4) (.n [.mov (some 2) (.s [60,77,97,105,110,62])]<|.ret) (.skip))<|.n [.m 5 0,.c 6 (F 205) [.t 5],.bin (some 7) .add (.s [60]) (.t 6),.bin (some 8) .add (.t 7) (.s [62]),.m 2 8]<|.ret
abbrev bFr(P:Program)(F T:Nat->Nat):Prop:=Fn P (F 406) 9 [(2,none)] (c406 F T)
def c407(F T:Nat->Nat):C:=.n [.alloc 2 (T 17) [(.int .i64 0),(.str [])],.mov (some 3) (.i 0)]<|.n [.m 9 0,.c 10 (F 421) [.t 9],.m 0 10]<|.seqc (.seq (.ops false [⟨none,[.m 11 0,.ls 12 11,.bi 13 .gtr 12 0,.m 14 13]⟩,⟨some (14,true),[.m 15 0,.idx (some 16) (.t 15) (.i 0),.bin (some 17) .eql (.t 16) (.k (.int .u8 58))]⟩,⟨none,[.pf 18 14 17]⟩])<|.cond (.t 18) (.o [.m 19 0,.c 20 (F 422) [.t 19,.i 1],.m 0 20]) (.skip))<|.n [.m 22 0,.c 23 (F 202) [.t 22],.m 21 23,.x 24 0 21,.x 25 1 21,.m 4 24,.m 5 25]<|.seqc (.n [.m 26 4,.bi 27 .gtr 26 0]<|.cond (.t 27) (.o [.m 28 0,.m 29 5,.bi 30 .add 29 1,.c 31 (F 422) [.t 28,.t 30],.m 0 31]) (.skip))<|.n [.mov (some 6) (.s [])]<|.seqc (.n [.mov (some 7) (.i 0)]<|.block 0<|.loop<|.seq (.n [.m 32 7,.m 33 0,.ls 34 33,.b 35 .lss 32 34]<|.cond (.t 35) (.skip) (.exit 0))<|.seq (.block 1<|.seq (.seq (.ops false [⟨none,[.m 38 0,.m 39 7,.ix 40 38 39,.bin (some 41) .eql (.t 40) (.k (.int .u8 32)),.m 42 41]⟩,⟨some (42,true),[.m 43 7,.bi 44 .gtr 43 0,.m 45 44]⟩,⟨some (45,true),[.m 46 0,.m 47 7,.bi 48 .sub 47 1,.ix 49 46 48,.bin (some 50) .eql (.t 49) (.k (.int .u8 47))]⟩,⟨some (42,true),[.pf 51 45 50,.m 52 51]⟩,⟨some (52,false),[.m 53 7,.bi 54 .add 53 1,.m 55 0,.ls 56 55,.b 57 .lss 54 56,.m 58 57]⟩,⟨some (58,true),[.m 59 0,.m 60 7,.bi 61 .add 60 1,.ix 62 59 61,.bin (some 63) .eql (.t 62) (.k (.int .u8 47))]⟩,⟨some (52,false),[.pf 64 58 63]⟩,⟨some (42,true),[.pt 65 52 64]⟩,⟨none,[.pf 66 42 65]⟩])<|.cond (.t 66) (.exit 1) (.skip))<|.o [.m 67 6,.m 68 0,.m 69 7,.m 70 7,.bi 71 .add 70 1,.slcS (some 72) (.t 68) (some (.t 69)) (some (.t 71)),.b 73 .add 67 72,.m 6 73])<|.o [.m 36 7,.bi 37 .add 36 1,.m 7 37])<|.seqc (.seq (.ops false [⟨none,[.m 74 6,.ls 75 74,.bi 76 .gtr 75 0,.m 77 76]⟩,⟨some (77,true),[.m 78 6,.idx (some 79) (.t 78) (.i 0),.bin (some 80) .geq (.t 79) (.k (.int .u8 97))]⟩,⟨none,[.pf 81 77 80,.m 82 81]⟩,⟨some (82,true),[.m 83 6,.idx (some 84) (.t 83) (.i 0),.bin (some 85) .leq (.t 84) (.k (.int .u8 122))]⟩,⟨none,[.pf 86 82 85]⟩])<|.cond (.t 86) (.p [.m 87 6,.idx (some 88) (.t 87) (.i 0),.bin (some 89) .sub (.t 88) (.k (.int .u8 32)),.mkl (some 90) 1 [.t 89],.b2s (some 91) (.t 90),.m 92 6,.slcS (some 93) (.t 92) (some (.i 1)) none,.b 94 .add 91 93,.m 6 94]) (.skip))<|.seq (.n [.m 95 6,.ls 96 95,.bi 97 .gtr 96 100]<|.cond (.t 97) (.n [.build (some 98) [(.int .i64 0),(.str [])] [],.store 2 (.t 2) (.t 98),.mov (some 3) (.i 3)]<|.ret) (.skip))<|.n [.m 99 4,.m 100 6,.build (some 101) [(.int .i64 0),(.str [])] [(0,1,(.t 99)),(1,1,(.t 100))],.alloc 8 (T 17) [(.int .i64 0),(.str [])],.store 2 (.t 8) (.t 101)]<|.seq (.n [.load (some 102) false 2 true (.t 8),.c 103 (F 199) [.t 102],.un (some 104) .not (.t 103)]<|.cond (.t 104) (.n [.build (some 105) [(.int .i64 0),(.str [])] [],.store 2 (.t 2) (.t 105),.mov (some 3) (.i 1)]<|.ret) (.skip))<|.n [.load (some 106) false 2 true (.t 8),.store 2 (.t 2) (.t 106),.mov (some 3) (.i 0)]<|.ret
abbrev bMw(P:Program)(F T:Nat->Nat):Prop:=Fn P (F 407) 107 [(2,(some (2,true))),(3,none)] (c407 F T)
def c408(F T:Nat->Nat):C:=.n [.mov (some 4) (.s [])]<|.seq (.n [.mov (some 5) (.i 0)]<|.block 0<|.loop<|.seq (.n [.m 6 5,.m 7 1,.b 8 .lss 6 7]<|.cond (.t 8) (.skip) (.exit 0))<|.seq (.block 1<|.n [.m 11 0,.c 12 (F 125) [.t 11],.m 0 12]<|.block 2<|.loop<|.seq (.seq (.ops false [⟨none,[.m 13 0,.ls 14 13,.bi 15 .gtr 14 0,.m 16 15]⟩,⟨some (16,true),[.m 17 0,.idx (some 18) (.t 17) (.i 0),.bin (some 19) .neq (.t 18) (.k (.int .u8 9))]⟩,⟨none,[.pf 20 16 19,.m 21 20]⟩,⟨some (21,true),[.m 22 0,.idx (some 23) (.t 22) (.i 0),.bin (some 24) .neq (.t 23) (.k (.int .u8 32))]⟩,⟨none,[.pf 25 21 24]⟩])<|.cond (.t 25) (.skip) (.exit 2))<|.block 3<|.o [.m 26 0,.slcS (some 27) (.t 26) (some (.i 1)) none,.m 0 27])<|.o [.m 9 5,.bi 10 .add 9 1,.m 5 10])<|.n [.m 28 0,.c 29 (F 125) [.t 28],.m 4 29]<|.ret
abbrev bJ7(P:Program)(F T:Nat->Nat):Prop:=Fn P (F 408) 30 [(4,none)] (c408 F T)
def c409(F T:Nat->Nat):C:=.n [.alloc 2 (T 17) [(.int .i64 0),(.str [])],.mov (some 3) (.s []),.mov (some 4) (.k (.bool false))]<|.n [.mov (some 5) (.s [])]<|.seq (.n [.m 9 0,.c 10 (F 102) [.t 9,.s [124],.i 0],.m 6 10]<|.n [.m 11 6,.bi 12 .geq 11 0]<|.cond (.t 12) (.n [.m 13 0,.m 14 6,.bi 15 .add 14 1,.slcS (some 16) (.t 13) (some (.t 15)) none,.c 17 (F 125) [.t 16],.m 5 17]<|.seq (.n [.m 18 5,.bin (some 19) .eql (.t 18) (.s [])]<|.cond (.t 19) (.n [.build (some 20) [(.int .i64 0),(.str [])] [],.store 2 (.t 2) (.t 20),.mov (some 3) (.s []),.mov (some 4) (.k (.bool false))]<|.ret) (.skip))<|.o [.m 21 0,.m 22 6,.slcS (some 23) (.t 21) none (some (.t 22)),.m 0 23]) (.skip))<|.n [.m 25 0,.c 26 (F 125) [.t 25],.c 27 (F 407) [.t 26],.m 24 27,.x 28 0 24,.x 29 1 24,.alloc 7 (T 17) [(.int .i64 0),(.str [])],.store 2 (.t 7) (.t 28),.m 8 29]<|.n [.load (some 30) false 2 true (.t 7),.m 31 5,.m 32 8,.bi 33 .eql 32 0,.store 2 (.t 2) (.t 30),.m 3 31,.m 4 33]<|.ret
abbrev bIz(P:Program)(F T:Nat->Nat):Prop:=Fn P (F 409) 34 [(2,(some (2,true))),(3,none),(4,none)] (c409 F T)
def c410(F T:Nat->Nat):C:=.n [.mov (some 2) (.k (.bool false))]<|.seq (.ops false [⟨none,[.m 3 0,.bin (some 4) .eql (.t 3) (.s [97,108,108]),.m 5 4]⟩,⟨some (5,false),[.m 6 0,.bin (some 7) .eql (.t 6) (.s [117,115,101,114,115])]⟩,⟨none,[.pt 8 5 7,.m 2 8]⟩])<|.ret
abbrev aZ8(P:Program)(F T:Nat->Nat):Prop:=Fn P (F 410) 9 [(2,none)] (c410 F T)
def c421(F T:Nat->Nat):C:=.n [.mov (some 2) (.s [])]<|.n [.mov (some 3) (.s [])]<|.seq (.n [.mov (some 4) (.i 0)]<|.block 0<|.loop<|.seq (.n [.m 6 4,.m 7 0,.ls 8 7,.b 9 .lss 6 8]<|.cond (.t 9) (.skip) (.exit 0))<|.seq (.block 1<|.n [.m 12 0,.m 13 4,.m 14 4,.bi 15 .add 14 1,.slcS (some 16) (.t 12) (some (.t 13)) (some (.t 15)),.m 5 16]<|.seq (.n [.m 17 5,.bin (some 18) .eql (.t 17) (.s [95])]<|.cond (.t 18) (.o [.mov (some 5) (.s [32])]) (.skip))<|.seq (.seq (.ops false [⟨none,[.m 19 5,.bin (some 20) .eql (.t 19) (.s [32]),.m 21 20]⟩,⟨some (21,true),[.m 22 3,.bin (some 23) .eql (.t 22) (.s []),.m 24 23]⟩,⟨some (24,false),[.m 25 3,.m 26 3,.ls 27 26,.bi 28 .sub 27 1,.ix 29 25 28,.bin (some 30) .eql (.t 29) (.k (.int .u8 32))]⟩,⟨some (21,true),[.pt 31 24 30]⟩,⟨none,[.pf 32 21 31]⟩])<|.cond (.t 32) (.exit 1) (.skip))<|.o [.m 33 3,.m 34 5,.b 35 .add 33 34,.m 3 35])<|.o [.m 10 4,.bi 11 .add 10 1,.m 4 11])<|.seq (.seq (.ops false [⟨none,[.m 36 3,.ls 37 36,.bi 38 .gtr 37 0,.m 39 38]⟩,⟨some (39,true),[.m 40 3,.m 41 3,.ls 42 41,.bi 43 .sub 42 1,.ix 44 40 43,.bin (some 45) .eql (.t 44) (.k (.int .u8 32))]⟩,⟨none,[.pf 46 39 45]⟩])<|.cond (.t 46) (.o [.m 47 3,.m 48 3,.ls 49 48,.bi 50 .sub 49 1,.slcS (some 51) (.t 47) none (some (.t 50)),.m 3 51]) (.skip))<|.n [.m 52 3,.m 2 52]<|.ret
abbrev bJq(P:Program)(F T:Nat->Nat):Prop:=Fn P (F 421) 53 [(2,none)] (c421 F T)
def c422(F T:Nat->Nat):C:=.n [.mov (some 4) (.s [])]<|.n [.m 5 0,.m 6 1,.slcS (some 7) (.t 5) (some (.t 6)) none,.m 0 7]<|.seq (.seq (.ops false [⟨none,[.m 8 0,.ls 9 8,.bi 10 .gtr 9 0,.m 11 10]⟩,⟨some (11,true),[.m 12 0,.idx (some 13) (.t 12) (.i 0),.bin (some 14) .eql (.t 13) (.k (.int .u8 32))]⟩,⟨none,[.pf 15 11 14]⟩])<|.cond (.t 15) (.o [.m 16 0,.slcS (some 17) (.t 16) (some (.i 1)) none,.m 0 17]) (.skip))<|.n [.m 18 0,.m 4 18]<|.ret
abbrev bHw(P:Program)(F T:Nat->Nat):Prop:=Fn P (F 422) 19 [(4,none)] (c422 F T)
open Go.Lib
variable {P:Program} {F T:Nat->Nat}
theorem t410(hf:aZ8 P F T)(n:List UInt8):PTr P (F 410) [.str n] (.bool (aIy n)):=by
 refine ptrC [] hf (by simp) rfl ?_;unfold aIy aT uT;by_cases h1:n=[97,108,108]
 .simp only[c410,push_cast,seval,-Nat.reducePow,h1];exact aAb 3 _ rfl
 .by_cases h2:n=[117,115,101,114,115]
  .have h3:decide (([117,115,101,114,115]:List UInt8)=[97,108,108])=false:=rfl;simp only[c410,push_cast,seval,-Nat.reducePow,h2,h3];exact aAb 3 _ rfl
  .simp only[c410,push_cast,seval,-Nat.reducePow,h1,h2];exact aAb 3 _ rfl
theorem t404(hf:bI3 P F T)(w:List UInt8):PTr P (F 404) [.str w] (.int .i64 (aCf w)):=by
 refine ptrC [] hf (by simp) rfl ?_;simp only[c404,push_cast,seval,-Nat.reducePow];refine aAd (λm s1=>∃i a q,i=a.length+1∧aCm=a++q∧m=q.length∧(∀g,g∈a->decide (g=w)=false)∧s1.env 0=.str w∧s1.env 4=.int .i64 ((i:Nat):Int)∧s1.env 3=.lst 1 (.str []::aCm.map .str)) 5 ?_ λm s1 hJ=>?_
 .simp only[push_cast,seval,-Nat.reducePow];exact⟨1,[],aCm,rfl,rfl,rfl,by simp,rfl,rfl⟩
 .obtain⟨i,a,q,rfl,hb2,rfl,hall,j0,j4,j3⟩:=hJ;have hb3:5=a.length+q.length:=by have:=congrArg xc hb2;simpa[aCm]using this
  have hl:(zw V.str aCm).length=5:=rfl;unfold aCf;cases q with
  | nil =>
    have h1:¬((a.length:Nat):Int)+1<6:=by simp at hb3;omega
    have e:aCm.findIdx? (λx=>decide (x=w))=none:=by rw[zY,hb2];simpa using hall
    simp only[push_cast,seval,-Nat.reducePow,j0,j4,j3,hl,h1,e];exact aAb 3 _ rfl
  | cons g q =>
    rw[zg]at hb3;have h1:((a.length:Nat):Int)+1<6:=by omega
    have hg:(V.str []::zw V.str aCm).getD (((a.length:Nat):Int)+1).toNat .junk=.str g:=by rw[show(((a.length:Nat):Int)+1).toNat=a.length+1 by omega,hb2];simp[ze]
    by_cases e:g=w
    .have e2:aCm.findIdx? (λx=>decide (x=w))=some a.length:=by
      rw[hb2,wC,zY.2 (by simpa using hall)];simp[e,yG]
     simp only[push_cast,seval,-Nat.reducePow,j0,j4,j3,hl,h1,hg,e,e2];exact⟨by omega,by omega,aAb 3 _ rfl⟩
    .simp only[push_cast,seval,-Nat.reducePow,j0,j4,j3,hl,h1,hg,e];refine⟨by omega,by omega,⟨by omega,by omega⟩,q.length,by omega,a.length+2,a++[g],q,by simp,by rw[hb2];simp,rfl,λx hx=>?_,by simp;omega⟩;rcases zP.1 hx with hx|hx
     .exact hall x hx
     .rw[zp.1 hx];simpa using e
theorem t406(hf:bFr P F T)(h205:aRe P F T)(n:Nat)(hn:n<6):PTr P (F 406) [.int .i64 n] (.str (aC6.getD n [])):=by
 refine ptrC [] hf (by simp) rfl ?_;by_cases h0:n=0
 .subst h0;simp only[c406,push_cast,seval,-Nat.reducePow];exact aAb 3 _ rfl
 .have h0':¬((n:Nat):Int)=0:=by omega
  simp only[c406,push_cast,seval,-Nat.reducePow,h0'];refine aAa (t205 h205 n hn) (by rfl) (by rfl) ?_;simp only[push_cast,seval,-Nat.reducePow]
  match n,hn,h0 with
  | 1,_,_=>exact⟨by decide,by decide,(aAb 3 (.str _) rfl).trans rfl⟩
  | 2,_,_=>exact⟨by decide,by decide,(aAb 3 (.str _) rfl).trans rfl⟩
  | 3,_,_=>exact⟨by decide,by decide,(aAb 3 (.str _) rfl).trans rfl⟩
  | 4,_,_=>exact⟨by decide,by decide,(aAb 3 (.str _) rfl).trans rfl⟩
  | 5,_,_=>exact⟨by decide,by decide,(aAb 3 (.str _) rfl).trans rfl⟩
theorem t422(hf:bHw P F T)(s:List UInt8)(k:Nat)(hk:k<=s.length):PTr P (F 422) [.str s,.int .i64 k] (.str (cutB (s.drop k))):=by
 refine ptrC [] hf (by simp) rfl ?_;obtain⟨t,ht⟩:∃t,t=s.drop k:=⟨_,rfl⟩;have ht2:(s.take s.length).drop k=t:=by rw[zu,ht]
 rw[<-ht];cases t with
 | nil=>simp only[c422,push_cast,seval,-Nat.reducePow,ht2];exact⟨hk,aAb 3 _ rfl⟩
 | cons c r =>
   have hp:(0:Int)<((r.length:Nat):Int)+1:=by omega
   by_cases hc:c=32
   .subst hc;simp only[c422,push_cast,seval,-Nat.reducePow,ht2,zk,zg,hp];exact⟨hk,by omega,(aAb 3 (.str _) rfl).trans (by rw[zu];rfl)⟩
   .have hc':¬((c.toNat:Nat):Int)=32:=λe=>hc (yp.1 (by simp only[yd];omega));simp only[c422,push_cast,seval,-Nat.reducePow,ht2,zk,zg,hp,hc'];exact⟨hk,by omega,(aAb 3 (.str _) rfl).trans (by rw[cutB,if_neg hc])⟩
def aE0:Nat->List UInt8->List UInt8
 | 0,s=>trW s
 | n+1,s=>aE0 n (afW (trW s))
theorem bCz:∀(n:Nat) (s:List UInt8),aE0 n (trW s)=aE0 n s
 | 0,s=>aIa s
 | n+1,s=>by rw[aE0,aE0,aIa]
theorem aEu(n:Nat)(s:List UInt8):aE0 (n+1) s=aE0 n (aAr s).2:=by rw[aE0];exact(bCz n _).symm
theorem t408(hf:bJ7 P F T)(h125:aQg P F T)(h138:aPm P F T)(s:List UInt8)(n:Nat)(hs:s.length<=100000)(hn:n<=100):PTr P (F 408) [.str s,.int .i64 n] (.str (aE0 n s)):=by
 have htr:∀s:List UInt8,s.length<=100000->PTr P (F 125) [.str s] (.str (trW s)):=λs h=>by rw[<-aHg];exact t125 h125 h138 s (by omega)
 refine ptrC [] hf (by simp) rfl ?_;simp only[c408,push_cast,seval,-Nat.reducePow];refine aAd (λm s1=>∃i t,i<=n∧m=n-i∧aE0 (n-i) t=aE0 n s∧t.length<=s.length∧s1.env 0=.str t∧s1.env 5=.int .i64 ((i:Nat):Int)∧s1.env 1=.int .i64 n) n ?_ λm s1 hJ=>?_
 .simp only[push_cast,seval,-Nat.reducePow];exact⟨0,s,by omega,rfl,rfl,zz _,rfl,rfl⟩
 .obtain⟨i,t,hi,rfl,hr,ht,j0,j5,j1⟩:=hJ;have htl:=aE1 t;by_cases h:i<n
  .have h1:((i:Nat):Int)<((n:Nat):Int):=by omega
   simp only[push_cast,seval,-Nat.reducePow,j0,j5,j1,h1];refine aAa (htr t (by omega)) (by rfl) (by rfl) ?_;refine aAd (λm s1=>∃u,m=u.length∧afW u=afW (trW t)∧u.length<=t.length∧s1.env 0=.str u∧s1.env 5=.int .i64 ((i:Nat):Int)∧s1.env 1=.int .i64 n) (trW t).length ?_ λm s1 hJ=>?_
   .simp only[push_cast,seval,-Nat.reducePow,j5,j1];exact⟨trW t,rfl,rfl,htl,rfl⟩
   .obtain⟨u,rfl,hu,hul,k0,k5,k1⟩:=hJ;have fin:afW u=u->aE0 (n-(i+1)) u=aE0 n s:=λe=>by
     rw[<-hr,show n-i=(n-(i+1))+1 by omega,aE0,<-hu,e]
    cases u with
    | nil=>simp only[push_cast,seval,-Nat.reducePow,k0,k5,k1];exact⟨⟨by omega,by omega⟩,n-(i+1),by omega,i+1,[],by omega,rfl,fin rfl,by simp,rfl,by simp⟩
    | cons c r =>
      have hp:(0:Int)<((r.length:Nat):Int)+1:=by omega
      by_cases c9:c=9
      .subst c9;simp only[push_cast,seval,-Nat.reducePow,k0,k5,k1,zk,zg,hp];exact⟨by omega,⟨by omega,by omega⟩,n-(i+1),by omega,i+1,9::r,by omega,rfl,fin rfl,by omega,rfl,by simp⟩
      .have c9':¬((c.toNat:Nat):Int)=9:=λe=>c9 (yp.1 (by simp only[yd];omega));by_cases c32:c=32
       .subst c32;simp only[push_cast,seval,-Nat.reducePow,k0,k5,k1,zk,zg,hp];exact⟨by omega,by omega,⟨by omega,by omega⟩,n-(i+1),by omega,i+1,32::r,by omega,rfl,fin rfl,by omega,rfl,by simp⟩
       .have c32':¬((c.toNat:Nat):Int)=32:=λe=>c32 (yp.1 (by simp only[yd];omega));simp only[push_cast,seval,-Nat.reducePow,k0,k5,k1,zk,zg,hp,c9',c32'];have hw:isW c=false:=by simp[isW,c9,c32]
        exact⟨by omega,by omega,r.length,by omega,r,rfl,by rw[<-hu];simp[afW,hw],by simp at hul;omega,by rw[zu]⟩
  .have h1:¬((i:Nat):Int)<((n:Nat):Int):=by omega
   obtain rfl:i=n:=by omega
   simp only[push_cast,seval,-Nat.reducePow,j0,j5,j1,h1];refine aAa (htr t (by omega)) (by rfl) (by rfl) ?_;rw[Nat.sub_self,aE0]at hr;rw[hr];exact aAb 3 _ rfl
theorem aHs{s:List UInt8}{i:Nat}{c:UInt8}(h:i<s.length)(hc:s.getD i 0=c):(s.take (i+1)).drop i=[c]∧s.drop i=c::s.drop (i+1):=by
 have hci:c=s[i]:=by rw[<-hc];simp[zI,h]
 refine⟨?_,by rw[zH h,hci]⟩;rw[<-xn (h:=h),yT,List.drop_left' (by rw[yR];omega),hci]
theorem n32{x:UInt8}(h:((x.toNat:Nat):Int)=32):x=32:=yp.1 (by simp only[yd];omega)
theorem t421(hf:bJq P F T)(s:List UInt8)(hs:s.length<=100000):PTr P (F 421) [.str s] (.str (sglF s)):=by
 refine ptrC [] hf (by simp) rfl ?_;simp only[c421,push_cast,seval,-Nat.reducePow];refine aAd (λm s1=>∃i out,i<=s.length∧m=s.length-i∧blF [] (s.map undB)=blF out ((s.drop i).map undB)∧out.length<=i∧s1.env 0=.str s∧s1.env 4=.int .i64 ((i:Nat):Int)∧s1.env 3=.str out) s.length ?_ λm s1 hJ=>?_
 .simp only[push_cast,seval,-Nat.reducePow];exact⟨0,[],by omega,rfl,rfl,by simp,rfl,rfl⟩
 .obtain⟨i,out,hi,rfl,hb,ho,j0,j4,j3⟩:=hJ;by_cases h:i<s.length
  .have h1:((i:Nat):Int)<((s.length:Nat):Int):=by omega
   obtain⟨c,hc⟩:∃c,s.getD i 0=c:=⟨_,rfl⟩;obtain⟨hdt,hd⟩:=aHs h hc;have htn:(((i:Nat):Int)+1).toNat=i+1:=by omega
   rw[hd,zE,blF]at hb;have fin:∀(x:UInt8),undB c=x->¬(x=32∧(out=[]∨out.getLast?=some 32))->blF [] (s.map undB)=blF (out++[x]) ((s.drop (i+1)).map undB):=λx e hx=>by rw[hb,e,if_neg hx]
   have fin2:undB c=32->(out=[]∨out.getLast?=some 32)->blF [] (s.map undB)=blF out ((s.drop (i+1)).map undB):=λe hx=>by rw[hb,if_pos ⟨e,hx⟩]
   by_cases a:c=95
   .have a':([c]=([95]:List UInt8))=True:=eq_true (by rw[a]);rcases yJ out with rfl|⟨o2,x,rfl⟩
    .simp only[push_cast,seval,-Nat.reducePow,j0,j4,j3,h1,htn,hdt,a'];exact⟨⟨by omega,by omega⟩,by omega,by omega,by omega,⟨by omega,by omega⟩,s.length-(i+1),by omega,i+1,[],by omega,rfl,fin2 (by rw[a];rfl) (.inl rfl),by simp,by simp,rfl⟩
    .have hol:(o2.concat x).length=o2.length+1:=by simp
     rw[hol]at ho;have hone:¬o2.concat x=[]:=by simp
     have hog:(o2.concat x).getD o2.length 0=x:=by simp[zI]
     have hpo:(0:Int)<((o2.length:Nat):Int)+1:=by omega
     have hps:(((o2.length:Nat):Int)+1-1).toNat=o2.length:=by omega
     by_cases hx:((x.toNat:Nat):Int)=32
     .simp only[push_cast,seval,-Nat.reducePow,j0,j4,j3,h1,htn,hdt,hol,hone,hog,hpo,hps,hx,a'];exact⟨⟨by omega,by omega⟩,by omega,by omega,by omega,⟨by omega,by omega⟩,by omega,by omega,⟨by omega,by omega⟩,s.length-(i+1),by omega,i+1,o2.concat x,by omega,rfl,fin2 (by rw[a];rfl) (.inr (by rw[n32 hx];simp)),by omega,by simp,rfl⟩
     .simp only[push_cast,seval,-Nat.reducePow,j0,j4,j3,h1,htn,hdt,hol,hone,hog,hpo,hps,hx,a'];exact⟨⟨by omega,by omega⟩,by omega,by omega,by omega,⟨by omega,by omega⟩,by omega,by omega,by omega,⟨by omega,by omega⟩,s.length-(i+1),by omega,i+1,o2.concat x++[32],by omega,rfl,fin _ (by rw[a];rfl) (λh=>h.2.elim hone λh=>hx (by simp at h;rw[h];rfl)),by simp;omega,by simp,rfl⟩
   .have a':¬[c]=([95]:List UInt8):=by simpa using a
    by_cases b:c=32
    .have b':([c]=([32]:List UInt8))=True:=eq_true (by rw[b]);rcases yJ out with rfl|⟨o2,x,rfl⟩
     .simp only[push_cast,seval,-Nat.reducePow,j0,j4,j3,h1,htn,hdt,a',b'];exact⟨⟨by omega,by omega⟩,by omega,by omega,by omega,⟨by omega,by omega⟩,s.length-(i+1),by omega,i+1,[],by omega,rfl,fin2 (by rw[b];rfl) (.inl rfl),by simp,by simp,rfl⟩
     .have hol:(o2.concat x).length=o2.length+1:=by simp
      rw[hol]at ho;have hone:¬o2.concat x=[]:=by simp
      have hog:(o2.concat x).getD o2.length 0=x:=by simp[zI]
      have hpo:(0:Int)<((o2.length:Nat):Int)+1:=by omega
      have hps:(((o2.length:Nat):Int)+1-1).toNat=o2.length:=by omega
      by_cases hx:((x.toNat:Nat):Int)=32
      .simp only[push_cast,seval,-Nat.reducePow,j0,j4,j3,h1,htn,hdt,hol,hone,hog,hpo,hps,hx,a',b'];exact⟨⟨by omega,by omega⟩,by omega,by omega,by omega,⟨by omega,by omega⟩,by omega,by omega,⟨by omega,by omega⟩,s.length-(i+1),by omega,i+1,o2.concat x,by omega,rfl,fin2 (by rw[b];rfl) (.inr (by rw[n32 hx];simp)),by omega,by simp,rfl⟩
      .simp only[push_cast,seval,-Nat.reducePow,j0,j4,j3,h1,htn,hdt,hol,hone,hog,hpo,hps,hx,a',b'];exact⟨⟨by omega,by omega⟩,by omega,by omega,by omega,⟨by omega,by omega⟩,by omega,by omega,by omega,⟨by omega,by omega⟩,s.length-(i+1),by omega,i+1,o2.concat x++[c],by omega,rfl,fin _ (by rw[b];rfl) (λh=>h.2.elim hone λh=>hx (by simp at h;rw[h];rfl)),by simp;omega,by simp,rfl⟩
    .have b':¬[c]=([32]:List UInt8):=by simpa using b
     simp only[push_cast,seval,-Nat.reducePow,j0,j4,j3,h1,htn,hdt,a',b'];have e:undB c=c:=by simp[undB,a]
     exact⟨⟨by omega,by omega⟩,by omega,by omega,by omega,by omega,⟨by omega,by omega⟩,s.length-(i+1),by omega,i+1,out++[c],by omega,rfl,fin c e (λh=>b h.1),by simp;omega,by simp,rfl⟩
  .have h1:¬((i:Nat):Int)<((s.length:Nat):Int):=by omega
   obtain rfl:i=s.length:=by omega
   rw[zZ (zz _),yb,blF]at hb;unfold sglF;rw[hb];rcases yJ out with rfl|⟨o2,x,rfl⟩
   .simp only[push_cast,seval,-Nat.reducePow,j0,j4,j3,h1];exact(aAb 3 (.str _) rfl)
   .have hol:(o2.concat x).length=o2.length+1:=by simp
    rw[hol]at ho;have hog:(o2.concat x).getD o2.length 0=x:=by simp[zI]
    have hpo:(0:Int)<((o2.length:Nat):Int)+1:=by omega
    have hps:(((o2.length:Nat):Int)+1-1).toNat=o2.length:=by omega
    by_cases hx:((x.toNat:Nat):Int)=32
    .simp only[push_cast,seval,-Nat.reducePow,j0,j4,j3,h1,hol,hog,hpo,hps,hx];refine⟨⟨by omega,by omega⟩,by omega,by omega,⟨by omega,by omega⟩,by omega,by omega,(aAb 3 (.str _) rfl).trans ?_⟩;rw[n32 hx,yT,List.take_left' rfl];simp[unbl]
    .simp only[push_cast,seval,-Nat.reducePow,j0,j4,j3,h1,hol,hog,hpo,hps,hx];refine⟨⟨by omega,by omega⟩,by omega,by omega,(aAb 3 (.str _) rfl).trans ?_⟩;rw[unbl,if_neg (λh=>hx (by simp at h;rw[h];rfl))]
structure TitR(P:Program)(F T:Nat->Nat):Prop where
 f407:bMw P F T
 f421:bJq P F T
 f422:bHw P F T
 f102:aOs P F T
 f199:bCh P F T
 f201:bAt P F T
 f202:bCc P F T
 f203:aVj P F T
 f204:aQ3 P F T
 f205:aRe P F T
def pvB(s:List UInt8)(i:Nat):UInt8:=if i=0 then 0 else s.getD (i-1) 0
theorem aZ5(s:List UInt8):(sglF s).length<=s.length:=by
 have h:∀(s acc:List UInt8),(blF acc s).length<=acc.length+s.length:=by
  intro s;induction s with
  | nil=>intro acc;simp[blF]
  | cons c r ih =>
    intro acc;rw[blF];split
    .have:=ih acc;simp;omega
    .have:=ih (acc++[c]);simp at this ⊢;omega
 have:=h (s.map undB) [];have h2:=aM2 (blF [] (s.map undB));unfold sglF;simp at this;omega
theorem aS7(s:List UInt8):(cutB s).length<=s.length:=by
 cases s with
 | nil=>simp[cutB]
 | cons c r=>rw[cutB];split<;>simp
theorem aP9(s:List UInt8):(aEg s).length<=s.length:=by
 cases s with
 | nil=>simp[aEg]
 | cons c r=>rw[aEg];split<;>simp;have:=aS7 r;omega
theorem aTg(s:List UInt8):(aF1 s).2.length<=s.length:=by
 unfold aF1;split
 .simp
 .rename_i i h;split
  .simp
  .have:=aS7 (s.drop (i+1));simp at this ⊢;omega
set_option maxHeartbeats 1000000 in
theorem t407(C:TitR P F T)(s:List UInt8)(hs:s.length<=8000):PTr P (F 407) [.str s] (.tup [ttV (titF s).2.1 (titF s).2.2,.int .i64 (titF s).1]):=by
 refine ptrC [] C.f407 (by simp) rfl ?_;unfold titF;have lq:=aZ5 s;obtain⟨q,hq⟩:∃q,q=sglF s:=⟨_,rfl⟩;simp only[c407,push_cast,seval,-Nat.reducePow];refine aAa (t421 C.f421 s (by omega)) (by rfl) (by rfl) ?_;rw[<-hq]at lq ⊢;simp only[push_cast,seval,-Nat.reducePow];refine aAx (λs1=>s1.env 0=.str (aEg q)∧s1.env 2=.ptr 2 0∧s1.L 2=some (.box (T 17) [.int .i64 0,.str []])∧2<s1.nx) ?_ ?_
 .cases q with
  | nil=>simp only[push_cast,seval,-Nat.reducePow];rfl
  | cons c r =>
    have hp:(0:Int)<((r.length:Nat):Int)+1:=by omega
    by_cases hc:c=58
    .subst hc;simp only[push_cast,seval,-Nat.reducePow,hp,zg,zk];refine⟨by omega,aAa (t422 C.f422 (58::r) 1 (by simp)) (by rfl) (by rfl) ?_⟩;simp only[push_cast,seval,-Nat.reducePow];rw[aEg,if_pos rfl]
    .have hc':¬((c.toNat:Nat):Int)=58:=λe=>hc (yp.1 (by simp only[yd];omega));simp only[push_cast,seval,-Nat.reducePow,hp,zg,zk,hc'];exact⟨by omega,by rw[aEg,if_neg hc]⟩
 have lc:=aP9 q;obtain⟨w,hw⟩:∃w,w=aEg q:=⟨_,rfl⟩;rw[<-hw]at lc ⊢;rintro s1 ⟨j0,j2,e2,jn⟩;simp only[push_cast,seval,-Nat.reducePow,j0,j2,e2];obtain⟨k,i,hpw,hk0,hk1⟩:∃(k i:Nat),aN3 w=.tup [.int .i64 k,.int .i64 i]∧(k=0->aF1 w=(0,w))∧(k≠0->i<w.length∧aF1 w=(k,cutB (w.drop (i+1)))):=by
  unfold aN3 aF1 aGl;cases h:colF w with
  | none=>exact⟨0,0,rfl,λ_=>rfl,λh=>absurd rfl h⟩
  | some i =>
    have hi:i<w.length:=(ym.1 h).1;by_cases h0:nsF (unbl (w.take i)) 5 1=0
    .exact⟨0,0,by simp[h0],λ_=>by simp[h0],λh=>absurd rfl h⟩
    .exact⟨nsF (unbl (w.take i)) 5 1,i,by simp[h0],λh=>absurd h h0,λ_=>⟨hi,by simp[h0]⟩⟩
 have h202:=t202 C.f202 C.f102 C.f203 C.f204 C.f205 w (by omega);rw[hpw]at h202;refine aAa h202 (by rfl) (by rfl) ?_;simp only[push_cast,seval,-Nat.reducePow];have ln:=aTg w;refine aAx (λs1=>s1.env 0=.str (aF1 w).2∧s1.env 4=.int .i64 (aF1 w).1∧s1.env 2=.ptr 2 0∧s1.L 2=some (.box (T 17) [.int .i64 0,.str []])∧2<s1.nx) ?_ ?_
 .by_cases h0:k=0
  .subst h0;simp only[push_cast,seval,-Nat.reducePow,j0,j2,e2];exact⟨by rw[hk0 rfl],by rw[hk0 rfl];rfl,by omega⟩
  .obtain⟨hi,hn⟩:=hk1 h0;have h0':(0:Int)<((k:Nat):Int):=by omega
   simp only[push_cast,seval,-Nat.reducePow,j0,j2,e2,h0'];refine⟨⟨by omega,by omega⟩,aAa (t422 C.f422 w (i+1) (by omega)) (by rfl) (by rfl) ?_⟩;simp only[push_cast,seval,-Nat.reducePow];exact⟨by rw[hn],by rw[hn],j2,e2,by omega⟩
 clear hpw hk0 hk1 h202;obtain⟨nm,hnm⟩:∃nm,nm=aF1 w:=⟨_,rfl⟩;rw[<-hnm]at ln ⊢;rintro s2 ⟨j0,j4,j2,e2,jn⟩;simp only[push_cast,seval,-Nat.reducePow,j0,j4,j2,e2];refine aAx (λs1=>s1.env 6=.str (slR 0 nm.2)∧s1.env 4=.int .i64 nm.1∧s1.env 2=.ptr 2 0∧s1.L 2=some (.box (T 17) [.int .i64 0,.str []])∧2<s1.nx) ?_ ?_
 .simp only[push_cast,seval,-Nat.reducePow,j0,j4,j2,e2];refine aAd (λm s1=>∃i out,i<=nm.2.length∧m=nm.2.length-i∧slR 0 nm.2=out++slR (pvB nm.2 i) (nm.2.drop i)∧out.length<=i∧s1.env 0=.str nm.2∧s1.env 7=.int .i64 ((i:Nat):Int)∧s1.env 6=.str out∧s1.env 4=.int .i64 nm.1∧s1.env 2=.ptr 2 0∧s1.L 2=some (.box (T 17) [.int .i64 0,.str []])∧2<s1.nx) nm.2.length ?_ λm s1 hJ=>?_
  .simp only[push_cast,seval,-Nat.reducePow,j0,j4,j2,e2];exact⟨0,[],by omega,rfl,by simp[pvB],by simp,rfl,rfl,by omega⟩
  .obtain⟨i,out,hi,rfl,hb,ho,k0,k7,k6,k4,k2,f2,kn⟩:=hJ;by_cases h:i<nm.2.length
   .have h1:((i:Nat):Int)<((nm.2.length:Nat):Int):=by omega
    obtain⟨c,hc⟩:∃c,nm.2.getD i 0=c:=⟨_,rfl⟩;obtain⟨hdt,hd⟩:=aHs h hc;have htn:(((i:Nat):Int)+1).toNat=i+1:=by omega
    have hpv:pvB nm.2 (i+1)=c:=by rw[pvB,if_neg (by omega),Nat.add_sub_cancel,hc]
    rw[hd,slR]at hb;by_cases c32:c=32
    rotate_left
    .have c':¬((c.toNat:Nat):Int)=32:=λe=>c32 (n32 e);simp only[push_cast,seval,-Nat.reducePow,k0,k7,k6,k4,k2,f2,h1,htn,hc,hdt,c'];exact⟨h,⟨by omega,by omega⟩,by omega,by omega,by omega,by omega,⟨by omega,by omega⟩,nm.2.length-(i+1),by omega,i+1,out++[c],by omega,rfl,by rw[hb,if_neg (λh=>c32 h.1),hpv];simp,by simp;omega,by simp,rfl,by omega⟩
    .subst c32;have nx2:∀y,nm.2.getD (i+1) 0=y->i+1<nm.2.length->(nm.2.drop (i+1)).head?=some y:=λy hy h=>by rw[zH h,List.head?_cons,<-hy];simp[zI,h]
     have sk:(pvB nm.2 i=47∨(nm.2.drop (i+1)).head?=some 47)->slR 0 nm.2=out++slR (pvB nm.2 (i+1)) (nm.2.drop (i+1)):=λh=>by rw[hb,if_pos ⟨rfl,h⟩,hpv]
     have ns:pvB nm.2 i≠47->(nm.2.drop (i+1)).head?≠some 47->slR 0 nm.2=(out++[32])++slR (pvB nm.2 (i+1)) (nm.2.drop (i+1)):=λh1 h2=>by rw[hb,if_neg (λh=>h.2.elim h1 h2),hpv];simp
     have hps:(((i:Nat):Int)-1).toNat=i-1:=by omega
     obtain⟨x,hx⟩:∃x,nm.2.getD (i-1) 0=x:=⟨_,rfl⟩;obtain⟨y,hy⟩:∃y,nm.2.getD (i+1) 0=y:=⟨_,rfl⟩;have a47:∀{z:UInt8},((z.toNat:Nat):Int)=47->z=47:=λe=>yp.1 (by simp only[yd];omega);by_cases i0:i=0
     .have g:¬(0:Int)<((i:Nat):Int):=by omega
      by_cases B:((i:Nat):Int)+1<((nm.2.length:Nat):Int)
      .by_cases D:((y.toNat:Nat):Int)=47
       .simp only[push_cast,seval,-Nat.reducePow,k0,k7,k6,k4,k2,f2,h1,htn,hc,hdt,hps,hx,hy,g,B,D]
        repeat (refine z8 (by omega) ?_)
        exact⟨nm.2.length-(i+1),by omega,i+1,out,by omega,rfl,sk (.inr (by rw[nx2 y hy (by omega),a47 D])),by omega,by simp,rfl,by omega⟩
       .simp only[push_cast,seval,-Nat.reducePow,k0,k7,k6,k4,k2,f2,h1,htn,hc,hdt,hps,hx,hy,g,B,D]
        repeat (refine z8 (by omega) ?_)
        exact⟨nm.2.length-(i+1),by omega,i+1,out++[32],by omega,rfl,ns (by rw[pvB,if_pos i0];decide) (by rw[nx2 y hy (by omega)];exact λe=>D (by rw[Option.some.inj e];rfl)),by simp;omega,by simp,rfl,by omega⟩
      .simp only[push_cast,seval,-Nat.reducePow,k0,k7,k6,k4,k2,f2,h1,htn,hc,hdt,hps,hx,hy,g,B]
       repeat (refine z8 (by omega) ?_)
       exact⟨nm.2.length-(i+1),by omega,i+1,out++[32],by omega,rfl,ns (by rw[pvB,if_pos i0];decide) (by rw[zZ (by omega)];simp),by simp;omega,by simp,rfl,by omega⟩
     .have g:(0:Int)<((i:Nat):Int):=by omega
      have gp:pvB nm.2 i=x:=by rw[pvB,if_neg i0,hx]
      by_cases A:((x.toNat:Nat):Int)=47
      .simp only[push_cast,seval,-Nat.reducePow,k0,k7,k6,k4,k2,f2,h1,htn,hc,hdt,hps,hx,hy,g,A]
       repeat (refine z8 (by omega) ?_)
       exact⟨nm.2.length-(i+1),by omega,i+1,out,by omega,rfl,sk (.inl (by rw[gp,a47 A])),by omega,by simp,rfl,by omega⟩
      .by_cases B:((i:Nat):Int)+1<((nm.2.length:Nat):Int)
       .by_cases D:((y.toNat:Nat):Int)=47
        .simp only[push_cast,seval,-Nat.reducePow,k0,k7,k6,k4,k2,f2,h1,htn,hc,hdt,hps,hx,hy,g,A,B,D]
         repeat (refine z8 (by omega) ?_)
         exact⟨nm.2.length-(i+1),by omega,i+1,out,by omega,rfl,sk (.inr (by rw[nx2 y hy (by omega),a47 D])),by omega,by simp,rfl,by omega⟩
        .simp only[push_cast,seval,-Nat.reducePow,k0,k7,k6,k4,k2,f2,h1,htn,hc,hdt,hps,hx,hy,g,A,B,D]
         repeat (refine z8 (by omega) ?_)
         exact⟨nm.2.length-(i+1),by omega,i+1,out++[32],by omega,rfl,ns (by rw[gp];exact λe=>A (by rw[e];rfl)) (by rw[nx2 y hy (by omega)];exact λe=>D (by rw[Option.some.inj e];rfl)),by simp;omega,by simp,rfl,by omega⟩
       .simp only[push_cast,seval,-Nat.reducePow,k0,k7,k6,k4,k2,f2,h1,htn,hc,hdt,hps,hx,hy,g,A,B]
        repeat (refine z8 (by omega) ?_)
        exact⟨nm.2.length-(i+1),by omega,i+1,out++[32],by omega,rfl,ns (by rw[gp];exact λe=>A (by rw[e];rfl)) (by rw[zZ (by omega)];simp),by simp;omega,by simp,rfl,by omega⟩
   .have h1:¬((i:Nat):Int)<((nm.2.length:Nat):Int):=by omega
    obtain rfl:i=nm.2.length:=by omega
    rw[zZ (zz _),slR,yh]at hb;simp only[push_cast,seval,-Nat.reducePow,k0,k7,k6,k4,k2,f2,h1];exact⟨by rw[hb],by omega⟩
 have lr:(slR 0 nm.2).length<=nm.2.length:=by
  have h:∀(s:List UInt8) (p:UInt8),(slR p s).length<=s.length:=by
   intro s;induction s with
   | nil=>intro p;simp[slR]
   | cons c r ih =>
     intro p;rw[slR];split
     .have:=ih c;simp;omega
     .have:=ih c;simp;omega
  exact h _ _
 obtain⟨n,hn⟩:∃n,n=slR 0 nm.2:=⟨_,rfl⟩;rw[<-hn]at lr ⊢;rintro s3 ⟨j6,j4,j2,e2,jn⟩;simp only[push_cast,seval,-Nat.reducePow,j6,j4,j2,e2];refine aAx (λs1=>s1.env 6=.str (upF n)∧s1.env 4=.int .i64 nm.1∧s1.env 2=.ptr 2 0∧s1.L 2=some (.box (T 17) [.int .i64 0,.str []])∧2<s1.nx) ?_ ?_
 .cases n with
  | nil=>simp only[push_cast,seval,-Nat.reducePow,j6,j4,j2,e2];exact⟨rfl,by omega⟩
  | cons c r =>
    have hp:(0:Int)<((r.length:Nat):Int)+1:=by omega
    by_cases h1:(97:Int)<=((c.toNat:Nat):Int)
    .by_cases h2:((c.toNat:Nat):Int)<=122
     .simp only[push_cast,seval,-Nat.reducePow,j6,j4,j2,e2,hp,zg,zk,h1,h2];refine⟨by omega,by omega,by omega,⟨by omega,by omega⟩,[xI (c.toNat-32)],?_,by simp at lr ⊢;omega,?_,by omega⟩
      .simp only[aAs,zw];rw[show(xI (c.toNat-32)).toNat=c.toNat-32 by simp;omega,show(((c.toNat-32:Nat):Nat):Int)=(c.toNat:Int)-32 by omega]
      .rw[upF,if_pos (by omega),zu];rfl
     .simp only[push_cast,seval,-Nat.reducePow,j6,j4,j2,e2,hp,zg,zk,h1,h2];exact⟨by omega,by omega,by rw[upF,if_neg (by omega)],by omega⟩
    .simp only[push_cast,seval,-Nat.reducePow,j6,j4,j2,e2,hp,zg,zk,h1];exact⟨by omega,by rw[upF,if_neg (by omega)],by omega⟩
 obtain⟨u,hu⟩:∃u,u=upF n:=⟨_,rfl⟩;rw[<-hu];rintro s4 ⟨j6,j4,j2,e2,jn⟩;by_cases hl:100<u.length
 .have hl':(100:Int)<((u.length:Nat):Int):=by omega
  simp only[push_cast,seval,-Nat.reducePow,j6,j4,j2,e2,hl,hl'];exact aAb 3 _ rfl
 .have hl':¬(100:Int)<((u.length:Nat):Int):=by omega
  simp only[push_cast,seval,-Nat.reducePow,j6,j4,j2,e2,hl,hl'];refine aAa (t199 C.f199 C.f102 C.f201 C.f202 C.f203 C.f204 C.f205 _ u (by omega)) (by rfl) (by rfl) ?_;cases hv:aBb nm.1 u with
  | true=>simp only[push_cast,seval,-Nat.reducePow,j6,j4,j2,e2];exact aAb 3 _ rfl
  | false=>simp only[push_cast,seval,-Nat.reducePow,j6,j4,j2,e2];exact aAb 3 _ rfl
theorem bA3{s:List UInt8}{f i:Nat}(h:f<=i)(hi:i<=s.length):s.drop f=(s.take i).drop f++s.drop i:=by rw[<-xQ (by simp;omega),List.take_append_drop]
theorem t387(hf:bIw P F T)(s:List UInt8)(hs:s.length<=100000):PTr P (F 387) [.str s] (.lst 1 ((lnF s).map .str)):=by
 refine ptrC [] hf (by simp) (by simp only[V.imm,aAp]) ?_;simp only[c387,push_cast,seval,-Nat.reducePow];refine aAd (λm s1=>∃i f l id,f<=i∧i<=s.length∧m=s.length-i∧lnF s=l++lnF (s.drop f)∧(∀b,b∈(s.take i).drop f->b≠10)∧l.length<=i∧s1.env 0=.str s∧s1.env 5=.int .i64 ((i:Nat):Int)∧s1.env 4=.int .i64 ((f:Nat):Int)∧s1.env 3=.own id 1 0 l.length∧s1.L id=some (.vec (T 21) 1 (l.map .str))∧id<s1.nx) s.length ?_ λm s1 hJ=>?_
 .simp only[push_cast,seval,-Nat.reducePow];exact⟨0,0,[],38,by omega,by omega,by omega,by simp,by simp,by simp,rfl,rfl,rfl,by rw[aAe];rfl,by omega⟩
 .obtain⟨i,f,l,id,hfi,hi,rfl,hb,hno,hl,j0,j5,j4,j3,eL,jn⟩:=hJ;have hlm:(l.map V.str).length=l.length:=zb ..;have htl:(l.map V.str).take l.length=l.map V.str:=zj (by omega);by_cases h:i<s.length
  .have h1:((i:Nat):Int)<((s.length:Nat):Int):=by omega
   obtain⟨c,hc⟩:∃c,s.getD i 0=c:=⟨_,rfl⟩;have hci:c=s[i]:=by rw[<-hc];simp[zI,h]
   have htk:s.take (i+1)=s.take i++[c]:=by rw[hci,<-xn (h:=h),yT]
   by_cases b:c=10
   .subst b;simp only[push_cast,seval,-Nat.reducePow,j0,j5,j4,j3,eL,h1,hc,hlm,htl];have hmid:=bA3 (s:=s) hfi hi;obtain⟨-,hd⟩:=aHs h hc;rw[hmid,hd,aZc hno]at hb;refine⟨h,hfi,by omega,by omega,⟨by omega,by omega⟩,⟨by omega,by omega⟩,s.length-(i+1),by omega,i+1,i+1,l++[(s.take i).drop f],s1.nx+87,by omega,by omega,rfl,by rw[hb];simp,by rw[zZ (by simp;omega)];simp,by simp;omega,rfl,rfl,by simp,?_,by omega⟩;rw[aAe];simp
   .have b':¬((c.toNat:Nat):Int)=10:=λe=>b (yp.1 (by simp only[yd];omega));simp only[push_cast,seval,-Nat.reducePow,j0,j5,j4,j3,eL,h1,hc,b',hlm,htl];exact⟨h,⟨by omega,by omega⟩,s.length-(i+1),by omega,i+1,f,l,id,by omega,by omega,rfl,hb,λx hx=>by
     rw[htk,xQ (by simp;omega)]at hx;rcases zP.1 hx with hx|hx
     .exact hno x hx
     .rw[zp.1 hx];exact b,by omega,rfl,rfl,rfl,eL,by omega⟩
  .have h1:¬((i:Nat):Int)<((s.length:Nat):Int):=by omega
   obtain rfl:i=s.length:=by omega
   simp only[push_cast,seval,-Nat.reducePow,j0,j5,j4,j3,eL,h1,hlm,htl];rw[zu]at hno ⊢;rw[aZq hno]at hb;refine⟨by omega,by omega,?_⟩;rw[hb];have e:l.length+1=(l.map V.str++[V.str (s.drop f)]).length:=by simp
   rw[e,aHk (aAe _ _ _) (by rw[show l.map V.str++[V.str (s.drop f)]=(l++[s.drop f]).map V.str by simp];exact aAp _)];simp
theorem t403(hf:bHj P F T)(s:List UInt8)(hs:s.length<=100000):PTr P (F 403) [.str s] (ln 1 ((aAn [] s).map .str)):=by
 refine ptrC [] hf (by simp) (by simp only[aCy,aAp]) ?_;simp only[c403,push_cast,seval,-Nat.reducePow];refine aAd (λm s1=>∃i l w o,i<=s.length∧m=s.length-i∧aAn [] s=l++aAn w (s.drop i)∧w.length<=i∧l.length<=i∧s1.env 0=.str s∧s1.env 5=.int .i64 ((i:Nat):Int)∧s1.env 4=.str w∧s1.env 3=svO 1 l.length o∧(∀id,o=some id->s1.L id=some (.vec (T 21) 1 (l.map .str))∧id<s1.nx∧l≠[])∧(o=none->l=[])) s.length ?_ λm s1 hJ=>?_
 .simp only[push_cast,seval,-Nat.reducePow];exact⟨0,[],[],none,by omega,rfl,by simp,by simp,by simp,rfl,rfl,rfl,(λ_ h=>nomatch h),λ_=>rfl⟩
 .obtain⟨i,l,w,o,hi,rfl,hb,hw,hl,j0,j5,j4,j3,hL,h0⟩:=hJ;have hlm:(l.map V.str).length=l.length:=zb ..;have htl:(l.map V.str).take l.length=l.map V.str:=zj (by omega);by_cases h:i<s.length
  .have h1:((i:Nat):Int)<((s.length:Nat):Int):=by omega
   obtain⟨c,hc⟩:∃c,s.getD i 0=c:=⟨_,rfl⟩;obtain⟨hdt,hd⟩:=aHs h hc;have htn:(((i:Nat):Int)+1).toNat=i+1:=by omega
   rw[hd,aAn]at hb;by_cases hc1:isW c=true
   .rw[if_pos hc1]at hb;rcases(by simpa[isW]using hc1:c=32∨c=9)with rfl|rfl
    all_goals
     by_cases w0:w=[]
     .rw[if_pos w0]at hb;simp only[push_cast,seval,-Nat.reducePow,j0,j5,j4,j3,h1,hc,w0]
      repeat (refine z8 (by omega) ?_)
      exact⟨s.length-(i+1),by omega,i+1,l,[],o,by omega,rfl,hb,by simp,by omega,by simp,rfl,rfl,λid h=>⟨(hL id h).1,by have:=(hL id h).2.1;omega,(hL id h).2.2⟩,h0⟩
     .rw[if_neg w0]at hb;cases o with
      | none =>
        simp only[svO]at j3;simp only[push_cast,seval,-Nat.reducePow,j0,j5,j4,j3,h1,hc,w0]
        repeat (refine z8 (by omega) ?_)
        refine aEm ?_;simp only[push_cast,seval,-Nat.reducePow,j0,j5,j4,j3,h1];obtain rfl:=h0 rfl;refine⟨by omega,⟨by omega,by omega⟩,s.length-(i+1),by omega,i+1,[w],[],some (s1.nx+153),by omega,rfl,by rw[hb];rfl,by simp,by simp,by simp,rfl,rfl,λid e=>?_,λe=>nomatch e⟩;cases e
        exact⟨by rw[aAe];rfl,by omega,by simp⟩
      | some id =>
        simp only[svO]at j3;obtain⟨eL,jn,lne⟩:=hL id rfl;simp only[push_cast,seval,-Nat.reducePow,j0,j5,j4,j3,eL,h1,hc,w0,hlm,htl]
        repeat (refine z8 (by omega) ?_)
        refine⟨s.length-(i+1),by omega,i+1,l++[w],[],some (s1.nx+153),by omega,rfl,by rw[hb];simp,by simp,by simp;omega,by simp,rfl,by simp[svO],λid e=>?_,λe=>nomatch e⟩;cases e
        exact⟨by rw[aAe];simp,by omega,by simp⟩
   .have hc2:isW c=false:=by simpa using hc1
    have c9:¬((c.toNat:Nat):Int)=9:=λe=>hc1 (by rw[show c=9 from yp.1 (by simp only[yd];omega)];rfl);have c32:¬((c.toNat:Nat):Int)=32:=λe=>hc1 (by rw[n32 e];rfl);rw[if_neg hc1]at hb;simp only[push_cast,seval,-Nat.reducePow,j0,j5,j4,j3,h1,hc,htn,hdt,c9,c32]
    repeat (refine z8 (by omega) ?_)
    exact⟨s.length-(i+1),by omega,i+1,l,w++[c],o,by omega,rfl,hb,by simp;omega,by omega,by simp,rfl,rfl,λid h=>⟨(hL id h).1,by have:=(hL id h).2.1;omega,(hL id h).2.2⟩,h0⟩
  .have h1:¬((i:Nat):Int)<((s.length:Nat):Int):=by omega
   obtain rfl:i=s.length:=by omega
   rw[zZ (zz _),aAn]at hb;rw[hb];by_cases w0:w=[]
   .simp only[push_cast,seval,-Nat.reducePow,j0,j5,j4,j3,h1,w0];exact aJn (λid h=>(hL id h).1) (λe=>by rw[h0 e];rfl) (λid h=>by have:=(hL id h).2.2;simpa using this) (aAp _) hlm.symm
   .cases o with
    | none=>simp only[svO]at j3;simp only[push_cast,seval,-Nat.reducePow,j0,j5,j4,j3,h1,w0];refine aEm ?_;simp only[push_cast,seval,-Nat.reducePow];obtain rfl:=h0 rfl;refine⟨by omega,?_⟩;exact aHk (aAe _ _ _) (aAp [w])
    | some id =>
      simp only[svO]at j3;obtain⟨eL,jn,lne⟩:=hL id rfl;simp only[push_cast,seval,-Nat.reducePow,j0,j5,j4,j3,eL,h1,w0,hlm,htl];refine⟨by omega,?_⟩;have e1:l.map V.str++[V.str w]=(l++[w]).map V.str:=by simp
      have e2:l.length+1=((l++[w]).map V.str).length:=by simp
      rw[e1,e2,aHk (aAe _ _ _) (aAp _)];exact(aYf (by simp)).symm
theorem aQf(c:UInt8):∀(s:List UInt8) (i:Nat),idxF [c] s i=(s.findIdx? (·==c)).map (·+i)
 | [],i=>rfl
 | x::r,i=>by
   rw[idxF,aQf c r (i+1),yG];by_cases h:x=c
   .subst h;simp[yI]
   .have h1:(x==c)=false:=by simpa using h
    have h2:(c==x)=false:=by simpa using λe:c=x=>h e.symm
    simp only[h1,yI,h2,zi,Bool.false_eq_true,if_false,Option.map_map];congr 1;funext k;simp only[Function.comp];omega
theorem nat0(n:Nat):decide (((n:Nat):Int)=0)=decide (n=0):=by rw[decide_eq_decide];omega
def grdV(s:List UInt8):V:=if s.contains 124=true∧trW (barS s)=[]then .tup [ttV 0 [],.str [],.bool false]else .tup [ttV (titF (trW (barT s))).2.1 (titF (trW (barT s))).2.2,.str (trW (barS s)),.bool (decide ((titF (trW (barT s))).1=0))]
theorem t409(hf:bIz P F T)(h125:aQg P F T)(h138:aPm P F T)(C:TitR P F T)(s:List UInt8)(hs:s.length<=8000):PTr P (F 409) [.str s] (grdV s):=by
 have htr:∀s:List UInt8,s.length<=100000->PTr P (F 125) [.str s] (.str (trW s)):=λs h=>by rw[<-aHg];exact t125 h125 h138 s (by omega)
 refine ptrC [] hf (by simp) (by unfold grdV;split<;>rfl) ?_;have hix:=t102 C.f102 s [124] 0 (by omega) (by omega) (by simp) (by simp);rw[yn,aQf]at hix;have hb:=aN2 s;obtain⟨l1,l2⟩:=aNb s;have l3:=aE1 (barT s);have l4:=aE1 (barS s);unfold grdV;simp only[c409,push_cast,seval,-Nat.reducePow];cases hi:s.findIdx? (·==124)with
 | none=>rw[hi]at hix hb;obtain⟨b1,b2,b3⟩:=hb;rw[b1]at l3;refine aAa hix (by rfl) (by rfl) ?_;simp only[push_cast,seval,-Nat.reducePow];refine aAa (htr s (by omega)) (by rfl) (by rfl) ?_;refine aAa (t407 C (trW s) (by omega)) (by rfl) (by rfl) ?_;simp only[push_cast,seval,-Nat.reducePow,ttV,b1,b2,b3];rw[nat0,if_neg (λh=>h.1)];exact aAb 3 _ rfl
 | some i =>
   rw[hi]at hix hb;obtain⟨b1,b2,b3⟩:=hb;have hil:i<s.length:=(ym.1 hi).1;refine aAa hix (by rfl) (by rfl) ?_;have h0:(0:Int)<=((i:Nat):Int):=by omega
   have htn:(((i:Nat):Int)+1).toNat=i+1:=by omega
   simp only[push_cast,seval,-Nat.reducePow,h0,htn];refine⟨⟨by omega,by omega⟩,by omega,by omega,?_⟩;rw[zu,<-b2];refine aAa (htr _ (by omega)) (by rfl) (by rfl) ?_;by_cases ht:trW (barS s)=[]
   .simp only[push_cast,seval,-Nat.reducePow,ht,b3];exact aAb 3 _ rfl
   .simp only[push_cast,seval,-Nat.reducePow,ht];refine⟨by omega,aAa (htr _ (by simp;omega)) (by rfl) (by rfl) ?_⟩;rw[<-b1];refine aAa (t407 C (trW (barT s)) (by omega)) (by rfl) (by rfl) ?_;simp only[push_cast,seval,-Nat.reducePow,ttV];rw[nat0,if_neg (λh=>h.2)];exact aAb 3 _ rfl
def scpV(s:List UInt8):V:=if s=wAll then .tup [.agg [.int .i64 1,.int .i64 0,.str []],.bool true]else match aC6.findIdx? (λx=>decide (x=s))with
 | some k=>.tup [.agg [.int .i64 2,.int .i64 k,.str []],.bool true]
 | none=>.tup [.agg [.int .i64 3,.int .i64 (titF s).2.1,.str (titF s).2.2],.bool (decide ((titF s).1=0))]
theorem t405(hf:bJe P F T)(h406:bFr P F T)(C:TitR P F T)(s:List UInt8)(hs:s.length<=8000):PTr P (F 405) [.str s] (scpV s):=by
 refine ptrC [] hf (by simp) (by unfold scpV;split<;>(try split)<;>rfl) ?_;unfold scpV;by_cases ha:s=wAll
 .have ha':(s=[60,97,108,108,62])=True:=eq_true ha;simp only[c405,push_cast,seval,-Nat.reducePow,ha'];rw[if_pos ha];exact aAb 3 _ rfl
 have ha':¬s=[60,97,108,108,62]:=ha;rw[if_neg ha];simp only[c405,push_cast,seval,-Nat.reducePow,ha'];refine aAd (λm s1=>∃a q,aC6=a++q∧m=q.length∧(∀g,g∈a->decide (g=s)=false)∧s1.env 0=.str s∧s1.env 4=.int .i64 ((a.length:Nat):Int)∧s1.env 2=.ptr 2 0∧s1.L 2=some (.box (T 18) [.int .i64 0,.int .i64 0,.str []])∧2<s1.nx) 6 ?_ λm s1 hJ=>?_
 .simp only[push_cast,seval,-Nat.reducePow];exact⟨[],aC6,rfl,rfl,by simp,rfl⟩
 .obtain⟨a,q,hb2,rfl,hall,j0,j4,j2,e2,jn⟩:=hJ;have hb3:6=a.length+q.length:=by have:=congrArg xc hb2;simpa[aC6]using this
  cases q with
  | nil =>
    have h1:¬((a.length:Nat):Int)<6:=by simp at hb3;omega
    have e:aC6.findIdx? (λx=>decide (x=s))=none:=by rw[zY,hb2];simpa using hall
    simp only[push_cast,seval,-Nat.reducePow,j0,j4,j2,e2,h1,e];refine aAa (t407 C s hs) (by rfl) (by rfl) ?_;simp only[push_cast,seval,-Nat.reducePow,ttV,j2,e2];rw[nat0];exact aAb 3 _ rfl
  | cons g q =>
    rw[zg]at hb3;have h1:((a.length:Nat):Int)<6:=by omega
    have hg:aC6.getD a.length []=g:=by rw[hb2];simp[ze]
    have h406:=t406 h406 C.f205 a.length (by omega);rw[hg]at h406;simp only[push_cast,seval,-Nat.reducePow,j0,j4,j2,e2,h1];refine aAa h406 (by rfl) (by rfl) ?_;by_cases e:s=g
    .subst e;have ei:aC6.findIdx? (λx=>decide (x=s))=some a.length:=by
      rw[hb2,wC,zY.2 (by simpa using hall)];simp[yG]
     simp only[push_cast,seval,-Nat.reducePow,j0,j4,j2,e2,ei];exact aAb 3 _ rfl
    .simp only[push_cast,seval,-Nat.reducePow,j0,j4,j2,e2,e];refine⟨⟨by omega,by omega⟩,q.length,by omega,a++[g],q,by rw[hb2];simp,rfl,λx hx=>?_,by simp,by omega⟩;rcases zP.1 hx with hx|hx
     .exact hall x hx
     .rw[zp.1 hx];simpa using λh=>e h.symm
theorem aFr{n ty sz:Nat}{es:List V}{s:St}{K:St->Prop}:aHr n ty sz (ln sz es) s K=(es.length<=2^32∧K ((s.add (s.nx+n) (.vec ty sz es)).set n (.own (s.nx+n) sz 0 es.length))):=by
 cases es with
 | nil=>rw[aZb,aOk];simp
 | cons x r=>rw[aR8,aOf];simp
theorem aHb:∀(s w x:List UInt8),x∈aAn w s->x≠[]
 | [],w,x,h=>by
   simp only[aAn]at h;split at h
   .cases h
   .rename_i hw;rw[zp.1 h];exact hw
 | c::r,w,x,h=>by
   rw[aAn]at h;split at h
   .split at h
    .exact aHb r [] x h
    .rename_i hw;rcases List.mem_cons.1 h with rfl|h
     .exact hw
     .exact aHb r [] x h
   .exact aHb r _ x h
theorem bVx(s:List UInt8):aE0 3 s=(aAr (aAr (aAr s).2).2).2:=by
 rw[aEu,aEu,aEu,aE0];exact aIa _
theorem bRy(s:List UInt8):aE0 2 s=(aAr (aAr s).2).2:=by
 rw[aEu,aEu,aE0];exact aIa _
theorem bNs(s:List UInt8):∃(x:Scp) (ok:Bool),scpV s=.tup [x.v,.bool ok]∧aEs s=if ok then some x else none:=by
 unfold scpV aEs;by_cases ha:s=wAll
 .rw[if_pos ha,if_pos ha];exact⟨⟨1,0,[]⟩,true,rfl,rfl⟩
 .rw[if_neg ha,if_neg ha];cases h:aC6.findIdx? λx=>decide (x=s)with
  | some k=>exact⟨⟨2,k,[]⟩,true,rfl,rfl⟩
  | none=>exact⟨⟨3,(titF s).2.1,(titF s).2.2⟩,_,rfl,by simp⟩
theorem bP9(s:List UInt8):∃(sp:Int) (n sec:List UInt8) (ok:Bool),grdV s=.tup [.agg [.int .i64 sp,.str n],.str sec,.bool ok]∧aLt s=if ok then some (sp,n,sec)else none:=by
 unfold grdV;rw[aJo];by_cases h:s.contains 124=true∧trW (barS s)=[]
 .rw[if_pos h,if_neg (λg=>g.2 h)];exact⟨0,[],[],false,rfl,rfl⟩
 .rw[if_neg h];refine⟨_,_,_,_,rfl,?_⟩;by_cases g:(titF (trW (barT s))).1=0
  .rw[if_pos ⟨g,h⟩];simp[g]
  .rw[if_neg (λe=>g e.1)];simp[g]
theorem bPk{L:Heap}{a b c:V}{x:Bool}:view L 3 (.tup [.agg [a,b,c],.bool x])=.tup [.agg [view L 1 a,view L 1 b,view L 1 c],.bool x]:=by simp[view]
theorem finR{L:Heap}{i ty n:Nat}(p:Pol)(x:Rul)(b:Bool)(h:L i=some (.vec ty 6 (ruV p.r++[x.v])))(hn:n=p.r.length+1):view L 3 (.tup [.agg [ln 2 (grV p.g),.own i 6 0 n,ln 5 (gdV p.d)],.bool b])=.tup [Pol.v { p with r:=p.r++[x] },.bool b]:=by
 have e:ruV p.r++[x.v]=ruV (p.r++[x]):=by simp[ruV]
 rw[bPk,aAb 1 _ (by rw[aCy];exact aA6 _),aAb 1 (ln 5 _) (by rw[aCy];exact aBy _),aB8 (h:=h) (by rw[e,aE7];simp[hn]) (by rw[e];exact aBv _),e,<-aYf (by simp[ruV])];rfl
theorem finD{L:Heap}{i ty n:Nat}(p:Pol)(x:Grd)(b:Bool)(h:L i=some (.vec ty 5 (gdV p.d++[x.v])))(hn:n=p.d.length+1):view L 3 (.tup [.agg [ln 2 (grV p.g),ln 6 (ruV p.r),.own i 5 0 n],.bool b])=.tup [Pol.v { p with d:=p.d++[x] },.bool b]:=by
 have e:gdV p.d++[x.v]=gdV (p.d++[x]):=by simp[gdV]
 rw[bPk,aAb 1 _ (by rw[aCy];exact aA6 _),aAb 1 (ln 6 _) (by rw[aCy];exact aBv _),aB8 (h:=h) (by rw[e,aG6];simp[hn]) (by rw[e];exact aBy _),e,<-aYf (by simp[gdV])];rfl
structure StaR(P:Program)(F T:Nat->Nat):Prop where
 f388:bOy P F T
 f403:bHj P F T
 f404:bI3 P F T
 f405:bJe P F T
 f406:bFr P F T
 f408:bJ7 P F T
 f409:bIz P F T
 f125:aQg P F T
 f138:aPm P F T
 tit:TitR P F T
def StaQ(P:Program)(F:Nat->Nat)(p:Pol)(s:List UInt8):Prop:=∃(q:Pol) (b:Bool),PTr P (F 388) [p.v,.str s] (.tup [q.v,.bool b])∧match bD6 p s with
 | some x=>b=true∧q=x
 | none=>b=false
set_option maxHeartbeats 2000000 in
theorem t388(C:StaR P F T)(p:Pol)(h1:p.g.length<=2^30)(h2:p.r.length<=2^30)(h3:p.d.length<=2^30)(s:List UInt8)(hs:s.length<=8000):StaQ P F p s:=by
 have hw:=t403 C.f403 s (by omega);have hm:=aHb s [];have hwl:=(aGa s []).2;obtain⟨w,hwe⟩:∃w,w=aAn [] s:=⟨_,rfl⟩;unfold StaQ bD6;have hpv:p.v.imm=true:=p.v_imm;rw[<-hwe]at hw hm hwl ⊢;simp only;have start:∀(q:Pol) (b:Bool),awpC P 122 [] (c388 F T) (endK [(4,some (3,true)),(5,none)] λr' L' _=>view L' 3 r'=.tup [q.v,.bool b]) (.enter [p.v,.str s] (λ_=>none) 0)->PTr P (F 388) [p.v,.str s] (.tup [q.v,.bool b]):=λq b h=>ptrC [] C.f388 (by simp) (by simp only[V.imm,V.imms,Pol.v_imm,zn]) h;have q1:=aCx p.g;have q2:=aE7 p.r;have q3:=aG6 p.d;have e0:p.v=.agg [ln 2 (grV p.g),ln 6 (ruV p.r),ln 5 (gdV p.d)]:=rfl;have mG:((ln 2 (grV p.g)).one&&((ln 6 (ruV p.r)).one&&(ln 5 (gdV p.d)).one))=true:=by rw[aBl,aBl,aBl];rfl
 have iG:V.imms [ln 2 (grV p.g),ln 6 (ruV p.r),ln 5 (gdV p.d)]=true:=by simp only[V.imms,aCy,aA6,aBv,aBy,zn]
 have fin:∀(L:Heap) (b:Bool),view L 3 (.tup [.agg [ln 2 (grV p.g),ln 6 (ruV p.r),ln 5 (gdV p.d)],.bool b])=.tup [.agg [ln 2 (grV p.g),ln 6 (ruV p.r),ln 5 (gdV p.d)],.bool b]:=λL b=>aAb 3 _ (by simp only[V.imm,V.imms,aCy,aA6,aBv,aBy,zn]);cases w with
 | nil=>refine⟨p,true,start _ _ ?_,by simp⟩;simp only[c388,push_cast,seval,-Nat.reducePow,e0,mG];refine aAa hw (by rfl) (by rfl) ?_;simp only[push_cast,seval,-Nat.reducePow,e0,mG,yb,aZb];exact fin _ _
 | cons a w =>
   have ha:a≠[]:=hm a (by simp);have hwi:(ln 1 (zw V.str (a::w))).imm=true:=by rw[aCy];exact aAp _
   rw[zE,aR8]at hw hwi;have hlw:∀w:List (List UInt8),(w.map V.str).length=w.length:=λw=>zb ..;have z1:¬((w.length:Nat):Int)+1=0:=by omega
   cases a with
   | nil=>exact absurd rfl ha
   | cons c cs =>
     by_cases c35:c=35
     .subst c35;refine⟨p,true,start _ _ ?_,by simp⟩;simp only[c388,push_cast,seval,-Nat.reducePow,e0,mG];refine aAa hw (by rfl) hwi ?_;simp only[push_cast,seval,-Nat.reducePow,e0,mG,zg,zk,hlw,z1];exact⟨by omega,by omega,fin _ _⟩
     .have c35':¬((c.toNat:Nat):Int)=35:=λe=>c35 (yp.1 (by simp only[yd];omega));obtain⟨a,hae⟩:∃a,a=c::cs:=⟨_,rfl⟩;have hal:0<a.length:=by rw[hae];simp
      have hag:a.getD 0 0=c:=by rw[hae];rfl
      rw[<-hae]at hw hwi ⊢;have hcon:∀X:Option Pol,(if(a::w).length=0∨((a::w).getD 0 []).head?=some 35 then some p else X)=X:=λX=>if_neg (by rw[hae];simp[c35]);rw[hcon];simp only[zk,zg];have l3:=aCs s;have l4:=aCs (aAr s).2;have l5:=aCs (aAr (aAr s).2).2;by_cases cg:a=aPd
      .have cg':(a=[103,114,111,117,112])=True:=eq_true cg;rw[if_pos cg];cases w with
       | nil=>refine⟨p,false,start _ _ ?_,by simp⟩;simp only[c388,push_cast,seval,-Nat.reducePow,e0,mG];refine aAa hw (by rfl) hwi ?_;simp only[push_cast,seval,-Nat.reducePow,e0,mG,zg,List.length_nil,zk,hal,hag,c35',cg'];exact fin _ _
       | cons n w =>
         rw[if_neg (by simp)];refine⟨{ p with g:=p.g++[⟨n,w⟩] },true,start _ _ ?_,by simp⟩;have hl2:¬((w.length:Nat):Int)+1+1<2:=by omega
         have htw:(w.map V.str).take w.length=w.map V.str:=zj (by simp);simp only[zg]at hwl;have z2:¬((w.length:Nat):Int)+1+1=0:=by omega
         simp only[c388,push_cast,seval,-Nat.reducePow,e0,mG];refine aAa hw (by rfl) hwi ?_;simp only[push_cast,seval,-Nat.reducePow,e0,mG,zg,zk,zM,hal,hag,c35',cg',zE,hl2,aFr,aBl,aEh,aDj,hlw,z2,htw,zu];rw[q1];refine⟨by omega,by omega,by omega,by omega,by omega,by omega,?_⟩;have hfz:V.fzL 774 (w.map V.str) (grV p.g++[.agg [.str n,.own 774 1 0 w.length]])=grV (p.g++[⟨n,w⟩]):=by rw[aC7,List.map_append,<-aC7,aFa _ _ _ (aA6 _)];simp[V.fz,V.fzL,grV,Gro.v,htw]
         refine bGg (id1:=774) (id2:=777) (ty1:=T 21) (ty2:=T 22) (sz1:=1) (sz2:=2) (es1:=w.map .str) (by rfl) (aAp _) (by decide) (es2:=grV p.g++[.agg [.str n,.own 774 1 0 w.length]]) (by rfl) (by rw[hfz];exact aA6 _) λs' k0 k1 k2 k3=>?_;have m2:s'.env 2=.ptr 2 0:=k2 2 2 0 (by rfl);have m4:s'.env 4=.ptr 4 0:=k2 4 4 0 (by rfl);have mL4:=k3 4 (T 16) [.nils,.nils,.nils] (by rfl);have mL2:=k3 2 (T 16) [.own 777 2 0 (p.g.length+1),ln 6 (ruV p.r),ln 5 (gdV p.d)] (by rfl);rw[hfz]at mL2 mL4;have gi2:∀id es,(ln 6 (ruV p.r)).fz id es=ln 6 (ruV p.r):=λid es=>aFj id es _ (by rw[aCy];exact aBv _);have gi3:∀id es,(ln 5 (gdV p.d)).fz id es=ln 5 (gdV p.d):=λid es=>aFj id es _ (by rw[aCy];exact aBy _);have f2:V.fzL 777 (grV (p.g++[⟨n,w⟩])) (V.fzL 774 (w.map V.str) [.own 777 2 0 (p.g.length+1),ln 6 (ruV p.r),ln 5 (gdV p.d)])=[.lst 2 (grV (p.g++[⟨n,w⟩])),ln 6 (ruV p.r),ln 5 (gdV p.d)]:=by have:(grV (p.g++[⟨n,w⟩])).take (p.g.length+1)=grV (p.g++[⟨n,w⟩]):=zj (by rw[aCx];simp);simp[V.fzL,V.fz,gi2,gi3,aCx,this]
         have mo:((V.lst 2 (grV (p.g++[⟨n,w⟩]))).one&&((ln 6 (ruV p.r)).one&&(ln 5 (gdV p.d)).one))=true:=by rw[aBl,aBl];rfl
         have f4:V.fzL 777 (grV (p.g++[⟨n,w⟩])) (V.fzL 774 (w.map V.str) [.nils,.nils,.nils])=[.nils,.nils,.nils]:=rfl;rw[f2]at mL2;rw[f4]at mL4;simp only[push_cast,seval,-Nat.reducePow,m2,m4,mL2,mL4,mo];refine(aAb 3 _ (by simp only[V.imm,V.imms,aCy,aA6,aBv,aBy,zn])).trans ?_;have e:V.lst 2 (grV (p.g++[(⟨n,w⟩:Gro)]))=ln 2 (grV (p.g++[(⟨n,w⟩:Gro)])):=(aYf (by simp[grV])).symm;rw[e];rfl
      rw[if_neg cg];have cg':¬a=[103,114,111,117,112]:=cg;by_cases cad:a=aGm∨a=aV0
      .rw[if_pos cad];have hr:=t404 C.f404;have hrest:=t408 C.f408 C.f125 C.f138 s 3 (by omega) (by omega);rw[bVx]at hrest;obtain⟨r3,hr3⟩:∃r,r=(aAr (aAr (aAr s).2).2).2:=⟨_,rfl⟩;have hr3l:r3.length<=8000:=by rw[hr3];omega
       rw[<-hr3]at hrest ⊢;obtain⟨X,ok,hsc,hsf⟩:=bNs r3;have hscp:=t405 C.f405 C.f406 C.tit r3 hr3l;rw[hsc]at hscp;rw[hsf];rcases cad with ca|cd
       .have ca':(a=[97,108,108,111,119])=True:=eq_true ca;have hal2:decide (a=[97,108,108,111,119])=true:=decide_eq_true ca;by_cases h4:w.length+1<4
        .rw[if_pos (.inl h4)];have h4':((w.length:Nat):Int)+1<4:=by omega
         refine⟨p,false,start _ _ ?_,by simp⟩;simp only[c388,push_cast,seval,-Nat.reducePow,e0,mG];refine aAa hw (by rfl) hwi ?_;simp only[push_cast,seval,-Nat.reducePow,e0,mG,zg,zk,hal,hag,c35',cg',ca',hlw,z1,h4'];exact⟨by omega,by omega,fin _ _⟩
        .obtain⟨x,y,z,r,rfl⟩:∃x y z r,w=x::y::z::r:=by
          match w,h4 with
          | [],h=>simp at h
          | [x],h=>simp at h
          | [x,y],h=>simp at h
          | x::y::z::r,h=>exact⟨x,y,z,r,rfl⟩
         have h4':¬((r.length:Nat):Int)+1+1+1+1<4:=by omega
         have z4:¬((r.length:Nat):Int)+1+1+1+1=0:=by omega
         simp only[zM,zk];by_cases h0:aCf x=0
         .rw[if_pos (.inr h0)];have h0':(((aCf x:Nat):Int)=0)=True:=eq_true (by omega);refine⟨p,false,start _ _ ?_,by simp⟩;simp only[c388,push_cast,seval,-Nat.reducePow,e0,mG];refine aAa hw (by rfl) hwi ?_;simp only[push_cast,seval,-Nat.reducePow,e0,mG,zg,zk,zM,zE,hal,hag,c35',cg',ca',hlw,z4,h4'];refine⟨by omega,by omega,by omega,aAa (hr x) (by rfl) (by rfl) ?_⟩;simp only[push_cast,seval,-Nat.reducePow,e0,mG,h0'];exact fin _ _
         .have h0':¬((aCf x:Nat):Int)=0:=by omega
          rw[if_neg (λh=>h.elim h4 h0)];refine⟨{ p with r:=p.r++[⟨true,aCf x,y,X⟩] },ok,start _ _ ?_,by cases ok<;>simp[ca]⟩;simp only[c388,push_cast,seval,-Nat.reducePow,e0,mG];refine aAa hw (by rfl) hwi ?_;simp only[push_cast,seval,-Nat.reducePow,e0,mG,zg,zk,zM,zE,hal,hag,c35',cg',ca',hlw,z4,h4'];refine⟨by omega,by omega,by omega,aAa (hr x) (by rfl) (by rfl) ?_⟩;simp only[push_cast,seval,-Nat.reducePow,e0,mG,h0'];refine aAa hrest (by rfl) (by rfl) ?_;refine aAa hscp (by rfl) (by rfl) ?_;simp only[push_cast,seval,-Nat.reducePow,Scp.v,aFr,aBl,aEh,aDj,e0,mG];refine⟨by omega,by omega,by omega,aAa (hr x) (by rfl) (by rfl) ?_⟩;simp only[push_cast,seval,-Nat.reducePow,e0,mG,hlw,zu];rw[hal2];exact⟨by omega,by omega,finR p ⟨true,aCf x,y,X⟩ ok (by rfl) (by rw[q2])⟩
       .have ca':¬a=[97,108,108,111,119]:=by rw[cd];decide
        have cd':(a=[100,101,110,121])=True:=eq_true cd;have hal2:decide (a=[97,108,108,111,119])=false:=decide_eq_false ca';by_cases h4:w.length+1<4
        .rw[if_pos (.inl h4)];have h4':((w.length:Nat):Int)+1<4:=by omega
         refine⟨p,false,start _ _ ?_,by simp⟩;simp only[c388,push_cast,seval,-Nat.reducePow,e0,mG];refine aAa hw (by rfl) hwi ?_;simp only[push_cast,seval,-Nat.reducePow,e0,mG,zg,zk,hal,hag,c35',cg',ca',cd',hlw,z1,h4'];exact⟨by omega,by omega,fin _ _⟩
        .obtain⟨x,y,z,r,rfl⟩:∃x y z r,w=x::y::z::r:=by
          match w,h4 with
          | [],h=>simp at h
          | [x],h=>simp at h
          | [x,y],h=>simp at h
          | x::y::z::r,h=>exact⟨x,y,z,r,rfl⟩
         have h4':¬((r.length:Nat):Int)+1+1+1+1<4:=by omega
         have z4:¬((r.length:Nat):Int)+1+1+1+1=0:=by omega
         simp only[zM,zk];by_cases h0:aCf x=0
         .rw[if_pos (.inr h0)];have h0':(((aCf x:Nat):Int)=0)=True:=eq_true (by omega);refine⟨p,false,start _ _ ?_,by simp⟩;simp only[c388,push_cast,seval,-Nat.reducePow,e0,mG];refine aAa hw (by rfl) hwi ?_;simp only[push_cast,seval,-Nat.reducePow,e0,mG,zg,zk,zM,zE,hal,hag,c35',cg',ca',cd',hlw,z4,h4'];refine⟨by omega,by omega,by omega,aAa (hr x) (by rfl) (by rfl) ?_⟩;simp only[push_cast,seval,-Nat.reducePow,e0,mG,h0'];exact fin _ _
         .have h0':¬((aCf x:Nat):Int)=0:=by omega
          rw[if_neg (λh=>h.elim h4 h0)];refine⟨{ p with r:=p.r++[⟨false,aCf x,y,X⟩] },ok,start _ _ ?_,by cases ok<;>simp[cd,show¬aV0=aGm by decide]⟩;simp only[c388,push_cast,seval,-Nat.reducePow,e0,mG];refine aAa hw (by rfl) hwi ?_;simp only[push_cast,seval,-Nat.reducePow,e0,mG,zg,zk,zM,zE,hal,hag,c35',cg',ca',cd',hlw,z4,h4'];refine⟨by omega,by omega,by omega,aAa (hr x) (by rfl) (by rfl) ?_⟩;simp only[push_cast,seval,-Nat.reducePow,e0,mG,h0'];refine aAa hrest (by rfl) (by rfl) ?_;refine aAa hscp (by rfl) (by rfl) ?_;simp only[push_cast,seval,-Nat.reducePow,Scp.v,aFr,aBl,aEh,aDj,e0,mG];refine⟨by omega,by omega,by omega,aAa (hr x) (by rfl) (by rfl) ?_⟩;simp only[push_cast,seval,-Nat.reducePow,e0,mG,hlw,zu];rw[hal2];exact⟨by omega,by omega,finR p ⟨false,aCf x,y,X⟩ ok (by rfl) (by rw[q2])⟩
      rw[if_neg cad];have ca':¬a=[97,108,108,111,119]:=λh=>cad (.inl h);have cd':¬a=[100,101,110,121]:=λh=>cad (.inr h);by_cases cgs:a=aLz∨a=aEj
      .rw[if_pos cgs];have hrest:=t408 C.f408 C.f125 C.f138 s 2 (by omega) (by omega);rw[bRy]at hrest;obtain⟨r3,hr3⟩:∃r,r=(aAr (aAr s).2).2:=⟨_,rfl⟩;have hr3l:r3.length<=8000:=by rw[hr3];omega
       rw[<-hr3]at hrest ⊢;obtain⟨sp,nm,sec,ok,hsc,hsf⟩:=bP9 r3;have hscp:=t409 C.f409 C.f125 C.f138 C.tit r3 hr3l;rw[hsc]at hscp;rw[hsf];have ca':¬a=[97,108,108,111,119]:=λh=>cad (.inl h);have cd':¬a=[100,101,110,121]:=λh=>cad (.inr h);rcases cgs with ca|cd
       .have cu':(a=[103,117,97,114,100])=True:=eq_true ca;have hal2:decide (a=[115,116,114,105,99,116])=false:=by rw[ca];decide
        by_cases h4:w.length+1<3
        .rw[if_pos h4];have h4':((w.length:Nat):Int)+1<3:=by omega
         refine⟨p,false,start _ _ ?_,by simp⟩;simp only[c388,push_cast,seval,-Nat.reducePow,e0,mG];refine aAa hw (by rfl) hwi ?_;simp only[push_cast,seval,-Nat.reducePow,e0,mG,zg,zk,hal,hag,c35',cg',ca',cd',cu',hlw,z1,h4'];exact⟨by omega,by omega,fin _ _⟩
        .obtain⟨x,y,r,rfl⟩:∃x y r,w=x::y::r:=by
          match w,h4 with
          | [],h=>simp at h
          | [x],h=>simp at h
          | x::y::r,h=>exact⟨x,y,r,rfl⟩
         have h4':¬((r.length:Nat):Int)+1+1+1<3:=by omega
         have z4:¬((r.length:Nat):Int)+1+1+1=0:=by omega
         simp only[zM,zk];rw[if_neg h4];refine⟨{ p with d:=p.d++[⟨false,x,sp,nm,sec⟩] },ok,start _ _ ?_,by cases ok<;>simp[ca,show¬aLz=aEj by decide]⟩;simp only[c388,push_cast,seval,-Nat.reducePow,e0,mG];refine aAa hw (by rfl) hwi ?_;simp only[push_cast,seval,-Nat.reducePow,e0,mG,zg,zk,zM,zE,hal,hag,c35',cg',ca',cd',cu',hlw,z4,h4'];refine⟨by omega,by omega,aAa hrest (by rfl) (by rfl) ?_⟩;refine aAa hscp (by rfl) (by rfl) ?_;simp only[push_cast,seval,-Nat.reducePow,aFr,aBl,aEh,aDj,e0,mG,hlw,zu];rw[hal2];rw[q3];exact⟨by omega,by omega,by omega,by omega,finD p ⟨false,x,sp,nm,sec⟩ ok (by rfl) rfl⟩
       .have cu':¬a=[103,117,97,114,100]:=by rw[cd];decide
        have cs':(a=[115,116,114,105,99,116])=True:=eq_true cd;have hal2:decide (a=[115,116,114,105,99,116])=true:=decide_eq_true cd;by_cases h4:w.length+1<3
        .rw[if_pos h4];have h4':((w.length:Nat):Int)+1<3:=by omega
         refine⟨p,false,start _ _ ?_,by simp⟩;simp only[c388,push_cast,seval,-Nat.reducePow,e0,mG];refine aAa hw (by rfl) hwi ?_;simp only[push_cast,seval,-Nat.reducePow,e0,mG,zg,zk,hal,hag,c35',cg',ca',cd',cu',cs',hlw,z1,h4'];exact⟨by omega,by omega,fin _ _⟩
        .obtain⟨x,y,r,rfl⟩:∃x y r,w=x::y::r:=by
          match w,h4 with
          | [],h=>simp at h
          | [x],h=>simp at h
          | x::y::r,h=>exact⟨x,y,r,rfl⟩
         have h4':¬((r.length:Nat):Int)+1+1+1<3:=by omega
         have z4:¬((r.length:Nat):Int)+1+1+1=0:=by omega
         simp only[zM,zk];rw[if_neg h4];refine⟨{ p with d:=p.d++[⟨true,x,sp,nm,sec⟩] },ok,start _ _ ?_,by cases ok<;>simp[cd]⟩;simp only[c388,push_cast,seval,-Nat.reducePow,e0,mG];refine aAa hw (by rfl) hwi ?_;simp only[push_cast,seval,-Nat.reducePow,e0,mG,zg,zk,zM,zE,hal,hag,c35',cg',ca',cd',cu',cs',hlw,z4,h4'];refine⟨by omega,by omega,aAa hrest (by rfl) (by rfl) ?_⟩;refine aAa hscp (by rfl) (by rfl) ?_;simp only[push_cast,seval,-Nat.reducePow,aFr,aBl,aEh,aDj,e0,mG,hlw,zu];rw[hal2];rw[q3];exact⟨by omega,by omega,by omega,by omega,finD p ⟨true,x,sp,nm,sec⟩ ok (by rfl) rfl⟩
      rw[if_neg cgs];have cu':¬a=[103,117,97,114,100]:=λh=>cgs (.inl h);have cs':¬a=[115,116,114,105,99,116]:=λh=>cgs (.inr h);refine⟨p,false,start _ _ ?_,by simp⟩;simp only[c388,push_cast,seval,-Nat.reducePow,e0,mG];refine aAa hw (by rfl) hwi ?_;simp only[push_cast,seval,-Nat.reducePow,e0,mG,zg,zk,hal,hag,c35',cg',ca',cd',cu',cs',hlw,z1];exact⟨by omega,by omega,fin _ _⟩
theorem t393(hf:bE7 P F T)(h410:aZ8 P F T)(gs:List Gro)(n:List UInt8)(hl:gs.length<=2^30):PTr P (F 393) [.lst 2 (grV gs),.str n] (.bool (exB gs n)):=by
 have hlg:=aCx gs;refine ptrC [] hf (by simp) rfl ?_;simp only[c393,push_cast,seval,-Nat.reducePow];refine aAd (λm s1=>∃a q,gs=a++q∧m=q.length∧(∀g,g∈a->decide (g.n=n)=false)∧s1.env 0=.lst 2 (grV gs)∧s1.env 1=.str n∧s1.env 5=.int .i64 a.length) gs.length ?_ λm s1 hJ=>?_
 .simp only[push_cast,seval,-Nat.reducePow];exact⟨[],gs,rfl,rfl,by simp,rfl⟩
 .obtain⟨a,q,hb2,rfl,hall,j0,j1,j5⟩:=hJ;have hb3:gs.length=a.length+q.length:=by rw[hb2];simp
  have hal:a.any (λg=>decide (g.n=n))=false:=by rw[wQ];intro x hx;rw[hall x hx];simp
  cases q with
  | nil =>
    have h1:¬((a.length:Nat):Int)<((gs.length:Nat):Int):=by simp at hb3;omega
    simp only[push_cast,seval,-Nat.reducePow,j0,j1,j5,h1,hlg];refine aAa (t410 h410 n) (by rfl) (by rfl) ?_;rw[yh]at hb2;have:exB gs n=aIy n:=by rw[exB,hb2,hal,Bool.or_false]
    simp only[push_cast,seval,-Nat.reducePow,this];exact aAb 3 _ rfl
  | cons g q =>
    rw[zg]at hb3;have h1:((a.length:Nat):Int)<((gs.length:Nat):Int):=by omega
    have hg:(grV gs).getD a.length .junk=g.v:=by rw[hb2];simp[grV,ze]
    by_cases hp:g.n=n
    .have e:exB gs n=true:=by rw[exB,hb2];simp[hp]
     simp only[push_cast,seval,-Nat.reducePow,j0,j1,j5,h1,hg,hlg,Gro.v,e,hp];exact⟨by omega,aAb 3 _ rfl⟩
    .simp only[push_cast,seval,-Nat.reducePow,j0,j1,j5,h1,hg,hlg,Gro.v,hp];exact⟨by omega,⟨by omega,by omega⟩,q.length,by omega,a++[g],q,by rw[hb2];simp,rfl,λx hx=>by
      rcases zP.1 hx with hx|hx
      .exact hall x hx
      .rw[zp.1 hx];simpa using hp,by simp⟩
theorem t394(hf:bIx P F T)(C:TitR P F T)(x:Scp)(hx:x.n.length<=100000):PTr P (F 394) [x.v] (.bool (scpB x)):=by
 refine ptrC [] hf (by simp) rfl ?_;unfold scpB;by_cases b1:x.k=1
 .by_cases b2:x.sp=0
  .by_cases b3:x.n=[]
   .simp only[c394,push_cast,seval,-Nat.reducePow,Scp.v,b1,b2,b3];exact aAb 3 _ rfl
   .simp only[c394,push_cast,seval,-Nat.reducePow,Scp.v,b1,b2,b3];exact aAb 3 _ rfl
  .simp only[c394,push_cast,seval,-Nat.reducePow,Scp.v,b1,b2];rw[zi];exact aAb 3 _ rfl
 .by_cases b2:x.k=2
  .by_cases b3:0<=x.sp
   .by_cases b4:x.sp<6
    .by_cases b5:x.n=[]
     .simp only[c394,push_cast,seval,-Nat.reducePow,Scp.v,b1,b2,b3,b4,b5];exact aAb 3 _ rfl
     .simp only[c394,push_cast,seval,-Nat.reducePow,Scp.v,b1,b2,b3,b4,b5];exact aAb 3 _ rfl
    .simp only[c394,push_cast,seval,-Nat.reducePow,Scp.v,b1,b2,b3,b4];exact aAb 3 _ rfl
   .simp only[c394,push_cast,seval,-Nat.reducePow,Scp.v,b1,b2,b3];exact aAb 3 _ rfl
  .by_cases b3:x.k=3
   .simp only[c394,push_cast,seval,-Nat.reducePow,Scp.v,b1,b2,b3];refine aAa (t199 C.f199 C.f102 C.f201 C.f202 C.f203 C.f204 C.f205 x.sp x.n (.inr hx)) (by rfl) (by rfl) ?_;exact aAb 3 _ rfl
   .simp only[c394,push_cast,seval,-Nat.reducePow,Scp.v,b1,b2,b3];exact aAb 3 _ rfl
theorem t395(hf:bHk P F T)(h102:aOs P F T)(h125:aQg P F T)(h138:aPm P F T)(s:List UInt8)(hs:s.length<=100000):PTr P (F 395) [.str s] (.bool (secB s)):=by
 have htr:∀s:List UInt8,s.length<=100000->PTr P (F 125) [.str s] (.str (trW s)):=λs h=>by rw[<-aHg];exact t125 h125 h138 s (by omega)
 refine ptrC [] hf (by simp) rfl ?_;unfold secB;by_cases h1:100<s.length
 .have h1':(100:Int)<((s.length:Nat):Int):=by omega
  have e:decide (s.length<=100)=false:=decide_eq_false (by omega);simp only[c395,push_cast,seval,-Nat.reducePow,h1',e,zi];exact aAb 3 _ rfl
 have h1':¬(100:Int)<((s.length:Nat):Int):=by omega
 have e:decide (s.length<=100)=true:=decide_eq_true (by omega);have ix:∀c:UInt8,PTr P (F 102) [.str s,.str [c],.int .i64 0] (.int .i64 (match s.findIdx? (·==c)with|some k=>(k:Nat)|none=>-1)):=λc=>by
  have:=t102 h102 s [c] 0 (by omega) (by omega) (by simp) (by simp);rw[yn,aQf]at this;cases h:s.findIdx? (·==c)with
  | none=>rw[h]at this;exact this
  | some k=>rw[h]at this;exact this
 have ct:∀c:UInt8,(match s.findIdx? (·==c)with|some k=>((k:Nat):Int)|none=>-1)<0↔s.contains c=false:=λc=>by
  cases h:s.findIdx? (·==c)with
  | none =>
    rw[zY]at h;constructor
    .intro _;rw[List.contains_eq_any_beq,wQ];intro x hx e;have:=h x hx;simp at this e;exact this e.symm
    .intro _;decide
  | some k =>
    obtain⟨g1,g2,_⟩:=ym.1 h;constructor
    .intro h;simp only at h;omega
    .intro h;have:s.contains c=true:=by rw[List.contains_iff_mem];simp at g2;rw[<-g2];exact List.getElem_mem g1
     rw[this]at h;cases h
 simp only[c395,push_cast,seval,-Nat.reducePow,h1',e,Bool.true_and];refine aAa (htr s hs) (by rfl) (by rfl) ?_;by_cases ht:trW s=s
 .simp only[push_cast,seval,-Nat.reducePow,ht];refine aAa (ix 10) (by rfl) (by rfl) ?_;have c1:=ct 10;have c2:=ct 124;cases h10:s.contains 10 with
  | true=>rw[h10]at c1;have c1':=(not_congr c1).2 (by simp);simp only[push_cast,seval,-Nat.reducePow,c1'];exact aAb 3 _ rfl
  | false =>
    rw[h10]at c1;have c1':=c1.2 rfl;simp only[push_cast,seval,-Nat.reducePow,c1'];refine aAa (ix 124) (by rfl) (by rfl) ?_;have e3:decide ((match s.findIdx? (·==(124:UInt8))with|some k=>((k:Nat):Int)|none=>-1)<0)=!s.contains 124:=by
     cases h124:s.contains 124 with
     | true=>rw[h124]at c2;exact decide_eq_false ((not_congr c2).2 (by simp))
     | false=>rw[h124]at c2;exact decide_eq_true (c2.2 rfl)
    simp only[push_cast,seval,-Nat.reducePow,e3];exact aAb 3 _ rfl
 .simp only[push_cast,seval,-Nat.reducePow,ht];exact aAb 3 _ rfl
theorem t392(hf:bKb P F T)(h393:bE7 P F T)(h410:aZ8 P F T)(h217:aSe P F T)(gs:List Gro)(i:Nat)(hl:gs.length<=2^30)(hi:i<gs.length)(hml:(gs.getD i ⟨[],[]⟩).m.length<=2^30):
 PTr P (F 392) [.lst 2 (grV gs),.int .i64 i] (.int .i64 (grpE gs i (gs.getD i ⟨[],[]⟩))):=by
 obtain⟨g,hgd⟩:∃g,g=gs.getD i ⟨[],[]⟩:=⟨_,rfl⟩;rw[<-hgd]at hml ⊢;have hlg:=aCx gs;have hg:(grV gs).getD i .junk=g.v:=by rw[hgd];simp[grV,ze,hi]
 have h1:(V.lst 1 (g.m.map .str)).one=true:=rfl;have hgl:(g.m.map V.str).length=g.m.length:=zb ..;have hgt:(grV gs).take i=grV (gs.take i):=by simp[grV]
 unfold grpE;refine ptrC [] hf (by simp) rfl ?_;simp only[c392,push_cast,seval,-Nat.reducePow,hlg,hg];simp only[Gro.v,push_cast,seval,-Nat.reducePow,h1];refine⟨hi,aAa (t217 h217 g.n) (by rfl) (by rfl) ?_⟩;cases hnb:aCr g.n with
 | false=>simp only[push_cast,seval,-Nat.reducePow];exact aAb 3 _ rfl
 | true =>
   simp only[push_cast,seval,-Nat.reducePow,hlg,hgt];refine⟨by omega,aAa (t393 h393 h410 (gs.take i) g.n (by rw[yR];omega)) (by simp only[V.imms,V.imm,aA6,zn]) (by rfl) ?_⟩;cases hex:exB (gs.take i) g.n with
   | true=>simp only[push_cast,seval,-Nat.reducePow];exact aAb 3 _ rfl
   | false =>
     by_cases h24:24<g.m.length
     .have h24':(24:Int)<((g.m.length:Nat):Int):=by omega
      simp only[push_cast,seval,-Nat.reducePow,hgl,h24',h24];exact aAb 3 _ rfl
     .have h24':¬(24:Int)<((g.m.length:Nat):Int):=by omega
      simp only[push_cast,seval,-Nat.reducePow,hgl,h24',h24];refine aAd (λm s1=>∃a q,g.m=a++q∧m=q.length∧aFm gs g.m=aFm gs q∧s1.env 0=.lst 2 (grV gs)∧s1.env 5=.ptr 63 0∧s1.env 6=.int .i64 a.length∧s1.L 63=some (.box (T 22) [.str g.n,.lst 1 (g.m.map .str)])∧63<s1.nx) g.m.length ?_ λm s1 hJ=>?_
      .simp only[push_cast,seval,-Nat.reducePow];exact⟨[],g.m,rfl,rfl,rfl,rfl⟩
      .obtain⟨a,q,hb3,rfl,hall,j0,j5,j6,e5,jn⟩:=hJ;have hb4:g.m.length=a.length+q.length:=by rw[hb3];simp
       cases q with
       | nil =>
         have h1:¬((a.length:Nat):Int)<((g.m.length:Nat):Int):=by simp at hb4;omega
         simp only[push_cast,seval,-Nat.reducePow,j0,j5,j6,e5,h1,hgl,hall,aFm];exact aAb 3 _ rfl
       | cons x q =>
         rw[zg]at hb4;have h1:((a.length:Nat):Int)<((g.m.length:Nat):Int):=by omega
         have hx:(g.m.map V.str).getD a.length .junk=.str x:=by rw[hb3];simp[ze]
         have hgs:aFm gs g.m=if memE gs x=0 then aFm gs q else memE gs x:=hall
         have bad:∀k,k≠0->memE gs x=k->aFm gs g.m=k:=λk hk e=>by rw[hgs,if_neg (by rw[e];exact hk),e]
         have good:memE gs x=0->aFm gs g.m=aFm gs q:=λe=>by rw[hgs,if_pos e]
         have noat:x.head?≠some 64->(aCr x=false->aFm gs g.m=1)∧(aCr x=true->aFm gs g.m=aFm gs q):=λh=>⟨λe=>bad 1 (by decide) (by unfold memE;rw[if_neg h,if_pos e]),λe=>good (by unfold memE;rw[if_neg h,if_neg (by rw[e];decide)])⟩
         cases x with
         | nil =>
           have n1:=noat (by simp);simp only[push_cast,seval,-Nat.reducePow,j0,j5,j6,e5,h1,hx,hgl];refine⟨by omega,aAa (t217 h217 []) (by rfl) (by rfl) ?_⟩;cases hn:aCr []with
           | false=>simp only[push_cast,seval,-Nat.reducePow,n1.1 hn];exact aAb 3 _ rfl
           | true=>simp only[push_cast,seval,-Nat.reducePow,j0,j5,j6,e5];exact⟨⟨by omega,by omega⟩,q.length,by omega,a++[[]],q,by rw[hb3];simp,rfl,n1.2 hn,by simp,by omega⟩
         | cons c r =>
           have hp:(0:Int)<((r.length:Nat):Int)+1:=by omega
           by_cases c64:c=64
           .subst c64;simp only[push_cast,seval,-Nat.reducePow,j0,j5,j6,e5,h1,hx,hgl,hp,zg,zk];have he:memE gs (64::r)=if aCr r=false then 1 else if exB gs r=false then 4 else 0:=rfl
            refine⟨by omega,by omega,aAa (t217 h217 _) (by rfl) (by rfl) ?_⟩;rw[zu];cases hn:aCr r with
            | false=>simp only[push_cast,seval,-Nat.reducePow,bad 1 (by decide) (by rw[he,if_pos hn])];exact aAb 3 _ rfl
            | true =>
              simp only[push_cast,seval,-Nat.reducePow,j0,j5,j6,e5,zu,zg];refine aAa (t393 h393 h410 gs r hl) (by simp only[V.imms,V.imm,aA6,zn]) (by rfl) ?_;cases hx:exB gs r with
              | false=>simp only[push_cast,seval,-Nat.reducePow,bad 4 (by decide) (by rw[he,hn,hx];rfl)];exact aAb 3 _ rfl
              | true=>simp only[push_cast,seval,-Nat.reducePow,j0,j5,j6,e5];exact⟨⟨by omega,by omega⟩,q.length,by omega,a++[64::r],q,by rw[hb3];simp,rfl,good (by rw[he,hn,hx];rfl),by simp,by omega⟩
           .have c64':¬((c.toNat:Nat):Int)=64:=λe=>c64 (yp.1 (by simp only[yd];omega));have n1:=noat (by simpa using c64);simp only[push_cast,seval,-Nat.reducePow,j0,j5,j6,e5,h1,hx,hgl,hp,zg,zk,c64'];refine⟨by omega,by omega,aAa (t217 h217 (c::r)) (by rfl) (by rfl) ?_⟩;cases hn:aCr (c::r)with
            | false=>simp only[push_cast,seval,-Nat.reducePow,n1.1 hn];exact aAb 3 _ rfl
            | true=>simp only[push_cast,seval,-Nat.reducePow,j0,j5,j6,e5];exact⟨⟨by omega,by omega⟩,q.length,by omega,a++[c::r],q,by rw[hb3];simp,rfl,n1.2 hn,by simp,by omega⟩
structure ValR(P:Program)(F T:Nat->Nat):Prop where
 f389:bNy P F T
 f392:bKb P F T
 f393:bE7 P F T
 f394:bIx P F T
 f395:bHk P F T
 f410:aZ8 P F T
 f217:aSe P F T
 f125:aQg P F T
 f138:aPm P F T
 tit:TitR P F T
set_option maxHeartbeats 1000000 in
theorem t389(C:ValR P F T)(p:Pol)(hB:PolB p):PTr P (F 389) [p.w] (.int .i64 (valE p)):=by
 have l1:=aCx p.g;have l2:=aE7 p.r;have l3:=aG6 p.d;have b1:=hB.gl;have b2:=hB.rl;have b3:=hB.dl;have h393:=λn=>t393 C.f393 C.f410 p.g n hB.gl;refine ptrC [] C.f389 (by simp) rfl ?_;unfold valE;by_cases c1:24<p.g.length
 .have c1':(24:Int)<((p.g.length:Nat):Int):=by omega
  simp only[c389,push_cast,seval,-Nat.reducePow,Pol.w,l1,c1',c1];exact aAb 3 _ rfl
 have c1':¬(24:Int)<((p.g.length:Nat):Int):=by omega
 by_cases c2:64<p.r.length
 .have c2':(64:Int)<((p.r.length:Nat):Int):=by omega
  simp only[c389,push_cast,seval,-Nat.reducePow,Pol.w,l1,l2,c1',c1,c2',c2];exact aAb 3 _ rfl
 have c2':¬(64:Int)<((p.r.length:Nat):Int):=by omega
 by_cases c3:64<p.d.length
 .have c3':(64:Int)<((p.d.length:Nat):Int):=by omega
  simp only[c389,push_cast,seval,-Nat.reducePow,Pol.w,l1,l2,l3,c1',c1,c2',c2,c3',c3];exact aAb 3 _ rfl
 have c3':¬(64:Int)<((p.d.length:Nat):Int):=by omega
 simp only[c389,push_cast,seval,-Nat.reducePow,Pol.w,l1,l2,l3,c1',c1,c2',c2,c3',c3];refine aAx (λs1=>aH5 p.g 0 p.g=0∧s1.env 1=.ptr 1 0∧s1.L 1=some (.box (T 16) [.lst 2 (grV p.g),.lst 6 (ruV p.r),.lst 5 (gdV p.d)])∧1<s1.nx) ?_ ?_
 .simp only[push_cast,seval,-Nat.reducePow,l1];refine aAd (λm s1=>∃a q,p.g=a++q∧m=q.length∧aH5 p.g 0 p.g=aH5 p.g a.length q∧s1.env 1=.ptr 1 0∧s1.env 3=.int .i64 a.length∧s1.L 1=some (.box (T 16) [.lst 2 (grV p.g),.lst 6 (ruV p.r),.lst 5 (gdV p.d)])∧1<s1.nx) p.g.length ?_ λm s1 hJ=>?_
  .simp only[push_cast,seval,-Nat.reducePow];exact⟨[],p.g,rfl,rfl,rfl,rfl⟩
  .obtain⟨a,q,hb,rfl,hall,j1,j3,e1,jn⟩:=hJ;have hb2:p.g.length=a.length+q.length:=by rw[hb];simp
   cases q with
   | nil =>
     have h1:¬((a.length:Nat):Int)<((p.g.length:Nat):Int):=by simp at hb2;omega
     simp only[push_cast,seval,-Nat.reducePow,j1,j3,e1,l1,h1];exact⟨hall,by omega⟩
   | cons x q =>
     rw[zg]at hb2;have h1:((a.length:Nat):Int)<((p.g.length:Nat):Int):=by omega
     have hx:p.g.getD a.length ⟨[],[]⟩=x:=by rw[hb];simp[ze]
     have hc:=t392 C.f392 C.f393 C.f410 C.f217 p.g a.length hB.gl (by omega) (by rw[hx];exact(hB.g x (by rw[hb];simp)).2.2);rw[hx]at hc;have hgs:aH5 p.g 0 p.g=if grpE p.g a.length x=0 then aH5 p.g (a.length+1) q else grpE p.g a.length x:=hall
     simp only[push_cast,seval,-Nat.reducePow,j1,j3,e1,l1,h1];refine aAa hc (by simp only[V.imms,V.imm,aA6,zn]) (by rfl) ?_;by_cases he:grpE p.g a.length x=0
     .rw[if_pos he]at hgs;simp only[push_cast,seval,-Nat.reducePow,j1,j3,e1,he];exact⟨⟨by omega,by omega⟩,q.length,by omega,a++[x],q,by rw[hb];simp,rfl,by rw[hgs,List.length_append];rfl,by simp,by omega⟩
     .rw[if_neg he]at hgs;have he':¬((grpE p.g a.length x:Nat):Int)=0:=by omega
      simp only[push_cast,seval,-Nat.reducePow,j1,j3,e1,he',hgs,he,or_self,if_false];exact aAb 3 _ rfl
 .rintro s1 ⟨g0,j1,e1,jn⟩;simp only[push_cast,seval,-Nat.reducePow,g0];refine aAx (λs1=>aFl p.g p.r=0∧s1.env 1=.ptr 1 0∧s1.L 1=some (.box (T 16) [.lst 2 (grV p.g),.lst 6 (ruV p.r),.lst 5 (gdV p.d)])∧1<s1.nx) ?_ ?_
  .simp only[push_cast,seval,-Nat.reducePow,j1,e1,l2];refine aAd (λm s1=>∃a q,p.r=a++q∧m=q.length∧aFl p.g p.r=aFl p.g q∧s1.env 1=.ptr 1 0∧s1.env 5=.int .i64 a.length∧s1.L 1=some (.box (T 16) [.lst 2 (grV p.g),.lst 6 (ruV p.r),.lst 5 (gdV p.d)])∧1<s1.nx) p.r.length ?_ λm s1 hJ=>?_
   .simp only[push_cast,seval,-Nat.reducePow];exact⟨[],p.r,rfl,rfl,rfl,j1,rfl,e1,by omega⟩
   .obtain⟨a,q,hb,rfl,hall,j1,j5,e1,jn⟩:=hJ;have hb2:p.r.length=a.length+q.length:=by rw[hb];simp
    cases q with
    | nil =>
      have h1:¬((a.length:Nat):Int)<((p.r.length:Nat):Int):=by simp at hb2;omega
      simp only[push_cast,seval,-Nat.reducePow,j1,j5,e1,l2,h1];exact⟨hall,by omega⟩
    | cons x q =>
      rw[zg]at hb2;have h1:((a.length:Nat):Int)<((p.r.length:Nat):Int):=by omega
      have hx:(ruV p.r).getD a.length .junk=x.v:=by rw[hb];simp[ruV,ze]
      have hxm:x∈p.r:=by rw[hb];simp
      have n1:∀n,¬1=s1.nx+n:=λn=>by omega
      have hgs:aFl p.g p.r=if rulE p.g x=0 then aFl p.g q else rulE p.g x:=by rw[hall,aFl]
      have bad:∀k,k≠0->rulE p.g x=k->aFl p.g p.r=k:=λk hk e=>by rw[hgs,if_neg (by rw[e];exact hk),e]
      have good:rulE p.g x=0->aFl p.g p.r=aFl p.g q:=λe=>by rw[hgs,if_pos e]
      unfold rulE at bad good;by_cases r1:x.ri<1
      .simp only[push_cast,seval,-Nat.reducePow,j1,j5,e1,h1,hx,l2,Rul.v,n1,r1,bad 2 (by decide) (by rw[if_pos (.inl r1)])];exact⟨by omega,aAb 3 _ rfl⟩
      by_cases r2:5<x.ri
      .simp only[push_cast,seval,-Nat.reducePow,j1,j5,e1,h1,hx,l2,Rul.v,n1,r1,r2,bad 2 (by decide) (by rw[if_pos (.inr r2)])];exact⟨by omega,aAb 3 _ rfl⟩
      have r12:¬(x.ri<1∨5<x.ri):=λh=>h.elim r1 r2;simp only[push_cast,seval,-Nat.reducePow,j1,j5,e1,h1,hx,l2,Rul.v,n1,r1,r2];refine⟨by omega,aAa (h393 x.gr) (by simp only[V.imms,V.imm,aA6,zn]) (by rfl) ?_⟩;cases hex:exB p.g x.gr with
      | false=>simp only[push_cast,seval,-Nat.reducePow,n1,bad 4 (by decide) (by rw[if_neg r12,if_pos hex])];exact aAb 3 _ rfl
      | true =>
        simp only[push_cast,seval,-Nat.reducePow,j1,n1];have hs:=t394 C.f394 C.tit x.sc (by have:=hB.r x hxm;omega);rw[Scp.v]at hs;refine aAa hs (by rfl) (by rfl) ?_;cases hsc:scpB x.sc with
        | false=>simp only[push_cast,seval,-Nat.reducePow,n1,bad 7 (by decide) (by rw[if_neg r12,hex,hsc];rfl)];exact aAb 3 _ rfl
        | true=>simp only[push_cast,seval,-Nat.reducePow,j1,j5,e1,n1];exact⟨⟨by omega,by omega⟩,q.length,by omega,a++[x],q,by rw[hb];simp,rfl,good (by rw[if_neg r12,hex,hsc];rfl),by simp,by omega⟩
  .clear j1 e1 jn;rintro s1 ⟨r0,j1,e1,jn⟩;simp only[push_cast,seval,-Nat.reducePow,r0];refine aAd (λm s1=>∃a q,p.d=a++q∧m=q.length∧aFv p.g p.d=aFv p.g q∧s1.env 1=.ptr 1 0∧s1.env 7=.int .i64 a.length∧s1.L 1=some (.box (T 16) [.lst 2 (grV p.g),.lst 6 (ruV p.r),.lst 5 (gdV p.d)])∧1<s1.nx) p.d.length ?_ λm s1 hJ=>?_
   .simp only[push_cast,seval,-Nat.reducePow];exact⟨[],p.d,rfl,rfl,rfl,j1,rfl,e1,by omega⟩
   .obtain⟨a,q,hb,rfl,hall,j1,j5,e1,jn⟩:=hJ;have hb2:p.d.length=a.length+q.length:=by rw[hb];simp
    cases q with
    | nil =>
      have h1:¬((a.length:Nat):Int)<((p.d.length:Nat):Int):=by simp at hb2;omega
      have hz:aFv p.g p.d=0:=hall;simp only[push_cast,seval,-Nat.reducePow,j1,j5,e1,l3,h1,hz];exact aAb 3 _ rfl
    | cons x q =>
      rw[zg]at hb2;have h1:((a.length:Nat):Int)<((p.d.length:Nat):Int):=by omega
      have hx:(gdV p.d).getD a.length .junk=x.v:=by rw[hb];simp[gdV,ze]
      have hxm:x∈p.d:=by rw[hb];simp
      have n1:∀n,¬1=s1.nx+n:=λn=>by omega
      have hgs:aFv p.g p.d=if grdE p.g x=0 then aFv p.g q else grdE p.g x:=by rw[hall,aFv]
      have bad:∀k,k≠0->grdE p.g x=k->aFv p.g p.d=k:=λk hk e=>by rw[hgs,if_neg (by rw[e];exact hk),e]
      have good:grdE p.g x=0->aFv p.g p.d=aFv p.g q:=λe=>by rw[hgs,if_pos e]
      unfold grdE at bad good;simp only[push_cast,seval,-Nat.reducePow,j1,j5,e1,h1,hx,l3,Grd.v,n1];refine⟨by omega,aAa (h393 x.gr) (by simp only[V.imms,V.imm,aA6,zn]) (by rfl) ?_⟩;cases hex:exB p.g x.gr with
      | false=>simp only[push_cast,seval,-Nat.reducePow,n1,bad 4 (by decide) (by rw[if_pos hex])];exact aAb 3 _ rfl
      | true =>
        simp only[push_cast,seval,-Nat.reducePow,j1,n1];have R:=C.tit;have hv:=t199 R.f199 R.f102 R.f201 R.f202 R.f203 R.f204 R.f205 x.sp x.n (by have:=(hB.d x hxm).1;omega);rw[ttV]at hv;refine aAa hv (by rfl) (by rfl) ?_;cases hva:aBb x.sp x.n with
        | false=>simp only[push_cast,seval,-Nat.reducePow,n1,bad 7 (by decide) (by rw[hex,hva];rfl)];exact aAb 3 _ rfl
        | true =>
          simp only[push_cast,seval,-Nat.reducePow,j1,n1];refine aAa (t395 C.f395 R.f102 C.f125 C.f138 x.sec (by have:=(hB.d x hxm).2;omega)) (by rfl) (by rfl) ?_;cases hsc:secB x.sec with
          | false=>simp only[push_cast,seval,-Nat.reducePow,n1,bad 7 (by decide) (by rw[hex,hva,hsc];rfl)];exact aAb 3 _ rfl
          | true=>simp only[push_cast,seval,-Nat.reducePow,j1,j5,e1,n1];exact⟨⟨by omega,by omega⟩,q.length,by omega,a++[x],q,by rw[hb];simp,rfl,good (by rw[hex,hva,hsc];rfl),by simp,by omega⟩
structure ParR(P:Program)(F T:Nat->Nat):Prop where
 f316:bMr P F T
 f387:bIw P F T
 sta:StaR P F T
 val:ValR P F T
theorem t316(C:ParR P F T)(s:List UInt8)(hs:s.length<=8000):PTr P (F 316) [.str s] (.tup [(polF s).1.v,.int .i64 (polF s).2.1,.int .i64 (polF s).2.2]):=by
 refine ptrC [] C.f316 (by simp) (by simp only[V.imm,V.imms,Pol.v_imm,zn]) ?_;have h0:¬8192<s.length:=by omega
 have h0':¬(8192:Int)<((s.length:Nat):Int):=by omega
 unfold polF;rw[if_neg h0];obtain⟨l1,l2⟩:=aKt s;have l3:((lnF s).map V.str).length=(lnF s).length:=zb ..;obtain⟨R,hR⟩:∃R,R=aEb (lnF s) 0 ⟨[],[],[]⟩:=⟨_,rfl⟩;rw[<-hR];have e0:∀p:Pol,p.v=.agg [ln 2 (grV p.g),ln 6 (ruV p.r),ln 5 (gdV p.d)]:=λ_=>rfl;have mG:∀p:Pol,((ln 2 (grV p.g)).one&&((ln 6 (ruV p.r)).one&&(ln 5 (gdV p.d)).one))=true:=λp=>by rw[aBl,aBl,aBl];rfl
 simp only[c316,push_cast,seval,-Nat.reducePow,h0'];refine aAa (t387 C.f387 s (by omega)) (by rfl) (by simp only[V.imm,aAp]) ?_;simp only[push_cast,seval,-Nat.reducePow];refine aAd (λm s1=>∃a q p,lnF s=a++q∧m=q.length∧R=aEb q a.length p∧PolT a.length p∧s1.env 2=.ptr 2 0∧s1.env 5=.ptr 95 0∧s1.env 6=.lst 1 ((lnF s).map .str)∧s1.env 7=.int .i64 a.length∧s1.L 2=some (.box (T 16) [.nils,.nils,.nils])∧s1.L 95=some (.box (T 16) [ln 2 (grV p.g),ln 6 (ruV p.r),ln 5 (gdV p.d)])∧95<s1.nx) (lnF s).length ?_ λm s1 hJ=>?_
 .simp only[push_cast,seval,-Nat.reducePow];exact⟨[],lnF s,⟨[],[],[]⟩,rfl,rfl,hR,⟨by simp,by simp,by simp,by simp,by simp,by simp⟩,rfl,rfl⟩
 .obtain⟨a,q,p,hb,rfl,hr,hT,j2,j5,j6,j7,e2,e5,jn⟩:=hJ;have hb2:(lnF s).length=a.length+q.length:=by rw[hb];simp
  cases q with
  | nil =>
    have h1:¬((a.length:Nat):Int)<(((lnF s).length:Nat):Int):=by simp at hb2;omega
    simp only[push_cast,seval,-Nat.reducePow,j2,j5,j6,j7,e2,e5,h1,l3,mG];refine aJb (t389 C.val p (hT.b (by simp at hb2;omega))) (by rw[<-e0,aBt,aC3];exact⟨p.v_w,trivial⟩) (by rw[<-e0];simp only[V.imms,Pol.v_imm,zn]) (by rfl) ?_;have hr2:R=(p,0):=hr;by_cases c:valE p=0
    .simp only[push_cast,seval,-Nat.reducePow,j2,j5,e2,e5,c,hr2,mG];have hi:(V.tup [p.v,.int .i64 0,.int .i64 0]).imm=true:=by simp only[V.imm,V.imms,Pol.v_imm,zn]
     exact(aAb 3 _ hi).trans (by simp[e0])
    .have c':¬((valE p:Nat):Int)=0:=by omega
     simp only[push_cast,seval,-Nat.reducePow,j2,j5,e2,e5,c,c',hr2,mG];exact aAb 3 _ rfl
  | cons l q =>
    have h1:((a.length:Nat):Int)<(((lnF s).length:Nat):Int):=by simp at hb2;omega
    have hgl:((lnF s).map V.str).getD a.length .junk=.str l:=by rw[hb];simp[ze]
    have hll:=l1 l (by rw[hb];simp);have k1:=hT.gl;have k2:=hT.rl;have k3:=hT.dl;obtain⟨q2,ok,hq,hst⟩:=t388 C.sta p (by omega) (by omega) (by omega) l (by omega);rw[e0,e0]at hq;simp only[push_cast,seval,-Nat.reducePow,j2,j5,j6,j7,e2,e5,h1,hgl,l3,mG];have hal:a.length<(lnF s).length:=by simp at hb2;omega
    refine⟨hal,aAa hq (by rw[<-e0];simp only[V.imms,V.imm,Pol.v_imm,zn]) (by rw[<-e0];simp only[V.imms,V.imm,Pol.v_imm,zn]) ?_⟩;rw[bHx]at hst;rw[aEb]at hr;have n2:∀n,¬2=s1.nx+n:=λn=>by omega
    have n5:∀n,¬95=s1.nx+n:=λn=>by omega
    cases hq2:aLk p l with
    | none=>rw[hq2]at hst hr;subst hst;simp only[push_cast,seval,-Nat.reducePow,j2,j5,j6,j7,e2,e5,mG,n2,n5,aBl,aEh,aDj];rw[hr];refine⟨⟨by omega,by omega⟩,?_⟩;rw[if_pos (by simp)];exact aAb 3 _ rfl
    | some p2=>rw[hq2]at hst hr;obtain⟨rfl,rfl⟩:=hst;simp only[push_cast,seval,-Nat.reducePow,j2,j5,j6,j7,e2,e5,mG,n2,n5,aBl,aEh,aDj];exact⟨⟨by omega,by omega⟩,q.length,by omega,a++[l],q,q2,by rw[hb];simp,rfl,by rw[hr];simp,by simpa using bB5 hT (by omega) hq2,by simp,rfl,by omega⟩
end Go.Ab
