/- printed by a program: the plain functions, the code and the proofs of one law -/
import Derived.Test.YtejakgejjjncbaaFnExactRetimeV2
import Derived.Test.YtejakgejjjncbaaProg
import Derived.KernelRfl
import Derived.Shelf.LaysM
import Derived.Shelf.Strings.Search3
import Derived.Shelf.Vars
set_option linter.unusedVariables false
set_option maxRecDepth 100000
namespace Go.Proofs.V
open Go
def c_laws_szStringS_7 : VC :=
  .ite (.s 11) (.seq (.r 3 [⟨none, [], none, .mv 4 (.k (.int .i64 (-1)))⟩]) (.ret)) (.skip)
def c_laws_szStringS_20 : VC :=
  .ite (.s 15) (.skip) (.exit 0)
def c_laws_szStringS_29 : VC :=
  .ite (.s 26) (.seq (.r 9 [⟨none, [], none, .mv 4 (.k (.int .i64 (-1)))⟩]) (.ret)) (.skip)
def c_laws_szStringS_27 : VC :=
  .seq (.r 8 [⟨none, [], none, .mv 25 (.s 1)⟩,
    ⟨none, [], none, .bin 26 .lss (.s 25) (.k (.int .i64 0))⟩]) c_laws_szStringS_29
def c_laws_szStringS_34 : VC :=
  .r 6 [⟨none, [], none, .mv 16 (.s 5)⟩,
    ⟨none, [], none, .bin 17 .add (.s 16) (.k (.int .i64 1))⟩,
    ⟨none, [], none, .mv 5 (.s 17)⟩]
def c_laws_szStringS_23 : VC :=
  .seq (.blk 1 (.seq (.r 7 [⟨none, [], none, .mv 18 (.s 1)⟩,
    ⟨none, [], none, .mv 19 (.s 0)⟩,
    ⟨none, [], none, .mv 20 (.s 5)⟩,
    ⟨none, [], none, .iadr 21 (.s 19) (.s 20) 1⟩,
    ⟨none, [], none, .ld 22 (.s 21) 1 false⟩,
    ⟨none, [], none, .slen 23 (.s 22)⟩,
    ⟨none, [], none, .bin 24 .sub (.s 18) (.s 23)⟩,
    ⟨none, [], none, .mv 1 (.s 24)⟩]) c_laws_szStringS_27)) c_laws_szStringS_34
def c_laws_szStringS_17 : VC :=
  .seq (.seq (.r 5 [⟨none, [], none, .mv 12 (.s 5)⟩,
    ⟨none, [], none, .mv 13 (.s 0)⟩,
    ⟨none, [], none, .len 14 (.s 13)⟩,
    ⟨none, [], none, .bin 15 .lss (.s 12) (.s 14)⟩]) c_laws_szStringS_20) c_laws_szStringS_23
def c_laws_szStringS_15 : VC :=
  .blk 0 (.loop [0, 1, 5] c_laws_szStringS_17)
def c_laws_szStringS_35 : VC :=
  .seq (.r 10 [⟨none, [], none, .mv 27 (.s 1)⟩,
    ⟨none, [], none, .mv 4 (.s 27)⟩]) (.ret)
def c_laws_szStringS_12 : VC :=
  .seq (.seq (.r 4 [⟨none, [], none, .mv 5 (.k (.int .i64 0))⟩]) c_laws_szStringS_15) (.kp [1] c_laws_szStringS_35)
def c_laws_szStringS_4 : VC :=
  .seq (.seq (.r 2 [⟨none, [], none, .mv 10 (.s 1)⟩,
    ⟨none, [], none, .bin 11 .lss (.s 10) (.k (.int .i64 0))⟩]) c_laws_szStringS_7) c_laws_szStringS_12
def c_laws_szStringS_2 : VC :=
  .seq (.r 1 [⟨none, [], none, .mv 6 (.s 1)⟩,
    ⟨none, [], none, .mv 7 (.s 0)⟩,
    ⟨none, [], none, .len 8 (.s 7)⟩,
    ⟨none, [], none, .bin 9 .sub (.s 6) (.s 8)⟩,
    ⟨none, [], none, .mv 1 (.s 9)⟩]) c_laws_szStringS_4
def c_laws_szStringS_0 : VC :=
  .seq (.r 0 [⟨none, [], none, .mv 4 (.k (.int .i64 0))⟩]) c_laws_szStringS_2
def vf_laws_szStringS : VF := { pm := [.ro [.ro [.sc]], .ro [.sc]], rm := [.v [.sc]], nslots := 28, res := [4], rc := [], code := .kp [0, 1] c_laws_szStringS_0 }
def c_laws_szCue_7 : VC :=
  .ite (.s 10) (.seq (.r 3 [⟨none, [], none, .mv 4 (.k (.int .i64 (-1)))⟩]) (.ret)) (.skip)
def c_laws_szCue_12 : VC :=
  .seq (.r 4 [⟨none, [], none, .mv 11 (.s 1)⟩,
    ⟨none, [], none, .mv 4 (.s 11)⟩]) (.ret)
def c_laws_szCue_4 : VC :=
  .seq (.seq (.r 2 [⟨none, [], none, .mv 9 (.s 1)⟩,
    ⟨none, [], none, .bin 10 .lss (.s 9) (.k (.int .i64 0))⟩]) c_laws_szCue_7) c_laws_szCue_12
def c_laws_szCue_2 : VC :=
  .seq (.r 1 [⟨none, [], none, .fadr 5 (.s 2) 2⟩,
    ⟨none, [], none, .ld 6 (.s 5) 1 false⟩,
    ⟨none, [], none, .mv 7 (.s 1)⟩,
    ⟨none, [], none, .call 8 45 [(.s 6), (.s 7)]⟩,
    ⟨none, [], none, .mv 1 (.s 8)⟩]) c_laws_szCue_4
def c_laws_szCue_0 : VC :=
  .seq (.r 0 [⟨none, [], none, .box 2 (.s 0)⟩,
    ⟨none, [], none, .mv 4 (.k (.int .i64 0))⟩]) c_laws_szCue_2
def vf_laws_szCue : VF := { pm := [.ro [.sc, .sc, .ro [.sc]], .ro [.sc]], rm := [.v [.sc]], nslots := 12, res := [4], rc := [], code := .kp [0, 1] c_laws_szCue_0 }
def c_laws_szCueS_7 : VC :=
  .ite (.s 11) (.seq (.r 3 [⟨none, [], none, .mv 4 (.k (.int .i64 (-1)))⟩]) (.ret)) (.skip)
def c_laws_szCueS_20 : VC :=
  .ite (.s 15) (.skip) (.exit 0)
def c_laws_szCueS_29 : VC :=
  .ite (.s 25) (.seq (.r 9 [⟨none, [], none, .mv 4 (.k (.int .i64 (-1)))⟩]) (.ret)) (.skip)
def c_laws_szCueS_27 : VC :=
  .seq (.r 8 [⟨none, [], none, .mv 24 (.s 1)⟩,
    ⟨none, [], none, .bin 25 .lss (.s 24) (.k (.int .i64 0))⟩]) c_laws_szCueS_29
def c_laws_szCueS_34 : VC :=
  .r 6 [⟨none, [], none, .mv 16 (.s 5)⟩,
    ⟨none, [], none, .bin 17 .add (.s 16) (.k (.int .i64 1))⟩,
    ⟨none, [], none, .mv 5 (.s 17)⟩]
def c_laws_szCueS_23 : VC :=
  .seq (.blk 1 (.seq (.r 7 [⟨none, [], none, .mv 18 (.s 0)⟩,
    ⟨none, [], none, .mv 19 (.s 5)⟩,
    ⟨none, [], none, .iadr 20 (.s 18) (.s 19) 3⟩,
    ⟨none, [], none, .ld 21 (.s 20) 3 true⟩,
    ⟨none, [], none, .mv 22 (.s 1)⟩,
    ⟨none, [], none, .call 23 32 [(.s 21), (.s 22)]⟩,
    ⟨none, [], none, .mv 1 (.s 23)⟩]) c_laws_szCueS_27)) c_laws_szCueS_34
def c_laws_szCueS_17 : VC :=
  .seq (.seq (.r 5 [⟨none, [], none, .mv 12 (.s 5)⟩,
    ⟨none, [], none, .mv 13 (.s 0)⟩,
    ⟨none, [], none, .len 14 (.s 13)⟩,
    ⟨none, [], none, .bin 15 .lss (.s 12) (.s 14)⟩]) c_laws_szCueS_20) c_laws_szCueS_23
def c_laws_szCueS_15 : VC :=
  .blk 0 (.loop [0, 1, 5] c_laws_szCueS_17)
def c_laws_szCueS_35 : VC :=
  .seq (.r 10 [⟨none, [], none, .mv 26 (.s 1)⟩,
    ⟨none, [], none, .mv 4 (.s 26)⟩]) (.ret)
def c_laws_szCueS_12 : VC :=
  .seq (.seq (.r 4 [⟨none, [], none, .mv 5 (.k (.int .i64 0))⟩]) c_laws_szCueS_15) (.kp [1] c_laws_szCueS_35)
def c_laws_szCueS_4 : VC :=
  .seq (.seq (.r 2 [⟨none, [], none, .mv 10 (.s 1)⟩,
    ⟨none, [], none, .bin 11 .lss (.s 10) (.k (.int .i64 0))⟩]) c_laws_szCueS_7) c_laws_szCueS_12
def c_laws_szCueS_2 : VC :=
  .seq (.r 1 [⟨none, [], none, .mv 6 (.s 1)⟩,
    ⟨none, [], none, .mv 7 (.s 0)⟩,
    ⟨none, [], none, .len 8 (.s 7)⟩,
    ⟨none, [], none, .bin 9 .sub (.s 6) (.s 8)⟩,
    ⟨none, [], none, .mv 1 (.s 9)⟩]) c_laws_szCueS_4
def c_laws_szCueS_0 : VC :=
  .seq (.r 0 [⟨none, [], none, .mv 4 (.k (.int .i64 0))⟩]) c_laws_szCueS_2
def vf_laws_szCueS : VF := { pm := [.ro [.ro [.sc, .sc, .ro [.sc]]], .ro [.sc]], rm := [.v [.sc]], nslots := 27, res := [4], rc := [], code := .kp [0, 1] c_laws_szCueS_0 }
def c_laws_toStringS_12 : VC :=
  .ite (.s 11) (.skip) (.exit 0)
def c_laws_toStringS_18 : VC :=
  .r 4 [⟨none, [], none, .mv 12 (.s 4)⟩,
    ⟨none, [], none, .bin 13 .add (.s 12) (.k (.int .i64 1))⟩,
    ⟨none, [], none, .mv 4 (.s 13)⟩]
def c_laws_toStringS_15 : VC :=
  .seq (.blk 1 (.r 5 [⟨none, [], none, .mv 14 (.s 3)⟩,
    ⟨none, [], none, .mv 15 (.s 4)⟩,
    ⟨none, [], none, .mv 16 (.s 0)⟩,
    ⟨none, [], none, .mv 17 (.s 4)⟩,
    ⟨none, [], none, .iadr 18 (.s 16) (.s 17) 1⟩,
    ⟨none, [], none, .ld 19 (.s 18) 1 false⟩,
    ⟨none, [], none, .iadr 20 (.s 14) (.s 15) 1⟩,
    ⟨none, [], none, .st (.s 20) (.s 19) 1⟩])) c_laws_toStringS_18
def c_laws_toStringS_9 : VC :=
  .seq (.seq (.r 3 [⟨none, [], none, .mv 8 (.s 4)⟩,
    ⟨none, [], none, .mv 9 (.s 0)⟩,
    ⟨none, [], none, .len 10 (.s 9)⟩,
    ⟨none, [], none, .bin 11 .lss (.s 8) (.s 10)⟩]) c_laws_toStringS_12) c_laws_toStringS_15
def c_laws_toStringS_7 : VC :=
  .blk 0 (.loop [0, 3, 4] c_laws_toStringS_9)
def c_laws_toStringS_19 : VC :=
  .seq (.r 6 [⟨none, [], none, .mv 21 (.s 3)⟩,
    ⟨none, [], none, .mv 2 (.s 21)⟩]) (.ret)
def c_laws_toStringS_4 : VC :=
  .seq (.seq (.r 2 [⟨none, [], none, .mv 4 (.k (.int .i64 0))⟩]) c_laws_toStringS_7) (.kp [3] c_laws_toStringS_19)
def c_laws_toStringS_2 : VC :=
  .seq (.r 1 [⟨none, [], none, .mv 5 (.s 0)⟩,
    ⟨none, [], none, .len 6 (.s 5)⟩,
    ⟨none, [], none, .mk 7 (.s 6) [.sc] [(.string (ByteArray.mk #[]))] 8796093022208⟩,
    ⟨none, [], none, .mv 3 (.s 7)⟩]) c_laws_toStringS_4
def c_laws_toStringS_0 : VC :=
  .seq (.r 0 [⟨none, [], none, .nil 2 [.sc]⟩]) c_laws_toStringS_2
def vf_laws_toStringS : VF := { pm := [.ro [.ro [.sc]]], rm := [.v [.own [.sc]]], nslots := 22, res := [2], rc := [], code := .kp [0] c_laws_toStringS_0 }
def c_laws_toCue_10 : VC :=
  .seq (.r 5 [⟨none, [], none, .ld 14 (.s 3) 3 true⟩,
    ⟨none, [], none, .st (.s 2) (.s 14) 3⟩]) (.ret)
def c_laws_toCue_8 : VC :=
  .seq (.r 4 [⟨none, [], none, .fadr 10 (.s 1) 2⟩,
    ⟨none, [], none, .ld 11 (.s 10) 1 false⟩,
    ⟨none, [], none, .call 12 46 [(.s 11)]⟩,
    ⟨none, [], none, .fadr 13 (.s 3) 2⟩,
    ⟨none, [], none, .st (.s 13) (.s 12) 1⟩]) c_laws_toCue_10
def c_laws_toCue_6 : VC :=
  .seq (.r 3 [⟨none, [], none, .fadr 7 (.s 1) 1⟩,
    ⟨none, [], none, .ld 8 (.s 7) 1 false⟩,
    ⟨none, [], none, .fadr 9 (.s 3) 1⟩,
    ⟨none, [], none, .st (.s 9) (.s 8) 1⟩]) c_laws_toCue_8
def c_laws_toCue_4 : VC :=
  .seq (.r 2 [⟨none, [], none, .fadr 4 (.s 1) 0⟩,
    ⟨none, [], none, .ld 5 (.s 4) 1 false⟩,
    ⟨none, [], none, .fadr 6 (.s 3) 0⟩,
    ⟨none, [], none, .st (.s 6) (.s 5) 1⟩]) c_laws_toCue_6
def c_laws_toCue_2 : VC :=
  .seq (.r 1 [⟨none, [], none, .alloc 3 [.k (.int .i64 0), .k (.int .i64 0), .o [.sc]]⟩]) c_laws_toCue_4
def c_laws_toCue_0 : VC :=
  .seq (.r 0 [⟨none, [], none, .box 1 (.s 0)⟩,
    ⟨none, [], none, .alloc 2 [.k (.int .i64 0), .k (.int .i64 0), .o [.sc]]⟩]) c_laws_toCue_2
def vf_laws_toCue : VF := { pm := [.ro [.sc, .sc, .ro [.sc]]], rm := [.v [.sc, .sc, .own [.sc]]], nslots := 15, res := [2], rc := [some (3, true)], code := .kp [0] c_laws_toCue_0 }
def c_laws_toCueS_12 : VC :=
  .ite (.s 11) (.skip) (.exit 0)
def c_laws_toCueS_18 : VC :=
  .r 4 [⟨none, [], none, .mv 12 (.s 4)⟩,
    ⟨none, [], none, .bin 13 .add (.s 12) (.k (.int .i64 1))⟩,
    ⟨none, [], none, .mv 4 (.s 13)⟩]
def c_laws_toCueS_15 : VC :=
  .seq (.blk 1 (.r 5 [⟨none, [], none, .mv 14 (.s 3)⟩,
    ⟨none, [], none, .mv 15 (.s 4)⟩,
    ⟨none, [], none, .mv 16 (.s 0)⟩,
    ⟨none, [], none, .mv 17 (.s 4)⟩,
    ⟨none, [], none, .iadr 18 (.s 16) (.s 17) 3⟩,
    ⟨none, [], none, .ld 19 (.s 18) 3 true⟩,
    ⟨none, [], none, .call 20 34 [(.s 19)]⟩,
    ⟨none, [], none, .iadr 21 (.s 14) (.s 15) 3⟩,
    ⟨none, [], none, .st (.s 21) (.s 20) 3⟩])) c_laws_toCueS_18
def c_laws_toCueS_9 : VC :=
  .seq (.seq (.r 3 [⟨none, [], none, .mv 8 (.s 4)⟩,
    ⟨none, [], none, .mv 9 (.s 0)⟩,
    ⟨none, [], none, .len 10 (.s 9)⟩,
    ⟨none, [], none, .bin 11 .lss (.s 8) (.s 10)⟩]) c_laws_toCueS_12) c_laws_toCueS_15
def c_laws_toCueS_7 : VC :=
  .blk 0 (.loop [0, 3, 4] c_laws_toCueS_9)
def c_laws_toCueS_19 : VC :=
  .seq (.r 6 [⟨none, [], none, .mv 22 (.s 3)⟩,
    ⟨none, [], none, .mv 2 (.s 22)⟩]) (.ret)
def c_laws_toCueS_4 : VC :=
  .seq (.seq (.r 2 [⟨none, [], none, .mv 4 (.k (.int .i64 0))⟩]) c_laws_toCueS_7) (.kp [3] c_laws_toCueS_19)
def c_laws_toCueS_2 : VC :=
  .seq (.r 1 [⟨none, [], none, .mv 5 (.s 0)⟩,
    ⟨none, [], none, .len 6 (.s 5)⟩,
    ⟨none, [], none, .mk 7 (.s 6) [.sc, .sc, .own [.sc]] [(.int .i64 0), (.int .i64 0), (.slice none 0 0)] 3518437208883⟩,
    ⟨none, [], none, .mv 3 (.s 7)⟩]) c_laws_toCueS_4
def c_laws_toCueS_0 : VC :=
  .seq (.r 0 [⟨none, [], none, .nil 2 [.sc, .sc, .own [.sc]]⟩]) c_laws_toCueS_2
def vf_laws_toCueS : VF := { pm := [.ro [.ro [.sc, .sc, .ro [.sc]]]], rm := [.v [.own [.sc, .sc, .own [.sc]]]], nslots := 23, res := [2], rc := [], code := .kp [0] c_laws_toCueS_0 }
def c_spec_l15Time_2 : VC :=
  .seq (.r 1 [⟨none, [], none, .mv 3 (.s 0)⟩,
    ⟨none, [], none, .bin 4 .geq (.s 3) (.k (.int .i64 0))⟩,
    ⟨none, [], none, .mv 5 (.s 4)⟩,
    ⟨none, [], some (5, true), .mv 6 (.s 0)⟩,
    ⟨none, [], some (5, true), .bin 7 .leq (.s 6) (.k (.int .i64 359999999))⟩,
    ⟨none, [], none, .pick 8 (.s 5) (.s 7) (.k (.bool false))⟩,
    ⟨none, [], none, .mv 2 (.s 8)⟩]) (.ret)
def c_spec_l15Time_0 : VC :=
  .seq (.r 0 [⟨none, [], none, .mv 2 (.k (.bool false))⟩]) c_spec_l15Time_2
def vf_spec_l15Time : VF := { pm := [.ro [.sc]], rm := [.v [.sc]], nslots := 9, res := [2], rc := [], code := .kp [0] c_spec_l15Time_0 }
def c_spec_l15Bytes_10 : VC :=
  .ite (.s 7) (.skip) (.exit 0)
def c_spec_l15Bytes_17 : VC :=
  .ite (.s 19) (.seq (.r 5 [⟨none, [], none, .mv 2 (.k (.bool false))⟩]) (.ret)) (.skip)
def c_spec_l15Bytes_22 : VC :=
  .r 3 [⟨none, [], none, .mv 8 (.s 3)⟩,
    ⟨none, [], none, .bin 9 .add (.s 8) (.k (.int .i64 1))⟩,
    ⟨none, [], none, .mv 3 (.s 9)⟩]
def c_spec_l15Bytes_13 : VC :=
  .seq (.blk 1 (.seq (.r 4 [⟨none, [], none, .mv 10 (.s 0)⟩,
    ⟨none, [], none, .mv 11 (.s 3)⟩,
    ⟨none, [], none, .idx 12 (.s 10) (.s 11)⟩,
    ⟨none, [], none, .bin 13 .lss (.s 12) (.k (.int .u8 32))⟩,
    ⟨none, [], none, .mv 14 (.s 13)⟩,
    ⟨none, [], some (14, false), .mv 15 (.s 0)⟩,
    ⟨none, [], some (14, false), .mv 16 (.s 3)⟩,
    ⟨none, [], some (14, false), .idx 17 (.s 15) (.s 16)⟩,
    ⟨none, [], some (14, false), .bin 18 .gtr (.s 17) (.k (.int .u8 126))⟩,
    ⟨none, [], none, .pick 19 (.s 14) (.k (.bool true)) (.s 18)⟩]) c_spec_l15Bytes_17)) c_spec_l15Bytes_22
def c_spec_l15Bytes_7 : VC :=
  .seq (.seq (.r 2 [⟨none, [], none, .mv 4 (.s 3)⟩,
    ⟨none, [], none, .mv 5 (.s 0)⟩,
    ⟨none, [], none, .slen 6 (.s 5)⟩,
    ⟨none, [], none, .bin 7 .lss (.s 4) (.s 6)⟩]) c_spec_l15Bytes_10) c_spec_l15Bytes_13
def c_spec_l15Bytes_5 : VC :=
  .blk 0 (.loop [0, 3] c_spec_l15Bytes_7)
def c_spec_l15Bytes_23 : VC :=
  .seq (.r 6 [⟨none, [], none, .mv 2 (.k (.bool true))⟩]) (.ret)
def c_spec_l15Bytes_2 : VC :=
  .seq (.seq (.r 1 [⟨none, [], none, .mv 3 (.k (.int .i64 0))⟩]) c_spec_l15Bytes_5) (.kp [] c_spec_l15Bytes_23)
def c_spec_l15Bytes_0 : VC :=
  .seq (.r 0 [⟨none, [], none, .mv 2 (.k (.bool false))⟩]) c_spec_l15Bytes_2
def vf_spec_l15Bytes : VF := { pm := [.ro [.sc]], rm := [.v [.sc]], nslots := 20, res := [2], rc := [], code := .kp [0] c_spec_l15Bytes_0 }
def c_spec_l15Has_10 : VC :=
  .ite (.s 8) (.skip) (.exit 0)
def c_spec_l15Has_17 : VC :=
  .ite (.s 16) (.seq (.r 5 [⟨none, [], none, .mv 2 (.k (.bool true))⟩]) (.ret)) (.skip)
def c_spec_l15Has_22 : VC :=
  .r 3 [⟨none, [], none, .mv 9 (.s 3)⟩,
    ⟨none, [], none, .bin 10 .add (.s 9) (.k (.int .i64 1))⟩,
    ⟨none, [], none, .mv 3 (.s 10)⟩]
def c_spec_l15Has_13 : VC :=
  .seq (.blk 1 (.seq (.r 4 [⟨none, [], none, .mv 11 (.s 0)⟩,
    ⟨none, [], none, .mv 12 (.s 3)⟩,
    ⟨none, [], none, .mv 13 (.s 3)⟩,
    ⟨none, [], none, .bin 14 .add (.s 13) (.k (.int .i64 3))⟩,
    ⟨none, [], none, .sstr 15 (.s 11) (some (.s 12)) (some (.s 14))⟩,
    ⟨none, [], none, .bin 16 .eql (.s 15) (.k (.string (ByteArray.mk #[45, 45, 62])))⟩]) c_spec_l15Has_17)) c_spec_l15Has_22
def c_spec_l15Has_7 : VC :=
  .seq (.seq (.r 2 [⟨none, [], none, .mv 4 (.s 3)⟩,
    ⟨none, [], none, .bin 5 .add (.s 4) (.k (.int .i64 2))⟩,
    ⟨none, [], none, .mv 6 (.s 0)⟩,
    ⟨none, [], none, .slen 7 (.s 6)⟩,
    ⟨none, [], none, .bin 8 .lss (.s 5) (.s 7)⟩]) c_spec_l15Has_10) c_spec_l15Has_13
def c_spec_l15Has_5 : VC :=
  .blk 0 (.loop [0, 3] c_spec_l15Has_7)
def c_spec_l15Has_23 : VC :=
  .seq (.r 6 [⟨none, [], none, .mv 2 (.k (.bool false))⟩]) (.ret)
def c_spec_l15Has_2 : VC :=
  .seq (.seq (.r 1 [⟨none, [], none, .mv 3 (.k (.int .i64 0))⟩]) c_spec_l15Has_5) (.kp [] c_spec_l15Has_23)
def c_spec_l15Has_0 : VC :=
  .seq (.r 0 [⟨none, [], none, .mv 2 (.k (.bool false))⟩]) c_spec_l15Has_2
def vf_spec_l15Has : VF := { pm := [.ro [.sc]], rm := [.v [.sc]], nslots := 17, res := [2], rc := [], code := .kp [0] c_spec_l15Has_0 }
def c_spec_l15Lines_19 : VC :=
  .ite (.s 35) (.seq (.r 5 [⟨none, [], none, .mv 2 (.k (.bool false))⟩]) (.ret)) (.skip)
def c_spec_l15Lines_17 : VC :=
  .seq (.r 4 [⟨none, [], none, .mv 11 (.s 4)⟩,
    ⟨none, [], none, .slen 12 (.s 11)⟩,
    ⟨none, [], none, .bin 13 .lss (.s 12) (.k (.int .i64 1))⟩,
    ⟨none, [], none, .mv 14 (.s 13)⟩,
    ⟨none, [], some (14, false), .mv 15 (.s 4)⟩,
    ⟨none, [], some (14, false), .slen 16 (.s 15)⟩,
    ⟨none, [], some (14, false), .bin 17 .gtr (.s 16) (.k (.int .i64 80))⟩,
    ⟨none, [], none, .pick 18 (.s 14) (.k (.bool true)) (.s 17)⟩,
    ⟨none, [], none, .mv 19 (.s 18)⟩,
    ⟨none, [], some (19, false), .mv 20 (.s 4)⟩,
    ⟨none, [], some (19, false), .call 21 50 [(.s 20)]⟩,
    ⟨none, [], some (19, false), .un 22 .not (.s 21)⟩,
    ⟨none, [], none, .pick 23 (.s 19) (.k (.bool true)) (.s 22)⟩,
    ⟨none, [], none, .mv 24 (.s 23)⟩,
    ⟨none, [], some (24, false), .mv 25 (.s 4)⟩,
    ⟨none, [], some (24, false), .mv 26 (.s 4)⟩,
    ⟨none, [], some (24, false), .slen 27 (.s 26)⟩,
    ⟨none, [], some (24, false), .bin 28 .sub (.s 27) (.k (.int .i64 1))⟩,
    ⟨none, [], some (24, false), .idx 29 (.s 25) (.s 28)⟩,
    ⟨none, [], some (24, false), .bin 30 .eql (.s 29) (.k (.int .u8 32))⟩,
    ⟨none, [], none, .pick 31 (.s 24) (.k (.bool true)) (.s 30)⟩,
    ⟨none, [], none, .mv 32 (.s 31)⟩,
    ⟨none, [], some (32, false), .mv 33 (.s 4)⟩,
    ⟨none, [], some (32, false), .call 34 51 [(.s 33)]⟩,
    ⟨none, [], none, .pick 35 (.s 32) (.k (.bool true)) (.s 34)⟩]) c_spec_l15Lines_19
def c_spec_l15Lines_24 : VC :=
  .r 6 [⟨none, [], none, .bin 36 .add (.s 7) (.k (.int .i64 1))⟩,
    ⟨none, [], none, .mv 7 (.s 36)⟩]
def c_spec_l15Lines_13 : VC :=
  .seq (.blk 1 (.seq (.r 3 [⟨none, [], none, .iadr 9 (.s 5) (.s 7) 1⟩,
    ⟨none, [], none, .ld 10 (.s 9) 1 false⟩,
    ⟨none, [], none, .mv 4 (.s 10)⟩]) c_spec_l15Lines_17)) c_spec_l15Lines_24
def c_spec_l15Lines_9 : VC :=
  .seq (.ite (.s 8) (.skip) (.exit 0)) c_spec_l15Lines_13
def c_spec_l15Lines_7 : VC :=
  .seq (.r 2 [⟨none, [], none, .bin 8 .lss (.s 7) (.s 6)⟩]) c_spec_l15Lines_9
def c_spec_l15Lines_5 : VC :=
  .blk 0 (.loop [0, 5, 6, 7] c_spec_l15Lines_7)
def c_spec_l15Lines_25 : VC :=
  .seq (.r 7 [⟨none, [], none, .mv 37 (.s 0)⟩,
    ⟨none, [], none, .len 38 (.s 37)⟩,
    ⟨none, [], none, .bin 39 .geq (.s 38) (.k (.int .i64 1))⟩,
    ⟨none, [], none, .mv 40 (.s 39)⟩,
    ⟨none, [], some (40, true), .mv 41 (.s 0)⟩,
    ⟨none, [], some (40, true), .len 42 (.s 41)⟩,
    ⟨none, [], some (40, true), .bin 43 .leq (.s 42) (.k (.int .i64 4))⟩,
    ⟨none, [], none, .pick 44 (.s 40) (.s 43) (.k (.bool false))⟩,
    ⟨none, [], none, .mv 2 (.s 44)⟩]) (.ret)
def c_spec_l15Lines_2 : VC :=
  .seq (.seq (.r 1 [⟨none, [], none, .mv 5 (.s 0)⟩,
    ⟨none, [], none, .len 6 (.s 5)⟩,
    ⟨none, [], none, .mv 7 (.k (.int .i64 0))⟩]) c_spec_l15Lines_5) (.kp [0] c_spec_l15Lines_25)
def c_spec_l15Lines_0 : VC :=
  .seq (.r 0 [⟨none, [], none, .mv 2 (.k (.bool false))⟩]) c_spec_l15Lines_2
def vf_spec_l15Lines : VF := { pm := [.ro [.ro [.sc]]], rm := [.v [.sc]], nslots := 45, res := [2], rc := [], code := .kp [0] c_spec_l15Lines_0 }
def c_spec_GoodCues_5 : VC :=
  .ite (.s 7) (.seq (.r 2 [⟨none, [], none, .mv 2 (.k (.bool false))⟩]) (.ret)) (.skip)
def c_spec_GoodCues_27 : VC :=
  .ite (.s 52) (.seq (.r 7 [⟨none, [], none, .mv 2 (.k (.bool false))⟩]) (.ret)) (.skip)
def c_spec_GoodCues_25 : VC :=
  .seq (.d 6 [(0, ⟨none, [], none, .fadv 15 (.s 4) 0⟩),
    (1, ⟨none, [], none, .ldv 16 (.s 15) 1 false⟩),
    (2, ⟨none, [], none, .call 17 33 [(.s 16)]⟩),
    (3, ⟨none, [], none, .un 18 .not (.s 17)⟩),
    (4, ⟨none, [], none, .mv 19 (.s 18)⟩),
    (5, ⟨none, [], some (19, false), .fadv 20 (.s 4) 1⟩),
    (6, ⟨none, [], some (19, false), .ldv 21 (.s 20) 1 false⟩),
    (7, ⟨none, [], some (19, false), .call 22 33 [(.s 21)]⟩),
    (8, ⟨none, [], some (19, false), .un 23 .not (.s 22)⟩),
    (9, ⟨none, [], none, .pick 24 (.s 19) (.k (.bool true)) (.s 23)⟩),
    (10, ⟨none, [], none, .mv 25 (.s 24)⟩),
    (11, ⟨none, [], some (25, false), .fadv 26 (.s 4) 0⟩),
    (12, ⟨none, [], some (25, false), .ldv 27 (.s 26) 1 false⟩),
    (13, ⟨none, [], some (25, false), .fadv 28 (.s 4) 1⟩),
    (14, ⟨none, [], some (25, false), .ldv 29 (.s 28) 1 false⟩),
    (15, ⟨none, [], some (25, false), .bin 30 .geq (.s 27) (.s 29)⟩),
    (16, ⟨none, [], none, .pick 31 (.s 25) (.k (.bool true)) (.s 30)⟩),
    (17, ⟨none, [], none, .mv 32 (.s 31)⟩),
    (18, ⟨none, [], some (32, false), .fadv 33 (.s 4) 2⟩),
    (19, ⟨none, [], some (32, false), .ldv 34 (.s 33) 1 false⟩),
    (20, ⟨none, [], some (32, false), .call 35 42 [(.s 34)]⟩),
    (21, ⟨none, [], some (32, false), .un 36 .not (.s 35)⟩),
    (22, ⟨none, [], none, .pick 37 (.s 32) (.k (.bool true)) (.s 36)⟩),
    (23, ⟨none, [], none, .mv 38 (.s 37)⟩),
    (24, ⟨none, [], some (38, false), .mv 39 (.s 3)⟩),
    (25, ⟨none, [], some (38, false), .bin 40 .gtr (.s 39) (.k (.int .i64 0))⟩),
    (26, ⟨none, [], some (38, false), .mv 41 (.s 40)⟩),
    (27, ⟨none, [], some (41, true), .fadv 42 (.s 4) 0⟩),
    (28, ⟨none, [], some (41, true), .ldv 43 (.s 42) 1 false⟩),
    (29, ⟨none, [], some (41, true), .mv 44 (.s 0)⟩),
    (30, ⟨none, [], some (41, true), .mv 45 (.s 3)⟩),
    (31, ⟨none, [], some (41, true), .bin 46 .sub (.s 45) (.k (.int .i64 1))⟩),
    (32, ⟨none, [], some (41, true), .iadr 47 (.s 44) (.s 46) 3⟩),
    (33, ⟨none, [], some (41, true), .fadv 48 (.s 47) 0⟩),
    (34, ⟨none, [], some (41, true), .ldv 49 (.s 48) 1 false⟩),
    (35, ⟨none, [], some (41, true), .bin 50 .lss (.s 43) (.s 49)⟩),
    (36, ⟨none, [], some (38, false), .pick 51 (.s 41) (.s 50) (.k (.bool false))⟩),
    (37, ⟨none, [], none, .pick 52 (.s 38) (.k (.bool true)) (.s 51)⟩)]) c_spec_GoodCues_27
def c_spec_GoodCues_32 : VC :=
  .r 8 [⟨none, [], none, .bin 53 .add (.s 10) (.k (.int .i64 1))⟩,
    ⟨none, [], none, .mv 10 (.s 53)⟩]
def c_spec_GoodCues_21 : VC :=
  .seq (.blk 1 (.seq (.r 5 [⟨none, [], none, .mv 12 (.s 10)⟩,
    ⟨none, [], none, .iadr 13 (.s 8) (.s 10) 3⟩,
    ⟨none, [], none, .ld 14 (.s 13) 3 true⟩,
    ⟨none, [], none, .alloc 4 [.k (.int .i64 0), .k (.int .i64 0), .o [.sc]]⟩,
    ⟨none, [], none, .mv 3 (.s 12)⟩,
    ⟨none, [], none, .st (.s 4) (.s 14) 3⟩]) c_spec_GoodCues_25)) c_spec_GoodCues_32
def c_spec_GoodCues_17 : VC :=
  .seq (.ite (.s 11) (.skip) (.exit 0)) c_spec_GoodCues_21
def c_spec_GoodCues_15 : VC :=
  .seq (.r 4 [⟨none, [], none, .bin 11 .lss (.s 10) (.s 9)⟩]) c_spec_GoodCues_17
def c_spec_GoodCues_13 : VC :=
  .blk 0 (.loop [0, 8, 9, 10] c_spec_GoodCues_15)
def c_spec_GoodCues_33 : VC :=
  .seq (.r 9 [⟨none, [], none, .mv 2 (.k (.bool true))⟩]) (.ret)
def c_spec_GoodCues_10 : VC :=
  .seq (.seq (.r 3 [⟨none, [], none, .mv 8 (.s 0)⟩,
    ⟨none, [], none, .len 9 (.s 8)⟩,
    ⟨none, [], none, .mv 10 (.k (.int .i64 0))⟩]) c_spec_GoodCues_13) (.kp [] c_spec_GoodCues_33)
def c_spec_GoodCues_2 : VC :=
  .seq (.seq (.r 1 [⟨none, [], none, .mv 5 (.s 0)⟩,
    ⟨none, [], none, .len 6 (.s 5)⟩,
    ⟨none, [], none, .bin 7 .gtr (.s 6) (.k (.int .i64 200))⟩]) c_spec_GoodCues_5) c_spec_GoodCues_10
def c_spec_GoodCues_0 : VC :=
  .seq (.r 0 [⟨none, [], none, .mv 2 (.k (.bool false))⟩]) c_spec_GoodCues_2
def vf_spec_GoodCues : VF := { pm := [.ro [.ro [.sc, .sc, .ro [.sc]]]], rm := [.v [.sc]], nslots := 54, res := [2], rc := [], code := .kp [0] c_spec_GoodCues_0 }
def c_spec_l15Floor_7 : VC :=
  .ite (.s 12) (.r 3 [⟨none, [], none, .mv 13 (.s 5)⟩,
    ⟨none, [], none, .bin 14 .sub (.s 13) (.k (.int .i64 1))⟩,
    ⟨none, [], none, .mv 5 (.s 14)⟩]) (.skip)
def c_spec_l15Floor_10 : VC :=
  .seq (.r 4 [⟨none, [], none, .mv 15 (.s 5)⟩,
    ⟨none, [], none, .mv 4 (.s 15)⟩]) (.ret)
def c_spec_l15Floor_4 : VC :=
  .seq (.seq (.r 2 [⟨none, [], none, .mv 9 (.s 0)⟩,
    ⟨none, [], none, .mv 10 (.s 1)⟩,
    ⟨none, [], none, .bin 11 .rem (.s 9) (.s 10)⟩,
    ⟨none, [], none, .bin 12 .lss (.s 11) (.k (.int .i64 0))⟩]) c_spec_l15Floor_7) c_spec_l15Floor_10
def c_spec_l15Floor_2 : VC :=
  .seq (.r 1 [⟨none, [], none, .mv 6 (.s 0)⟩,
    ⟨none, [], none, .mv 7 (.s 1)⟩,
    ⟨none, [], none, .bin 8 .quo (.s 6) (.s 7)⟩,
    ⟨none, [], none, .mv 5 (.s 8)⟩]) c_spec_l15Floor_4
def c_spec_l15Floor_0 : VC :=
  .seq (.r 0 [⟨none, [], none, .mv 4 (.k (.int .i64 0))⟩]) c_spec_l15Floor_2
def vf_spec_l15Floor : VF := { pm := [.ro [.sc], .ro [.sc]], rm := [.v [.sc]], nslots := 16, res := [4], rc := [], code := .kp [0, 1] c_spec_l15Floor_0 }
def c_spec_Retime_5 : VC :=
  .ite (.s 41) (.seq (.r 2 [⟨none, [], none, .nil 8 [.sc, .sc, .own [.sc]]⟩]) (.ret)) (.skip)
def c_spec_Retime_34 : VC :=
  .ite (.s 74) (.exit 1) (.skip)
def c_spec_Retime_40 : VC :=
  .ite (.s 76) (.r 11 [⟨none, [], none, .mv 12 (.k (.int .i64 0))⟩]) (.skip)
def c_spec_Retime_47 : VC :=
  .r 14 [⟨none, [], none, .mv 81 (.s 9)⟩,
    ⟨none, [], none, .mv 82 (.s 12)⟩,
    ⟨none, [], none, .mv 83 (.s 13)⟩,
    ⟨none, [], none, .mv 84 (.s 14)⟩,
    ⟨none, [], none, .bld 85 [.k (.int .i64 0), .k (.int .i64 0), .k (.slice none 0 0)] [(0, 1, (.s 82)), (1, 1, (.s 83)), (2, 1, (.s 84))]⟩,
    ⟨none, [], none, .lits 86 [.sc, .sc, .own [.sc]] [(.s 85)]⟩,
    ⟨none, [], none, .app 87 (.s 81) (.s 86) [.sc, .sc, .own [.sc]] 3518437208883⟩,
    ⟨none, [], none, .mv 9 (.s 87)⟩]
def c_spec_Retime_45 : VC :=
  .seq (.r 13 [⟨none, [], none, .mv 77 (.s 14)⟩,
    ⟨none, [], none, .fadr 78 (.s 11) 2⟩,
    ⟨none, [], none, .ld 79 (.s 78) 1 false⟩,
    ⟨none, [], none, .app 80 (.s 77) (.s 79) [.sc] 8796093022208⟩,
    ⟨none, [], none, .mv 14 (.s 80)⟩]) c_spec_Retime_47
def c_spec_Retime_43 : VC :=
  .seq (.r 12 [⟨none, [], none, .nil 14 [.sc]⟩]) c_spec_Retime_45
def c_spec_Retime_37 : VC :=
  .seq (.seq (.r 10 [⟨none, [], none, .mv 75 (.s 12)⟩,
    ⟨none, [], none, .bin 76 .lss (.s 75) (.k (.int .i64 0))⟩]) c_spec_Retime_40) (.kp [1, 2, 3, 9, 11, 12, 13, 42, 43, 44] c_spec_Retime_43)
def c_spec_Retime_31 : VC :=
  .seq (.seq (.r 9 [⟨none, [], none, .mv 64 (.s 13)⟩,
    ⟨none, [], none, .bin 65 .leq (.s 64) (.k (.int .i64 0))⟩,
    ⟨none, [], none, .mv 66 (.s 65)⟩,
    ⟨none, [], some (66, false), .mv 67 (.s 12)⟩,
    ⟨none, [], some (66, false), .mv 68 (.s 13)⟩,
    ⟨none, [], some (66, false), .bin 69 .geq (.s 67) (.s 68)⟩,
    ⟨none, [], none, .pick 70 (.s 66) (.k (.bool true)) (.s 69)⟩,
    ⟨none, [], none, .mv 71 (.s 70)⟩,
    ⟨none, [], some (71, false), .mv 72 (.s 13)⟩,
    ⟨none, [], some (71, false), .bin 73 .gtr (.s 72) (.k (.int .i64 359999999))⟩,
    ⟨none, [], none, .pick 74 (.s 71) (.k (.bool true)) (.s 73)⟩]) c_spec_Retime_34) c_spec_Retime_37
def c_spec_Retime_29 : VC :=
  .seq (.r 8 [⟨none, [], none, .fadr 56 (.s 11) 1⟩,
    ⟨none, [], none, .ld 57 (.s 56) 1 false⟩,
    ⟨none, [], none, .mv 58 (.s 1)⟩,
    ⟨none, [], none, .bin 59 .mul (.s 57) (.s 58)⟩,
    ⟨none, [], none, .mv 60 (.s 2)⟩,
    ⟨none, [], none, .call 61 38 [(.s 59), (.s 60)]⟩,
    ⟨none, [], none, .mv 62 (.s 3)⟩,
    ⟨none, [], none, .bin 63 .add (.s 61) (.s 62)⟩,
    ⟨none, [], none, .mv 13 (.s 63)⟩]) c_spec_Retime_31
def c_spec_Retime_27 : VC :=
  .seq (.r 7 [⟨none, [], none, .fadr 48 (.s 11) 0⟩,
    ⟨none, [], none, .ld 49 (.s 48) 1 false⟩,
    ⟨none, [], none, .mv 50 (.s 1)⟩,
    ⟨none, [], none, .bin 51 .mul (.s 49) (.s 50)⟩,
    ⟨none, [], none, .mv 52 (.s 2)⟩,
    ⟨none, [], none, .call 53 38 [(.s 51), (.s 52)]⟩,
    ⟨none, [], none, .mv 54 (.s 3)⟩,
    ⟨none, [], none, .bin 55 .add (.s 53) (.s 54)⟩,
    ⟨none, [], none, .mv 12 (.s 55)⟩]) c_spec_Retime_29
def c_spec_Retime_48 : VC :=
  .r 15 [⟨none, [], none, .bin 88 .add (.s 44) (.k (.int .i64 1))⟩,
    ⟨none, [], none, .mv 44 (.s 88)⟩]
def c_spec_Retime_23 : VC :=
  .seq (.blk 1 (.seq (.r 6 [⟨none, [], none, .iadr 46 (.s 42) (.s 44) 3⟩,
    ⟨none, [], none, .ld 47 (.s 46) 3 true⟩,
    ⟨none, [], none, .alloc 11 [.k (.int .i64 0), .k (.int .i64 0), .o [.sc]]⟩,
    ⟨none, [], none, .st (.s 11) (.s 47) 3⟩]) c_spec_Retime_27)) c_spec_Retime_48
def c_spec_Retime_19 : VC :=
  .seq (.ite (.s 45) (.skip) (.exit 0)) c_spec_Retime_23
def c_spec_Retime_17 : VC :=
  .seq (.r 5 [⟨none, [], none, .bin 45 .lss (.s 44) (.s 43)⟩]) c_spec_Retime_19
def c_spec_Retime_15 : VC :=
  .blk 0 (.loop [1, 2, 3, 9, 42, 43, 44] c_spec_Retime_17)
def c_spec_Retime_49 : VC :=
  .seq (.r 16 [⟨none, [], none, .mv 89 (.s 9)⟩,
    ⟨none, [], none, .mv 8 (.s 89)⟩]) (.ret)
def c_spec_Retime_12 : VC :=
  .seq (.seq (.r 4 [⟨none, [], none, .mv 42 (.s 0)⟩,
    ⟨none, [], none, .len 43 (.s 42)⟩,
    ⟨none, [], none, .mv 44 (.k (.int .i64 0))⟩]) c_spec_Retime_15) (.kp [9] c_spec_Retime_49)
def c_spec_Retime_10 : VC :=
  .seq (.r 3 [⟨none, [], none, .nil 9 [.sc, .sc, .own [.sc]]⟩]) c_spec_Retime_12
def c_spec_Retime_2 : VC :=
  .seq (.seq (.r 1 [⟨none, [], none, .mv 15 (.s 0)⟩,
    ⟨none, [], none, .call 16 27 [(.s 15)]⟩,
    ⟨none, [], none, .un 17 .not (.s 16)⟩,
    ⟨none, [], none, .mv 18 (.s 17)⟩,
    ⟨none, [], some (18, false), .mv 19 (.s 1)⟩,
    ⟨none, [], some (18, false), .bin 20 .lss (.s 19) (.k (.int .i64 1))⟩,
    ⟨none, [], none, .pick 21 (.s 18) (.k (.bool true)) (.s 20)⟩,
    ⟨none, [], none, .mv 22 (.s 21)⟩,
    ⟨none, [], some (22, false), .mv 23 (.s 1)⟩,
    ⟨none, [], some (22, false), .bin 24 .gtr (.s 23) (.k (.int .i64 1000000))⟩,
    ⟨none, [], none, .pick 25 (.s 22) (.k (.bool true)) (.s 24)⟩,
    ⟨none, [], none, .mv 26 (.s 25)⟩,
    ⟨none, [], some (26, false), .mv 27 (.s 2)⟩,
    ⟨none, [], some (26, false), .bin 28 .lss (.s 27) (.k (.int .i64 1))⟩,
    ⟨none, [], none, .pick 29 (.s 26) (.k (.bool true)) (.s 28)⟩,
    ⟨none, [], none, .mv 30 (.s 29)⟩,
    ⟨none, [], some (30, false), .mv 31 (.s 2)⟩,
    ⟨none, [], some (30, false), .bin 32 .gtr (.s 31) (.k (.int .i64 1000000))⟩,
    ⟨none, [], none, .pick 33 (.s 30) (.k (.bool true)) (.s 32)⟩,
    ⟨none, [], none, .mv 34 (.s 33)⟩,
    ⟨none, [], some (34, false), .mv 35 (.s 3)⟩,
    ⟨none, [], some (34, false), .bin 36 .lss (.s 35) (.k (.int .i64 (-359999999)))⟩,
    ⟨none, [], none, .pick 37 (.s 34) (.k (.bool true)) (.s 36)⟩,
    ⟨none, [], none, .mv 38 (.s 37)⟩,
    ⟨none, [], some (38, false), .mv 39 (.s 3)⟩,
    ⟨none, [], some (38, false), .bin 40 .gtr (.s 39) (.k (.int .i64 359999999))⟩,
    ⟨none, [], none, .pick 41 (.s 38) (.k (.bool true)) (.s 40)⟩]) c_spec_Retime_5) c_spec_Retime_10
def c_spec_Retime_0 : VC :=
  .seq (.r 0 [⟨none, [], none, .nil 8 [.sc, .sc, .own [.sc]]⟩]) c_spec_Retime_2
def vf_spec_Retime : VF := { pm := [.ro [.ro [.sc, .sc, .ro [.sc]]], .ro [.sc], .ro [.sc], .ro [.sc]], rm := [.v [.own [.sc, .sc, .own [.sc]]]], nslots := 90, res := [8], rc := [], code := .kp [0, 1, 2, 3] c_spec_Retime_0 }
def c_impl_ztime_2 : VC :=
  .seq (.r 1 [⟨none, [], none, .mv 3 (.s 0)⟩,
    ⟨none, [], none, .bin 4 .geq (.s 3) (.k (.int .i64 0))⟩,
    ⟨none, [], none, .mv 5 (.s 4)⟩,
    ⟨none, [], some (5, true), .mv 6 (.s 0)⟩,
    ⟨none, [], some (5, true), .bin 7 .leq (.s 6) (.k (.int .i64 359999999))⟩,
    ⟨none, [], none, .pick 8 (.s 5) (.s 7) (.k (.bool false))⟩,
    ⟨none, [], none, .mv 2 (.s 8)⟩]) (.ret)
def c_impl_ztime_0 : VC :=
  .seq (.r 0 [⟨none, [], none, .mv 2 (.k (.bool false))⟩]) c_impl_ztime_2
def vf_impl_ztime : VF := { pm := [.ro [.sc]], rm := [.v [.sc]], nslots := 9, res := [2], rc := [], code := .kp [0] c_impl_ztime_0 }
def ex_strings_Contains (ars : List Arg) : Option FRes := match ars with | [.v false [.lit (.string p0)], .v false [.lit (.string p1)]] => (gContains p0 p1).map fun r => ⟨[.v false [.lit (.bool r)]], []⟩ | _ => none
def vf_strings_Contains : VF := { given := true, pm := [.ro [.sc], .ro [.sc]], rm := [.v [.sc]], nslots := 3, res := [2], rc := [], code := .skip }
def c_impl_zcueLine_19 : VC :=
  .ite (.s 18) (.seq (.r 5 [⟨none, [], none, .mv 2 (.k (.int .i64 4))⟩]) (.ret)) (.skip)
def c_impl_zcueLine_17 : VC :=
  .seq (.r 4 [⟨none, [], none, .mv 9 (.s 0)⟩,
    ⟨none, [], none, .mv 10 (.s 3)⟩,
    ⟨none, [], none, .idx 11 (.s 9) (.s 10)⟩,
    ⟨none, [], none, .bin 12 .lss (.s 11) (.k (.int .u8 32))⟩,
    ⟨none, [], none, .mv 13 (.s 12)⟩,
    ⟨none, [], some (13, false), .mv 14 (.s 0)⟩,
    ⟨none, [], some (13, false), .mv 15 (.s 3)⟩,
    ⟨none, [], some (13, false), .idx 16 (.s 14) (.s 15)⟩,
    ⟨none, [], some (13, false), .bin 17 .gtr (.s 16) (.k (.int .u8 126))⟩,
    ⟨none, [], none, .pick 18 (.s 13) (.k (.bool true)) (.s 17)⟩]) c_impl_zcueLine_19
def c_impl_zcueLine_24 : VC :=
  .r 6 [⟨none, [], none, .bin 19 .add (.s 6) (.k (.int .i64 1))⟩,
    ⟨none, [], none, .mv 6 (.s 19)⟩]
def c_impl_zcueLine_13 : VC :=
  .seq (.blk 1 (.seq (.r 3 [⟨none, [], none, .mv 8 (.s 6)⟩,
    ⟨none, [], none, .mv 3 (.s 8)⟩]) c_impl_zcueLine_17)) c_impl_zcueLine_24
def c_impl_zcueLine_9 : VC :=
  .seq (.ite (.s 7) (.skip) (.exit 0)) c_impl_zcueLine_13
def c_impl_zcueLine_7 : VC :=
  .seq (.r 2 [⟨none, [], none, .bin 7 .lss (.s 6) (.s 5)⟩]) c_impl_zcueLine_9
def c_impl_zcueLine_5 : VC :=
  .blk 0 (.loop [0, 5, 6] c_impl_zcueLine_7)
def c_impl_zcueLine_28 : VC :=
  .ite (.s 21) (.seq (.r 8 [⟨none, [], none, .mv 2 (.k (.int .i64 4))⟩]) (.ret)) (.skip)
def c_impl_zcueLine_36 : VC :=
  .ite (.s 24) (.seq (.r 10 [⟨none, [], none, .mv 2 (.k (.int .i64 7))⟩]) (.ret)) (.skip)
def c_impl_zcueLine_41 : VC :=
  .seq (.r 11 [⟨none, [], none, .mv 2 (.k (.int .i64 0))⟩]) (.ret)
def c_impl_zcueLine_33 : VC :=
  .seq (.seq (.r 9 [⟨none, [], none, .mv 22 (.s 0)⟩,
    ⟨none, [], none, .slen 23 (.s 22)⟩,
    ⟨none, [], none, .bin 24 .gtr (.s 23) (.k (.int .i64 80))⟩]) c_impl_zcueLine_36) c_impl_zcueLine_41
def c_impl_zcueLine_25 : VC :=
  .seq (.seq (.r 7 [⟨none, [], none, .mv 20 (.s 0)⟩,
    ⟨none, [], none, .call 21 53 [(.s 20), (.k (.string (ByteArray.mk #[45, 45, 62])))]⟩]) c_impl_zcueLine_28) c_impl_zcueLine_33
def c_impl_zcueLine_2 : VC :=
  .seq (.seq (.r 1 [⟨none, [], none, .mv 4 (.s 0)⟩,
    ⟨none, [], none, .slen 5 (.s 4)⟩,
    ⟨none, [], none, .mv 6 (.k (.int .i64 0))⟩]) c_impl_zcueLine_5) (.kp [0] c_impl_zcueLine_25)
def c_impl_zcueLine_0 : VC :=
  .seq (.r 0 [⟨none, [], none, .mv 2 (.k (.int .i64 0))⟩]) c_impl_zcueLine_2
def vf_impl_zcueLine : VF := { pm := [.ro [.sc]], rm := [.v [.sc]], nslots := 25, res := [2], rc := [], code := .kp [0] c_impl_zcueLine_0 }
def c_impl_zcue_5 : VC :=
  .ite (.s 14) (.seq (.r 2 [⟨none, [], none, .mv 2 (.k (.bool false))⟩]) (.ret)) (.skip)
def c_impl_zcue_27 : VC :=
  .ite (.s 36) (.seq (.r 7 [⟨none, [], none, .mv 2 (.k (.bool false))⟩]) (.ret)) (.skip)
def c_impl_zcue_25 : VC :=
  .seq (.r 6 [⟨none, [], none, .mv 22 (.s 4)⟩,
    ⟨none, [], none, .bin 23 .eql (.s 22) (.k (.string (ByteArray.mk #[])))⟩,
    ⟨none, [], none, .mv 24 (.s 23)⟩,
    ⟨none, [], some (24, false), .mv 25 (.s 4)⟩,
    ⟨none, [], some (24, false), .mv 26 (.s 4)⟩,
    ⟨none, [], some (24, false), .slen 27 (.s 26)⟩,
    ⟨none, [], some (24, false), .bin 28 .sub (.s 27) (.k (.int .i64 1))⟩,
    ⟨none, [], some (24, false), .idx 29 (.s 25) (.s 28)⟩,
    ⟨none, [], some (24, false), .bin 30 .eql (.s 29) (.k (.int .u8 32))⟩,
    ⟨none, [], none, .pick 31 (.s 24) (.k (.bool true)) (.s 30)⟩,
    ⟨none, [], none, .mv 32 (.s 31)⟩,
    ⟨none, [], some (32, false), .mv 33 (.s 4)⟩,
    ⟨none, [], some (32, false), .call 34 49 [(.s 33)]⟩,
    ⟨none, [], some (32, false), .bin 35 .neq (.s 34) (.k (.int .i64 0))⟩,
    ⟨none, [], none, .pick 36 (.s 32) (.k (.bool true)) (.s 35)⟩]) c_impl_zcue_27
def c_impl_zcue_32 : VC :=
  .r 8 [⟨none, [], none, .bin 37 .add (.s 18) (.k (.int .i64 1))⟩,
    ⟨none, [], none, .mv 18 (.s 37)⟩]
def c_impl_zcue_21 : VC :=
  .seq (.blk 1 (.seq (.r 5 [⟨none, [], none, .iadr 20 (.s 16) (.s 18) 1⟩,
    ⟨none, [], none, .ld 21 (.s 20) 1 false⟩,
    ⟨none, [], none, .mv 4 (.s 21)⟩]) c_impl_zcue_25)) c_impl_zcue_32
def c_impl_zcue_17 : VC :=
  .seq (.ite (.s 19) (.skip) (.exit 0)) c_impl_zcue_21
def c_impl_zcue_15 : VC :=
  .seq (.r 4 [⟨none, [], none, .bin 19 .lss (.s 18) (.s 17)⟩]) c_impl_zcue_17
def c_impl_zcue_13 : VC :=
  .blk 0 (.loop [16, 17, 18] c_impl_zcue_15)
def c_impl_zcue_33 : VC :=
  .seq (.r 9 [⟨none, [], none, .mv 2 (.k (.bool true))⟩]) (.ret)
def c_impl_zcue_10 : VC :=
  .seq (.seq (.r 3 [⟨none, [], none, .fadr 15 (.s 1) 2⟩,
    ⟨none, [], none, .ld 16 (.s 15) 1 false⟩,
    ⟨none, [], none, .len 17 (.s 16)⟩,
    ⟨none, [], none, .mv 18 (.k (.int .i64 0))⟩]) c_impl_zcue_13) (.kp [] c_impl_zcue_33)
def c_impl_zcue_2 : VC :=
  .seq (.seq (.r 1 [⟨none, [], none, .fadr 5 (.s 1) 2⟩,
    ⟨none, [], none, .ld 6 (.s 5) 1 false⟩,
    ⟨none, [], none, .len 7 (.s 6)⟩,
    ⟨none, [], none, .bin 8 .lss (.s 7) (.k (.int .i64 1))⟩,
    ⟨none, [], none, .mv 9 (.s 8)⟩,
    ⟨none, [], some (9, false), .fadr 10 (.s 1) 2⟩,
    ⟨none, [], some (9, false), .ld 11 (.s 10) 1 false⟩,
    ⟨none, [], some (9, false), .len 12 (.s 11)⟩,
    ⟨none, [], some (9, false), .bin 13 .gtr (.s 12) (.k (.int .i64 4))⟩,
    ⟨none, [], none, .pick 14 (.s 9) (.k (.bool true)) (.s 13)⟩]) c_impl_zcue_5) c_impl_zcue_10
def c_impl_zcue_0 : VC :=
  .seq (.r 0 [⟨none, [], none, .box 1 (.s 0)⟩,
    ⟨none, [], none, .mv 2 (.k (.bool false))⟩]) c_impl_zcue_2
def vf_impl_zcue : VF := { pm := [.ro [.sc, .sc, .ro [.sc]]], rm := [.v [.sc]], nslots := 38, res := [2], rc := [], code := .kp [0] c_impl_zcue_0 }
def c_impl_GoodCues_5 : VC :=
  .ite (.s 7) (.seq (.r 2 [⟨none, [], none, .mv 2 (.k (.bool false))⟩]) (.ret)) (.skip)
def c_impl_GoodCues_27 : VC :=
  .ite (.s 51) (.seq (.r 7 [⟨none, [], none, .mv 2 (.k (.bool false))⟩]) (.ret)) (.skip)
def c_impl_GoodCues_25 : VC :=
  .seq (.d 6 [(0, ⟨none, [], none, .fadv 15 (.s 4) 0⟩),
    (1, ⟨none, [], none, .ldv 16 (.s 15) 1 false⟩),
    (2, ⟨none, [], none, .call 17 35 [(.s 16)]⟩),
    (3, ⟨none, [], none, .un 18 .not (.s 17)⟩),
    (4, ⟨none, [], none, .mv 19 (.s 18)⟩),
    (5, ⟨none, [], some (19, false), .fadv 20 (.s 4) 1⟩),
    (6, ⟨none, [], some (19, false), .ldv 21 (.s 20) 1 false⟩),
    (7, ⟨none, [], some (19, false), .call 22 35 [(.s 21)]⟩),
    (8, ⟨none, [], some (19, false), .un 23 .not (.s 22)⟩),
    (9, ⟨none, [], none, .pick 24 (.s 19) (.k (.bool true)) (.s 23)⟩),
    (10, ⟨none, [], none, .mv 25 (.s 24)⟩),
    (11, ⟨none, [], some (25, false), .fadv 26 (.s 4) 0⟩),
    (12, ⟨none, [], some (25, false), .ldv 27 (.s 26) 1 false⟩),
    (13, ⟨none, [], some (25, false), .fadv 28 (.s 4) 1⟩),
    (14, ⟨none, [], some (25, false), .ldv 29 (.s 28) 1 false⟩),
    (15, ⟨none, [], some (25, false), .bin 30 .geq (.s 27) (.s 29)⟩),
    (16, ⟨none, [], none, .pick 31 (.s 25) (.k (.bool true)) (.s 30)⟩),
    (17, ⟨none, [], none, .mv 32 (.s 31)⟩),
    (18, ⟨none, [], some (32, false), .ldv 33 (.s 4) 3 true⟩),
    (19, ⟨none, [], some (32, false), .call 34 41 [(.s 33)]⟩),
    (20, ⟨none, [], some (32, false), .un 35 .not (.s 34)⟩),
    (21, ⟨none, [], none, .pick 36 (.s 32) (.k (.bool true)) (.s 35)⟩),
    (22, ⟨none, [], none, .mv 37 (.s 36)⟩),
    (23, ⟨none, [], some (37, false), .mv 38 (.s 3)⟩),
    (24, ⟨none, [], some (37, false), .bin 39 .gtr (.s 38) (.k (.int .i64 0))⟩),
    (25, ⟨none, [], some (37, false), .mv 40 (.s 39)⟩),
    (26, ⟨none, [], some (40, true), .fadv 41 (.s 4) 0⟩),
    (27, ⟨none, [], some (40, true), .ldv 42 (.s 41) 1 false⟩),
    (28, ⟨none, [], some (40, true), .mv 43 (.s 0)⟩),
    (29, ⟨none, [], some (40, true), .mv 44 (.s 3)⟩),
    (30, ⟨none, [], some (40, true), .bin 45 .sub (.s 44) (.k (.int .i64 1))⟩),
    (31, ⟨none, [], some (40, true), .iadr 46 (.s 43) (.s 45) 3⟩),
    (32, ⟨none, [], some (40, true), .fadv 47 (.s 46) 0⟩),
    (33, ⟨none, [], some (40, true), .ldv 48 (.s 47) 1 false⟩),
    (34, ⟨none, [], some (40, true), .bin 49 .lss (.s 42) (.s 48)⟩),
    (35, ⟨none, [], some (37, false), .pick 50 (.s 40) (.s 49) (.k (.bool false))⟩),
    (36, ⟨none, [], none, .pick 51 (.s 37) (.k (.bool true)) (.s 50)⟩)]) c_impl_GoodCues_27
def c_impl_GoodCues_32 : VC :=
  .r 8 [⟨none, [], none, .bin 52 .add (.s 10) (.k (.int .i64 1))⟩,
    ⟨none, [], none, .mv 10 (.s 52)⟩]
def c_impl_GoodCues_21 : VC :=
  .seq (.blk 1 (.seq (.r 5 [⟨none, [], none, .mv 12 (.s 10)⟩,
    ⟨none, [], none, .iadr 13 (.s 8) (.s 10) 3⟩,
    ⟨none, [], none, .ld 14 (.s 13) 3 true⟩,
    ⟨none, [], none, .alloc 4 [.k (.int .i64 0), .k (.int .i64 0), .o [.sc]]⟩,
    ⟨none, [], none, .mv 3 (.s 12)⟩,
    ⟨none, [], none, .st (.s 4) (.s 14) 3⟩]) c_impl_GoodCues_25)) c_impl_GoodCues_32
def c_impl_GoodCues_17 : VC :=
  .seq (.ite (.s 11) (.skip) (.exit 0)) c_impl_GoodCues_21
def c_impl_GoodCues_15 : VC :=
  .seq (.r 4 [⟨none, [], none, .bin 11 .lss (.s 10) (.s 9)⟩]) c_impl_GoodCues_17
def c_impl_GoodCues_13 : VC :=
  .blk 0 (.loop [0, 8, 9, 10] c_impl_GoodCues_15)
def c_impl_GoodCues_33 : VC :=
  .seq (.r 9 [⟨none, [], none, .mv 2 (.k (.bool true))⟩]) (.ret)
def c_impl_GoodCues_10 : VC :=
  .seq (.seq (.r 3 [⟨none, [], none, .mv 8 (.s 0)⟩,
    ⟨none, [], none, .len 9 (.s 8)⟩,
    ⟨none, [], none, .mv 10 (.k (.int .i64 0))⟩]) c_impl_GoodCues_13) (.kp [] c_impl_GoodCues_33)
def c_impl_GoodCues_2 : VC :=
  .seq (.seq (.r 1 [⟨none, [], none, .mv 5 (.s 0)⟩,
    ⟨none, [], none, .len 6 (.s 5)⟩,
    ⟨none, [], none, .bin 7 .gtr (.s 6) (.k (.int .i64 200))⟩]) c_impl_GoodCues_5) c_impl_GoodCues_10
def c_impl_GoodCues_0 : VC :=
  .seq (.r 0 [⟨none, [], none, .mv 2 (.k (.bool false))⟩]) c_impl_GoodCues_2
def vf_impl_GoodCues : VF := { pm := [.ro [.ro [.sc, .sc, .ro [.sc]]]], rm := [.v [.sc]], nslots := 53, res := [2], rc := [], code := .kp [0] c_impl_GoodCues_0 }
def c_impl_zfloor_7 : VC :=
  .ite (.s 19) (.r 3 [⟨none, [], none, .mv 20 (.s 5)⟩,
    ⟨none, [], none, .bin 21 .sub (.s 20) (.k (.int .i64 1))⟩,
    ⟨none, [], none, .mv 5 (.s 21)⟩]) (.skip)
def c_impl_zfloor_10 : VC :=
  .seq (.r 4 [⟨none, [], none, .mv 22 (.s 5)⟩,
    ⟨none, [], none, .mv 4 (.s 22)⟩]) (.ret)
def c_impl_zfloor_4 : VC :=
  .seq (.seq (.r 2 [⟨none, [], none, .mv 9 (.s 0)⟩,
    ⟨none, [], none, .mv 10 (.s 1)⟩,
    ⟨none, [], none, .bin 11 .rem (.s 9) (.s 10)⟩,
    ⟨none, [], none, .bin 12 .neq (.s 11) (.k (.int .i64 0))⟩,
    ⟨none, [], none, .mv 13 (.s 12)⟩,
    ⟨none, [], some (13, true), .mv 14 (.s 0)⟩,
    ⟨none, [], some (13, true), .bin 15 .lss (.s 14) (.k (.int .i64 0))⟩,
    ⟨none, [], some (13, true), .mv 16 (.s 1)⟩,
    ⟨none, [], some (13, true), .bin 17 .lss (.s 16) (.k (.int .i64 0))⟩,
    ⟨none, [], some (13, true), .beq 18 true (.s 15) (.s 17)⟩,
    ⟨none, [], none, .pick 19 (.s 13) (.s 18) (.k (.bool false))⟩]) (.kp [5, 19] c_impl_zfloor_7)) c_impl_zfloor_10
def c_impl_zfloor_2 : VC :=
  .seq (.r 1 [⟨none, [], none, .mv 6 (.s 0)⟩,
    ⟨none, [], none, .mv 7 (.s 1)⟩,
    ⟨none, [], none, .bin 8 .quo (.s 6) (.s 7)⟩,
    ⟨none, [], none, .mv 5 (.s 8)⟩]) c_impl_zfloor_4
def c_impl_zfloor_0 : VC :=
  .seq (.r 0 [⟨none, [], none, .mv 4 (.k (.int .i64 0))⟩]) c_impl_zfloor_2
def vf_impl_zfloor : VF := { pm := [.ro [.sc], .ro [.sc]], rm := [.v [.sc]], nslots := 23, res := [4], rc := [], code := .kp [0, 1] c_impl_zfloor_0 }
def c_impl_Retime_5 : VC :=
  .ite (.s 40) (.seq (.r 2 [⟨none, [], none, .nil 8 [.sc, .sc, .own [.sc]]⟩]) (.ret)) (.skip)
def c_impl_Retime_32 : VC :=
  .ite (.s 73) (.exit 1) (.skip)
def c_impl_Retime_35 : VC :=
  .r 9 [⟨none, [], none, .mv 74 (.s 9)⟩,
    ⟨none, [], none, .mv 75 (.s 12)⟩,
    ⟨none, [], none, .mx 76 (.s 75) (.k (.int .i64 0))⟩,
    ⟨none, [], none, .mv 77 (.s 13)⟩,
    ⟨none, [], none, .lits 78 [.sc] []⟩,
    ⟨none, [], none, .fadr 79 (.s 11) 2⟩,
    ⟨none, [], none, .ld 80 (.s 79) 1 false⟩,
    ⟨none, [], none, .app 81 (.s 78) (.s 80) [.sc] 8796093022208⟩,
    ⟨none, [], none, .bld 82 [.k (.int .i64 0), .k (.int .i64 0), .k (.slice none 0 0)] [(0, 1, (.s 76)), (1, 1, (.s 77)), (2, 1, (.s 81))]⟩,
    ⟨none, [], none, .lits 83 [.sc, .sc, .own [.sc]] [(.s 82)]⟩,
    ⟨none, [], none, .app 84 (.s 74) (.s 83) [.sc, .sc, .own [.sc]] 3518437208883⟩,
    ⟨none, [], none, .mv 9 (.s 84)⟩]
def c_impl_Retime_29 : VC :=
  .seq (.seq (.r 8 [⟨none, [], none, .mv 63 (.s 13)⟩,
    ⟨none, [], none, .bin 64 .leq (.s 63) (.k (.int .i64 0))⟩,
    ⟨none, [], none, .mv 65 (.s 64)⟩,
    ⟨none, [], some (65, false), .mv 66 (.s 12)⟩,
    ⟨none, [], some (65, false), .mv 67 (.s 13)⟩,
    ⟨none, [], some (65, false), .bin 68 .geq (.s 66) (.s 67)⟩,
    ⟨none, [], none, .pick 69 (.s 65) (.k (.bool true)) (.s 68)⟩,
    ⟨none, [], none, .mv 70 (.s 69)⟩,
    ⟨none, [], some (70, false), .mv 71 (.s 13)⟩,
    ⟨none, [], some (70, false), .bin 72 .gtr (.s 71) (.k (.int .i64 359999999))⟩,
    ⟨none, [], none, .pick 73 (.s 70) (.k (.bool true)) (.s 72)⟩]) c_impl_Retime_32) c_impl_Retime_35
def c_impl_Retime_27 : VC :=
  .seq (.d 7 [(0, ⟨none, [], none, .fadv 47 (.s 11) 0⟩),
    (1, ⟨none, [], none, .ldv 48 (.s 47) 1 false⟩),
    (2, ⟨none, [], none, .mv 49 (.s 1)⟩),
    (3, ⟨none, [], none, .bin 50 .mul (.s 48) (.s 49)⟩),
    (4, ⟨none, [], none, .mv 51 (.s 2)⟩),
    (5, ⟨none, [], none, .call 52 39 [(.s 50), (.s 51)]⟩),
    (6, ⟨none, [], none, .mv 53 (.s 3)⟩),
    (7, ⟨none, [], none, .bin 54 .add (.s 52) (.s 53)⟩),
    (8, ⟨none, [], none, .fadv 55 (.s 11) 1⟩),
    (9, ⟨none, [], none, .ldv 56 (.s 55) 1 false⟩),
    (10, ⟨none, [], none, .mv 57 (.s 1)⟩),
    (11, ⟨none, [], none, .bin 58 .mul (.s 56) (.s 57)⟩),
    (12, ⟨none, [], none, .mv 59 (.s 2)⟩),
    (13, ⟨none, [], none, .call 60 39 [(.s 58), (.s 59)]⟩),
    (14, ⟨none, [], none, .mv 61 (.s 3)⟩),
    (15, ⟨none, [], none, .bin 62 .add (.s 60) (.s 61)⟩),
    (16, ⟨none, [], none, .mv 12 (.s 54)⟩),
    (17, ⟨none, [], none, .mv 13 (.s 62)⟩)]) c_impl_Retime_29
def c_impl_Retime_36 : VC :=
  .r 10 [⟨none, [], none, .bin 85 .add (.s 43) (.k (.int .i64 1))⟩,
    ⟨none, [], none, .mv 43 (.s 85)⟩]
def c_impl_Retime_23 : VC :=
  .seq (.blk 1 (.seq (.r 6 [⟨none, [], none, .iadr 45 (.s 41) (.s 43) 3⟩,
    ⟨none, [], none, .ld 46 (.s 45) 3 true⟩,
    ⟨none, [], none, .alloc 11 [.k (.int .i64 0), .k (.int .i64 0), .o [.sc]]⟩,
    ⟨none, [], none, .st (.s 11) (.s 46) 3⟩]) c_impl_Retime_27)) c_impl_Retime_36
def c_impl_Retime_19 : VC :=
  .seq (.ite (.s 44) (.skip) (.exit 0)) c_impl_Retime_23
def c_impl_Retime_17 : VC :=
  .seq (.r 5 [⟨none, [], none, .bin 44 .lss (.s 43) (.s 42)⟩]) c_impl_Retime_19
def c_impl_Retime_15 : VC :=
  .blk 0 (.loop [1, 2, 3, 9, 41, 42, 43] c_impl_Retime_17)
def c_impl_Retime_37 : VC :=
  .seq (.r 11 [⟨none, [], none, .mv 86 (.s 9)⟩,
    ⟨none, [], none, .mv 8 (.s 86)⟩]) (.ret)
def c_impl_Retime_12 : VC :=
  .seq (.seq (.r 4 [⟨none, [], none, .mv 41 (.s 0)⟩,
    ⟨none, [], none, .len 42 (.s 41)⟩,
    ⟨none, [], none, .mv 43 (.k (.int .i64 0))⟩]) c_impl_Retime_15) (.kp [9] c_impl_Retime_37)
def c_impl_Retime_10 : VC :=
  .seq (.r 3 [⟨none, [], none, .nil 9 [.sc, .sc, .own [.sc]]⟩]) c_impl_Retime_12
def c_impl_Retime_2 : VC :=
  .seq (.seq (.r 1 [⟨none, [], none, .mv 14 (.s 0)⟩,
    ⟨none, [], none, .call 15 26 [(.s 14)]⟩,
    ⟨none, [], none, .un 16 .not (.s 15)⟩,
    ⟨none, [], none, .mv 17 (.s 16)⟩,
    ⟨none, [], some (17, false), .mv 18 (.s 1)⟩,
    ⟨none, [], some (17, false), .bin 19 .lss (.s 18) (.k (.int .i64 1))⟩,
    ⟨none, [], none, .pick 20 (.s 17) (.k (.bool true)) (.s 19)⟩,
    ⟨none, [], none, .mv 21 (.s 20)⟩,
    ⟨none, [], some (21, false), .mv 22 (.s 1)⟩,
    ⟨none, [], some (21, false), .bin 23 .gtr (.s 22) (.k (.int .i64 1000000))⟩,
    ⟨none, [], none, .pick 24 (.s 21) (.k (.bool true)) (.s 23)⟩,
    ⟨none, [], none, .mv 25 (.s 24)⟩,
    ⟨none, [], some (25, false), .mv 26 (.s 2)⟩,
    ⟨none, [], some (25, false), .bin 27 .lss (.s 26) (.k (.int .i64 1))⟩,
    ⟨none, [], none, .pick 28 (.s 25) (.k (.bool true)) (.s 27)⟩,
    ⟨none, [], none, .mv 29 (.s 28)⟩,
    ⟨none, [], some (29, false), .mv 30 (.s 2)⟩,
    ⟨none, [], some (29, false), .bin 31 .gtr (.s 30) (.k (.int .i64 1000000))⟩,
    ⟨none, [], none, .pick 32 (.s 29) (.k (.bool true)) (.s 31)⟩,
    ⟨none, [], none, .mv 33 (.s 32)⟩,
    ⟨none, [], some (33, false), .mv 34 (.s 3)⟩,
    ⟨none, [], some (33, false), .bin 35 .lss (.s 34) (.k (.int .i64 (-359999999)))⟩,
    ⟨none, [], none, .pick 36 (.s 33) (.k (.bool true)) (.s 35)⟩,
    ⟨none, [], none, .mv 37 (.s 36)⟩,
    ⟨none, [], some (37, false), .mv 38 (.s 3)⟩,
    ⟨none, [], some (37, false), .bin 39 .gtr (.s 38) (.k (.int .i64 359999999))⟩,
    ⟨none, [], none, .pick 40 (.s 37) (.k (.bool true)) (.s 39)⟩]) c_impl_Retime_5) c_impl_Retime_10
def c_impl_Retime_0 : VC :=
  .seq (.r 0 [⟨none, [], none, .nil 8 [.sc, .sc, .own [.sc]]⟩]) c_impl_Retime_2
def vf_impl_Retime : VF := { pm := [.ro [.ro [.sc, .sc, .ro [.sc]]], .ro [.sc], .ro [.sc], .ro [.sc]], rm := [.v [.own [.sc, .sc, .own [.sc]]]], nslots := 87, res := [8], rc := [], code := .kp [0, 1, 2, 3] c_impl_Retime_0 }
def c_laws_eqStringS_5 : VC :=
  .ite (.s 10) (.seq (.r 2 [⟨none, [], none, .mv 4 (.k (.bool false))⟩]) (.ret)) (.skip)
def c_laws_eqStringS_18 : VC :=
  .ite (.s 14) (.skip) (.exit 0)
def c_laws_eqStringS_25 : VC :=
  .ite (.s 25) (.seq (.r 7 [⟨none, [], none, .mv 4 (.k (.bool false))⟩]) (.ret)) (.skip)
def c_laws_eqStringS_30 : VC :=
  .r 5 [⟨none, [], none, .mv 15 (.s 5)⟩,
    ⟨none, [], none, .bin 16 .add (.s 15) (.k (.int .i64 1))⟩,
    ⟨none, [], none, .mv 5 (.s 16)⟩]
def c_laws_eqStringS_21 : VC :=
  .seq (.blk 1 (.seq (.d 6 [(0, ⟨none, [], none, .mv 17 (.s 0)⟩),
    (1, ⟨none, [], none, .mv 18 (.s 5)⟩),
    (2, ⟨none, [], none, .iadr 19 (.s 17) (.s 18) 1⟩),
    (3, ⟨none, [], none, .ldv 20 (.s 19) 1 false⟩),
    (4, ⟨none, [], none, .mv 21 (.s 1)⟩),
    (5, ⟨none, [], none, .mv 22 (.s 5)⟩),
    (6, ⟨none, [], none, .iadr 23 (.s 21) (.s 22) 1⟩),
    (7, ⟨none, [], none, .ldv 24 (.s 23) 1 false⟩),
    (8, ⟨none, [], none, .bin 25 .neq (.s 20) (.s 24)⟩)]) c_laws_eqStringS_25)) c_laws_eqStringS_30
def c_laws_eqStringS_15 : VC :=
  .seq (.seq (.r 4 [⟨none, [], none, .mv 11 (.s 5)⟩,
    ⟨none, [], none, .mv 12 (.s 0)⟩,
    ⟨none, [], none, .len 13 (.s 12)⟩,
    ⟨none, [], none, .bin 14 .lss (.s 11) (.s 13)⟩]) c_laws_eqStringS_18) c_laws_eqStringS_21
def c_laws_eqStringS_13 : VC :=
  .blk 0 (.loop [0, 1, 5] c_laws_eqStringS_15)
def c_laws_eqStringS_31 : VC :=
  .seq (.r 8 [⟨none, [], none, .mv 4 (.k (.bool true))⟩]) (.ret)
def c_laws_eqStringS_10 : VC :=
  .seq (.seq (.r 3 [⟨none, [], none, .mv 5 (.k (.int .i64 0))⟩]) c_laws_eqStringS_13) (.kp [] c_laws_eqStringS_31)
def c_laws_eqStringS_2 : VC :=
  .seq (.seq (.r 1 [⟨none, [], none, .mv 6 (.s 0)⟩,
    ⟨none, [], none, .len 7 (.s 6)⟩,
    ⟨none, [], none, .mv 8 (.s 1)⟩,
    ⟨none, [], none, .len 9 (.s 8)⟩,
    ⟨none, [], none, .bin 10 .neq (.s 7) (.s 9)⟩]) c_laws_eqStringS_5) c_laws_eqStringS_10
def c_laws_eqStringS_0 : VC :=
  .seq (.r 0 [⟨none, [], none, .mv 4 (.k (.bool false))⟩]) c_laws_eqStringS_2
def vf_laws_eqStringS : VF := { pm := [.ro [.ro [.sc]], .ro [.ro [.sc]]], rm := [.v [.sc]], nslots := 26, res := [4], rc := [], code := .kp [0, 1] c_laws_eqStringS_0 }
def c_laws_eqCue_5 : VC :=
  .ite (.s 9) (.seq (.r 2 [⟨none, [], none, .mv 4 (.k (.bool false))⟩]) (.ret)) (.skip)
def c_laws_eqCue_13 : VC :=
  .ite (.s 14) (.seq (.r 4 [⟨none, [], none, .mv 4 (.k (.bool false))⟩]) (.ret)) (.skip)
def c_laws_eqCue_21 : VC :=
  .ite (.s 20) (.seq (.r 6 [⟨none, [], none, .mv 4 (.k (.bool false))⟩]) (.ret)) (.skip)
def c_laws_eqCue_26 : VC :=
  .seq (.r 7 [⟨none, [], none, .mv 4 (.k (.bool true))⟩]) (.ret)
def c_laws_eqCue_18 : VC :=
  .seq (.seq (.r 5 [⟨none, [], none, .fadr 15 (.s 2) 2⟩,
    ⟨none, [], none, .ld 16 (.s 15) 1 false⟩,
    ⟨none, [], none, .fadr 17 (.s 3) 2⟩,
    ⟨none, [], none, .ld 18 (.s 17) 1 false⟩,
    ⟨none, [], none, .call 19 47 [(.s 16), (.s 18)]⟩,
    ⟨none, [], none, .un 20 .not (.s 19)⟩]) c_laws_eqCue_21) c_laws_eqCue_26
def c_laws_eqCue_10 : VC :=
  .seq (.seq (.r 3 [⟨none, [], none, .fadr 10 (.s 2) 1⟩,
    ⟨none, [], none, .ld 11 (.s 10) 1 false⟩,
    ⟨none, [], none, .fadr 12 (.s 3) 1⟩,
    ⟨none, [], none, .ld 13 (.s 12) 1 false⟩,
    ⟨none, [], none, .bin 14 .neq (.s 11) (.s 13)⟩]) c_laws_eqCue_13) c_laws_eqCue_18
def c_laws_eqCue_2 : VC :=
  .seq (.seq (.r 1 [⟨none, [], none, .fadr 5 (.s 2) 0⟩,
    ⟨none, [], none, .ld 6 (.s 5) 1 false⟩,
    ⟨none, [], none, .fadr 7 (.s 3) 0⟩,
    ⟨none, [], none, .ld 8 (.s 7) 1 false⟩,
    ⟨none, [], none, .bin 9 .neq (.s 6) (.s 8)⟩]) c_laws_eqCue_5) c_laws_eqCue_10
def c_laws_eqCue_0 : VC :=
  .seq (.r 0 [⟨none, [], none, .box 2 (.s 0)⟩,
    ⟨none, [], none, .box 3 (.s 1)⟩,
    ⟨none, [], none, .mv 4 (.k (.bool false))⟩]) c_laws_eqCue_2
def vf_laws_eqCue : VF := { pm := [.ro [.sc, .sc, .ro [.sc]], .ro [.sc, .sc, .ro [.sc]]], rm := [.v [.sc]], nslots := 21, res := [4], rc := [], code := .kp [0, 1] c_laws_eqCue_0 }
def c_laws_eqCueS_5 : VC :=
  .ite (.s 10) (.seq (.r 2 [⟨none, [], none, .mv 4 (.k (.bool false))⟩]) (.ret)) (.skip)
def c_laws_eqCueS_18 : VC :=
  .ite (.s 14) (.skip) (.exit 0)
def c_laws_eqCueS_25 : VC :=
  .ite (.s 26) (.seq (.r 7 [⟨none, [], none, .mv 4 (.k (.bool false))⟩]) (.ret)) (.skip)
def c_laws_eqCueS_30 : VC :=
  .r 5 [⟨none, [], none, .mv 15 (.s 5)⟩,
    ⟨none, [], none, .bin 16 .add (.s 15) (.k (.int .i64 1))⟩,
    ⟨none, [], none, .mv 5 (.s 16)⟩]
def c_laws_eqCueS_21 : VC :=
  .seq (.blk 1 (.seq (.d 6 [(0, ⟨none, [], none, .mv 17 (.s 0)⟩),
    (1, ⟨none, [], none, .mv 18 (.s 5)⟩),
    (2, ⟨none, [], none, .iadr 19 (.s 17) (.s 18) 3⟩),
    (3, ⟨none, [], none, .ldv 20 (.s 19) 3 true⟩),
    (4, ⟨none, [], none, .mv 21 (.s 1)⟩),
    (5, ⟨none, [], none, .mv 22 (.s 5)⟩),
    (6, ⟨none, [], none, .iadr 23 (.s 21) (.s 22) 3⟩),
    (7, ⟨none, [], none, .ldv 24 (.s 23) 3 true⟩),
    (8, ⟨none, [], none, .call 25 36 [(.s 20), (.s 24)]⟩),
    (9, ⟨none, [], none, .un 26 .not (.s 25)⟩)]) c_laws_eqCueS_25)) c_laws_eqCueS_30
def c_laws_eqCueS_15 : VC :=
  .seq (.seq (.r 4 [⟨none, [], none, .mv 11 (.s 5)⟩,
    ⟨none, [], none, .mv 12 (.s 0)⟩,
    ⟨none, [], none, .len 13 (.s 12)⟩,
    ⟨none, [], none, .bin 14 .lss (.s 11) (.s 13)⟩]) c_laws_eqCueS_18) c_laws_eqCueS_21
def c_laws_eqCueS_13 : VC :=
  .blk 0 (.loop [0, 1, 5] c_laws_eqCueS_15)
def c_laws_eqCueS_31 : VC :=
  .seq (.r 8 [⟨none, [], none, .mv 4 (.k (.bool true))⟩]) (.ret)
def c_laws_eqCueS_10 : VC :=
  .seq (.seq (.r 3 [⟨none, [], none, .mv 5 (.k (.int .i64 0))⟩]) c_laws_eqCueS_13) (.kp [] c_laws_eqCueS_31)
def c_laws_eqCueS_2 : VC :=
  .seq (.seq (.r 1 [⟨none, [], none, .mv 6 (.s 0)⟩,
    ⟨none, [], none, .len 7 (.s 6)⟩,
    ⟨none, [], none, .mv 8 (.s 1)⟩,
    ⟨none, [], none, .len 9 (.s 8)⟩,
    ⟨none, [], none, .bin 10 .neq (.s 7) (.s 9)⟩]) c_laws_eqCueS_5) c_laws_eqCueS_10
def c_laws_eqCueS_0 : VC :=
  .seq (.r 0 [⟨none, [], none, .mv 4 (.k (.bool false))⟩]) c_laws_eqCueS_2
def vf_laws_eqCueS : VF := { pm := [.ro [.ro [.sc, .sc, .ro [.sc]]], .ro [.ro [.sc, .sc, .ro [.sc]]]], rm := [.v [.sc]], nslots := 27, res := [4], rc := [], code := .kp [0, 1] c_laws_eqCueS_0 }
def c_laws_markText_5 : VC :=
  .ite (.s 5) (.seq (.r 2 [⟨none, [], none, .mv 2 (.k (.string (ByteArray.mk #[109, 48])))⟩]) (.ret)) (.skip)
def c_laws_markText_18 : VC :=
  .ite (.s 7) (.skip) (.exit 0)
def c_laws_markText_24 : VC :=
  .r 6 [⟨none, [], none, .mv 16 (.s 0)⟩,
    ⟨none, [], none, .bin 17 .quo (.s 16) (.k (.int .i64 10))⟩,
    ⟨none, [], none, .mv 0 (.s 17)⟩]
def c_laws_markText_21 : VC :=
  .blk 1 (.seq (.r 5 [⟨none, [], none, .mv 8 (.s 0)⟩,
    ⟨none, [], none, .bin 9 .rem (.s 8) (.k (.int .i64 10))⟩,
    ⟨none, [], none, .bin 10 .add (.k (.int .i64 48)) (.s 9)⟩,
    ⟨none, [], none, .conv 11 .u8 (.s 10)⟩,
    ⟨none, [], none, .lits 12 [.sc] [(.s 11)]⟩,
    ⟨none, [], none, .b2s 13 (.s 12)⟩,
    ⟨none, [], none, .mv 14 (.s 3)⟩,
    ⟨none, [], none, .bin 15 .add (.s 13) (.s 14)⟩,
    ⟨none, [], none, .mv 3 (.s 15)⟩]) c_laws_markText_24)
def c_laws_markText_15 : VC :=
  .seq (.seq (.r 4 [⟨none, [], none, .mv 6 (.s 0)⟩,
    ⟨none, [], none, .bin 7 .gtr (.s 6) (.k (.int .i64 0))⟩]) c_laws_markText_18) c_laws_markText_21
def c_laws_markText_25 : VC :=
  .seq (.r 7 [⟨none, [], none, .mv 18 (.s 3)⟩,
    ⟨none, [], none, .bin 19 .add (.k (.string (ByteArray.mk #[109]))) (.s 18)⟩,
    ⟨none, [], none, .mv 2 (.s 19)⟩]) (.ret)
def c_laws_markText_12 : VC :=
  .seq (.blk 0 (.loop [0, 3] c_laws_markText_15)) (.kp [3] c_laws_markText_25)
def c_laws_markText_10 : VC :=
  .seq (.r 3 [⟨none, [], none, .mv 3 (.k (.string (ByteArray.mk #[])))⟩]) c_laws_markText_12
def c_laws_markText_2 : VC :=
  .seq (.seq (.r 1 [⟨none, [], none, .mv 4 (.s 0)⟩,
    ⟨none, [], none, .bin 5 .leq (.s 4) (.k (.int .i64 0))⟩]) c_laws_markText_5) c_laws_markText_10
def c_laws_markText_0 : VC :=
  .seq (.r 0 [⟨none, [], none, .mv 2 (.k (.string (ByteArray.mk #[])))⟩]) c_laws_markText_2
def vf_laws_markText : VF := { pm := [.ro [.sc]], rm := [.v [.sc]], nslots := 20, res := [2], rc := [], code := .kp [0] c_laws_markText_0 }
def c_laws_markStringS_10 : VC :=
  .ite (.s 9) (.skip) (.exit 0)
def c_laws_markStringS_17 : VC :=
  .r 5 [⟨none, [], none, .mv 17 (.s 1)⟩,
    ⟨none, [], none, .bin 18 .add (.s 17) (.k (.int .i64 1))⟩,
    ⟨none, [], none, .mv 1 (.s 18)⟩]
def c_laws_markStringS_18 : VC :=
  .r 3 [⟨none, [], none, .mv 10 (.s 5)⟩,
    ⟨none, [], none, .bin 11 .add (.s 10) (.k (.int .i64 1))⟩,
    ⟨none, [], none, .mv 5 (.s 11)⟩]
def c_laws_markStringS_13 : VC :=
  .seq (.blk 1 (.seq (.r 4 [⟨none, [], none, .mv 12 (.s 0)⟩,
    ⟨none, [], none, .mv 13 (.s 5)⟩,
    ⟨none, [], none, .mv 14 (.s 1)⟩,
    ⟨none, [], none, .call 15 48 [(.s 14)]⟩,
    ⟨none, [], none, .iadr 16 (.s 12) (.s 13) 1⟩,
    ⟨none, [], none, .st (.s 16) (.s 15) 1⟩]) c_laws_markStringS_17)) c_laws_markStringS_18
def c_laws_markStringS_7 : VC :=
  .seq (.seq (.r 2 [⟨none, [], none, .mv 6 (.s 5)⟩,
    ⟨none, [], none, .mv 7 (.s 0)⟩,
    ⟨none, [], none, .len 8 (.s 7)⟩,
    ⟨none, [], none, .bin 9 .lss (.s 6) (.s 8)⟩]) c_laws_markStringS_10) c_laws_markStringS_13
def c_laws_markStringS_5 : VC :=
  .blk 0 (.loop [0, 1, 5] c_laws_markStringS_7)
def c_laws_markStringS_19 : VC :=
  .seq (.r 6 [⟨none, [], none, .mv 19 (.s 1)⟩,
    ⟨none, [], none, .mv 4 (.s 19)⟩]) (.ret)
def c_laws_markStringS_2 : VC :=
  .seq (.seq (.r 1 [⟨none, [], none, .mv 5 (.k (.int .i64 0))⟩]) c_laws_markStringS_5) (.kp [0, 1] c_laws_markStringS_19)
def c_laws_markStringS_0 : VC :=
  .seq (.r 0 [⟨none, [], none, .mv 4 (.k (.int .i64 0))⟩]) c_laws_markStringS_2
def vf_laws_markStringS : VF := { pm := [.ms [.sc], .ro [.sc]], rm := [.v [.sc]], nslots := 20, res := [4], rc := [], code := .kp [0, 1] c_laws_markStringS_0 }
def c_laws_markCueS_10 : VC :=
  .ite (.s 9) (.skip) (.exit 0)
def c_laws_markCueS_23 : VC :=
  .r 8 [⟨none, [], none, .mv 26 (.s 0)⟩,
    ⟨none, [], none, .mv 27 (.s 5)⟩,
    ⟨none, [], none, .iadr 28 (.s 26) (.s 27) 3⟩,
    ⟨none, [], none, .fadr 29 (.s 28) 2⟩,
    ⟨none, [], none, .ld 30 (.s 29) 1 false⟩,
    ⟨none, [], none, .mv 31 (.s 1)⟩,
    ⟨none, [], none, .call 32 37 [(.s 30), (.s 31)]⟩,
    ⟨none, [], none, .mv 1 (.s 32)⟩]
def c_laws_markCueS_21 : VC :=
  .seq (.r 7 [⟨none, [], none, .mv 24 (.s 1)⟩,
    ⟨none, [], none, .bin 25 .add (.s 24) (.k (.int .i64 1))⟩,
    ⟨none, [], none, .mv 1 (.s 25)⟩]) c_laws_markCueS_23
def c_laws_markCueS_19 : VC :=
  .seq (.r 6 [⟨none, [], none, .mv 19 (.s 0)⟩,
    ⟨none, [], none, .mv 20 (.s 5)⟩,
    ⟨none, [], none, .mv 21 (.s 1)⟩,
    ⟨none, [], none, .iadr 22 (.s 19) (.s 20) 3⟩,
    ⟨none, [], none, .fadr 23 (.s 22) 1⟩,
    ⟨none, [], none, .st (.s 23) (.s 21) 1⟩]) c_laws_markCueS_21
def c_laws_markCueS_17 : VC :=
  .seq (.r 5 [⟨none, [], none, .mv 17 (.s 1)⟩,
    ⟨none, [], none, .bin 18 .add (.s 17) (.k (.int .i64 1))⟩,
    ⟨none, [], none, .mv 1 (.s 18)⟩]) c_laws_markCueS_19
def c_laws_markCueS_24 : VC :=
  .r 3 [⟨none, [], none, .mv 10 (.s 5)⟩,
    ⟨none, [], none, .bin 11 .add (.s 10) (.k (.int .i64 1))⟩,
    ⟨none, [], none, .mv 5 (.s 11)⟩]
def c_laws_markCueS_13 : VC :=
  .seq (.blk 1 (.seq (.r 4 [⟨none, [], none, .mv 12 (.s 0)⟩,
    ⟨none, [], none, .mv 13 (.s 5)⟩,
    ⟨none, [], none, .mv 14 (.s 1)⟩,
    ⟨none, [], none, .iadr 15 (.s 12) (.s 13) 3⟩,
    ⟨none, [], none, .fadr 16 (.s 15) 0⟩,
    ⟨none, [], none, .st (.s 16) (.s 14) 1⟩]) c_laws_markCueS_17)) c_laws_markCueS_24
def c_laws_markCueS_7 : VC :=
  .seq (.seq (.r 2 [⟨none, [], none, .mv 6 (.s 5)⟩,
    ⟨none, [], none, .mv 7 (.s 0)⟩,
    ⟨none, [], none, .len 8 (.s 7)⟩,
    ⟨none, [], none, .bin 9 .lss (.s 6) (.s 8)⟩]) c_laws_markCueS_10) c_laws_markCueS_13
def c_laws_markCueS_5 : VC :=
  .blk 0 (.loop [0, 1, 5] c_laws_markCueS_7)
def c_laws_markCueS_25 : VC :=
  .seq (.r 9 [⟨none, [], none, .mv 33 (.s 1)⟩,
    ⟨none, [], none, .mv 4 (.s 33)⟩]) (.ret)
def c_laws_markCueS_2 : VC :=
  .seq (.seq (.r 1 [⟨none, [], none, .mv 5 (.k (.int .i64 0))⟩]) c_laws_markCueS_5) (.kp [0, 1] c_laws_markCueS_25)
def c_laws_markCueS_0 : VC :=
  .seq (.r 0 [⟨none, [], none, .mv 4 (.k (.int .i64 0))⟩]) c_laws_markCueS_2
def vf_laws_markCueS : VF := { pm := [.ms [.sc, .sc, .own [.sc]], .ro [.sc]], rm := [.v [.sc]], nslots := 34, res := [4], rc := [], code := .kp [0, 1] c_laws_markCueS_0 }
def c_laws_heldStringS_10 : VC :=
  .ite (.s 9) (.skip) (.exit 0)
def c_laws_heldStringS_18 : VC :=
  .ite (.s 18) (.seq (.r 5 [⟨none, [], none, .mv 4 (.k (.int .i64 (-1)))⟩]) (.ret)) (.skip)
def c_laws_heldStringS_23 : VC :=
  .r 6 [⟨none, [], none, .mv 19 (.s 1)⟩,
    ⟨none, [], none, .bin 20 .add (.s 19) (.k (.int .i64 1))⟩,
    ⟨none, [], none, .mv 1 (.s 20)⟩]
def c_laws_heldStringS_24 : VC :=
  .r 3 [⟨none, [], none, .mv 10 (.s 5)⟩,
    ⟨none, [], none, .bin 11 .add (.s 10) (.k (.int .i64 1))⟩,
    ⟨none, [], none, .mv 5 (.s 11)⟩]
def c_laws_heldStringS_13 : VC :=
  .seq (.blk 1 (.seq (.seq (.d 4 [(0, ⟨none, [], none, .mv 12 (.s 0)⟩),
    (1, ⟨none, [], none, .mv 13 (.s 5)⟩),
    (2, ⟨none, [], none, .iadr 14 (.s 12) (.s 13) 1⟩),
    (3, ⟨none, [], none, .ldv 15 (.s 14) 1 false⟩),
    (4, ⟨none, [], none, .mv 16 (.s 1)⟩),
    (5, ⟨none, [], none, .call 17 48 [(.s 16)]⟩),
    (6, ⟨none, [], none, .bin 18 .neq (.s 15) (.s 17)⟩)]) c_laws_heldStringS_18) c_laws_heldStringS_23)) c_laws_heldStringS_24
def c_laws_heldStringS_7 : VC :=
  .seq (.seq (.r 2 [⟨none, [], none, .mv 6 (.s 5)⟩,
    ⟨none, [], none, .mv 7 (.s 0)⟩,
    ⟨none, [], none, .len 8 (.s 7)⟩,
    ⟨none, [], none, .bin 9 .lss (.s 6) (.s 8)⟩]) c_laws_heldStringS_10) c_laws_heldStringS_13
def c_laws_heldStringS_5 : VC :=
  .blk 0 (.loop [0, 1, 5] c_laws_heldStringS_7)
def c_laws_heldStringS_25 : VC :=
  .seq (.r 7 [⟨none, [], none, .mv 21 (.s 1)⟩,
    ⟨none, [], none, .mv 4 (.s 21)⟩]) (.ret)
def c_laws_heldStringS_2 : VC :=
  .seq (.seq (.r 1 [⟨none, [], none, .mv 5 (.k (.int .i64 0))⟩]) c_laws_heldStringS_5) (.kp [1] c_laws_heldStringS_25)
def c_laws_heldStringS_0 : VC :=
  .seq (.r 0 [⟨none, [], none, .mv 4 (.k (.int .i64 0))⟩]) c_laws_heldStringS_2
def vf_laws_heldStringS : VF := { pm := [.ro [.ro [.sc]], .ro [.sc]], rm := [.v [.sc]], nslots := 22, res := [4], rc := [], code := .kp [0, 1] c_laws_heldStringS_0 }
def c_laws_heldCueS_10 : VC :=
  .ite (.s 9) (.skip) (.exit 0)
def c_laws_heldCueS_18 : VC :=
  .ite (.s 18) (.seq (.r 5 [⟨none, [], none, .mv 4 (.k (.int .i64 (-1)))⟩]) (.ret)) (.skip)
def c_laws_heldCueS_28 : VC :=
  .ite (.s 27) (.seq (.r 8 [⟨none, [], none, .mv 4 (.k (.int .i64 (-1)))⟩]) (.ret)) (.skip)
def c_laws_heldCueS_39 : VC :=
  .ite (.s 38) (.seq (.r 12 [⟨none, [], none, .mv 4 (.k (.int .i64 (-1)))⟩]) (.ret)) (.skip)
def c_laws_heldCueS_37 : VC :=
  .seq (.r 11 [⟨none, [], none, .mv 37 (.s 1)⟩,
    ⟨none, [], none, .bin 38 .lss (.s 37) (.k (.int .i64 0))⟩]) c_laws_heldCueS_39
def c_laws_heldCueS_35 : VC :=
  .seq (.r 10 [⟨none, [], none, .mv 30 (.s 0)⟩,
    ⟨none, [], none, .mv 31 (.s 5)⟩,
    ⟨none, [], none, .iadr 32 (.s 30) (.s 31) 3⟩,
    ⟨none, [], none, .fadr 33 (.s 32) 2⟩,
    ⟨none, [], none, .ld 34 (.s 33) 1 false⟩,
    ⟨none, [], none, .mv 35 (.s 1)⟩,
    ⟨none, [], none, .call 36 40 [(.s 34), (.s 35)]⟩,
    ⟨none, [], none, .mv 1 (.s 36)⟩]) c_laws_heldCueS_37
def c_laws_heldCueS_33 : VC :=
  .seq (.r 9 [⟨none, [], none, .mv 28 (.s 1)⟩,
    ⟨none, [], none, .bin 29 .add (.s 28) (.k (.int .i64 1))⟩,
    ⟨none, [], none, .mv 1 (.s 29)⟩]) c_laws_heldCueS_35
def c_laws_heldCueS_25 : VC :=
  .seq (.seq (.r 7 [⟨none, [], none, .mv 21 (.s 0)⟩,
    ⟨none, [], none, .mv 22 (.s 5)⟩,
    ⟨none, [], none, .iadr 23 (.s 21) (.s 22) 3⟩,
    ⟨none, [], none, .fadr 24 (.s 23) 1⟩,
    ⟨none, [], none, .ld 25 (.s 24) 1 false⟩,
    ⟨none, [], none, .mv 26 (.s 1)⟩,
    ⟨none, [], none, .bin 27 .neq (.s 25) (.s 26)⟩]) c_laws_heldCueS_28) c_laws_heldCueS_33
def c_laws_heldCueS_23 : VC :=
  .seq (.r 6 [⟨none, [], none, .mv 19 (.s 1)⟩,
    ⟨none, [], none, .bin 20 .add (.s 19) (.k (.int .i64 1))⟩,
    ⟨none, [], none, .mv 1 (.s 20)⟩]) c_laws_heldCueS_25
def c_laws_heldCueS_44 : VC :=
  .r 3 [⟨none, [], none, .mv 10 (.s 5)⟩,
    ⟨none, [], none, .bin 11 .add (.s 10) (.k (.int .i64 1))⟩,
    ⟨none, [], none, .mv 5 (.s 11)⟩]
def c_laws_heldCueS_13 : VC :=
  .seq (.blk 1 (.seq (.seq (.r 4 [⟨none, [], none, .mv 12 (.s 0)⟩,
    ⟨none, [], none, .mv 13 (.s 5)⟩,
    ⟨none, [], none, .iadr 14 (.s 12) (.s 13) 3⟩,
    ⟨none, [], none, .fadr 15 (.s 14) 0⟩,
    ⟨none, [], none, .ld 16 (.s 15) 1 false⟩,
    ⟨none, [], none, .mv 17 (.s 1)⟩,
    ⟨none, [], none, .bin 18 .neq (.s 16) (.s 17)⟩]) c_laws_heldCueS_18) c_laws_heldCueS_23)) c_laws_heldCueS_44
def c_laws_heldCueS_7 : VC :=
  .seq (.seq (.r 2 [⟨none, [], none, .mv 6 (.s 5)⟩,
    ⟨none, [], none, .mv 7 (.s 0)⟩,
    ⟨none, [], none, .len 8 (.s 7)⟩,
    ⟨none, [], none, .bin 9 .lss (.s 6) (.s 8)⟩]) c_laws_heldCueS_10) c_laws_heldCueS_13
def c_laws_heldCueS_5 : VC :=
  .blk 0 (.loop [0, 1, 5] c_laws_heldCueS_7)
def c_laws_heldCueS_45 : VC :=
  .seq (.r 13 [⟨none, [], none, .mv 39 (.s 1)⟩,
    ⟨none, [], none, .mv 4 (.s 39)⟩]) (.ret)
def c_laws_heldCueS_2 : VC :=
  .seq (.seq (.r 1 [⟨none, [], none, .mv 5 (.k (.int .i64 0))⟩]) c_laws_heldCueS_5) (.kp [1] c_laws_heldCueS_45)
def c_laws_heldCueS_0 : VC :=
  .seq (.r 0 [⟨none, [], none, .mv 4 (.k (.int .i64 0))⟩]) c_laws_heldCueS_2
def vf_laws_heldCueS : VF := { pm := [.ro [.ro [.sc, .sc, .ro [.sc]]], .ro [.sc]], rm := [.v [.sc]], nslots := 40, res := [4], rc := [], code := .kp [0, 1] c_laws_heldCueS_0 }
def c_laws_FnExactRetime_9 : VC :=
  .ite (.s 21) (.seq (.r 4 [⟨none, [], none, .mv 8 (.k (.bool true))⟩]) (.ret)) (.skip)
def c_laws_FnExactRetime_23 : VC :=
  .ite (.s 38) (.seq (.r 9 [⟨none, [], none, .mv 8 (.k (.bool false))⟩]) (.ret)) (.skip)
def c_laws_FnExactRetime_31 : VC :=
  .ite (.s 43) (.seq (.r 11 [⟨none, [], none, .mv 8 (.k (.bool false))⟩]) (.ret)) (.skip)
def c_laws_FnExactRetime_43 : VC :=
  .ite (.s 54) (.seq (.r 15 [⟨none, [], none, .mv 8 (.k (.bool false))⟩]) (.ret)) (.skip)
def c_laws_FnExactRetime_59 : VC :=
  .ite (.s 62) (.seq (.r 21 [⟨none, [], none, .mv 8 (.k (.bool false))⟩]) (.ret)) (.skip)
def c_laws_FnExactRetime_67 : VC :=
  .ite (.s 65) (.seq (.r 23 [⟨none, [], none, .mv 8 (.k (.bool false))⟩]) (.ret)) (.skip)
def c_laws_FnExactRetime_77 : VC :=
  .ite (.s 75) (.seq (.r 26 [⟨none, [], none, .mv 8 (.k (.bool false))⟩]) (.ret)) (.skip)
def c_laws_FnExactRetime_89 : VC :=
  .ite (.s 80) (.seq (.r 30 [⟨none, [], none, .mv 8 (.k (.bool false))⟩]) (.ret)) (.skip)
def c_laws_FnExactRetime_97 : VC :=
  .ite (.s 83) (.seq (.r 32 [⟨none, [], none, .mv 8 (.k (.bool false))⟩]) (.ret)) (.skip)
def c_laws_FnExactRetime_102 : VC :=
  .seq (.r 33 [⟨none, [], none, .mv 8 (.k (.bool true))⟩]) (.ret)
def c_laws_FnExactRetime_94 : VC :=
  .seq (.seq (.r 31 [⟨none, [], none, .mv 81 (.s 15)⟩,
    ⟨none, [], none, .mv 82 (.s 14)⟩,
    ⟨none, [], none, .bin 83 .neq (.s 81) (.s 82)⟩]) c_laws_FnExactRetime_97) c_laws_FnExactRetime_102
def c_laws_FnExactRetime_86 : VC :=
  .seq (.seq (.r 29 [⟨none, [], none, .mv 79 (.s 15)⟩,
    ⟨none, [], none, .bin 80 .lss (.s 79) (.k (.int .i64 0))⟩]) c_laws_FnExactRetime_89) c_laws_FnExactRetime_94
def c_laws_FnExactRetime_84 : VC :=
  .seq (.r 28 [⟨none, [], none, .mv 76 (.s 12)⟩,
    ⟨none, [], none, .mv 77 (.s 15)⟩,
    ⟨none, [], none, .call 78 23 [(.s 76), (.s 77)]⟩,
    ⟨none, [], none, .mv 15 (.s 78)⟩]) c_laws_FnExactRetime_86
def c_laws_FnExactRetime_82 : VC :=
  .seq (.r 27 [⟨none, [], none, .mv 15 (.k (.int .i64 1))⟩]) c_laws_FnExactRetime_84
def c_laws_FnExactRetime_74 : VC :=
  .seq (.seq (.r 25 [⟨none, [], none, .mv 72 (.s 16)⟩,
    ⟨none, [], none, .mv 73 (.s 10)⟩,
    ⟨none, [], none, .call 74 17 [(.s 72), (.s 73)]⟩,
    ⟨none, [], none, .un 75 .not (.s 74)⟩]) c_laws_FnExactRetime_77) c_laws_FnExactRetime_82
def c_laws_FnExactRetime_72 : VC :=
  .seq (.r 24 [⟨none, [], none, .mv 66 (.s 0)⟩,
    ⟨none, [], none, .call 67 14 [(.s 66)]⟩,
    ⟨none, [], none, .mv 68 (.s 1)⟩,
    ⟨none, [], none, .mv 69 (.s 2)⟩,
    ⟨none, [], none, .mv 70 (.s 3)⟩,
    ⟨none, [], none, .call 71 22 [(.s 67), (.s 68), (.s 69), (.s 70)]⟩,
    ⟨none, [], none, .mv 16 (.s 71)⟩]) c_laws_FnExactRetime_74
def c_laws_FnExactRetime_64 : VC :=
  .seq (.seq (.r 22 [⟨none, [], none, .mv 63 (.s 15)⟩,
    ⟨none, [], none, .mv 64 (.s 14)⟩,
    ⟨none, [], none, .bin 65 .neq (.s 63) (.s 64)⟩]) c_laws_FnExactRetime_67) c_laws_FnExactRetime_72
def c_laws_FnExactRetime_56 : VC :=
  .seq (.seq (.r 20 [⟨none, [], none, .mv 61 (.s 15)⟩,
    ⟨none, [], none, .bin 62 .lss (.s 61) (.k (.int .i64 0))⟩]) c_laws_FnExactRetime_59) c_laws_FnExactRetime_64
def c_laws_FnExactRetime_54 : VC :=
  .seq (.r 19 [⟨none, [], none, .mv 58 (.s 12)⟩,
    ⟨none, [], none, .mv 59 (.s 15)⟩,
    ⟨none, [], none, .call 60 23 [(.s 58), (.s 59)]⟩,
    ⟨none, [], none, .mv 15 (.s 60)⟩]) c_laws_FnExactRetime_56
def c_laws_FnExactRetime_52 : VC :=
  .seq (.r 18 [⟨none, [], none, .mv 15 (.k (.int .i64 1))⟩]) c_laws_FnExactRetime_54
def c_laws_FnExactRetime_50 : VC :=
  .seq (.r 17 [⟨none, [], none, .mv 55 (.s 12)⟩,
    ⟨none, [], none, .mv 56 (.s 14)⟩,
    ⟨none, [], none, .call 57 18 [(.s 55), (.s 56)]⟩,
    ⟨none, [], none, .mv 14 (.s 57)⟩]) c_laws_FnExactRetime_52
def c_laws_FnExactRetime_48 : VC :=
  .seq (.r 16 [⟨none, [], none, .mv 14 (.k (.int .i64 1))⟩]) c_laws_FnExactRetime_50
def c_laws_FnExactRetime_40 : VC :=
  .seq (.seq (.r 14 [⟨none, [], none, .mv 47 (.s 13)⟩,
    ⟨none, [], none, .bin 48 .lss (.s 47) (.k (.int .i64 0))⟩,
    ⟨none, [], none, .mv 49 (.s 48)⟩,
    ⟨none, [], some (49, false), .mv 50 (.s 12)⟩,
    ⟨none, [], some (49, false), .mv 51 (.s 10)⟩,
    ⟨none, [], some (49, false), .call 52 17 [(.s 50), (.s 51)]⟩,
    ⟨none, [], some (49, false), .un 53 .not (.s 52)⟩,
    ⟨none, [], none, .pick 54 (.s 49) (.k (.bool true)) (.s 53)⟩]) c_laws_FnExactRetime_43) c_laws_FnExactRetime_48
def c_laws_FnExactRetime_38 : VC :=
  .seq (.r 13 [⟨none, [], none, .mv 44 (.s 11)⟩,
    ⟨none, [], none, .mv 45 (.s 13)⟩,
    ⟨none, [], none, .call 46 18 [(.s 44), (.s 45)]⟩,
    ⟨none, [], none, .mv 13 (.s 46)⟩]) c_laws_FnExactRetime_40
def c_laws_FnExactRetime_36 : VC :=
  .seq (.r 12 [⟨none, [], none, .mv 13 (.k (.int .i64 1))⟩]) c_laws_FnExactRetime_38
def c_laws_FnExactRetime_28 : VC :=
  .seq (.seq (.r 10 [⟨none, [], none, .mv 39 (.s 11)⟩,
    ⟨none, [], none, .mv 40 (.s 0)⟩,
    ⟨none, [], none, .call 41 14 [(.s 40)]⟩,
    ⟨none, [], none, .call 42 17 [(.s 39), (.s 41)]⟩,
    ⟨none, [], none, .un 43 .not (.s 42)⟩]) c_laws_FnExactRetime_31) c_laws_FnExactRetime_36
def c_laws_FnExactRetime_20 : VC :=
  .seq (.seq (.r 8 [⟨none, [], none, .mv 35 (.s 12)⟩,
    ⟨none, [], none, .mv 36 (.s 10)⟩,
    ⟨none, [], none, .call 37 17 [(.s 35), (.s 36)]⟩,
    ⟨none, [], none, .un 38 .not (.s 37)⟩]) c_laws_FnExactRetime_23) c_laws_FnExactRetime_28
def c_laws_FnExactRetime_18 : VC :=
  .seq (.r 7 [⟨none, [], none, .mv 30 (.s 11)⟩,
    ⟨none, [], none, .mv 31 (.s 1)⟩,
    ⟨none, [], none, .mv 32 (.s 2)⟩,
    ⟨none, [], none, .mv 33 (.s 3)⟩,
    ⟨none, [], none, .call 34 22 [(.s 30), (.s 31), (.s 32), (.s 33)]⟩,
    ⟨none, [], none, .mv 12 (.s 34)⟩]) c_laws_FnExactRetime_20
def c_laws_FnExactRetime_16 : VC :=
  .seq (.r 6 [⟨none, [], none, .mv 28 (.s 0)⟩,
    ⟨none, [], none, .call 29 14 [(.s 28)]⟩,
    ⟨none, [], none, .mv 11 (.s 29)⟩]) c_laws_FnExactRetime_18
def c_laws_FnExactRetime_14 : VC :=
  .seq (.r 5 [⟨none, [], none, .mv 22 (.s 0)⟩,
    ⟨none, [], none, .call 23 14 [(.s 22)]⟩,
    ⟨none, [], none, .mv 24 (.s 1)⟩,
    ⟨none, [], none, .mv 25 (.s 2)⟩,
    ⟨none, [], none, .mv 26 (.s 3)⟩,
    ⟨none, [], none, .call 27 21 [(.s 23), (.s 24), (.s 25), (.s 26)]⟩,
    ⟨none, [], none, .mv 10 (.s 27)⟩]) c_laws_FnExactRetime_16
def c_laws_FnExactRetime_6 : VC :=
  .seq (.seq (.r 3 [⟨none, [], none, .mv 20 (.s 9)⟩,
    ⟨none, [], none, .bin 21 .lss (.s 20) (.k (.int .i64 0))⟩]) c_laws_FnExactRetime_9) c_laws_FnExactRetime_14
def c_laws_FnExactRetime_4 : VC :=
  .seq (.r 2 [⟨none, [], none, .mv 17 (.s 0)⟩,
    ⟨none, [], none, .mv 18 (.s 9)⟩,
    ⟨none, [], none, .call 19 12 [(.s 17), (.s 18)]⟩,
    ⟨none, [], none, .mv 9 (.s 19)⟩]) c_laws_FnExactRetime_6
def c_laws_FnExactRetime_2 : VC :=
  .seq (.r 1 [⟨none, [], none, .mv 9 (.k (.int .i64 1048576))⟩]) c_laws_FnExactRetime_4
def c_laws_FnExactRetime_0 : VC :=
  .seq (.r 0 [⟨none, [], none, .mv 8 (.k (.bool false))⟩]) c_laws_FnExactRetime_2
def vf_laws_FnExactRetime : VF := { pm := [.ro [.ro [.sc, .sc, .ro [.sc]]], .ro [.sc], .ro [.sc], .ro [.sc]], rm := [.v [.sc]], nslots := 84, res := [8], rc := [], code := .kp [0, 1, 2, 3] c_laws_FnExactRetime_0 }
def ext : FuncId → List Arg → Option FRes := fun f ars => if f = 53 then ex_strings_Contains ars else none
def tblL : List (FuncId × VF) := [(45, vf_laws_szStringS), (32, vf_laws_szCue), (12, vf_laws_szCueS), (46, vf_laws_toStringS), (34, vf_laws_toCue), (14, vf_laws_toCueS), (33, vf_spec_l15Time), (50, vf_spec_l15Bytes), (51, vf_spec_l15Has), (42, vf_spec_l15Lines), (27, vf_spec_GoodCues), (38, vf_spec_l15Floor), (21, vf_spec_Retime), (35, vf_impl_ztime), (53, vf_strings_Contains), (49, vf_impl_zcueLine), (41, vf_impl_zcue), (26, vf_impl_GoodCues), (39, vf_impl_zfloor), (22, vf_impl_Retime), (47, vf_laws_eqStringS), (36, vf_laws_eqCue), (17, vf_laws_eqCueS), (48, vf_laws_markText), (37, vf_laws_markStringS), (18, vf_laws_markCueS), (40, vf_laws_heldStringS), (23, vf_laws_heldCueS), (5, vf_laws_FnExactRetime)]
def tbl : FuncId → Option VF := fun f => tblL.lookup f
end Go.Proofs.V

/- printed by a program: the plain functions, the code and the proofs of one law -/
set_option linter.unusedVariables false
set_option maxRecDepth 100000
namespace Go.Proofs.V
open Go
theorem fi_laws_szStringS : funcIs Go.Proofs.Try.prog tbl 45 vf_laws_szStringS = true := by kernel_rfl
theorem fi_laws_szCue : funcIs Go.Proofs.Try.prog tbl 32 vf_laws_szCue = true := by kernel_rfl
theorem fi_laws_szCueS : funcIs Go.Proofs.Try.prog tbl 12 vf_laws_szCueS = true := by kernel_rfl
theorem fi_laws_toStringS : funcIs Go.Proofs.Try.prog tbl 46 vf_laws_toStringS = true := by kernel_rfl
theorem fi_laws_toCue : funcIs Go.Proofs.Try.prog tbl 34 vf_laws_toCue = true := by kernel_rfl
theorem fi_laws_toCueS : funcIs Go.Proofs.Try.prog tbl 14 vf_laws_toCueS = true := by kernel_rfl
theorem fi_spec_l15Time : funcIs Go.Proofs.Try.prog tbl 33 vf_spec_l15Time = true := by kernel_rfl
theorem fi_spec_l15Bytes : funcIs Go.Proofs.Try.prog tbl 50 vf_spec_l15Bytes = true := by kernel_rfl
theorem fi_spec_l15Has : funcIs Go.Proofs.Try.prog tbl 51 vf_spec_l15Has = true := by kernel_rfl
theorem fi_spec_l15Lines : funcIs Go.Proofs.Try.prog tbl 42 vf_spec_l15Lines = true := by kernel_rfl
theorem fi_spec_GoodCues : funcIs Go.Proofs.Try.prog tbl 27 vf_spec_GoodCues = true := by kernel_rfl
theorem fi_spec_l15Floor : funcIs Go.Proofs.Try.prog tbl 38 vf_spec_l15Floor = true := by kernel_rfl
theorem fi_spec_Retime : funcIs Go.Proofs.Try.prog tbl 21 vf_spec_Retime = true := by kernel_rfl
theorem fi_impl_ztime : funcIs Go.Proofs.Try.prog tbl 35 vf_impl_ztime = true := by kernel_rfl
theorem fi_impl_zcueLine : funcIs Go.Proofs.Try.prog tbl 49 vf_impl_zcueLine = true := by kernel_rfl
theorem fi_impl_zcue : funcIs Go.Proofs.Try.prog tbl 41 vf_impl_zcue = true := by kernel_rfl
theorem fi_impl_GoodCues : funcIs Go.Proofs.Try.prog tbl 26 vf_impl_GoodCues = true := by kernel_rfl
theorem fi_impl_zfloor : funcIs Go.Proofs.Try.prog tbl 39 vf_impl_zfloor = true := by kernel_rfl
theorem fi_impl_Retime : funcIs Go.Proofs.Try.prog tbl 22 vf_impl_Retime = true := by kernel_rfl
theorem fi_laws_eqStringS : funcIs Go.Proofs.Try.prog tbl 47 vf_laws_eqStringS = true := by kernel_rfl
theorem fi_laws_eqCue : funcIs Go.Proofs.Try.prog tbl 36 vf_laws_eqCue = true := by kernel_rfl
theorem fi_laws_eqCueS : funcIs Go.Proofs.Try.prog tbl 17 vf_laws_eqCueS = true := by kernel_rfl
theorem fi_laws_markText : funcIs Go.Proofs.Try.prog tbl 48 vf_laws_markText = true := by kernel_rfl
theorem fi_laws_markStringS : funcIs Go.Proofs.Try.prog tbl 37 vf_laws_markStringS = true := by kernel_rfl
theorem fi_laws_markCueS : funcIs Go.Proofs.Try.prog tbl 18 vf_laws_markCueS = true := by kernel_rfl
theorem fi_laws_heldStringS : funcIs Go.Proofs.Try.prog tbl 40 vf_laws_heldStringS = true := by kernel_rfl
theorem fi_laws_heldCueS : funcIs Go.Proofs.Try.prog tbl 23 vf_laws_heldCueS = true := by kernel_rfl
theorem fi_laws_FnExactRetime : funcIs Go.Proofs.Try.prog tbl 5 vf_laws_FnExactRetime = true := by kernel_rfl
def gI : GInv := gCell 0
def ren_strings_Contains : Go.Shelf.Ren := ⟨fun n => match n with | 144 => 53 | 143 => 54 | 219 => 55 | 217 => 56 | 225 => 57 | 224 => 58 | 267 => 59 | 266 => 60 | 314 => 61 | n => n, fun n => match n with | 9 => 9 | 4 => 4 | 3 => 3 | 5 => 5 | 46 => 70 | 146 => 75 | 51 => 74 | n => n, fun n => match n with | 1 => 0 | n => n⟩
theorem lays_strings_Contains : Go.Proofs.LaysM.n144 Go.Proofs.Try.prog ren_strings_Contains where
  mixed := by kernel_rfl
  f143 := Go.Proofs.Try.func54.trans (congrArg some (by kernel_rfl))
  f144 := Go.Proofs.Try.func53.trans (congrArg some (by kernel_rfl))
  f217 := Go.Proofs.Try.func56.trans (congrArg some (by kernel_rfl))
  f219 := Go.Proofs.Try.func55.trans (congrArg some (by kernel_rfl))
  f224 := Go.Proofs.Try.func58.trans (congrArg some (by kernel_rfl))
  f225 := Go.Proofs.Try.func57.trans (congrArg some (by kernel_rfl))
  f266 := Go.Proofs.Try.func60.trans (congrArg some (by kernel_rfl))
  f267 := Go.Proofs.Try.func59.trans (congrArg some (by kernel_rfl))
  f314 := Go.Proofs.Try.func61.trans (congrArg some (by kernel_rfl))
  t3 := Go.Proofs.Try.underlying3
  a3 := Go.Proofs.Try.isAgg3
  z3 := Go.Proofs.Try.sizeOf3
  v3 := Go.Proofs.Try.zeroValue3
  t4 := Go.Proofs.Try.underlying4
  a4 := Go.Proofs.Try.isAgg4
  z4 := Go.Proofs.Try.sizeOf4
  v4 := Go.Proofs.Try.zeroValue4
  t5 := Go.Proofs.Try.underlying5
  a5 := Go.Proofs.Try.isAgg5
  z5 := Go.Proofs.Try.sizeOf5
  v5 := Go.Proofs.Try.zeroValue5
  t9 := Go.Proofs.Try.underlying9
  a9 := Go.Proofs.Try.isAgg9
  z9 := Go.Proofs.Try.sizeOf9
  v9 := Go.Proofs.Try.zeroValue9
  t46 := Go.Proofs.Try.underlying70
  a46 := Go.Proofs.Try.isAgg70
  z46 := Go.Proofs.Try.sizeOf70
  v46 := Go.Proofs.Try.zeroValue70
  t51 := Go.Proofs.Try.underlying74
  a51 := Go.Proofs.Try.isAgg74
  z51 := Go.Proofs.Try.sizeOf74
  v51 := Go.Proofs.Try.zeroValue74
  t146 := Go.Proofs.Try.underlying75
  a146 := Go.Proofs.Try.isAgg75
  z146 := Go.Proofs.Try.sizeOf75
  v146 := Go.Proofs.Try.zeroValue75
  g1 := by kernel_rfl
  i3 := by kernel_rfl
  i4 := by kernel_rfl
  i5 := by kernel_rfl
  i9 := by kernel_rfl
  i46 := by kernel_rfl
  i51 := by kernel_rfl
  i146 := by kernel_rfl
  m1 := by kernel_rfl
  s1_3 := fun w h => Go.Proofs.cell_of_shapedOpen_int (zero := #[.int .i64 0]) (t := 3) h (of_decide_eq_true (by kernel_rfl)) (by kernel_rfl) rfl (by kernel_rfl) (by kernel_rfl) Go.Proofs.Try.underlying3
theorem giv_strings_Contains (p0 : ByteArray) (p1 : ByteArray) (r : Bool) (h : gContains p0 p1 = some r) (w : World) (hw : gI.I w) : Calls Go.Proofs.Try.prog 53 [(.string p0 : Value), (.string p1 : Value)].toArray w fun e w' => e = .returned (.bool r) ∧ w' = w := by
  unfold gContains at h
  split at h
  · rename_i hs
    obtain rfl := Option.some.inj h
    obtain ⟨m, hm⟩ := hw
    exact Go.Proofs.Any.strings_Contains { lays_strings_Contains with } p0 p1 m w hs hm
  · simp at h
theorem gv_strings_Contains : ∀ ars res st0, enter vf_strings_Contains ars = some st0 → ext 53 ars = some res → callable Go.Proofs.Try.prog 53 = true ∧ Does gI Go.Proofs.Try.prog 53 vf_strings_Contains st0 res := by
  intro ars res st0 he hx
  refine ⟨by kernel_rfl, ?_⟩
  have key : ∃ p0 p1, ars = [.v false [.lit (.string p0)], .v false [.lit (.string p1)]] ∧ (gContains p0 p1).map (fun r => (⟨[.v false [.lit (.bool r)]], []⟩ : FRes)) = some res := by
    have hx' : ex_strings_Contains ars = some res := hx
    unfold ex_strings_Contains at hx'
    split at hx'
    · exact ⟨_, _, rfl, hx'⟩
    · simp at hx'
  obtain ⟨p0, p1, rfl, h2⟩ := key
  obtain ⟨r, h3, rfl⟩ := Option.map_eq_some_iff.1 h2
  refine given_does (vals := [(.string p0 : Value), (.string p1 : Value)]) (v := .bool r) (m := 2) rfl rfl rfl rfl rfl rfl he ?_ ?_
  · have h4 : enter vf_strings_Contains ([.v false [.lit (.string p0)], .v false [.lit (.string p1)]]) = some ⟨[SV.v false [.lit (.string p0)], SV.v false [.lit (.string p1)]] ++ [undefS], [], []⟩ := by kernel_rfl
    exact Option.some.inj (he.symm.trans h4)
  · intro w hw
    exact giv_strings_Contains p0 p1 r h3 w hw
end Go.Proofs.V

/- printed by a program: the plain functions, the code and the proofs of one law -/
set_option linter.unusedVariables false
set_option maxRecDepth 100000
namespace Go.Proofs.V
open Go
def as_laws_szStringS (p0 : (List ByteArray)) (p1 : Int) : List Arg := [.v false [.sl (p0.map rS)], .v false [.lit (.int .i64 p1)]]
def res_laws_szStringS (r : Int) : FRes := ⟨[.v false [.lit (.int .i64 r)]], []⟩
def as_laws_szCue (p0 : S_Cue) (p1 : Int) : List Arg := [.v true [.lit (.int .i64 p0.from_), .lit (.int .i64 p0.to_), .sl (p0.lines.map rS)], .v false [.lit (.int .i64 p1)]]
def res_laws_szCue (r : Int) : FRes := ⟨[.v false [.lit (.int .i64 r)]], []⟩
def as_laws_szCueS (p0 : (List S_Cue)) (p1 : Int) : List Arg := [.v false [.sl (p0.map rS_Cue)], .v false [.lit (.int .i64 p1)]]
def res_laws_szCueS (r : Int) : FRes := ⟨[.v false [.lit (.int .i64 r)]], []⟩
def as_laws_toStringS (p0 : (List ByteArray)) : List Arg := [.v false [.sl (p0.map rS)]]
def res_laws_toStringS (r : (List ByteArray)) : FRes := ⟨[.v false [.sl (r.map rS)]], []⟩
def as_laws_toCue (p0 : S_Cue) : List Arg := [.v true [.lit (.int .i64 p0.from_), .lit (.int .i64 p0.to_), .sl (p0.lines.map rS)]]
def res_laws_toCue (r : S_Cue) : FRes := ⟨[.v true [.lit (.int .i64 r.from_), .lit (.int .i64 r.to_), .sl (r.lines.map rS)]], []⟩
def as_laws_toCueS (p0 : (List S_Cue)) : List Arg := [.v false [.sl (p0.map rS_Cue)]]
def res_laws_toCueS (r : (List S_Cue)) : FRes := ⟨[.v false [.sl (r.map rS_Cue)]], []⟩
def as_spec_l15Time (p0 : Int) : List Arg := [.v false [.lit (.int .i64 p0)]]
def res_spec_l15Time (r : Bool) : FRes := ⟨[.v false [.lit (.bool r)]], []⟩
def as_spec_l15Bytes (p0 : ByteArray) : List Arg := [.v false [.lit (.string p0)]]
def res_spec_l15Bytes (r : Bool) : FRes := ⟨[.v false [.lit (.bool r)]], []⟩
def as_spec_l15Has (p0 : ByteArray) : List Arg := [.v false [.lit (.string p0)]]
def res_spec_l15Has (r : Bool) : FRes := ⟨[.v false [.lit (.bool r)]], []⟩
def as_spec_l15Lines (p0 : (List ByteArray)) : List Arg := [.v false [.sl (p0.map rS)]]
def res_spec_l15Lines (r : Bool) : FRes := ⟨[.v false [.lit (.bool r)]], []⟩
def as_spec_GoodCues (p0 : (List S_Cue)) : List Arg := [.v false [.sl (p0.map rS_Cue)]]
def res_spec_GoodCues (r : Bool) : FRes := ⟨[.v false [.lit (.bool r)]], []⟩
def as_spec_l15Floor (p0 : Int) (p1 : Int) : List Arg := [.v false [.lit (.int .i64 p0)], .v false [.lit (.int .i64 p1)]]
def res_spec_l15Floor (r : Int) : FRes := ⟨[.v false [.lit (.int .i64 r)]], []⟩
def as_spec_Retime (p0 : (List S_Cue)) (p1 : Int) (p2 : Int) (p3 : Int) : List Arg := [.v false [.sl (p0.map rS_Cue)], .v false [.lit (.int .i64 p1)], .v false [.lit (.int .i64 p2)], .v false [.lit (.int .i64 p3)]]
def res_spec_Retime (r : (List S_Cue)) : FRes := ⟨[.v false [.sl (r.map rS_Cue)]], []⟩
def as_impl_ztime (p0 : Int) : List Arg := [.v false [.lit (.int .i64 p0)]]
def res_impl_ztime (r : Bool) : FRes := ⟨[.v false [.lit (.bool r)]], []⟩
def as_strings_Contains (p0 : ByteArray) (p1 : ByteArray) : List Arg := [.v false [.lit (.string p0)], .v false [.lit (.string p1)]]
def res_strings_Contains (r : Bool) : FRes := ⟨[.v false [.lit (.bool r)]], []⟩
def as_impl_zcueLine (p0 : ByteArray) : List Arg := [.v false [.lit (.string p0)]]
def res_impl_zcueLine (r : Int) : FRes := ⟨[.v false [.lit (.int .i64 r)]], []⟩
def as_impl_zcue (p0 : S_Cue) : List Arg := [.v true [.lit (.int .i64 p0.from_), .lit (.int .i64 p0.to_), .sl (p0.lines.map rS)]]
def res_impl_zcue (r : Bool) : FRes := ⟨[.v false [.lit (.bool r)]], []⟩
def as_impl_GoodCues (p0 : (List S_Cue)) : List Arg := [.v false [.sl (p0.map rS_Cue)]]
def res_impl_GoodCues (r : Bool) : FRes := ⟨[.v false [.lit (.bool r)]], []⟩
def as_impl_zfloor (p0 : Int) (p1 : Int) : List Arg := [.v false [.lit (.int .i64 p0)], .v false [.lit (.int .i64 p1)]]
def res_impl_zfloor (r : Int) : FRes := ⟨[.v false [.lit (.int .i64 r)]], []⟩
def as_impl_Retime (p0 : (List S_Cue)) (p1 : Int) (p2 : Int) (p3 : Int) : List Arg := [.v false [.sl (p0.map rS_Cue)], .v false [.lit (.int .i64 p1)], .v false [.lit (.int .i64 p2)], .v false [.lit (.int .i64 p3)]]
def res_impl_Retime (r : (List S_Cue)) : FRes := ⟨[.v false [.sl (r.map rS_Cue)]], []⟩
def as_laws_eqStringS (p0 : (List ByteArray)) (p1 : (List ByteArray)) : List Arg := [.v false [.sl (p0.map rS)], .v false [.sl (p1.map rS)]]
def res_laws_eqStringS (r : Bool) : FRes := ⟨[.v false [.lit (.bool r)]], []⟩
def as_laws_eqCue (p0 : S_Cue) (p1 : S_Cue) : List Arg := [.v true [.lit (.int .i64 p0.from_), .lit (.int .i64 p0.to_), .sl (p0.lines.map rS)], .v true [.lit (.int .i64 p1.from_), .lit (.int .i64 p1.to_), .sl (p1.lines.map rS)]]
def res_laws_eqCue (r : Bool) : FRes := ⟨[.v false [.lit (.bool r)]], []⟩
def as_laws_eqCueS (p0 : (List S_Cue)) (p1 : (List S_Cue)) : List Arg := [.v false [.sl (p0.map rS_Cue)], .v false [.sl (p1.map rS_Cue)]]
def res_laws_eqCueS (r : Bool) : FRes := ⟨[.v false [.lit (.bool r)]], []⟩
def as_laws_markText (p0 : Int) : List Arg := [.v false [.lit (.int .i64 p0)]]
def res_laws_markText (r : ByteArray) : FRes := ⟨[.v false [.lit (.string r)]], []⟩
def as_laws_markStringS (p0 : (List ByteArray)) (p1 : Int) : List Arg := [.m (.sl (p0.map rS)), .v false [.lit (.int .i64 p1)]]
def res_laws_markStringS (r : Int × (List ByteArray)) : FRes := ⟨[.v false [.lit (.int .i64 r.1)]], [.sl (r.2.map rS)]⟩
def as_laws_markCueS (p0 : (List S_Cue)) (p1 : Int) : List Arg := [.m (.sl (p0.map rS_Cue)), .v false [.lit (.int .i64 p1)]]
def res_laws_markCueS (r : Int × (List S_Cue)) : FRes := ⟨[.v false [.lit (.int .i64 r.1)]], [.sl (r.2.map rS_Cue)]⟩
def as_laws_heldStringS (p0 : (List ByteArray)) (p1 : Int) : List Arg := [.v false [.sl (p0.map rS)], .v false [.lit (.int .i64 p1)]]
def res_laws_heldStringS (r : Int) : FRes := ⟨[.v false [.lit (.int .i64 r)]], []⟩
def as_laws_heldCueS (p0 : (List S_Cue)) (p1 : Int) : List Arg := [.v false [.sl (p0.map rS_Cue)], .v false [.lit (.int .i64 p1)]]
def res_laws_heldCueS (r : Int) : FRes := ⟨[.v false [.lit (.int .i64 r)]], []⟩
def as_laws_FnExactRetime (p0 : (List S_Cue)) (p1 : Int) (p2 : Int) (p3 : Int) : List Arg := [.v false [.sl (p0.map rS_Cue)], .v false [.lit (.int .i64 p1)], .v false [.lit (.int .i64 p2)], .v false [.lit (.int .i64 p3)]]
def res_laws_FnExactRetime (r : Bool) : FRes := ⟨[.v false [.lit (.bool r)]], []⟩
def K_laws_szStringS_35 : List Fr := []
def s_laws_szStringS_35 (i35_0 : Int) : St :=
  ⟨mkSl 28 [(1, .v false [.lit (.int .i64 i35_0)])], [], []⟩
def K_laws_szStringS_17 : List Fr := [.lp [0, 1, 5] c_laws_szStringS_17, .bk 0, .sq (.kp [1] c_laws_szStringS_35)]
def s_laws_szStringS_17 (p0 : (List ByteArray)) (i17_0 : Int) (i17_1 : Int) : St :=
  ⟨mkSl 28 [(0, .v false [.ro [.sc] (p0.map rS)]), (1, .v false [.lit (.int .i64 i17_0)]), (5, .v false [.lit (.int .i64 i17_1)])], [], []⟩
def K_laws_szStringS_0 : List Fr := []
def s_laws_szStringS_0 (p0 : (List ByteArray)) (p1 : Int) : St :=
  ⟨mkSl 28 [(0, .v false [.ro [.sc] (p0.map rS)]), (1, .v false [.lit (.int .i64 p1)])], [], []⟩
def K_laws_szCue_0 : List Fr := []
def s_laws_szCue_0 (p0 : S_Cue) (p1 : Int) : St :=
  ⟨mkSl 12 [(0, .v true [.lit (.int .i64 p0.from_), .lit (.int .i64 p0.to_), .ro [.sc] (p0.lines.map rS)]), (1, .v false [.lit (.int .i64 p1)])], [], []⟩
def K_laws_szCueS_35 : List Fr := []
def s_laws_szCueS_35 (i35_0 : Int) : St :=
  ⟨mkSl 27 [(1, .v false [.lit (.int .i64 i35_0)])], [], []⟩
def K_laws_szCueS_17 : List Fr := [.lp [0, 1, 5] c_laws_szCueS_17, .bk 0, .sq (.kp [1] c_laws_szCueS_35)]
def s_laws_szCueS_17 (p0 : (List S_Cue)) (i17_0 : Int) (i17_1 : Int) : St :=
  ⟨mkSl 27 [(0, .v false [.ro [.sc, .sc, .ro [.sc]] (p0.map rS_Cue)]), (1, .v false [.lit (.int .i64 i17_0)]), (5, .v false [.lit (.int .i64 i17_1)])], [], []⟩
def K_laws_szCueS_0 : List Fr := []
def s_laws_szCueS_0 (p0 : (List S_Cue)) (p1 : Int) : St :=
  ⟨mkSl 27 [(0, .v false [.ro [.sc, .sc, .ro [.sc]] (p0.map rS_Cue)]), (1, .v false [.lit (.int .i64 p1)])], [], []⟩
def K_laws_toStringS_19 : List Fr := []
def s_laws_toStringS_19 (l19_0 : (List ByteArray)) : St :=
  ⟨mkSl 22 [(3, .v false [.ref 0 [] 0 l19_0.length])], [some ⟨[.sc], (List.map rS l19_0)⟩], []⟩
def K_laws_toStringS_9 : List Fr := [.lp [0, 3, 4] c_laws_toStringS_9, .bk 0, .sq (.kp [3] c_laws_toStringS_19)]
def s_laws_toStringS_9 (p0 : (List ByteArray)) (i9_0 : Int) (l9_1 : (List ByteArray)) : St :=
  ⟨mkSl 22 [(0, .v false [.ro [.sc] (p0.map rS)]), (3, .v false [.ref 0 [] 0 l9_1.length]), (4, .v false [.lit (.int .i64 i9_0)])], [some ⟨[.sc], (List.map rS l9_1)⟩], []⟩
def K_laws_toStringS_0 : List Fr := []
def s_laws_toStringS_0 (p0 : (List ByteArray)) : St :=
  ⟨mkSl 22 [(0, .v false [.ro [.sc] (p0.map rS)])], [], []⟩
def K_laws_toCue_0 : List Fr := []
def s_laws_toCue_0 (p0 : S_Cue) : St :=
  ⟨mkSl 15 [(0, .v true [.lit (.int .i64 p0.from_), .lit (.int .i64 p0.to_), .ro [.sc] (p0.lines.map rS)])], [], []⟩
def K_laws_toCueS_19 : List Fr := []
def s_laws_toCueS_19 (l19_0 : (List S_Cue)) : St :=
  ⟨mkSl 23 [(3, .v false [.ref 0 [] 0 l19_0.length])], [some ⟨[.sc, .sc, .own [.sc]], (List.map rS_Cue l19_0)⟩], []⟩
def K_laws_toCueS_9 : List Fr := [.lp [0, 3, 4] c_laws_toCueS_9, .bk 0, .sq (.kp [3] c_laws_toCueS_19)]
def s_laws_toCueS_9 (p0 : (List S_Cue)) (i9_0 : Int) (l9_1 : (List S_Cue)) : St :=
  ⟨mkSl 23 [(0, .v false [.ro [.sc, .sc, .ro [.sc]] (p0.map rS_Cue)]), (3, .v false [.ref 0 [] 0 l9_1.length]), (4, .v false [.lit (.int .i64 i9_0)])], [some ⟨[.sc, .sc, .own [.sc]], (List.map rS_Cue l9_1)⟩], []⟩
def K_laws_toCueS_0 : List Fr := []
def s_laws_toCueS_0 (p0 : (List S_Cue)) : St :=
  ⟨mkSl 23 [(0, .v false [.ro [.sc, .sc, .ro [.sc]] (p0.map rS_Cue)])], [], []⟩
def K_spec_l15Time_0 : List Fr := []
def s_spec_l15Time_0 (p0 : Int) : St :=
  ⟨mkSl 9 [(0, .v false [.lit (.int .i64 p0)])], [], []⟩
def K_spec_l15Bytes_23 : List Fr := []
def s_spec_l15Bytes_23 : St :=
  ⟨mkSl 20 [], [], []⟩
def K_spec_l15Bytes_7 : List Fr := [.lp [0, 3] c_spec_l15Bytes_7, .bk 0, .sq (.kp [] c_spec_l15Bytes_23)]
def s_spec_l15Bytes_7 (p0 : ByteArray) (i7_0 : Int) : St :=
  ⟨mkSl 20 [(0, .v false [.lit (.string p0)]), (3, .v false [.lit (.int .i64 i7_0)])], [], []⟩
def K_spec_l15Bytes_0 : List Fr := []
def s_spec_l15Bytes_0 (p0 : ByteArray) : St :=
  ⟨mkSl 20 [(0, .v false [.lit (.string p0)])], [], []⟩
def K_spec_l15Has_23 : List Fr := []
def s_spec_l15Has_23 : St :=
  ⟨mkSl 17 [], [], []⟩
def K_spec_l15Has_7 : List Fr := [.lp [0, 3] c_spec_l15Has_7, .bk 0, .sq (.kp [] c_spec_l15Has_23)]
def s_spec_l15Has_7 (p0 : ByteArray) (i7_0 : Int) : St :=
  ⟨mkSl 17 [(0, .v false [.lit (.string p0)]), (3, .v false [.lit (.int .i64 i7_0)])], [], []⟩
def K_spec_l15Has_0 : List Fr := []
def s_spec_l15Has_0 (p0 : ByteArray) : St :=
  ⟨mkSl 17 [(0, .v false [.lit (.string p0)])], [], []⟩
def K_spec_l15Lines_25 : List Fr := []
def s_spec_l15Lines_25 (p0 : (List ByteArray)) : St :=
  ⟨mkSl 45 [(0, .v false [.ro [.sc] (p0.map rS)])], [], []⟩
def K_spec_l15Lines_7 : List Fr := [.lp [0, 5, 6, 7] c_spec_l15Lines_7, .bk 0, .sq (.kp [0] c_spec_l15Lines_25)]
def s_spec_l15Lines_7 (p0 : (List ByteArray)) (i7_0 : Int) : St :=
  ⟨mkSl 45 [(0, .v false [.ro [.sc] (p0.map rS)]), (5, .v false [.ro [.sc] (p0.map rS)]), (6, .v false [.lit (.int .i64 (p0.length : Int))]), (7, .v false [.lit (.int .i64 i7_0)])], [], []⟩
def K_spec_l15Lines_0 : List Fr := []
def s_spec_l15Lines_0 (p0 : (List ByteArray)) : St :=
  ⟨mkSl 45 [(0, .v false [.ro [.sc] (p0.map rS)])], [], []⟩
def K_spec_GoodCues_33 : List Fr := []
def s_spec_GoodCues_33 : St :=
  ⟨mkSl 54 [], [], []⟩
def K_spec_GoodCues_15 : List Fr := [.lp [0, 8, 9, 10] c_spec_GoodCues_15, .bk 0, .sq (.kp [] c_spec_GoodCues_33)]
def s_spec_GoodCues_15 (p0 : (List S_Cue)) (i15_0 : Int) : St :=
  ⟨mkSl 54 [(0, .v false [.ro [.sc, .sc, .ro [.sc]] (p0.map rS_Cue)]), (8, .v false [.ro [.sc, .sc, .ro [.sc]] (p0.map rS_Cue)]), (9, .v false [.lit (.int .i64 (p0.length : Int))]), (10, .v false [.lit (.int .i64 i15_0)])], [], []⟩
def K_spec_GoodCues_0 : List Fr := []
def s_spec_GoodCues_0 (p0 : (List S_Cue)) : St :=
  ⟨mkSl 54 [(0, .v false [.ro [.sc, .sc, .ro [.sc]] (p0.map rS_Cue)])], [], []⟩
def K_spec_l15Floor_0 : List Fr := []
def s_spec_l15Floor_0 (p0 : Int) (p1 : Int) : St :=
  ⟨mkSl 16 [(0, .v false [.lit (.int .i64 p0)]), (1, .v false [.lit (.int .i64 p1)])], [], []⟩
def K_spec_Retime_43 : List Fr := [.bk 1, .sq c_spec_Retime_48, .lp [1, 2, 3, 9, 42, 43, 44] c_spec_Retime_17, .bk 0, .sq (.kp [9] c_spec_Retime_49)]
def s_spec_Retime_43 (p1 : Int) (p2 : Int) (p3 : Int) (p0 : (List S_Cue)) (i17_0 : Int) (x17_1 : S_Cue) (l17_1 : (List S_Cue)) (i43_0 : Int) (i43_1 : Int) : St :=
  ⟨mkSl 90 [(1, .v false [.lit (.int .i64 p1)]), (2, .v false [.lit (.int .i64 p2)]), (3, .v false [.lit (.int .i64 p3)]), (9, .v false [.ref 0 [] 0 l17_1.length]), (11, .v false [.vptr 0 0]), (12, .v false [.lit (.int .i64 i43_0)]), (13, .v false [.lit (.int .i64 i43_1)]), (42, .v false [.ro [.sc, .sc, .ro [.sc]] (p0.map rS_Cue)]), (43, .v false [.lit (.int .i64 (p0.length : Int))]), (44, .v false [.lit (.int .i64 i17_0)])], [some ⟨[.sc, .sc, .own [.sc]], (List.map rS_Cue l17_1)⟩], [some [.lit (.int .i64 x17_1.from_), .lit (.int .i64 x17_1.to_), .ro [.sc] (x17_1.lines.map rS)]]⟩
def K_spec_Retime_49 : List Fr := []
def s_spec_Retime_49 (l49_0 : (List S_Cue)) : St :=
  ⟨mkSl 90 [(9, .v false [.ref 0 [] 0 l49_0.length])], [some ⟨[.sc, .sc, .own [.sc]], (List.map rS_Cue l49_0)⟩], []⟩
def K_spec_Retime_17 : List Fr := [.lp [1, 2, 3, 9, 42, 43, 44] c_spec_Retime_17, .bk 0, .sq (.kp [9] c_spec_Retime_49)]
def s_spec_Retime_17 (p1 : Int) (p2 : Int) (p3 : Int) (p0 : (List S_Cue)) (i17_0 : Int) (l17_1 : (List S_Cue)) : St :=
  ⟨mkSl 90 [(1, .v false [.lit (.int .i64 p1)]), (2, .v false [.lit (.int .i64 p2)]), (3, .v false [.lit (.int .i64 p3)]), (9, .v false [.ref 0 [] 0 l17_1.length]), (42, .v false [.ro [.sc, .sc, .ro [.sc]] (p0.map rS_Cue)]), (43, .v false [.lit (.int .i64 (p0.length : Int))]), (44, .v false [.lit (.int .i64 i17_0)])], [some ⟨[.sc, .sc, .own [.sc]], (List.map rS_Cue l17_1)⟩], []⟩
def K_spec_Retime_0 : List Fr := []
def s_spec_Retime_0 (p0 : (List S_Cue)) (p1 : Int) (p2 : Int) (p3 : Int) : St :=
  ⟨mkSl 90 [(0, .v false [.ro [.sc, .sc, .ro [.sc]] (p0.map rS_Cue)]), (1, .v false [.lit (.int .i64 p1)]), (2, .v false [.lit (.int .i64 p2)]), (3, .v false [.lit (.int .i64 p3)])], [], []⟩
def K_impl_ztime_0 : List Fr := []
def s_impl_ztime_0 (p0 : Int) : St :=
  ⟨mkSl 9 [(0, .v false [.lit (.int .i64 p0)])], [], []⟩
def K_impl_zcueLine_25 : List Fr := []
def s_impl_zcueLine_25 (p0 : ByteArray) : St :=
  ⟨mkSl 25 [(0, .v false [.lit (.string p0)])], [], []⟩
def K_impl_zcueLine_7 : List Fr := [.lp [0, 5, 6] c_impl_zcueLine_7, .bk 0, .sq (.kp [0] c_impl_zcueLine_25)]
def s_impl_zcueLine_7 (p0 : ByteArray) (i7_0 : Int) : St :=
  ⟨mkSl 25 [(0, .v false [.lit (.string p0)]), (5, .v false [.lit (.int .i64 (p0.size : Int))]), (6, .v false [.lit (.int .i64 i7_0)])], [], []⟩
def K_impl_zcueLine_0 : List Fr := []
def s_impl_zcueLine_0 (p0 : ByteArray) : St :=
  ⟨mkSl 25 [(0, .v false [.lit (.string p0)])], [], []⟩
def K_impl_zcue_33 : List Fr := []
def s_impl_zcue_33 : St :=
  ⟨mkSl 38 [], [], []⟩
def K_impl_zcue_15 : List Fr := [.lp [16, 17, 18] c_impl_zcue_15, .bk 0, .sq (.kp [] c_impl_zcue_33)]
def s_impl_zcue_15 (p0 : S_Cue) (i15_0 : Int) : St :=
  ⟨mkSl 38 [(16, .v false [.ro [.sc] (p0.lines.map rS)]), (17, .v false [.lit (.int .i64 (p0.lines.length : Int))]), (18, .v false [.lit (.int .i64 i15_0)])], [], []⟩
def K_impl_zcue_0 : List Fr := []
def s_impl_zcue_0 (p0 : S_Cue) : St :=
  ⟨mkSl 38 [(0, .v true [.lit (.int .i64 p0.from_), .lit (.int .i64 p0.to_), .ro [.sc] (p0.lines.map rS)])], [], []⟩
def K_impl_GoodCues_33 : List Fr := []
def s_impl_GoodCues_33 : St :=
  ⟨mkSl 53 [], [], []⟩
def K_impl_GoodCues_15 : List Fr := [.lp [0, 8, 9, 10] c_impl_GoodCues_15, .bk 0, .sq (.kp [] c_impl_GoodCues_33)]
def s_impl_GoodCues_15 (p0 : (List S_Cue)) (i15_0 : Int) : St :=
  ⟨mkSl 53 [(0, .v false [.ro [.sc, .sc, .ro [.sc]] (p0.map rS_Cue)]), (8, .v false [.ro [.sc, .sc, .ro [.sc]] (p0.map rS_Cue)]), (9, .v false [.lit (.int .i64 (p0.length : Int))]), (10, .v false [.lit (.int .i64 i15_0)])], [], []⟩
def K_impl_GoodCues_0 : List Fr := []
def s_impl_GoodCues_0 (p0 : (List S_Cue)) : St :=
  ⟨mkSl 53 [(0, .v false [.ro [.sc, .sc, .ro [.sc]] (p0.map rS_Cue)])], [], []⟩
def K_impl_zfloor_7 : List Fr := [.sq c_impl_zfloor_10]
def s_impl_zfloor_7 (i7_0 : Int) (b7_1 : Bool) : St :=
  ⟨mkSl 23 [(5, .v false [.lit (.int .i64 i7_0)]), (19, .v false [.lit (.bool b7_1)])], [], []⟩
def K_impl_zfloor_0 : List Fr := []
def s_impl_zfloor_0 (p0 : Int) (p1 : Int) : St :=
  ⟨mkSl 23 [(0, .v false [.lit (.int .i64 p0)]), (1, .v false [.lit (.int .i64 p1)])], [], []⟩
def K_impl_Retime_37 : List Fr := []
def s_impl_Retime_37 (l37_0 : (List S_Cue)) : St :=
  ⟨mkSl 87 [(9, .v false [.ref 0 [] 0 l37_0.length])], [some ⟨[.sc, .sc, .own [.sc]], (List.map rS_Cue l37_0)⟩], []⟩
def K_impl_Retime_17 : List Fr := [.lp [1, 2, 3, 9, 41, 42, 43] c_impl_Retime_17, .bk 0, .sq (.kp [9] c_impl_Retime_37)]
def s_impl_Retime_17 (p1 : Int) (p2 : Int) (p3 : Int) (p0 : (List S_Cue)) (i17_0 : Int) (l17_1 : (List S_Cue)) : St :=
  ⟨mkSl 87 [(1, .v false [.lit (.int .i64 p1)]), (2, .v false [.lit (.int .i64 p2)]), (3, .v false [.lit (.int .i64 p3)]), (9, .v false [.ref 0 [] 0 l17_1.length]), (41, .v false [.ro [.sc, .sc, .ro [.sc]] (p0.map rS_Cue)]), (42, .v false [.lit (.int .i64 (p0.length : Int))]), (43, .v false [.lit (.int .i64 i17_0)])], [some ⟨[.sc, .sc, .own [.sc]], (List.map rS_Cue l17_1)⟩], []⟩
def K_impl_Retime_0 : List Fr := []
def s_impl_Retime_0 (p0 : (List S_Cue)) (p1 : Int) (p2 : Int) (p3 : Int) : St :=
  ⟨mkSl 87 [(0, .v false [.ro [.sc, .sc, .ro [.sc]] (p0.map rS_Cue)]), (1, .v false [.lit (.int .i64 p1)]), (2, .v false [.lit (.int .i64 p2)]), (3, .v false [.lit (.int .i64 p3)])], [], []⟩
def K_laws_eqStringS_31 : List Fr := []
def s_laws_eqStringS_31 : St :=
  ⟨mkSl 26 [], [], []⟩
def K_laws_eqStringS_15 : List Fr := [.lp [0, 1, 5] c_laws_eqStringS_15, .bk 0, .sq (.kp [] c_laws_eqStringS_31)]
def s_laws_eqStringS_15 (p0 : (List ByteArray)) (p1 : (List ByteArray)) (i15_0 : Int) : St :=
  ⟨mkSl 26 [(0, .v false [.ro [.sc] (p0.map rS)]), (1, .v false [.ro [.sc] (p1.map rS)]), (5, .v false [.lit (.int .i64 i15_0)])], [], []⟩
def K_laws_eqStringS_0 : List Fr := []
def s_laws_eqStringS_0 (p0 : (List ByteArray)) (p1 : (List ByteArray)) : St :=
  ⟨mkSl 26 [(0, .v false [.ro [.sc] (p0.map rS)]), (1, .v false [.ro [.sc] (p1.map rS)])], [], []⟩
def K_laws_eqCue_0 : List Fr := []
def s_laws_eqCue_0 (p0 : S_Cue) (p1 : S_Cue) : St :=
  ⟨mkSl 21 [(0, .v true [.lit (.int .i64 p0.from_), .lit (.int .i64 p0.to_), .ro [.sc] (p0.lines.map rS)]), (1, .v true [.lit (.int .i64 p1.from_), .lit (.int .i64 p1.to_), .ro [.sc] (p1.lines.map rS)])], [], []⟩
def K_laws_eqCueS_31 : List Fr := []
def s_laws_eqCueS_31 : St :=
  ⟨mkSl 27 [], [], []⟩
def K_laws_eqCueS_15 : List Fr := [.lp [0, 1, 5] c_laws_eqCueS_15, .bk 0, .sq (.kp [] c_laws_eqCueS_31)]
def s_laws_eqCueS_15 (p0 : (List S_Cue)) (p1 : (List S_Cue)) (i15_0 : Int) : St :=
  ⟨mkSl 27 [(0, .v false [.ro [.sc, .sc, .ro [.sc]] (p0.map rS_Cue)]), (1, .v false [.ro [.sc, .sc, .ro [.sc]] (p1.map rS_Cue)]), (5, .v false [.lit (.int .i64 i15_0)])], [], []⟩
def K_laws_eqCueS_0 : List Fr := []
def s_laws_eqCueS_0 (p0 : (List S_Cue)) (p1 : (List S_Cue)) : St :=
  ⟨mkSl 27 [(0, .v false [.ro [.sc, .sc, .ro [.sc]] (p0.map rS_Cue)]), (1, .v false [.ro [.sc, .sc, .ro [.sc]] (p1.map rS_Cue)])], [], []⟩
def K_laws_markText_25 : List Fr := []
def s_laws_markText_25 (l25_0 : ByteArray) : St :=
  ⟨mkSl 20 [(3, .v false [.lit (.string l25_0)])], [], []⟩
def K_laws_markText_15 : List Fr := [.lp [0, 3] c_laws_markText_15, .bk 0, .sq (.kp [3] c_laws_markText_25)]
def s_laws_markText_15 (i15_0 : Int) (l15_1 : ByteArray) : St :=
  ⟨mkSl 20 [(0, .v false [.lit (.int .i64 i15_0)]), (3, .v false [.lit (.string l15_1)])], [], []⟩
def K_laws_markText_0 : List Fr := []
def s_laws_markText_0 (p0 : Int) : St :=
  ⟨mkSl 20 [(0, .v false [.lit (.int .i64 p0)])], [], []⟩
def K_laws_markStringS_19 : List Fr := []
def s_laws_markStringS_19 (i19_0 : Int) (l19_1 : (List ByteArray)) : St :=
  ⟨mkSl 20 [(0, .v false [.ref 0 [] 0 l19_1.length]), (1, .v false [.lit (.int .i64 i19_0)])], [some ⟨[.sc], (List.map rS l19_1)⟩], []⟩
def K_laws_markStringS_7 : List Fr := [.lp [0, 1, 5] c_laws_markStringS_7, .bk 0, .sq (.kp [0, 1] c_laws_markStringS_19)]
def s_laws_markStringS_7 (i7_0 : Int) (i7_1 : Int) (l7_2 : (List ByteArray)) : St :=
  ⟨mkSl 20 [(0, .v false [.ref 0 [] 0 l7_2.length]), (1, .v false [.lit (.int .i64 i7_0)]), (5, .v false [.lit (.int .i64 i7_1)])], [some ⟨[.sc], (List.map rS l7_2)⟩], []⟩
def K_laws_markStringS_0 : List Fr := []
def s_laws_markStringS_0 (p1 : Int) (p0 : (List ByteArray)) : St :=
  ⟨mkSl 20 [(0, .v false [.ref 0 [] 0 p0.length]), (1, .v false [.lit (.int .i64 p1)])], [some ⟨[.sc], (List.map rS p0)⟩], []⟩
def K_laws_markCueS_25 : List Fr := []
def s_laws_markCueS_25 (i25_0 : Int) (l25_1 : (List S_Cue)) : St :=
  ⟨mkSl 34 [(0, .v false [.ref 0 [] 0 l25_1.length]), (1, .v false [.lit (.int .i64 i25_0)])], [some ⟨[.sc, .sc, .own [.sc]], (List.map rS_Cue l25_1)⟩], []⟩
def K_laws_markCueS_7 : List Fr := [.lp [0, 1, 5] c_laws_markCueS_7, .bk 0, .sq (.kp [0, 1] c_laws_markCueS_25)]
def s_laws_markCueS_7 (i7_0 : Int) (i7_1 : Int) (l7_2 : (List S_Cue)) : St :=
  ⟨mkSl 34 [(0, .v false [.ref 0 [] 0 l7_2.length]), (1, .v false [.lit (.int .i64 i7_0)]), (5, .v false [.lit (.int .i64 i7_1)])], [some ⟨[.sc, .sc, .own [.sc]], (List.map rS_Cue l7_2)⟩], []⟩
def K_laws_markCueS_0 : List Fr := []
def s_laws_markCueS_0 (p1 : Int) (p0 : (List S_Cue)) : St :=
  ⟨mkSl 34 [(0, .v false [.ref 0 [] 0 p0.length]), (1, .v false [.lit (.int .i64 p1)])], [some ⟨[.sc, .sc, .own [.sc]], (List.map rS_Cue p0)⟩], []⟩
def K_laws_heldStringS_25 : List Fr := []
def s_laws_heldStringS_25 (i25_0 : Int) : St :=
  ⟨mkSl 22 [(1, .v false [.lit (.int .i64 i25_0)])], [], []⟩
def K_laws_heldStringS_7 : List Fr := [.lp [0, 1, 5] c_laws_heldStringS_7, .bk 0, .sq (.kp [1] c_laws_heldStringS_25)]
def s_laws_heldStringS_7 (p0 : (List ByteArray)) (i7_0 : Int) (i7_1 : Int) : St :=
  ⟨mkSl 22 [(0, .v false [.ro [.sc] (p0.map rS)]), (1, .v false [.lit (.int .i64 i7_0)]), (5, .v false [.lit (.int .i64 i7_1)])], [], []⟩
def K_laws_heldStringS_0 : List Fr := []
def s_laws_heldStringS_0 (p0 : (List ByteArray)) (p1 : Int) : St :=
  ⟨mkSl 22 [(0, .v false [.ro [.sc] (p0.map rS)]), (1, .v false [.lit (.int .i64 p1)])], [], []⟩
def K_laws_heldCueS_45 : List Fr := []
def s_laws_heldCueS_45 (i45_0 : Int) : St :=
  ⟨mkSl 40 [(1, .v false [.lit (.int .i64 i45_0)])], [], []⟩
def K_laws_heldCueS_7 : List Fr := [.lp [0, 1, 5] c_laws_heldCueS_7, .bk 0, .sq (.kp [1] c_laws_heldCueS_45)]
def s_laws_heldCueS_7 (p0 : (List S_Cue)) (i7_0 : Int) (i7_1 : Int) : St :=
  ⟨mkSl 40 [(0, .v false [.ro [.sc, .sc, .ro [.sc]] (p0.map rS_Cue)]), (1, .v false [.lit (.int .i64 i7_0)]), (5, .v false [.lit (.int .i64 i7_1)])], [], []⟩
def K_laws_heldCueS_0 : List Fr := []
def s_laws_heldCueS_0 (p0 : (List S_Cue)) (p1 : Int) : St :=
  ⟨mkSl 40 [(0, .v false [.ro [.sc, .sc, .ro [.sc]] (p0.map rS_Cue)]), (1, .v false [.lit (.int .i64 p1)])], [], []⟩
def K_laws_FnExactRetime_0 : List Fr := []
def s_laws_FnExactRetime_0 (p0 : (List S_Cue)) (p1 : Int) (p2 : Int) (p3 : Int) : St :=
  ⟨mkSl 84 [(0, .v false [.ro [.sc, .sc, .ro [.sc]] (p0.map rS_Cue)]), (1, .v false [.lit (.int .i64 p1)]), (2, .v false [.lit (.int .i64 p2)]), (3, .v false [.lit (.int .i64 p3)])], [], []⟩
def O_laws_szStringS_17 (Q : VX → St → Prop) (e : (Int) ⊕ ((Int))) : Prop := match e with | .inl e => Q = Post vf_laws_szStringS (res_laws_szStringS e) | .inr e => EvU ext tbl (.c c_laws_szStringS_35) K_laws_szStringS_35 (s_laws_szStringS_35 e) Q
theorem ok_laws_szStringS_35 (i35_0 : Int) (r : Int) (hm : m_laws_szStringS_35 i35_0 = some r) : EvU ext tbl (.c c_laws_szStringS_35) K_laws_szStringS_35 (s_laws_szStringS_35 i35_0) (Post vf_laws_szStringS (res_laws_szStringS r)) := by
  exact go_end [] 1000 True.intro (congrArg res_laws_szStringS (Option.some.inj hm)) (by kernel_rfl)

theorem ok_laws_szStringS_17 (p0 : (List ByteArray)) (i17_0 : Int) (i17_1 : Int) (y : (Int × Int) ⊕ ((Int) ⊕ ((Int)))) (hm : m_laws_szStringS_17 p0 i17_0 i17_1 = some y) (Q : VX → St → Prop)
    (hin : ∀ s, y = .inl s → EvU ext tbl (.c c_laws_szStringS_17) K_laws_szStringS_17 (s_laws_szStringS_17 p0 s.1 s.2) Q) (hout : ∀ e, y = .inr e → O_laws_szStringS_17 Q e) : EvU ext tbl (.c c_laws_szStringS_17) K_laws_szStringS_17 (s_laws_szStringS_17 p0 i17_0 i17_1) Q := by
  obtain ⟨h17_0, hm⟩ | ⟨h17_0, hm⟩ := split_ite hm
  · skip
    obtain ⟨x17_1, h17_1, hm⟩ := bind_some hm
    obtain ⟨h17_2, hm⟩ | ⟨h17_2, hm⟩ := split_ite hm
    · skip
      have hQ : Q = Post vf_laws_szStringS (res_laws_szStringS (-1)) := hout (.inl (-1)) (Option.some.inj hm).symm
      subst hQ
      exact go_end [.num p0.length, .bit true, .row (rS x17_1), .bit true] 1000 (And.intro (len_map rS (show p0.length = p0.length from rfl)) (And.intro h17_0 (And.intro (rd_nn h17_1) (And.intro (at_row rS (rd_get h17_1)) (And.intro h17_2 True.intro))))) (rfl : res_laws_szStringS (-1) = res_laws_szStringS (-1)) (by kernel_rfl)
    · skip
      refine go_on (u' := .c c_laws_szStringS_17) (K' := K_laws_szStringS_17) (st' := s_laws_szStringS_17 p0 (w64 (i17_0 - (x17_1.size : Int))) (w64 (i17_1 + 1))) [.num p0.length, .bit true, .row (rS x17_1), .bit false] 1000 (And.intro (len_map rS (show p0.length = p0.length from rfl)) (And.intro h17_0 (And.intro (rd_nn h17_1) (And.intro (at_row rS (rd_get h17_1)) (And.intro h17_2 True.intro))))) ?_ (by kernel_rfl)
      exact hin ((w64 (i17_0 - (x17_1.size : Int))), (w64 (i17_1 + 1))) (Option.some.inj hm).symm
  · skip
    refine go_on (u' := .c c_laws_szStringS_35) (K' := K_laws_szStringS_35) (st' := s_laws_szStringS_35 i17_0) [.num p0.length, .bit false] 1000 (And.intro (len_map rS (show p0.length = p0.length from rfl)) (And.intro h17_0 True.intro)) ?_ (by kernel_rfl)
    exact hout (.inr i17_0) (Option.some.inj hm).symm

theorem ok_laws_szStringS_0 (p0 : (List ByteArray)) (p1 : Int) (r : Int) (hm : m_laws_szStringS_0 p0 p1 = some r) : EvU ext tbl (.c c_laws_szStringS_0) K_laws_szStringS_0 (s_laws_szStringS_0 p0 p1) (Post vf_laws_szStringS (res_laws_szStringS r)) := by
  obtain ⟨h0_0, hm⟩ | ⟨h0_0, hm⟩ := split_ite hm
  · skip
    exact go_end [.num p0.length, .bit true] 1000 (And.intro (len_map rS (show p0.length = p0.length from rfl)) (And.intro h0_0 True.intro)) (congrArg res_laws_szStringS (Option.some.inj hm)) (by kernel_rfl)
  · skip
    refine go_on (u' := .c c_laws_szStringS_17) (K' := K_laws_szStringS_17) (st' := s_laws_szStringS_17 p0 (w64 (p1 - (p0.length : Int))) 0) [.num p0.length, .bit false] 1000 (And.intro (len_map rS (show p0.length = p0.length from rfl)) (And.intro h0_0 True.intro)) ?_ (by kernel_rfl)
    obtain ⟨e, he, hm⟩ := bind_some hm
    refine loop_rule (u := .c c_laws_szStringS_17) (K := K_laws_szStringS_17) (Q := (Post vf_laws_szStringS (res_laws_szStringS r))) (b := lp_laws_szStringS_17 p0) (We := O_laws_szStringS_17 (Post vf_laws_szStringS (res_laws_szStringS r))) (stJ := fun s => s_laws_szStringS_17 p0 s.1 s.2) (s := ((w64 (p1 - (p0.length : Int))), 0)) (fun s y hb hin hout => ok_laws_szStringS_17 p0 s.1 s.2 y hb (Post vf_laws_szStringS (res_laws_szStringS r)) hin hout) he ?_
    rcases e with e | e
    · skip
      exact congrArg (fun r => Post vf_laws_szStringS (res_laws_szStringS r)) (Option.some.inj hm).symm
    · skip
      show EvU ext tbl (.c c_laws_szStringS_35) K_laws_szStringS_35 (s_laws_szStringS_35 e) _
      exact ok_laws_szStringS_35 e r hm

theorem ok_laws_szStringS (p0 : (List ByteArray)) (p1 : Int) (r : Int) (hm : m_laws_szStringS p0 p1 = some r) : Runs ext tbl 45 (as_laws_szStringS p0 p1) (res_laws_szStringS r) :=
  runs_of (vf := vf_laws_szStringS) (by kernel_rfl) rfl (st := (enter vf_laws_szStringS (as_laws_szStringS p0 p1)).getD default) (by kernel_rfl) (go_on [] 1000 True.intro (ok_laws_szStringS_0 p0 p1 r hm) (by kernel_rfl))
theorem ok_laws_szCue_0 (p0 : S_Cue) (p1 : Int) (r : Int) (hm : m_laws_szCue_0 p0 p1 = some r) : EvU ext tbl (.c c_laws_szCue_0) K_laws_szCue_0 (s_laws_szCue_0 p0 p1) (Post vf_laws_szCue (res_laws_szCue r)) := by
  obtain ⟨x0_0, h0_0, hm⟩ := bind_some hm
  obtain ⟨h0_1, hm⟩ | ⟨h0_1, hm⟩ := split_ite hm
  · skip
    exact go_end [.res (res_laws_szStringS x0_0), .bit true] 1000 (And.intro (ok_laws_szStringS p0.lines p1 x0_0 h0_0) (And.intro h0_1 True.intro)) (congrArg res_laws_szCue (Option.some.inj hm)) (by kernel_rfl)
  · skip
    exact go_end [.res (res_laws_szStringS x0_0), .bit false] 1000 (And.intro (ok_laws_szStringS p0.lines p1 x0_0 h0_0) (And.intro h0_1 True.intro)) (congrArg res_laws_szCue (Option.some.inj hm)) (by kernel_rfl)

theorem ok_laws_szCue (p0 : S_Cue) (p1 : Int) (r : Int) (hm : m_laws_szCue p0 p1 = some r) : Runs ext tbl 32 (as_laws_szCue p0 p1) (res_laws_szCue r) :=
  runs_of (vf := vf_laws_szCue) (by kernel_rfl) rfl (st := (enter vf_laws_szCue (as_laws_szCue p0 p1)).getD default) (by kernel_rfl) (go_on [] 1000 True.intro (ok_laws_szCue_0 p0 p1 r hm) (by kernel_rfl))
def O_laws_szCueS_17 (Q : VX → St → Prop) (e : (Int) ⊕ ((Int))) : Prop := match e with | .inl e => Q = Post vf_laws_szCueS (res_laws_szCueS e) | .inr e => EvU ext tbl (.c c_laws_szCueS_35) K_laws_szCueS_35 (s_laws_szCueS_35 e) Q
theorem ok_laws_szCueS_35 (i35_0 : Int) (r : Int) (hm : m_laws_szCueS_35 i35_0 = some r) : EvU ext tbl (.c c_laws_szCueS_35) K_laws_szCueS_35 (s_laws_szCueS_35 i35_0) (Post vf_laws_szCueS (res_laws_szCueS r)) := by
  exact go_end [] 1000 True.intro (congrArg res_laws_szCueS (Option.some.inj hm)) (by kernel_rfl)

theorem ok_laws_szCueS_17 (p0 : (List S_Cue)) (i17_0 : Int) (i17_1 : Int) (y : (Int × Int) ⊕ ((Int) ⊕ ((Int)))) (hm : m_laws_szCueS_17 p0 i17_0 i17_1 = some y) (Q : VX → St → Prop)
    (hin : ∀ s, y = .inl s → EvU ext tbl (.c c_laws_szCueS_17) K_laws_szCueS_17 (s_laws_szCueS_17 p0 s.1 s.2) Q) (hout : ∀ e, y = .inr e → O_laws_szCueS_17 Q e) : EvU ext tbl (.c c_laws_szCueS_17) K_laws_szCueS_17 (s_laws_szCueS_17 p0 i17_0 i17_1) Q := by
  obtain ⟨h17_0, hm⟩ | ⟨h17_0, hm⟩ := split_ite hm
  · skip
    obtain ⟨x17_1, h17_1, hm⟩ := bind_some hm
    obtain ⟨x17_2, h17_2, hm⟩ := bind_some hm
    obtain ⟨h17_3, hm⟩ | ⟨h17_3, hm⟩ := split_ite hm
    · skip
      have hQ : Q = Post vf_laws_szCueS (res_laws_szCueS (-1)) := hout (.inl (-1)) (Option.some.inj hm).symm
      subst hQ
      exact go_end [.num p0.length, .bit true, .row (rS_Cue x17_1), .res (res_laws_szCue x17_2), .bit true] 1000 (And.intro (len_map rS_Cue (show p0.length = p0.length from rfl)) (And.intro h17_0 (And.intro (rd_nn h17_1) (And.intro (at_row rS_Cue (rd_get h17_1)) (And.intro (ok_laws_szCue x17_1 i17_0 x17_2 h17_2) (And.intro h17_3 True.intro)))))) (rfl : res_laws_szCueS (-1) = res_laws_szCueS (-1)) (by kernel_rfl)
    · skip
      refine go_on (u' := .c c_laws_szCueS_17) (K' := K_laws_szCueS_17) (st' := s_laws_szCueS_17 p0 x17_2 (w64 (i17_1 + 1))) [.num p0.length, .bit true, .row (rS_Cue x17_1), .res (res_laws_szCue x17_2), .bit false] 1000 (And.intro (len_map rS_Cue (show p0.length = p0.length from rfl)) (And.intro h17_0 (And.intro (rd_nn h17_1) (And.intro (at_row rS_Cue (rd_get h17_1)) (And.intro (ok_laws_szCue x17_1 i17_0 x17_2 h17_2) (And.intro h17_3 True.intro)))))) ?_ (by kernel_rfl)
      exact hin (x17_2, (w64 (i17_1 + 1))) (Option.some.inj hm).symm
  · skip
    refine go_on (u' := .c c_laws_szCueS_35) (K' := K_laws_szCueS_35) (st' := s_laws_szCueS_35 i17_0) [.num p0.length, .bit false] 1000 (And.intro (len_map rS_Cue (show p0.length = p0.length from rfl)) (And.intro h17_0 True.intro)) ?_ (by kernel_rfl)
    exact hout (.inr i17_0) (Option.some.inj hm).symm

theorem ok_laws_szCueS_0 (p0 : (List S_Cue)) (p1 : Int) (r : Int) (hm : m_laws_szCueS_0 p0 p1 = some r) : EvU ext tbl (.c c_laws_szCueS_0) K_laws_szCueS_0 (s_laws_szCueS_0 p0 p1) (Post vf_laws_szCueS (res_laws_szCueS r)) := by
  obtain ⟨h0_0, hm⟩ | ⟨h0_0, hm⟩ := split_ite hm
  · skip
    exact go_end [.num p0.length, .bit true] 1000 (And.intro (len_map rS_Cue (show p0.length = p0.length from rfl)) (And.intro h0_0 True.intro)) (congrArg res_laws_szCueS (Option.some.inj hm)) (by kernel_rfl)
  · skip
    refine go_on (u' := .c c_laws_szCueS_17) (K' := K_laws_szCueS_17) (st' := s_laws_szCueS_17 p0 (w64 (p1 - (p0.length : Int))) 0) [.num p0.length, .bit false] 1000 (And.intro (len_map rS_Cue (show p0.length = p0.length from rfl)) (And.intro h0_0 True.intro)) ?_ (by kernel_rfl)
    obtain ⟨e, he, hm⟩ := bind_some hm
    refine loop_rule (u := .c c_laws_szCueS_17) (K := K_laws_szCueS_17) (Q := (Post vf_laws_szCueS (res_laws_szCueS r))) (b := lp_laws_szCueS_17 p0) (We := O_laws_szCueS_17 (Post vf_laws_szCueS (res_laws_szCueS r))) (stJ := fun s => s_laws_szCueS_17 p0 s.1 s.2) (s := ((w64 (p1 - (p0.length : Int))), 0)) (fun s y hb hin hout => ok_laws_szCueS_17 p0 s.1 s.2 y hb (Post vf_laws_szCueS (res_laws_szCueS r)) hin hout) he ?_
    rcases e with e | e
    · skip
      exact congrArg (fun r => Post vf_laws_szCueS (res_laws_szCueS r)) (Option.some.inj hm).symm
    · skip
      show EvU ext tbl (.c c_laws_szCueS_35) K_laws_szCueS_35 (s_laws_szCueS_35 e) _
      exact ok_laws_szCueS_35 e r hm

theorem ok_laws_szCueS (p0 : (List S_Cue)) (p1 : Int) (r : Int) (hm : m_laws_szCueS p0 p1 = some r) : Runs ext tbl 12 (as_laws_szCueS p0 p1) (res_laws_szCueS r) :=
  runs_of (vf := vf_laws_szCueS) (by kernel_rfl) rfl (st := (enter vf_laws_szCueS (as_laws_szCueS p0 p1)).getD default) (by kernel_rfl) (go_on [] 1000 True.intro (ok_laws_szCueS_0 p0 p1 r hm) (by kernel_rfl))
def O_laws_toStringS_9 (Q : VX → St → Prop) (e : ((List ByteArray))) : Prop := EvU ext tbl (.c c_laws_toStringS_19) K_laws_toStringS_19 (s_laws_toStringS_19 e) Q
theorem ok_laws_toStringS_19 (l19_0 : (List ByteArray)) (r : (List ByteArray)) (hm : m_laws_toStringS_19 l19_0 = some r) : EvU ext tbl (.c c_laws_toStringS_19) K_laws_toStringS_19 (s_laws_toStringS_19 l19_0) (Post vf_laws_toStringS (res_laws_toStringS r)) := by
  exact go_end [.rows (List.map rS l19_0)] 1000 (And.intro (all_le0 rS l19_0 rfl) (And.intro (all_t rS l19_0 rfl) True.intro)) (congrArg res_laws_toStringS (Option.some.inj hm)) (by kernel_rfl)

theorem ok_laws_toStringS_9 (p0 : (List ByteArray)) (i9_0 : Int) (l9_1 : (List ByteArray)) (y : (Int × (List ByteArray)) ⊕ (((List ByteArray)))) (hm : m_laws_toStringS_9 p0 i9_0 l9_1 = some y) (Q : VX → St → Prop)
    (hin : ∀ s, y = .inl s → EvU ext tbl (.c c_laws_toStringS_9) K_laws_toStringS_9 (s_laws_toStringS_9 p0 s.1 s.2) Q) (hout : ∀ e, y = .inr e → O_laws_toStringS_9 Q e) : EvU ext tbl (.c c_laws_toStringS_9) K_laws_toStringS_9 (s_laws_toStringS_9 p0 i9_0 l9_1) Q := by
  obtain ⟨h9_0, hm⟩ | ⟨h9_0, hm⟩ := split_ite hm
  · skip
    obtain ⟨x9_1, h9_1, hm⟩ := bind_some hm
    obtain ⟨x9_2, h9_2, hm⟩ := bind_some hm
    refine go_on (u' := .c c_laws_toStringS_9) (K' := K_laws_toStringS_9) (st' := s_laws_toStringS_9 p0 (w64 (i9_0 + 1)) (l9_1.set (0 + Int.toNat i9_0) x9_1)) [.num p0.length, .bit true, .row (rS x9_1), .rows (List.map rS (l9_1.set (0 + Int.toNat i9_0) x9_1)), .num ((l9_1.set (0 + Int.toNat i9_0) x9_1).length)] 1000 (And.intro (len_map rS (show p0.length = p0.length from rfl)) (And.intro h9_0 (And.intro (rd_nn h9_1) (And.intro (at_row rS (rd_get h9_1)) (And.intro (rd_in rfl h9_2) (And.intro (put_ob rS x9_1 0 (.lit (.string x9_1)) (rd_get0 h9_2) (by kernel_rfl) (by kernel_rfl)) (And.intro (lens l9_1.length ((l9_1.set (0 + Int.toNat i9_0) x9_1).length) (set_len rfl)) True.intro))))))) ?_ (by kernel_rfl)
    exact hin ((w64 (i9_0 + 1)), (l9_1.set (0 + Int.toNat i9_0) x9_1)) (Option.some.inj hm).symm
  · skip
    refine go_on (u' := .c c_laws_toStringS_19) (K' := K_laws_toStringS_19) (st' := s_laws_toStringS_19 l9_1) [.num p0.length, .bit false, .num l9_1.length] 1000 (And.intro (len_map rS (show p0.length = p0.length from rfl)) (And.intro h9_0 (And.intro (lens l9_1.length l9_1.length rfl) True.intro))) ?_ (by kernel_rfl)
    exact hout l9_1 (Option.some.inj hm).symm

theorem ok_laws_toStringS_0 (p0 : (List ByteArray)) (r : (List ByteArray)) (hm : m_laws_toStringS_0 p0 = some r) : EvU ext tbl (.c c_laws_toStringS_0) K_laws_toStringS_0 (s_laws_toStringS_0 p0) (Post vf_laws_toStringS (res_laws_toStringS r)) := by
  obtain ⟨x0_0, h0_0, hm⟩ := bind_some hm
  refine go_on (u' := .c c_laws_toStringS_9) (K' := K_laws_toStringS_9) (st' := s_laws_toStringS_9 p0 0 (List.replicate (Int.toNat (p0.length : Int)) ((ByteArray.mk #[]) : ByteArray))) [.num p0.length, .rows (List.map rS (List.replicate (Int.toNat (p0.length : Int)) ((ByteArray.mk #[]) : ByteArray))), .num (Int.toNat (p0.length : Int)), .num ((List.replicate (Int.toNat (p0.length : Int)) ((ByteArray.mk #[]) : ByteArray)).length)] 1000 (And.intro (len_map rS (show p0.length = p0.length from rfl)) (And.intro (ck_p h0_0) (And.intro (rep_ob rS (Int.toNat (p0.length : Int)) ((ByteArray.mk #[]) : ByteArray) [.lit (.string (ByteArray.mk #[]))] (by kernel_rfl)) (And.intro (len_map rS (show (Int.toNat (p0.length : Int)) = (List.replicate (Int.toNat (p0.length : Int)) ((ByteArray.mk #[]) : ByteArray)).length from (rep_len (Int.toNat (p0.length : Int)) ((ByteArray.mk #[]) : ByteArray)))) (And.intro (lens (Int.toNat (p0.length : Int)) ((List.replicate (Int.toNat (p0.length : Int)) ((ByteArray.mk #[]) : ByteArray)).length) (rep_len (Int.toNat (p0.length : Int)) ((ByteArray.mk #[]) : ByteArray))) True.intro))))) ?_ (by kernel_rfl)
  obtain ⟨e, he, hm⟩ := bind_some hm
  refine loop_rule (u := .c c_laws_toStringS_9) (K := K_laws_toStringS_9) (Q := (Post vf_laws_toStringS (res_laws_toStringS r))) (b := lp_laws_toStringS_9 p0) (We := O_laws_toStringS_9 (Post vf_laws_toStringS (res_laws_toStringS r))) (stJ := fun s => s_laws_toStringS_9 p0 s.1 s.2) (s := (0, (List.replicate (Int.toNat (p0.length : Int)) ((ByteArray.mk #[]) : ByteArray)))) (fun s y hb hin hout => ok_laws_toStringS_9 p0 s.1 s.2 y hb (Post vf_laws_toStringS (res_laws_toStringS r)) hin hout) he ?_
  show EvU ext tbl (.c c_laws_toStringS_19) K_laws_toStringS_19 (s_laws_toStringS_19 e) _
  exact ok_laws_toStringS_19 e r hm

theorem ok_laws_toStringS (p0 : (List ByteArray)) (r : (List ByteArray)) (hm : m_laws_toStringS p0 = some r) : Runs ext tbl 46 (as_laws_toStringS p0) (res_laws_toStringS r) :=
  runs_of (vf := vf_laws_toStringS) (by kernel_rfl) rfl (st := (enter vf_laws_toStringS (as_laws_toStringS p0)).getD default) (by kernel_rfl) (go_on [] 1000 True.intro (ok_laws_toStringS_0 p0 r hm) (by kernel_rfl))
theorem ok_laws_toCue_0 (p0 : S_Cue) (r : S_Cue) (hm : m_laws_toCue_0 p0 = some r) : EvU ext tbl (.c c_laws_toCue_0) K_laws_toCue_0 (s_laws_toCue_0 p0) (Post vf_laws_toCue (res_laws_toCue r)) := by
  obtain ⟨x0_0, h0_0, hm⟩ := bind_some hm
  exact go_end [.res (res_laws_toStringS x0_0), .num x0_0.length, .rows (List.map rS x0_0)] 1000 (And.intro (ok_laws_toStringS p0.lines x0_0 h0_0) (And.intro (len_map rS (show x0_0.length = x0_0.length from rfl)) (And.intro (all_le0 rS x0_0 rfl) (And.intro (all_t rS x0_0 rfl) True.intro)))) (congrArg res_laws_toCue (Option.some.inj hm)) (by kernel_rfl)

theorem ok_laws_toCue (p0 : S_Cue) (r : S_Cue) (hm : m_laws_toCue p0 = some r) : Runs ext tbl 34 (as_laws_toCue p0) (res_laws_toCue r) :=
  runs_of (vf := vf_laws_toCue) (by kernel_rfl) rfl (st := (enter vf_laws_toCue (as_laws_toCue p0)).getD default) (by kernel_rfl) (go_on [] 1000 True.intro (ok_laws_toCue_0 p0 r hm) (by kernel_rfl))
def O_laws_toCueS_9 (Q : VX → St → Prop) (e : ((List S_Cue))) : Prop := EvU ext tbl (.c c_laws_toCueS_19) K_laws_toCueS_19 (s_laws_toCueS_19 e) Q
theorem ok_laws_toCueS_19 (l19_0 : (List S_Cue)) (r : (List S_Cue)) (hm : m_laws_toCueS_19 l19_0 = some r) : EvU ext tbl (.c c_laws_toCueS_19) K_laws_toCueS_19 (s_laws_toCueS_19 l19_0) (Post vf_laws_toCueS (res_laws_toCueS r)) := by
  exact go_end [.rows (List.map rS_Cue l19_0)] 1000 (And.intro (all_le0 rS_Cue l19_0 rfl) (And.intro (all_t rS_Cue l19_0 rfl) True.intro)) (congrArg res_laws_toCueS (Option.some.inj hm)) (by kernel_rfl)

theorem ok_laws_toCueS_9 (p0 : (List S_Cue)) (i9_0 : Int) (l9_1 : (List S_Cue)) (y : (Int × (List S_Cue)) ⊕ (((List S_Cue)))) (hm : m_laws_toCueS_9 p0 i9_0 l9_1 = some y) (Q : VX → St → Prop)
    (hin : ∀ s, y = .inl s → EvU ext tbl (.c c_laws_toCueS_9) K_laws_toCueS_9 (s_laws_toCueS_9 p0 s.1 s.2) Q) (hout : ∀ e, y = .inr e → O_laws_toCueS_9 Q e) : EvU ext tbl (.c c_laws_toCueS_9) K_laws_toCueS_9 (s_laws_toCueS_9 p0 i9_0 l9_1) Q := by
  obtain ⟨h9_0, hm⟩ | ⟨h9_0, hm⟩ := split_ite hm
  · skip
    obtain ⟨x9_1, h9_1, hm⟩ := bind_some hm
    obtain ⟨x9_2, h9_2, hm⟩ := bind_some hm
    obtain ⟨x9_3, h9_3, hm⟩ := bind_some hm
    refine go_on (u' := .c c_laws_toCueS_9) (K' := K_laws_toCueS_9) (st' := s_laws_toCueS_9 p0 (w64 (i9_0 + 1)) (l9_1.set (0 + Int.toNat i9_0) x9_2)) [.num p0.length, .bit true, .row (rS_Cue x9_1), .res (res_laws_toCue x9_2), .num x9_2.lines.length, .rows (List.map rS_Cue (l9_1.set (0 + Int.toNat i9_0) (S_Cue.mk x9_2.from_ x9_3.to_ x9_3.lines))), .rows (List.map rS_Cue (l9_1.set (0 + Int.toNat i9_0) (S_Cue.mk x9_2.from_ x9_2.to_ x9_3.lines))), .rows (List.map rS x9_2.lines), .rows (List.map rS_Cue (l9_1.set (0 + Int.toNat i9_0) x9_2)), .num ((l9_1.set (0 + Int.toNat i9_0) x9_2).length)] 1000 (And.intro (len_map rS_Cue (show p0.length = p0.length from rfl)) (And.intro h9_0 (And.intro (rd_nn h9_1) (And.intro (at_row rS_Cue (rd_get h9_1)) (And.intro (ok_laws_toCue x9_1 x9_2 h9_2) (And.intro (len_map rS (show x9_2.lines.length = x9_2.lines.length from rfl)) (And.intro (rd_in rfl h9_3) (And.intro (put_ob rS_Cue (S_Cue.mk x9_2.from_ x9_3.to_ x9_3.lines) 0 (.lit (.int .i64 x9_2.from_)) (rd_get0 h9_3) (by kernel_rfl) (by kernel_rfl)) (And.intro (put_ob2 rS_Cue (S_Cue.mk x9_2.from_ x9_2.to_ x9_3.lines) 1 (.lit (.int .i64 x9_2.to_)) (set_at (S_Cue.mk x9_2.from_ x9_3.to_ x9_3.lines) (rd_get0 h9_3)) (by kernel_rfl) (by kernel_rfl)) (And.intro (all_le0 rS x9_2.lines rfl) (And.intro (all_t rS x9_2.lines rfl) (And.intro (put_ob2 rS_Cue x9_2 2 (.sl (x9_2.lines.map rS)) (set_at2 (S_Cue.mk x9_2.from_ x9_2.to_ x9_3.lines) (set_at (S_Cue.mk x9_2.from_ x9_3.to_ x9_3.lines) (rd_get0 h9_3))) (by kernel_rfl) (by kernel_rfl)) (And.intro (lens l9_1.length ((l9_1.set (0 + Int.toNat i9_0) x9_2).length) (set_len rfl)) True.intro))))))))))))) ?_ (by kernel_rfl)
    exact hin ((w64 (i9_0 + 1)), (l9_1.set (0 + Int.toNat i9_0) x9_2)) (Option.some.inj hm).symm
  · skip
    refine go_on (u' := .c c_laws_toCueS_19) (K' := K_laws_toCueS_19) (st' := s_laws_toCueS_19 l9_1) [.num p0.length, .bit false, .num l9_1.length] 1000 (And.intro (len_map rS_Cue (show p0.length = p0.length from rfl)) (And.intro h9_0 (And.intro (lens l9_1.length l9_1.length rfl) True.intro))) ?_ (by kernel_rfl)
    exact hout l9_1 (Option.some.inj hm).symm

theorem ok_laws_toCueS_0 (p0 : (List S_Cue)) (r : (List S_Cue)) (hm : m_laws_toCueS_0 p0 = some r) : EvU ext tbl (.c c_laws_toCueS_0) K_laws_toCueS_0 (s_laws_toCueS_0 p0) (Post vf_laws_toCueS (res_laws_toCueS r)) := by
  obtain ⟨x0_0, h0_0, hm⟩ := bind_some hm
  refine go_on (u' := .c c_laws_toCueS_9) (K' := K_laws_toCueS_9) (st' := s_laws_toCueS_9 p0 0 (List.replicate (Int.toNat (p0.length : Int)) ((S_Cue.mk 0 0 []) : S_Cue))) [.num p0.length, .rows (List.map rS_Cue (List.replicate (Int.toNat (p0.length : Int)) ((S_Cue.mk 0 0 []) : S_Cue))), .num (Int.toNat (p0.length : Int)), .num ((List.replicate (Int.toNat (p0.length : Int)) ((S_Cue.mk 0 0 []) : S_Cue)).length)] 1000 (And.intro (len_map rS_Cue (show p0.length = p0.length from rfl)) (And.intro (ck_p h0_0) (And.intro (rep_ob rS_Cue (Int.toNat (p0.length : Int)) ((S_Cue.mk 0 0 []) : S_Cue) [.lit (.int .i64 0), .lit (.int .i64 0), .sl []] (by kernel_rfl)) (And.intro (len_map rS_Cue (show (Int.toNat (p0.length : Int)) = (List.replicate (Int.toNat (p0.length : Int)) ((S_Cue.mk 0 0 []) : S_Cue)).length from (rep_len (Int.toNat (p0.length : Int)) ((S_Cue.mk 0 0 []) : S_Cue)))) (And.intro (lens (Int.toNat (p0.length : Int)) ((List.replicate (Int.toNat (p0.length : Int)) ((S_Cue.mk 0 0 []) : S_Cue)).length) (rep_len (Int.toNat (p0.length : Int)) ((S_Cue.mk 0 0 []) : S_Cue))) True.intro))))) ?_ (by kernel_rfl)
  obtain ⟨e, he, hm⟩ := bind_some hm
  refine loop_rule (u := .c c_laws_toCueS_9) (K := K_laws_toCueS_9) (Q := (Post vf_laws_toCueS (res_laws_toCueS r))) (b := lp_laws_toCueS_9 p0) (We := O_laws_toCueS_9 (Post vf_laws_toCueS (res_laws_toCueS r))) (stJ := fun s => s_laws_toCueS_9 p0 s.1 s.2) (s := (0, (List.replicate (Int.toNat (p0.length : Int)) ((S_Cue.mk 0 0 []) : S_Cue)))) (fun s y hb hin hout => ok_laws_toCueS_9 p0 s.1 s.2 y hb (Post vf_laws_toCueS (res_laws_toCueS r)) hin hout) he ?_
  show EvU ext tbl (.c c_laws_toCueS_19) K_laws_toCueS_19 (s_laws_toCueS_19 e) _
  exact ok_laws_toCueS_19 e r hm

theorem ok_laws_toCueS (p0 : (List S_Cue)) (r : (List S_Cue)) (hm : m_laws_toCueS p0 = some r) : Runs ext tbl 14 (as_laws_toCueS p0) (res_laws_toCueS r) :=
  runs_of (vf := vf_laws_toCueS) (by kernel_rfl) rfl (st := (enter vf_laws_toCueS (as_laws_toCueS p0)).getD default) (by kernel_rfl) (go_on [] 1000 True.intro (ok_laws_toCueS_0 p0 r hm) (by kernel_rfl))
theorem ok_spec_l15Time_0 (p0 : Int) (r : Bool) (hm : m_spec_l15Time_0 p0 = some r) : EvU ext tbl (.c c_spec_l15Time_0) K_spec_l15Time_0 (s_spec_l15Time_0 p0) (Post vf_spec_l15Time (res_spec_l15Time r)) := by
  obtain ⟨h0_0, hm⟩ | ⟨h0_0, hm⟩ := split_ite hm
  · skip
    exact go_end [.bit true, .bit true, .bit true] 1000 (And.intro h0_0 (And.intro h0_0 (And.intro h0_0 True.intro))) (congrArg res_spec_l15Time (Option.some.inj hm)) (by kernel_rfl)
  · skip
    exact go_end [.bit false, .bit false, .bit false] 1000 (And.intro h0_0 (And.intro h0_0 (And.intro h0_0 True.intro))) (congrArg res_spec_l15Time (Option.some.inj hm)) (by kernel_rfl)

theorem ok_spec_l15Time (p0 : Int) (r : Bool) (hm : m_spec_l15Time p0 = some r) : Runs ext tbl 33 (as_spec_l15Time p0) (res_spec_l15Time r) :=
  runs_of (vf := vf_spec_l15Time) (by kernel_rfl) rfl (st := (enter vf_spec_l15Time (as_spec_l15Time p0)).getD default) (by kernel_rfl) (go_on [] 1000 True.intro (ok_spec_l15Time_0 p0 r hm) (by kernel_rfl))
def O_spec_l15Bytes_7 (Q : VX → St → Prop) (e : (Bool) ⊕ ((Unit))) : Prop := match e with | .inl e => Q = Post vf_spec_l15Bytes (res_spec_l15Bytes e) | .inr e => EvU ext tbl (.c c_spec_l15Bytes_23) K_spec_l15Bytes_23 (s_spec_l15Bytes_23) Q
theorem ok_spec_l15Bytes_23 (r : Bool) (hm : m_spec_l15Bytes_23 = some r) : EvU ext tbl (.c c_spec_l15Bytes_23) K_spec_l15Bytes_23 (s_spec_l15Bytes_23) (Post vf_spec_l15Bytes (res_spec_l15Bytes r)) := by
  exact go_end [] 1000 True.intro (congrArg res_spec_l15Bytes (Option.some.inj hm)) (by kernel_rfl)

theorem ok_spec_l15Bytes_7 (p0 : ByteArray) (i7_0 : Int) (y : (Int) ⊕ ((Bool) ⊕ ((Unit)))) (hm : m_spec_l15Bytes_7 p0 i7_0 = some y) (Q : VX → St → Prop)
    (hin : ∀ s, y = .inl s → EvU ext tbl (.c c_spec_l15Bytes_7) K_spec_l15Bytes_7 (s_spec_l15Bytes_7 p0 s) Q) (hout : ∀ e, y = .inr e → O_spec_l15Bytes_7 Q e) : EvU ext tbl (.c c_spec_l15Bytes_7) K_spec_l15Bytes_7 (s_spec_l15Bytes_7 p0 i7_0) Q := by
  obtain ⟨h7_0, hm⟩ | ⟨h7_0, hm⟩ := split_ite hm
  · skip
    obtain ⟨x7_1, h7_1, hm⟩ := bind_some hm
    obtain ⟨h7_2, hm⟩ | ⟨h7_2, hm⟩ := split_ite hm
    · skip
      have hQ : Q = Post vf_spec_l15Bytes (res_spec_l15Bytes false) := hout (.inl false) (Option.some.inj hm).symm
      subst hQ
      exact go_end [.bit true, .int x7_1, .bit true, .bit true, .bit true, .bit true, .bit true, .bit true] 1000 (And.intro h7_0 (And.intro (sat_nn h7_1) (And.intro (sat_at h7_1) (And.intro h7_2 (And.intro h7_2 (And.intro h7_2 (And.intro h7_2 (And.intro h7_2 (And.intro (Eq.refl true) True.intro))))))))) (rfl : res_spec_l15Bytes false = res_spec_l15Bytes false) (by kernel_rfl)
    · skip
      obtain ⟨h7_3, hm⟩ | ⟨h7_3, hm⟩ := split_ite hm
      · skip
        have hQ : Q = Post vf_spec_l15Bytes (res_spec_l15Bytes false) := hout (.inl false) (Option.some.inj hm).symm
        subst hQ
        exact go_end [.bit true, .int x7_1, .bit false, .bit false, .bit false, .int x7_1, .bit false, .bit false, .bit true] 1000 (And.intro h7_0 (And.intro (sat_nn h7_1) (And.intro (sat_at h7_1) (And.intro h7_2 (And.intro h7_2 (And.intro h7_2 (And.intro (sat_nn h7_1) (And.intro (sat_at h7_1) (And.intro h7_2 (And.intro h7_2 (And.intro h7_3 True.intro))))))))))) (rfl : res_spec_l15Bytes false = res_spec_l15Bytes false) (by kernel_rfl)
      · skip
        refine go_on (u' := .c c_spec_l15Bytes_7) (K' := K_spec_l15Bytes_7) (st' := s_spec_l15Bytes_7 p0 (w64 (i7_0 + 1))) [.bit true, .int x7_1, .bit false, .bit false, .bit false, .int x7_1, .bit false, .bit false, .bit false] 1000 (And.intro h7_0 (And.intro (sat_nn h7_1) (And.intro (sat_at h7_1) (And.intro h7_2 (And.intro h7_2 (And.intro h7_2 (And.intro (sat_nn h7_1) (And.intro (sat_at h7_1) (And.intro h7_2 (And.intro h7_2 (And.intro h7_3 True.intro))))))))))) ?_ (by kernel_rfl)
        exact hin (w64 (i7_0 + 1)) (Option.some.inj hm).symm
  · skip
    refine go_on (u' := .c c_spec_l15Bytes_23) (K' := K_spec_l15Bytes_23) (st' := s_spec_l15Bytes_23) [.bit false] 1000 (And.intro h7_0 True.intro) ?_ (by kernel_rfl)
    exact hout (.inr ()) (Option.some.inj hm).symm

theorem ok_spec_l15Bytes_0 (p0 : ByteArray) (r : Bool) (hm : m_spec_l15Bytes_0 p0 = some r) : EvU ext tbl (.c c_spec_l15Bytes_0) K_spec_l15Bytes_0 (s_spec_l15Bytes_0 p0) (Post vf_spec_l15Bytes (res_spec_l15Bytes r)) := by
  refine go_on (u' := .c c_spec_l15Bytes_7) (K' := K_spec_l15Bytes_7) (st' := s_spec_l15Bytes_7 p0 0) [] 1000 True.intro ?_ (by kernel_rfl)
  obtain ⟨e, he, hm⟩ := bind_some hm
  refine loop_rule (u := .c c_spec_l15Bytes_7) (K := K_spec_l15Bytes_7) (Q := (Post vf_spec_l15Bytes (res_spec_l15Bytes r))) (b := lp_spec_l15Bytes_7 p0) (We := O_spec_l15Bytes_7 (Post vf_spec_l15Bytes (res_spec_l15Bytes r))) (stJ := fun s => s_spec_l15Bytes_7 p0 s) (s := 0) (fun s y hb hin hout => ok_spec_l15Bytes_7 p0 s y hb (Post vf_spec_l15Bytes (res_spec_l15Bytes r)) hin hout) he ?_
  rcases e with e | e
  · skip
    exact congrArg (fun r => Post vf_spec_l15Bytes (res_spec_l15Bytes r)) (Option.some.inj hm).symm
  · skip
    show EvU ext tbl (.c c_spec_l15Bytes_23) K_spec_l15Bytes_23 (s_spec_l15Bytes_23) _
    exact ok_spec_l15Bytes_23 r hm

theorem ok_spec_l15Bytes (p0 : ByteArray) (r : Bool) (hm : m_spec_l15Bytes p0 = some r) : Runs ext tbl 50 (as_spec_l15Bytes p0) (res_spec_l15Bytes r) :=
  runs_of (vf := vf_spec_l15Bytes) (by kernel_rfl) rfl (st := (enter vf_spec_l15Bytes (as_spec_l15Bytes p0)).getD default) (by kernel_rfl) (go_on [] 1000 True.intro (ok_spec_l15Bytes_0 p0 r hm) (by kernel_rfl))
def O_spec_l15Has_7 (Q : VX → St → Prop) (e : (Bool) ⊕ ((Unit))) : Prop := match e with | .inl e => Q = Post vf_spec_l15Has (res_spec_l15Has e) | .inr e => EvU ext tbl (.c c_spec_l15Has_23) K_spec_l15Has_23 (s_spec_l15Has_23) Q
theorem ok_spec_l15Has_23 (r : Bool) (hm : m_spec_l15Has_23 = some r) : EvU ext tbl (.c c_spec_l15Has_23) K_spec_l15Has_23 (s_spec_l15Has_23) (Post vf_spec_l15Has (res_spec_l15Has r)) := by
  exact go_end [] 1000 True.intro (congrArg res_spec_l15Has (Option.some.inj hm)) (by kernel_rfl)

theorem ok_spec_l15Has_7 (p0 : ByteArray) (i7_0 : Int) (y : (Int) ⊕ ((Bool) ⊕ ((Unit)))) (hm : m_spec_l15Has_7 p0 i7_0 = some y) (Q : VX → St → Prop)
    (hin : ∀ s, y = .inl s → EvU ext tbl (.c c_spec_l15Has_7) K_spec_l15Has_7 (s_spec_l15Has_7 p0 s) Q) (hout : ∀ e, y = .inr e → O_spec_l15Has_7 Q e) : EvU ext tbl (.c c_spec_l15Has_7) K_spec_l15Has_7 (s_spec_l15Has_7 p0 i7_0) Q := by
  obtain ⟨h7_0, hm⟩ | ⟨h7_0, hm⟩ := split_ite hm
  · skip
    obtain ⟨x7_1, h7_1, hm⟩ := bind_some hm
    obtain ⟨x7_2, h7_2, hm⟩ := bind_some hm
    obtain ⟨h7_3, hm⟩ | ⟨h7_3, hm⟩ := split_ite hm
    · skip
      have hQ : Q = Post vf_spec_l15Has (res_spec_l15Has true) := hout (.inl true) (Option.some.inj hm).symm
      subst hQ
      exact go_end [.bit true, .bit true] 1000 (And.intro h7_0 (And.intro (ck_p h7_1) (And.intro (ck_p h7_2) (And.intro h7_3 True.intro)))) (rfl : res_spec_l15Has true = res_spec_l15Has true) (by kernel_rfl)
    · skip
      refine go_on (u' := .c c_spec_l15Has_7) (K' := K_spec_l15Has_7) (st' := s_spec_l15Has_7 p0 (w64 (i7_0 + 1))) [.bit true, .bit false] 1000 (And.intro h7_0 (And.intro (ck_p h7_1) (And.intro (ck_p h7_2) (And.intro h7_3 True.intro)))) ?_ (by kernel_rfl)
      exact hin (w64 (i7_0 + 1)) (Option.some.inj hm).symm
  · skip
    refine go_on (u' := .c c_spec_l15Has_23) (K' := K_spec_l15Has_23) (st' := s_spec_l15Has_23) [.bit false] 1000 (And.intro h7_0 True.intro) ?_ (by kernel_rfl)
    exact hout (.inr ()) (Option.some.inj hm).symm

theorem ok_spec_l15Has_0 (p0 : ByteArray) (r : Bool) (hm : m_spec_l15Has_0 p0 = some r) : EvU ext tbl (.c c_spec_l15Has_0) K_spec_l15Has_0 (s_spec_l15Has_0 p0) (Post vf_spec_l15Has (res_spec_l15Has r)) := by
  refine go_on (u' := .c c_spec_l15Has_7) (K' := K_spec_l15Has_7) (st' := s_spec_l15Has_7 p0 0) [] 1000 True.intro ?_ (by kernel_rfl)
  obtain ⟨e, he, hm⟩ := bind_some hm
  refine loop_rule (u := .c c_spec_l15Has_7) (K := K_spec_l15Has_7) (Q := (Post vf_spec_l15Has (res_spec_l15Has r))) (b := lp_spec_l15Has_7 p0) (We := O_spec_l15Has_7 (Post vf_spec_l15Has (res_spec_l15Has r))) (stJ := fun s => s_spec_l15Has_7 p0 s) (s := 0) (fun s y hb hin hout => ok_spec_l15Has_7 p0 s y hb (Post vf_spec_l15Has (res_spec_l15Has r)) hin hout) he ?_
  rcases e with e | e
  · skip
    exact congrArg (fun r => Post vf_spec_l15Has (res_spec_l15Has r)) (Option.some.inj hm).symm
  · skip
    show EvU ext tbl (.c c_spec_l15Has_23) K_spec_l15Has_23 (s_spec_l15Has_23) _
    exact ok_spec_l15Has_23 r hm

theorem ok_spec_l15Has (p0 : ByteArray) (r : Bool) (hm : m_spec_l15Has p0 = some r) : Runs ext tbl 51 (as_spec_l15Has p0) (res_spec_l15Has r) :=
  runs_of (vf := vf_spec_l15Has) (by kernel_rfl) rfl (st := (enter vf_spec_l15Has (as_spec_l15Has p0)).getD default) (by kernel_rfl) (go_on [] 1000 True.intro (ok_spec_l15Has_0 p0 r hm) (by kernel_rfl))
def O_spec_l15Lines_7 (p0 : (List ByteArray)) (Q : VX → St → Prop) (e : (Bool) ⊕ ((Unit))) : Prop := match e with | .inl e => Q = Post vf_spec_l15Lines (res_spec_l15Lines e) | .inr e => EvU ext tbl (.c c_spec_l15Lines_25) K_spec_l15Lines_25 (s_spec_l15Lines_25 p0) Q
theorem ok_spec_l15Lines_25 (p0 : (List ByteArray)) (r : Bool) (hm : m_spec_l15Lines_25 p0 = some r) : EvU ext tbl (.c c_spec_l15Lines_25) K_spec_l15Lines_25 (s_spec_l15Lines_25 p0) (Post vf_spec_l15Lines (res_spec_l15Lines r)) := by
  obtain ⟨h25_0, hm⟩ | ⟨h25_0, hm⟩ := split_ite hm
  · skip
    exact go_end [.num p0.length, .bit true, .bit true, .num p0.length, .bit true, .bit true] 1000 (And.intro (len_map rS (show p0.length = p0.length from rfl)) (And.intro h25_0 (And.intro h25_0 (And.intro (len_map rS (show p0.length = p0.length from rfl)) (And.intro h25_0 (And.intro h25_0 True.intro)))))) (congrArg res_spec_l15Lines (Option.some.inj hm)) (by kernel_rfl)
  · skip
    exact go_end [.num p0.length, .bit false, .bit false, .bit false, .bit false] 1000 (And.intro (len_map rS (show p0.length = p0.length from rfl)) (And.intro h25_0 (And.intro h25_0 (And.intro h25_0 (And.intro h25_0 True.intro))))) (congrArg res_spec_l15Lines (Option.some.inj hm)) (by kernel_rfl)

theorem ok_spec_l15Lines_7 (p0 : (List ByteArray)) (i7_0 : Int) (y : (Int) ⊕ ((Bool) ⊕ ((Unit)))) (hm : m_spec_l15Lines_7 p0 i7_0 = some y) (Q : VX → St → Prop)
    (hin : ∀ s, y = .inl s → EvU ext tbl (.c c_spec_l15Lines_7) K_spec_l15Lines_7 (s_spec_l15Lines_7 p0 s) Q) (hout : ∀ e, y = .inr e → O_spec_l15Lines_7 p0 Q e) : EvU ext tbl (.c c_spec_l15Lines_7) K_spec_l15Lines_7 (s_spec_l15Lines_7 p0 i7_0) Q := by
  obtain ⟨h7_0, hm⟩ | ⟨h7_0, hm⟩ := split_ite hm
  · skip
    obtain ⟨x7_1, h7_1, hm⟩ := bind_some hm
    obtain ⟨h7_2, hm⟩ | ⟨h7_2, hm⟩ := split_ite hm
    · skip
      have hQ : Q = Post vf_spec_l15Lines (res_spec_l15Lines false) := hout (.inl false) (Option.some.inj hm).symm
      subst hQ
      exact go_end [.bit true, .row (rS x7_1), .bit true, .bit true, .bit true, .bit true, .bit true, .bit true, .bit true, .bit true, .bit true, .bit true, .bit true, .bit true, .bit true, .bit true, .bit true, .bit true, .bit true, .bit true, .bit true] 1000 (And.intro h7_0 (And.intro (rd_nn h7_1) (And.intro (at_row rS (rd_get h7_1)) (And.intro h7_2 (And.intro h7_2 (And.intro h7_2 (And.intro h7_2 (And.intro (Eq.refl true) (And.intro (Eq.refl true) (And.intro (Eq.refl true) (And.intro (Eq.refl true) (And.intro (Eq.refl true) (And.intro (Eq.refl true) (And.intro (Eq.refl true) (And.intro (Eq.refl true) (And.intro (Eq.refl true) (And.intro (Eq.refl true) (And.intro (Eq.refl true) (And.intro (Eq.refl true) (And.intro (Eq.refl true) (And.intro (Eq.refl true) (And.intro (Eq.refl true) True.intro)))))))))))))))))))))) (rfl : res_spec_l15Lines false = res_spec_l15Lines false) (by kernel_rfl)
    · skip
      obtain ⟨h7_3, hm⟩ | ⟨h7_3, hm⟩ := split_ite hm
      · skip
        have hQ : Q = Post vf_spec_l15Lines (res_spec_l15Lines false) := hout (.inl false) (Option.some.inj hm).symm
        subst hQ
        exact go_end [.bit true, .row (rS x7_1), .bit false, .bit false, .bit false, .bit false, .bit true, .bit true, .bit true, .bit true, .bit true, .bit true, .bit true, .bit true, .bit true, .bit true, .bit true, .bit true, .bit true, .bit true, .bit true] 1000 (And.intro h7_0 (And.intro (rd_nn h7_1) (And.intro (at_row rS (rd_get h7_1)) (And.intro h7_2 (And.intro h7_2 (And.intro h7_2 (And.intro h7_2 (And.intro h7_3 (And.intro h7_3 (And.intro h7_3 (And.intro h7_3 (And.intro (Eq.refl true) (And.intro (Eq.refl true) (And.intro (Eq.refl true) (And.intro (Eq.refl true) (And.intro (Eq.refl true) (And.intro (Eq.refl true) (And.intro (Eq.refl true) (And.intro (Eq.refl true) (And.intro (Eq.refl true) (And.intro (Eq.refl true) (And.intro (Eq.refl true) True.intro)))))))))))))))))))))) (rfl : res_spec_l15Lines false = res_spec_l15Lines false) (by kernel_rfl)
      · skip
        obtain ⟨x7_4, h7_4, hm⟩ := bind_some hm
        obtain ⟨h7_5, hm⟩ | ⟨h7_5, hm⟩ := split_ite hm
        · skip
          obtain ⟨x7_6, h7_6, hm⟩ := bind_some hm
          obtain ⟨h7_7, hm⟩ | ⟨h7_7, hm⟩ := split_ite hm
          · skip
            have hQ : Q = Post vf_spec_l15Lines (res_spec_l15Lines false) := hout (.inl false) (Option.some.inj hm).symm
            subst hQ
            exact go_end [.bit true, .row (rS x7_1), .bit false, .bit false, .bit false, .bit false, .bit false, .bit false, .res (res_spec_l15Bytes x7_4), .bit false, .bit false, .bit false, .bit false, .bit false, .bit false, .bit false, .int x7_6, .bit false, .bit false, .bit true, .bit true, .bit true, .bit true] 1000 (And.intro h7_0 (And.intro (rd_nn h7_1) (And.intro (at_row rS (rd_get h7_1)) (And.intro h7_2 (And.intro h7_2 (And.intro h7_2 (And.intro h7_2 (And.intro h7_3 (And.intro h7_3 (And.intro (ok_spec_l15Bytes x7_1 x7_4 h7_4) (And.intro h7_3 (And.intro h7_3 (And.intro (not_f h7_5) (And.intro (not_f h7_5) (And.intro (not_f h7_5) (And.intro (not_f h7_5) (And.intro (not_f h7_5) (And.intro (sat_nn h7_6) (And.intro (sat_at h7_6) (And.intro (not_f h7_5) (And.intro (not_f h7_5) (And.intro h7_7 (And.intro h7_7 (And.intro h7_7 (And.intro (Eq.refl true) True.intro))))))))))))))))))))))))) (rfl : res_spec_l15Lines false = res_spec_l15Lines false) (by kernel_rfl)
          · skip
            obtain ⟨x7_8, h7_8, hm⟩ := bind_some hm
            obtain ⟨h7_9, hm⟩ | ⟨h7_9, hm⟩ := split_ite hm
            · skip
              have hQ : Q = Post vf_spec_l15Lines (res_spec_l15Lines false) := hout (.inl false) (Option.some.inj hm).symm
              subst hQ
              exact go_end [.bit true, .row (rS x7_1), .bit false, .bit false, .bit false, .bit false, .bit false, .bit false, .res (res_spec_l15Bytes x7_4), .bit false, .bit false, .bit false, .bit false, .bit false, .bit false, .bit false, .int x7_6, .bit false, .bit false, .bit false, .bit false, .res (res_spec_l15Has x7_8), .bit false, .bit true] 1000 (And.intro h7_0 (And.intro (rd_nn h7_1) (And.intro (at_row rS (rd_get h7_1)) (And.intro h7_2 (And.intro h7_2 (And.intro h7_2 (And.intro h7_2 (And.intro h7_3 (And.intro h7_3 (And.intro (ok_spec_l15Bytes x7_1 x7_4 h7_4) (And.intro h7_3 (And.intro h7_3 (And.intro (not_f h7_5) (And.intro (not_f h7_5) (And.intro (not_f h7_5) (And.intro (not_f h7_5) (And.intro (not_f h7_5) (And.intro (sat_nn h7_6) (And.intro (sat_at h7_6) (And.intro (not_f h7_5) (And.intro (not_f h7_5) (And.intro h7_7 (And.intro h7_7 (And.intro (ok_spec_l15Has x7_1 x7_8 h7_8) (And.intro h7_7 (And.intro h7_9 True.intro)))))))))))))))))))))))))) (rfl : res_spec_l15Lines false = res_spec_l15Lines false) (by kernel_rfl)
            · skip
              refine go_on (u' := .c c_spec_l15Lines_7) (K' := K_spec_l15Lines_7) (st' := s_spec_l15Lines_7 p0 (w64 (i7_0 + 1))) [.bit true, .row (rS x7_1), .bit false, .bit false, .bit false, .bit false, .bit false, .bit false, .res (res_spec_l15Bytes x7_4), .bit false, .bit false, .bit false, .bit false, .bit false, .bit false, .bit false, .int x7_6, .bit false, .bit false, .bit false, .bit false, .res (res_spec_l15Has x7_8), .bit false, .bit false] 1000 (And.intro h7_0 (And.intro (rd_nn h7_1) (And.intro (at_row rS (rd_get h7_1)) (And.intro h7_2 (And.intro h7_2 (And.intro h7_2 (And.intro h7_2 (And.intro h7_3 (And.intro h7_3 (And.intro (ok_spec_l15Bytes x7_1 x7_4 h7_4) (And.intro h7_3 (And.intro h7_3 (And.intro (not_f h7_5) (And.intro (not_f h7_5) (And.intro (not_f h7_5) (And.intro (not_f h7_5) (And.intro (not_f h7_5) (And.intro (sat_nn h7_6) (And.intro (sat_at h7_6) (And.intro (not_f h7_5) (And.intro (not_f h7_5) (And.intro h7_7 (And.intro h7_7 (And.intro (ok_spec_l15Has x7_1 x7_8 h7_8) (And.intro h7_7 (And.intro h7_9 True.intro)))))))))))))))))))))))))) ?_ (by kernel_rfl)
              exact hin (w64 (i7_0 + 1)) (Option.some.inj hm).symm
        · skip
          have hQ : Q = Post vf_spec_l15Lines (res_spec_l15Lines false) := hout (.inl false) (Option.some.inj hm).symm
          subst hQ
          exact go_end [.bit true, .row (rS x7_1), .bit false, .bit false, .bit false, .bit false, .bit false, .bit false, .res (res_spec_l15Bytes x7_4), .bit false, .bit false, .bit true, .bit true, .bit true, .bit true, .bit true, .bit true, .bit true, .bit true, .bit true, .bit true, .bit true] 1000 (And.intro h7_0 (And.intro (rd_nn h7_1) (And.intro (at_row rS (rd_get h7_1)) (And.intro h7_2 (And.intro h7_2 (And.intro h7_2 (And.intro h7_2 (And.intro h7_3 (And.intro h7_3 (And.intro (ok_spec_l15Bytes x7_1 x7_4 h7_4) (And.intro h7_3 (And.intro h7_3 (And.intro (not_t h7_5) (And.intro (not_t h7_5) (And.intro (not_t h7_5) (And.intro (not_t h7_5) (And.intro (not_t h7_5) (And.intro (not_t h7_5) (And.intro (not_t h7_5) (And.intro (Eq.refl true) (And.intro (Eq.refl true) (And.intro (Eq.refl true) (And.intro (Eq.refl true) True.intro))))))))))))))))))))))) (rfl : res_spec_l15Lines false = res_spec_l15Lines false) (by kernel_rfl)
  · skip
    refine go_on (u' := .c c_spec_l15Lines_25) (K' := K_spec_l15Lines_25) (st' := s_spec_l15Lines_25 p0) [.bit false] 1000 (And.intro h7_0 True.intro) ?_ (by kernel_rfl)
    exact hout (.inr ()) (Option.some.inj hm).symm

theorem ok_spec_l15Lines_0 (p0 : (List ByteArray)) (r : Bool) (hm : m_spec_l15Lines_0 p0 = some r) : EvU ext tbl (.c c_spec_l15Lines_0) K_spec_l15Lines_0 (s_spec_l15Lines_0 p0) (Post vf_spec_l15Lines (res_spec_l15Lines r)) := by
  refine go_on (u' := .c c_spec_l15Lines_7) (K' := K_spec_l15Lines_7) (st' := s_spec_l15Lines_7 p0 0) [.num p0.length] 1000 (And.intro (len_map rS (show p0.length = p0.length from rfl)) True.intro) ?_ (by kernel_rfl)
  obtain ⟨e, he, hm⟩ := bind_some hm
  refine loop_rule (u := .c c_spec_l15Lines_7) (K := K_spec_l15Lines_7) (Q := (Post vf_spec_l15Lines (res_spec_l15Lines r))) (b := lp_spec_l15Lines_7 p0) (We := O_spec_l15Lines_7 p0 (Post vf_spec_l15Lines (res_spec_l15Lines r))) (stJ := fun s => s_spec_l15Lines_7 p0 s) (s := 0) (fun s y hb hin hout => ok_spec_l15Lines_7 p0 s y hb (Post vf_spec_l15Lines (res_spec_l15Lines r)) hin hout) he ?_
  rcases e with e | e
  · skip
    exact congrArg (fun r => Post vf_spec_l15Lines (res_spec_l15Lines r)) (Option.some.inj hm).symm
  · skip
    show EvU ext tbl (.c c_spec_l15Lines_25) K_spec_l15Lines_25 (s_spec_l15Lines_25 p0) _
    exact ok_spec_l15Lines_25 p0 r hm

theorem ok_spec_l15Lines (p0 : (List ByteArray)) (r : Bool) (hm : m_spec_l15Lines p0 = some r) : Runs ext tbl 42 (as_spec_l15Lines p0) (res_spec_l15Lines r) :=
  runs_of (vf := vf_spec_l15Lines) (by kernel_rfl) rfl (st := (enter vf_spec_l15Lines (as_spec_l15Lines p0)).getD default) (by kernel_rfl) (go_on [] 1000 True.intro (ok_spec_l15Lines_0 p0 r hm) (by kernel_rfl))
def O_spec_GoodCues_15 (Q : VX → St → Prop) (e : (Bool) ⊕ ((Unit))) : Prop := match e with | .inl e => Q = Post vf_spec_GoodCues (res_spec_GoodCues e) | .inr e => EvU ext tbl (.c c_spec_GoodCues_33) K_spec_GoodCues_33 (s_spec_GoodCues_33) Q
theorem ok_spec_GoodCues_33 (r : Bool) (hm : m_spec_GoodCues_33 = some r) : EvU ext tbl (.c c_spec_GoodCues_33) K_spec_GoodCues_33 (s_spec_GoodCues_33) (Post vf_spec_GoodCues (res_spec_GoodCues r)) := by
  exact go_end [] 1000 True.intro (congrArg res_spec_GoodCues (Option.some.inj hm)) (by kernel_rfl)

theorem ok_spec_GoodCues_15 (p0 : (List S_Cue)) (i15_0 : Int) (y : (Int) ⊕ ((Bool) ⊕ ((Unit)))) (hm : m_spec_GoodCues_15 p0 i15_0 = some y) (Q : VX → St → Prop)
    (hin : ∀ s, y = .inl s → EvU ext tbl (.c c_spec_GoodCues_15) K_spec_GoodCues_15 (s_spec_GoodCues_15 p0 s) Q) (hout : ∀ e, y = .inr e → O_spec_GoodCues_15 Q e) : EvU ext tbl (.c c_spec_GoodCues_15) K_spec_GoodCues_15 (s_spec_GoodCues_15 p0 i15_0) Q := by
  obtain ⟨h15_0, hm⟩ | ⟨h15_0, hm⟩ := split_ite hm
  · skip
    obtain ⟨x15_1, h15_1, hm⟩ := bind_some hm
    obtain ⟨x15_2, h15_2, hm⟩ := bind_some hm
    obtain ⟨h15_3, hm⟩ | ⟨h15_3, hm⟩ := split_ite hm
    · skip
      obtain ⟨x15_4, h15_4, hm⟩ := bind_some hm
      obtain ⟨h15_5, hm⟩ | ⟨h15_5, hm⟩ := split_ite hm
      · skip
        obtain ⟨h15_6, hm⟩ | ⟨h15_6, hm⟩ := split_ite hm
        · skip
          have hQ : Q = Post vf_spec_GoodCues (res_spec_GoodCues false) := hout (.inl false) (Option.some.inj hm).symm
          subst hQ
          exact go_end [.bit true, .row (rS_Cue x15_1), .res (res_spec_l15Time x15_2), .bit false, .bit false, .bit false, .res (res_spec_l15Time x15_4), .bit false, .bit false, .bit false, .bit false, .bit false, .bit false, .bit false, .bit false, .bit true, .bit true, .bit true, .bit true, .bit true, .bit true, .bit true, .bit true, .bit true, .bit true, .bit true] 1000 (And.intro h15_0 (And.intro (rd_nn h15_1) (And.intro (at_row rS_Cue (rd_get h15_1)) (And.intro (ok_spec_l15Time x15_1.from_ x15_2 h15_2) (And.intro (not_f h15_3) (And.intro (not_f h15_3) (And.intro (not_f h15_3) (And.intro (ok_spec_l15Time x15_1.to_ x15_4 h15_4) (And.intro (not_f h15_3) (And.intro (not_f h15_3) (And.intro (not_f h15_5) (And.intro (not_f h15_5) (And.intro (not_f h15_5) (And.intro (not_f h15_5) (And.intro (not_f h15_5) (And.intro (not_f h15_5) (And.intro h15_6 (And.intro h15_6 (And.intro h15_6 (And.intro h15_6 (And.intro h15_6 (And.intro (Eq.refl true) (And.intro (Eq.refl true) (And.intro (Eq.refl true) (And.intro (Eq.refl true) (And.intro (Eq.refl true) (And.intro (Eq.refl true) True.intro))))))))))))))))))))))))))) (rfl : res_spec_GoodCues false = res_spec_GoodCues false) (by kernel_rfl)
        · skip
          obtain ⟨x15_7, h15_7, hm⟩ := bind_some hm
          obtain ⟨h15_8, hm⟩ | ⟨h15_8, hm⟩ := split_ite hm
          · skip
            obtain ⟨h15_9, hm⟩ | ⟨h15_9, hm⟩ := split_ite hm
            · skip
              obtain ⟨x15_10, h15_10, hm⟩ := bind_some hm
              obtain ⟨h15_11, hm⟩ | ⟨h15_11, hm⟩ := split_ite hm
              · skip
                have hQ : Q = Post vf_spec_GoodCues (res_spec_GoodCues false) := hout (.inl false) (Option.some.inj hm).symm
                subst hQ
                exact go_end [.bit true, .row (rS_Cue x15_1), .res (res_spec_l15Time x15_2), .bit false, .bit false, .bit false, .res (res_spec_l15Time x15_4), .bit false, .bit false, .bit false, .bit false, .bit false, .bit false, .bit false, .bit false, .bit false, .bit false, .bit false, .res (res_spec_l15Lines x15_7), .bit false, .bit false, .bit false, .bit false, .bit false, .bit true, .bit true, .bit true, .bit true, .bit true, .bit true, .row (rS_Cue x15_10), .bit true, .bit true, .bit true, .bit false, .bit true, .bit false, .bit true] 1000 (And.intro h15_0 (And.intro (rd_nn h15_1) (And.intro (at_row rS_Cue (rd_get h15_1)) (And.intro (ok_spec_l15Time x15_1.from_ x15_2 h15_2) (And.intro (not_f h15_3) (And.intro (not_f h15_3) (And.intro (not_f h15_3) (And.intro (ok_spec_l15Time x15_1.to_ x15_4 h15_4) (And.intro (not_f h15_3) (And.intro (not_f h15_3) (And.intro (not_f h15_5) (And.intro (not_f h15_5) (And.intro (not_f h15_5) (And.intro (not_f h15_5) (And.intro (not_f h15_5) (And.intro (not_f h15_5) (And.intro h15_6 (And.intro h15_6 (And.intro h15_6 (And.intro (ok_spec_l15Lines x15_1.lines x15_7 h15_7) (And.intro h15_6 (And.intro h15_6 (And.intro (not_f h15_8) (And.intro (not_f h15_8) (And.intro (not_f h15_8) (And.intro h15_9 (And.intro h15_9 (And.intro h15_9 (And.intro h15_9 (And.intro h15_9 (And.intro h15_9 (And.intro (rd_nn h15_10) (And.intro (at_row rS_Cue (rd_get h15_10)) (And.intro h15_9 (And.intro h15_9 (And.intro h15_9 (And.intro (not_f h15_8) (And.intro h15_9 (And.intro (not_f h15_8) (And.intro h15_11 True.intro)))))))))))))))))))))))))))))))))))))))) (rfl : res_spec_GoodCues false = res_spec_GoodCues false) (by kernel_rfl)
              · skip
                refine go_on (u' := .c c_spec_GoodCues_15) (K' := K_spec_GoodCues_15) (st' := s_spec_GoodCues_15 p0 (w64 (i15_0 + 1))) [.bit true, .row (rS_Cue x15_1), .res (res_spec_l15Time x15_2), .bit false, .bit false, .bit false, .res (res_spec_l15Time x15_4), .bit false, .bit false, .bit false, .bit false, .bit false, .bit false, .bit false, .bit false, .bit false, .bit false, .bit false, .res (res_spec_l15Lines x15_7), .bit false, .bit false, .bit false, .bit false, .bit false, .bit true, .bit true, .bit true, .bit true, .bit true, .bit true, .row (rS_Cue x15_10), .bit true, .bit true, .bit true, .bit false, .bit true, .bit false, .bit false] 1000 (And.intro h15_0 (And.intro (rd_nn h15_1) (And.intro (at_row rS_Cue (rd_get h15_1)) (And.intro (ok_spec_l15Time x15_1.from_ x15_2 h15_2) (And.intro (not_f h15_3) (And.intro (not_f h15_3) (And.intro (not_f h15_3) (And.intro (ok_spec_l15Time x15_1.to_ x15_4 h15_4) (And.intro (not_f h15_3) (And.intro (not_f h15_3) (And.intro (not_f h15_5) (And.intro (not_f h15_5) (And.intro (not_f h15_5) (And.intro (not_f h15_5) (And.intro (not_f h15_5) (And.intro (not_f h15_5) (And.intro h15_6 (And.intro h15_6 (And.intro h15_6 (And.intro (ok_spec_l15Lines x15_1.lines x15_7 h15_7) (And.intro h15_6 (And.intro h15_6 (And.intro (not_f h15_8) (And.intro (not_f h15_8) (And.intro (not_f h15_8) (And.intro h15_9 (And.intro h15_9 (And.intro h15_9 (And.intro h15_9 (And.intro h15_9 (And.intro h15_9 (And.intro (rd_nn h15_10) (And.intro (at_row rS_Cue (rd_get h15_10)) (And.intro h15_9 (And.intro h15_9 (And.intro h15_9 (And.intro (not_f h15_8) (And.intro h15_9 (And.intro (not_f h15_8) (And.intro h15_11 True.intro)))))))))))))))))))))))))))))))))))))))) ?_ (by kernel_rfl)
                exact hin (w64 (i15_0 + 1)) (Option.some.inj hm).symm
            · skip
              refine go_on (u' := .c c_spec_GoodCues_15) (K' := K_spec_GoodCues_15) (st' := s_spec_GoodCues_15 p0 (w64 (i15_0 + 1))) [.bit true, .row (rS_Cue x15_1), .res (res_spec_l15Time x15_2), .bit false, .bit false, .bit false, .res (res_spec_l15Time x15_4), .bit false, .bit false, .bit false, .bit false, .bit false, .bit false, .bit false, .bit false, .bit false, .bit false, .bit false, .res (res_spec_l15Lines x15_7), .bit false, .bit false, .bit false, .bit false, .bit false, .bit false, .bit false, .bit false, .bit false, .bit false, .bit false, .bit false, .bit false, .bit false, .bit false, .bit false, .bit false, .bit false] 1000 (And.intro h15_0 (And.intro (rd_nn h15_1) (And.intro (at_row rS_Cue (rd_get h15_1)) (And.intro (ok_spec_l15Time x15_1.from_ x15_2 h15_2) (And.intro (not_f h15_3) (And.intro (not_f h15_3) (And.intro (not_f h15_3) (And.intro (ok_spec_l15Time x15_1.to_ x15_4 h15_4) (And.intro (not_f h15_3) (And.intro (not_f h15_3) (And.intro (not_f h15_5) (And.intro (not_f h15_5) (And.intro (not_f h15_5) (And.intro (not_f h15_5) (And.intro (not_f h15_5) (And.intro (not_f h15_5) (And.intro h15_6 (And.intro h15_6 (And.intro h15_6 (And.intro (ok_spec_l15Lines x15_1.lines x15_7 h15_7) (And.intro h15_6 (And.intro h15_6 (And.intro (not_f h15_8) (And.intro (not_f h15_8) (And.intro (not_f h15_8) (And.intro h15_9 (And.intro h15_9 (And.intro h15_9 (And.intro h15_9 (And.intro h15_9 (And.intro h15_9 (And.intro h15_9 (And.intro h15_9 (And.intro h15_9 (And.intro (not_f h15_8) (And.intro h15_9 (And.intro (not_f h15_8) (And.intro (Eq.refl false) True.intro)))))))))))))))))))))))))))))))))))))) ?_ (by kernel_rfl)
              exact hin (w64 (i15_0 + 1)) (Option.some.inj hm).symm
          · skip
            have hQ : Q = Post vf_spec_GoodCues (res_spec_GoodCues false) := hout (.inl false) (Option.some.inj hm).symm
            subst hQ
            exact go_end [.bit true, .row (rS_Cue x15_1), .res (res_spec_l15Time x15_2), .bit false, .bit false, .bit false, .res (res_spec_l15Time x15_4), .bit false, .bit false, .bit false, .bit false, .bit false, .bit false, .bit false, .bit false, .bit false, .bit false, .bit false, .res (res_spec_l15Lines x15_7), .bit false, .bit false, .bit true, .bit true, .bit true, .bit true, .bit true, .bit true] 1000 (And.intro h15_0 (And.intro (rd_nn h15_1) (And.intro (at_row rS_Cue (rd_get h15_1)) (And.intro (ok_spec_l15Time x15_1.from_ x15_2 h15_2) (And.intro (not_f h15_3) (And.intro (not_f h15_3) (And.intro (not_f h15_3) (And.intro (ok_spec_l15Time x15_1.to_ x15_4 h15_4) (And.intro (not_f h15_3) (And.intro (not_f h15_3) (And.intro (not_f h15_5) (And.intro (not_f h15_5) (And.intro (not_f h15_5) (And.intro (not_f h15_5) (And.intro (not_f h15_5) (And.intro (not_f h15_5) (And.intro h15_6 (And.intro h15_6 (And.intro h15_6 (And.intro (ok_spec_l15Lines x15_1.lines x15_7 h15_7) (And.intro h15_6 (And.intro h15_6 (And.intro (not_t h15_8) (And.intro (not_t h15_8) (And.intro (not_t h15_8) (And.intro (not_t h15_8) (And.intro (not_t h15_8) (And.intro (Eq.refl true) True.intro)))))))))))))))))))))))))))) (rfl : res_spec_GoodCues false = res_spec_GoodCues false) (by kernel_rfl)
      · skip
        have hQ : Q = Post vf_spec_GoodCues (res_spec_GoodCues false) := hout (.inl false) (Option.some.inj hm).symm
        subst hQ
        exact go_end [.bit true, .row (rS_Cue x15_1), .res (res_spec_l15Time x15_2), .bit false, .bit false, .bit false, .res (res_spec_l15Time x15_4), .bit false, .bit false, .bit true, .bit true, .bit true, .bit true, .bit true, .bit true, .bit true, .bit true, .bit true, .bit true, .bit true, .bit true, .bit true, .bit true, .bit true, .bit true, .bit true] 1000 (And.intro h15_0 (And.intro (rd_nn h15_1) (And.intro (at_row rS_Cue (rd_get h15_1)) (And.intro (ok_spec_l15Time x15_1.from_ x15_2 h15_2) (And.intro (not_f h15_3) (And.intro (not_f h15_3) (And.intro (not_f h15_3) (And.intro (ok_spec_l15Time x15_1.to_ x15_4 h15_4) (And.intro (not_f h15_3) (And.intro (not_f h15_3) (And.intro (not_t h15_5) (And.intro (not_t h15_5) (And.intro (not_t h15_5) (And.intro (not_t h15_5) (And.intro (not_t h15_5) (And.intro (not_t h15_5) (And.intro (Eq.refl true) (And.intro (Eq.refl true) (And.intro (Eq.refl true) (And.intro (Eq.refl true) (And.intro (Eq.refl true) (And.intro (Eq.refl true) (And.intro (Eq.refl true) (And.intro (Eq.refl true) (And.intro (Eq.refl true) (And.intro (Eq.refl true) (And.intro (Eq.refl true) True.intro))))))))))))))))))))))))))) (rfl : res_spec_GoodCues false = res_spec_GoodCues false) (by kernel_rfl)
    · skip
      have hQ : Q = Post vf_spec_GoodCues (res_spec_GoodCues false) := hout (.inl false) (Option.some.inj hm).symm
      subst hQ
      exact go_end [.bit true, .row (rS_Cue x15_1), .res (res_spec_l15Time x15_2), .bit true, .bit true, .bit true, .bit true, .bit true, .bit true, .bit true, .bit true, .bit true, .bit true, .bit true, .bit true, .bit true, .bit true, .bit true, .bit true, .bit true, .bit true, .bit true, .bit true, .bit true, .bit true] 1000 (And.intro h15_0 (And.intro (rd_nn h15_1) (And.intro (at_row rS_Cue (rd_get h15_1)) (And.intro (ok_spec_l15Time x15_1.from_ x15_2 h15_2) (And.intro (not_t h15_3) (And.intro (not_t h15_3) (And.intro (not_t h15_3) (And.intro (not_t h15_3) (And.intro (not_t h15_3) (And.intro (Eq.refl true) (And.intro (Eq.refl true) (And.intro (Eq.refl true) (And.intro (Eq.refl true) (And.intro (Eq.refl true) (And.intro (Eq.refl true) (And.intro (Eq.refl true) (And.intro (Eq.refl true) (And.intro (Eq.refl true) (And.intro (Eq.refl true) (And.intro (Eq.refl true) (And.intro (Eq.refl true) (And.intro (Eq.refl true) (And.intro (Eq.refl true) (And.intro (Eq.refl true) (And.intro (Eq.refl true) (And.intro (Eq.refl true) True.intro)))))))))))))))))))))))))) (rfl : res_spec_GoodCues false = res_spec_GoodCues false) (by kernel_rfl)
  · skip
    refine go_on (u' := .c c_spec_GoodCues_33) (K' := K_spec_GoodCues_33) (st' := s_spec_GoodCues_33) [.bit false] 1000 (And.intro h15_0 True.intro) ?_ (by kernel_rfl)
    exact hout (.inr ()) (Option.some.inj hm).symm

theorem ok_spec_GoodCues_0 (p0 : (List S_Cue)) (r : Bool) (hm : m_spec_GoodCues_0 p0 = some r) : EvU ext tbl (.c c_spec_GoodCues_0) K_spec_GoodCues_0 (s_spec_GoodCues_0 p0) (Post vf_spec_GoodCues (res_spec_GoodCues r)) := by
  obtain ⟨h0_0, hm⟩ | ⟨h0_0, hm⟩ := split_ite hm
  · skip
    exact go_end [.num p0.length, .bit true] 1000 (And.intro (len_map rS_Cue (show p0.length = p0.length from rfl)) (And.intro h0_0 True.intro)) (congrArg res_spec_GoodCues (Option.some.inj hm)) (by kernel_rfl)
  · skip
    refine go_on (u' := .c c_spec_GoodCues_15) (K' := K_spec_GoodCues_15) (st' := s_spec_GoodCues_15 p0 0) [.num p0.length, .bit false, .num p0.length] 1000 (And.intro (len_map rS_Cue (show p0.length = p0.length from rfl)) (And.intro h0_0 (And.intro (len_map rS_Cue (show p0.length = p0.length from rfl)) True.intro))) ?_ (by kernel_rfl)
    obtain ⟨e, he, hm⟩ := bind_some hm
    refine loop_rule (u := .c c_spec_GoodCues_15) (K := K_spec_GoodCues_15) (Q := (Post vf_spec_GoodCues (res_spec_GoodCues r))) (b := lp_spec_GoodCues_15 p0) (We := O_spec_GoodCues_15 (Post vf_spec_GoodCues (res_spec_GoodCues r))) (stJ := fun s => s_spec_GoodCues_15 p0 s) (s := 0) (fun s y hb hin hout => ok_spec_GoodCues_15 p0 s y hb (Post vf_spec_GoodCues (res_spec_GoodCues r)) hin hout) he ?_
    rcases e with e | e
    · skip
      exact congrArg (fun r => Post vf_spec_GoodCues (res_spec_GoodCues r)) (Option.some.inj hm).symm
    · skip
      show EvU ext tbl (.c c_spec_GoodCues_33) K_spec_GoodCues_33 (s_spec_GoodCues_33) _
      exact ok_spec_GoodCues_33 r hm

theorem ok_spec_GoodCues (p0 : (List S_Cue)) (r : Bool) (hm : m_spec_GoodCues p0 = some r) : Runs ext tbl 27 (as_spec_GoodCues p0) (res_spec_GoodCues r) :=
  runs_of (vf := vf_spec_GoodCues) (by kernel_rfl) rfl (st := (enter vf_spec_GoodCues (as_spec_GoodCues p0)).getD default) (by kernel_rfl) (go_on [] 1000 True.intro (ok_spec_GoodCues_0 p0 r hm) (by kernel_rfl))
theorem ok_spec_l15Floor_0 (p0 : Int) (p1 : Int) (r : Int) (hm : m_spec_l15Floor_0 p0 p1 = some r) : EvU ext tbl (.c c_spec_l15Floor_0) K_spec_l15Floor_0 (s_spec_l15Floor_0 p0 p1) (Post vf_spec_l15Floor (res_spec_l15Floor r)) := by
  obtain ⟨x0_0, h0_0, hm⟩ := bind_some hm
  obtain ⟨h0_1, hm⟩ | ⟨h0_1, hm⟩ := split_ite hm
  · skip
    exact go_end [.bit true] 1000 (And.intro (ck_p h0_0) (And.intro (ck_p h0_0) (And.intro h0_1 True.intro))) (congrArg res_spec_l15Floor (Option.some.inj hm)) (by kernel_rfl)
  · skip
    exact go_end [.bit false] 1000 (And.intro (ck_p h0_0) (And.intro (ck_p h0_0) (And.intro h0_1 True.intro))) (congrArg res_spec_l15Floor (Option.some.inj hm)) (by kernel_rfl)

theorem ok_spec_l15Floor (p0 : Int) (p1 : Int) (r : Int) (hm : m_spec_l15Floor p0 p1 = some r) : Runs ext tbl 38 (as_spec_l15Floor p0 p1) (res_spec_l15Floor r) :=
  runs_of (vf := vf_spec_l15Floor) (by kernel_rfl) rfl (st := (enter vf_spec_l15Floor (as_spec_l15Floor p0 p1)).getD default) (by kernel_rfl) (go_on [] 1000 True.intro (ok_spec_l15Floor_0 p0 p1 r hm) (by kernel_rfl))
def O_spec_Retime_17 (Q : VX → St → Prop) (e : ((List S_Cue))) : Prop := EvU ext tbl (.c c_spec_Retime_49) K_spec_Retime_49 (s_spec_Retime_49 e) Q
theorem ok_spec_Retime_43 (p1 : Int) (p2 : Int) (p3 : Int) (p0 : (List S_Cue)) (i17_0 : Int) (x17_1 : S_Cue) (l17_1 : (List S_Cue)) (i43_0 : Int) (i43_1 : Int) (y : (Int × (List S_Cue)) ⊕ (((List S_Cue)))) (hm : m_spec_Retime_43 p1 p2 p3 p0 i17_0 x17_1 l17_1 i43_0 i43_1 = some y) (Q : VX → St → Prop)
    (hin : ∀ s, y = .inl s → EvU ext tbl (.c c_spec_Retime_17) K_spec_Retime_17 (s_spec_Retime_17 p1 p2 p3 p0 s.1 s.2) Q) (hout : ∀ e, y = .inr e → O_spec_Retime_17 Q e) : EvU ext tbl (.c c_spec_Retime_43) K_spec_Retime_43 (s_spec_Retime_43 p1 p2 p3 p0 i17_0 x17_1 l17_1 i43_0 i43_1) Q := by
  obtain ⟨x43_0, h43_0, hm⟩ := bind_some hm
  obtain ⟨x43_1, h43_1, hm⟩ := bind_some hm
  refine go_on (u' := .c c_spec_Retime_17) (K' := K_spec_Retime_17) (st' := s_spec_Retime_17 p1 p2 p3 p0 (w64 (i17_0 + 1)) (l17_1 ++ ([(S_Cue.mk i43_0 i43_1 (([] : List ByteArray) ++ x17_1.lines))] : List S_Cue))) [.rows (List.map rS (([] : List ByteArray) ++ x17_1.lines)), .num ((([] : List ByteArray) ++ x17_1.lines).length), .rows (List.map rS (([] : List ByteArray) ++ x17_1.lines)), .rows (List.map rS_Cue ([(S_Cue.mk i43_0 i43_1 (([] : List ByteArray) ++ x17_1.lines))] : List S_Cue)), .num 1, .rows (List.map rS_Cue (l17_1 ++ ([(S_Cue.mk i43_0 i43_1 (([] : List ByteArray) ++ x17_1.lines))] : List S_Cue))), .num ((l17_1 ++ ([(S_Cue.mk i43_0 i43_1 (([] : List ByteArray) ++ x17_1.lines))] : List S_Cue)).length), .num ((l17_1 ++ ([(S_Cue.mk i43_0 i43_1 (([] : List ByteArray) ++ x17_1.lines))] : List S_Cue)).length)] 1000 (And.intro (app_ck_ro rS ([] : List ByteArray) x17_1.lines rfl h43_0) (And.intro (app_tell_ro rS ([] : List ByteArray) x17_1.lines rfl) (And.intro (len_map rS (show (([] : List ByteArray) ++ x17_1.lines).length = (([] : List ByteArray) ++ x17_1.lines).length from rfl)) (And.intro (all_le0 rS (([] : List ByteArray) ++ x17_1.lines) rfl) (And.intro (all_t rS (([] : List ByteArray) ++ x17_1.lines) rfl) (And.intro (Eq.refl (List.map rS_Cue ([(S_Cue.mk i43_0 i43_1 (([] : List ByteArray) ++ x17_1.lines))] : List S_Cue))) (And.intro (len_map rS_Cue (show 1 = ([(S_Cue.mk i43_0 i43_1 (([] : List ByteArray) ++ x17_1.lines))] : List S_Cue).length from rfl)) (And.intro (all_eq rS_Cue ([(S_Cue.mk i43_0 i43_1 (([] : List ByteArray) ++ x17_1.lines))] : List S_Cue) rfl) (And.intro (all_le rS_Cue ([(S_Cue.mk i43_0 i43_1 (([] : List ByteArray) ++ x17_1.lines))] : List S_Cue) rfl) (And.intro (app_ck_ro rS_Cue l17_1 ([(S_Cue.mk i43_0 i43_1 (([] : List ByteArray) ++ x17_1.lines))] : List S_Cue) rfl h43_1) (And.intro (app_tell_ro rS_Cue l17_1 ([(S_Cue.mk i43_0 i43_1 (([] : List ByteArray) ++ x17_1.lines))] : List S_Cue) rfl) (And.intro (len_map rS_Cue (show (l17_1 ++ ([(S_Cue.mk i43_0 i43_1 (([] : List ByteArray) ++ x17_1.lines))] : List S_Cue)).length = (l17_1 ++ ([(S_Cue.mk i43_0 i43_1 (([] : List ByteArray) ++ x17_1.lines))] : List S_Cue)).length from rfl)) (And.intro (lens ((l17_1 ++ ([(S_Cue.mk i43_0 i43_1 (([] : List ByteArray) ++ x17_1.lines))] : List S_Cue)).length) ((l17_1 ++ ([(S_Cue.mk i43_0 i43_1 (([] : List ByteArray) ++ x17_1.lines))] : List S_Cue)).length) rfl) True.intro))))))))))))) ?_ (by kernel_rfl)
  exact hin ((w64 (i17_0 + 1)), (l17_1 ++ ([(S_Cue.mk i43_0 i43_1 (([] : List ByteArray) ++ x17_1.lines))] : List S_Cue))) (Option.some.inj hm).symm

theorem ok_spec_Retime_49 (l49_0 : (List S_Cue)) (r : (List S_Cue)) (hm : m_spec_Retime_49 l49_0 = some r) : EvU ext tbl (.c c_spec_Retime_49) K_spec_Retime_49 (s_spec_Retime_49 l49_0) (Post vf_spec_Retime (res_spec_Retime r)) := by
  exact go_end [.rows (List.map rS_Cue l49_0)] 1000 (And.intro (all_le0 rS_Cue l49_0 rfl) (And.intro (all_t rS_Cue l49_0 rfl) True.intro)) (congrArg res_spec_Retime (Option.some.inj hm)) (by kernel_rfl)

theorem ok_spec_Retime_17 (p1 : Int) (p2 : Int) (p3 : Int) (p0 : (List S_Cue)) (i17_0 : Int) (l17_1 : (List S_Cue)) (y : (Int × (List S_Cue)) ⊕ (((List S_Cue)))) (hm : m_spec_Retime_17 p1 p2 p3 p0 i17_0 l17_1 = some y) (Q : VX → St → Prop)
    (hin : ∀ s, y = .inl s → EvU ext tbl (.c c_spec_Retime_17) K_spec_Retime_17 (s_spec_Retime_17 p1 p2 p3 p0 s.1 s.2) Q) (hout : ∀ e, y = .inr e → O_spec_Retime_17 Q e) : EvU ext tbl (.c c_spec_Retime_17) K_spec_Retime_17 (s_spec_Retime_17 p1 p2 p3 p0 i17_0 l17_1) Q := by
  obtain ⟨h17_0, hm⟩ | ⟨h17_0, hm⟩ := split_ite hm
  · skip
    obtain ⟨x17_1, h17_1, hm⟩ := bind_some hm
    obtain ⟨x17_2, h17_2, hm⟩ := bind_some hm
    obtain ⟨x17_3, h17_3, hm⟩ := bind_some hm
    obtain ⟨h17_4, hm⟩ | ⟨h17_4, hm⟩ := split_ite hm
    · skip
      refine go_on (u' := .c c_spec_Retime_17) (K' := K_spec_Retime_17) (st' := s_spec_Retime_17 p1 p2 p3 p0 (w64 (i17_0 + 1)) l17_1) [.bit true, .row (rS_Cue x17_1), .res (res_spec_l15Floor x17_2), .res (res_spec_l15Floor x17_3), .bit true, .bit true, .bit true, .bit true, .bit true, .bit true, .bit true, .bit true, .num l17_1.length] 1000 (And.intro h17_0 (And.intro (rd_nn h17_1) (And.intro (at_row rS_Cue (rd_get h17_1)) (And.intro (ok_spec_l15Floor (w64 (x17_1.from_ * p1)) p2 x17_2 h17_2) (And.intro (ok_spec_l15Floor (w64 (x17_1.to_ * p1)) p2 x17_3 h17_3) (And.intro h17_4 (And.intro h17_4 (And.intro h17_4 (And.intro h17_4 (And.intro (Eq.refl true) (And.intro (Eq.refl true) (And.intro (Eq.refl true) (And.intro (Eq.refl true) (And.intro (lens l17_1.length l17_1.length rfl) True.intro)))))))))))))) ?_ (by kernel_rfl)
      exact hin ((w64 (i17_0 + 1)), l17_1) (Option.some.inj hm).symm
    · skip
      obtain ⟨h17_5, hm⟩ | ⟨h17_5, hm⟩ := split_ite hm
      · skip
        refine go_on (u' := .c c_spec_Retime_17) (K' := K_spec_Retime_17) (st' := s_spec_Retime_17 p1 p2 p3 p0 (w64 (i17_0 + 1)) l17_1) [.bit true, .row (rS_Cue x17_1), .res (res_spec_l15Floor x17_2), .res (res_spec_l15Floor x17_3), .bit false, .bit false, .bit false, .bit false, .bit true, .bit true, .bit true, .bit true, .num l17_1.length] 1000 (And.intro h17_0 (And.intro (rd_nn h17_1) (And.intro (at_row rS_Cue (rd_get h17_1)) (And.intro (ok_spec_l15Floor (w64 (x17_1.from_ * p1)) p2 x17_2 h17_2) (And.intro (ok_spec_l15Floor (w64 (x17_1.to_ * p1)) p2 x17_3 h17_3) (And.intro h17_4 (And.intro h17_4 (And.intro h17_4 (And.intro h17_4 (And.intro h17_5 (And.intro h17_5 (And.intro h17_5 (And.intro (Eq.refl true) (And.intro (lens l17_1.length l17_1.length rfl) True.intro)))))))))))))) ?_ (by kernel_rfl)
        exact hin ((w64 (i17_0 + 1)), l17_1) (Option.some.inj hm).symm
      · skip
        obtain ⟨h17_6, hm⟩ | ⟨h17_6, hm⟩ := split_ite hm
        · skip
          refine go_on (u' := .c c_spec_Retime_17) (K' := K_spec_Retime_17) (st' := s_spec_Retime_17 p1 p2 p3 p0 (w64 (i17_0 + 1)) l17_1) [.bit true, .row (rS_Cue x17_1), .res (res_spec_l15Floor x17_2), .res (res_spec_l15Floor x17_3), .bit false, .bit false, .bit false, .bit false, .bit false, .bit false, .bit false, .bit true, .num l17_1.length] 1000 (And.intro h17_0 (And.intro (rd_nn h17_1) (And.intro (at_row rS_Cue (rd_get h17_1)) (And.intro (ok_spec_l15Floor (w64 (x17_1.from_ * p1)) p2 x17_2 h17_2) (And.intro (ok_spec_l15Floor (w64 (x17_1.to_ * p1)) p2 x17_3 h17_3) (And.intro h17_4 (And.intro h17_4 (And.intro h17_4 (And.intro h17_4 (And.intro h17_5 (And.intro h17_5 (And.intro h17_5 (And.intro h17_6 (And.intro (lens l17_1.length l17_1.length rfl) True.intro)))))))))))))) ?_ (by kernel_rfl)
          exact hin ((w64 (i17_0 + 1)), l17_1) (Option.some.inj hm).symm
        · skip
          obtain ⟨h17_7, hm⟩ | ⟨h17_7, hm⟩ := split_ite hm
          · skip
            refine go_on (u' := .c c_spec_Retime_43) (K' := K_spec_Retime_43) (st' := s_spec_Retime_43 p1 p2 p3 p0 i17_0 x17_1 l17_1 0 (w64 (x17_3 + p3))) [.bit true, .row (rS_Cue x17_1), .res (res_spec_l15Floor x17_2), .res (res_spec_l15Floor x17_3), .bit false, .bit false, .bit false, .bit false, .bit false, .bit false, .bit false, .bit false, .bit true, .num l17_1.length] 1000 (And.intro h17_0 (And.intro (rd_nn h17_1) (And.intro (at_row rS_Cue (rd_get h17_1)) (And.intro (ok_spec_l15Floor (w64 (x17_1.from_ * p1)) p2 x17_2 h17_2) (And.intro (ok_spec_l15Floor (w64 (x17_1.to_ * p1)) p2 x17_3 h17_3) (And.intro h17_4 (And.intro h17_4 (And.intro h17_4 (And.intro h17_4 (And.intro h17_5 (And.intro h17_5 (And.intro h17_5 (And.intro h17_6 (And.intro h17_7 (And.intro (lens l17_1.length l17_1.length rfl) True.intro))))))))))))))) ?_ (by kernel_rfl)
            exact ok_spec_Retime_43 p1 p2 p3 p0 i17_0 x17_1 l17_1 0 (w64 (x17_3 + p3)) y hm Q hin hout
          · skip
            refine go_on (u' := .c c_spec_Retime_43) (K' := K_spec_Retime_43) (st' := s_spec_Retime_43 p1 p2 p3 p0 i17_0 x17_1 l17_1 (w64 (x17_2 + p3)) (w64 (x17_3 + p3))) [.bit true, .row (rS_Cue x17_1), .res (res_spec_l15Floor x17_2), .res (res_spec_l15Floor x17_3), .bit false, .bit false, .bit false, .bit false, .bit false, .bit false, .bit false, .bit false, .bit false, .num l17_1.length] 1000 (And.intro h17_0 (And.intro (rd_nn h17_1) (And.intro (at_row rS_Cue (rd_get h17_1)) (And.intro (ok_spec_l15Floor (w64 (x17_1.from_ * p1)) p2 x17_2 h17_2) (And.intro (ok_spec_l15Floor (w64 (x17_1.to_ * p1)) p2 x17_3 h17_3) (And.intro h17_4 (And.intro h17_4 (And.intro h17_4 (And.intro h17_4 (And.intro h17_5 (And.intro h17_5 (And.intro h17_5 (And.intro h17_6 (And.intro h17_7 (And.intro (lens l17_1.length l17_1.length rfl) True.intro))))))))))))))) ?_ (by kernel_rfl)
            exact ok_spec_Retime_43 p1 p2 p3 p0 i17_0 x17_1 l17_1 (w64 (x17_2 + p3)) (w64 (x17_3 + p3)) y hm Q hin hout
  · skip
    refine go_on (u' := .c c_spec_Retime_49) (K' := K_spec_Retime_49) (st' := s_spec_Retime_49 l17_1) [.bit false, .num l17_1.length] 1000 (And.intro h17_0 (And.intro (lens l17_1.length l17_1.length rfl) True.intro)) ?_ (by kernel_rfl)
    exact hout l17_1 (Option.some.inj hm).symm

theorem ok_spec_Retime_0 (p0 : (List S_Cue)) (p1 : Int) (p2 : Int) (p3 : Int) (r : (List S_Cue)) (hm : m_spec_Retime_0 p0 p1 p2 p3 = some r) : EvU ext tbl (.c c_spec_Retime_0) K_spec_Retime_0 (s_spec_Retime_0 p0 p1 p2 p3) (Post vf_spec_Retime (res_spec_Retime r)) := by
  obtain ⟨x0_0, h0_0, hm⟩ := bind_some hm
  obtain ⟨h0_1, hm⟩ | ⟨h0_1, hm⟩ := split_ite hm
  · skip
    obtain ⟨h0_2, hm⟩ | ⟨h0_2, hm⟩ := split_ite hm
    · skip
      exact go_end [.res (res_spec_GoodCues x0_0), .bit false, .bit false, .bit false, .bit true, .bit true, .bit true, .bit true, .bit true, .bit true, .bit true, .bit true, .bit true, .bit true, .bit true, .bit true, .bit true, .bit true, .bit true, .bit true, .rows (List.map rS_Cue ([] : List S_Cue))] 1000 (And.intro (ok_spec_GoodCues p0 x0_0 h0_0) (And.intro (not_f h0_1) (And.intro (not_f h0_1) (And.intro (not_f h0_1) (And.intro h0_2 (And.intro h0_2 (And.intro h0_2 (And.intro (Eq.refl true) (And.intro (Eq.refl true) (And.intro (Eq.refl true) (And.intro (Eq.refl true) (And.intro (Eq.refl true) (And.intro (Eq.refl true) (And.intro (Eq.refl true) (And.intro (Eq.refl true) (And.intro (Eq.refl true) (And.intro (Eq.refl true) (And.intro (Eq.refl true) (And.intro (Eq.refl true) (And.intro (Eq.refl true) (And.intro (all_le0 rS_Cue ([] : List S_Cue) rfl) (And.intro (all_t rS_Cue ([] : List S_Cue) rfl) True.intro)))))))))))))))))))))) (congrArg res_spec_Retime (Option.some.inj hm)) (by kernel_rfl)
    · skip
      obtain ⟨h0_3, hm⟩ | ⟨h0_3, hm⟩ := split_ite hm
      · skip
        exact go_end [.res (res_spec_GoodCues x0_0), .bit false, .bit false, .bit false, .bit false, .bit false, .bit false, .bit true, .bit true, .bit true, .bit true, .bit true, .bit true, .bit true, .bit true, .bit true, .bit true, .bit true, .bit true, .bit true, .rows (List.map rS_Cue ([] : List S_Cue))] 1000 (And.intro (ok_spec_GoodCues p0 x0_0 h0_0) (And.intro (not_f h0_1) (And.intro (not_f h0_1) (And.intro (not_f h0_1) (And.intro h0_2 (And.intro h0_2 (And.intro h0_2 (And.intro h0_3 (And.intro h0_3 (And.intro h0_3 (And.intro (Eq.refl true) (And.intro (Eq.refl true) (And.intro (Eq.refl true) (And.intro (Eq.refl true) (And.intro (Eq.refl true) (And.intro (Eq.refl true) (And.intro (Eq.refl true) (And.intro (Eq.refl true) (And.intro (Eq.refl true) (And.intro (Eq.refl true) (And.intro (all_le0 rS_Cue ([] : List S_Cue) rfl) (And.intro (all_t rS_Cue ([] : List S_Cue) rfl) True.intro)))))))))))))))))))))) (congrArg res_spec_Retime (Option.some.inj hm)) (by kernel_rfl)
      · skip
        obtain ⟨h0_4, hm⟩ | ⟨h0_4, hm⟩ := split_ite hm
        · skip
          exact go_end [.res (res_spec_GoodCues x0_0), .bit false, .bit false, .bit false, .bit false, .bit false, .bit false, .bit false, .bit false, .bit false, .bit true, .bit true, .bit true, .bit true, .bit true, .bit true, .bit true, .bit true, .bit true, .bit true, .rows (List.map rS_Cue ([] : List S_Cue))] 1000 (And.intro (ok_spec_GoodCues p0 x0_0 h0_0) (And.intro (not_f h0_1) (And.intro (not_f h0_1) (And.intro (not_f h0_1) (And.intro h0_2 (And.intro h0_2 (And.intro h0_2 (And.intro h0_3 (And.intro h0_3 (And.intro h0_3 (And.intro h0_4 (And.intro h0_4 (And.intro h0_4 (And.intro (Eq.refl true) (And.intro (Eq.refl true) (And.intro (Eq.refl true) (And.intro (Eq.refl true) (And.intro (Eq.refl true) (And.intro (Eq.refl true) (And.intro (Eq.refl true) (And.intro (all_le0 rS_Cue ([] : List S_Cue) rfl) (And.intro (all_t rS_Cue ([] : List S_Cue) rfl) True.intro)))))))))))))))))))))) (congrArg res_spec_Retime (Option.some.inj hm)) (by kernel_rfl)
        · skip
          obtain ⟨h0_5, hm⟩ | ⟨h0_5, hm⟩ := split_ite hm
          · skip
            exact go_end [.res (res_spec_GoodCues x0_0), .bit false, .bit false, .bit false, .bit false, .bit false, .bit false, .bit false, .bit false, .bit false, .bit false, .bit false, .bit false, .bit true, .bit true, .bit true, .bit true, .bit true, .bit true, .bit true, .rows (List.map rS_Cue ([] : List S_Cue))] 1000 (And.intro (ok_spec_GoodCues p0 x0_0 h0_0) (And.intro (not_f h0_1) (And.intro (not_f h0_1) (And.intro (not_f h0_1) (And.intro h0_2 (And.intro h0_2 (And.intro h0_2 (And.intro h0_3 (And.intro h0_3 (And.intro h0_3 (And.intro h0_4 (And.intro h0_4 (And.intro h0_4 (And.intro h0_5 (And.intro h0_5 (And.intro h0_5 (And.intro (Eq.refl true) (And.intro (Eq.refl true) (And.intro (Eq.refl true) (And.intro (Eq.refl true) (And.intro (all_le0 rS_Cue ([] : List S_Cue) rfl) (And.intro (all_t rS_Cue ([] : List S_Cue) rfl) True.intro)))))))))))))))))))))) (congrArg res_spec_Retime (Option.some.inj hm)) (by kernel_rfl)
          · skip
            obtain ⟨h0_6, hm⟩ | ⟨h0_6, hm⟩ := split_ite hm
            · skip
              exact go_end [.res (res_spec_GoodCues x0_0), .bit false, .bit false, .bit false, .bit false, .bit false, .bit false, .bit false, .bit false, .bit false, .bit false, .bit false, .bit false, .bit false, .bit false, .bit false, .bit true, .bit true, .bit true, .bit true, .rows (List.map rS_Cue ([] : List S_Cue))] 1000 (And.intro (ok_spec_GoodCues p0 x0_0 h0_0) (And.intro (not_f h0_1) (And.intro (not_f h0_1) (And.intro (not_f h0_1) (And.intro h0_2 (And.intro h0_2 (And.intro h0_2 (And.intro h0_3 (And.intro h0_3 (And.intro h0_3 (And.intro h0_4 (And.intro h0_4 (And.intro h0_4 (And.intro h0_5 (And.intro h0_5 (And.intro h0_5 (And.intro h0_6 (And.intro h0_6 (And.intro h0_6 (And.intro (Eq.refl true) (And.intro (all_le0 rS_Cue ([] : List S_Cue) rfl) (And.intro (all_t rS_Cue ([] : List S_Cue) rfl) True.intro)))))))))))))))))))))) (congrArg res_spec_Retime (Option.some.inj hm)) (by kernel_rfl)
            · skip
              obtain ⟨h0_7, hm⟩ | ⟨h0_7, hm⟩ := split_ite hm
              · skip
                exact go_end [.res (res_spec_GoodCues x0_0), .bit false, .bit false, .bit false, .bit false, .bit false, .bit false, .bit false, .bit false, .bit false, .bit false, .bit false, .bit false, .bit false, .bit false, .bit false, .bit false, .bit false, .bit false, .bit true, .rows (List.map rS_Cue ([] : List S_Cue))] 1000 (And.intro (ok_spec_GoodCues p0 x0_0 h0_0) (And.intro (not_f h0_1) (And.intro (not_f h0_1) (And.intro (not_f h0_1) (And.intro h0_2 (And.intro h0_2 (And.intro h0_2 (And.intro h0_3 (And.intro h0_3 (And.intro h0_3 (And.intro h0_4 (And.intro h0_4 (And.intro h0_4 (And.intro h0_5 (And.intro h0_5 (And.intro h0_5 (And.intro h0_6 (And.intro h0_6 (And.intro h0_6 (And.intro h0_7 (And.intro (all_le0 rS_Cue ([] : List S_Cue) rfl) (And.intro (all_t rS_Cue ([] : List S_Cue) rfl) True.intro)))))))))))))))))))))) (congrArg res_spec_Retime (Option.some.inj hm)) (by kernel_rfl)
              · skip
                refine go_on (u' := .c c_spec_Retime_17) (K' := K_spec_Retime_17) (st' := s_spec_Retime_17 p1 p2 p3 p0 0 ([] : List S_Cue)) [.res (res_spec_GoodCues x0_0), .bit false, .bit false, .bit false, .bit false, .bit false, .bit false, .bit false, .bit false, .bit false, .bit false, .bit false, .bit false, .bit false, .bit false, .bit false, .bit false, .bit false, .bit false, .bit false, .num p0.length, .num (([] : List S_Cue).length)] 1000 (And.intro (ok_spec_GoodCues p0 x0_0 h0_0) (And.intro (not_f h0_1) (And.intro (not_f h0_1) (And.intro (not_f h0_1) (And.intro h0_2 (And.intro h0_2 (And.intro h0_2 (And.intro h0_3 (And.intro h0_3 (And.intro h0_3 (And.intro h0_4 (And.intro h0_4 (And.intro h0_4 (And.intro h0_5 (And.intro h0_5 (And.intro h0_5 (And.intro h0_6 (And.intro h0_6 (And.intro h0_6 (And.intro h0_7 (And.intro (len_map rS_Cue (show p0.length = p0.length from rfl)) (And.intro (lens 0 (([] : List S_Cue).length) rfl) True.intro)))))))))))))))))))))) ?_ (by kernel_rfl)
                obtain ⟨e, he, hm⟩ := bind_some hm
                refine loop_rule (u := .c c_spec_Retime_17) (K := K_spec_Retime_17) (Q := (Post vf_spec_Retime (res_spec_Retime r))) (b := lp_spec_Retime_17 p1 p2 p3 p0) (We := O_spec_Retime_17 (Post vf_spec_Retime (res_spec_Retime r))) (stJ := fun s => s_spec_Retime_17 p1 p2 p3 p0 s.1 s.2) (s := (0, ([] : List S_Cue))) (fun s y hb hin hout => ok_spec_Retime_17 p1 p2 p3 p0 s.1 s.2 y hb (Post vf_spec_Retime (res_spec_Retime r)) hin hout) he ?_
                show EvU ext tbl (.c c_spec_Retime_49) K_spec_Retime_49 (s_spec_Retime_49 e) _
                exact ok_spec_Retime_49 e r hm
  · skip
    exact go_end [.res (res_spec_GoodCues x0_0), .bit true, .bit true, .bit true, .bit true, .bit true, .bit true, .bit true, .bit true, .bit true, .bit true, .bit true, .bit true, .bit true, .bit true, .bit true, .bit true, .bit true, .bit true, .bit true, .rows (List.map rS_Cue ([] : List S_Cue))] 1000 (And.intro (ok_spec_GoodCues p0 x0_0 h0_0) (And.intro (not_t h0_1) (And.intro (not_t h0_1) (And.intro (not_t h0_1) (And.intro (Eq.refl true) (And.intro (Eq.refl true) (And.intro (Eq.refl true) (And.intro (Eq.refl true) (And.intro (Eq.refl true) (And.intro (Eq.refl true) (And.intro (Eq.refl true) (And.intro (Eq.refl true) (And.intro (Eq.refl true) (And.intro (Eq.refl true) (And.intro (Eq.refl true) (And.intro (Eq.refl true) (And.intro (Eq.refl true) (And.intro (Eq.refl true) (And.intro (Eq.refl true) (And.intro (Eq.refl true) (And.intro (all_le0 rS_Cue ([] : List S_Cue) rfl) (And.intro (all_t rS_Cue ([] : List S_Cue) rfl) True.intro)))))))))))))))))))))) (congrArg res_spec_Retime (Option.some.inj hm)) (by kernel_rfl)

theorem ok_spec_Retime (p0 : (List S_Cue)) (p1 : Int) (p2 : Int) (p3 : Int) (r : (List S_Cue)) (hm : m_spec_Retime p0 p1 p2 p3 = some r) : Runs ext tbl 21 (as_spec_Retime p0 p1 p2 p3) (res_spec_Retime r) :=
  runs_of (vf := vf_spec_Retime) (by kernel_rfl) rfl (st := (enter vf_spec_Retime (as_spec_Retime p0 p1 p2 p3)).getD default) (by kernel_rfl) (go_on [] 1000 True.intro (ok_spec_Retime_0 p0 p1 p2 p3 r hm) (by kernel_rfl))
theorem ok_impl_ztime_0 (p0 : Int) (r : Bool) (hm : m_impl_ztime_0 p0 = some r) : EvU ext tbl (.c c_impl_ztime_0) K_impl_ztime_0 (s_impl_ztime_0 p0) (Post vf_impl_ztime (res_impl_ztime r)) := by
  obtain ⟨h0_0, hm⟩ | ⟨h0_0, hm⟩ := split_ite hm
  · skip
    exact go_end [.bit true, .bit true, .bit true] 1000 (And.intro h0_0 (And.intro h0_0 (And.intro h0_0 True.intro))) (congrArg res_impl_ztime (Option.some.inj hm)) (by kernel_rfl)
  · skip
    exact go_end [.bit false, .bit false, .bit false] 1000 (And.intro h0_0 (And.intro h0_0 (And.intro h0_0 True.intro))) (congrArg res_impl_ztime (Option.some.inj hm)) (by kernel_rfl)

theorem ok_impl_ztime (p0 : Int) (r : Bool) (hm : m_impl_ztime p0 = some r) : Runs ext tbl 35 (as_impl_ztime p0) (res_impl_ztime r) :=
  runs_of (vf := vf_impl_ztime) (by kernel_rfl) rfl (st := (enter vf_impl_ztime (as_impl_ztime p0)).getD default) (by kernel_rfl) (go_on [] 1000 True.intro (ok_impl_ztime_0 p0 r hm) (by kernel_rfl))
theorem ok_strings_Contains (p0 : ByteArray) (p1 : ByteArray) (r : Bool) (hm : m_strings_Contains p0 p1 = some r) : Runs ext tbl 53 (as_strings_Contains p0 p1) (res_strings_Contains r) := by
  refine ⟨1, ?_⟩
  have h : vrun ext tbl 1 53 (as_strings_Contains p0 p1) = (m_strings_Contains p0 p1).map res_strings_Contains := by kernel_rfl
  rw [h, hm]
  rfl
def O_impl_zcueLine_7 (p0 : ByteArray) (Q : VX → St → Prop) (e : (Int) ⊕ ((Unit))) : Prop := match e with | .inl e => Q = Post vf_impl_zcueLine (res_impl_zcueLine e) | .inr e => EvU ext tbl (.c c_impl_zcueLine_25) K_impl_zcueLine_25 (s_impl_zcueLine_25 p0) Q
theorem ok_impl_zcueLine_25 (p0 : ByteArray) (r : Int) (hm : m_impl_zcueLine_25 p0 = some r) : EvU ext tbl (.c c_impl_zcueLine_25) K_impl_zcueLine_25 (s_impl_zcueLine_25 p0) (Post vf_impl_zcueLine (res_impl_zcueLine r)) := by
  obtain ⟨x25_0, h25_0, hm⟩ := bind_some hm
  obtain ⟨h25_1, hm⟩ | ⟨h25_1, hm⟩ := split_ite hm
  · skip
    exact go_end [.res (res_strings_Contains x25_0), .bit true] 1000 (And.intro (ok_strings_Contains p0 (ByteArray.mk #[45, 45, 62]) x25_0 h25_0) (And.intro h25_1 True.intro)) (congrArg res_impl_zcueLine (Option.some.inj hm)) (by kernel_rfl)
  · skip
    obtain ⟨h25_2, hm⟩ | ⟨h25_2, hm⟩ := split_ite hm
    · skip
      exact go_end [.res (res_strings_Contains x25_0), .bit false, .bit true] 1000 (And.intro (ok_strings_Contains p0 (ByteArray.mk #[45, 45, 62]) x25_0 h25_0) (And.intro h25_1 (And.intro h25_2 True.intro))) (congrArg res_impl_zcueLine (Option.some.inj hm)) (by kernel_rfl)
    · skip
      exact go_end [.res (res_strings_Contains x25_0), .bit false, .bit false] 1000 (And.intro (ok_strings_Contains p0 (ByteArray.mk #[45, 45, 62]) x25_0 h25_0) (And.intro h25_1 (And.intro h25_2 True.intro))) (congrArg res_impl_zcueLine (Option.some.inj hm)) (by kernel_rfl)

theorem ok_impl_zcueLine_7 (p0 : ByteArray) (i7_0 : Int) (y : (Int) ⊕ ((Int) ⊕ ((Unit)))) (hm : m_impl_zcueLine_7 p0 i7_0 = some y) (Q : VX → St → Prop)
    (hin : ∀ s, y = .inl s → EvU ext tbl (.c c_impl_zcueLine_7) K_impl_zcueLine_7 (s_impl_zcueLine_7 p0 s) Q) (hout : ∀ e, y = .inr e → O_impl_zcueLine_7 p0 Q e) : EvU ext tbl (.c c_impl_zcueLine_7) K_impl_zcueLine_7 (s_impl_zcueLine_7 p0 i7_0) Q := by
  obtain ⟨h7_0, hm⟩ | ⟨h7_0, hm⟩ := split_ite hm
  · skip
    obtain ⟨x7_1, h7_1, hm⟩ := bind_some hm
    obtain ⟨h7_2, hm⟩ | ⟨h7_2, hm⟩ := split_ite hm
    · skip
      have hQ : Q = Post vf_impl_zcueLine (res_impl_zcueLine 4) := hout (.inl 4) (Option.some.inj hm).symm
      subst hQ
      exact go_end [.bit true, .int x7_1, .bit true, .bit true, .bit true, .bit true, .bit true, .bit true] 1000 (And.intro h7_0 (And.intro (sat_nn h7_1) (And.intro (sat_at h7_1) (And.intro h7_2 (And.intro h7_2 (And.intro h7_2 (And.intro h7_2 (And.intro h7_2 (And.intro (Eq.refl true) True.intro))))))))) (rfl : res_impl_zcueLine 4 = res_impl_zcueLine 4) (by kernel_rfl)
    · skip
      obtain ⟨h7_3, hm⟩ | ⟨h7_3, hm⟩ := split_ite hm
      · skip
        have hQ : Q = Post vf_impl_zcueLine (res_impl_zcueLine 4) := hout (.inl 4) (Option.some.inj hm).symm
        subst hQ
        exact go_end [.bit true, .int x7_1, .bit false, .bit false, .bit false, .int x7_1, .bit false, .bit false, .bit true] 1000 (And.intro h7_0 (And.intro (sat_nn h7_1) (And.intro (sat_at h7_1) (And.intro h7_2 (And.intro h7_2 (And.intro h7_2 (And.intro (sat_nn h7_1) (And.intro (sat_at h7_1) (And.intro h7_2 (And.intro h7_2 (And.intro h7_3 True.intro))))))))))) (rfl : res_impl_zcueLine 4 = res_impl_zcueLine 4) (by kernel_rfl)
      · skip
        refine go_on (u' := .c c_impl_zcueLine_7) (K' := K_impl_zcueLine_7) (st' := s_impl_zcueLine_7 p0 (w64 (i7_0 + 1))) [.bit true, .int x7_1, .bit false, .bit false, .bit false, .int x7_1, .bit false, .bit false, .bit false] 1000 (And.intro h7_0 (And.intro (sat_nn h7_1) (And.intro (sat_at h7_1) (And.intro h7_2 (And.intro h7_2 (And.intro h7_2 (And.intro (sat_nn h7_1) (And.intro (sat_at h7_1) (And.intro h7_2 (And.intro h7_2 (And.intro h7_3 True.intro))))))))))) ?_ (by kernel_rfl)
        exact hin (w64 (i7_0 + 1)) (Option.some.inj hm).symm
  · skip
    refine go_on (u' := .c c_impl_zcueLine_25) (K' := K_impl_zcueLine_25) (st' := s_impl_zcueLine_25 p0) [.bit false] 1000 (And.intro h7_0 True.intro) ?_ (by kernel_rfl)
    exact hout (.inr ()) (Option.some.inj hm).symm

theorem ok_impl_zcueLine_0 (p0 : ByteArray) (r : Int) (hm : m_impl_zcueLine_0 p0 = some r) : EvU ext tbl (.c c_impl_zcueLine_0) K_impl_zcueLine_0 (s_impl_zcueLine_0 p0) (Post vf_impl_zcueLine (res_impl_zcueLine r)) := by
  refine go_on (u' := .c c_impl_zcueLine_7) (K' := K_impl_zcueLine_7) (st' := s_impl_zcueLine_7 p0 0) [] 1000 True.intro ?_ (by kernel_rfl)
  obtain ⟨e, he, hm⟩ := bind_some hm
  refine loop_rule (u := .c c_impl_zcueLine_7) (K := K_impl_zcueLine_7) (Q := (Post vf_impl_zcueLine (res_impl_zcueLine r))) (b := lp_impl_zcueLine_7 p0) (We := O_impl_zcueLine_7 p0 (Post vf_impl_zcueLine (res_impl_zcueLine r))) (stJ := fun s => s_impl_zcueLine_7 p0 s) (s := 0) (fun s y hb hin hout => ok_impl_zcueLine_7 p0 s y hb (Post vf_impl_zcueLine (res_impl_zcueLine r)) hin hout) he ?_
  rcases e with e | e
  · skip
    exact congrArg (fun r => Post vf_impl_zcueLine (res_impl_zcueLine r)) (Option.some.inj hm).symm
  · skip
    show EvU ext tbl (.c c_impl_zcueLine_25) K_impl_zcueLine_25 (s_impl_zcueLine_25 p0) _
    exact ok_impl_zcueLine_25 p0 r hm

theorem ok_impl_zcueLine (p0 : ByteArray) (r : Int) (hm : m_impl_zcueLine p0 = some r) : Runs ext tbl 49 (as_impl_zcueLine p0) (res_impl_zcueLine r) :=
  runs_of (vf := vf_impl_zcueLine) (by kernel_rfl) rfl (st := (enter vf_impl_zcueLine (as_impl_zcueLine p0)).getD default) (by kernel_rfl) (go_on [] 1000 True.intro (ok_impl_zcueLine_0 p0 r hm) (by kernel_rfl))
def O_impl_zcue_15 (Q : VX → St → Prop) (e : (Bool) ⊕ ((Unit))) : Prop := match e with | .inl e => Q = Post vf_impl_zcue (res_impl_zcue e) | .inr e => EvU ext tbl (.c c_impl_zcue_33) K_impl_zcue_33 (s_impl_zcue_33) Q
theorem ok_impl_zcue_33 (r : Bool) (hm : m_impl_zcue_33 = some r) : EvU ext tbl (.c c_impl_zcue_33) K_impl_zcue_33 (s_impl_zcue_33) (Post vf_impl_zcue (res_impl_zcue r)) := by
  exact go_end [] 1000 True.intro (congrArg res_impl_zcue (Option.some.inj hm)) (by kernel_rfl)

theorem ok_impl_zcue_15 (p0 : S_Cue) (i15_0 : Int) (y : (Int) ⊕ ((Bool) ⊕ ((Unit)))) (hm : m_impl_zcue_15 p0 i15_0 = some y) (Q : VX → St → Prop)
    (hin : ∀ s, y = .inl s → EvU ext tbl (.c c_impl_zcue_15) K_impl_zcue_15 (s_impl_zcue_15 p0 s) Q) (hout : ∀ e, y = .inr e → O_impl_zcue_15 Q e) : EvU ext tbl (.c c_impl_zcue_15) K_impl_zcue_15 (s_impl_zcue_15 p0 i15_0) Q := by
  obtain ⟨h15_0, hm⟩ | ⟨h15_0, hm⟩ := split_ite hm
  · skip
    obtain ⟨x15_1, h15_1, hm⟩ := bind_some hm
    obtain ⟨h15_2, hm⟩ | ⟨h15_2, hm⟩ := split_ite hm
    · skip
      have hQ : Q = Post vf_impl_zcue (res_impl_zcue false) := hout (.inl false) (Option.some.inj hm).symm
      subst hQ
      exact go_end [.bit true, .row (rS x15_1), .bit true, .bit true, .bit true, .bit true, .bit true, .bit true, .bit true, .bit true, .bit true, .bit true, .bit true, .bit true] 1000 (And.intro h15_0 (And.intro (rd_nn h15_1) (And.intro (at_row rS (rd_get h15_1)) (And.intro h15_2 (And.intro h15_2 (And.intro h15_2 (And.intro h15_2 (And.intro h15_2 (And.intro h15_2 (And.intro h15_2 (And.intro (Eq.refl true) (And.intro (Eq.refl true) (And.intro (Eq.refl true) (And.intro (Eq.refl true) (And.intro (Eq.refl true) True.intro))))))))))))))) (rfl : res_impl_zcue false = res_impl_zcue false) (by kernel_rfl)
    · skip
      obtain ⟨x15_3, h15_3, hm⟩ := bind_some hm
      obtain ⟨h15_4, hm⟩ | ⟨h15_4, hm⟩ := split_ite hm
      · skip
        have hQ : Q = Post vf_impl_zcue (res_impl_zcue false) := hout (.inl false) (Option.some.inj hm).symm
        subst hQ
        exact go_end [.bit true, .row (rS x15_1), .bit false, .bit false, .bit false, .bit false, .bit false, .int x15_3, .bit false, .bit false, .bit true, .bit true, .bit true, .bit true, .bit true] 1000 (And.intro h15_0 (And.intro (rd_nn h15_1) (And.intro (at_row rS (rd_get h15_1)) (And.intro h15_2 (And.intro h15_2 (And.intro h15_2 (And.intro h15_2 (And.intro h15_2 (And.intro (sat_nn h15_3) (And.intro (sat_at h15_3) (And.intro h15_2 (And.intro h15_2 (And.intro h15_4 (And.intro h15_4 (And.intro h15_4 (And.intro h15_4 (And.intro (Eq.refl true) True.intro))))))))))))))))) (rfl : res_impl_zcue false = res_impl_zcue false) (by kernel_rfl)
      · skip
        obtain ⟨x15_5, h15_5, hm⟩ := bind_some hm
        obtain ⟨h15_6, hm⟩ | ⟨h15_6, hm⟩ := split_ite hm
        · skip
          have hQ : Q = Post vf_impl_zcue (res_impl_zcue false) := hout (.inl false) (Option.some.inj hm).symm
          subst hQ
          exact go_end [.bit true, .row (rS x15_1), .bit false, .bit false, .bit false, .bit false, .bit false, .int x15_3, .bit false, .bit false, .bit false, .bit false, .res (res_impl_zcueLine x15_5), .bit false, .bit false, .bit true] 1000 (And.intro h15_0 (And.intro (rd_nn h15_1) (And.intro (at_row rS (rd_get h15_1)) (And.intro h15_2 (And.intro h15_2 (And.intro h15_2 (And.intro h15_2 (And.intro h15_2 (And.intro (sat_nn h15_3) (And.intro (sat_at h15_3) (And.intro h15_2 (And.intro h15_2 (And.intro h15_4 (And.intro h15_4 (And.intro (ok_impl_zcueLine x15_1 x15_5 h15_5) (And.intro h15_4 (And.intro h15_4 (And.intro h15_6 True.intro)))))))))))))))))) (rfl : res_impl_zcue false = res_impl_zcue false) (by kernel_rfl)
        · skip
          refine go_on (u' := .c c_impl_zcue_15) (K' := K_impl_zcue_15) (st' := s_impl_zcue_15 p0 (w64 (i15_0 + 1))) [.bit true, .row (rS x15_1), .bit false, .bit false, .bit false, .bit false, .bit false, .int x15_3, .bit false, .bit false, .bit false, .bit false, .res (res_impl_zcueLine x15_5), .bit false, .bit false, .bit false] 1000 (And.intro h15_0 (And.intro (rd_nn h15_1) (And.intro (at_row rS (rd_get h15_1)) (And.intro h15_2 (And.intro h15_2 (And.intro h15_2 (And.intro h15_2 (And.intro h15_2 (And.intro (sat_nn h15_3) (And.intro (sat_at h15_3) (And.intro h15_2 (And.intro h15_2 (And.intro h15_4 (And.intro h15_4 (And.intro (ok_impl_zcueLine x15_1 x15_5 h15_5) (And.intro h15_4 (And.intro h15_4 (And.intro h15_6 True.intro)))))))))))))))))) ?_ (by kernel_rfl)
          exact hin (w64 (i15_0 + 1)) (Option.some.inj hm).symm
  · skip
    refine go_on (u' := .c c_impl_zcue_33) (K' := K_impl_zcue_33) (st' := s_impl_zcue_33) [.bit false] 1000 (And.intro h15_0 True.intro) ?_ (by kernel_rfl)
    exact hout (.inr ()) (Option.some.inj hm).symm

theorem ok_impl_zcue_0 (p0 : S_Cue) (r : Bool) (hm : m_impl_zcue_0 p0 = some r) : EvU ext tbl (.c c_impl_zcue_0) K_impl_zcue_0 (s_impl_zcue_0 p0) (Post vf_impl_zcue (res_impl_zcue r)) := by
  obtain ⟨h0_0, hm⟩ | ⟨h0_0, hm⟩ := split_ite hm
  · skip
    exact go_end [.num p0.lines.length, .bit true, .bit true, .bit true, .bit true, .bit true, .bit true] 1000 (And.intro (len_map rS (show p0.lines.length = p0.lines.length from rfl)) (And.intro h0_0 (And.intro h0_0 (And.intro h0_0 (And.intro h0_0 (And.intro h0_0 (And.intro (Eq.refl true) True.intro))))))) (congrArg res_impl_zcue (Option.some.inj hm)) (by kernel_rfl)
  · skip
    obtain ⟨h0_1, hm⟩ | ⟨h0_1, hm⟩ := split_ite hm
    · skip
      exact go_end [.num p0.lines.length, .bit false, .bit false, .bit false, .num p0.lines.length, .bit false, .bit false, .bit true] 1000 (And.intro (len_map rS (show p0.lines.length = p0.lines.length from rfl)) (And.intro h0_0 (And.intro h0_0 (And.intro h0_0 (And.intro (len_map rS (show p0.lines.length = p0.lines.length from rfl)) (And.intro h0_0 (And.intro h0_0 (And.intro h0_1 True.intro)))))))) (congrArg res_impl_zcue (Option.some.inj hm)) (by kernel_rfl)
    · skip
      refine go_on (u' := .c c_impl_zcue_15) (K' := K_impl_zcue_15) (st' := s_impl_zcue_15 p0 0) [.num p0.lines.length, .bit false, .bit false, .bit false, .num p0.lines.length, .bit false, .bit false, .bit false, .num p0.lines.length] 1000 (And.intro (len_map rS (show p0.lines.length = p0.lines.length from rfl)) (And.intro h0_0 (And.intro h0_0 (And.intro h0_0 (And.intro (len_map rS (show p0.lines.length = p0.lines.length from rfl)) (And.intro h0_0 (And.intro h0_0 (And.intro h0_1 (And.intro (len_map rS (show p0.lines.length = p0.lines.length from rfl)) True.intro))))))))) ?_ (by kernel_rfl)
      obtain ⟨e, he, hm⟩ := bind_some hm
      refine loop_rule (u := .c c_impl_zcue_15) (K := K_impl_zcue_15) (Q := (Post vf_impl_zcue (res_impl_zcue r))) (b := lp_impl_zcue_15 p0) (We := O_impl_zcue_15 (Post vf_impl_zcue (res_impl_zcue r))) (stJ := fun s => s_impl_zcue_15 p0 s) (s := 0) (fun s y hb hin hout => ok_impl_zcue_15 p0 s y hb (Post vf_impl_zcue (res_impl_zcue r)) hin hout) he ?_
      rcases e with e | e
      · skip
        exact congrArg (fun r => Post vf_impl_zcue (res_impl_zcue r)) (Option.some.inj hm).symm
      · skip
        show EvU ext tbl (.c c_impl_zcue_33) K_impl_zcue_33 (s_impl_zcue_33) _
        exact ok_impl_zcue_33 r hm

theorem ok_impl_zcue (p0 : S_Cue) (r : Bool) (hm : m_impl_zcue p0 = some r) : Runs ext tbl 41 (as_impl_zcue p0) (res_impl_zcue r) :=
  runs_of (vf := vf_impl_zcue) (by kernel_rfl) rfl (st := (enter vf_impl_zcue (as_impl_zcue p0)).getD default) (by kernel_rfl) (go_on [] 1000 True.intro (ok_impl_zcue_0 p0 r hm) (by kernel_rfl))
def O_impl_GoodCues_15 (Q : VX → St → Prop) (e : (Bool) ⊕ ((Unit))) : Prop := match e with | .inl e => Q = Post vf_impl_GoodCues (res_impl_GoodCues e) | .inr e => EvU ext tbl (.c c_impl_GoodCues_33) K_impl_GoodCues_33 (s_impl_GoodCues_33) Q
theorem ok_impl_GoodCues_33 (r : Bool) (hm : m_impl_GoodCues_33 = some r) : EvU ext tbl (.c c_impl_GoodCues_33) K_impl_GoodCues_33 (s_impl_GoodCues_33) (Post vf_impl_GoodCues (res_impl_GoodCues r)) := by
  exact go_end [] 1000 True.intro (congrArg res_impl_GoodCues (Option.some.inj hm)) (by kernel_rfl)

theorem ok_impl_GoodCues_15 (p0 : (List S_Cue)) (i15_0 : Int) (y : (Int) ⊕ ((Bool) ⊕ ((Unit)))) (hm : m_impl_GoodCues_15 p0 i15_0 = some y) (Q : VX → St → Prop)
    (hin : ∀ s, y = .inl s → EvU ext tbl (.c c_impl_GoodCues_15) K_impl_GoodCues_15 (s_impl_GoodCues_15 p0 s) Q) (hout : ∀ e, y = .inr e → O_impl_GoodCues_15 Q e) : EvU ext tbl (.c c_impl_GoodCues_15) K_impl_GoodCues_15 (s_impl_GoodCues_15 p0 i15_0) Q := by
  obtain ⟨h15_0, hm⟩ | ⟨h15_0, hm⟩ := split_ite hm
  · skip
    obtain ⟨x15_1, h15_1, hm⟩ := bind_some hm
    obtain ⟨x15_2, h15_2, hm⟩ := bind_some hm
    obtain ⟨h15_3, hm⟩ | ⟨h15_3, hm⟩ := split_ite hm
    · skip
      obtain ⟨x15_4, h15_4, hm⟩ := bind_some hm
      obtain ⟨h15_5, hm⟩ | ⟨h15_5, hm⟩ := split_ite hm
      · skip
        obtain ⟨h15_6, hm⟩ | ⟨h15_6, hm⟩ := split_ite hm
        · skip
          have hQ : Q = Post vf_impl_GoodCues (res_impl_GoodCues false) := hout (.inl false) (Option.some.inj hm).symm
          subst hQ
          exact go_end [.bit true, .row (rS_Cue x15_1), .res (res_impl_ztime x15_2), .bit false, .bit false, .bit false, .res (res_impl_ztime x15_4), .bit false, .bit false, .bit false, .bit false, .bit false, .bit false, .bit false, .bit false, .bit true, .bit true, .bit true, .bit true, .bit true, .bit true, .bit true, .bit true, .bit true, .bit true] 1000 (And.intro h15_0 (And.intro (rd_nn h15_1) (And.intro (at_row rS_Cue (rd_get h15_1)) (And.intro (ok_impl_ztime x15_1.from_ x15_2 h15_2) (And.intro (not_f h15_3) (And.intro (not_f h15_3) (And.intro (not_f h15_3) (And.intro (ok_impl_ztime x15_1.to_ x15_4 h15_4) (And.intro (not_f h15_3) (And.intro (not_f h15_3) (And.intro (not_f h15_5) (And.intro (not_f h15_5) (And.intro (not_f h15_5) (And.intro (not_f h15_5) (And.intro (not_f h15_5) (And.intro (not_f h15_5) (And.intro h15_6 (And.intro h15_6 (And.intro h15_6 (And.intro h15_6 (And.intro (Eq.refl true) (And.intro (Eq.refl true) (And.intro (Eq.refl true) (And.intro (Eq.refl true) (And.intro (Eq.refl true) (And.intro (Eq.refl true) True.intro)))))))))))))))))))))))))) (rfl : res_impl_GoodCues false = res_impl_GoodCues false) (by kernel_rfl)
        · skip
          obtain ⟨x15_7, h15_7, hm⟩ := bind_some hm
          obtain ⟨h15_8, hm⟩ | ⟨h15_8, hm⟩ := split_ite hm
          · skip
            obtain ⟨h15_9, hm⟩ | ⟨h15_9, hm⟩ := split_ite hm
            · skip
              obtain ⟨x15_10, h15_10, hm⟩ := bind_some hm
              obtain ⟨h15_11, hm⟩ | ⟨h15_11, hm⟩ := split_ite hm
              · skip
                have hQ : Q = Post vf_impl_GoodCues (res_impl_GoodCues false) := hout (.inl false) (Option.some.inj hm).symm
                subst hQ
                exact go_end [.bit true, .row (rS_Cue x15_1), .res (res_impl_ztime x15_2), .bit false, .bit false, .bit false, .res (res_impl_ztime x15_4), .bit false, .bit false, .bit false, .bit false, .bit false, .bit false, .bit false, .bit false, .bit false, .bit false, .res (res_impl_zcue x15_7), .bit false, .bit false, .bit false, .bit false, .bit false, .bit true, .bit true, .bit true, .bit true, .bit true, .bit true, .row (rS_Cue x15_10), .bit true, .bit true, .bit true, .bit false, .bit true, .bit false, .bit true] 1000 (And.intro h15_0 (And.intro (rd_nn h15_1) (And.intro (at_row rS_Cue (rd_get h15_1)) (And.intro (ok_impl_ztime x15_1.from_ x15_2 h15_2) (And.intro (not_f h15_3) (And.intro (not_f h15_3) (And.intro (not_f h15_3) (And.intro (ok_impl_ztime x15_1.to_ x15_4 h15_4) (And.intro (not_f h15_3) (And.intro (not_f h15_3) (And.intro (not_f h15_5) (And.intro (not_f h15_5) (And.intro (not_f h15_5) (And.intro (not_f h15_5) (And.intro (not_f h15_5) (And.intro (not_f h15_5) (And.intro h15_6 (And.intro h15_6 (And.intro (ok_impl_zcue x15_1 x15_7 h15_7) (And.intro h15_6 (And.intro h15_6 (And.intro (not_f h15_8) (And.intro (not_f h15_8) (And.intro (not_f h15_8) (And.intro h15_9 (And.intro h15_9 (And.intro h15_9 (And.intro h15_9 (And.intro h15_9 (And.intro h15_9 (And.intro (rd_nn h15_10) (And.intro (at_row rS_Cue (rd_get h15_10)) (And.intro h15_9 (And.intro h15_9 (And.intro h15_9 (And.intro (not_f h15_8) (And.intro h15_9 (And.intro (not_f h15_8) (And.intro h15_11 True.intro))))))))))))))))))))))))))))))))))))))) (rfl : res_impl_GoodCues false = res_impl_GoodCues false) (by kernel_rfl)
              · skip
                refine go_on (u' := .c c_impl_GoodCues_15) (K' := K_impl_GoodCues_15) (st' := s_impl_GoodCues_15 p0 (w64 (i15_0 + 1))) [.bit true, .row (rS_Cue x15_1), .res (res_impl_ztime x15_2), .bit false, .bit false, .bit false, .res (res_impl_ztime x15_4), .bit false, .bit false, .bit false, .bit false, .bit false, .bit false, .bit false, .bit false, .bit false, .bit false, .res (res_impl_zcue x15_7), .bit false, .bit false, .bit false, .bit false, .bit false, .bit true, .bit true, .bit true, .bit true, .bit true, .bit true, .row (rS_Cue x15_10), .bit true, .bit true, .bit true, .bit false, .bit true, .bit false, .bit false] 1000 (And.intro h15_0 (And.intro (rd_nn h15_1) (And.intro (at_row rS_Cue (rd_get h15_1)) (And.intro (ok_impl_ztime x15_1.from_ x15_2 h15_2) (And.intro (not_f h15_3) (And.intro (not_f h15_3) (And.intro (not_f h15_3) (And.intro (ok_impl_ztime x15_1.to_ x15_4 h15_4) (And.intro (not_f h15_3) (And.intro (not_f h15_3) (And.intro (not_f h15_5) (And.intro (not_f h15_5) (And.intro (not_f h15_5) (And.intro (not_f h15_5) (And.intro (not_f h15_5) (And.intro (not_f h15_5) (And.intro h15_6 (And.intro h15_6 (And.intro (ok_impl_zcue x15_1 x15_7 h15_7) (And.intro h15_6 (And.intro h15_6 (And.intro (not_f h15_8) (And.intro (not_f h15_8) (And.intro (not_f h15_8) (And.intro h15_9 (And.intro h15_9 (And.intro h15_9 (And.intro h15_9 (And.intro h15_9 (And.intro h15_9 (And.intro (rd_nn h15_10) (And.intro (at_row rS_Cue (rd_get h15_10)) (And.intro h15_9 (And.intro h15_9 (And.intro h15_9 (And.intro (not_f h15_8) (And.intro h15_9 (And.intro (not_f h15_8) (And.intro h15_11 True.intro))))))))))))))))))))))))))))))))))))))) ?_ (by kernel_rfl)
                exact hin (w64 (i15_0 + 1)) (Option.some.inj hm).symm
            · skip
              refine go_on (u' := .c c_impl_GoodCues_15) (K' := K_impl_GoodCues_15) (st' := s_impl_GoodCues_15 p0 (w64 (i15_0 + 1))) [.bit true, .row (rS_Cue x15_1), .res (res_impl_ztime x15_2), .bit false, .bit false, .bit false, .res (res_impl_ztime x15_4), .bit false, .bit false, .bit false, .bit false, .bit false, .bit false, .bit false, .bit false, .bit false, .bit false, .res (res_impl_zcue x15_7), .bit false, .bit false, .bit false, .bit false, .bit false, .bit false, .bit false, .bit false, .bit false, .bit false, .bit false, .bit false, .bit false, .bit false, .bit false, .bit false, .bit false, .bit false] 1000 (And.intro h15_0 (And.intro (rd_nn h15_1) (And.intro (at_row rS_Cue (rd_get h15_1)) (And.intro (ok_impl_ztime x15_1.from_ x15_2 h15_2) (And.intro (not_f h15_3) (And.intro (not_f h15_3) (And.intro (not_f h15_3) (And.intro (ok_impl_ztime x15_1.to_ x15_4 h15_4) (And.intro (not_f h15_3) (And.intro (not_f h15_3) (And.intro (not_f h15_5) (And.intro (not_f h15_5) (And.intro (not_f h15_5) (And.intro (not_f h15_5) (And.intro (not_f h15_5) (And.intro (not_f h15_5) (And.intro h15_6 (And.intro h15_6 (And.intro (ok_impl_zcue x15_1 x15_7 h15_7) (And.intro h15_6 (And.intro h15_6 (And.intro (not_f h15_8) (And.intro (not_f h15_8) (And.intro (not_f h15_8) (And.intro h15_9 (And.intro h15_9 (And.intro h15_9 (And.intro h15_9 (And.intro h15_9 (And.intro h15_9 (And.intro h15_9 (And.intro h15_9 (And.intro h15_9 (And.intro (not_f h15_8) (And.intro h15_9 (And.intro (not_f h15_8) (And.intro (Eq.refl false) True.intro))))))))))))))))))))))))))))))))))))) ?_ (by kernel_rfl)
              exact hin (w64 (i15_0 + 1)) (Option.some.inj hm).symm
          · skip
            have hQ : Q = Post vf_impl_GoodCues (res_impl_GoodCues false) := hout (.inl false) (Option.some.inj hm).symm
            subst hQ
            exact go_end [.bit true, .row (rS_Cue x15_1), .res (res_impl_ztime x15_2), .bit false, .bit false, .bit false, .res (res_impl_ztime x15_4), .bit false, .bit false, .bit false, .bit false, .bit false, .bit false, .bit false, .bit false, .bit false, .bit false, .res (res_impl_zcue x15_7), .bit false, .bit false, .bit true, .bit true, .bit true, .bit true, .bit true, .bit true] 1000 (And.intro h15_0 (And.intro (rd_nn h15_1) (And.intro (at_row rS_Cue (rd_get h15_1)) (And.intro (ok_impl_ztime x15_1.from_ x15_2 h15_2) (And.intro (not_f h15_3) (And.intro (not_f h15_3) (And.intro (not_f h15_3) (And.intro (ok_impl_ztime x15_1.to_ x15_4 h15_4) (And.intro (not_f h15_3) (And.intro (not_f h15_3) (And.intro (not_f h15_5) (And.intro (not_f h15_5) (And.intro (not_f h15_5) (And.intro (not_f h15_5) (And.intro (not_f h15_5) (And.intro (not_f h15_5) (And.intro h15_6 (And.intro h15_6 (And.intro (ok_impl_zcue x15_1 x15_7 h15_7) (And.intro h15_6 (And.intro h15_6 (And.intro (not_t h15_8) (And.intro (not_t h15_8) (And.intro (not_t h15_8) (And.intro (not_t h15_8) (And.intro (not_t h15_8) (And.intro (Eq.refl true) True.intro))))))))))))))))))))))))))) (rfl : res_impl_GoodCues false = res_impl_GoodCues false) (by kernel_rfl)
      · skip
        have hQ : Q = Post vf_impl_GoodCues (res_impl_GoodCues false) := hout (.inl false) (Option.some.inj hm).symm
        subst hQ
        exact go_end [.bit true, .row (rS_Cue x15_1), .res (res_impl_ztime x15_2), .bit false, .bit false, .bit false, .res (res_impl_ztime x15_4), .bit false, .bit false, .bit true, .bit true, .bit true, .bit true, .bit true, .bit true, .bit true, .bit true, .bit true, .bit true, .bit true, .bit true, .bit true, .bit true, .bit true, .bit true] 1000 (And.intro h15_0 (And.intro (rd_nn h15_1) (And.intro (at_row rS_Cue (rd_get h15_1)) (And.intro (ok_impl_ztime x15_1.from_ x15_2 h15_2) (And.intro (not_f h15_3) (And.intro (not_f h15_3) (And.intro (not_f h15_3) (And.intro (ok_impl_ztime x15_1.to_ x15_4 h15_4) (And.intro (not_f h15_3) (And.intro (not_f h15_3) (And.intro (not_t h15_5) (And.intro (not_t h15_5) (And.intro (not_t h15_5) (And.intro (not_t h15_5) (And.intro (not_t h15_5) (And.intro (not_t h15_5) (And.intro (Eq.refl true) (And.intro (Eq.refl true) (And.intro (Eq.refl true) (And.intro (Eq.refl true) (And.intro (Eq.refl true) (And.intro (Eq.refl true) (And.intro (Eq.refl true) (And.intro (Eq.refl true) (And.intro (Eq.refl true) (And.intro (Eq.refl true) True.intro)))))))))))))))))))))))))) (rfl : res_impl_GoodCues false = res_impl_GoodCues false) (by kernel_rfl)
    · skip
      have hQ : Q = Post vf_impl_GoodCues (res_impl_GoodCues false) := hout (.inl false) (Option.some.inj hm).symm
      subst hQ
      exact go_end [.bit true, .row (rS_Cue x15_1), .res (res_impl_ztime x15_2), .bit true, .bit true, .bit true, .bit true, .bit true, .bit true, .bit true, .bit true, .bit true, .bit true, .bit true, .bit true, .bit true, .bit true, .bit true, .bit true, .bit true, .bit true, .bit true, .bit true, .bit true] 1000 (And.intro h15_0 (And.intro (rd_nn h15_1) (And.intro (at_row rS_Cue (rd_get h15_1)) (And.intro (ok_impl_ztime x15_1.from_ x15_2 h15_2) (And.intro (not_t h15_3) (And.intro (not_t h15_3) (And.intro (not_t h15_3) (And.intro (not_t h15_3) (And.intro (not_t h15_3) (And.intro (Eq.refl true) (And.intro (Eq.refl true) (And.intro (Eq.refl true) (And.intro (Eq.refl true) (And.intro (Eq.refl true) (And.intro (Eq.refl true) (And.intro (Eq.refl true) (And.intro (Eq.refl true) (And.intro (Eq.refl true) (And.intro (Eq.refl true) (And.intro (Eq.refl true) (And.intro (Eq.refl true) (And.intro (Eq.refl true) (And.intro (Eq.refl true) (And.intro (Eq.refl true) (And.intro (Eq.refl true) True.intro))))))))))))))))))))))))) (rfl : res_impl_GoodCues false = res_impl_GoodCues false) (by kernel_rfl)
  · skip
    refine go_on (u' := .c c_impl_GoodCues_33) (K' := K_impl_GoodCues_33) (st' := s_impl_GoodCues_33) [.bit false] 1000 (And.intro h15_0 True.intro) ?_ (by kernel_rfl)
    exact hout (.inr ()) (Option.some.inj hm).symm

theorem ok_impl_GoodCues_0 (p0 : (List S_Cue)) (r : Bool) (hm : m_impl_GoodCues_0 p0 = some r) : EvU ext tbl (.c c_impl_GoodCues_0) K_impl_GoodCues_0 (s_impl_GoodCues_0 p0) (Post vf_impl_GoodCues (res_impl_GoodCues r)) := by
  obtain ⟨h0_0, hm⟩ | ⟨h0_0, hm⟩ := split_ite hm
  · skip
    exact go_end [.num p0.length, .bit true] 1000 (And.intro (len_map rS_Cue (show p0.length = p0.length from rfl)) (And.intro h0_0 True.intro)) (congrArg res_impl_GoodCues (Option.some.inj hm)) (by kernel_rfl)
  · skip
    refine go_on (u' := .c c_impl_GoodCues_15) (K' := K_impl_GoodCues_15) (st' := s_impl_GoodCues_15 p0 0) [.num p0.length, .bit false, .num p0.length] 1000 (And.intro (len_map rS_Cue (show p0.length = p0.length from rfl)) (And.intro h0_0 (And.intro (len_map rS_Cue (show p0.length = p0.length from rfl)) True.intro))) ?_ (by kernel_rfl)
    obtain ⟨e, he, hm⟩ := bind_some hm
    refine loop_rule (u := .c c_impl_GoodCues_15) (K := K_impl_GoodCues_15) (Q := (Post vf_impl_GoodCues (res_impl_GoodCues r))) (b := lp_impl_GoodCues_15 p0) (We := O_impl_GoodCues_15 (Post vf_impl_GoodCues (res_impl_GoodCues r))) (stJ := fun s => s_impl_GoodCues_15 p0 s) (s := 0) (fun s y hb hin hout => ok_impl_GoodCues_15 p0 s y hb (Post vf_impl_GoodCues (res_impl_GoodCues r)) hin hout) he ?_
    rcases e with e | e
    · skip
      exact congrArg (fun r => Post vf_impl_GoodCues (res_impl_GoodCues r)) (Option.some.inj hm).symm
    · skip
      show EvU ext tbl (.c c_impl_GoodCues_33) K_impl_GoodCues_33 (s_impl_GoodCues_33) _
      exact ok_impl_GoodCues_33 r hm

theorem ok_impl_GoodCues (p0 : (List S_Cue)) (r : Bool) (hm : m_impl_GoodCues p0 = some r) : Runs ext tbl 26 (as_impl_GoodCues p0) (res_impl_GoodCues r) :=
  runs_of (vf := vf_impl_GoodCues) (by kernel_rfl) rfl (st := (enter vf_impl_GoodCues (as_impl_GoodCues p0)).getD default) (by kernel_rfl) (go_on [] 1000 True.intro (ok_impl_GoodCues_0 p0 r hm) (by kernel_rfl))
theorem ok_impl_zfloor_7 (i7_0 : Int) (b7_1 : Bool) (r : Int) (hm : m_impl_zfloor_7 i7_0 b7_1 = some r) : EvU ext tbl (.c c_impl_zfloor_7) K_impl_zfloor_7 (s_impl_zfloor_7 i7_0 b7_1) (Post vf_impl_zfloor (res_impl_zfloor r)) := by
  obtain ⟨h7_0, hm⟩ | ⟨h7_0, hm⟩ := split_ite hm
  · skip
    exact go_end [.bit true] 1000 (And.intro h7_0 True.intro) (congrArg res_impl_zfloor (Option.some.inj hm)) (by kernel_rfl)
  · skip
    exact go_end [.bit false] 1000 (And.intro h7_0 True.intro) (congrArg res_impl_zfloor (Option.some.inj hm)) (by kernel_rfl)

theorem ok_impl_zfloor_0 (p0 : Int) (p1 : Int) (r : Int) (hm : m_impl_zfloor_0 p0 p1 = some r) : EvU ext tbl (.c c_impl_zfloor_0) K_impl_zfloor_0 (s_impl_zfloor_0 p0 p1) (Post vf_impl_zfloor (res_impl_zfloor r)) := by
  obtain ⟨x0_0, h0_0, hm⟩ := bind_some hm
  obtain ⟨h0_1, hm⟩ | ⟨h0_1, hm⟩ := split_ite hm
  · skip
    refine go_on (u' := .c c_impl_zfloor_7) (K' := K_impl_zfloor_7) (st' := s_impl_zfloor_7 (w64 (Int.tdiv p0 p1)) (!((decide (p0 < 0)) == (decide (p1 < 0))))) [.bit true, .bit true, .bit true, .bit true, .bit true, .bit true] 1000 (And.intro (ck_p h0_0) (And.intro (ck_p h0_0) (And.intro h0_1 (And.intro h0_1 (And.intro h0_1 (And.intro h0_1 (And.intro h0_1 (And.intro h0_1 True.intro)))))))) ?_ (by kernel_rfl)
    exact ok_impl_zfloor_7 (w64 (Int.tdiv p0 p1)) (!((decide (p0 < 0)) == (decide (p1 < 0)))) r hm
  · skip
    refine go_on (u' := .c c_impl_zfloor_7) (K' := K_impl_zfloor_7) (st' := s_impl_zfloor_7 (w64 (Int.tdiv p0 p1)) false) [.bit false, .bit false, .bit false, .bit false, .bit false, .bit false] 1000 (And.intro (ck_p h0_0) (And.intro (ck_p h0_0) (And.intro h0_1 (And.intro h0_1 (And.intro h0_1 (And.intro h0_1 (And.intro h0_1 (And.intro h0_1 True.intro)))))))) ?_ (by kernel_rfl)
    exact ok_impl_zfloor_7 (w64 (Int.tdiv p0 p1)) false r hm

theorem ok_impl_zfloor (p0 : Int) (p1 : Int) (r : Int) (hm : m_impl_zfloor p0 p1 = some r) : Runs ext tbl 39 (as_impl_zfloor p0 p1) (res_impl_zfloor r) :=
  runs_of (vf := vf_impl_zfloor) (by kernel_rfl) rfl (st := (enter vf_impl_zfloor (as_impl_zfloor p0 p1)).getD default) (by kernel_rfl) (go_on [] 1000 True.intro (ok_impl_zfloor_0 p0 p1 r hm) (by kernel_rfl))
def O_impl_Retime_17 (Q : VX → St → Prop) (e : ((List S_Cue))) : Prop := EvU ext tbl (.c c_impl_Retime_37) K_impl_Retime_37 (s_impl_Retime_37 e) Q
theorem ok_impl_Retime_37 (l37_0 : (List S_Cue)) (r : (List S_Cue)) (hm : m_impl_Retime_37 l37_0 = some r) : EvU ext tbl (.c c_impl_Retime_37) K_impl_Retime_37 (s_impl_Retime_37 l37_0) (Post vf_impl_Retime (res_impl_Retime r)) := by
  exact go_end [.rows (List.map rS_Cue l37_0)] 1000 (And.intro (all_le0 rS_Cue l37_0 rfl) (And.intro (all_t rS_Cue l37_0 rfl) True.intro)) (congrArg res_impl_Retime (Option.some.inj hm)) (by kernel_rfl)

theorem ok_impl_Retime_17 (p1 : Int) (p2 : Int) (p3 : Int) (p0 : (List S_Cue)) (i17_0 : Int) (l17_1 : (List S_Cue)) (y : (Int × (List S_Cue)) ⊕ (((List S_Cue)))) (hm : m_impl_Retime_17 p1 p2 p3 p0 i17_0 l17_1 = some y) (Q : VX → St → Prop)
    (hin : ∀ s, y = .inl s → EvU ext tbl (.c c_impl_Retime_17) K_impl_Retime_17 (s_impl_Retime_17 p1 p2 p3 p0 s.1 s.2) Q) (hout : ∀ e, y = .inr e → O_impl_Retime_17 Q e) : EvU ext tbl (.c c_impl_Retime_17) K_impl_Retime_17 (s_impl_Retime_17 p1 p2 p3 p0 i17_0 l17_1) Q := by
  obtain ⟨h17_0, hm⟩ | ⟨h17_0, hm⟩ := split_ite hm
  · skip
    obtain ⟨x17_1, h17_1, hm⟩ := bind_some hm
    obtain ⟨x17_2, h17_2, hm⟩ := bind_some hm
    obtain ⟨x17_3, h17_3, hm⟩ := bind_some hm
    obtain ⟨h17_4, hm⟩ | ⟨h17_4, hm⟩ := split_ite hm
    · skip
      refine go_on (u' := .c c_impl_Retime_17) (K' := K_impl_Retime_17) (st' := s_impl_Retime_17 p1 p2 p3 p0 (w64 (i17_0 + 1)) l17_1) [.bit true, .row (rS_Cue x17_1), .res (res_impl_zfloor x17_2), .res (res_impl_zfloor x17_3), .bit true, .bit true, .bit true, .bit true, .bit true, .bit true, .bit true, .bit true, .num l17_1.length] 1000 (And.intro h17_0 (And.intro (rd_nn h17_1) (And.intro (at_row rS_Cue (rd_get h17_1)) (And.intro (ok_impl_zfloor (w64 (x17_1.from_ * p1)) p2 x17_2 h17_2) (And.intro (ok_impl_zfloor (w64 (x17_1.to_ * p1)) p2 x17_3 h17_3) (And.intro h17_4 (And.intro h17_4 (And.intro h17_4 (And.intro h17_4 (And.intro (Eq.refl true) (And.intro (Eq.refl true) (And.intro (Eq.refl true) (And.intro (Eq.refl true) (And.intro (lens l17_1.length l17_1.length rfl) True.intro)))))))))))))) ?_ (by kernel_rfl)
      exact hin ((w64 (i17_0 + 1)), l17_1) (Option.some.inj hm).symm
    · skip
      obtain ⟨h17_5, hm⟩ | ⟨h17_5, hm⟩ := split_ite hm
      · skip
        refine go_on (u' := .c c_impl_Retime_17) (K' := K_impl_Retime_17) (st' := s_impl_Retime_17 p1 p2 p3 p0 (w64 (i17_0 + 1)) l17_1) [.bit true, .row (rS_Cue x17_1), .res (res_impl_zfloor x17_2), .res (res_impl_zfloor x17_3), .bit false, .bit false, .bit false, .bit false, .bit true, .bit true, .bit true, .bit true, .num l17_1.length] 1000 (And.intro h17_0 (And.intro (rd_nn h17_1) (And.intro (at_row rS_Cue (rd_get h17_1)) (And.intro (ok_impl_zfloor (w64 (x17_1.from_ * p1)) p2 x17_2 h17_2) (And.intro (ok_impl_zfloor (w64 (x17_1.to_ * p1)) p2 x17_3 h17_3) (And.intro h17_4 (And.intro h17_4 (And.intro h17_4 (And.intro h17_4 (And.intro h17_5 (And.intro h17_5 (And.intro h17_5 (And.intro (Eq.refl true) (And.intro (lens l17_1.length l17_1.length rfl) True.intro)))))))))))))) ?_ (by kernel_rfl)
        exact hin ((w64 (i17_0 + 1)), l17_1) (Option.some.inj hm).symm
      · skip
        obtain ⟨h17_6, hm⟩ | ⟨h17_6, hm⟩ := split_ite hm
        · skip
          refine go_on (u' := .c c_impl_Retime_17) (K' := K_impl_Retime_17) (st' := s_impl_Retime_17 p1 p2 p3 p0 (w64 (i17_0 + 1)) l17_1) [.bit true, .row (rS_Cue x17_1), .res (res_impl_zfloor x17_2), .res (res_impl_zfloor x17_3), .bit false, .bit false, .bit false, .bit false, .bit false, .bit false, .bit false, .bit true, .num l17_1.length] 1000 (And.intro h17_0 (And.intro (rd_nn h17_1) (And.intro (at_row rS_Cue (rd_get h17_1)) (And.intro (ok_impl_zfloor (w64 (x17_1.from_ * p1)) p2 x17_2 h17_2) (And.intro (ok_impl_zfloor (w64 (x17_1.to_ * p1)) p2 x17_3 h17_3) (And.intro h17_4 (And.intro h17_4 (And.intro h17_4 (And.intro h17_4 (And.intro h17_5 (And.intro h17_5 (And.intro h17_5 (And.intro h17_6 (And.intro (lens l17_1.length l17_1.length rfl) True.intro)))))))))))))) ?_ (by kernel_rfl)
          exact hin ((w64 (i17_0 + 1)), l17_1) (Option.some.inj hm).symm
        · skip
          obtain ⟨x17_7, h17_7, hm⟩ := bind_some hm
          obtain ⟨x17_8, h17_8, hm⟩ := bind_some hm
          refine go_on (u' := .c c_impl_Retime_17) (K' := K_impl_Retime_17) (st' := s_impl_Retime_17 p1 p2 p3 p0 (w64 (i17_0 + 1)) (l17_1 ++ ([(S_Cue.mk (mxI (w64 (x17_2 + p3)) 0) (w64 (x17_3 + p3)) (([] : List ByteArray) ++ x17_1.lines))] : List S_Cue))) [.bit true, .row (rS_Cue x17_1), .res (res_impl_zfloor x17_2), .res (res_impl_zfloor x17_3), .bit false, .bit false, .bit false, .bit false, .bit false, .bit false, .bit false, .bit false, .rows (List.map rS ([] : List ByteArray)), .num 0, .rows (List.map rS (([] : List ByteArray) ++ x17_1.lines)), .num ((([] : List ByteArray) ++ x17_1.lines).length), .rows (List.map rS (([] : List ByteArray) ++ x17_1.lines)), .rows (List.map rS_Cue ([(S_Cue.mk (mxI (w64 (x17_2 + p3)) 0) (w64 (x17_3 + p3)) (([] : List ByteArray) ++ x17_1.lines))] : List S_Cue)), .num 1, .rows (List.map rS_Cue (l17_1 ++ ([(S_Cue.mk (mxI (w64 (x17_2 + p3)) 0) (w64 (x17_3 + p3)) (([] : List ByteArray) ++ x17_1.lines))] : List S_Cue))), .num ((l17_1 ++ ([(S_Cue.mk (mxI (w64 (x17_2 + p3)) 0) (w64 (x17_3 + p3)) (([] : List ByteArray) ++ x17_1.lines))] : List S_Cue)).length), .num ((l17_1 ++ ([(S_Cue.mk (mxI (w64 (x17_2 + p3)) 0) (w64 (x17_3 + p3)) (([] : List ByteArray) ++ x17_1.lines))] : List S_Cue)).length)] 1000 (And.intro h17_0 (And.intro (rd_nn h17_1) (And.intro (at_row rS_Cue (rd_get h17_1)) (And.intro (ok_impl_zfloor (w64 (x17_1.from_ * p1)) p2 x17_2 h17_2) (And.intro (ok_impl_zfloor (w64 (x17_1.to_ * p1)) p2 x17_3 h17_3) (And.intro h17_4 (And.intro h17_4 (And.intro h17_4 (And.intro h17_4 (And.intro h17_5 (And.intro h17_5 (And.intro h17_5 (And.intro h17_6 (And.intro (Eq.refl (List.map rS ([] : List ByteArray))) (And.intro (len_map rS (show 0 = ([] : List ByteArray).length from rfl)) (And.intro (app_ck_ro rS ([] : List ByteArray) x17_1.lines rfl h17_7) (And.intro (app_tell_ro rS ([] : List ByteArray) x17_1.lines rfl) (And.intro (len_map rS (show (([] : List ByteArray) ++ x17_1.lines).length = (([] : List ByteArray) ++ x17_1.lines).length from rfl)) (And.intro (all_le0 rS (([] : List ByteArray) ++ x17_1.lines) rfl) (And.intro (all_t rS (([] : List ByteArray) ++ x17_1.lines) rfl) (And.intro (Eq.refl (List.map rS_Cue ([(S_Cue.mk (mxI (w64 (x17_2 + p3)) 0) (w64 (x17_3 + p3)) (([] : List ByteArray) ++ x17_1.lines))] : List S_Cue))) (And.intro (len_map rS_Cue (show 1 = ([(S_Cue.mk (mxI (w64 (x17_2 + p3)) 0) (w64 (x17_3 + p3)) (([] : List ByteArray) ++ x17_1.lines))] : List S_Cue).length from rfl)) (And.intro (all_eq rS_Cue ([(S_Cue.mk (mxI (w64 (x17_2 + p3)) 0) (w64 (x17_3 + p3)) (([] : List ByteArray) ++ x17_1.lines))] : List S_Cue) rfl) (And.intro (all_le rS_Cue ([(S_Cue.mk (mxI (w64 (x17_2 + p3)) 0) (w64 (x17_3 + p3)) (([] : List ByteArray) ++ x17_1.lines))] : List S_Cue) rfl) (And.intro (app_ck_ro rS_Cue l17_1 ([(S_Cue.mk (mxI (w64 (x17_2 + p3)) 0) (w64 (x17_3 + p3)) (([] : List ByteArray) ++ x17_1.lines))] : List S_Cue) rfl h17_8) (And.intro (app_tell_ro rS_Cue l17_1 ([(S_Cue.mk (mxI (w64 (x17_2 + p3)) 0) (w64 (x17_3 + p3)) (([] : List ByteArray) ++ x17_1.lines))] : List S_Cue) rfl) (And.intro (len_map rS_Cue (show (l17_1 ++ ([(S_Cue.mk (mxI (w64 (x17_2 + p3)) 0) (w64 (x17_3 + p3)) (([] : List ByteArray) ++ x17_1.lines))] : List S_Cue)).length = (l17_1 ++ ([(S_Cue.mk (mxI (w64 (x17_2 + p3)) 0) (w64 (x17_3 + p3)) (([] : List ByteArray) ++ x17_1.lines))] : List S_Cue)).length from rfl)) (And.intro (lens ((l17_1 ++ ([(S_Cue.mk (mxI (w64 (x17_2 + p3)) 0) (w64 (x17_3 + p3)) (([] : List ByteArray) ++ x17_1.lines))] : List S_Cue)).length) ((l17_1 ++ ([(S_Cue.mk (mxI (w64 (x17_2 + p3)) 0) (w64 (x17_3 + p3)) (([] : List ByteArray) ++ x17_1.lines))] : List S_Cue)).length) rfl) True.intro)))))))))))))))))))))))))))) ?_ (by kernel_rfl)
          exact hin ((w64 (i17_0 + 1)), (l17_1 ++ ([(S_Cue.mk (mxI (w64 (x17_2 + p3)) 0) (w64 (x17_3 + p3)) (([] : List ByteArray) ++ x17_1.lines))] : List S_Cue))) (Option.some.inj hm).symm
  · skip
    refine go_on (u' := .c c_impl_Retime_37) (K' := K_impl_Retime_37) (st' := s_impl_Retime_37 l17_1) [.bit false, .num l17_1.length] 1000 (And.intro h17_0 (And.intro (lens l17_1.length l17_1.length rfl) True.intro)) ?_ (by kernel_rfl)
    exact hout l17_1 (Option.some.inj hm).symm

theorem ok_impl_Retime_0 (p0 : (List S_Cue)) (p1 : Int) (p2 : Int) (p3 : Int) (r : (List S_Cue)) (hm : m_impl_Retime_0 p0 p1 p2 p3 = some r) : EvU ext tbl (.c c_impl_Retime_0) K_impl_Retime_0 (s_impl_Retime_0 p0 p1 p2 p3) (Post vf_impl_Retime (res_impl_Retime r)) := by
  obtain ⟨x0_0, h0_0, hm⟩ := bind_some hm
  obtain ⟨h0_1, hm⟩ | ⟨h0_1, hm⟩ := split_ite hm
  · skip
    obtain ⟨h0_2, hm⟩ | ⟨h0_2, hm⟩ := split_ite hm
    · skip
      exact go_end [.res (res_impl_GoodCues x0_0), .bit false, .bit false, .bit false, .bit true, .bit true, .bit true, .bit true, .bit true, .bit true, .bit true, .bit true, .bit true, .bit true, .bit true, .bit true, .bit true, .bit true, .bit true, .bit true, .rows (List.map rS_Cue ([] : List S_Cue))] 1000 (And.intro (ok_impl_GoodCues p0 x0_0 h0_0) (And.intro (not_f h0_1) (And.intro (not_f h0_1) (And.intro (not_f h0_1) (And.intro h0_2 (And.intro h0_2 (And.intro h0_2 (And.intro (Eq.refl true) (And.intro (Eq.refl true) (And.intro (Eq.refl true) (And.intro (Eq.refl true) (And.intro (Eq.refl true) (And.intro (Eq.refl true) (And.intro (Eq.refl true) (And.intro (Eq.refl true) (And.intro (Eq.refl true) (And.intro (Eq.refl true) (And.intro (Eq.refl true) (And.intro (Eq.refl true) (And.intro (Eq.refl true) (And.intro (all_le0 rS_Cue ([] : List S_Cue) rfl) (And.intro (all_t rS_Cue ([] : List S_Cue) rfl) True.intro)))))))))))))))))))))) (congrArg res_impl_Retime (Option.some.inj hm)) (by kernel_rfl)
    · skip
      obtain ⟨h0_3, hm⟩ | ⟨h0_3, hm⟩ := split_ite hm
      · skip
        exact go_end [.res (res_impl_GoodCues x0_0), .bit false, .bit false, .bit false, .bit false, .bit false, .bit false, .bit true, .bit true, .bit true, .bit true, .bit true, .bit true, .bit true, .bit true, .bit true, .bit true, .bit true, .bit true, .bit true, .rows (List.map rS_Cue ([] : List S_Cue))] 1000 (And.intro (ok_impl_GoodCues p0 x0_0 h0_0) (And.intro (not_f h0_1) (And.intro (not_f h0_1) (And.intro (not_f h0_1) (And.intro h0_2 (And.intro h0_2 (And.intro h0_2 (And.intro h0_3 (And.intro h0_3 (And.intro h0_3 (And.intro (Eq.refl true) (And.intro (Eq.refl true) (And.intro (Eq.refl true) (And.intro (Eq.refl true) (And.intro (Eq.refl true) (And.intro (Eq.refl true) (And.intro (Eq.refl true) (And.intro (Eq.refl true) (And.intro (Eq.refl true) (And.intro (Eq.refl true) (And.intro (all_le0 rS_Cue ([] : List S_Cue) rfl) (And.intro (all_t rS_Cue ([] : List S_Cue) rfl) True.intro)))))))))))))))))))))) (congrArg res_impl_Retime (Option.some.inj hm)) (by kernel_rfl)
      · skip
        obtain ⟨h0_4, hm⟩ | ⟨h0_4, hm⟩ := split_ite hm
        · skip
          exact go_end [.res (res_impl_GoodCues x0_0), .bit false, .bit false, .bit false, .bit false, .bit false, .bit false, .bit false, .bit false, .bit false, .bit true, .bit true, .bit true, .bit true, .bit true, .bit true, .bit true, .bit true, .bit true, .bit true, .rows (List.map rS_Cue ([] : List S_Cue))] 1000 (And.intro (ok_impl_GoodCues p0 x0_0 h0_0) (And.intro (not_f h0_1) (And.intro (not_f h0_1) (And.intro (not_f h0_1) (And.intro h0_2 (And.intro h0_2 (And.intro h0_2 (And.intro h0_3 (And.intro h0_3 (And.intro h0_3 (And.intro h0_4 (And.intro h0_4 (And.intro h0_4 (And.intro (Eq.refl true) (And.intro (Eq.refl true) (And.intro (Eq.refl true) (And.intro (Eq.refl true) (And.intro (Eq.refl true) (And.intro (Eq.refl true) (And.intro (Eq.refl true) (And.intro (all_le0 rS_Cue ([] : List S_Cue) rfl) (And.intro (all_t rS_Cue ([] : List S_Cue) rfl) True.intro)))))))))))))))))))))) (congrArg res_impl_Retime (Option.some.inj hm)) (by kernel_rfl)
        · skip
          obtain ⟨h0_5, hm⟩ | ⟨h0_5, hm⟩ := split_ite hm
          · skip
            exact go_end [.res (res_impl_GoodCues x0_0), .bit false, .bit false, .bit false, .bit false, .bit false, .bit false, .bit false, .bit false, .bit false, .bit false, .bit false, .bit false, .bit true, .bit true, .bit true, .bit true, .bit true, .bit true, .bit true, .rows (List.map rS_Cue ([] : List S_Cue))] 1000 (And.intro (ok_impl_GoodCues p0 x0_0 h0_0) (And.intro (not_f h0_1) (And.intro (not_f h0_1) (And.intro (not_f h0_1) (And.intro h0_2 (And.intro h0_2 (And.intro h0_2 (And.intro h0_3 (And.intro h0_3 (And.intro h0_3 (And.intro h0_4 (And.intro h0_4 (And.intro h0_4 (And.intro h0_5 (And.intro h0_5 (And.intro h0_5 (And.intro (Eq.refl true) (And.intro (Eq.refl true) (And.intro (Eq.refl true) (And.intro (Eq.refl true) (And.intro (all_le0 rS_Cue ([] : List S_Cue) rfl) (And.intro (all_t rS_Cue ([] : List S_Cue) rfl) True.intro)))))))))))))))))))))) (congrArg res_impl_Retime (Option.some.inj hm)) (by kernel_rfl)
          · skip
            obtain ⟨h0_6, hm⟩ | ⟨h0_6, hm⟩ := split_ite hm
            · skip
              exact go_end [.res (res_impl_GoodCues x0_0), .bit false, .bit false, .bit false, .bit false, .bit false, .bit false, .bit false, .bit false, .bit false, .bit false, .bit false, .bit false, .bit false, .bit false, .bit false, .bit true, .bit true, .bit true, .bit true, .rows (List.map rS_Cue ([] : List S_Cue))] 1000 (And.intro (ok_impl_GoodCues p0 x0_0 h0_0) (And.intro (not_f h0_1) (And.intro (not_f h0_1) (And.intro (not_f h0_1) (And.intro h0_2 (And.intro h0_2 (And.intro h0_2 (And.intro h0_3 (And.intro h0_3 (And.intro h0_3 (And.intro h0_4 (And.intro h0_4 (And.intro h0_4 (And.intro h0_5 (And.intro h0_5 (And.intro h0_5 (And.intro h0_6 (And.intro h0_6 (And.intro h0_6 (And.intro (Eq.refl true) (And.intro (all_le0 rS_Cue ([] : List S_Cue) rfl) (And.intro (all_t rS_Cue ([] : List S_Cue) rfl) True.intro)))))))))))))))))))))) (congrArg res_impl_Retime (Option.some.inj hm)) (by kernel_rfl)
            · skip
              obtain ⟨h0_7, hm⟩ | ⟨h0_7, hm⟩ := split_ite hm
              · skip
                exact go_end [.res (res_impl_GoodCues x0_0), .bit false, .bit false, .bit false, .bit false, .bit false, .bit false, .bit false, .bit false, .bit false, .bit false, .bit false, .bit false, .bit false, .bit false, .bit false, .bit false, .bit false, .bit false, .bit true, .rows (List.map rS_Cue ([] : List S_Cue))] 1000 (And.intro (ok_impl_GoodCues p0 x0_0 h0_0) (And.intro (not_f h0_1) (And.intro (not_f h0_1) (And.intro (not_f h0_1) (And.intro h0_2 (And.intro h0_2 (And.intro h0_2 (And.intro h0_3 (And.intro h0_3 (And.intro h0_3 (And.intro h0_4 (And.intro h0_4 (And.intro h0_4 (And.intro h0_5 (And.intro h0_5 (And.intro h0_5 (And.intro h0_6 (And.intro h0_6 (And.intro h0_6 (And.intro h0_7 (And.intro (all_le0 rS_Cue ([] : List S_Cue) rfl) (And.intro (all_t rS_Cue ([] : List S_Cue) rfl) True.intro)))))))))))))))))))))) (congrArg res_impl_Retime (Option.some.inj hm)) (by kernel_rfl)
              · skip
                refine go_on (u' := .c c_impl_Retime_17) (K' := K_impl_Retime_17) (st' := s_impl_Retime_17 p1 p2 p3 p0 0 ([] : List S_Cue)) [.res (res_impl_GoodCues x0_0), .bit false, .bit false, .bit false, .bit false, .bit false, .bit false, .bit false, .bit false, .bit false, .bit false, .bit false, .bit false, .bit false, .bit false, .bit false, .bit false, .bit false, .bit false, .bit false, .num p0.length, .num (([] : List S_Cue).length)] 1000 (And.intro (ok_impl_GoodCues p0 x0_0 h0_0) (And.intro (not_f h0_1) (And.intro (not_f h0_1) (And.intro (not_f h0_1) (And.intro h0_2 (And.intro h0_2 (And.intro h0_2 (And.intro h0_3 (And.intro h0_3 (And.intro h0_3 (And.intro h0_4 (And.intro h0_4 (And.intro h0_4 (And.intro h0_5 (And.intro h0_5 (And.intro h0_5 (And.intro h0_6 (And.intro h0_6 (And.intro h0_6 (And.intro h0_7 (And.intro (len_map rS_Cue (show p0.length = p0.length from rfl)) (And.intro (lens 0 (([] : List S_Cue).length) rfl) True.intro)))))))))))))))))))))) ?_ (by kernel_rfl)
                obtain ⟨e, he, hm⟩ := bind_some hm
                refine loop_rule (u := .c c_impl_Retime_17) (K := K_impl_Retime_17) (Q := (Post vf_impl_Retime (res_impl_Retime r))) (b := lp_impl_Retime_17 p1 p2 p3 p0) (We := O_impl_Retime_17 (Post vf_impl_Retime (res_impl_Retime r))) (stJ := fun s => s_impl_Retime_17 p1 p2 p3 p0 s.1 s.2) (s := (0, ([] : List S_Cue))) (fun s y hb hin hout => ok_impl_Retime_17 p1 p2 p3 p0 s.1 s.2 y hb (Post vf_impl_Retime (res_impl_Retime r)) hin hout) he ?_
                show EvU ext tbl (.c c_impl_Retime_37) K_impl_Retime_37 (s_impl_Retime_37 e) _
                exact ok_impl_Retime_37 e r hm
  · skip
    exact go_end [.res (res_impl_GoodCues x0_0), .bit true, .bit true, .bit true, .bit true, .bit true, .bit true, .bit true, .bit true, .bit true, .bit true, .bit true, .bit true, .bit true, .bit true, .bit true, .bit true, .bit true, .bit true, .bit true, .rows (List.map rS_Cue ([] : List S_Cue))] 1000 (And.intro (ok_impl_GoodCues p0 x0_0 h0_0) (And.intro (not_t h0_1) (And.intro (not_t h0_1) (And.intro (not_t h0_1) (And.intro (Eq.refl true) (And.intro (Eq.refl true) (And.intro (Eq.refl true) (And.intro (Eq.refl true) (And.intro (Eq.refl true) (And.intro (Eq.refl true) (And.intro (Eq.refl true) (And.intro (Eq.refl true) (And.intro (Eq.refl true) (And.intro (Eq.refl true) (And.intro (Eq.refl true) (And.intro (Eq.refl true) (And.intro (Eq.refl true) (And.intro (Eq.refl true) (And.intro (Eq.refl true) (And.intro (Eq.refl true) (And.intro (all_le0 rS_Cue ([] : List S_Cue) rfl) (And.intro (all_t rS_Cue ([] : List S_Cue) rfl) True.intro)))))))))))))))))))))) (congrArg res_impl_Retime (Option.some.inj hm)) (by kernel_rfl)

theorem ok_impl_Retime (p0 : (List S_Cue)) (p1 : Int) (p2 : Int) (p3 : Int) (r : (List S_Cue)) (hm : m_impl_Retime p0 p1 p2 p3 = some r) : Runs ext tbl 22 (as_impl_Retime p0 p1 p2 p3) (res_impl_Retime r) :=
  runs_of (vf := vf_impl_Retime) (by kernel_rfl) rfl (st := (enter vf_impl_Retime (as_impl_Retime p0 p1 p2 p3)).getD default) (by kernel_rfl) (go_on [] 1000 True.intro (ok_impl_Retime_0 p0 p1 p2 p3 r hm) (by kernel_rfl))
def O_laws_eqStringS_15 (Q : VX → St → Prop) (e : (Bool) ⊕ ((Unit))) : Prop := match e with | .inl e => Q = Post vf_laws_eqStringS (res_laws_eqStringS e) | .inr e => EvU ext tbl (.c c_laws_eqStringS_31) K_laws_eqStringS_31 (s_laws_eqStringS_31) Q
theorem ok_laws_eqStringS_31 (r : Bool) (hm : m_laws_eqStringS_31 = some r) : EvU ext tbl (.c c_laws_eqStringS_31) K_laws_eqStringS_31 (s_laws_eqStringS_31) (Post vf_laws_eqStringS (res_laws_eqStringS r)) := by
  exact go_end [] 1000 True.intro (congrArg res_laws_eqStringS (Option.some.inj hm)) (by kernel_rfl)

theorem ok_laws_eqStringS_15 (p0 : (List ByteArray)) (p1 : (List ByteArray)) (i15_0 : Int) (y : (Int) ⊕ ((Bool) ⊕ ((Unit)))) (hm : m_laws_eqStringS_15 p0 p1 i15_0 = some y) (Q : VX → St → Prop)
    (hin : ∀ s, y = .inl s → EvU ext tbl (.c c_laws_eqStringS_15) K_laws_eqStringS_15 (s_laws_eqStringS_15 p0 p1 s) Q) (hout : ∀ e, y = .inr e → O_laws_eqStringS_15 Q e) : EvU ext tbl (.c c_laws_eqStringS_15) K_laws_eqStringS_15 (s_laws_eqStringS_15 p0 p1 i15_0) Q := by
  obtain ⟨h15_0, hm⟩ | ⟨h15_0, hm⟩ := split_ite hm
  · skip
    obtain ⟨x15_1, h15_1, hm⟩ := bind_some hm
    obtain ⟨x15_2, h15_2, hm⟩ := bind_some hm
    obtain ⟨h15_3, hm⟩ | ⟨h15_3, hm⟩ := split_ite hm
    · skip
      refine go_on (u' := .c c_laws_eqStringS_15) (K' := K_laws_eqStringS_15) (st' := s_laws_eqStringS_15 p0 p1 (w64 (i15_0 + 1))) [.num p0.length, .bit true, .row (rS x15_1), .row (rS x15_2), .bit false] 1000 (And.intro (len_map rS (show p0.length = p0.length from rfl)) (And.intro h15_0 (And.intro (rd_nn h15_1) (And.intro (at_row rS (rd_get h15_1)) (And.intro (rd_nn h15_2) (And.intro (at_row rS (rd_get h15_2)) (And.intro (not_f h15_3) True.intro))))))) ?_ (by kernel_rfl)
      exact hin (w64 (i15_0 + 1)) (Option.some.inj hm).symm
    · skip
      have hQ : Q = Post vf_laws_eqStringS (res_laws_eqStringS false) := hout (.inl false) (Option.some.inj hm).symm
      subst hQ
      exact go_end [.num p0.length, .bit true, .row (rS x15_1), .row (rS x15_2), .bit true] 1000 (And.intro (len_map rS (show p0.length = p0.length from rfl)) (And.intro h15_0 (And.intro (rd_nn h15_1) (And.intro (at_row rS (rd_get h15_1)) (And.intro (rd_nn h15_2) (And.intro (at_row rS (rd_get h15_2)) (And.intro (not_t h15_3) True.intro))))))) (rfl : res_laws_eqStringS false = res_laws_eqStringS false) (by kernel_rfl)
  · skip
    refine go_on (u' := .c c_laws_eqStringS_31) (K' := K_laws_eqStringS_31) (st' := s_laws_eqStringS_31) [.num p0.length, .bit false] 1000 (And.intro (len_map rS (show p0.length = p0.length from rfl)) (And.intro h15_0 True.intro)) ?_ (by kernel_rfl)
    exact hout (.inr ()) (Option.some.inj hm).symm

theorem ok_laws_eqStringS_0 (p0 : (List ByteArray)) (p1 : (List ByteArray)) (r : Bool) (hm : m_laws_eqStringS_0 p0 p1 = some r) : EvU ext tbl (.c c_laws_eqStringS_0) K_laws_eqStringS_0 (s_laws_eqStringS_0 p0 p1) (Post vf_laws_eqStringS (res_laws_eqStringS r)) := by
  obtain ⟨h0_0, hm⟩ | ⟨h0_0, hm⟩ := split_ite hm
  · skip
    exact go_end [.num p0.length, .num p1.length, .bit true] 1000 (And.intro (len_map rS (show p0.length = p0.length from rfl)) (And.intro (len_map rS (show p1.length = p1.length from rfl)) (And.intro h0_0 True.intro))) (congrArg res_laws_eqStringS (Option.some.inj hm)) (by kernel_rfl)
  · skip
    refine go_on (u' := .c c_laws_eqStringS_15) (K' := K_laws_eqStringS_15) (st' := s_laws_eqStringS_15 p0 p1 0) [.num p0.length, .num p1.length, .bit false] 1000 (And.intro (len_map rS (show p0.length = p0.length from rfl)) (And.intro (len_map rS (show p1.length = p1.length from rfl)) (And.intro h0_0 True.intro))) ?_ (by kernel_rfl)
    obtain ⟨e, he, hm⟩ := bind_some hm
    refine loop_rule (u := .c c_laws_eqStringS_15) (K := K_laws_eqStringS_15) (Q := (Post vf_laws_eqStringS (res_laws_eqStringS r))) (b := lp_laws_eqStringS_15 p0 p1) (We := O_laws_eqStringS_15 (Post vf_laws_eqStringS (res_laws_eqStringS r))) (stJ := fun s => s_laws_eqStringS_15 p0 p1 s) (s := 0) (fun s y hb hin hout => ok_laws_eqStringS_15 p0 p1 s y hb (Post vf_laws_eqStringS (res_laws_eqStringS r)) hin hout) he ?_
    rcases e with e | e
    · skip
      exact congrArg (fun r => Post vf_laws_eqStringS (res_laws_eqStringS r)) (Option.some.inj hm).symm
    · skip
      show EvU ext tbl (.c c_laws_eqStringS_31) K_laws_eqStringS_31 (s_laws_eqStringS_31) _
      exact ok_laws_eqStringS_31 r hm

theorem ok_laws_eqStringS (p0 : (List ByteArray)) (p1 : (List ByteArray)) (r : Bool) (hm : m_laws_eqStringS p0 p1 = some r) : Runs ext tbl 47 (as_laws_eqStringS p0 p1) (res_laws_eqStringS r) :=
  runs_of (vf := vf_laws_eqStringS) (by kernel_rfl) rfl (st := (enter vf_laws_eqStringS (as_laws_eqStringS p0 p1)).getD default) (by kernel_rfl) (go_on [] 1000 True.intro (ok_laws_eqStringS_0 p0 p1 r hm) (by kernel_rfl))
theorem ok_laws_eqCue_0 (p0 : S_Cue) (p1 : S_Cue) (r : Bool) (hm : m_laws_eqCue_0 p0 p1 = some r) : EvU ext tbl (.c c_laws_eqCue_0) K_laws_eqCue_0 (s_laws_eqCue_0 p0 p1) (Post vf_laws_eqCue (res_laws_eqCue r)) := by
  obtain ⟨h0_0, hm⟩ | ⟨h0_0, hm⟩ := split_ite hm
  · skip
    exact go_end [.bit true] 1000 (And.intro h0_0 True.intro) (congrArg res_laws_eqCue (Option.some.inj hm)) (by kernel_rfl)
  · skip
    obtain ⟨h0_1, hm⟩ | ⟨h0_1, hm⟩ := split_ite hm
    · skip
      exact go_end [.bit false, .bit true] 1000 (And.intro h0_0 (And.intro h0_1 True.intro)) (congrArg res_laws_eqCue (Option.some.inj hm)) (by kernel_rfl)
    · skip
      obtain ⟨x0_2, h0_2, hm⟩ := bind_some hm
      obtain ⟨h0_3, hm⟩ | ⟨h0_3, hm⟩ := split_ite hm
      · skip
        exact go_end [.bit false, .bit false, .res (res_laws_eqStringS x0_2), .bit false] 1000 (And.intro h0_0 (And.intro h0_1 (And.intro (ok_laws_eqStringS p0.lines p1.lines x0_2 h0_2) (And.intro (not_f h0_3) True.intro)))) (congrArg res_laws_eqCue (Option.some.inj hm)) (by kernel_rfl)
      · skip
        exact go_end [.bit false, .bit false, .res (res_laws_eqStringS x0_2), .bit true] 1000 (And.intro h0_0 (And.intro h0_1 (And.intro (ok_laws_eqStringS p0.lines p1.lines x0_2 h0_2) (And.intro (not_t h0_3) True.intro)))) (congrArg res_laws_eqCue (Option.some.inj hm)) (by kernel_rfl)

theorem ok_laws_eqCue (p0 : S_Cue) (p1 : S_Cue) (r : Bool) (hm : m_laws_eqCue p0 p1 = some r) : Runs ext tbl 36 (as_laws_eqCue p0 p1) (res_laws_eqCue r) :=
  runs_of (vf := vf_laws_eqCue) (by kernel_rfl) rfl (st := (enter vf_laws_eqCue (as_laws_eqCue p0 p1)).getD default) (by kernel_rfl) (go_on [] 1000 True.intro (ok_laws_eqCue_0 p0 p1 r hm) (by kernel_rfl))
def O_laws_eqCueS_15 (Q : VX → St → Prop) (e : (Bool) ⊕ ((Unit))) : Prop := match e with | .inl e => Q = Post vf_laws_eqCueS (res_laws_eqCueS e) | .inr e => EvU ext tbl (.c c_laws_eqCueS_31) K_laws_eqCueS_31 (s_laws_eqCueS_31) Q
theorem ok_laws_eqCueS_31 (r : Bool) (hm : m_laws_eqCueS_31 = some r) : EvU ext tbl (.c c_laws_eqCueS_31) K_laws_eqCueS_31 (s_laws_eqCueS_31) (Post vf_laws_eqCueS (res_laws_eqCueS r)) := by
  exact go_end [] 1000 True.intro (congrArg res_laws_eqCueS (Option.some.inj hm)) (by kernel_rfl)

theorem ok_laws_eqCueS_15 (p0 : (List S_Cue)) (p1 : (List S_Cue)) (i15_0 : Int) (y : (Int) ⊕ ((Bool) ⊕ ((Unit)))) (hm : m_laws_eqCueS_15 p0 p1 i15_0 = some y) (Q : VX → St → Prop)
    (hin : ∀ s, y = .inl s → EvU ext tbl (.c c_laws_eqCueS_15) K_laws_eqCueS_15 (s_laws_eqCueS_15 p0 p1 s) Q) (hout : ∀ e, y = .inr e → O_laws_eqCueS_15 Q e) : EvU ext tbl (.c c_laws_eqCueS_15) K_laws_eqCueS_15 (s_laws_eqCueS_15 p0 p1 i15_0) Q := by
  obtain ⟨h15_0, hm⟩ | ⟨h15_0, hm⟩ := split_ite hm
  · skip
    obtain ⟨x15_1, h15_1, hm⟩ := bind_some hm
    obtain ⟨x15_2, h15_2, hm⟩ := bind_some hm
    obtain ⟨x15_3, h15_3, hm⟩ := bind_some hm
    obtain ⟨h15_4, hm⟩ | ⟨h15_4, hm⟩ := split_ite hm
    · skip
      refine go_on (u' := .c c_laws_eqCueS_15) (K' := K_laws_eqCueS_15) (st' := s_laws_eqCueS_15 p0 p1 (w64 (i15_0 + 1))) [.num p0.length, .bit true, .row (rS_Cue x15_1), .row (rS_Cue x15_2), .res (res_laws_eqCue x15_3), .bit false] 1000 (And.intro (len_map rS_Cue (show p0.length = p0.length from rfl)) (And.intro h15_0 (And.intro (rd_nn h15_1) (And.intro (at_row rS_Cue (rd_get h15_1)) (And.intro (rd_nn h15_2) (And.intro (at_row rS_Cue (rd_get h15_2)) (And.intro (ok_laws_eqCue x15_1 x15_2 x15_3 h15_3) (And.intro (not_f h15_4) True.intro)))))))) ?_ (by kernel_rfl)
      exact hin (w64 (i15_0 + 1)) (Option.some.inj hm).symm
    · skip
      have hQ : Q = Post vf_laws_eqCueS (res_laws_eqCueS false) := hout (.inl false) (Option.some.inj hm).symm
      subst hQ
      exact go_end [.num p0.length, .bit true, .row (rS_Cue x15_1), .row (rS_Cue x15_2), .res (res_laws_eqCue x15_3), .bit true] 1000 (And.intro (len_map rS_Cue (show p0.length = p0.length from rfl)) (And.intro h15_0 (And.intro (rd_nn h15_1) (And.intro (at_row rS_Cue (rd_get h15_1)) (And.intro (rd_nn h15_2) (And.intro (at_row rS_Cue (rd_get h15_2)) (And.intro (ok_laws_eqCue x15_1 x15_2 x15_3 h15_3) (And.intro (not_t h15_4) True.intro)))))))) (rfl : res_laws_eqCueS false = res_laws_eqCueS false) (by kernel_rfl)
  · skip
    refine go_on (u' := .c c_laws_eqCueS_31) (K' := K_laws_eqCueS_31) (st' := s_laws_eqCueS_31) [.num p0.length, .bit false] 1000 (And.intro (len_map rS_Cue (show p0.length = p0.length from rfl)) (And.intro h15_0 True.intro)) ?_ (by kernel_rfl)
    exact hout (.inr ()) (Option.some.inj hm).symm

theorem ok_laws_eqCueS_0 (p0 : (List S_Cue)) (p1 : (List S_Cue)) (r : Bool) (hm : m_laws_eqCueS_0 p0 p1 = some r) : EvU ext tbl (.c c_laws_eqCueS_0) K_laws_eqCueS_0 (s_laws_eqCueS_0 p0 p1) (Post vf_laws_eqCueS (res_laws_eqCueS r)) := by
  obtain ⟨h0_0, hm⟩ | ⟨h0_0, hm⟩ := split_ite hm
  · skip
    exact go_end [.num p0.length, .num p1.length, .bit true] 1000 (And.intro (len_map rS_Cue (show p0.length = p0.length from rfl)) (And.intro (len_map rS_Cue (show p1.length = p1.length from rfl)) (And.intro h0_0 True.intro))) (congrArg res_laws_eqCueS (Option.some.inj hm)) (by kernel_rfl)
  · skip
    refine go_on (u' := .c c_laws_eqCueS_15) (K' := K_laws_eqCueS_15) (st' := s_laws_eqCueS_15 p0 p1 0) [.num p0.length, .num p1.length, .bit false] 1000 (And.intro (len_map rS_Cue (show p0.length = p0.length from rfl)) (And.intro (len_map rS_Cue (show p1.length = p1.length from rfl)) (And.intro h0_0 True.intro))) ?_ (by kernel_rfl)
    obtain ⟨e, he, hm⟩ := bind_some hm
    refine loop_rule (u := .c c_laws_eqCueS_15) (K := K_laws_eqCueS_15) (Q := (Post vf_laws_eqCueS (res_laws_eqCueS r))) (b := lp_laws_eqCueS_15 p0 p1) (We := O_laws_eqCueS_15 (Post vf_laws_eqCueS (res_laws_eqCueS r))) (stJ := fun s => s_laws_eqCueS_15 p0 p1 s) (s := 0) (fun s y hb hin hout => ok_laws_eqCueS_15 p0 p1 s y hb (Post vf_laws_eqCueS (res_laws_eqCueS r)) hin hout) he ?_
    rcases e with e | e
    · skip
      exact congrArg (fun r => Post vf_laws_eqCueS (res_laws_eqCueS r)) (Option.some.inj hm).symm
    · skip
      show EvU ext tbl (.c c_laws_eqCueS_31) K_laws_eqCueS_31 (s_laws_eqCueS_31) _
      exact ok_laws_eqCueS_31 r hm

theorem ok_laws_eqCueS (p0 : (List S_Cue)) (p1 : (List S_Cue)) (r : Bool) (hm : m_laws_eqCueS p0 p1 = some r) : Runs ext tbl 17 (as_laws_eqCueS p0 p1) (res_laws_eqCueS r) :=
  runs_of (vf := vf_laws_eqCueS) (by kernel_rfl) rfl (st := (enter vf_laws_eqCueS (as_laws_eqCueS p0 p1)).getD default) (by kernel_rfl) (go_on [] 1000 True.intro (ok_laws_eqCueS_0 p0 p1 r hm) (by kernel_rfl))
def O_laws_markText_15 (Q : VX → St → Prop) (e : (ByteArray)) : Prop := EvU ext tbl (.c c_laws_markText_25) K_laws_markText_25 (s_laws_markText_25 e) Q
theorem ok_laws_markText_25 (l25_0 : ByteArray) (r : ByteArray) (hm : m_laws_markText_25 l25_0 = some r) : EvU ext tbl (.c c_laws_markText_25) K_laws_markText_25 (s_laws_markText_25 l25_0) (Post vf_laws_markText (res_laws_markText r)) := by
  obtain ⟨x25_0, h25_0, hm⟩ := bind_some hm
  exact go_end [] 1000 (And.intro (ck_p h25_0) True.intro) (congrArg res_laws_markText (Option.some.inj hm)) (by kernel_rfl)

theorem ok_laws_markText_15 (i15_0 : Int) (l15_1 : ByteArray) (y : (Int × ByteArray) ⊕ ((ByteArray))) (hm : m_laws_markText_15 i15_0 l15_1 = some y) (Q : VX → St → Prop)
    (hin : ∀ s, y = .inl s → EvU ext tbl (.c c_laws_markText_15) K_laws_markText_15 (s_laws_markText_15 s.1 s.2) Q) (hout : ∀ e, y = .inr e → O_laws_markText_15 Q e) : EvU ext tbl (.c c_laws_markText_15) K_laws_markText_15 (s_laws_markText_15 i15_0 l15_1) Q := by
  obtain ⟨h15_0, hm⟩ | ⟨h15_0, hm⟩ := split_ite hm
  · skip
    obtain ⟨x15_1, h15_1, hm⟩ := bind_some hm
    obtain ⟨x15_2, h15_2, hm⟩ := bind_some hm
    refine go_on (u' := .c c_laws_markText_15) (K' := K_laws_markText_15) (st' := s_laws_markText_15 (w64 (Int.tdiv i15_0 10)) (x15_1 ++ l15_1)) [.bit true, .rows (List.map (rI .u8) ([(wr .u8 (w64 (48 + (Int.tmod i15_0 10))))] : List Int)), .num 1, .rows (List.map (rI .u8) ([(wr .u8 (w64 (48 + (Int.tmod i15_0 10))))] : List Int)), .str x15_1] 1000 (And.intro h15_0 (And.intro (by decide : (10 : Int) ≠ 0) (And.intro (Eq.refl (List.map (rI .u8) ([(wr .u8 (w64 (48 + (Int.tmod i15_0 10))))] : List Int))) (And.intro (len_map (rI .u8) (show 1 = ([(wr .u8 (w64 (48 + (Int.tmod i15_0 10))))] : List Int).length from rfl)) (And.intro (all_le (rI .u8) ([(wr .u8 (w64 (48 + (Int.tmod i15_0 10))))] : List Int) rfl) (And.intro (all_dt (rI .u8) ([(wr .u8 (w64 (48 + (Int.tmod i15_0 10))))] : List Int) rfl) (And.intro (bstr_t h15_1) (And.intro (ck_p h15_2) (And.intro (by decide : (10 : Int) ≠ 0) True.intro))))))))) ?_ (by kernel_rfl)
    exact hin ((w64 (Int.tdiv i15_0 10)), (x15_1 ++ l15_1)) (Option.some.inj hm).symm
  · skip
    refine go_on (u' := .c c_laws_markText_25) (K' := K_laws_markText_25) (st' := s_laws_markText_25 l15_1) [.bit false] 1000 (And.intro h15_0 True.intro) ?_ (by kernel_rfl)
    exact hout l15_1 (Option.some.inj hm).symm

theorem ok_laws_markText_0 (p0 : Int) (r : ByteArray) (hm : m_laws_markText_0 p0 = some r) : EvU ext tbl (.c c_laws_markText_0) K_laws_markText_0 (s_laws_markText_0 p0) (Post vf_laws_markText (res_laws_markText r)) := by
  obtain ⟨h0_0, hm⟩ | ⟨h0_0, hm⟩ := split_ite hm
  · skip
    exact go_end [.bit true] 1000 (And.intro h0_0 True.intro) (congrArg res_laws_markText (Option.some.inj hm)) (by kernel_rfl)
  · skip
    refine go_on (u' := .c c_laws_markText_15) (K' := K_laws_markText_15) (st' := s_laws_markText_15 p0 (ByteArray.mk #[])) [.bit false] 1000 (And.intro h0_0 True.intro) ?_ (by kernel_rfl)
    obtain ⟨e, he, hm⟩ := bind_some hm
    refine loop_rule (u := .c c_laws_markText_15) (K := K_laws_markText_15) (Q := (Post vf_laws_markText (res_laws_markText r))) (b := lp_laws_markText_15) (We := O_laws_markText_15 (Post vf_laws_markText (res_laws_markText r))) (stJ := fun s => s_laws_markText_15 s.1 s.2) (s := (p0, (ByteArray.mk #[]))) (fun s y hb hin hout => ok_laws_markText_15 s.1 s.2 y hb (Post vf_laws_markText (res_laws_markText r)) hin hout) he ?_
    show EvU ext tbl (.c c_laws_markText_25) K_laws_markText_25 (s_laws_markText_25 e) _
    exact ok_laws_markText_25 e r hm

theorem ok_laws_markText (p0 : Int) (r : ByteArray) (hm : m_laws_markText p0 = some r) : Runs ext tbl 48 (as_laws_markText p0) (res_laws_markText r) :=
  runs_of (vf := vf_laws_markText) (by kernel_rfl) rfl (st := (enter vf_laws_markText (as_laws_markText p0)).getD default) (by kernel_rfl) (go_on [] 1000 True.intro (ok_laws_markText_0 p0 r hm) (by kernel_rfl))
def O_laws_markStringS_7 (Q : VX → St → Prop) (e : (Int × (List ByteArray))) : Prop := EvU ext tbl (.c c_laws_markStringS_19) K_laws_markStringS_19 (s_laws_markStringS_19 e.1 e.2) Q
theorem ok_laws_markStringS_19 (i19_0 : Int) (l19_1 : (List ByteArray)) (r : Int × (List ByteArray)) (hm : m_laws_markStringS_19 i19_0 l19_1 = some r) : EvU ext tbl (.c c_laws_markStringS_19) K_laws_markStringS_19 (s_laws_markStringS_19 i19_0 l19_1) (Post vf_laws_markStringS (res_laws_markStringS r)) := by
  exact go_end [] 1000 True.intro (congrArg res_laws_markStringS (Option.some.inj hm)) (by kernel_rfl)

theorem ok_laws_markStringS_7 (i7_0 : Int) (i7_1 : Int) (l7_2 : (List ByteArray)) (y : (Int × Int × (List ByteArray)) ⊕ ((Int × (List ByteArray)))) (hm : m_laws_markStringS_7 i7_0 i7_1 l7_2 = some y) (Q : VX → St → Prop)
    (hin : ∀ s, y = .inl s → EvU ext tbl (.c c_laws_markStringS_7) K_laws_markStringS_7 (s_laws_markStringS_7 s.1 s.2.1 s.2.2) Q) (hout : ∀ e, y = .inr e → O_laws_markStringS_7 Q e) : EvU ext tbl (.c c_laws_markStringS_7) K_laws_markStringS_7 (s_laws_markStringS_7 i7_0 i7_1 l7_2) Q := by
  obtain ⟨h7_0, hm⟩ | ⟨h7_0, hm⟩ := split_ite hm
  · skip
    obtain ⟨x7_1, h7_1, hm⟩ := bind_some hm
    obtain ⟨x7_2, h7_2, hm⟩ := bind_some hm
    refine go_on (u' := .c c_laws_markStringS_7) (K' := K_laws_markStringS_7) (st' := s_laws_markStringS_7 (w64 (i7_0 + 1)) (w64 (i7_1 + 1)) (l7_2.set (0 + Int.toNat i7_1) x7_1)) [.bit true, .res (res_laws_markText x7_1), .rows (List.map rS (l7_2.set (0 + Int.toNat i7_1) x7_1)), .num ((l7_2.set (0 + Int.toNat i7_1) x7_1).length)] 1000 (And.intro h7_0 (And.intro (ok_laws_markText i7_0 x7_1 h7_1) (And.intro (rd_in rfl h7_2) (And.intro (put_ob rS x7_1 0 (.lit (.string x7_1)) (rd_get0 h7_2) (by kernel_rfl) (by kernel_rfl)) (And.intro (lens l7_2.length ((l7_2.set (0 + Int.toNat i7_1) x7_1).length) (set_len rfl)) True.intro))))) ?_ (by kernel_rfl)
    exact hin ((w64 (i7_0 + 1)), (w64 (i7_1 + 1)), (l7_2.set (0 + Int.toNat i7_1) x7_1)) (Option.some.inj hm).symm
  · skip
    refine go_on (u' := .c c_laws_markStringS_19) (K' := K_laws_markStringS_19) (st' := s_laws_markStringS_19 i7_0 l7_2) [.bit false, .num l7_2.length] 1000 (And.intro h7_0 (And.intro (lens l7_2.length l7_2.length rfl) True.intro)) ?_ (by kernel_rfl)
    exact hout (i7_0, l7_2) (Option.some.inj hm).symm

theorem ok_laws_markStringS_0 (p1 : Int) (p0 : (List ByteArray)) (r : Int × (List ByteArray)) (hm : m_laws_markStringS_0 p1 p0 = some r) : EvU ext tbl (.c c_laws_markStringS_0) K_laws_markStringS_0 (s_laws_markStringS_0 p1 p0) (Post vf_laws_markStringS (res_laws_markStringS r)) := by
  refine go_on (u' := .c c_laws_markStringS_7) (K' := K_laws_markStringS_7) (st' := s_laws_markStringS_7 p1 0 p0) [.num p0.length] 1000 (And.intro (lens p0.length p0.length rfl) True.intro) ?_ (by kernel_rfl)
  obtain ⟨e, he, hm⟩ := bind_some hm
  refine loop_rule (u := .c c_laws_markStringS_7) (K := K_laws_markStringS_7) (Q := (Post vf_laws_markStringS (res_laws_markStringS r))) (b := lp_laws_markStringS_7) (We := O_laws_markStringS_7 (Post vf_laws_markStringS (res_laws_markStringS r))) (stJ := fun s => s_laws_markStringS_7 s.1 s.2.1 s.2.2) (s := (p1, 0, p0)) (fun s y hb hin hout => ok_laws_markStringS_7 s.1 s.2.1 s.2.2 y hb (Post vf_laws_markStringS (res_laws_markStringS r)) hin hout) he ?_
  show EvU ext tbl (.c c_laws_markStringS_19) K_laws_markStringS_19 (s_laws_markStringS_19 e.1 e.2) _
  exact ok_laws_markStringS_19 e.1 e.2 r hm

theorem ok_laws_markStringS (p0 : (List ByteArray)) (p1 : Int) (r : Int × (List ByteArray)) (hm : m_laws_markStringS p0 p1 = some r) : Runs ext tbl 37 (as_laws_markStringS p0 p1) (res_laws_markStringS r) :=
  runs_of (vf := vf_laws_markStringS) (by kernel_rfl) rfl (st := (enter vf_laws_markStringS (as_laws_markStringS p0 p1)).getD default) (by kernel_rfl) (go_on [.num p0.length] 1000 (And.intro (len_map rS (rfl : p0.length = p0.length)) True.intro) (ok_laws_markStringS_0 p1 p0 r hm) (by kernel_rfl))
def O_laws_markCueS_7 (Q : VX → St → Prop) (e : (Int × (List S_Cue))) : Prop := EvU ext tbl (.c c_laws_markCueS_25) K_laws_markCueS_25 (s_laws_markCueS_25 e.1 e.2) Q
theorem ok_laws_markCueS_25 (i25_0 : Int) (l25_1 : (List S_Cue)) (r : Int × (List S_Cue)) (hm : m_laws_markCueS_25 i25_0 l25_1 = some r) : EvU ext tbl (.c c_laws_markCueS_25) K_laws_markCueS_25 (s_laws_markCueS_25 i25_0 l25_1) (Post vf_laws_markCueS (res_laws_markCueS r)) := by
  exact go_end [] 1000 True.intro (congrArg res_laws_markCueS (Option.some.inj hm)) (by kernel_rfl)

theorem ok_laws_markCueS_7 (i7_0 : Int) (i7_1 : Int) (l7_2 : (List S_Cue)) (y : (Int × Int × (List S_Cue)) ⊕ ((Int × (List S_Cue)))) (hm : m_laws_markCueS_7 i7_0 i7_1 l7_2 = some y) (Q : VX → St → Prop)
    (hin : ∀ s, y = .inl s → EvU ext tbl (.c c_laws_markCueS_7) K_laws_markCueS_7 (s_laws_markCueS_7 s.1 s.2.1 s.2.2) Q) (hout : ∀ e, y = .inr e → O_laws_markCueS_7 Q e) : EvU ext tbl (.c c_laws_markCueS_7) K_laws_markCueS_7 (s_laws_markCueS_7 i7_0 i7_1 l7_2) Q := by
  obtain ⟨h7_0, hm⟩ | ⟨h7_0, hm⟩ := split_ite hm
  · skip
    obtain ⟨x7_1, h7_1, hm⟩ := bind_some hm
    obtain ⟨x7_2, h7_2, hm⟩ := bind_some hm
    obtain ⟨x7_3, h7_3, hm⟩ := bind_some hm
    refine go_on (u' := .c c_laws_markCueS_7) (K' := K_laws_markCueS_7) (st' := s_laws_markCueS_7 x7_2.1 (w64 (i7_1 + 1)) (l7_2.set (0 + Int.toNat i7_1) (S_Cue.mk i7_0 (w64 (i7_0 + 1)) x7_2.2))) [.bit true, .rows (List.map rS_Cue (l7_2.set (0 + Int.toNat i7_1) (S_Cue.mk i7_0 x7_1.to_ x7_1.lines))), .rows (List.map rS_Cue (l7_2.set (0 + Int.toNat i7_1) (S_Cue.mk i7_0 (w64 (i7_0 + 1)) x7_1.lines))), .row (rS_Cue (S_Cue.mk i7_0 (w64 (i7_0 + 1)) x7_1.lines)), .num x7_1.lines.length, .row (rS_Cue (S_Cue.mk i7_0 (w64 (i7_0 + 1)) x7_1.lines)), .res (res_laws_markStringS x7_2), .row (rS_Cue (S_Cue.mk i7_0 (w64 (i7_0 + 1)) x7_1.lines)), .row (rS_Cue (S_Cue.mk i7_0 (w64 (i7_0 + 1)) x7_1.lines)), .rows (List.map rS_Cue (l7_2.set (0 + Int.toNat i7_1) (S_Cue.mk i7_0 (w64 (i7_0 + 1)) x7_2.2))), .num ((l7_2.set (0 + Int.toNat i7_1) (S_Cue.mk i7_0 (w64 (i7_0 + 1)) x7_2.2)).length)] 1000 (And.intro h7_0 (And.intro (rd_in rfl h7_1) (And.intro (put_ob rS_Cue (S_Cue.mk i7_0 x7_1.to_ x7_1.lines) 0 (.lit (.int .i64 i7_0)) (rd_get0 h7_1) (by kernel_rfl) (by kernel_rfl)) (And.intro (rd_in rfl h7_1) (And.intro (put_ob2 rS_Cue (S_Cue.mk i7_0 (w64 (i7_0 + 1)) x7_1.lines) 1 (.lit (.int .i64 (w64 (i7_0 + 1)))) (set_at (S_Cue.mk i7_0 x7_1.to_ x7_1.lines) (rd_get0 h7_1)) (by kernel_rfl) (by kernel_rfl)) (And.intro (rd_in rfl h7_1) (And.intro (at_row rS_Cue (set_at2 (S_Cue.mk i7_0 (w64 (i7_0 + 1)) x7_1.lines) (set_at (S_Cue.mk i7_0 x7_1.to_ x7_1.lines) (rd_get0 h7_1)))) (And.intro (len_map rS (show x7_1.lines.length = x7_1.lines.length from rfl)) (And.intro (at_row rS_Cue (set_at2 (S_Cue.mk i7_0 (w64 (i7_0 + 1)) x7_1.lines) (set_at (S_Cue.mk i7_0 x7_1.to_ x7_1.lines) (rd_get0 h7_1)))) (And.intro (all_eq rS x7_1.lines rfl) (And.intro (ok_laws_markStringS x7_1.lines (w64 ((w64 (i7_0 + 1)) + 1)) x7_2 h7_2) (And.intro (at_row rS_Cue (set_at2 (S_Cue.mk i7_0 (w64 (i7_0 + 1)) x7_1.lines) (set_at (S_Cue.mk i7_0 x7_1.to_ x7_1.lines) (rd_get0 h7_1)))) (And.intro (len2 rS x7_2.2 x7_1.lines (ck_p h7_3)) (And.intro (at_row rS_Cue (set_at2 (S_Cue.mk i7_0 (w64 (i7_0 + 1)) x7_1.lines) (set_at (S_Cue.mk i7_0 x7_1.to_ x7_1.lines) (rd_get0 h7_1)))) (And.intro (upd_ob2 rS_Cue l7_2 (0 + Int.toNat i7_1) (S_Cue.mk i7_0 (w64 (i7_0 + 1)) x7_1.lines) (S_Cue.mk i7_0 (w64 (i7_0 + 1)) x7_1.lines) (S_Cue.mk i7_0 (w64 (i7_0 + 1)) x7_2.2) 2 (.sl (x7_2.2.map rS)) (by kernel_rfl)) (And.intro (lens l7_2.length ((l7_2.set (0 + Int.toNat i7_1) (S_Cue.mk i7_0 (w64 (i7_0 + 1)) x7_2.2)).length) (set_len rfl)) True.intro)))))))))))))))) ?_ (by kernel_rfl)
    exact hin (x7_2.1, (w64 (i7_1 + 1)), (l7_2.set (0 + Int.toNat i7_1) (S_Cue.mk i7_0 (w64 (i7_0 + 1)) x7_2.2))) (Option.some.inj hm).symm
  · skip
    refine go_on (u' := .c c_laws_markCueS_25) (K' := K_laws_markCueS_25) (st' := s_laws_markCueS_25 i7_0 l7_2) [.bit false, .num l7_2.length] 1000 (And.intro h7_0 (And.intro (lens l7_2.length l7_2.length rfl) True.intro)) ?_ (by kernel_rfl)
    exact hout (i7_0, l7_2) (Option.some.inj hm).symm

theorem ok_laws_markCueS_0 (p1 : Int) (p0 : (List S_Cue)) (r : Int × (List S_Cue)) (hm : m_laws_markCueS_0 p1 p0 = some r) : EvU ext tbl (.c c_laws_markCueS_0) K_laws_markCueS_0 (s_laws_markCueS_0 p1 p0) (Post vf_laws_markCueS (res_laws_markCueS r)) := by
  refine go_on (u' := .c c_laws_markCueS_7) (K' := K_laws_markCueS_7) (st' := s_laws_markCueS_7 p1 0 p0) [.num p0.length] 1000 (And.intro (lens p0.length p0.length rfl) True.intro) ?_ (by kernel_rfl)
  obtain ⟨e, he, hm⟩ := bind_some hm
  refine loop_rule (u := .c c_laws_markCueS_7) (K := K_laws_markCueS_7) (Q := (Post vf_laws_markCueS (res_laws_markCueS r))) (b := lp_laws_markCueS_7) (We := O_laws_markCueS_7 (Post vf_laws_markCueS (res_laws_markCueS r))) (stJ := fun s => s_laws_markCueS_7 s.1 s.2.1 s.2.2) (s := (p1, 0, p0)) (fun s y hb hin hout => ok_laws_markCueS_7 s.1 s.2.1 s.2.2 y hb (Post vf_laws_markCueS (res_laws_markCueS r)) hin hout) he ?_
  show EvU ext tbl (.c c_laws_markCueS_25) K_laws_markCueS_25 (s_laws_markCueS_25 e.1 e.2) _
  exact ok_laws_markCueS_25 e.1 e.2 r hm

theorem ok_laws_markCueS (p0 : (List S_Cue)) (p1 : Int) (r : Int × (List S_Cue)) (hm : m_laws_markCueS p0 p1 = some r) : Runs ext tbl 18 (as_laws_markCueS p0 p1) (res_laws_markCueS r) :=
  runs_of (vf := vf_laws_markCueS) (by kernel_rfl) rfl (st := (enter vf_laws_markCueS (as_laws_markCueS p0 p1)).getD default) (by kernel_rfl) (go_on [.num p0.length] 1000 (And.intro (len_map rS_Cue (rfl : p0.length = p0.length)) True.intro) (ok_laws_markCueS_0 p1 p0 r hm) (by kernel_rfl))
def O_laws_heldStringS_7 (Q : VX → St → Prop) (e : (Int) ⊕ ((Int))) : Prop := match e with | .inl e => Q = Post vf_laws_heldStringS (res_laws_heldStringS e) | .inr e => EvU ext tbl (.c c_laws_heldStringS_25) K_laws_heldStringS_25 (s_laws_heldStringS_25 e) Q
theorem ok_laws_heldStringS_25 (i25_0 : Int) (r : Int) (hm : m_laws_heldStringS_25 i25_0 = some r) : EvU ext tbl (.c c_laws_heldStringS_25) K_laws_heldStringS_25 (s_laws_heldStringS_25 i25_0) (Post vf_laws_heldStringS (res_laws_heldStringS r)) := by
  exact go_end [] 1000 True.intro (congrArg res_laws_heldStringS (Option.some.inj hm)) (by kernel_rfl)

theorem ok_laws_heldStringS_7 (p0 : (List ByteArray)) (i7_0 : Int) (i7_1 : Int) (y : (Int × Int) ⊕ ((Int) ⊕ ((Int)))) (hm : m_laws_heldStringS_7 p0 i7_0 i7_1 = some y) (Q : VX → St → Prop)
    (hin : ∀ s, y = .inl s → EvU ext tbl (.c c_laws_heldStringS_7) K_laws_heldStringS_7 (s_laws_heldStringS_7 p0 s.1 s.2) Q) (hout : ∀ e, y = .inr e → O_laws_heldStringS_7 Q e) : EvU ext tbl (.c c_laws_heldStringS_7) K_laws_heldStringS_7 (s_laws_heldStringS_7 p0 i7_0 i7_1) Q := by
  obtain ⟨h7_0, hm⟩ | ⟨h7_0, hm⟩ := split_ite hm
  · skip
    obtain ⟨x7_1, h7_1, hm⟩ := bind_some hm
    obtain ⟨x7_2, h7_2, hm⟩ := bind_some hm
    obtain ⟨h7_3, hm⟩ | ⟨h7_3, hm⟩ := split_ite hm
    · skip
      refine go_on (u' := .c c_laws_heldStringS_7) (K' := K_laws_heldStringS_7) (st' := s_laws_heldStringS_7 p0 (w64 (i7_0 + 1)) (w64 (i7_1 + 1))) [.num p0.length, .bit true, .row (rS x7_1), .res (res_laws_markText x7_2), .bit false] 1000 (And.intro (len_map rS (show p0.length = p0.length from rfl)) (And.intro h7_0 (And.intro (rd_nn h7_1) (And.intro (at_row rS (rd_get h7_1)) (And.intro (ok_laws_markText i7_0 x7_2 h7_2) (And.intro (not_f h7_3) True.intro)))))) ?_ (by kernel_rfl)
      exact hin ((w64 (i7_0 + 1)), (w64 (i7_1 + 1))) (Option.some.inj hm).symm
    · skip
      have hQ : Q = Post vf_laws_heldStringS (res_laws_heldStringS (-1)) := hout (.inl (-1)) (Option.some.inj hm).symm
      subst hQ
      exact go_end [.num p0.length, .bit true, .row (rS x7_1), .res (res_laws_markText x7_2), .bit true] 1000 (And.intro (len_map rS (show p0.length = p0.length from rfl)) (And.intro h7_0 (And.intro (rd_nn h7_1) (And.intro (at_row rS (rd_get h7_1)) (And.intro (ok_laws_markText i7_0 x7_2 h7_2) (And.intro (not_t h7_3) True.intro)))))) (rfl : res_laws_heldStringS (-1) = res_laws_heldStringS (-1)) (by kernel_rfl)
  · skip
    refine go_on (u' := .c c_laws_heldStringS_25) (K' := K_laws_heldStringS_25) (st' := s_laws_heldStringS_25 i7_0) [.num p0.length, .bit false] 1000 (And.intro (len_map rS (show p0.length = p0.length from rfl)) (And.intro h7_0 True.intro)) ?_ (by kernel_rfl)
    exact hout (.inr i7_0) (Option.some.inj hm).symm

theorem ok_laws_heldStringS_0 (p0 : (List ByteArray)) (p1 : Int) (r : Int) (hm : m_laws_heldStringS_0 p0 p1 = some r) : EvU ext tbl (.c c_laws_heldStringS_0) K_laws_heldStringS_0 (s_laws_heldStringS_0 p0 p1) (Post vf_laws_heldStringS (res_laws_heldStringS r)) := by
  refine go_on (u' := .c c_laws_heldStringS_7) (K' := K_laws_heldStringS_7) (st' := s_laws_heldStringS_7 p0 p1 0) [] 1000 True.intro ?_ (by kernel_rfl)
  obtain ⟨e, he, hm⟩ := bind_some hm
  refine loop_rule (u := .c c_laws_heldStringS_7) (K := K_laws_heldStringS_7) (Q := (Post vf_laws_heldStringS (res_laws_heldStringS r))) (b := lp_laws_heldStringS_7 p0) (We := O_laws_heldStringS_7 (Post vf_laws_heldStringS (res_laws_heldStringS r))) (stJ := fun s => s_laws_heldStringS_7 p0 s.1 s.2) (s := (p1, 0)) (fun s y hb hin hout => ok_laws_heldStringS_7 p0 s.1 s.2 y hb (Post vf_laws_heldStringS (res_laws_heldStringS r)) hin hout) he ?_
  rcases e with e | e
  · skip
    exact congrArg (fun r => Post vf_laws_heldStringS (res_laws_heldStringS r)) (Option.some.inj hm).symm
  · skip
    show EvU ext tbl (.c c_laws_heldStringS_25) K_laws_heldStringS_25 (s_laws_heldStringS_25 e) _
    exact ok_laws_heldStringS_25 e r hm

theorem ok_laws_heldStringS (p0 : (List ByteArray)) (p1 : Int) (r : Int) (hm : m_laws_heldStringS p0 p1 = some r) : Runs ext tbl 40 (as_laws_heldStringS p0 p1) (res_laws_heldStringS r) :=
  runs_of (vf := vf_laws_heldStringS) (by kernel_rfl) rfl (st := (enter vf_laws_heldStringS (as_laws_heldStringS p0 p1)).getD default) (by kernel_rfl) (go_on [] 1000 True.intro (ok_laws_heldStringS_0 p0 p1 r hm) (by kernel_rfl))
def O_laws_heldCueS_7 (Q : VX → St → Prop) (e : (Int) ⊕ ((Int))) : Prop := match e with | .inl e => Q = Post vf_laws_heldCueS (res_laws_heldCueS e) | .inr e => EvU ext tbl (.c c_laws_heldCueS_45) K_laws_heldCueS_45 (s_laws_heldCueS_45 e) Q
theorem ok_laws_heldCueS_45 (i45_0 : Int) (r : Int) (hm : m_laws_heldCueS_45 i45_0 = some r) : EvU ext tbl (.c c_laws_heldCueS_45) K_laws_heldCueS_45 (s_laws_heldCueS_45 i45_0) (Post vf_laws_heldCueS (res_laws_heldCueS r)) := by
  exact go_end [] 1000 True.intro (congrArg res_laws_heldCueS (Option.some.inj hm)) (by kernel_rfl)

theorem ok_laws_heldCueS_7 (p0 : (List S_Cue)) (i7_0 : Int) (i7_1 : Int) (y : (Int × Int) ⊕ ((Int) ⊕ ((Int)))) (hm : m_laws_heldCueS_7 p0 i7_0 i7_1 = some y) (Q : VX → St → Prop)
    (hin : ∀ s, y = .inl s → EvU ext tbl (.c c_laws_heldCueS_7) K_laws_heldCueS_7 (s_laws_heldCueS_7 p0 s.1 s.2) Q) (hout : ∀ e, y = .inr e → O_laws_heldCueS_7 Q e) : EvU ext tbl (.c c_laws_heldCueS_7) K_laws_heldCueS_7 (s_laws_heldCueS_7 p0 i7_0 i7_1) Q := by
  obtain ⟨h7_0, hm⟩ | ⟨h7_0, hm⟩ := split_ite hm
  · skip
    obtain ⟨x7_1, h7_1, hm⟩ := bind_some hm
    obtain ⟨h7_2, hm⟩ | ⟨h7_2, hm⟩ := split_ite hm
    · skip
      have hQ : Q = Post vf_laws_heldCueS (res_laws_heldCueS (-1)) := hout (.inl (-1)) (Option.some.inj hm).symm
      subst hQ
      exact go_end [.num p0.length, .bit true, .row (rS_Cue x7_1), .bit true] 1000 (And.intro (len_map rS_Cue (show p0.length = p0.length from rfl)) (And.intro h7_0 (And.intro (rd_nn h7_1) (And.intro (at_row rS_Cue (rd_get h7_1)) (And.intro h7_2 True.intro))))) (rfl : res_laws_heldCueS (-1) = res_laws_heldCueS (-1)) (by kernel_rfl)
    · skip
      obtain ⟨h7_3, hm⟩ | ⟨h7_3, hm⟩ := split_ite hm
      · skip
        have hQ : Q = Post vf_laws_heldCueS (res_laws_heldCueS (-1)) := hout (.inl (-1)) (Option.some.inj hm).symm
        subst hQ
        exact go_end [.num p0.length, .bit true, .row (rS_Cue x7_1), .bit false, .row (rS_Cue x7_1), .bit true] 1000 (And.intro (len_map rS_Cue (show p0.length = p0.length from rfl)) (And.intro h7_0 (And.intro (rd_nn h7_1) (And.intro (at_row rS_Cue (rd_get h7_1)) (And.intro h7_2 (And.intro (rd_nn h7_1) (And.intro (at_row rS_Cue (rd_get h7_1)) (And.intro h7_3 True.intro)))))))) (rfl : res_laws_heldCueS (-1) = res_laws_heldCueS (-1)) (by kernel_rfl)
      · skip
        obtain ⟨x7_4, h7_4, hm⟩ := bind_some hm
        obtain ⟨h7_5, hm⟩ | ⟨h7_5, hm⟩ := split_ite hm
        · skip
          have hQ : Q = Post vf_laws_heldCueS (res_laws_heldCueS (-1)) := hout (.inl (-1)) (Option.some.inj hm).symm
          subst hQ
          exact go_end [.num p0.length, .bit true, .row (rS_Cue x7_1), .bit false, .row (rS_Cue x7_1), .bit false, .row (rS_Cue x7_1), .res (res_laws_heldStringS x7_4), .bit true] 1000 (And.intro (len_map rS_Cue (show p0.length = p0.length from rfl)) (And.intro h7_0 (And.intro (rd_nn h7_1) (And.intro (at_row rS_Cue (rd_get h7_1)) (And.intro h7_2 (And.intro (rd_nn h7_1) (And.intro (at_row rS_Cue (rd_get h7_1)) (And.intro h7_3 (And.intro (rd_nn h7_1) (And.intro (at_row rS_Cue (rd_get h7_1)) (And.intro (ok_laws_heldStringS x7_1.lines (w64 ((w64 (i7_0 + 1)) + 1)) x7_4 h7_4) (And.intro h7_5 True.intro)))))))))))) (rfl : res_laws_heldCueS (-1) = res_laws_heldCueS (-1)) (by kernel_rfl)
        · skip
          refine go_on (u' := .c c_laws_heldCueS_7) (K' := K_laws_heldCueS_7) (st' := s_laws_heldCueS_7 p0 x7_4 (w64 (i7_1 + 1))) [.num p0.length, .bit true, .row (rS_Cue x7_1), .bit false, .row (rS_Cue x7_1), .bit false, .row (rS_Cue x7_1), .res (res_laws_heldStringS x7_4), .bit false] 1000 (And.intro (len_map rS_Cue (show p0.length = p0.length from rfl)) (And.intro h7_0 (And.intro (rd_nn h7_1) (And.intro (at_row rS_Cue (rd_get h7_1)) (And.intro h7_2 (And.intro (rd_nn h7_1) (And.intro (at_row rS_Cue (rd_get h7_1)) (And.intro h7_3 (And.intro (rd_nn h7_1) (And.intro (at_row rS_Cue (rd_get h7_1)) (And.intro (ok_laws_heldStringS x7_1.lines (w64 ((w64 (i7_0 + 1)) + 1)) x7_4 h7_4) (And.intro h7_5 True.intro)))))))))))) ?_ (by kernel_rfl)
          exact hin (x7_4, (w64 (i7_1 + 1))) (Option.some.inj hm).symm
  · skip
    refine go_on (u' := .c c_laws_heldCueS_45) (K' := K_laws_heldCueS_45) (st' := s_laws_heldCueS_45 i7_0) [.num p0.length, .bit false] 1000 (And.intro (len_map rS_Cue (show p0.length = p0.length from rfl)) (And.intro h7_0 True.intro)) ?_ (by kernel_rfl)
    exact hout (.inr i7_0) (Option.some.inj hm).symm

theorem ok_laws_heldCueS_0 (p0 : (List S_Cue)) (p1 : Int) (r : Int) (hm : m_laws_heldCueS_0 p0 p1 = some r) : EvU ext tbl (.c c_laws_heldCueS_0) K_laws_heldCueS_0 (s_laws_heldCueS_0 p0 p1) (Post vf_laws_heldCueS (res_laws_heldCueS r)) := by
  refine go_on (u' := .c c_laws_heldCueS_7) (K' := K_laws_heldCueS_7) (st' := s_laws_heldCueS_7 p0 p1 0) [] 1000 True.intro ?_ (by kernel_rfl)
  obtain ⟨e, he, hm⟩ := bind_some hm
  refine loop_rule (u := .c c_laws_heldCueS_7) (K := K_laws_heldCueS_7) (Q := (Post vf_laws_heldCueS (res_laws_heldCueS r))) (b := lp_laws_heldCueS_7 p0) (We := O_laws_heldCueS_7 (Post vf_laws_heldCueS (res_laws_heldCueS r))) (stJ := fun s => s_laws_heldCueS_7 p0 s.1 s.2) (s := (p1, 0)) (fun s y hb hin hout => ok_laws_heldCueS_7 p0 s.1 s.2 y hb (Post vf_laws_heldCueS (res_laws_heldCueS r)) hin hout) he ?_
  rcases e with e | e
  · skip
    exact congrArg (fun r => Post vf_laws_heldCueS (res_laws_heldCueS r)) (Option.some.inj hm).symm
  · skip
    show EvU ext tbl (.c c_laws_heldCueS_45) K_laws_heldCueS_45 (s_laws_heldCueS_45 e) _
    exact ok_laws_heldCueS_45 e r hm

theorem ok_laws_heldCueS (p0 : (List S_Cue)) (p1 : Int) (r : Int) (hm : m_laws_heldCueS p0 p1 = some r) : Runs ext tbl 23 (as_laws_heldCueS p0 p1) (res_laws_heldCueS r) :=
  runs_of (vf := vf_laws_heldCueS) (by kernel_rfl) rfl (st := (enter vf_laws_heldCueS (as_laws_heldCueS p0 p1)).getD default) (by kernel_rfl) (go_on [] 1000 True.intro (ok_laws_heldCueS_0 p0 p1 r hm) (by kernel_rfl))
end Go.Proofs.V
