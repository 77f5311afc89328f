import Derived.Test.YtcppkjgbnhcikaaFnPlayerV3
import Derived.Test.YtcppkjgbnhcikaaProg
import Derived.KernelRfl
set_option linter.unusedVariables false
set_option maxRecDepth 100000
namespace Go.Proofs.V
open Go
def c_Sz_7:VC:=
 .ite (.s 13) (.d 3 [(0,M 14 0),
  (1,{op:=.nckv 15 (.s 14)}),
  (2,oG 16 15 0),
  (3,oV 17 16 1),
  (4,M 18 0),
  (5,{op:=.nckv 19 (.s 18)}),
  (6,oG 20 19 1),
  (7,oV 21 20 1),
  (8,oX 22 17 21 1),
  (9,oV 23 22 1),
  (10,{op:=.conv 24 .i64 (.s 23)}),
  (11,M 3 24)]) (.skip)
def c_Sz_17:VC:=
 .ite (.s 53) (.seq (.r 7 [M 54 3,
  M 2 54]) (.ret)) (.skip)
def c_Sz_22:VC:=
 .seq (.r 8 [M 55 0,
  {op:=.nck 56 (.s 55)},
  oF 57 56 2,
  oL 58 57 1,
  {op:=.bin 59 .shr (.s 58) (.k (.int .u64 40))},
  {op:=.bin 60 .and (.s 59) (.k (.int .u64 255))},
  {op:=.conv 61 .i64 (.s 60)},
  M 2 61]) (.ret)
def c_Sz_14:VC:=
 .seq (.seq (.d 6 [(0,M 44 0),
  (1,{op:=.nckv 45 (.s 44)}),
  (2,oG 46 45 1),
  (3,oV 47 46 1),
  (4,M 48 0),
  (5,{op:=.nckv 49 (.s 48)}),
  (6,oG 50 49 0),
  (7,oV 51 50 1),
  (8,{op:=.len 52 (.s 51)}),
  (9,{op:=.bin 53 .leq (.s 47) (.s 52)})]) c_Sz_17) c_Sz_22
def c_Sz_12:VC:=
 .seq (.r 5 [M 32 0,
  M 33 0,
  {op:=.nck 34 (.s 33)},
  oF 35 34 2,
  oL 36 35 1,
  {op:=.bin 37 .mul (.s 36) (.k (.int .u64 6364136223846793005))},
  M 38 3,
  {op:=.conv 39 .u64 (.s 38)},
  {op:=.bin 40 .add (.s 37) (.s 39)},
  {op:=.bin 41 .add (.s 40) (.k (.int .u64 1442695040888963407))},
  {op:=.nck 42 (.s 32)},
  oF 43 42 2,
  oS 43 41 1]) c_Sz_14
def c_Sz_10:VC:=
 .seq (.r 4 [M 25 0,
  {op:=.nck 26 (.s 25)},
  oF 27 26 1,
  oL 28 27 1,
  {op:=.bin 29 .add (.s 28) (.k (.int .i64 1))},
  {op:=.nck 30 (.s 25)},
  oF 31 30 1,
  oS 31 29 1]) c_Sz_12
def c_Sz_4:VC:=
 .seq (.seq (.d 2 [(0,M 4 0),
  (1,{op:=.nckv 5 (.s 4)}),
  (2,oG 6 5 1),
  (3,oV 7 6 1),
  (4,M 8 0),
  (5,{op:=.nckv 9 (.s 8)}),
  (6,oG 10 9 0),
  (7,oV 11 10 1),
  (8,{op:=.len 12 (.s 11)}),
  (9,{op:=.bin 13 .lss (.s 7) (.s 12)})]) c_Sz_7) (.kp [0,3] c_Sz_10)
def c_Sz_2:VC:=
 .seq (.r 1 [oN 3 0]) c_Sz_4
def c_Sz_0:VC:=
 .seq (.r 0 [oN 2 0]) c_Sz_2
def vf_Sz:VF:={ pm:=[.mb [.ro [.sc],.sc,.sc]],rm:=[.v [.sc]],nslots:=62,res:=[2],rc:=[],code:=.kp [0] c_Sz_0 }
def c_Sbb_5:VC:=
 .ite (.s 7) (.seq (.r 2 [oN 4 0]) (.ret)) (.skip)
def c_Sbb_15:VC:=
 .ite (.s 11) (.r 5 [M 12 5,
  {op:=.bin 13 .mul (.s 12) (.k (.int .i64 256))},
  M 14 0,
  {op:=.call 15 121 [(.s 14)]},
  {op:=.bin 16 .add (.s 13) (.s 15)},
  M 5 16]) (.skip)
def c_Sbb_21:VC:=
 .ite (.s 18) (.r 7 [M 19 5,
  {op:=.bin 20 .mul (.s 19) (.k (.int .i64 256))},
  M 21 0,
  {op:=.call 22 121 [(.s 21)]},
  {op:=.bin 23 .add (.s 20) (.s 22)},
  M 5 23]) (.skip)
def c_Sbb_24:VC:=
 .seq (.r 8 [M 24 5,
  M 25 1,
  {op:=.bin 26 .rem (.s 24) (.s 25)},
  M 4 26]) (.ret)
def c_Sbb_18:VC:=
 .seq (.seq (.r 6 [M 17 1,
  {op:=.bin 18 .gtr (.s 17) (.k (.int .i64 50000))}]) c_Sbb_21) (.kp [0,1,5] c_Sbb_24)
def c_Sbb_12:VC:=
 .seq (.seq (.r 4 [M 10 1,
  {op:=.bin 11 .gtr (.s 10) (.k (.int .i64 200))}]) c_Sbb_15) (.kp [0,1,5] c_Sbb_18)
def c_Sbb_10:VC:=
 .seq (.r 3 [M 8 0,
  {op:=.call 9 121 [(.s 8)]},
  M 5 9]) c_Sbb_12
def c_Sbb_2:VC:=
 .seq (.seq (.r 1 [M 6 1,
  {op:=.bin 7 .leq (.s 6) (.k (.int .i64 1))}]) c_Sbb_5) c_Sbb_10
def c_Sbb_0:VC:=
 .seq (.r 0 [oN 4 0]) c_Sbb_2
def vf_Sbb:VF:={ pm:=[.mb [.ro [.sc],.sc,.sc],.ro [.sc]],rm:=[.v [.sc]],nslots:=27,res:=[4],rc:=[],code:=.kp [0,1] c_Sbb_0 }
def c_Sbc_19:VC:=
 .r 5 [M 14 5,
  M 15 6,
  M 16 0,
  {op:=.call 17 68 [(.s 16),(.k (.int .i64 95))]},
  {op:=.bin 18 .add (.k (.int .i64 32)) (.s 17)},
  {op:=.conv 19 .u8 (.s 18)},
  oX 20 14 15 1,
  oS 20 19 1]
def c_Sbc_20:VC:=
 .r 6 [{op:=.bin 21 .add (.s 11) (.k (.int .i64 1))},
  M 11 21]
def c_Sbc_15:VC:=
 .seq (.blk 1 (.seq (.r 4 [M 13 11,
  M 6 13]) c_Sbc_19)) c_Sbc_20
def c_Sbc_11:VC:=
 .seq (.ite (.s 12) (.skip) (.exit 0)) c_Sbc_15
def c_Sbc_9:VC:=
 .seq (.r 3 [{op:=.bin 12 .lss (.s 11) (.s 10)}]) c_Sbc_11
def c_Sbc_7:VC:=
 .blk 0 (.loop [0,5,10,11] c_Sbc_9)
def c_Sbc_21:VC:=
 .seq (.r 7 [M 22 5,
  M 4 22]) (.ret)
def c_Sbc_4:VC:=
 .seq (.seq (.r 2 [M 9 5,
  {op:=.len 10 (.s 9)},
  oN 11 0]) c_Sbc_7) (.kp [0,5] c_Sbc_21)
def c_Sbc_2:VC:=
 .seq (.r 1 [M 7 1,
  {op:=.mk 8 (.s 7) [.sc] [(.int .u8 0)] 140737488355328},
  M 5 8]) c_Sbc_4
def c_Sbc_0:VC:=
 .seq (.r 0 [{op:=.nil 4 [.sc]}]) c_Sbc_2
def vf_Sbc:VF:={ pm:=[.mb [.ro [.sc],.sc,.sc],.ro [.sc]],rm:=[.v [.own [.sc]]],nslots:=23,res:=[4],rc:=[],code:=.kp [0,1] c_Sbc_0 }
def c_Sba_2:VC:=
 .seq (.r 1 [M 5 0,
  M 6 1,
  {op:=.call 7 68 [(.s 5),(.s 6)]},
  {op:=.bin 8 .eql (.s 7) (.k (.int .i64 0))},
  M 4 8]) (.ret)
def c_Sba_0:VC:=
 .seq (.r 0 [oK 4 false]) c_Sba_2
def vf_Sba:VF:={ pm:=[.mb [.ro [.sc],.sc,.sc],.ro [.sc]],rm:=[.v [.sc]],nslots:=9,res:=[4],rc:=[],code:=.kp [0,1] c_Sba_0 }
def c_Sx_19:VC:=
 .r 5 [M 14 5,
  M 15 6,
  M 16 0,
  {op:=.call 17 121 [(.s 16)]},
  {op:=.conv 18 .u8 (.s 17)},
  oX 19 14 15 1,
  oS 19 18 1]
def c_Sx_20:VC:=
 .r 6 [{op:=.bin 20 .add (.s 11) (.k (.int .i64 1))},
  M 11 20]
def c_Sx_15:VC:=
 .seq (.blk 1 (.seq (.r 4 [M 13 11,
  M 6 13]) c_Sx_19)) c_Sx_20
def c_Sx_11:VC:=
 .seq (.ite (.s 12) (.skip) (.exit 0)) c_Sx_15
def c_Sx_9:VC:=
 .seq (.r 3 [{op:=.bin 12 .lss (.s 11) (.s 10)}]) c_Sx_11
def c_Sx_7:VC:=
 .blk 0 (.loop [0,5,10,11] c_Sx_9)
def c_Sx_21:VC:=
 .seq (.r 7 [M 21 5,
  M 4 21]) (.ret)
def c_Sx_4:VC:=
 .seq (.seq (.r 2 [M 9 5,
  {op:=.len 10 (.s 9)},
  oN 11 0]) c_Sx_7) (.kp [0,5] c_Sx_21)
def c_Sx_2:VC:=
 .seq (.r 1 [M 7 1,
  {op:=.mk 8 (.s 7) [.sc] [(.int .u8 0)] 140737488355328},
  M 5 8]) c_Sx_4
def c_Sx_0:VC:=
 .seq (.r 0 [{op:=.nil 4 [.sc]}]) c_Sx_2
def vf_Sx:VF:={ pm:=[.mb [.ro [.sc],.sc,.sc],.ro [.sc]],rm:=[.v [.own [.sc]]],nslots:=22,res:=[4],rc:=[],code:=.kp [0,1] c_Sx_0 }
def c_Sh_20:VC:=
 .ite (.s 48) (.seq (.r 8 [oF 54 7 0,
  oL 55 54 1,
  oF 56 8 0,
  oL 57 56 1,
  {op:=.bin 58 .lss (.s 55) (.s 57)},
  M 6 58]) (.ret)) (.skip)
def c_Sh_14:VC:=
 .ite (.s 41) (.seq (.r 6 [M 45 9,
  M 46 10,
  {op:=.bin 47 .lss (.s 45) (.s 46)},
  M 6 47]) (.ret)) (.seq (.r 7 [oF 49 7 0,
  oL 50 49 1,
  oF 51 8 0,
  oL 52 51 1,
  {op:=.bin 53 .neq (.s 50) (.s 52)},
  M 48 53]) c_Sh_20)
def c_Sh_25:VC:=
 .seq (.r 9 [M 59 1,
  M 60 2,
  {op:=.bin 61 .lss (.s 59) (.s 60)},
  M 6 61]) (.ret)
def c_Sh_10:VC:=
 .seq (.blk 0 (.seq (.r 5 [M 42 9,
  M 43 10,
  {op:=.bin 44 .neq (.s 42) (.s 43)},
  M 41 44]) c_Sh_14)) c_Sh_25
def c_Sh_8:VC:=
 .seq (.d 4 [(0,oG 31 8 1),
  (1,oV 32 31 1),
  (2,oG 33 3 0),
  (3,oV 34 33 1),
  (4,oG 35 7 0),
  (5,oV 36 35 1),
  (6,oX 37 34 36 3),
  (7,oG 38 37 1),
  (8,oV 39 38 1),
  (9,{op:=.bin 40 .mul (.s 32) (.s 39)}),
  (10,M 10 40)]) c_Sh_10
def c_Sh_6:VC:=
 .seq (.d 3 [(0,oG 21 7 1),
  (1,oV 22 21 1),
  (2,oG 23 3 0),
  (3,oV 24 23 1),
  (4,oG 25 8 0),
  (5,oV 26 25 1),
  (6,oX 27 24 26 3),
  (7,oG 28 27 1),
  (8,oV 29 28 1),
  (9,{op:=.bin 30 .mul (.s 22) (.s 29)}),
  (10,M 9 30)]) c_Sh_8
def c_Sh_4:VC:=
 .seq (.r 2 [oF 16 3 1,
  oL 17 16 1,
  M 18 2,
  oX 19 17 18 5,
  {op:=.ld 20 (.s 19) 5 true},
  {op:=.alloc 8 [.k (.int .i64 0),.k (.int .i64 0),.k (.int .i64 0),.k (.bool false),.o [.sc]]},
  oS 8 20 5]) c_Sh_6
def c_Sh_2:VC:=
 .seq (.r 1 [oF 11 3 1,
  oL 12 11 1,
  M 13 1,
  oX 14 12 13 5,
  {op:=.ld 15 (.s 14) 5 true},
  {op:=.alloc 7 [.k (.int .i64 0),.k (.int .i64 0),.k (.int .i64 0),.k (.bool false),.o [.sc]]},
  oS 7 15 5]) c_Sh_4
def c_Sh_0:VC:=
 .seq (.r 0 [{op:=.box 3 (.s 0)},
  oK 6 false]) c_Sh_2
def vf_Sh:VF:={ pm:=[.ro [.ro q3,.ro q5],.ro [.sc],.ro [.sc]],rm:=[.v [.sc]],nslots:=62,res:=[6],rc:=[],code:=.kp [0,1,2] c_Sh_0 }
def c_Sf_8:VC:=
 .seq (.r 4 [{op:=.ld 10 (.s 1) 5 true},
  oS 2 10 5]) (.ret)
def c_Sf_6:VC:=
 .seq (.r 3 [M 8 3,
  oF 9 1 4,
  oS 9 8 1]) c_Sf_8
def c_Sf_4:VC:=
 .seq (.r 2 [M 4 3,
  oF 5 1 4,
  oL 6 5 1,
  {op:=.app 7 (.s 4) (.s 6) [.sc] 140737488355328},
  M 3 7]) c_Sf_6
def c_Sf_2:VC:=
 .seq (.r 1 [{op:=.nil 3 [.sc]}]) c_Sf_4
def c_Sf_0:VC:=
 .seq (.r 0 [{op:=.box 1 (.s 0)},
  {op:=.alloc 2 [.k (.int .i64 0),.k (.int .i64 0),.k (.int .i64 0),.k (.bool false),.o [.sc]]}]) c_Sf_2
def vf_Sf:VF:={ pm:=[.ro q5],rm:=[.v [.sc,.sc,.sc,.sc,.own [.sc]]],nslots:=11,res:=[2],rc:=[some (5,true)],code:=.kp [0] c_Sf_0 }
def c_Sm_23:VC:=
 .r 7 [M 27 4,
  M 28 5,
  M 29 5,
  oX 30 27 28 1,
  oS 30 29 1]
def c_Sm_24:VC:=
 .r 8 [{op:=.bin 31 .add (.s 24) (.k (.int .i64 1))},
  M 24 31]
def c_Sm_19:VC:=
 .seq (.blk 1 (.seq (.r 6 [M 26 24,
  M 5 26]) c_Sm_23)) c_Sm_24
def c_Sm_15:VC:=
 .seq (.ite (.s 25) (.skip) (.exit 0)) c_Sm_19
def c_Sm_13:VC:=
 .seq (.r 5 [{op:=.bin 25 .lss (.s 24) (.s 23)}]) c_Sm_15
def c_Sm_11:VC:=
 .blk 0 (.loop [1,2,3,4,23,24] c_Sm_13)
def c_Sm_33:VC:=
 .ite (.s 35) (.skip) (.exit 2)
def c_Sm_45:VC:=
 .ite (.s 53) (.skip) (.exit 4)
def c_Sm_54:VC:=
 .r 17 [M 68 4,
  M 69 7,
  {op:=.bin 70 .sub (.s 69) (.k (.int .i64 1))},
  M 71 8,
  oX 72 68 70 1,
  oS 72 71 1]
def c_Sm_52:VC:=
 .seq (.r 16 [M 60 4,
  M 61 7,
  M 62 4,
  M 63 7,
  {op:=.bin 64 .sub (.s 63) (.k (.int .i64 1))},
  oX 65 62 64 1,
  oL 66 65 1,
  oX 67 60 61 1,
  oS 67 66 1]) c_Sm_54
def c_Sm_55:VC:=
 .r 14 [M 54 7,
  {op:=.bin 55 .sub (.s 54) (.k (.int .i64 1))},
  M 7 55]
def c_Sm_48:VC:=
 .seq (.blk 5 (.seq (.r 15 [M 56 4,
  M 57 7,
  oX 58 56 57 1,
  oL 59 58 1,
  M 8 59]) c_Sm_52)) c_Sm_55
def c_Sm_42:VC:=
 .seq (.seq (.d 13 [(0,M 39 7),
  (1,{op:=.bin 40 .gtr (.s 39) (.k (.int .i64 0))}),
  (2,M 41 40),
  (3,⟨none,[],some (41,true),.ldv 42 (.s 1) 2 true⟩),
  (4,⟨none,[],some (41,true),.mv 43 (.s 4)⟩),
  (5,⟨none,[],some (41,true),.mv 44 (.s 7)⟩),
  (6,⟨none,[],some (41,true),.iadr 45 (.s 43) (.s 44) 1⟩),
  (7,⟨none,[],some (41,true),.ld 46 (.s 45) 1 false⟩),
  (8,⟨none,[],some (41,true),.mv 47 (.s 4)⟩),
  (9,⟨none,[],some (41,true),.mv 48 (.s 7)⟩),
  (10,⟨none,[],some (41,true),.bin 49 .sub (.s 48) (.k (.int .i64 1))⟩),
  (11,⟨none,[],some (41,true),.iadr 50 (.s 47) (.s 49) 1⟩),
  (12,⟨none,[],some (41,true),.ld 51 (.s 50) 1 false⟩),
  (13,⟨none,[],some (41,true),.call 52 104 [(.s 42),(.s 46),(.s 51)]⟩),
  (14,{op:=.pick 53 (.s 41) (.s 52) (.k (.bool false))})]) c_Sm_45) c_Sm_48
def c_Sm_40:VC:=
 .blk 4 (.loop [1,2,3,4,6,7] c_Sm_42)
def c_Sm_56:VC:=
 .r 11 [M 36 6,
  {op:=.bin 37 .add (.s 36) (.k (.int .i64 1))},
  M 6 37]
def c_Sm_36:VC:=
 .seq (.blk 3 (.seq (.r 12 [M 38 6,
  M 7 38]) c_Sm_40)) (.kp [1,2,3,4,6] c_Sm_56)
def c_Sm_30:VC:=
 .seq (.seq (.r 10 [M 32 6,
  M 33 4,
  {op:=.len 34 (.s 33)},
  {op:=.bin 35 .lss (.s 32) (.s 34)}]) c_Sm_33) c_Sm_36
def c_Sm_28:VC:=
 .blk 2 (.loop [1,2,3,4,6] c_Sm_30)
def c_Sm_72:VC:=
 .d 21 [(0,oG 79 3 1),
  (1,oV 80 79 1),
  (2,oG 81 1 1),
  (3,oV 82 81 1),
  (4,M 83 10),
  (5,oX 84 82 83 5),
  (6,{op:=.ldv 85 (.s 84) 5 true}),
  (7,{op:=.call 86 144 [(.s 85)]}),
  (8,{op:=.lits 87 [.sc,.sc,.sc,.sc,.own [.sc]] [(.s 86)]}),
  (9,{op:=.app 88 (.s 80) (.s 87) [.sc,.sc,.sc,.sc,.own [.sc]] 2513169434916}),
  (10,oG 89 3 1),
  (11,oS 89 88 1)]
def c_Sm_73:VC:=
 .r 22 [{op:=.bin 90 .add (.s 75) (.k (.int .i64 1))},
  M 75 90]
def c_Sm_68:VC:=
 .seq (.blk 7 (.seq (.r 20 [oX 77 73 75 1,
  oL 78 77 1,
  M 10 78]) c_Sm_72)) c_Sm_73
def c_Sm_64:VC:=
 .seq (.ite (.s 76) (.skip) (.exit 6)) c_Sm_68
def c_Sm_62:VC:=
 .seq (.r 19 [{op:=.bin 76 .lss (.s 75) (.s 74)}]) c_Sm_64
def c_Sm_60:VC:=
 .blk 6 (.loop [1,2,3,73,74,75] c_Sm_62)
def c_Sm_74:VC:=
 .seq (.r 23 [{op:=.ld 91 (.s 3) 2 true},
  oS 2 91 2]) (.ret)
def c_Sm_57:VC:=
 .seq (.seq (.r 18 [M 73 4,
  {op:=.len 74 (.s 73)},
  oN 75 0]) c_Sm_60) (.kp [2,3] c_Sm_74)
def c_Sm_25:VC:=
 .seq (.seq (.r 9 [oN 6 1]) c_Sm_28) (.kp [1,2,3,4] c_Sm_57)
def c_Sm_8:VC:=
 .seq (.seq (.r 4 [M 22 4,
  {op:=.len 23 (.s 22)},
  oN 24 0]) c_Sm_11) (.kp [1,2,3,4] c_Sm_25)
def c_Sm_6:VC:=
 .seq (.r 3 [oF 18 1 1,
  oL 19 18 1,
  {op:=.len 20 (.s 19)},
  {op:=.mk 21 (.s 20) [.sc] [(.int .i64 0)] 17592186044416},
  M 4 21]) c_Sm_8
def c_Sm_4:VC:=
 .seq (.r 2 [oF 12 3 0,
  oL 13 12 1,
  oF 14 1 0,
  oL 15 14 1,
  {op:=.app 16 (.s 13) (.s 15) q3 4398046511104},
  oF 17 3 0,
  oS 17 16 1]) c_Sm_6
def c_Sm_2:VC:=
 .seq (.r 1 [{op:=.bld 11 [.o q3,.o [.sc,.sc,.sc,.sc,.own [.sc]]] []},
  {op:=.alloc 3 [.o q3,.o [.sc,.sc,.sc,.sc,.own [.sc]]]},
  oS 3 11 2]) c_Sm_4
def c_Sm_0:VC:=
 .seq (.r 0 [{op:=.box 1 (.s 0)},
  {op:=.alloc 2 [.o q3,.o [.sc,.sc,.sc,.sc,.own [.sc]]]}]) c_Sm_2
def vf_Sm:VF:={ pm:=[.ro [.ro q3,.ro q5]],rm:=[.v [.own q3,.own [.sc,.sc,.sc,.sc,.own [.sc]]]],nslots:=92,res:=[2],rc:=[some (2,true)],code:=.kp [0] c_Sm_0 }
def c_Sw_12:VC:=
 .ite (.s 18) (.skip) (.exit 0)
def c_Sw_21:VC:=
 .r 7 [oF 39 5 0,
  oL 40 39 1,
  {op:=.ld 41 (.s 7) 3 true},
  {op:=.lits 42 q3 [(.s 41)]},
  {op:=.app 43 (.s 40) (.s 42) q3 4398046511104},
  oF 44 5 0,
  oS 44 43 1]
def c_Sw_19:VC:=
 .seq (.r 6 [M 33 0,
  M 34 0,
  {op:=.call 35 68 [(.s 34),(.k (.int .i64 5))]},
  {op:=.call 36 118 [(.s 33),(.s 35)]},
  {op:=.b2s 37 (.s 36)},
  oF 38 7 2,
  oS 38 37 1]) c_Sw_21
def c_Sw_22:VC:=
 .r 4 [M 19 6,
  {op:=.bin 20 .sub (.s 19) (.k (.int .i64 1))},
  M 6 20]
def c_Sw_15:VC:=
 .seq (.blk 1 (.seq (.r 5 [M 21 0,
  {op:=.call 22 68 [(.s 21),(.k (.int .i64 6))]},
  {op:=.bin 23 .add (.k (.int .i64 1)) (.s 22)},
  M 24 0,
  {op:=.call 25 68 [(.s 24),(.k (.int .i64 300))]},
  {op:=.bin 26 .add (.k (.int .i64 1)) (.s 25)},
  {op:=.lits 27 [.sc] [(.k (.int .i64 1)),(.k (.int .i64 25)),(.k (.int .i64 1000)),(.k (.int .i64 44100)),(.s 26)]},
  M 28 0,
  {op:=.call 29 68 [(.s 28),(.k (.int .i64 5))]},
  oX 30 27 29 1,
  oL 31 30 1,
  {op:=.bld 32 [.k (.int .i64 0),.k (.int .i64 0),.k (.string (ByteArray.mk #[]))] [(0,1,(.s 23)),(1,1,(.s 31))]},
  {op:=.alloc 7 [.k (.int .i64 0),.k (.int .i64 0),.k (.string (ByteArray.mk #[]))]},
  oS 7 32 3]) c_Sw_19)) c_Sw_22
def c_Sw_9:VC:=
 .seq (.seq (.r 3 [M 17 6,
  {op:=.bin 18 .gtr (.s 17) (.k (.int .i64 0))}]) c_Sw_12) c_Sw_15
def c_Sw_7:VC:=
 .blk 0 (.loop [0,1,4,5,6] c_Sw_9)
def c_Sw_35:VC:=
 .ite (.s 55) (.skip) (.exit 2)
def c_Sw_48:VC:=
 .r 17 [oF 104 5 1,
  oL 105 104 1,
  {op:=.ld 106 (.s 12) 5 true},
  {op:=.lits 107 [.sc,.sc,.sc,.sc,.own [.sc]] [(.s 106)]},
  {op:=.app 108 (.s 105) (.s 107) [.sc,.sc,.sc,.sc,.own [.sc]] 2513169434916},
  oF 109 5 1,
  oS 109 108 1]
def c_Sw_46:VC:=
 .seq (.d 16 [(0,M 87 8),
  (1,M 88 11),
  (2,⟨some [8],[],none,.iadr 89 (.s 87) (.s 88) 1⟩),
  (3,⟨some [8],[],none,.ldo 90 (.s 89) 1 false⟩),
  (4,M 91 0),
  (6,{op:=.fadk 93 (.s 5) 2 0}),
  (7,{op:=.ldk 94 (.s 93) 2 1 false}),
  (8,M 95 11),
  (9,⟨some [2097156],[],none,.iadr 96 (.s 94) (.s 95) 3⟩),
  (10,⟨some [2097156],[],none,.fadr 97 (.s 96) 1⟩),
  (11,⟨some [2097156],[],none,.ldo 98 (.s 97) 1 false⟩),
  (12,{op:=.bin 99 .quo (.s 98) (.k (.int .i64 200))}),
  (13,{op:=.bin 100 .add (.k (.int .i64 1)) (.s 99)}),
  (5,⟨some [8,1048578,2097156],[],none,.call 92 68 [(.s 91),(.k (.int .i64 60))]⟩),
  (14,{op:=.bin 101 .mul (.s 92) (.s 100)}),
  (15,{op:=.bin 102 .add (.s 90) (.s 101)}),
  (16,oX 103 87 88 1),
  (17,oS 103 102 1)]) c_Sw_48
def c_Sw_44:VC:=
 .seq (.r 15 [M 84 9,
  M 85 11,
  oX 86 84 85 1,
  {op:=.st (.s 86) (.k (.bool true)) 1}]) c_Sw_46
def c_Sw_42:VC:=
 .seq (.pre [.pad 1] (.d 14 [(0,M 63 11),
  (1,M 64 8),
  (2,M 65 11),
  (3,⟨some [8],[],none,.iadr 66 (.s 64) (.s 65) 1⟩),
  (4,⟨some [8],[],none,.ldo 67 (.s 66) 1 false⟩),
  (5,M 68 0),
  (7,M 70 9),
  (8,M 71 11),
  (9,⟨some [9],[],none,.iadr 72 (.s 70) (.s 71) 1⟩),
  (10,⟨some [9],[],none,.ldo 73 (.s 72) 1 false⟩),
  (11,{op:=.un 74 .not (.s 73)}),
  (16,M 79 0),
  (17,M 80 0),
  (6,⟨some [8,9],[],none,.call 69 68 [(.s 68),(.k (.int .i64 50))]⟩),
  (12,M 75 74),
  (13,⟨none,[],some (75,false),.mv 76 (.s 0)⟩),
  (14,⟨some [8],[],some (75,false),.call 77 65 [(.s 76),(.k (.int .i64 3))]⟩),
  (15,{op:=.pick 78 (.s 75) (.k (.bool true)) (.s 77)}),
  (18,⟨some [8],[],none,.call 81 68 [(.s 80),(.k (.int .i64 12))]⟩),
  (19,⟨some [8],[],none,.call 82 119 [(.s 79),(.s 81)]⟩),
  (20,{op:=.bld 83 [.k (.int .i64 0),.k (.int .i64 0),.k (.int .i64 0),.k (.bool false),.k (.slice none 0 0)] [(0,1,(.s 63)),(1,1,(.s 67)),(2,1,(.s 69)),(3,1,(.s 78)),(4,1,(.s 82))]}),
  (21,{op:=.alk 12 [.k (.int .i64 0),.k (.int .i64 0),.k (.int .i64 0),.k (.bool false),.k (.slice none 0 0)] 3}),
  (22,{op:=.stk (.s 12) (.s 83) 3 5})])) (.kp [0,1,4,5,8,9,10,11,12] c_Sw_44)
def c_Sw_49:VC:=
 .r 12 [M 56 10,
  {op:=.bin 57 .add (.s 56) (.k (.int .i64 1))},
  M 10 57]
def c_Sw_38:VC:=
 .seq (.blk 3 (.seq (.r 13 [M 58 0,
  oF 59 5 0,
  oL 60 59 1,
  {op:=.len 61 (.s 60)},
  {op:=.call 62 68 [(.s 58),(.s 61)]},
  M 11 62]) c_Sw_42)) c_Sw_49
def c_Sw_32:VC:=
 .seq (.seq (.r 11 [M 53 10,
  M 54 1,
  {op:=.bin 55 .lss (.s 53) (.s 54)}]) c_Sw_35) c_Sw_38
def c_Sw_30:VC:=
 .blk 2 (.loop [0,1,4,5,8,9,10] c_Sw_32)
def c_Sw_50:VC:=
 .seq (.r 18 [{op:=.ld 110 (.s 5) 2 true},
  {op:=.call 111 120 [(.s 110)]},
  oS 4 111 2]) (.ret)
def c_Sw_27:VC:=
 .seq (.seq (.r 10 [oN 10 0]) c_Sw_30) (.kp [0,4,5] c_Sw_50)
def c_Sw_25:VC:=
 .seq (.r 9 [oF 49 5 0,
  oL 50 49 1,
  {op:=.len 51 (.s 50)},
  {op:=.mk 52 (.s 51) [.sc] [(.bool false)] 140737488355328},
  M 9 52]) c_Sw_27
def c_Sw_23:VC:=
 .seq (.r 8 [oF 45 5 0,
  oL 46 45 1,
  {op:=.len 47 (.s 46)},
  {op:=.mk 48 (.s 47) [.sc] [(.int .i64 0)] 17592186044416},
  M 8 48]) c_Sw_25
def c_Sw_4:VC:=
 .seq (.seq (.r 2 [M 14 0,
  {op:=.call 15 68 [(.s 14),(.k (.int .i64 3))]},
  {op:=.bin 16 .add (.k (.int .i64 1)) (.s 15)},
  M 6 16]) c_Sw_7) (.kp [0,1,4,5] c_Sw_23)
def c_Sw_2:VC:=
 .seq (.r 1 [{op:=.bld 13 [.o q3,.o [.sc,.sc,.sc,.sc,.own [.sc]]] []},
  {op:=.alloc 5 [.o q3,.o [.sc,.sc,.sc,.sc,.own [.sc]]]},
  oS 5 13 2]) c_Sw_4
def c_Sw_0:VC:=
 .seq (.r 0 [{op:=.alloc 4 [.o q3,.o [.sc,.sc,.sc,.sc,.own [.sc]]]}]) c_Sw_2
def vf_Sw:VF:={ pm:=[.mb [.ro [.sc],.sc,.sc],.ro [.sc]],rm:=[.v [.own q3,.own [.sc,.sc,.sc,.sc,.own [.sc]]]],nslots:=112,res:=[4],rc:=[some (2,true)],code:=.kp [0,1] c_Sw_0 }
def c_Sbd_7:VC:=
 .ite (.s 14) (.seq (.r 3 [M 15 2,
  M 6 15]) (.ret)) (.skip)
def c_Sbd_12:VC:=
 .seq (.r 4 [M 16 7,
  M 6 16]) (.ret)
def c_Sbd_4:VC:=
 .seq (.seq (.r 2 [M 12 7,
  M 13 2,
  {op:=.bin 14 .gtr (.s 12) (.s 13)}]) c_Sbd_7) c_Sbd_12
def c_Sbd_2:VC:=
 .seq (.r 1 [M 8 0,
  {op:=.len 9 (.s 8)},
  M 10 1,
  {op:=.bin 11 .quo (.s 9) (.s 10)},
  M 7 11]) c_Sbd_4
def c_Sbd_0:VC:=
 .seq (.r 0 [oN 6 0]) c_Sbd_2
def vf_Sbd:VF:={ pm:=[.ro [.ro [.sc]],.ro [.sc],.ro [.sc]],rm:=[.v [.sc]],nslots:=17,res:=[6],rc:=[],code:=.kp [0,1,2] c_Sbd_0 }
def c_Sg_9:VC:=
 .ite (.s 15) (.r 4 [M 16 4,
  M 17 0,
  {op:=.call 18 117 [(.s 17),(.k (.int .i64 6)),(.k (.int .i64 60))]},
  {op:=.call 19 67 [(.s 16),(.s 18)]},
  oS 5 19 2]) (.skip)
def c_Sg_26:VC:=
 .r 10 [oF 39 5 1,
  oL 40 39 1,
  {op:=.ld 41 (.s 6) 5 true},
  {op:=.iadr 42 (.s 40) (.k (.int .i64 1)) 5},
  oS 42 41 5]
def c_Sg_24:VC:=
 .seq (.d 9 [(0,oG 32 5 1),
  (1,oV 33 32 1),
  (2,oG 34 5 1),
  (3,oV 35 34 1),
  (4,{op:=.iadr 36 (.s 35) (.k (.int .i64 1)) 5}),
  (5,{op:=.ld 37 (.s 36) 5 true}),
  (6,{op:=.iadr 38 (.s 33) (.k (.int .i64 0)) 5}),
  (7,oS 38 37 5)]) c_Sg_26
def c_Sg_21:VC:=
 .ite (.s 27) (.seq (.r 8 [oF 28 5 1,
  oL 29 28 1,
  {op:=.iadr 30 (.s 29) (.k (.int .i64 0)) 5},
  {op:=.ld 31 (.s 30) 5 true},
  {op:=.alloc 6 [.k (.int .i64 0),.k (.int .i64 0),.k (.int .i64 0),.k (.bool false),.k (.slice none 0 0)]},
  oS 6 31 5]) c_Sg_24) (.skip)
def c_Sg_33:VC:=
 .ite (.s 48) (.d 13 [(0,{op:=.fadk 49 (.s 5) 2 1}),
  (1,{op:=.ldk 50 (.s 49) 2 1 false}),
  (2,M 51 4),
  (3,{op:=.fadk 52 (.s 5) 2 1}),
  (4,{op:=.ldk 53 (.s 52) 2 1 false}),
  (5,{op:=.len 54 (.s 53)}),
  (7,{op:=.litr 56 [(.int .i64 (-1)),(.int .i64 1000000000),(.int .i64 1000000001),(.int .i64 3)]}),
  (8,M 57 4),
  (6,⟨some [1048578],[],none,.call 55 68 [(.s 51),(.s 54)]⟩),
  (9,⟨some [1048578],[],none,.call 58 68 [(.s 57),(.k (.int .i64 4))]⟩),
  (10,oX 59 56 58 1),
  (11,{op:=.ldr 60 (.s 59) 1 false}),
  (12,oX 61 50 55 5),
  (13,oF 62 61 1),
  (14,oS 62 60 1)]) (.skip)
def c_Sg_45:VC:=
 .ite (.s 79) (.r 18 [oF 80 5 1,
  oL 81 80 1,
  {op:=.iadr 82 (.s 81) (.k (.int .i64 0)) 5},
  oF 83 82 3,
  {op:=.st (.s 83) (.k (.bool false)) 1}]) (.skip)
def c_Sg_42:VC:=
 .ite (.s 74) (.seq (.r 17 [oF 76 5 1,
  oL 77 76 1,
  {op:=.len 78 (.s 77)},
  {op:=.bin 79 .gtr (.s 78) (.k (.int .i64 0))}]) c_Sg_45) (.skip)
def c_Sg_38:VC:=
 .ite (.s 63) (.d 15 [(0,{op:=.fadk 65 (.s 5) 2 0}),
  (1,{op:=.ldk 66 (.s 65) 2 1 false}),
  (2,{op:=.litr 67 [(.int .i64 0),(.int .i64 1000000),(.int .i64 1000001)]}),
  (3,M 68 4),
  (4,⟨some [1048578],[],none,.call 69 68 [(.s 68),(.k (.int .i64 3))]⟩),
  (5,oX 70 67 69 1),
  (6,{op:=.ldr 71 (.s 70) 1 false}),
  (7,{op:=.iadr 72 (.s 66) (.k (.int .i64 0)) 3}),
  (8,oF 73 72 1),
  (9,oS 73 71 1)]) (.seq (.r 16 [{op:=.bin 75 .eql (.s 21) (.k (.int .i64 3))},
  M 74 75]) c_Sg_42)
def c_Sg_30:VC:=
 .ite (.s 43) (.seq (.r 12 [oF 45 5 1,
  oL 46 45 1,
  {op:=.len 47 (.s 46)},
  {op:=.bin 48 .gtr (.s 47) (.k (.int .i64 0))}]) c_Sg_33) (.seq (.r 14 [{op:=.bin 64 .eql (.s 21) (.k (.int .i64 2))},
  M 63 64]) c_Sg_38)
def c_Sg_18:VC:=
 .ite (.s 22) (.seq (.r 7 [oF 24 5 1,
  oL 25 24 1,
  {op:=.len 26 (.s 25)},
  {op:=.bin 27 .gtr (.s 26) (.k (.int .i64 1))}]) c_Sg_21) (.seq (.r 11 [{op:=.bin 44 .eql (.s 21) (.k (.int .i64 1))},
  M 43 44]) c_Sg_30)
def c_Sg_15:VC:=
 .blk 0 (.seq (.r 6 [{op:=.bin 23 .eql (.s 21) (.k (.int .i64 0))},
  M 22 23]) c_Sg_18)
def c_Sg_49:VC:=
 .seq (.r 19 [{op:=.ld 84 (.s 5) 2 true},
  M 85 4,
  oS 2 84 2,
  M 3 85]) (.ret)
def c_Sg_12:VC:=
 .seq (.seq (.pre [.fzi 19 1 4] (.r 5 [M 20 4,
  {op:=.call 21 68 [(.s 20),(.k (.int .i64 14))]}])) c_Sg_15) (.kp [2,4,5] c_Sg_49)
def c_Sg_6:VC:=
 .seq (.seq (.r 3 [M 14 4,
  {op:=.call 15 65 [(.s 14),(.k (.int .i64 6))]}]) c_Sg_9) (.pre [.fziv 5 1 4] (.kp [2,4,5] c_Sg_12))
def c_Sg_4:VC:=
 .seq (.r 2 [M 10 4,
  M 11 4,
  {op:=.call 12 68 [(.s 11),(.k (.int .i64 12))]},
  {op:=.call 13 67 [(.s 10),(.s 12)]},
  {op:=.alloc 5 [.o q3,.o q5]},
  oS 5 13 2]) c_Sg_6
def c_Sg_2:VC:=
 .seq (.r 1 [M 7 0,
  {op:=.bld 8 [.k (.slice none 0 0),.k (.int .i64 0),.k (.int .u64 0)] [(0,1,(.s 7))]},
  {op:=.box 9 (.s 8)},
  M 4 9]) c_Sg_4
def c_Sg_0:VC:=
 .seq (.r 0 [{op:=.alloc 2 [.o q3,.o q5]},
  {op:=.mv 3 (.k (.pointer none))}]) c_Sg_2
def vf_Sg:VF:={ pm:=[.ro [.ro [.sc]]],rm:=[.v [.own q3,.own q5],.p [.ro [.sc],.sc,.sc]],nslots:=86,res:=[2,3],rc:=[some (2,true),none],code:=.kp [0] c_Sg_0 }
def c_Sy_20:VC:=
 .ite (.s 14) (.d 5 [(0,{op:=.fadk 15 (.s 3) 1 1}),
  (1,{op:=.ldk 16 (.s 15) 1 1 false}),
  (2,M 17 5),
  (3,M 18 0),
  (4,⟨some [1048577],[],none,.call 19 68 [(.s 18),(.k (.int .i64 900))]⟩),
  (5,{op:=.mk 20 (.s 19) [.sc] [(.int .u8 0)] 140737488355328}),
  (6,oX 21 16 17 5),
  (7,oF 22 21 4),
  (8,oS 22 20 1)]) (.skip)
def c_Sy_25:VC:=
 .ite (.s 24) (.d 7 [(0,{op:=.fadk 25 (.s 3) 1 1}),
  (1,{op:=.ldk 26 (.s 25) 1 1 false}),
  (2,M 27 5),
  (3,M 28 0),
  (4,⟨some [1048577],[],none,.call 29 68 [(.s 28),(.k (.int .i64 40))]⟩),
  (5,{op:=.bin 30 .add (.k (.int .i64 1)) (.s 29)}),
  (6,oX 31 26 27 5),
  (7,oF 32 31 2),
  (8,oS 32 30 1)]) (.skip)
def c_Sy_23:VC:=
 .seq (.r 6 [M 23 0,
  {op:=.call 24 65 [(.s 23),(.k (.int .i64 2))]}]) c_Sy_25
def c_Sy_17:VC:=
 .seq (.seq (.r 4 [M 13 0,
  {op:=.call 14 65 [(.s 13),(.k (.int .i64 3))]}]) c_Sy_20) (.kp [0,3,4,5,9,10] c_Sy_23)
def c_Sy_28:VC:=
 .r 8 [{op:=.bin 33 .add (.s 10) (.k (.int .i64 1))},
  M 10 33]
def c_Sy_13:VC:=
 .seq (.blk 1 (.seq (.r 3 [M 12 10,
  M 5 12]) c_Sy_17)) c_Sy_28
def c_Sy_9:VC:=
 .seq (.ite (.s 11) (.skip) (.exit 0)) c_Sy_13
def c_Sy_7:VC:=
 .seq (.r 2 [{op:=.bin 11 .lss (.s 10) (.s 9)}]) c_Sy_9
def c_Sy_5:VC:=
 .blk 0 (.loop [0,3,4,9,10] c_Sy_7)
def c_Sy_46:VC:=
 .ite (.s 41) (.r 13 [oF 42 3 0,
  oL 43 42 1,
  M 44 6,
  oX 45 43 44 3,
  oF 46 45 0,
  {op:=.st (.s 46) (.k (.int .i64 3)) 1}]) (.skip)
def c_Sy_44:VC:=
 .seq (.r 12 [M 40 0,
  {op:=.call 41 65 [(.s 40),(.k (.int .i64 2))]}]) c_Sy_46
def c_Sy_49:VC:=
 .r 14 [{op:=.bin 47 .add (.s 37) (.k (.int .i64 1))},
  M 37 47]
def c_Sy_40:VC:=
 .seq (.blk 3 (.seq (.r 11 [M 39 37,
  M 6 39]) c_Sy_44)) c_Sy_49
def c_Sy_36:VC:=
 .seq (.ite (.s 38) (.skip) (.exit 2)) c_Sy_40
def c_Sy_34:VC:=
 .seq (.r 10 [{op:=.bin 38 .lss (.s 37) (.s 36)}]) c_Sy_36
def c_Sy_32:VC:=
 .blk 2 (.loop [0,3,4,36,37] c_Sy_34)
def c_Sy_50:VC:=
 .seq (.r 15 [{op:=.ld 48 (.s 3) 2 true},
  oS 4 48 2]) (.ret)
def c_Sy_29:VC:=
 .seq (.seq (.r 9 [oF 34 3 0,
  oL 35 34 1,
  {op:=.len 36 (.s 35)},
  oN 37 0]) c_Sy_32) (.kp [0,3,4] c_Sy_50)
def c_Sy_2:VC:=
 .seq (.seq (.r 1 [oF 7 3 1,
  oL 8 7 1,
  {op:=.len 9 (.s 8)},
  oN 10 0]) c_Sy_5) (.kp [0,3,4] c_Sy_29)
def c_Sy_0:VC:=
 .seq (.r 0 [{op:=.box 3 (.s 1)},
  {op:=.alloc 4 [.o q3,.o [.sc,.sc,.sc,.sc,.own [.sc]]]}]) c_Sy_2
def vf_Sy:VF:={ pm:=[.mb [.ro [.sc],.sc,.sc],.mv [.own q3,.own [.sc,.sc,.sc,.sc,.own [.sc]]]],rm:=[.v [.own q3,.own [.sc,.sc,.sc,.sc,.own [.sc]]]],nslots:=49,res:=[4],rc:=[some (2,true)],code:=.kp [0,1] c_Sy_0 }
def c_Sv_14:VC:=
 .ite (.s 14) (.skip) (.exit 0)
def c_Sv_42:VC:=
 .ite (.s 42) (.r 16 [oF 43 7 0,
  {op:=.st (.s 43) (.k (.int .i64 1)) 1}]) (.skip)
def c_Sv_39:VC:=
 .ite (.s 39) (.seq (.r 15 [M 41 0,
  {op:=.call 42 65 [(.s 41),(.k (.int .i64 2))]}]) c_Sv_42) (.skip)
def c_Sv_35:VC:=
 .ite (.s 33) (.r 13 [M 35 0,
  {op:=.call 36 68 [(.s 35),(.k (.int .i64 376))]},
  {op:=.bin 37 .add (.k (.int .i64 25)) (.s 36)},
  oF 38 7 1,
  oS 38 37 1]) (.seq (.r 14 [{op:=.bin 40 .eql (.s 22) (.k (.int .i64 2))},
  M 39 40]) c_Sv_39)
def c_Sv_31:VC:=
 .ite (.s 28) (.r 11 [M 30 0,
  {op:=.call 31 68 [(.s 30),(.k (.int .i64 900))]},
  oF 32 7 1,
  oS 32 31 1]) (.seq (.r 12 [{op:=.bin 34 .eql (.s 22) (.k (.int .i64 5))},
  M 33 34]) c_Sv_35)
def c_Sv_27:VC:=
 .ite (.s 23) (.r 9 [M 25 0,
  {op:=.call 26 68 [(.s 25),(.k (.int .i64 3000))]},
  oF 27 7 1,
  oS 27 26 1]) (.seq (.r 10 [{op:=.bin 29 .eql (.s 22) (.k (.int .i64 4))},
  M 28 29]) c_Sv_31)
def c_Sv_24:VC:=
 .blk 2 (.seq (.r 8 [{op:=.bin 24 .eql (.s 22) (.k (.int .i64 3))},
  M 23 24]) c_Sv_27)
def c_Sv_46:VC:=
 .r 17 [M 44 5,
  {op:=.ld 45 (.s 7) 2 true},
  {op:=.lits 46 [.sc,.sc] [(.s 45)]},
  {op:=.app 47 (.s 44) (.s 46) [.sc,.sc] 8796093022208},
  M 5 47]
def c_Sv_21:VC:=
 .seq (.seq (.r 7 [oF 21 7 0,
  oL 22 21 1]) c_Sv_24) (.kp [0,1,5,6,7] c_Sv_46)
def c_Sv_47:VC:=
 .r 5 [M 15 6,
  {op:=.bin 16 .add (.s 15) (.k (.int .i64 1))},
  M 6 16]
def c_Sv_17:VC:=
 .seq (.blk 1 (.seq (.r 6 [M 17 0,
  {op:=.call 18 68 [(.s 17),(.k (.int .i64 5))]},
  {op:=.bin 19 .add (.k (.int .i64 1)) (.s 18)},
  {op:=.bld 20 [.k (.int .i64 0),.k (.int .i64 0)] [(0,1,(.s 19))]},
  {op:=.alloc 7 [.k (.int .i64 0),.k (.int .i64 0)]},
  oS 7 20 2]) c_Sv_21)) c_Sv_47
def c_Sv_11:VC:=
 .seq (.seq (.r 4 [M 12 6,
  M 13 1,
  {op:=.bin 14 .lss (.s 12) (.s 13)}]) c_Sv_14) c_Sv_17
def c_Sv_9:VC:=
 .blk 0 (.loop [0,1,5,6] c_Sv_11)
def c_Sv_48:VC:=
 .seq (.r 18 [M 48 5,
  M 4 48]) (.ret)
def c_Sv_6:VC:=
 .seq (.seq (.r 3 [oN 6 0]) c_Sv_9) (.kp [0,5] c_Sv_48)
def c_Sv_4:VC:=
 .seq (.r 2 [M 8 5,
  {op:=.bld 9 [.k (.int .i64 0),.k (.int .i64 0)] [(0,1,(.k (.int .i64 1)))]},
  {op:=.lits 10 [.sc,.sc] [(.s 9)]},
  {op:=.app 11 (.s 8) (.s 10) [.sc,.sc] 8796093022208},
  M 5 11]) c_Sv_6
def c_Sv_2:VC:=
 .seq (.r 1 [{op:=.nil 5 [.sc,.sc]}]) c_Sv_4
def c_Sv_0:VC:=
 .seq (.r 0 [{op:=.nil 4 [.sc,.sc]}]) c_Sv_2
def vf_Sv:VF:={ pm:=[.mb [.ro [.sc],.sc,.sc],.ro [.sc]],rm:=[.v [.own [.sc,.sc]]],nslots:=49,res:=[4],rc:=[],code:=.kp [0,1] c_Sv_0 }
def c_Sa_7:VC:=
 .ite (.s 15) (.r 3 [M 16 6,
  M 17 6,
  M 18 6,
  {op:=.call 19 68 [(.s 18),(.k (.int .i64 20))]},
  {op:=.bin 20 .add (.k (.int .i64 10)) (.s 19)},
  {op:=.call 21 67 [(.s 17),(.s 20)]},
  {op:=.call 22 66 [(.s 16),(.s 21)]},
  oS 5 22 2]) (.skip)
def c_Sa_28:VC:=
 .ite (.s 53) (.r 12 [M 55 8,
  M 56 6,
  M 57 8,
  {op:=.len 58 (.s 57)},
  {op:=.call 59 68 [(.s 56),(.s 58)]},
  M 60 6,
  {op:=.call 61 68 [(.s 60),(.k (.int .i64 2))]},
  {op:=.bin 62 .mul (.s 61) (.k (.int .i64 6))},
  oX 63 55 59 2,
  oF 64 63 0,
  oS 64 62 1]) (.skip)
def c_Sa_24:VC:=
 .ite (.s 39) (.r 10 [M 41 8,
  M 42 6,
  M 43 8,
  {op:=.len 44 (.s 43)},
  {op:=.call 45 68 [(.s 42),(.s 44)]},
  {op:=.lits 46 [.sc] [(.k (.int .i64 (-1))),(.k (.int .i64 24)),(.k (.int .i64 401)),(.k (.int .i64 100001))]},
  M 47 6,
  {op:=.call 48 68 [(.s 47),(.k (.int .i64 4))]},
  oX 49 46 48 1,
  oL 50 49 1,
  oX 51 41 45 2,
  oF 52 51 1,
  oS 52 50 1]) (.seq (.r 11 [{op:=.bin 54 .eql (.s 31) (.k (.int .i64 2))},
  M 53 54]) c_Sa_28)
def c_Sa_20:VC:=
 .ite (.s 32) (.r 8 [{op:=.lits 34 [.sc] [(.k (.int .i64 0)),(.k (.int .i64 1000)),(.k (.int .i64 1001))]},
  M 35 6,
  {op:=.call 36 68 [(.s 35),(.k (.int .i64 3))]},
  oX 37 34 36 1,
  oL 38 37 1,
  M 7 38]) (.seq (.r 9 [{op:=.bin 40 .eql (.s 31) (.k (.int .i64 1))},
  M 39 40]) c_Sa_24)
def c_Sa_17:VC:=
 .blk 0 (.seq (.r 7 [{op:=.bin 33 .eql (.s 31) (.k (.int .i64 0))},
  M 32 33]) c_Sa_20)
def c_Sa_31:VC:=
 .seq (.r 13 [{op:=.ld 65 (.s 5) 2 true},
  M 66 7,
  M 67 8,
  oS 2 65 2,
  M 3 66,
  M 4 67]) (.pre [.fziv 2 1 4] (.ret))
def c_Sa_14:VC:=
 .seq (.seq (.r 6 [M 30 6,
  {op:=.call 31 68 [(.s 30),(.k (.int .i64 16))]}]) c_Sa_17) (.kp [2,5,7,8] c_Sa_31)
def c_Sa_12:VC:=
 .seq (.r 5 [M 26 6,
  M 27 6,
  {op:=.call 28 68 [(.s 27),(.k (.int .i64 12))]},
  {op:=.call 29 69 [(.s 26),(.s 28)]},
  M 8 29]) c_Sa_14
def c_Sa_10:VC:=
 .seq (.r 4 [M 23 6,
  {op:=.call 24 68 [(.s 23),(.k (.int .i64 30))]},
  {op:=.bin 25 .add (.k (.int .i64 1)) (.s 24)},
  M 7 25]) c_Sa_12
def c_Sa_4:VC:=
 .seq (.seq (.r 2 [M 14 6,
  {op:=.call 15 65 [(.s 14),(.k (.int .i64 2))]}]) c_Sa_7) (.pre [.fziv 5 1 4] (.kp [2,5,6] c_Sa_10))
def c_Sa_2:VC:=
 .seq (.r 1 [M 10 0,
  {op:=.call 11 64 [(.s 10)]},
  M 9 11,
  {op:=.ext 12 (.s 9) 0},
  {op:=.ext 13 (.s 9) 1},
  {op:=.alloc 5 [.o q3,.o q5]},
  oS 5 12 2,
  M 6 13]) c_Sa_4
def c_Sa_0:VC:=
 .seq (.r 0 [{op:=.alloc 2 [.o q3,.o q5]},
  oN 3 0,
  {op:=.nil 4 [.sc,.sc]}]) c_Sa_2
def vf_Sa:VF:={ pm:=[.ro [.ro [.sc]]],rm:=[.v [.own q3,.own q5],.v [.sc],.v [.own [.sc,.sc]]],nslots:=68,res:=[2,3,4],rc:=[some (2,true),none,none],code:=.kp [0] c_Sa_0 }
def c_Il_5:VC:=
 .ite (.s 27) (.seq (.r 2 [oK 2 false]) (.ret)) (.skip)
def c_Il_27:VC:=
 .ite (.s 45) (.seq (.r 7 [oK 2 false]) (.ret)) (.skip)
def c_Il_25:VC:=
 .seq (.r 6 [oF 34 1 2,
  oL 35 34 1,
  M 36 3,
  {op:=.idx 37 (.s 35) (.s 36)},
  {op:=.bin 38 .lss (.s 37) (.k (.int .u8 32))},
  M 39 38,
  ⟨none,[],some (39,false),.fadr 40 (.s 1) 2⟩,
  ⟨none,[],some (39,false),.ld 41 (.s 40) 1 false⟩,
  ⟨none,[],some (39,false),.mv 42 (.s 3)⟩,
  ⟨none,[],some (39,false),.idx 43 (.s 41) (.s 42)⟩,
  ⟨none,[],some (39,false),.bin 44 .gtr (.s 43) (.k (.int .u8 126))⟩,
  {op:=.pick 45 (.s 39) (.k (.bool true)) (.s 44)}]) c_Il_27
def c_Il_32:VC:=
 .r 8 [{op:=.bin 46 .add (.s 31) (.k (.int .i64 1))},
  M 31 46]
def c_Il_21:VC:=
 .seq (.blk 1 (.seq (.r 5 [M 33 31,
  M 3 33]) c_Il_25)) c_Il_32
def c_Il_17:VC:=
 .seq (.ite (.s 32) (.skip) (.exit 0)) c_Il_21
def c_Il_15:VC:=
 .seq (.r 4 [{op:=.bin 32 .lss (.s 31) (.s 30)}]) c_Il_17
def c_Il_13:VC:=
 .blk 0 (.loop [1,30,31] c_Il_15)
def c_Il_33:VC:=
 .seq (.r 9 [oK 2 true]) (.ret)
def c_Il_10:VC:=
 .seq (.seq (.r 3 [oF 28 1 2,
  oL 29 28 1,
  {op:=.slen 30 (.s 29)},
  oN 31 0]) c_Il_13) (.kp [] c_Il_33)
def c_Il_2:VC:=
 .seq (.seq (.r 1 [oF 4 1 0,
  oL 5 4 1,
  {op:=.bin 6 .lss (.s 5) (.k (.int .i64 1))},
  M 7 6,
  ⟨none,[],some (7,false),.fadr 8 (.s 1) 0⟩,
  ⟨none,[],some (7,false),.ld 9 (.s 8) 1 false⟩,
  ⟨none,[],some (7,false),.bin 10 .gtr (.s 9) (.k (.int .i64 6))⟩,
  {op:=.pick 11 (.s 7) (.k (.bool true)) (.s 10)},
  M 12 11,
  ⟨none,[],some (12,false),.fadr 13 (.s 1) 1⟩,
  ⟨none,[],some (12,false),.ld 14 (.s 13) 1 false⟩,
  ⟨none,[],some (12,false),.bin 15 .lss (.s 14) (.k (.int .i64 1))⟩,
  {op:=.pick 16 (.s 12) (.k (.bool true)) (.s 15)},
  M 17 16,
  ⟨none,[],some (17,false),.fadr 18 (.s 1) 1⟩,
  ⟨none,[],some (17,false),.ld 19 (.s 18) 1 false⟩,
  ⟨none,[],some (17,false),.bin 20 .gtr (.s 19) (.k (.int .i64 1000000))⟩,
  {op:=.pick 21 (.s 17) (.k (.bool true)) (.s 20)},
  M 22 21,
  ⟨none,[],some (22,false),.fadr 23 (.s 1) 2⟩,
  ⟨none,[],some (22,false),.ld 24 (.s 23) 1 false⟩,
  ⟨none,[],some (22,false),.slen 25 (.s 24)⟩,
  ⟨none,[],some (22,false),.bin 26 .gtr (.s 25) (.k (.int .i64 40))⟩,
  {op:=.pick 27 (.s 22) (.k (.bool true)) (.s 26)}]) c_Il_5) c_Il_10
def c_Il_0:VC:=
 .seq (.r 0 [{op:=.box 1 (.s 0)},
  oK 2 false]) c_Il_2
def vf_Il:VF:={ pm:=[.ro q3],rm:=[.v [.sc]],nslots:=47,res:=[2],rc:=[],code:=.kp [0] c_Il_0 }
def c_Ik_2:VC:=
 .seq (.r 1 [M 3 0,
  {op:=.bin 4 .geq (.s 3) (.k (.int .i64 0))},
  M 5 4,
  ⟨none,[],some (5,true),.mv 6 (.s 0)⟩,
  ⟨none,[],some (5,true),.bin 7 .leq (.s 6) (.k (.int .i64 1000000000))⟩,
  {op:=.pick 8 (.s 5) (.s 7) (.k (.bool false))},
  M 2 8]) (.ret)
def c_Ik_0:VC:=
 .seq (.r 0 [oK 2 false]) c_Ik_2
def vf_Ik:VF:={ pm:=[.ro [.sc]],rm:=[.v [.sc]],nslots:=9,res:=[2],rc:=[],code:=.kp [0] c_Ik_0 }
def c_Ij_5:VC:=
 .ite (.s 25) (.seq (.r 2 [oK 2 false]) (.ret)) (.skip)
def c_Ij_27:VC:=
 .ite (.s 35) (.seq (.r 7 [oK 2 false]) (.ret)) (.skip)
def c_Ij_25:VC:=
 .seq (.r 6 [{op:=.ld 33 (.s 4) 3 true},
  {op:=.call 34 131 [(.s 33)]},
  {op:=.un 35 .not (.s 34)}]) c_Ij_27
def c_Ij_32:VC:=
 .r 8 [{op:=.bin 36 .add (.s 29) (.k (.int .i64 1))},
  M 29 36]
def c_Ij_21:VC:=
 .seq (.blk 1 (.seq (.r 5 [oX 31 27 29 3,
  {op:=.ld 32 (.s 31) 3 true},
  {op:=.alloc 4 [.k (.int .i64 0),.k (.int .i64 0),.k (.string (ByteArray.mk #[]))]},
  oS 4 32 3]) c_Ij_25)) c_Ij_32
def c_Ij_17:VC:=
 .seq (.ite (.s 30) (.skip) (.exit 0)) c_Ij_21
def c_Ij_15:VC:=
 .seq (.r 4 [{op:=.bin 30 .lss (.s 29) (.s 28)}]) c_Ij_17
def c_Ij_13:VC:=
 .blk 0 (.loop [1,27,28,29] c_Ij_15)
def c_Ij_52:VC:=
 .r 14 [M 46 6,
  M 47 7,
  oX 48 46 47 1,
  {op:=.st (.s 48) (.k (.int .i64 (-1))) 1}]
def c_Ij_53:VC:=
 .r 15 [{op:=.bin 49 .add (.s 43) (.k (.int .i64 1))},
  M 43 49]
def c_Ij_48:VC:=
 .seq (.blk 3 (.seq (.r 13 [M 45 43,
  M 7 45]) c_Ij_52)) c_Ij_53
def c_Ij_44:VC:=
 .seq (.ite (.s 44) (.skip) (.exit 2)) c_Ij_48
def c_Ij_42:VC:=
 .seq (.r 12 [{op:=.bin 44 .lss (.s 43) (.s 42)}]) c_Ij_44
def c_Ij_40:VC:=
 .blk 2 (.loop [1,5,6,42,43] c_Ij_42)
def c_Ij_72:VC:=
 .ite (.s 102) (.seq (.r 20 [oK 2 false]) (.ret)) (.skip)
def c_Ij_79:VC:=
 .r 22 [M 109 5,
  oF 110 9 4,
  oL 111 110 1,
  {op:=.len 112 (.s 111)},
  {op:=.bin 113 .add (.s 109) (.s 112)},
  M 5 113]
def c_Ij_77:VC:=
 .seq (.r 21 [M 103 6,
  oF 104 9 0,
  oL 105 104 1,
  oF 106 9 1,
  oL 107 106 1,
  oX 108 103 105 1,
  oS 108 107 1]) c_Ij_79
def c_Ij_69:VC:=
 .seq (.seq (.d 19 [(0,oG 57 9 0),
  (1,oV 58 57 1),
  (2,{op:=.bin 59 .lss (.s 58) (.k (.int .i64 0))}),
  (3,M 60 59),
  (4,⟨none,[],some (60,false),.fadv 61 (.s 9) 0⟩),
  (5,⟨none,[],some (60,false),.ldv 62 (.s 61) 1 false⟩),
  (6,⟨none,[],some (60,false),.fadv 63 (.s 1) 0⟩),
  (7,⟨none,[],some (60,false),.ldv 64 (.s 63) 1 false⟩),
  (8,⟨none,[],some (60,false),.len 65 (.s 64)⟩),
  (9,⟨none,[],some (60,false),.bin 66 .geq (.s 62) (.s 65)⟩),
  (10,{op:=.pick 67 (.s 60) (.k (.bool true)) (.s 66)}),
  (11,M 68 67),
  (12,⟨none,[],some (68,false),.fadv 69 (.s 9) 1⟩),
  (13,⟨none,[],some (68,false),.ldv 70 (.s 69) 1 false⟩),
  (14,⟨none,[],some (68,false),.call 71 133 [(.s 70)]⟩),
  (15,⟨none,[],some (68,false),.un 72 .not (.s 71)⟩),
  (16,{op:=.pick 73 (.s 68) (.k (.bool true)) (.s 72)}),
  (17,M 74 73),
  (18,⟨none,[],some (74,false),.fadv 75 (.s 9) 2⟩),
  (19,⟨none,[],some (74,false),.ldv 76 (.s 75) 1 false⟩),
  (20,⟨none,[],some (74,false),.call 77 133 [(.s 76)]⟩),
  (21,⟨none,[],some (74,false),.un 78 .not (.s 77)⟩),
  (22,{op:=.pick 79 (.s 74) (.k (.bool true)) (.s 78)}),
  (23,M 80 79),
  (24,⟨none,[],some (80,false),.fadv 81 (.s 9) 1⟩),
  (25,⟨none,[],some (80,false),.ldv 82 (.s 81) 1 false⟩),
  (26,⟨none,[],some (80,false),.mv 83 (.s 6)⟩),
  (27,⟨none,[],some (80,false),.fadv 84 (.s 9) 0⟩),
  (28,⟨none,[],some (80,false),.ldv 85 (.s 84) 1 false⟩),
  (29,⟨none,[],some (80,false),.iadr 86 (.s 83) (.s 85) 1⟩),
  (30,⟨none,[],some (80,false),.ld 87 (.s 86) 1 false⟩),
  (31,⟨none,[],some (80,false),.bin 88 .lss (.s 82) (.s 87)⟩),
  (32,{op:=.pick 89 (.s 80) (.k (.bool true)) (.s 88)}),
  (33,M 90 89),
  (34,⟨none,[],some (90,false),.mv 91 (.s 6)⟩),
  (35,⟨none,[],some (90,false),.fadv 92 (.s 9) 0⟩),
  (36,⟨none,[],some (90,false),.ldv 93 (.s 92) 1 false⟩),
  (37,⟨none,[],some (90,false),.iadr 94 (.s 91) (.s 93) 1⟩),
  (38,⟨none,[],some (90,false),.ld 95 (.s 94) 1 false⟩),
  (39,⟨none,[],some (90,false),.bin 96 .lss (.s 95) (.k (.int .i64 0))⟩),
  (40,⟨none,[],some (90,false),.mv 97 (.s 96)⟩),
  (41,⟨none,[],some (97,true),.fadv 98 (.s 9) 3⟩),
  (42,⟨none,[],some (97,true),.ldv 99 (.s 98) 1 false⟩),
  (43,⟨none,[],some (97,true),.un 100 .not (.s 99)⟩),
  (44,⟨none,[],some (90,false),.pick 101 (.s 97) (.s 100) (.k (.bool false))⟩),
  (45,{op:=.pick 102 (.s 90) (.k (.bool true)) (.s 101)})]) c_Ij_72) (.kp [1,5,6,9,51,52,53] c_Ij_77)
def c_Ij_80:VC:=
 .r 23 [{op:=.bin 114 .add (.s 53) (.k (.int .i64 1))},
  M 53 114]
def c_Ij_65:VC:=
 .seq (.blk 5 (.seq (.r 18 [oX 55 51 53 5,
  {op:=.ld 56 (.s 55) 5 true},
  {op:=.alloc 9 [.k (.int .i64 0),.k (.int .i64 0),.k (.int .i64 0),.k (.bool false),.o [.sc]]},
  oS 9 56 5]) c_Ij_69)) c_Ij_80
def c_Ij_61:VC:=
 .seq (.ite (.s 54) (.skip) (.exit 4)) c_Ij_65
def c_Ij_59:VC:=
 .seq (.r 17 [{op:=.bin 54 .lss (.s 53) (.s 52)}]) c_Ij_61
def c_Ij_57:VC:=
 .blk 4 (.loop [1,5,6,51,52,53] c_Ij_59)
def c_Ij_81:VC:=
 .seq (.r 24 [M 115 5,
  {op:=.bin 116 .leq (.s 115) (.k (.int .i64 60000))},
  M 2 116]) (.ret)
def c_Ij_54:VC:=
 .seq (.seq (.r 16 [oF 50 1 1,
  oL 51 50 1,
  {op:=.len 52 (.s 51)},
  oN 53 0]) c_Ij_57) (.kp [5] c_Ij_81)
def c_Ij_37:VC:=
 .seq (.seq (.r 11 [M 41 6,
  {op:=.len 42 (.s 41)},
  oN 43 0]) c_Ij_40) (.kp [1,5,6] c_Ij_54)
def c_Ij_35:VC:=
 .seq (.r 10 [oF 37 1 0,
  oL 38 37 1,
  {op:=.len 39 (.s 38)},
  {op:=.mk 40 (.s 39) [.sc] [(.int .i64 0)] 17592186044416},
  M 6 40]) c_Ij_37
def c_Ij_33:VC:=
 .seq (.r 9 [oN 5 0]) c_Ij_35
def c_Ij_10:VC:=
 .seq (.seq (.r 3 [oF 26 1 0,
  oL 27 26 1,
  {op:=.len 28 (.s 27)},
  oN 29 0]) c_Ij_13) (.kp [1] c_Ij_33)
def c_Ij_2:VC:=
 .seq (.seq (.r 1 [oF 10 1 0,
  oL 11 10 1,
  {op:=.len 12 (.s 11)},
  {op:=.bin 13 .lss (.s 12) (.k (.int .i64 1))},
  M 14 13,
  ⟨none,[],some (14,false),.fadr 15 (.s 1) 0⟩,
  ⟨none,[],some (14,false),.ld 16 (.s 15) 1 false⟩,
  ⟨none,[],some (14,false),.len 17 (.s 16)⟩,
  ⟨none,[],some (14,false),.bin 18 .gtr (.s 17) (.k (.int .i64 8))⟩,
  {op:=.pick 19 (.s 14) (.k (.bool true)) (.s 18)},
  M 20 19,
  ⟨none,[],some (20,false),.fadr 21 (.s 1) 1⟩,
  ⟨none,[],some (20,false),.ld 22 (.s 21) 1 false⟩,
  ⟨none,[],some (20,false),.len 23 (.s 22)⟩,
  ⟨none,[],some (20,false),.bin 24 .gtr (.s 23) (.k (.int .i64 400))⟩,
  {op:=.pick 25 (.s 20) (.k (.bool true)) (.s 24)}]) c_Ij_5) c_Ij_10
def c_Ij_0:VC:=
 .seq (.r 0 [{op:=.box 1 (.s 0)},
  oK 2 false]) c_Ij_2
def vf_Ij:VF:={ pm:=[.ro [.ro q3,.ro q5]],rm:=[.v [.sc]],nslots:=117,res:=[2],rc:=[],code:=.kp [0] c_Ij_0 }
def c_If_9:VC:=
 .ite (.s 43) (.seq (.r 4 [M 44 9,
  M 45 10,
  {op:=.bin 46 .lss (.s 44) (.s 45)},
  M 6 46]) (.ret)) (.skip)
def c_If_17:VC:=
 .ite (.s 51) (.seq (.r 6 [oF 52 7 0,
  oL 53 52 1,
  oF 54 8 0,
  oL 55 54 1,
  {op:=.bin 56 .lss (.s 53) (.s 55)},
  M 6 56]) (.ret)) (.skip)
def c_If_22:VC:=
 .seq (.r 7 [M 57 1,
  M 58 2,
  {op:=.bin 59 .lss (.s 57) (.s 58)},
  M 6 59]) (.ret)
def c_If_14:VC:=
 .seq (.seq (.r 5 [oF 47 7 0,
  oL 48 47 1,
  oF 49 8 0,
  oL 50 49 1,
  {op:=.bin 51 .neq (.s 48) (.s 50)}]) c_If_17) c_If_22
def c_If_6:VC:=
 .seq (.seq (.r 3 [M 41 9,
  M 42 10,
  {op:=.bin 43 .neq (.s 41) (.s 42)}]) c_If_9) c_If_14
def c_If_4:VC:=
 .seq (.d 2 [(0,oG 21 7 1),
  (1,oV 22 21 1),
  (2,oG 23 3 0),
  (3,oV 24 23 1),
  (4,oG 25 8 0),
  (5,oV 26 25 1),
  (6,oX 27 24 26 3),
  (7,oG 28 27 1),
  (8,oV 29 28 1),
  (9,{op:=.bin 30 .mul (.s 22) (.s 29)}),
  (10,oG 31 8 1),
  (11,oV 32 31 1),
  (12,oG 33 3 0),
  (13,oV 34 33 1),
  (14,oG 35 7 0),
  (15,oV 36 35 1),
  (16,oX 37 34 36 3),
  (17,oG 38 37 1),
  (18,oV 39 38 1),
  (19,{op:=.bin 40 .mul (.s 32) (.s 39)}),
  (20,M 9 30),
  (21,M 10 40)]) c_If_6
def c_If_2:VC:=
 .seq (.pre [.pad 2] (.d 1 [(0,{op:=.fadk 11 (.s 3) 0 1}),
  (1,{op:=.ldk 12 (.s 11) 0 1 false}),
  (2,M 13 1),
  (3,oX 14 12 13 5),
  (4,{op:=.ldr 15 (.s 14) 5 true}),
  (5,{op:=.fadk 16 (.s 3) 0 1}),
  (6,{op:=.ldk 17 (.s 16) 0 1 false}),
  (7,M 18 2),
  (8,oX 19 17 18 5),
  (9,{op:=.ldr 20 (.s 19) 5 true}),
  (10,{op:=.alk 7 [.k (.int .i64 0),.k (.int .i64 0),.k (.int .i64 0),.k (.bool false),.k (.slice none 0 0)] 1}),
  (11,{op:=.alk 8 [.k (.int .i64 0),.k (.int .i64 0),.k (.int .i64 0),.k (.bool false),.k (.slice none 0 0)] 2}),
  (12,{op:=.stk (.s 7) (.s 15) 1 5}),
  (13,{op:=.stk (.s 8) (.s 20) 2 5})])) c_If_4
def c_If_0:VC:=
 .seq (.r 0 [{op:=.box 3 (.s 0)},
  oK 6 false]) c_If_2
def vf_If:VF:={ pm:=[.ro [.ro q3,.ro q5],.ro [.sc],.ro [.sc]],rm:=[.v [.sc]],nslots:=60,res:=[6],rc:=[],code:=.kp [0,1,2] c_If_0 }
def c_Ia_5:VC:=
 .ite (.s 6) (.seq (.r 2 [oK 2 false]) (.ret)) (.skip)
def c_Ia_18:VC:=
 .ite (.s 11) (.skip) (.exit 0)
def c_Ia_25:VC:=
 .ite (.s 18) (.seq (.r 7 [oK 2 false]) (.ret)) (.skip)
def c_Ia_30:VC:=
 .r 5 [M 12 3,
  {op:=.bin 13 .add (.s 12) (.k (.int .i64 1))},
  M 3 13]
def c_Ia_21:VC:=
 .seq (.blk 1 (.seq (.r 6 [{op:=.ld 14 (.s 1) 2 true},
  M 15 3,
  M 16 3,
  {op:=.bin 17 .sub (.s 16) (.k (.int .i64 1))},
  {op:=.call 18 113 [(.s 14),(.s 15),(.s 17)]}]) c_Ia_25)) c_Ia_30
def c_Ia_15:VC:=
 .seq (.seq (.r 4 [M 7 3,
  oF 8 1 1,
  oL 9 8 1,
  {op:=.len 10 (.s 9)},
  {op:=.bin 11 .lss (.s 7) (.s 10)}]) c_Ia_18) c_Ia_21
def c_Ia_13:VC:=
 .blk 0 (.loop [1,3] c_Ia_15)
def c_Ia_31:VC:=
 .seq (.r 8 [oK 2 true]) (.ret)
def c_Ia_10:VC:=
 .seq (.seq (.r 3 [oN 3 1]) c_Ia_13) (.kp [] c_Ia_31)
def c_Ia_2:VC:=
 .seq (.seq (.r 1 [{op:=.ld 4 (.s 1) 2 true},
  {op:=.call 5 112 [(.s 4)]},
  {op:=.un 6 .not (.s 5)}]) c_Ia_5) c_Ia_10
def c_Ia_0:VC:=
 .seq (.r 0 [{op:=.box 1 (.s 0)},
  oK 2 false]) c_Ia_2
def vf_Ia:VF:={ pm:=[.ro [.ro q3,.ro q5]],rm:=[.v [.sc]],nslots:=19,res:=[2],rc:=[],code:=.kp [0] c_Ia_0 }
def c_Id_2:VC:=
 .seq (.r 1 [oF 6 2 1,
  oL 7 6 1,
  M 8 0,
  {op:=.bin 9 .geq (.s 7) (.s 8)},
  M 10 9,
  ⟨none,[],some (10,true),.fadr 11 (.s 2) 1⟩,
  ⟨none,[],some (10,true),.ld 12 (.s 11) 1 false⟩,
  ⟨none,[],some (10,true),.mv 13 (.s 1)⟩,
  ⟨none,[],some (10,true),.bin 14 .leq (.s 12) (.s 13)⟩,
  {op:=.pick 15 (.s 10) (.s 14) (.k (.bool false))},
  M 5 15]) (.ret)
def c_Id_0:VC:=
 .seq (.r 0 [oK 5 false]) c_Id_2
def vf_Id:VF:={ pm:=[.ro [.sc],.ro [.sc],.mb [.sc,.sc]],rm:=[.v [.sc]],nslots:=16,res:=[5],rc:=[],code:=.kp [0,1,2] c_Id_0 }
def c_Ic_11:VC:=
 .ite (.s 7) (.skip) (.r 4 [{op:=.bin 9 .eql (.s 6) (.k (.int .i64 2))},
  M 7 9])
def c_Ic_32:VC:=
 .ite (.s 21) (.seq (.r 11 [M 23 3,
  {op:=.callc 24 (.s 23) [(.k (.int .i64 25)),(.k (.int .i64 400))]},
  M 2 24]) (.ret)) (.skip)
def c_Ic_26:VC:=
 .ite (.s 17) (.seq (.r 9 [M 19 3,
  {op:=.callc 20 (.s 19) [(.k (.int .i64 0)),(.k (.int .i64 100000))]},
  M 2 20]) (.ret)) (.seq (.r 10 [{op:=.bin 22 .eql (.s 6) (.k (.int .i64 5))},
  M 21 22]) c_Ic_32)
def c_Ic_20:VC:=
 .ite (.s 13) (.seq (.r 7 [M 15 3,
  {op:=.callc 16 (.s 15) [(.k (.int .i64 0)),(.k (.int .i64 359999999))]},
  M 2 16]) (.ret)) (.seq (.r 8 [{op:=.bin 18 .eql (.s 6) (.k (.int .i64 4))},
  M 17 18]) c_Ic_26)
def c_Ic_14:VC:=
 .ite (.s 7) (.seq (.r 5 [oF 10 1 1,
  oL 11 10 1,
  {op:=.bin 12 .eql (.s 11) (.k (.int .i64 0))},
  M 2 12]) (.ret)) (.seq (.r 6 [{op:=.bin 14 .eql (.s 6) (.k (.int .i64 3))},
  M 13 14]) c_Ic_20)
def c_Ic_7:VC:=
 .blk 0 (.seq (.seq (.r 3 [{op:=.bin 8 .eql (.s 6) (.k (.int .i64 1))},
  M 7 8]) c_Ic_11) (.kp [1,3,6,7] c_Ic_14))
def c_Ic_37:VC:=
 .seq (.r 12 [oK 2 false]) (.ret)
def c_Ic_4:VC:=
 .seq (.seq (.r 2 [oF 5 1 0,
  oL 6 5 1]) c_Ic_7) c_Ic_37
def c_Ic_2:VC:=
 .seq (.r 1 [{op:=.mkf 4 122 [(.s 1)]},
  M 3 4]) c_Ic_4
def c_Ic_0:VC:=
 .seq (.r 0 [{op:=.box 1 (.s 0)},
  oK 2 false]) c_Ic_2
def vf_Ic:VF:={ pm:=[.ro [.sc,.sc]],rm:=[.v [.sc]],nslots:=25,res:=[2],rc:=[],code:=.kp [0] c_Ic_0 }
def c_Ie_4:VC:=
 .seq (.d 2 [(0,oG 11 5 1),
  (1,oV 12 11 1),
  (2,{op:=.bin 13 .mul (.s 12) (.k (.int .i64 1000000))}),
  (3,oG 14 2 0),
  (4,oV 15 14 1),
  (5,oG 16 5 0),
  (6,oV 17 16 1),
  (7,oX 18 15 17 3),
  (8,oG 19 18 1),
  (9,oV 20 19 1),
  (10,{op:=.bin 21 .quo (.s 13) (.s 20)}),
  (11,M 4 21)]) (.ret)
def c_Ie_2:VC:=
 .seq (.r 1 [oF 6 2 1,
  oL 7 6 1,
  M 8 1,
  oX 9 7 8 5,
  {op:=.ld 10 (.s 9) 5 true},
  {op:=.alloc 5 [.k (.int .i64 0),.k (.int .i64 0),.k (.int .i64 0),.k (.bool false),.o [.sc]]},
  oS 5 10 5]) c_Ie_4
def c_Ie_0:VC:=
 .seq (.r 0 [{op:=.box 2 (.s 0)},
  oN 4 0]) c_Ie_2
def vf_Ie:VF:={ pm:=[.ro [.ro q3,.ro q5],.ro [.sc]],rm:=[.v [.sc]],nslots:=22,res:=[4],rc:=[],code:=.kp [0,1] c_Ie_0 }
def c_Ig_2:VC:=
 .seq (.d 1 [(0,M 5 0),
  (1,{op:=.nckv 6 (.s 5)}),
  (2,oG 7 6 7),
  (3,oV 8 7 1),
  (4,M 9 0),
  (5,{op:=.nckv 10 (.s 9)}),
  (6,oG 11 10 9),
  (7,oV 12 11 1),
  (8,{op:=.mx 13 (.s 8) (.s 12)}),
  (9,M 14 0),
  (10,{op:=.nckv 15 (.s 14)}),
  (11,oG 16 15 0),
  (12,oG 17 16 1),
  (13,oV 18 17 1),
  (14,M 19 1),
  (15,oX 20 18 19 5),
  (16,oG 21 20 4),
  (17,oV 22 21 1),
  (18,{op:=.len 23 (.s 22)}),
  (19,M 24 0),
  (20,{op:=.nckv 25 (.s 24)}),
  (21,oG 26 25 2),
  (22,oV 27 26 1),
  (23,{op:=.bin 28 .quo (.s 23) (.s 27)}),
  (24,{op:=.bin 29 .add (.s 13) (.s 28)}),
  (25,{op:=.bin 30 .add (.s 29) (.k (.int .i64 1))}),
  (26,M 4 30)]) (.ret)
def c_Ig_0:VC:=
 .seq (.r 0 [oN 4 0]) c_Ig_2
def vf_Ig:VF:={ pm:=[.mb [.ro q3,.ro q5,.sc,.own [.sc],.own [.sc],.sc,.own [.sc],.sc,.sc,.sc,.own q4],.ro [.sc]],rm:=[.v [.sc]],nslots:=31,res:=[4],rc:=[],code:=.kp [0,1] c_Ig_0 }
def c_Ih_38:VC:=
 .ite (.s 83) (.r 10 [M 84 4,
  M 85 5,
  M 86 6,
  oX 87 84 85 1,
  oS 87 86 1]) (.skip)
def c_Ih_36:VC:=
 .seq (.d 9 [(0,oG 41 7 0),
  (1,oV 42 41 1),
  (2,M 43 5),
  (3,{op:=.bin 44 .eql (.s 42) (.s 43)}),
  (4,M 45 44),
  (5,⟨none,[],some (45,true),.fadv 46 (.s 7) 3⟩),
  (6,⟨none,[],some (45,true),.ldv 47 (.s 46) 1 false⟩),
  (7,⟨none,[],some (45,true),.mv 48 (.s 47)⟩),
  (8,⟨none,[],some (48,true),.mv 49 (.s 0)⟩),
  (9,⟨none,[],some (48,true),.nckv 50 (.s 49)⟩),
  (10,⟨none,[],some (48,true),.fadv 51 (.s 50) 3⟩),
  (11,⟨none,[],some (48,true),.ldv 52 (.s 51) 1 false⟩),
  (12,⟨none,[],some (48,true),.mv 53 (.s 6)⟩),
  (13,⟨none,[],some (48,true),.iadr 54 (.s 52) (.s 53) 1⟩),
  (14,⟨none,[],some (48,true),.ld 55 (.s 54) 1 false⟩),
  (15,⟨none,[],some (48,true),.mv 56 (.s 0)⟩),
  (16,⟨none,[],some (48,true),.nckv 57 (.s 56)⟩),
  (17,⟨none,[],some (48,true),.fadv 58 (.s 57) 8⟩),
  (18,⟨none,[],some (48,true),.ldv 59 (.s 58) 1 false⟩),
  (19,⟨none,[],some (48,true),.bin 60 .leq (.s 55) (.s 59)⟩),
  (20,⟨none,[],some (45,true),.pick 61 (.s 48) (.s 60) (.k (.bool false))⟩),
  (21,⟨none,[],some (45,true),.mv 62 (.s 61)⟩),
  (22,⟨none,[],some (62,false),.mv 63 (.s 4)⟩),
  (23,⟨none,[],some (62,false),.mv 64 (.s 5)⟩),
  (24,⟨none,[],some (62,false),.iadr 65 (.s 63) (.s 64) 1⟩),
  (25,⟨none,[],some (62,false),.ld 66 (.s 65) 1 false⟩),
  (26,⟨none,[],some (62,false),.bin 67 .lss (.s 66) (.k (.int .i64 0))⟩),
  (27,⟨none,[],some (62,false),.mv 68 (.s 67)⟩),
  (28,⟨none,[],some (68,true),.mv 69 (.s 0)⟩),
  (29,⟨none,[],some (68,true),.nckv 70 (.s 69)⟩),
  (30,⟨none,[],some (68,true),.fadv 71 (.s 70) 3⟩),
  (31,⟨none,[],some (68,true),.ldv 72 (.s 71) 1 false⟩),
  (32,⟨none,[],some (68,true),.mv 73 (.s 6)⟩),
  (33,⟨none,[],some (68,true),.iadr 74 (.s 72) (.s 73) 1⟩),
  (34,⟨none,[],some (68,true),.ld 75 (.s 74) 1 false⟩),
  (35,⟨none,[],some (68,true),.mv 76 (.s 0)⟩),
  (36,⟨none,[],some (68,true),.nckv 77 (.s 76)⟩),
  (37,⟨none,[],some (68,true),.fadv 78 (.s 77) 8⟩),
  (38,⟨none,[],some (68,true),.ldv 79 (.s 78) 1 false⟩),
  (39,⟨none,[],some (68,true),.bin 80 .gtr (.s 75) (.s 79)⟩),
  (40,⟨none,[],some (62,false),.pick 81 (.s 68) (.s 80) (.k (.bool false))⟩),
  (41,⟨none,[],some (45,true),.pick 82 (.s 62) (.k (.bool true)) (.s 81)⟩),
  (42,{op:=.pick 83 (.s 45) (.s 82) (.k (.bool false))})]) (.kp [0,4,5,6,23,24,34,35,36,83] c_Ih_38)
def c_Ih_41:VC:=
 .r 11 [{op:=.bin 88 .add (.s 36) (.k (.int .i64 1))},
  M 36 88]
def c_Ih_32:VC:=
 .seq (.blk 3 (.seq (.r 8 [M 38 36,
  oX 39 34 36 5,
  {op:=.ld 40 (.s 39) 5 true},
  {op:=.alloc 7 [.k (.int .i64 0),.k (.int .i64 0),.k (.int .i64 0),.k (.bool false),.o [.sc]]},
  M 6 38,
  oS 7 40 5]) c_Ih_36)) c_Ih_41
def c_Ih_28:VC:=
 .seq (.ite (.s 37) (.skip) (.exit 2)) c_Ih_32
def c_Ih_26:VC:=
 .seq (.r 7 [{op:=.bin 37 .lss (.s 36) (.s 35)}]) c_Ih_28
def c_Ih_24:VC:=
 .blk 2 (.loop [0,4,5,23,24,34,35,36] c_Ih_26)
def c_Ih_42:VC:=
 .r 12 [M 89 0,
  {op:=.nck 90 (.s 89)},
  oF 91 90 6,
  oL 92 91 1,
  M 93 5,
  oX 94 92 93 1,
  {op:=.st (.s 94) (.k (.bool false)) 1}]
def c_Ih_21:VC:=
 .seq (.seq (.r 6 [M 30 0,
  {op:=.nck 31 (.s 30)},
  oF 32 31 0,
  oF 33 32 1,
  oL 34 33 1,
  {op:=.len 35 (.s 34)},
  oN 36 0]) c_Ih_24) (.kp [0,4,5,23,24] c_Ih_42)
def c_Ih_19:VC:=
 .seq (.r 5 [M 27 4,
  M 28 5,
  oX 29 27 28 1,
  {op:=.st (.s 29) (.k (.int .i64 (-1))) 1}]) c_Ih_21
def c_Ih_43:VC:=
 .r 13 [{op:=.bin 95 .add (.s 24) (.k (.int .i64 1))},
  M 24 95]
def c_Ih_15:VC:=
 .seq (.blk 1 (.seq (.r 4 [M 26 24,
  M 5 26]) c_Ih_19)) c_Ih_43
def c_Ih_11:VC:=
 .seq (.ite (.s 25) (.skip) (.exit 0)) c_Ih_15
def c_Ih_9:VC:=
 .seq (.r 3 [{op:=.bin 25 .lss (.s 24) (.s 23)}]) c_Ih_11
def c_Ih_7:VC:=
 .blk 0 (.loop [0,4,23,24] c_Ih_9)
def c_Ih_66:VC:=
 .r 20 [M 148 0,
  M 149 0,
  M 150 8,
  {op:=.call 151 123 [(.s 149),(.s 150)]},
  {op:=.nck 152 (.s 148)},
  oF 153 152 9,
  oS 153 151 1]
def c_Ih_63:VC:=
 .ite (.s 141) (.seq (.r 19 [M 142 0,
  {op:=.nck 143 (.s 142)},
  oF 144 143 4,
  oL 145 144 1,
  M 146 8,
  oX 147 145 146 1,
  {op:=.st (.s 147) (.k (.bool true)) 1}]) c_Ih_66) (.skip)
def c_Ih_61:VC:=
 .seq (.d 18 [(0,M 120 0),
  (1,{op:=.nckv 121 (.s 120)}),
  (2,oG 122 121 4),
  (3,oV 123 122 1),
  (4,M 124 8),
  (5,oX 125 123 124 1),
  (6,oL 126 125 1),
  (7,{op:=.un 127 .not (.s 126)}),
  (8,M 128 127),
  (9,⟨none,[],some (128,true),.mv 129 (.s 0)⟩),
  (10,⟨none,[],some (128,true),.nckv 130 (.s 129)⟩),
  (11,⟨none,[],some (128,true),.fadv 131 (.s 130) 3⟩),
  (12,⟨none,[],some (128,true),.ldv 132 (.s 131) 1 false⟩),
  (13,⟨none,[],some (128,true),.mv 133 (.s 8)⟩),
  (14,⟨none,[],some (128,true),.iadr 134 (.s 132) (.s 133) 1⟩),
  (15,⟨none,[],some (128,true),.ld 135 (.s 134) 1 false⟩),
  (16,⟨none,[],some (128,true),.mv 136 (.s 0)⟩),
  (17,⟨none,[],some (128,true),.nckv 137 (.s 136)⟩),
  (18,⟨none,[],some (128,true),.fadv 138 (.s 137) 8⟩),
  (19,⟨none,[],some (128,true),.ldv 139 (.s 138) 1 false⟩),
  (20,⟨none,[],some (128,true),.bin 140 .lss (.s 135) (.s 139)⟩),
  (21,{op:=.pick 141 (.s 128) (.s 140) (.k (.bool false))})]) (.kp [0,4,8,100,101,102,141] c_Ih_63)
def c_Ih_59:VC:=
 .seq (.d 17 [(0,M 107 0),
  (1,{op:=.nckv 108 (.s 107)}),
  (2,oG 109 108 4),
  (3,oV 110 109 1),
  (4,M 111 8),
  (5,M 112 8),
  (6,M 113 4),
  (7,oG 114 9 0),
  (8,oV 115 114 1),
  (9,oX 116 113 115 1),
  (10,oL 117 116 1),
  (11,{op:=.bin 118 .lss (.s 112) (.s 117)}),
  (12,oX 119 110 111 1),
  (13,oS 119 118 1)]) c_Ih_61
def c_Ih_68:VC:=
 .r 21 [{op:=.bin 154 .add (.s 102) (.k (.int .i64 1))},
  M 102 154]
def c_Ih_55:VC:=
 .seq (.blk 5 (.seq (.r 16 [M 104 102,
  oX 105 100 102 5,
  {op:=.ld 106 (.s 105) 5 true},
  {op:=.alloc 9 [.k (.int .i64 0),.k (.int .i64 0),.k (.int .i64 0),.k (.bool false),.o [.sc]]},
  M 8 104,
  oS 9 106 5]) c_Ih_59)) c_Ih_68
def c_Ih_51:VC:=
 .seq (.ite (.s 103) (.skip) (.exit 4)) c_Ih_55
def c_Ih_49:VC:=
 .seq (.r 15 [{op:=.bin 103 .lss (.s 102) (.s 101)}]) c_Ih_51
def c_Ih_47:VC:=
 .blk 4 (.loop [0,4,100,101,102] c_Ih_49)
def c_Ih_69:VC:=
 .r 22 [M 155 0,
  {op:=.nck 156 (.s 155)},
  oF 157 156 5,
  {op:=.st (.s 157) (.k (.int .i64 0)) 1}]
def c_Ih_44:VC:=
 .seq (.seq (.r 14 [M 96 0,
  {op:=.nck 97 (.s 96)},
  oF 98 97 0,
  oF 99 98 1,
  oL 100 99 1,
  {op:=.len 101 (.s 100)},
  oN 102 0]) c_Ih_47) (.kp [0] c_Ih_69)
def c_Ih_4:VC:=
 .seq (.seq (.r 2 [M 22 4,
  {op:=.len 23 (.s 22)},
  oN 24 0]) c_Ih_7) (.kp [0,4] c_Ih_44)
def c_Ih_2:VC:=
 .seq (.r 1 [M 15 0,
  {op:=.nck 16 (.s 15)},
  oF 17 16 0,
  oF 18 17 0,
  oL 19 18 1,
  {op:=.len 20 (.s 19)},
  {op:=.mk 21 (.s 20) [.sc] [(.int .i64 0)] 17592186044416},
  M 4 21]) c_Ih_4
def c_Ih_0:VC:=
 .seq (.r 0 [M 10 0,
  M 11 1,
  {op:=.bin 12 .mul (.k (.int .i64 1000)) (.s 11)},
  {op:=.nck 13 (.s 10)},
  oF 14 13 8,
  oS 14 12 1]) c_Ih_2
def vf_Ih:VF:={ pm:=[.mb [.ro q3,.ro q5,.sc,.own [.sc],.own [.sc],.sc,.own [.sc],.sc,.sc,.sc,.own q4],.ro [.sc]],rm:=[],nslots:=158,res:=[],rc:=[],code:=.kp [0,1] c_Ih_0 }
def c_Ii_5:VC:=
 .ite (.s 15) (.skip) (.exit 0)
def c_Ii_18:VC:=
 .ite (.s 39) (.ret) (.skip)
def c_Ii_28:VC:=
 .ite (.s 55) (.d 7 [(0,M 56 0),
  (1,{op:=.nckv 57 (.s 56)}),
  (2,oG 58 57 6),
  (3,oV 59 58 1),
  (4,oG 60 3 0),
  (5,oV 61 60 1),
  (6,oX 62 59 61 1),
  (7,{op:=.st (.s 62) (.k (.bool false)) 1})]) (.skip)
def c_Ii_38:VC:=
 .ite (.s 95) (.d 11 [(0,M 96 0),
  (1,{op:=.nckv 97 (.s 96)}),
  (2,oG 98 97 6),
  (3,oV 99 98 1),
  (4,oG 100 3 0),
  (5,oV 101 100 1),
  (6,oX 102 99 101 1),
  (7,{op:=.st (.s 102) (.k (.bool true)) 1})]) (.skip)
def c_Ii_36:VC:=
 .seq (.r 10 [M 76 5,
  M 77 0,
  {op:=.nck 78 (.s 77)},
  oF 79 78 7,
  oL 80 79 1,
  {op:=.bin 81 .add (.s 80) (.k (.int .i64 100))},
  {op:=.bin 82 .gtr (.s 76) (.s 81)},
  M 83 82,
  ⟨none,[],some (83,true),.fadr 84 (.s 3) 3⟩,
  ⟨none,[],some (83,true),.ld 85 (.s 84) 1 false⟩,
  ⟨none,[],some (83,true),.un 86 .not (.s 85)⟩,
  {op:=.pick 87 (.s 83) (.s 86) (.k (.bool false))},
  M 88 87,
  ⟨none,[],some (88,true),.mv 89 (.s 4)⟩,
  ⟨none,[],some (88,true),.bin 90 .eql (.s 89) (.k (.int .i64 3))⟩,
  ⟨none,[],some (88,true),.mv 91 (.s 90)⟩,
  ⟨none,[],some (91,false),.mv 92 (.s 4)⟩,
  ⟨none,[],some (91,false),.bin 93 .eql (.s 92) (.k (.int .i64 4))⟩,
  ⟨none,[],some (88,true),.pick 94 (.s 91) (.k (.bool true)) (.s 93)⟩,
  {op:=.pick 95 (.s 88) (.s 94) (.k (.bool false))}]) (.kp [0,2,3,95] c_Ii_38)
def c_Ii_44:VC:=
 .ite (.s 111) (.r 13 [M 112 0,
  M 113 0,
  M 114 2,
  {op:=.call 115 123 [(.s 113),(.s 114)]},
  {op:=.nck 116 (.s 112)},
  oF 117 116 9,
  oS 117 115 1]) (.skip)
def c_Ii_47:VC:=
 .d 14 [(0,M 118 0),
  (1,M 119 0),
  (2,{op:=.nckv 120 (.s 119)}),
  (3,oG 121 120 10),
  (4,oV 122 121 1),
  (5,M 123 0),
  (6,{op:=.nckv 124 (.s 123)}),
  (7,oG 125 124 7),
  (8,oV 126 125 1),
  (9,M 127 0),
  (10,{op:=.nckv 128 (.s 127)}),
  (11,oG 129 128 8),
  (12,oV 130 129 1),
  (13,{op:=.bin 131 .quo (.s 130) (.k (.int .i64 1000))}),
  (14,M 132 2),
  (15,M 133 0),
  (16,{op:=.nckv 134 (.s 133)}),
  (17,oG 135 134 6),
  (18,oV 136 135 1),
  (19,oG 137 3 0),
  (20,oV 138 137 1),
  (21,oX 139 136 138 1),
  (22,oL 140 139 1),
  (23,{op:=.bld 141 [.k (.int .i64 0),.k (.int .i64 0),.k (.int .i64 0),.k (.bool false)] [(0,1,(.s 126)),(1,1,(.s 131)),(2,1,(.s 132)),(3,1,(.s 140))]}),
  (24,{op:=.lits 142 q4 [(.s 141)]}),
  (25,{op:=.app 143 (.s 122) (.s 142) q4 4398046511104}),
  (26,{op:=.nckv 144 (.s 118)}),
  (27,oG 145 144 10),
  (28,oS 145 143 1)]
def c_Ii_41:VC:=
 .seq (.seq (.d 12 [(0,M 103 0),
  (1,{op:=.nckv 104 (.s 103)}),
  (2,oG 105 104 6),
  (3,oV 106 105 1),
  (4,oG 107 3 0),
  (5,oV 108 107 1),
  (6,oX 109 106 108 1),
  (7,oL 110 109 1),
  (8,{op:=.un 111 .not (.s 110)})]) c_Ii_44) (.kp [0,2,3] c_Ii_47)
def c_Ii_33:VC:=
 .seq (.seq (.r 9 [M 73 0,
  M 74 2,
  {op:=.call 75 123 [(.s 73),(.s 74)]},
  M 5 75]) c_Ii_36) (.kp [0,2,3] c_Ii_41)
def c_Ii_31:VC:=
 .seq (.d 8 [(0,M 63 0),
  (1,{op:=.nckv 64 (.s 63)}),
  (2,oG 65 64 0),
  (3,oG 66 65 0),
  (4,oV 67 66 1),
  (5,oG 68 3 0),
  (6,oV 69 68 1),
  (7,oX 70 67 69 3),
  (8,oG 71 70 0),
  (9,oV 72 71 1),
  (10,M 4 72)]) c_Ii_33
def c_Ii_25:VC:=
 .seq (.seq (.r 6 [oF 54 3 3,
  oL 55 54 1]) c_Ii_28) (.kp [0,2,3] c_Ii_31)
def c_Ii_23:VC:=
 .seq (.r 5 [M 46 0,
  {op:=.nck 47 (.s 46)},
  oF 48 47 0,
  oF 49 48 1,
  oL 50 49 1,
  M 51 2,
  oX 52 50 51 5,
  {op:=.ld 53 (.s 52) 5 true},
  {op:=.alloc 3 [.k (.int .i64 0),.k (.int .i64 0),.k (.int .i64 0),.k (.bool false),.o [.sc]]},
  oS 3 53 5]) c_Ii_25
def c_Ii_21:VC:=
 .seq (.r 4 [M 40 0,
  {op:=.nck 41 (.s 40)},
  oF 42 41 4,
  oL 43 42 1,
  M 44 2,
  oX 45 43 44 1,
  {op:=.st (.s 45) (.k (.bool true)) 1}]) c_Ii_23
def c_Ii_14:VC:=
 .ite (.s 27) (.seq (.seq (.d 3 [(0,M 28 0),
  (1,{op:=.nckv 29 (.s 28)}),
  (2,oG 30 29 3),
  (3,oV 31 30 1),
  (4,M 32 2),
  (5,oX 33 31 32 1),
  (6,oL 34 33 1),
  (7,M 35 0),
  (8,{op:=.nckv 36 (.s 35)}),
  (9,oG 37 36 8),
  (10,oV 38 37 1),
  (11,{op:=.bin 39 .gtr (.s 34) (.s 38)})]) c_Ii_18) c_Ii_21) (.skip)
def c_Ii_49:VC:=
 .r 15 [M 146 0,
  {op:=.nck 147 (.s 146)},
  oF 148 147 5,
  oL 149 148 1,
  {op:=.bin 150 .add (.s 149) (.k (.int .i64 1))},
  {op:=.nck 151 (.s 146)},
  oF 152 151 5,
  oS 152 150 1]
def c_Ii_11:VC:=
 .seq (.seq (.r 2 [M 20 0,
  {op:=.nck 21 (.s 20)},
  oF 22 21 4,
  oL 23 22 1,
  M 24 2,
  oX 25 23 24 1,
  oL 26 25 1,
  {op:=.un 27 .not (.s 26)}]) c_Ii_14) (.kp [0] c_Ii_49)
def c_Ii_8:VC:=
 .blk 1 (.seq (.r 1 [M 16 0,
  {op:=.nck 17 (.s 16)},
  oF 18 17 5,
  oL 19 18 1,
  M 2 19]) c_Ii_11)
def c_Ii_2:VC:=
 .seq (.seq (.d 0 [(0,M 6 0),
  (1,{op:=.nckv 7 (.s 6)}),
  (2,oG 8 7 5),
  (3,oV 9 8 1),
  (4,M 10 0),
  (5,{op:=.nckv 11 (.s 10)}),
  (6,oG 12 11 3),
  (7,oV 13 12 1),
  (8,{op:=.len 14 (.s 13)}),
  (9,{op:=.bin 15 .lss (.s 9) (.s 14)})]) c_Ii_5) c_Ii_8
def c_Ii_0:VC:=
 .blk 0 (.loop [0] c_Ii_2)
def vf_Ii:VF:={ pm:=[.mb [.ro q3,.ro q5,.sc,.own [.sc],.own [.sc],.sc,.own [.sc],.sc,.sc,.sc,.own q4]],rm:=[],nslots:=153,res:=[],rc:=[],code:=.kp [0] c_Ii_0 }
def c_Ib_5:VC:=
 .ite (.s 31) (.seq (.r 2 [{op:=.bld 32 [.k (.int .i64 0),.o q4,.k (.int .i64 0),.k (.int .i64 0)] [(0,1,(.k (.int .i64 1)))]},
  oS 6 32 4]) (.ret)) (.skip)
def c_Ib_27:VC:=
 .ite (.s 41) (.seq (.r 7 [{op:=.bld 42 [.k (.int .i64 0),.o q4,.k (.int .i64 0),.k (.int .i64 0)] [(0,1,(.k (.int .i64 1)))]},
  oS 6 42 4]) (.ret)) (.skip)
def c_Ib_25:VC:=
 .seq (.r 6 [{op:=.ld 39 (.s 8) 2 true},
  {op:=.call 40 70 [(.s 39)]},
  {op:=.un 41 .not (.s 40)}]) c_Ib_27
def c_Ib_32:VC:=
 .r 8 [{op:=.bin 43 .add (.s 35) (.k (.int .i64 1))},
  M 35 43]
def c_Ib_21:VC:=
 .seq (.blk 1 (.seq (.r 5 [oX 37 33 35 2,
  {op:=.ld 38 (.s 37) 2 true},
  {op:=.alloc 8 [.k (.int .i64 0),.k (.int .i64 0)]},
  oS 8 38 2]) c_Ib_25)) c_Ib_32
def c_Ib_17:VC:=
 .seq (.ite (.s 36) (.skip) (.exit 0)) c_Ib_21
def c_Ib_15:VC:=
 .seq (.r 4 [{op:=.bin 36 .lss (.s 35) (.s 34)}]) c_Ib_17
def c_Ib_13:VC:=
 .blk 0 (.loop [1,2,3,6,33,34,35] c_Ib_15)
def c_Ib_52:VC:=
 .d 14 [(0,M 61 10),
  (1,M 62 10),
  (2,{op:=.nckv 63 (.s 62)}),
  (3,oG 64 63 3),
  (4,oV 65 64 1),
  (5,{op:=.ldv 66 (.s 3) 2 true}),
  (6,M 67 11),
  (7,{op:=.call 68 71 [(.s 66),(.s 67)]}),
  (8,{op:=.lits 69 [.sc] [(.s 68)]}),
  (9,{op:=.app 70 (.s 65) (.s 69) [.sc] 17592186044416}),
  (10,{op:=.nckv 71 (.s 61)}),
  (11,oG 72 71 3),
  (12,oS 72 70 1)]
def c_Ib_53:VC:=
 .r 15 [{op:=.bin 73 .add (.s 58) (.k (.int .i64 1))},
  M 58 73]
def c_Ib_48:VC:=
 .seq (.blk 3 (.seq (.r 13 [M 60 58,
  M 11 60]) c_Ib_52)) c_Ib_53
def c_Ib_44:VC:=
 .seq (.ite (.s 59) (.skip) (.exit 2)) c_Ib_48
def c_Ib_42:VC:=
 .seq (.r 12 [{op:=.bin 59 .lss (.s 58) (.s 57)}]) c_Ib_44
def c_Ib_40:VC:=
 .blk 2 (.pre [.nlv 10 3 [.sc]] (.loop [2,3,6,10,57,58] c_Ib_42))
def c_Ib_77:VC:=
 .ite (.s 82) (.skip) (.r 22 [{op:=.bin 84 .eql (.s 81) (.k (.int .i64 2))},
  M 82 84])
def c_Ib_96:VC:=
 .ite (.s 101) (.seq (.d 30 [(0,M 102 10),
  (1,{op:=.nckv 103 (.s 102)}),
  (2,oG 104 103 7),
  (3,oV 105 104 1),
  (4,oG 106 15 1),
  (5,oV 107 106 1),
  (6,{op:=.bin 108 .add (.s 105) (.s 107)}),
  (7,{op:=.nckv 109 (.s 102)}),
  (8,oG 110 109 7),
  (9,oS 110 108 1)]) (.exit 5)) (.skip)
def c_Ib_117:VC:=
 .r 35 [M 131 10,
  {op:=.call 132 73 [(.s 131)]}]
def c_Ib_115:VC:=
 .seq (.r 34 [M 122 10,
  {op:=.nck 123 (.s 122)},
  oF 124 123 8,
  oL 125 124 1,
  M 126 12,
  {op:=.bin 127 .mul (.k (.int .i64 10)) (.s 126)},
  {op:=.bin 128 .add (.s 125) (.s 127)},
  {op:=.nck 129 (.s 122)},
  oF 130 129 8,
  oS 130 128 1]) c_Ib_117
def c_Ib_118:VC:=
 .r 36 [{op:=.bin 133 .add (.s 113) (.k (.int .i64 1))},
  M 113 133]
def c_Ib_111:VC:=
 .seq (.blk 8 (.seq (.r 33 [M 115 10,
  {op:=.nck 116 (.s 115)},
  oF 117 116 7,
  oL 118 117 1,
  {op:=.bin 119 .add (.s 118) (.k (.int .i64 1))},
  {op:=.nck 120 (.s 115)},
  oF 121 120 7,
  oS 121 119 1]) c_Ib_115)) c_Ib_118
def c_Ib_107:VC:=
 .seq (.ite (.s 114) (.skip) (.exit 7)) c_Ib_111
def c_Ib_105:VC:=
 .seq (.r 32 [{op:=.bin 114 .lss (.s 113) (.s 112)}]) c_Ib_107
def c_Ib_103:VC:=
 .blk 7 (.loop [6,10,12,13,74,75,76,112,113] c_Ib_105)
def c_Ib_101:VC:=
 .seq (.r 31 [oF 111 15 1,
  oL 112 111 1,
  oN 113 0]) c_Ib_103
def c_Ib_92:VC:=
 .ite (.s 98) (.seq (.seq (.r 29 [M 100 13,
  {op:=.un 101 .not (.s 100)}]) c_Ib_96) c_Ib_101) (.skip)
def c_Ib_88:VC:=
 .ite (.s 92) (.r 27 [M 94 10,
  oF 95 15 1,
  oL 96 95 1,
  {op:=.call 97 72 [(.s 94),(.s 96)]}]) (.seq (.r 28 [{op:=.bin 99 .eql (.s 81) (.k (.int .i64 4))},
  M 98 99]) c_Ib_92)
def c_Ib_84:VC:=
 .ite (.s 88) (.r 25 [oF 90 15 1,
  oL 91 90 1,
  M 12 91]) (.seq (.r 26 [{op:=.bin 93 .eql (.s 81) (.k (.int .i64 3))},
  M 92 93]) c_Ib_88)
def c_Ib_80:VC:=
 .ite (.s 82) (.r 23 [oF 85 15 0,
  oL 86 85 1,
  {op:=.bin 87 .eql (.s 86) (.k (.int .i64 1))},
  M 13 87]) (.seq (.r 24 [{op:=.bin 89 .eql (.s 81) (.k (.int .i64 5))},
  M 88 89]) c_Ib_84)
def c_Ib_73:VC:=
 .blk 6 (.seq (.seq (.r 21 [{op:=.bin 83 .eql (.s 81) (.k (.int .i64 1))},
  M 82 83]) c_Ib_77) (.kp [6,10,12,13,15,74,75,76,81,82] c_Ib_80))
def c_Ib_71:VC:=
 .seq (.r 20 [oF 80 15 0,
  oL 81 80 1]) c_Ib_73
def c_Ib_120:VC:=
 .r 37 [{op:=.bin 134 .add (.s 76) (.k (.int .i64 1))},
  M 76 134]
def c_Ib_67:VC:=
 .seq (.blk 5 (.seq (.r 19 [oX 78 74 76 2,
  {op:=.ld 79 (.s 78) 2 true},
  {op:=.alloc 15 [.k (.int .i64 0),.k (.int .i64 0)]},
  oS 15 79 2]) c_Ib_71)) (.kp [6,10,12,13,74,75,76] c_Ib_120)
def c_Ib_63:VC:=
 .seq (.ite (.s 77) (.skip) (.exit 4)) c_Ib_67
def c_Ib_61:VC:=
 .seq (.r 18 [{op:=.bin 77 .lss (.s 76) (.s 75)}]) c_Ib_63
def c_Ib_59:VC:=
 .blk 4 (.pre [.nlv 10 10 q4] (.loop [6,10,12,13,74,75,76] c_Ib_61))
def c_Ib_121:VC:=
 .seq (.d 38 [(0,M 135 10),
  (1,{op:=.nckv 136 (.s 135)}),
  (2,oG 137 136 10),
  (3,oV 138 137 1),
  (4,M 139 10),
  (5,{op:=.nckv 140 (.s 139)}),
  (6,oG 141 140 7),
  (7,oV 142 141 1),
  (8,M 143 10),
  (9,{op:=.nckv 144 (.s 143)}),
  (10,oG 145 144 8),
  (11,oV 146 145 1),
  (12,{op:=.bin 147 .quo (.s 146) (.k (.int .i64 1000))}),
  (13,{op:=.bld 148 [.k (.int .i64 0),.k (.slice none 0 0),.k (.int .i64 0),.k (.int .i64 0)] [(1,1,(.s 138)),(2,1,(.s 142)),(3,1,(.s 147))]}),
  (14,oS 6 148 4)]) (.ret)
def c_Ib_56:VC:=
 .seq (.seq (.r 17 [M 74 2,
  {op:=.len 75 (.s 74)},
  oN 76 0]) c_Ib_59) (.kp [6,10] c_Ib_121)
def c_Ib_54:VC:=
 .seq (.r 16 [oN 12 100,
  oK 13 false]) c_Ib_56
def c_Ib_37:VC:=
 .seq (.seq (.r 11 [M 57 9,
  oN 58 0]) c_Ib_40) (.kp [2,6,10] c_Ib_54)
def c_Ib_35:VC:=
 .seq (.pre [.pado 2] (.d 10 [(0,{op:=.ldk 47 (.s 3) 0 2 true}),
  (1,M 48 1),
  (2,M 49 9),
  (4,{op:=.fadk 51 (.s 3) 0 0}),
  (5,{op:=.ldk 52 (.s 51) 0 1 false}),
  (6,{op:=.lenr 53 (.s 52)}),
  (3,{op:=.mkk 50 (.s 49) [.sc] [(.bool false)] 140737488355328 1}),
  (7,{op:=.mkk 54 (.s 53) [.sc] [(.bool false)] 140737488355328 2}),
  (8,{op:=.bld 55 [.k (.slice none 0 0),.k (.slice none 0 0),.k (.int .i64 0),.k (.slice none 0 0),.k (.slice none 0 0),.k (.int .i64 0),.k (.slice none 0 0),.k (.int .i64 0),.k (.int .i64 0),.k (.int .i64 0),.k (.slice none 0 0)] [(0,2,(.s 47)),(2,1,(.s 48)),(4,1,(.s 50)),(6,1,(.s 54))]}),
  (9,{op:=.box 56 (.s 55)}),
  (10,M 10 56)])) c_Ib_37
def c_Ib_33:VC:=
 .seq (.r 9 [oF 44 3 1,
  oL 45 44 1,
  {op:=.len 46 (.s 45)},
  M 9 46]) c_Ib_35
def c_Ib_10:VC:=
 .seq (.seq (.r 3 [M 33 2,
  {op:=.len 34 (.s 33)},
  oN 35 0]) c_Ib_13) (.kp [1,2,3,6] c_Ib_33)
def c_Ib_2:VC:=
 .seq (.seq (.r 1 [{op:=.ld 16 (.s 3) 2 true},
  {op:=.call 17 54 [(.s 16)]},
  {op:=.un 18 .not (.s 17)},
  M 19 18,
  ⟨none,[],some (19,false),.mv 20 (.s 1)⟩,
  ⟨none,[],some (19,false),.bin 21 .lss (.s 20) (.k (.int .i64 1))⟩,
  {op:=.pick 22 (.s 19) (.k (.bool true)) (.s 21)},
  M 23 22,
  ⟨none,[],some (23,false),.mv 24 (.s 1)⟩,
  ⟨none,[],some (23,false),.bin 25 .gtr (.s 24) (.k (.int .i64 1000))⟩,
  {op:=.pick 26 (.s 23) (.k (.bool true)) (.s 25)},
  M 27 26,
  ⟨none,[],some (27,false),.mv 28 (.s 2)⟩,
  ⟨none,[],some (27,false),.len 29 (.s 28)⟩,
  ⟨none,[],some (27,false),.bin 30 .gtr (.s 29) (.k (.int .i64 500))⟩,
  {op:=.pick 31 (.s 27) (.k (.bool true)) (.s 30)}]) (.kp [1,2,3,6,31] c_Ib_5)) c_Ib_10
def c_Ib_0:VC:=
 .seq (.r 0 [{op:=.box 3 (.s 0)},
  {op:=.alloc 6 [.k (.int .i64 0),.o q4,.k (.int .i64 0),.k (.int .i64 0)]}]) c_Ib_2
def vf_Ib:VF:={ pm:=[.ro [.ro q3,.ro q5],.ro [.sc],.ro [.ro [.sc,.sc]]],rm:=[.v [.sc,.own q4,.sc,.sc]],nslots:=149,res:=[6],rc:=[some (4,true)],code:=.kp [0,1,2] c_Ib_0 }
def c_Se_10:VC:=
 .ite (.s 7) (.skip) (.exit 0)
def c_Se_17:VC:=
 .ite (.s 19) (.seq (.r 5 [oK 2 false]) (.ret)) (.skip)
def c_Se_22:VC:=
 .r 3 [M 8 3,
  {op:=.bin 9 .add (.s 8) (.k (.int .i64 1))},
  M 3 9]
def c_Se_13:VC:=
 .seq (.blk 1 (.seq (.r 4 [M 10 0,
  M 11 3,
  {op:=.idx 12 (.s 10) (.s 11)},
  {op:=.bin 13 .lss (.s 12) (.k (.int .u8 32))},
  M 14 13,
  ⟨none,[],some (14,false),.mv 15 (.s 0)⟩,
  ⟨none,[],some (14,false),.mv 16 (.s 3)⟩,
  ⟨none,[],some (14,false),.idx 17 (.s 15) (.s 16)⟩,
  ⟨none,[],some (14,false),.bin 18 .gtr (.s 17) (.k (.int .u8 126))⟩,
  {op:=.pick 19 (.s 14) (.k (.bool true)) (.s 18)}]) c_Se_17)) c_Se_22
def c_Se_7:VC:=
 .seq (.seq (.r 2 [M 4 3,
  M 5 0,
  {op:=.slen 6 (.s 5)},
  {op:=.bin 7 .lss (.s 4) (.s 6)}]) c_Se_10) c_Se_13
def c_Se_5:VC:=
 .blk 0 (.loop [0,3] c_Se_7)
def c_Se_23:VC:=
 .seq (.r 6 [oK 2 true]) (.ret)
def c_Se_2:VC:=
 .seq (.seq (.r 1 [oN 3 0]) c_Se_5) (.kp [] c_Se_23)
def c_Se_0:VC:=
 .seq (.r 0 [oK 2 false]) c_Se_2
def vf_Se:VF:={ pm:=[.ro [.sc]],rm:=[.v [.sc]],nslots:=20,res:=[2],rc:=[],code:=.kp [0] c_Se_0 }
def c_Sk_2:VC:=
 .seq (.r 1 [oF 3 1 0,
  oL 4 3 1,
  {op:=.bin 5 .geq (.s 4) (.k (.int .i64 1))},
  M 6 5,
  ⟨none,[],some (6,true),.fadr 7 (.s 1) 0⟩,
  ⟨none,[],some (6,true),.ld 8 (.s 7) 1 false⟩,
  ⟨none,[],some (6,true),.bin 9 .leq (.s 8) (.k (.int .i64 6))⟩,
  {op:=.pick 10 (.s 6) (.s 9) (.k (.bool false))},
  M 11 10,
  ⟨none,[],some (11,true),.fadr 12 (.s 1) 1⟩,
  ⟨none,[],some (11,true),.ld 13 (.s 12) 1 false⟩,
  ⟨none,[],some (11,true),.bin 14 .geq (.s 13) (.k (.int .i64 1))⟩,
  {op:=.pick 15 (.s 11) (.s 14) (.k (.bool false))},
  M 16 15,
  ⟨none,[],some (16,true),.fadr 17 (.s 1) 1⟩,
  ⟨none,[],some (16,true),.ld 18 (.s 17) 1 false⟩,
  ⟨none,[],some (16,true),.bin 19 .leq (.s 18) (.k (.int .i64 1000000))⟩,
  {op:=.pick 20 (.s 16) (.s 19) (.k (.bool false))},
  M 21 20,
  ⟨none,[],some (21,true),.fadr 22 (.s 1) 2⟩,
  ⟨none,[],some (21,true),.ld 23 (.s 22) 1 false⟩,
  ⟨none,[],some (21,true),.slen 24 (.s 23)⟩,
  ⟨none,[],some (21,true),.bin 25 .leq (.s 24) (.k (.int .i64 40))⟩,
  {op:=.pick 26 (.s 21) (.s 25) (.k (.bool false))},
  M 27 26,
  ⟨none,[],some (27,true),.fadr 28 (.s 1) 2⟩,
  ⟨none,[],some (27,true),.ld 29 (.s 28) 1 false⟩,
  ⟨none,[],some (27,true),.call 30 139 [(.s 29)]⟩,
  {op:=.pick 31 (.s 27) (.s 30) (.k (.bool false))},
  M 2 31]) (.ret)
def c_Sk_0:VC:=
 .seq (.r 0 [{op:=.box 1 (.s 0)},
  oK 2 false]) c_Sk_2
def vf_Sk:VF:={ pm:=[.ro q3],rm:=[.v [.sc]],nslots:=32,res:=[2],rc:=[],code:=.kp [0] c_Sk_0 }
def c_Sl_19:VC:=
 .ite (.s 13) (.seq (.r 5 [oK 2 false]) (.ret)) (.skip)
def c_Sl_17:VC:=
 .seq (.r 4 [{op:=.ld 11 (.s 4) 3 true},
  {op:=.call 12 97 [(.s 11)]},
  {op:=.un 13 .not (.s 12)}]) c_Sl_19
def c_Sl_24:VC:=
 .r 6 [{op:=.bin 14 .add (.s 7) (.k (.int .i64 1))},
  M 7 14]
def c_Sl_13:VC:=
 .seq (.blk 1 (.seq (.r 3 [oX 9 5 7 3,
  {op:=.ld 10 (.s 9) 3 true},
  {op:=.alloc 4 [.k (.int .i64 0),.k (.int .i64 0),.k (.string (ByteArray.mk #[]))]},
  oS 4 10 3]) c_Sl_17)) c_Sl_24
def c_Sl_9:VC:=
 .seq (.ite (.s 8) (.skip) (.exit 0)) c_Sl_13
def c_Sl_7:VC:=
 .seq (.r 2 [{op:=.bin 8 .lss (.s 7) (.s 6)}]) c_Sl_9
def c_Sl_5:VC:=
 .blk 0 (.loop [0,5,6,7] c_Sl_7)
def c_Sl_25:VC:=
 .seq (.r 7 [M 15 0,
  {op:=.len 16 (.s 15)},
  {op:=.bin 17 .geq (.s 16) (.k (.int .i64 1))},
  M 18 17,
  ⟨none,[],some (18,true),.mv 19 (.s 0)⟩,
  ⟨none,[],some (18,true),.len 20 (.s 19)⟩,
  ⟨none,[],some (18,true),.bin 21 .leq (.s 20) (.k (.int .i64 8))⟩,
  {op:=.pick 22 (.s 18) (.s 21) (.k (.bool false))},
  M 2 22]) (.ret)
def c_Sl_2:VC:=
 .seq (.seq (.r 1 [M 5 0,
  {op:=.len 6 (.s 5)},
  oN 7 0]) c_Sl_5) (.kp [0] c_Sl_25)
def c_Sl_0:VC:=
 .seq (.r 0 [oK 2 false]) c_Sl_2
def vf_Sl:VF:={ pm:=[.ro [.ro q3]],rm:=[.v [.sc]],nslots:=23,res:=[2],rc:=[],code:=.kp [0] c_Sl_0 }
def c_Sj_2:VC:=
 .seq (.r 1 [M 3 0,
  {op:=.bin 4 .geq (.s 3) (.k (.int .i64 0))},
  M 5 4,
  ⟨none,[],some (5,true),.mv 6 (.s 0)⟩,
  ⟨none,[],some (5,true),.bin 7 .leq (.s 6) (.k (.int .i64 1000000000))⟩,
  {op:=.pick 8 (.s 5) (.s 7) (.k (.bool false))},
  M 2 8]) (.ret)
def c_Sj_0:VC:=
 .seq (.r 0 [oK 2 false]) c_Sj_2
def vf_Sj:VF:={ pm:=[.ro [.sc]],rm:=[.v [.sc]],nslots:=9,res:=[2],rc:=[],code:=.kp [0] c_Sj_0 }
def c_Si_5:VC:=
 .ite (.s 17) (.seq (.r 2 [oK 2 false]) (.ret)) (.skip)
def c_Si_27:VC:=
 .r 7 [M 27 3,
  M 28 4,
  oX 29 27 28 1,
  {op:=.st (.s 29) (.k (.int .i64 (-1))) 1}]
def c_Si_28:VC:=
 .r 8 [{op:=.bin 30 .add (.s 24) (.k (.int .i64 1))},
  M 24 30]
def c_Si_23:VC:=
 .seq (.blk 1 (.seq (.r 6 [M 26 24,
  M 4 26]) c_Si_27)) c_Si_28
def c_Si_19:VC:=
 .seq (.ite (.s 25) (.skip) (.exit 0)) c_Si_23
def c_Si_17:VC:=
 .seq (.r 5 [{op:=.bin 25 .lss (.s 24) (.s 23)}]) c_Si_19
def c_Si_15:VC:=
 .blk 0 (.loop [1,3,23,24] c_Si_17)
def c_Si_49:VC:=
 .ite (.s 60) (.seq (.r 14 [oK 2 false]) (.ret)) (.skip)
def c_Si_57:VC:=
 .ite (.s 81) (.seq (.r 16 [oK 2 false]) (.ret)) (.skip)
def c_Si_68:VC:=
 .ite (.s 94) (.seq (.r 20 [oK 2 false]) (.ret)) (.skip)
def c_Si_66:VC:=
 .seq (.r 19 [M 93 5,
  {op:=.bin 94 .gtr (.s 93) (.k (.int .i64 60000))}]) c_Si_68
def c_Si_64:VC:=
 .seq (.r 18 [M 88 5,
  oF 89 7 4,
  oL 90 89 1,
  {op:=.len 91 (.s 90)},
  {op:=.bin 92 .add (.s 88) (.s 91)},
  M 5 92]) c_Si_66
def c_Si_62:VC:=
 .seq (.r 17 [M 82 3,
  oF 83 7 0,
  oL 84 83 1,
  oF 85 7 1,
  oL 86 85 1,
  oX 87 82 84 1,
  oS 87 86 1]) c_Si_64
def c_Si_54:VC:=
 .seq (.seq (.d 15 [(0,oG 61 7 1),
  (1,oV 62 61 1),
  (2,M 63 3),
  (3,oG 64 7 0),
  (4,oV 65 64 1),
  (5,oX 66 63 65 1),
  (6,oL 67 66 1),
  (7,{op:=.bin 68 .lss (.s 62) (.s 67)}),
  (8,M 69 68),
  (9,⟨none,[],some (69,false),.mv 70 (.s 3)⟩),
  (10,⟨none,[],some (69,false),.fadv 71 (.s 7) 0⟩),
  (11,⟨none,[],some (69,false),.ldv 72 (.s 71) 1 false⟩),
  (12,⟨none,[],some (69,false),.iadr 73 (.s 70) (.s 72) 1⟩),
  (13,⟨none,[],some (69,false),.ld 74 (.s 73) 1 false⟩),
  (14,⟨none,[],some (69,false),.bin 75 .lss (.s 74) (.k (.int .i64 0))⟩),
  (15,⟨none,[],some (69,false),.mv 76 (.s 75)⟩),
  (16,⟨none,[],some (76,true),.fadv 77 (.s 7) 3⟩),
  (17,⟨none,[],some (76,true),.ldv 78 (.s 77) 1 false⟩),
  (18,⟨none,[],some (76,true),.un 79 .not (.s 78)⟩),
  (19,⟨none,[],some (69,false),.pick 80 (.s 76) (.s 79) (.k (.bool false))⟩),
  (20,{op:=.pick 81 (.s 69) (.k (.bool true)) (.s 80)})]) c_Si_57) (.kp [1,3,5,7,32,33,34] c_Si_62)
def c_Si_46:VC:=
 .seq (.seq (.r 13 [oF 38 7 0,
  oL 39 38 1,
  {op:=.bin 40 .lss (.s 39) (.k (.int .i64 0))},
  M 41 40,
  ⟨none,[],some (41,false),.fadr 42 (.s 7) 0⟩,
  ⟨none,[],some (41,false),.ld 43 (.s 42) 1 false⟩,
  ⟨none,[],some (41,false),.fadr 44 (.s 1) 0⟩,
  ⟨none,[],some (41,false),.ld 45 (.s 44) 1 false⟩,
  ⟨none,[],some (41,false),.len 46 (.s 45)⟩,
  ⟨none,[],some (41,false),.bin 47 .geq (.s 43) (.s 46)⟩,
  {op:=.pick 48 (.s 41) (.k (.bool true)) (.s 47)},
  M 49 48,
  ⟨none,[],some (49,false),.fadr 50 (.s 7) 1⟩,
  ⟨none,[],some (49,false),.ld 51 (.s 50) 1 false⟩,
  ⟨none,[],some (49,false),.call 52 127 [(.s 51)]⟩,
  ⟨none,[],some (49,false),.un 53 .not (.s 52)⟩,
  {op:=.pick 54 (.s 49) (.k (.bool true)) (.s 53)},
  M 55 54,
  ⟨none,[],some (55,false),.fadr 56 (.s 7) 2⟩,
  ⟨none,[],some (55,false),.ld 57 (.s 56) 1 false⟩,
  ⟨none,[],some (55,false),.call 58 127 [(.s 57)]⟩,
  ⟨none,[],some (55,false),.un 59 .not (.s 58)⟩,
  {op:=.pick 60 (.s 55) (.k (.bool true)) (.s 59)}]) c_Si_49) c_Si_54
def c_Si_73:VC:=
 .r 21 [{op:=.bin 95 .add (.s 34) (.k (.int .i64 1))},
  M 34 95]
def c_Si_42:VC:=
 .seq (.blk 3 (.seq (.r 12 [oX 36 32 34 5,
  {op:=.ld 37 (.s 36) 5 true},
  {op:=.alloc 7 [.k (.int .i64 0),.k (.int .i64 0),.k (.int .i64 0),.k (.bool false),.o [.sc]]},
  oS 7 37 5]) c_Si_46)) c_Si_73
def c_Si_38:VC:=
 .seq (.ite (.s 35) (.skip) (.exit 2)) c_Si_42
def c_Si_36:VC:=
 .seq (.r 11 [{op:=.bin 35 .lss (.s 34) (.s 33)}]) c_Si_38
def c_Si_34:VC:=
 .blk 2 (.loop [1,3,5,32,33,34] c_Si_36)
def c_Si_74:VC:=
 .seq (.r 22 [oK 2 true]) (.ret)
def c_Si_31:VC:=
 .seq (.seq (.r 10 [oF 31 1 1,
  oL 32 31 1,
  {op:=.len 33 (.s 32)},
  oN 34 0]) c_Si_34) (.kp [] c_Si_74)
def c_Si_29:VC:=
 .seq (.r 9 [oN 5 0]) c_Si_31
def c_Si_12:VC:=
 .seq (.seq (.r 4 [M 22 3,
  {op:=.len 23 (.s 22)},
  oN 24 0]) c_Si_15) (.kp [1,3] c_Si_29)
def c_Si_10:VC:=
 .seq (.r 3 [oF 18 1 0,
  oL 19 18 1,
  {op:=.len 20 (.s 19)},
  {op:=.mk 21 (.s 20) [.sc] [(.int .i64 0)] 17592186044416},
  M 3 21]) c_Si_12
def c_Si_2:VC:=
 .seq (.seq (.r 1 [oF 8 1 0,
  oL 9 8 1,
  {op:=.call 10 142 [(.s 9)]},
  {op:=.un 11 .not (.s 10)},
  M 12 11,
  ⟨none,[],some (12,false),.fadr 13 (.s 1) 1⟩,
  ⟨none,[],some (12,false),.ld 14 (.s 13) 1 false⟩,
  ⟨none,[],some (12,false),.len 15 (.s 14)⟩,
  ⟨none,[],some (12,false),.bin 16 .gtr (.s 15) (.k (.int .i64 400))⟩,
  {op:=.pick 17 (.s 12) (.k (.bool true)) (.s 16)}]) c_Si_5) c_Si_10
def c_Si_0:VC:=
 .seq (.r 0 [{op:=.box 1 (.s 0)},
  oK 2 false]) c_Si_2
def vf_Si:VF:={ pm:=[.ro [.ro q3,.ro q5]],rm:=[.v [.sc]],nslots:=96,res:=[2],rc:=[],code:=.kp [0] c_Si_0 }
def c_Sc_5:VC:=
 .ite (.s 6) (.seq (.r 2 [oK 2 false]) (.ret)) (.skip)
def c_Sc_18:VC:=
 .ite (.s 11) (.skip) (.exit 0)
def c_Sc_25:VC:=
 .ite (.s 19) (.seq (.r 7 [oK 2 false]) (.ret)) (.skip)
def c_Sc_30:VC:=
 .r 5 [M 12 3,
  {op:=.bin 13 .add (.s 12) (.k (.int .i64 1))},
  M 3 13]
def c_Sc_21:VC:=
 .seq (.blk 1 (.seq (.r 6 [{op:=.ld 14 (.s 1) 2 true},
  M 15 3,
  {op:=.bin 16 .sub (.s 15) (.k (.int .i64 1))},
  M 17 3,
  {op:=.call 18 104 [(.s 14),(.s 16),(.s 17)]},
  {op:=.un 19 .not (.s 18)}]) c_Sc_25)) c_Sc_30
def c_Sc_15:VC:=
 .seq (.seq (.r 4 [M 7 3,
  oF 8 1 1,
  oL 9 8 1,
  {op:=.len 10 (.s 9)},
  {op:=.bin 11 .lss (.s 7) (.s 10)}]) c_Sc_18) c_Sc_21
def c_Sc_13:VC:=
 .blk 0 (.loop [1,3] c_Sc_15)
def c_Sc_31:VC:=
 .seq (.r 8 [oK 2 true]) (.ret)
def c_Sc_10:VC:=
 .seq (.seq (.r 3 [oN 3 1]) c_Sc_13) (.kp [] c_Sc_31)
def c_Sc_2:VC:=
 .seq (.seq (.r 1 [{op:=.ld 4 (.s 1) 2 true},
  {op:=.call 5 103 [(.s 4)]},
  {op:=.un 6 .not (.s 5)}]) c_Sc_5) c_Sc_10
def c_Sc_0:VC:=
 .seq (.r 0 [{op:=.box 1 (.s 0)},
  oK 2 false]) c_Sc_2
def vf_Sc:VF:={ pm:=[.ro [.ro q3,.ro q5]],rm:=[.v [.sc]],nslots:=20,res:=[2],rc:=[],code:=.kp [0] c_Sc_0 }
def c_Sn_9:VC:=
 .ite (.s 5) (.skip) (.r 3 [{op:=.bin 7 .eql (.s 4) (.k (.int .i64 2))},
  M 5 7])
def c_Sn_30:VC:=
 .ite (.s 31) (.seq (.r 10 [oF 33 1 1,
  oL 34 33 1,
  {op:=.bin 35 .geq (.s 34) (.k (.int .i64 25))},
  M 36 35,
  ⟨none,[],some (36,true),.fadr 37 (.s 1) 1⟩,
  ⟨none,[],some (36,true),.ld 38 (.s 37) 1 false⟩,
  ⟨none,[],some (36,true),.bin 39 .leq (.s 38) (.k (.int .i64 400))⟩,
  {op:=.pick 40 (.s 36) (.s 39) (.k (.bool false))},
  M 2 40]) (.ret)) (.skip)
def c_Sn_24:VC:=
 .ite (.s 21) (.seq (.r 8 [oF 23 1 1,
  oL 24 23 1,
  {op:=.bin 25 .geq (.s 24) (.k (.int .i64 0))},
  M 26 25,
  ⟨none,[],some (26,true),.fadr 27 (.s 1) 1⟩,
  ⟨none,[],some (26,true),.ld 28 (.s 27) 1 false⟩,
  ⟨none,[],some (26,true),.bin 29 .leq (.s 28) (.k (.int .i64 100000))⟩,
  {op:=.pick 30 (.s 26) (.s 29) (.k (.bool false))},
  M 2 30]) (.ret)) (.seq (.r 9 [{op:=.bin 32 .eql (.s 4) (.k (.int .i64 5))},
  M 31 32]) c_Sn_30)
def c_Sn_18:VC:=
 .ite (.s 11) (.seq (.r 6 [oF 13 1 1,
  oL 14 13 1,
  {op:=.bin 15 .geq (.s 14) (.k (.int .i64 0))},
  M 16 15,
  ⟨none,[],some (16,true),.fadr 17 (.s 1) 1⟩,
  ⟨none,[],some (16,true),.ld 18 (.s 17) 1 false⟩,
  ⟨none,[],some (16,true),.bin 19 .leq (.s 18) (.k (.int .i64 359999999))⟩,
  {op:=.pick 20 (.s 16) (.s 19) (.k (.bool false))},
  M 2 20]) (.ret)) (.seq (.r 7 [{op:=.bin 22 .eql (.s 4) (.k (.int .i64 4))},
  M 21 22]) c_Sn_24)
def c_Sn_12:VC:=
 .ite (.s 5) (.seq (.r 4 [oF 8 1 1,
  oL 9 8 1,
  {op:=.bin 10 .eql (.s 9) (.k (.int .i64 0))},
  M 2 10]) (.ret)) (.seq (.r 5 [{op:=.bin 12 .eql (.s 4) (.k (.int .i64 3))},
  M 11 12]) c_Sn_18)
def c_Sn_5:VC:=
 .blk 0 (.seq (.seq (.r 2 [{op:=.bin 6 .eql (.s 4) (.k (.int .i64 1))},
  M 5 6]) c_Sn_9) (.kp [1,4,5] c_Sn_12))
def c_Sn_35:VC:=
 .seq (.r 11 [oK 2 false]) (.ret)
def c_Sn_2:VC:=
 .seq (.seq (.r 1 [oF 3 1 0,
  oL 4 3 1]) c_Sn_5) c_Sn_35
def c_Sn_0:VC:=
 .seq (.r 0 [{op:=.box 1 (.s 0)},
  oK 2 false]) c_Sn_2
def vf_Sn:VF:={ pm:=[.ro [.sc,.sc]],rm:=[.v [.sc]],nslots:=41,res:=[2],rc:=[],code:=.kp [0] c_Sn_0 }
def c_So_4:VC:=
 .seq (.d 2 [(0,oG 11 5 1),
  (1,oV 12 11 1),
  (2,{op:=.bin 13 .mul (.s 12) (.k (.int .i64 1000000))}),
  (3,oG 14 2 0),
  (4,oV 15 14 1),
  (5,oG 16 5 0),
  (6,oV 17 16 1),
  (7,oX 18 15 17 3),
  (8,oG 19 18 1),
  (9,oV 20 19 1),
  (10,{op:=.bin 21 .quo (.s 13) (.s 20)}),
  (11,M 4 21)]) (.ret)
def c_So_2:VC:=
 .seq (.r 1 [oF 6 2 1,
  oL 7 6 1,
  M 8 1,
  oX 9 7 8 5,
  {op:=.ld 10 (.s 9) 5 true},
  {op:=.alloc 5 [.k (.int .i64 0),.k (.int .i64 0),.k (.int .i64 0),.k (.bool false),.o [.sc]]},
  oS 5 10 5]) c_So_4
def c_So_0:VC:=
 .seq (.r 0 [{op:=.box 2 (.s 0)},
  oN 4 0]) c_So_2
def vf_So:VF:={ pm:=[.ro [.ro q3,.ro q5],.ro [.sc]],rm:=[.v [.sc]],nslots:=22,res:=[4],rc:=[],code:=.kp [0,1] c_So_0 }
def c_Sr_18:VC:=
 .ite (.s 42) (.r 5 [M 43 0,
  M 44 0,
  {op:=.nck 45 (.s 44)},
  oF 46 45 2,
  oL 47 46 1,
  M 48 2,
  oX 49 47 48 1,
  oL 50 49 1,
  {op:=.nck 51 (.s 43)},
  oF 52 51 11,
  oS 52 50 1]) (.skip)
def c_Sr_16:VC:=
 .seq (.d 4 [(0,M 14 0),
  (1,{op:=.nckv 15 (.s 14)}),
  (2,oG 16 15 9),
  (3,oV 17 16 1),
  (4,M 18 2),
  (5,oX 19 17 18 1),
  (6,oL 20 19 1),
  (7,{op:=.un 21 .not (.s 20)}),
  (8,M 22 21),
  (9,⟨none,[],some (22,true),.mv 23 (.s 0)⟩),
  (10,⟨none,[],some (22,true),.nckv 24 (.s 23)⟩),
  (11,⟨none,[],some (22,true),.fadv 25 (.s 24) 11⟩),
  (12,⟨none,[],some (22,true),.ldv 26 (.s 25) 1 false⟩),
  (13,⟨none,[],some (22,true),.bin 27 .lss (.s 26) (.k (.int .i64 0))⟩),
  (14,⟨none,[],some (22,true),.mv 28 (.s 27)⟩),
  (15,⟨none,[],some (28,false),.mv 29 (.s 0)⟩),
  (16,⟨none,[],some (28,false),.nckv 30 (.s 29)⟩),
  (17,⟨none,[],some (28,false),.fadv 31 (.s 30) 2⟩),
  (18,⟨none,[],some (28,false),.ldv 32 (.s 31) 1 false⟩),
  (19,⟨none,[],some (28,false),.mv 33 (.s 2)⟩),
  (20,⟨none,[],some (28,false),.iadr 34 (.s 32) (.s 33) 1⟩),
  (21,⟨none,[],some (28,false),.ld 35 (.s 34) 1 false⟩),
  (22,⟨none,[],some (28,false),.mv 36 (.s 0)⟩),
  (23,⟨none,[],some (28,false),.nckv 37 (.s 36)⟩),
  (24,⟨none,[],some (28,false),.fadv 38 (.s 37) 11⟩),
  (25,⟨none,[],some (28,false),.ldv 39 (.s 38) 1 false⟩),
  (26,⟨none,[],some (28,false),.bin 40 .lss (.s 35) (.s 39)⟩),
  (27,⟨none,[],some (22,true),.pick 41 (.s 28) (.k (.bool true)) (.s 40)⟩),
  (28,{op:=.pick 42 (.s 22) (.s 41) (.k (.bool false))})]) (.kp [0,2,10,11,42] c_Sr_18)
def c_Sr_21:VC:=
 .r 6 [{op:=.bin 53 .add (.s 11) (.k (.int .i64 1))},
  M 11 53]
def c_Sr_12:VC:=
 .seq (.blk 1 (.seq (.r 3 [M 13 11,
  M 2 13]) c_Sr_16)) c_Sr_21
def c_Sr_8:VC:=
 .seq (.ite (.s 12) (.skip) (.exit 0)) c_Sr_12
def c_Sr_6:VC:=
 .seq (.r 2 [{op:=.bin 12 .lss (.s 11) (.s 10)}]) c_Sr_8
def c_Sr_4:VC:=
 .blk 0 (.loop [0,10,11] c_Sr_6)
def c_Sr_2:VC:=
 .seq (.r 1 [M 6 0,
  {op:=.nck 7 (.s 6)},
  oF 8 7 2,
  oL 9 8 1,
  {op:=.len 10 (.s 9)},
  oN 11 0]) c_Sr_4
def c_Sr_0:VC:=
 .seq (.r 0 [M 3 0,
  {op:=.nck 4 (.s 3)},
  oF 5 4 11,
  {op:=.st (.s 5) (.k (.int .i64 (-1))) 1}]) c_Sr_2
def vf_Sr:VF:={ pm:=[.mb [.ro q3,.ro q5,.own [.sc],.sc,.sc,.sc,.sc,.sc,.sc,.own [.sc],.sc,.sc,.own [.sc],.own q4]],rm:=[],nslots:=54,res:=[],rc:=[],code:=.kp [0] c_Sr_0 }
def c_Sq_5:VC:=
 .ite (.s 11) (.seq (.r 2 [M 12 0,
  {op:=.nck 13 (.s 12)},
  oF 14 13 8,
  oL 15 14 1,
  M 2 15]) (.ret)) (.skip)
def c_Sq_10:VC:=
 .seq (.r 3 [M 16 0,
  {op:=.nck 17 (.s 16)},
  oF 18 17 4,
  oL 19 18 1,
  M 2 19]) (.ret)
def c_Sq_2:VC:=
 .seq (.seq (.d 1 [(0,M 3 0),
  (1,{op:=.nckv 4 (.s 3)}),
  (2,oG 5 4 8),
  (3,oV 6 5 1),
  (4,M 7 0),
  (5,{op:=.nckv 8 (.s 7)}),
  (6,oG 9 8 4),
  (7,oV 10 9 1),
  (8,{op:=.bin 11 .gtr (.s 6) (.s 10)})]) c_Sq_5) c_Sq_10
def c_Sq_0:VC:=
 .seq (.r 0 [oN 2 0]) c_Sq_2
def vf_Sq:VF:={ pm:=[.mb [.ro q3,.ro q5,.own [.sc],.sc,.sc,.sc,.sc,.sc,.sc,.own [.sc],.sc,.sc,.own [.sc],.own q4]],rm:=[.v [.sc]],nslots:=20,res:=[2],rc:=[],code:=.kp [0] c_Sq_0 }
def c_Sp_2:VC:=
 .seq (.d 1 [(0,M 5 0),
  (1,{op:=.nckv 6 (.s 5)}),
  (2,oG 7 6 0),
  (3,oG 8 7 1),
  (4,oV 9 8 1),
  (5,M 10 1),
  (6,oX 11 9 10 5),
  (7,oG 12 11 4),
  (8,oV 13 12 1),
  (9,{op:=.len 14 (.s 13)}),
  (10,M 15 0),
  (11,{op:=.nckv 16 (.s 15)}),
  (12,oG 17 16 3),
  (13,oV 18 17 1),
  (14,{op:=.bin 19 .quo (.s 14) (.s 18)}),
  (15,{op:=.bin 20 .add (.s 19) (.k (.int .i64 1))}),
  (16,M 4 20)]) (.ret)
def c_Sp_0:VC:=
 .seq (.r 0 [oN 4 0]) c_Sp_2
def vf_Sp:VF:={ pm:=[.mb [.ro q3,.ro q5,.own [.sc],.sc,.sc,.sc,.sc,.sc,.sc,.own [.sc],.sc,.sc,.own [.sc],.own q4],.ro [.sc]],rm:=[.v [.sc]],nslots:=21,res:=[4],rc:=[],code:=.kp [0,1] c_Sp_0 }
def c_Ss_19:VC:=
 .r 5 [M 28 4,
  M 29 5,
  M 30 0,
  {op:=.nck 31 (.s 30)},
  oF 32 31 2,
  oL 33 32 1,
  {op:=.len 34 (.s 33)},
  oX 35 28 29 1,
  oS 35 34 1]
def c_Ss_20:VC:=
 .r 6 [{op:=.bin 36 .add (.s 25) (.k (.int .i64 1))},
  M 25 36]
def c_Ss_15:VC:=
 .seq (.blk 1 (.seq (.r 4 [M 27 25,
  M 5 27]) c_Ss_19)) c_Ss_20
def c_Ss_11:VC:=
 .seq (.ite (.s 26) (.skip) (.exit 0)) c_Ss_15
def c_Ss_9:VC:=
 .seq (.r 3 [{op:=.bin 26 .lss (.s 25) (.s 24)}]) c_Ss_11
def c_Ss_7:VC:=
 .blk 0 (.loop [0,4,24,25] c_Ss_9)
def c_Ss_38:VC:=
 .ite (.s 90) (.r 11 [M 91 4,
  oF 92 7 0,
  oL 93 92 1,
  M 94 6,
  oX 95 91 93 1,
  oS 95 94 1]) (.skip)
def c_Ss_36:VC:=
 .seq (.d 10 [(0,M 48 0),
  (1,{op:=.nckv 49 (.s 48)}),
  (2,oG 50 49 2),
  (3,oV 51 50 1),
  (4,M 52 6),
  (5,oX 53 51 52 1),
  (6,oL 54 53 1),
  (7,M 55 0),
  (8,{op:=.nckv 56 (.s 55)}),
  (9,oG 57 56 5),
  (10,oV 58 57 1),
  (11,{op:=.bin 59 .gtr (.s 54) (.s 58)}),
  (12,M 60 59),
  (13,⟨none,[],some (60,true),.mv 61 (.s 4)⟩),
  (14,⟨none,[],some (60,true),.fadv 62 (.s 7) 0⟩),
  (15,⟨none,[],some (60,true),.ldv 63 (.s 62) 1 false⟩),
  (16,⟨none,[],some (60,true),.iadr 64 (.s 61) (.s 63) 1⟩),
  (17,⟨none,[],some (60,true),.ld 65 (.s 64) 1 false⟩),
  (18,⟨none,[],some (60,true),.mv 66 (.s 0)⟩),
  (19,⟨none,[],some (60,true),.nckv 67 (.s 66)⟩),
  (20,⟨none,[],some (60,true),.fadv 68 (.s 67) 2⟩),
  (21,⟨none,[],some (60,true),.ldv 69 (.s 68) 1 false⟩),
  (22,⟨none,[],some (60,true),.len 70 (.s 69)⟩),
  (23,⟨none,[],some (60,true),.bin 71 .eql (.s 65) (.s 70)⟩),
  (24,{op:=.pick 72 (.s 60) (.s 71) (.k (.bool false))}),
  (25,M 73 72),
  (26,⟨none,[],some (73,false),.mv 74 (.s 0)⟩),
  (27,⟨none,[],some (73,false),.nckv 75 (.s 74)⟩),
  (28,⟨none,[],some (73,false),.fadv 76 (.s 75) 2⟩),
  (29,⟨none,[],some (73,false),.ldv 77 (.s 76) 1 false⟩),
  (30,⟨none,[],some (73,false),.mv 78 (.s 6)⟩),
  (31,⟨none,[],some (73,false),.iadr 79 (.s 77) (.s 78) 1⟩),
  (32,⟨none,[],some (73,false),.ld 80 (.s 79) 1 false⟩),
  (33,⟨none,[],some (73,false),.mv 81 (.s 0)⟩),
  (34,⟨none,[],some (73,false),.nckv 82 (.s 81)⟩),
  (35,⟨none,[],some (73,false),.fadv 83 (.s 82) 5⟩),
  (36,⟨none,[],some (73,false),.ldv 84 (.s 83) 1 false⟩),
  (37,⟨none,[],some (73,false),.bin 85 .leq (.s 80) (.s 84)⟩),
  (38,⟨none,[],some (73,false),.mv 86 (.s 85)⟩),
  (39,⟨none,[],some (86,true),.fadv 87 (.s 7) 3⟩),
  (40,⟨none,[],some (86,true),.ldv 88 (.s 87) 1 false⟩),
  (41,⟨none,[],some (73,false),.pick 89 (.s 86) (.s 88) (.k (.bool false))⟩),
  (42,{op:=.pick 90 (.s 73) (.k (.bool true)) (.s 89)})]) (.kp [0,4,6,7,41,42,43,90] c_Ss_38)
def c_Ss_41:VC:=
 .r 12 [{op:=.bin 96 .add (.s 43) (.k (.int .i64 1))},
  M 43 96]
def c_Ss_32:VC:=
 .seq (.blk 3 (.seq (.r 9 [M 45 43,
  oX 46 41 43 5,
  {op:=.ld 47 (.s 46) 5 true},
  {op:=.alloc 7 [.k (.int .i64 0),.k (.int .i64 0),.k (.int .i64 0),.k (.bool false),.o [.sc]]},
  M 6 45,
  oS 7 47 5]) c_Ss_36)) c_Ss_41
def c_Ss_28:VC:=
 .seq (.ite (.s 44) (.skip) (.exit 2)) c_Ss_32
def c_Ss_26:VC:=
 .seq (.r 8 [{op:=.bin 44 .lss (.s 43) (.s 42)}]) c_Ss_28
def c_Ss_24:VC:=
 .blk 2 (.loop [0,4,41,42,43] c_Ss_26)
def c_Ss_57:VC:=
 .r 16 [M 105 0,
  {op:=.nck 106 (.s 105)},
  oF 107 106 12,
  oL 108 107 1,
  M 109 8,
  oX 110 108 109 1,
  {op:=.st (.s 110) (.k (.bool false)) 1}]
def c_Ss_58:VC:=
 .r 17 [{op:=.bin 111 .add (.s 102) (.k (.int .i64 1))},
  M 102 111]
def c_Ss_53:VC:=
 .seq (.blk 5 (.seq (.r 15 [M 104 102,
  M 8 104]) c_Ss_57)) c_Ss_58
def c_Ss_49:VC:=
 .seq (.ite (.s 103) (.skip) (.exit 4)) c_Ss_53
def c_Ss_47:VC:=
 .seq (.r 14 [{op:=.bin 103 .lss (.s 102) (.s 101)}]) c_Ss_49
def c_Ss_45:VC:=
 .blk 4 (.loop [0,4,101,102] c_Ss_47)
def c_Ss_78:VC:=
 .ite (.s 170) (.r 23 [M 171 0,
  M 172 0,
  {op:=.call 173 124 [(.s 172)]},
  M 174 0,
  M 175 9,
  {op:=.call 176 125 [(.s 174),(.s 175)]},
  {op:=.bin 177 .add (.s 173) (.s 176)},
  {op:=.nck 178 (.s 171)},
  oF 179 178 8,
  oS 179 177 1]) (.skip)
def c_Ss_76:VC:=
 .seq (.d 22 [(0,M 150 9),
  (1,M 151 4),
  (2,oG 152 10 0),
  (3,oV 153 152 1),
  (4,oX 154 151 153 1),
  (5,oL 155 154 1),
  (6,{op:=.bin 156 .geq (.s 150) (.s 155)}),
  (7,M 157 156),
  (8,⟨none,[],some (157,true),.mv 158 (.s 0)⟩),
  (9,⟨none,[],some (157,true),.nckv 159 (.s 158)⟩),
  (10,⟨none,[],some (157,true),.fadv 160 (.s 159) 2⟩),
  (11,⟨none,[],some (157,true),.ldv 161 (.s 160) 1 false⟩),
  (12,⟨none,[],some (157,true),.mv 162 (.s 9)⟩),
  (13,⟨none,[],some (157,true),.iadr 163 (.s 161) (.s 162) 1⟩),
  (14,⟨none,[],some (157,true),.ld 164 (.s 163) 1 false⟩),
  (15,⟨none,[],some (157,true),.mv 165 (.s 0)⟩),
  (16,⟨none,[],some (157,true),.nckv 166 (.s 165)⟩),
  (17,⟨none,[],some (157,true),.fadv 167 (.s 166) 5⟩),
  (18,⟨none,[],some (157,true),.ldv 168 (.s 167) 1 false⟩),
  (19,⟨none,[],some (157,true),.bin 169 .lss (.s 164) (.s 168)⟩),
  (20,{op:=.pick 170 (.s 157) (.s 169) (.k (.bool false))})]) (.kp [0,4,9,116,117,118,170] c_Ss_78)
def c_Ss_74:VC:=
 .seq (.d 21 [(0,M 123 0),
  (1,{op:=.nckv 124 (.s 123)}),
  (2,oG 125 124 9),
  (3,oV 126 125 1),
  (4,M 127 9),
  (5,M 128 9),
  (6,M 129 4),
  (7,oG 130 10 0),
  (8,oV 131 130 1),
  (9,oX 132 129 131 1),
  (10,oL 133 132 1),
  (11,{op:=.bin 134 .lss (.s 128) (.s 133)}),
  (12,M 135 134),
  (13,⟨none,[],some (135,false),.mv 136 (.s 0)⟩),
  (14,⟨none,[],some (135,false),.nckv 137 (.s 136)⟩),
  (15,⟨none,[],some (135,false),.fadv 138 (.s 137) 2⟩),
  (16,⟨none,[],some (135,false),.ldv 139 (.s 138) 1 false⟩),
  (17,⟨none,[],some (135,false),.mv 140 (.s 9)⟩),
  (18,⟨none,[],some (135,false),.iadr 141 (.s 139) (.s 140) 1⟩),
  (19,⟨none,[],some (135,false),.ld 142 (.s 141) 1 false⟩),
  (20,⟨none,[],some (135,false),.mv 143 (.s 0)⟩),
  (21,⟨none,[],some (135,false),.nckv 144 (.s 143)⟩),
  (22,⟨none,[],some (135,false),.fadv 145 (.s 144) 5⟩),
  (23,⟨none,[],some (135,false),.ldv 146 (.s 145) 1 false⟩),
  (24,⟨none,[],some (135,false),.bin 147 .lss (.s 142) (.s 146)⟩),
  (25,{op:=.pick 148 (.s 135) (.k (.bool true)) (.s 147)}),
  (26,oX 149 126 127 1),
  (27,oS 149 148 1)]) (.kp [0,4,9,10,116,117,118] c_Ss_76)
def c_Ss_81:VC:=
 .r 24 [{op:=.bin 180 .add (.s 118) (.k (.int .i64 1))},
  M 118 180]
def c_Ss_70:VC:=
 .seq (.blk 7 (.seq (.r 20 [M 120 118,
  oX 121 116 118 5,
  {op:=.ld 122 (.s 121) 5 true},
  {op:=.alloc 10 [.k (.int .i64 0),.k (.int .i64 0),.k (.int .i64 0),.k (.bool false),.o [.sc]]},
  M 9 120,
  oS 10 122 5]) c_Ss_74)) c_Ss_81
def c_Ss_66:VC:=
 .seq (.ite (.s 119) (.skip) (.exit 6)) c_Ss_70
def c_Ss_64:VC:=
 .seq (.r 19 [{op:=.bin 119 .lss (.s 118) (.s 117)}]) c_Ss_66
def c_Ss_62:VC:=
 .blk 6 (.loop [0,4,116,117,118] c_Ss_64)
def c_Ss_82:VC:=
 .r 25 [M 181 0,
  {op:=.call 182 76 [(.s 181)]}]
def c_Ss_59:VC:=
 .seq (.seq (.r 18 [M 112 0,
  {op:=.nck 113 (.s 112)},
  oF 114 113 0,
  oF 115 114 1,
  oL 116 115 1,
  {op:=.len 117 (.s 116)},
  oN 118 0]) c_Ss_62) (.kp [0] c_Ss_82)
def c_Ss_42:VC:=
 .seq (.seq (.r 13 [M 97 0,
  {op:=.nck 98 (.s 97)},
  oF 99 98 12,
  oL 100 99 1,
  {op:=.len 101 (.s 100)},
  oN 102 0]) c_Ss_45) (.kp [0,4] c_Ss_59)
def c_Ss_21:VC:=
 .seq (.seq (.r 7 [M 37 0,
  {op:=.nck 38 (.s 37)},
  oF 39 38 0,
  oF 40 39 1,
  oL 41 40 1,
  {op:=.len 42 (.s 41)},
  oN 43 0]) c_Ss_24) (.kp [0,4] c_Ss_42)
def c_Ss_4:VC:=
 .seq (.seq (.r 2 [M 23 4,
  {op:=.len 24 (.s 23)},
  oN 25 0]) c_Ss_7) (.kp [0,4] c_Ss_21)
def c_Ss_2:VC:=
 .seq (.r 1 [M 16 0,
  {op:=.nck 17 (.s 16)},
  oF 18 17 0,
  oF 19 18 0,
  oL 20 19 1,
  {op:=.len 21 (.s 20)},
  {op:=.mk 22 (.s 21) [.sc] [(.int .i64 0)] 17592186044416},
  M 4 22]) c_Ss_4
def c_Ss_0:VC:=
 .seq (.r 0 [M 11 0,
  M 12 1,
  {op:=.bin 13 .mul (.s 12) (.k (.int .i64 1000))},
  {op:=.nck 14 (.s 11)},
  oF 15 14 5,
  oS 15 13 1]) c_Ss_2
def vf_Ss:VF:={ pm:=[.mb [.ro q3,.ro q5,.own [.sc],.sc,.sc,.sc,.sc,.sc,.sc,.own [.sc],.sc,.sc,.own [.sc],.own q4],.ro [.sc]],rm:=[],nslots:=183,res:=[],rc:=[],code:=.kp [0,1] c_Ss_0 }
def c_St_7:VC:=
 .ite (.s 26) (.d 3 [(0,M 27 0),
  (1,{op:=.nckv 28 (.s 27)}),
  (2,oG 29 28 12),
  (3,oV 30 29 1),
  (4,oG 31 4 0),
  (5,oV 32 31 1),
  (6,oX 33 30 32 1),
  (7,{op:=.st (.s 33) (.k (.bool false)) 1})]) (.skip)
def c_St_15:VC:=
 .ite (.s 59) (.d 6 [(0,M 60 0),
  (1,{op:=.nckv 61 (.s 60)}),
  (2,oG 62 61 12),
  (3,oV 63 62 1),
  (4,oG 64 4 0),
  (5,oV 65 64 1),
  (6,oX 66 63 65 1),
  (7,{op:=.st (.s 66) (.k (.bool true)) 1})]) (.skip)
def c_St_21:VC:=
 .ite (.s 75) (.r 8 [M 76 0,
  M 77 6,
  {op:=.nck 78 (.s 76)},
  oF 79 78 8,
  oS 79 77 1]) (.skip)
def c_St_24:VC:=
 .d 9 [(0,M 80 0),
  (1,M 81 0),
  (2,{op:=.nckv 82 (.s 81)}),
  (3,oG 83 82 13),
  (4,oV 84 83 1),
  (5,M 85 0),
  (6,{op:=.nckv 86 (.s 85)}),
  (7,oG 87 86 4),
  (8,oV 88 87 1),
  (9,M 89 0),
  (10,{op:=.nckv 90 (.s 89)}),
  (11,oG 91 90 5),
  (12,oV 92 91 1),
  (13,{op:=.bin 93 .quo (.s 92) (.k (.int .i64 1000))}),
  (14,M 94 1),
  (15,M 95 0),
  (16,{op:=.nckv 96 (.s 95)}),
  (17,oG 97 96 12),
  (18,oV 98 97 1),
  (19,oG 99 4 0),
  (20,oV 100 99 1),
  (21,oX 101 98 100 1),
  (22,oL 102 101 1),
  (23,{op:=.bld 103 [.k (.int .i64 0),.k (.int .i64 0),.k (.int .i64 0),.k (.bool false)] [(0,1,(.s 88)),(1,1,(.s 93)),(2,1,(.s 94)),(3,1,(.s 102))]}),
  (24,{op:=.lits 104 q4 [(.s 103)]}),
  (25,{op:=.app 105 (.s 84) (.s 104) q4 4398046511104}),
  (26,{op:=.nckv 106 (.s 80)}),
  (27,oG 107 106 13),
  (28,oS 107 105 1)]
def c_St_18:VC:=
 .seq (.seq (.d 7 [(0,M 67 0),
  (1,{op:=.nckv 68 (.s 67)}),
  (2,oG 69 68 12),
  (3,oV 70 69 1),
  (4,oG 71 4 0),
  (5,oV 72 71 1),
  (6,oX 73 70 72 1),
  (7,oL 74 73 1),
  (8,{op:=.un 75 .not (.s 74)})]) c_St_21) (.kp [0,1,4] c_St_24)
def c_St_12:VC:=
 .seq (.seq (.r 5 [M 40 5,
  {op:=.bin 41 .eql (.s 40) (.k (.int .i64 3))},
  M 42 41,
  ⟨none,[],some (42,false),.mv 43 (.s 5)⟩,
  ⟨none,[],some (42,false),.bin 44 .eql (.s 43) (.k (.int .i64 4))⟩,
  {op:=.pick 45 (.s 42) (.k (.bool true)) (.s 44)},
  M 46 45,
  ⟨none,[],some (46,true),.fadr 47 (.s 4) 3⟩,
  ⟨none,[],some (46,true),.ld 48 (.s 47) 1 false⟩,
  ⟨none,[],some (46,true),.un 49 .not (.s 48)⟩,
  {op:=.pick 50 (.s 46) (.s 49) (.k (.bool false))},
  M 51 50,
  ⟨none,[],some (51,true),.mv 52 (.s 6)⟩,
  ⟨none,[],some (51,true),.mv 53 (.s 0)⟩,
  ⟨none,[],some (51,true),.nck 54 (.s 53)⟩,
  ⟨none,[],some (51,true),.fadr 55 (.s 54) 4⟩,
  ⟨none,[],some (51,true),.ld 56 (.s 55) 1 false⟩,
  ⟨none,[],some (51,true),.bin 57 .add (.s 56) (.k (.int .i64 100))⟩,
  ⟨none,[],some (51,true),.bin 58 .gtr (.s 52) (.s 57)⟩,
  {op:=.pick 59 (.s 51) (.s 58) (.k (.bool false))}]) (.kp [0,1,4,6,59] c_St_15)) (.kp [0,1,4,6] c_St_18)
def c_St_10:VC:=
 .seq (.r 4 [M 34 0,
  {op:=.call 35 124 [(.s 34)]},
  M 36 0,
  M 37 1,
  {op:=.call 38 125 [(.s 36),(.s 37)]},
  {op:=.bin 39 .add (.s 35) (.s 38)},
  M 6 39]) c_St_12
def c_St_4:VC:=
 .seq (.seq (.r 2 [oF 25 4 3,
  oL 26 25 1]) c_St_7) (.kp [0,1,4,5] c_St_10)
def c_St_2:VC:=
 .seq (.d 1 [(0,M 15 0),
  (1,{op:=.nckv 16 (.s 15)}),
  (2,oG 17 16 0),
  (3,oG 18 17 0),
  (4,oV 19 18 1),
  (5,oG 20 4 0),
  (6,oV 21 20 1),
  (7,oX 22 19 21 3),
  (8,oG 23 22 0),
  (9,oV 24 23 1),
  (10,M 5 24)]) c_St_4
def c_St_0:VC:=
 .seq (.r 0 [M 7 0,
  {op:=.nck 8 (.s 7)},
  oF 9 8 0,
  oF 10 9 1,
  oL 11 10 1,
  M 12 1,
  oX 13 11 12 5,
  {op:=.ld 14 (.s 13) 5 true},
  {op:=.alloc 4 [.k (.int .i64 0),.k (.int .i64 0),.k (.int .i64 0),.k (.bool false),.o [.sc]]},
  oS 4 14 5]) c_St_2
def vf_St:VF:={ pm:=[.mb [.ro q3,.ro q5,.own [.sc],.sc,.sc,.sc,.sc,.sc,.sc,.own [.sc],.sc,.sc,.own [.sc],.own q4],.ro [.sc]],rm:=[],nslots:=108,res:=[],rc:=[],code:=.kp [0,1] c_St_0 }
def c_Su_5:VC:=
 .ite (.s 14) (.ret) (.skip)
def c_Su_13:VC:=
 .ite (.s 42) (.ret) (.skip)
def c_Su_36:VC:=
 .r 9 [M 79 0,
  M 80 2,
  {op:=.call 81 126 [(.s 79),(.s 80)]}]
def c_Su_33:VC:=
 .ite (.s 72) (.seq (.r 8 [M 73 0,
  {op:=.nck 74 (.s 73)},
  oF 75 74 9,
  oL 76 75 1,
  M 77 2,
  oX 78 76 77 1,
  {op:=.st (.s 78) (.k (.bool true)) 1}]) c_Su_36) (.skip)
def c_Su_31:VC:=
 .seq (.d 7 [(0,M 51 0),
  (1,{op:=.nckv 52 (.s 51)}),
  (2,oG 53 52 9),
  (3,oV 54 53 1),
  (4,M 55 2),
  (5,oX 56 54 55 1),
  (6,oL 57 56 1),
  (7,{op:=.un 58 .not (.s 57)}),
  (8,M 59 58),
  (9,⟨none,[],some (59,true),.mv 60 (.s 0)⟩),
  (10,⟨none,[],some (59,true),.nckv 61 (.s 60)⟩),
  (11,⟨none,[],some (59,true),.fadv 62 (.s 61) 2⟩),
  (12,⟨none,[],some (59,true),.ldv 63 (.s 62) 1 false⟩),
  (13,⟨none,[],some (59,true),.mv 64 (.s 2)⟩),
  (14,⟨none,[],some (59,true),.iadr 65 (.s 63) (.s 64) 1⟩),
  (15,⟨none,[],some (59,true),.ld 66 (.s 65) 1 false⟩),
  (16,⟨none,[],some (59,true),.mv 67 (.s 0)⟩),
  (17,⟨none,[],some (59,true),.nckv 68 (.s 67)⟩),
  (18,⟨none,[],some (59,true),.fadv 69 (.s 68) 5⟩),
  (19,⟨none,[],some (59,true),.ldv 70 (.s 69) 1 false⟩),
  (20,⟨none,[],some (59,true),.bin 71 .leq (.s 66) (.s 70)⟩),
  (21,{op:=.pick 72 (.s 59) (.s 71) (.k (.bool false))})]) (.kp [0,2,47,48,72] c_Su_33)
def c_Su_38:VC:=
 .r 10 [{op:=.bin 82 .add (.s 48) (.k (.int .i64 1))},
  M 48 82]
def c_Su_27:VC:=
 .seq (.blk 1 (.seq (.r 6 [M 50 48,
  M 2 50]) c_Su_31)) c_Su_38
def c_Su_23:VC:=
 .seq (.ite (.s 49) (.skip) (.exit 0)) c_Su_27
def c_Su_21:VC:=
 .seq (.r 5 [{op:=.bin 49 .lss (.s 48) (.s 47)}]) c_Su_23
def c_Su_19:VC:=
 .blk 0 (.loop [0,47,48] c_Su_21)
def c_Su_39:VC:=
 .r 11 [M 83 0,
  {op:=.call 84 76 [(.s 83)]}]
def c_Su_16:VC:=
 .seq (.seq (.r 4 [M 43 0,
  {op:=.nck 44 (.s 43)},
  oF 45 44 2,
  oL 46 45 1,
  {op:=.len 47 (.s 46)},
  oN 48 0]) c_Su_19) (.kp [0] c_Su_39)
def c_Su_10:VC:=
 .seq (.seq (.d 3 [(0,M 27 0),
  (1,{op:=.nckv 28 (.s 27)}),
  (2,oG 29 28 11),
  (3,oV 30 29 1),
  (4,{op:=.bin 31 .lss (.s 30) (.k (.int .i64 0))}),
  (5,M 32 31),
  (6,⟨none,[],some (32,false),.mv 33 (.s 0)⟩),
  (7,⟨none,[],some (32,false),.nckv 34 (.s 33)⟩),
  (8,⟨none,[],some (32,false),.fadv 35 (.s 34) 11⟩),
  (9,⟨none,[],some (32,false),.ldv 36 (.s 35) 1 false⟩),
  (10,⟨none,[],some (32,false),.mv 37 (.s 0)⟩),
  (11,⟨none,[],some (32,false),.nckv 38 (.s 37)⟩),
  (12,⟨none,[],some (32,false),.fadv 39 (.s 38) 5⟩),
  (13,⟨none,[],some (32,false),.ldv 40 (.s 39) 1 false⟩),
  (14,⟨none,[],some (32,false),.bin 41 .gtr (.s 36) (.s 40)⟩),
  (15,{op:=.pick 42 (.s 32) (.k (.bool true)) (.s 41)})]) c_Su_13) c_Su_16
def c_Su_8:VC:=
 .seq (.d 2 [(0,M 15 0),
  (1,{op:=.nckv 16 (.s 15)}),
  (2,oG 17 16 5),
  (3,oV 18 17 1),
  (4,M 19 0),
  (5,{op:=.nckv 20 (.s 19)}),
  (6,oG 21 20 6),
  (7,oV 22 21 1),
  (8,{op:=.bin 23 .mul (.k (.int .i64 10)) (.s 22)}),
  (9,{op:=.bin 24 .add (.s 18) (.s 23)}),
  (10,{op:=.nckv 25 (.s 15)}),
  (11,oG 26 25 5),
  (12,oS 26 24 1)]) c_Su_10
def c_Su_2:VC:=
 .seq (.seq (.r 1 [M 10 0,
  {op:=.nck 11 (.s 10)},
  oF 12 11 7,
  oL 13 12 1,
  {op:=.un 14 .not (.s 13)}]) c_Su_5) c_Su_8
def c_Su_0:VC:=
 .seq (.r 0 [M 3 0,
  {op:=.nck 4 (.s 3)},
  oF 5 4 4,
  oL 6 5 1,
  {op:=.bin 7 .add (.s 6) (.k (.int .i64 1))},
  {op:=.nck 8 (.s 3)},
  oF 9 8 4,
  oS 9 7 1]) c_Su_2
def vf_Su:VF:={ pm:=[.mb [.ro q3,.ro q5,.own [.sc],.sc,.sc,.sc,.sc,.sc,.sc,.own [.sc],.sc,.sc,.own [.sc],.own q4]],rm:=[],nslots:=85,res:=[],rc:=[],code:=.kp [0] c_Su_0 }
def c_Sd_5:VC:=
 .ite (.s 29) (.seq (.r 2 [{op:=.bld 30 [.k (.int .i64 0),.o q4,.k (.int .i64 0),.k (.int .i64 0)] [(0,1,(.k (.int .i64 1)))]},
  oS 6 30 4]) (.ret)) (.skip)
def c_Sd_27:VC:=
 .ite (.s 39) (.seq (.r 7 [{op:=.bld 40 [.k (.int .i64 0),.o q4,.k (.int .i64 0),.k (.int .i64 0)] [(0,1,(.k (.int .i64 1)))]},
  oS 6 40 4]) (.ret)) (.skip)
def c_Sd_25:VC:=
 .seq (.r 6 [{op:=.ld 37 (.s 8) 2 true},
  {op:=.call 38 74 [(.s 37)]},
  {op:=.un 39 .not (.s 38)}]) c_Sd_27
def c_Sd_32:VC:=
 .r 8 [{op:=.bin 41 .add (.s 33) (.k (.int .i64 1))},
  M 33 41]
def c_Sd_21:VC:=
 .seq (.blk 1 (.seq (.r 5 [oX 35 31 33 2,
  {op:=.ld 36 (.s 35) 2 true},
  {op:=.alloc 8 [.k (.int .i64 0),.k (.int .i64 0)]},
  oS 8 36 2]) c_Sd_25)) c_Sd_32
def c_Sd_17:VC:=
 .seq (.ite (.s 34) (.skip) (.exit 0)) c_Sd_21
def c_Sd_15:VC:=
 .seq (.r 4 [{op:=.bin 34 .lss (.s 33) (.s 32)}]) c_Sd_17
def c_Sd_13:VC:=
 .blk 0 (.loop [1,2,3,6,31,32,33] c_Sd_15)
def c_Sd_50:VC:=
 .d 13 [(0,M 60 9),
  (1,M 61 9),
  (2,{op:=.nckv 62 (.s 61)}),
  (3,oG 63 62 2),
  (4,oV 64 63 1),
  (5,{op:=.ldv 65 (.s 3) 2 true}),
  (6,M 66 10),
  (7,{op:=.call 67 75 [(.s 65),(.s 66)]}),
  (8,{op:=.lits 68 [.sc] [(.s 67)]}),
  (9,{op:=.app 69 (.s 64) (.s 68) [.sc] 17592186044416}),
  (10,{op:=.nckv 70 (.s 60)}),
  (11,oG 71 70 2),
  (12,oS 71 69 1)]
def c_Sd_51:VC:=
 .r 14 [{op:=.bin 72 .add (.s 57) (.k (.int .i64 1))},
  M 57 72]
def c_Sd_46:VC:=
 .seq (.blk 3 (.seq (.r 12 [M 59 57,
  M 10 59]) c_Sd_50)) c_Sd_51
def c_Sd_42:VC:=
 .seq (.ite (.s 58) (.skip) (.exit 2)) c_Sd_46
def c_Sd_40:VC:=
 .seq (.r 11 [{op:=.bin 58 .lss (.s 57) (.s 56)}]) c_Sd_42
def c_Sd_38:VC:=
 .blk 2 (.pre [.nlv 9 2 [.sc]] (.loop [2,3,6,9,56,57] c_Sd_40))
def c_Sd_95:VC:=
 .ite (.s 86) (.skip) (.exit 7)
def c_Sd_101:VC:=
 .r 22 [M 87 13,
  {op:=.bin 88 .add (.s 87) (.k (.int .i64 1))},
  M 13 88]
def c_Sd_98:VC:=
 .seq (.blk 8 (.r 23 [M 89 9,
  {op:=.call 90 78 [(.s 89)]}])) c_Sd_101
def c_Sd_92:VC:=
 .seq (.seq (.r 21 [M 83 13,
  oF 84 12 1,
  oL 85 84 1,
  {op:=.bin 86 .lss (.s 83) (.s 85)}]) c_Sd_95) c_Sd_98
def c_Sd_90:VC:=
 .blk 7 (.loop [6,9,12,13,75,76,77] c_Sd_92)
def c_Sd_86:VC:=
 .ite (.s 108) (.r 31 [M 110 9,
  oF 111 12 1,
  oL 112 111 1,
  {op:=.call 113 77 [(.s 110),(.s 112)]}]) (.seq (.r 20 [oN 13 0]) c_Sd_90)
def c_Sd_82:VC:=
 .ite (.s 101) (.r 29 [M 103 9,
  oF 104 12 1,
  oL 105 104 1,
  {op:=.nck 106 (.s 103)},
  oF 107 106 6,
  oS 107 105 1]) (.seq (.r 30 [{op:=.bin 109 .eql (.s 82) (.k (.int .i64 3))},
  M 108 109]) c_Sd_86)
def c_Sd_78:VC:=
 .ite (.s 96) (.r 27 [M 98 9,
  {op:=.nck 99 (.s 98)},
  oF 100 99 7,
  {op:=.st (.s 100) (.k (.bool false)) 1}]) (.seq (.r 28 [{op:=.bin 102 .eql (.s 82) (.k (.int .i64 5))},
  M 101 102]) c_Sd_82)
def c_Sd_74:VC:=
 .ite (.s 91) (.r 25 [M 93 9,
  {op:=.nck 94 (.s 93)},
  oF 95 94 7,
  {op:=.st (.s 95) (.k (.bool true)) 1}]) (.seq (.r 26 [{op:=.bin 97 .eql (.s 82) (.k (.int .i64 2))},
  M 96 97]) c_Sd_78)
def c_Sd_71:VC:=
 .blk 6 (.seq (.r 24 [{op:=.bin 92 .eql (.s 82) (.k (.int .i64 1))},
  M 91 92]) c_Sd_74)
def c_Sd_69:VC:=
 .seq (.r 19 [oF 81 12 0,
  oL 82 81 1]) c_Sd_71
def c_Sd_102:VC:=
 .r 32 [{op:=.bin 114 .add (.s 77) (.k (.int .i64 1))},
  M 77 114]
def c_Sd_65:VC:=
 .seq (.blk 5 (.seq (.r 18 [oX 79 75 77 2,
  {op:=.ld 80 (.s 79) 2 true},
  {op:=.alloc 12 [.k (.int .i64 0),.k (.int .i64 0)]},
  oS 12 80 2]) c_Sd_69)) (.kp [6,9,75,76,77] c_Sd_102)
def c_Sd_61:VC:=
 .seq (.ite (.s 78) (.skip) (.exit 4)) c_Sd_65
def c_Sd_59:VC:=
 .seq (.r 17 [{op:=.bin 78 .lss (.s 77) (.s 76)}]) c_Sd_61
def c_Sd_57:VC:=
 .blk 4 (.loop [6,9,75,76,77] c_Sd_59)
def c_Sd_103:VC:=
 .seq (.d 33 [(0,M 115 9),
  (1,{op:=.nckv 116 (.s 115)}),
  (2,oG 117 116 13),
  (3,oV 118 117 1),
  (4,M 119 9),
  (5,{op:=.nckv 120 (.s 119)}),
  (6,oG 121 120 4),
  (7,oV 122 121 1),
  (8,M 123 9),
  (9,{op:=.nckv 124 (.s 123)}),
  (10,oG 125 124 5),
  (11,oV 126 125 1),
  (12,{op:=.bin 127 .quo (.s 126) (.k (.int .i64 1000))}),
  (13,{op:=.bld 128 [.k (.int .i64 0),.k (.slice none 0 0),.k (.int .i64 0),.k (.int .i64 0)] [(1,1,(.s 118)),(2,1,(.s 122)),(3,1,(.s 127))]}),
  (14,oS 6 128 4)]) (.ret)
def c_Sd_54:VC:=
 .seq (.seq (.r 16 [M 75 2,
  {op:=.len 76 (.s 75)},
  oN 77 0]) c_Sd_57) (.kp [6,9] c_Sd_103)
def c_Sd_52:VC:=
 .seq (.r 15 [M 73 9,
  {op:=.call 74 76 [(.s 73)]}]) c_Sd_54
def c_Sd_35:VC:=
 .seq (.seq (.r 10 [oF 54 3 1,
  oL 55 54 1,
  {op:=.len 56 (.s 55)},
  oN 57 0]) c_Sd_38) (.kp [2,6,9] c_Sd_52)
def c_Sd_33:VC:=
 .seq (.pre [.pado 2] (.d 9 [(0,{op:=.ldk 42 (.s 3) 0 2 true}),
  (1,M 43 1),
  (2,{op:=.fadk 44 (.s 3) 0 1}),
  (3,{op:=.ldk 45 (.s 44) 0 1 false}),
  (4,{op:=.lenr 46 (.s 45)}),
  (6,{op:=.fadk 48 (.s 3) 0 0}),
  (7,{op:=.ldk 49 (.s 48) 0 1 false}),
  (8,{op:=.lenr 50 (.s 49)}),
  (5,{op:=.mkk 47 (.s 46) [.sc] [(.bool false)] 140737488355328 1}),
  (9,{op:=.mkk 51 (.s 50) [.sc] [(.bool false)] 140737488355328 2}),
  (10,{op:=.bld 52 [.k (.slice none 0 0),.k (.slice none 0 0),.k (.slice none 0 0),.k (.int .i64 0),.k (.int .i64 0),.k (.int .i64 0),.k (.int .i64 0),.k (.bool false),.k (.int .i64 0),.k (.slice none 0 0),.k (.int .i64 0),.k (.int .i64 0),.k (.slice none 0 0),.k (.slice none 0 0)] [(0,2,(.s 42)),(3,1,(.s 43)),(6,1,(.k (.int .i64 100))),(9,1,(.s 47)),(12,1,(.s 51))]}),
  (11,{op:=.box 53 (.s 52)}),
  (12,M 9 53)])) c_Sd_35
def c_Sd_10:VC:=
 .seq (.seq (.r 3 [M 31 2,
  {op:=.len 32 (.s 31)},
  oN 33 0]) c_Sd_13) (.kp [1,2,3,6] c_Sd_33)
def c_Sd_2:VC:=
 .seq (.seq (.r 1 [{op:=.ld 14 (.s 3) 2 true},
  {op:=.call 15 48 [(.s 14)]},
  {op:=.un 16 .not (.s 15)},
  M 17 16,
  ⟨none,[],some (17,false),.mv 18 (.s 1)⟩,
  ⟨none,[],some (17,false),.bin 19 .lss (.s 18) (.k (.int .i64 1))⟩,
  {op:=.pick 20 (.s 17) (.k (.bool true)) (.s 19)},
  M 21 20,
  ⟨none,[],some (21,false),.mv 22 (.s 1)⟩,
  ⟨none,[],some (21,false),.bin 23 .gtr (.s 22) (.k (.int .i64 1000))⟩,
  {op:=.pick 24 (.s 21) (.k (.bool true)) (.s 23)},
  M 25 24,
  ⟨none,[],some (25,false),.mv 26 (.s 2)⟩,
  ⟨none,[],some (25,false),.len 27 (.s 26)⟩,
  ⟨none,[],some (25,false),.bin 28 .gtr (.s 27) (.k (.int .i64 500))⟩,
  {op:=.pick 29 (.s 25) (.k (.bool true)) (.s 28)}]) (.kp [1,2,3,6,29] c_Sd_5)) c_Sd_10
def c_Sd_0:VC:=
 .seq (.r 0 [{op:=.box 3 (.s 0)},
  {op:=.alloc 6 [.k (.int .i64 0),.o q4,.k (.int .i64 0),.k (.int .i64 0)]}]) c_Sd_2
def vf_Sd:VF:={ pm:=[.ro [.ro q3,.ro q5],.ro [.sc],.ro [.ro [.sc,.sc]]],rm:=[.v [.sc,.own q4,.sc,.sc]],nslots:=129,res:=[6],rc:=[some (4,true)],code:=.kp [0,1,2] c_Sd_0 }
def c_Sb_5:VC:=
 .ite (.s 18) (.seq (.r 2 [oN 4 (-1)]) (.ret)) (.skip)
def c_Sb_10:VC:=
 .seq (.r 3 [{op:=.ld 19 (.s 2) 2 true},
  M 20 1,
  {op:=.call 21 75 [(.s 19),(.s 20)]},
  M 4 21]) (.ret)
def c_Sb_2:VC:=
 .seq (.seq (.r 1 [{op:=.ld 5 (.s 2) 2 true},
  {op:=.call 6 48 [(.s 5)]},
  {op:=.un 7 .not (.s 6)},
  M 8 7,
  ⟨none,[],some (8,false),.mv 9 (.s 1)⟩,
  ⟨none,[],some (8,false),.bin 10 .lss (.s 9) (.k (.int .i64 0))⟩,
  {op:=.pick 11 (.s 8) (.k (.bool true)) (.s 10)},
  M 12 11,
  ⟨none,[],some (12,false),.mv 13 (.s 1)⟩,
  ⟨none,[],some (12,false),.fadr 14 (.s 2) 1⟩,
  ⟨none,[],some (12,false),.ld 15 (.s 14) 1 false⟩,
  ⟨none,[],some (12,false),.len 16 (.s 15)⟩,
  ⟨none,[],some (12,false),.bin 17 .geq (.s 13) (.s 16)⟩,
  {op:=.pick 18 (.s 12) (.k (.bool true)) (.s 17)}]) c_Sb_5) c_Sb_10
def c_Sb_0:VC:=
 .seq (.r 0 [{op:=.box 2 (.s 0)},
  oN 4 0]) c_Sb_2
def vf_Sb:VF:={ pm:=[.ro [.ro q3,.ro q5],.ro [.sc]],rm:=[.v [.sc]],nslots:=22,res:=[4],rc:=[],code:=.kp [0,1] c_Sb_0 }
def c_laws_FnPlayer_5:VC:=
 .ite (.s 17) (.seq (.r 2 [oK 2 true]) (.ret)) (.skip)
def c_laws_FnPlayer_19:VC:=
 .ite (.s 59) (.seq (.r 7 [oK 2 false]) (.ret)) (.skip)
def c_laws_FnPlayer_27:VC:=
 .ite (.s 62) (.seq (.r 9 [oK 2 true]) (.ret)) (.skip)
def c_laws_FnPlayer_51:VC:=
 .ite (.s 71) (.r 15 [M 72 8,
  oF 73 10 1,
  oL 74 73 1,
  {op:=.bin 75 .add (.s 72) (.s 74)},
  M 8 75]) (.skip)
def c_laws_FnPlayer_49:VC:=
 .seq (.r 14 [oF 69 10 0,
  oL 70 69 1,
  {op:=.bin 71 .eql (.s 70) (.k (.int .i64 4))}]) c_laws_FnPlayer_51
def c_laws_FnPlayer_54:VC:=
 .r 16 [{op:=.bin 76 .add (.s 65) (.k (.int .i64 1))},
  M 65 76]
def c_laws_FnPlayer_45:VC:=
 .seq (.blk 1 (.seq (.r 13 [oX 67 63 65 2,
  {op:=.ld 68 (.s 67) 2 true},
  {op:=.alloc 10 [.k (.int .i64 0),.k (.int .i64 0)]},
  oS 10 68 2]) c_laws_FnPlayer_49)) c_laws_FnPlayer_54
def c_laws_FnPlayer_41:VC:=
 .seq (.ite (.s 66) (.skip) (.exit 0)) c_laws_FnPlayer_45
def c_laws_FnPlayer_39:VC:=
 .seq (.r 12 [{op:=.bin 66 .lss (.s 65) (.s 64)}]) c_laws_FnPlayer_41
def c_laws_FnPlayer_37:VC:=
 .blk 0 (.loop [3,6,7,8,63,64,65] c_laws_FnPlayer_39)
def c_laws_FnPlayer_75:VC:=
 .ite (.s 120) (.seq (.r 22 [oK 2 false]) (.ret)) (.skip)
def c_laws_FnPlayer_85:VC:=
 .ite (.s 151) (.seq (.r 25 [oK 2 false]) (.ret)) (.skip)
def c_laws_FnPlayer_90:VC:=
 .r 26 [oF 152 13 0,
  oL 153 152 1,
  M 11 153]
def c_laws_FnPlayer_82:VC:=
 .seq (.seq (.r 24 [oF 133 13 3,
  oL 134 133 1,
  M 135 134,
  ⟨none,[],some (135,true),.fadr 136 (.s 3) 1⟩,
  ⟨none,[],some (135,true),.ld 137 (.s 136) 1 false⟩,
  ⟨none,[],some (135,true),.fadr 138 (.s 13) 2⟩,
  ⟨none,[],some (135,true),.ld 139 (.s 138) 1 false⟩,
  ⟨none,[],some (135,true),.iadr 140 (.s 137) (.s 139) 5⟩,
  ⟨none,[],some (135,true),.fadr 141 (.s 140) 3⟩,
  ⟨none,[],some (135,true),.ld 142 (.s 141) 1 false⟩,
  ⟨none,[],some (135,true),.mv 143 (.s 142)⟩,
  ⟨none,[],some (143,false),.mv 144 (.s 14)⟩,
  ⟨none,[],some (143,false),.bin 145 .neq (.s 144) (.k (.int .i64 3))⟩,
  ⟨none,[],some (143,false),.mv 146 (.s 145)⟩,
  ⟨none,[],some (146,true),.mv 147 (.s 14)⟩,
  ⟨none,[],some (146,true),.bin 148 .neq (.s 147) (.k (.int .i64 4))⟩,
  ⟨none,[],some (143,false),.pick 149 (.s 146) (.s 148) (.k (.bool false))⟩,
  ⟨none,[],some (135,true),.pick 150 (.s 143) (.k (.bool true)) (.s 149)⟩,
  {op:=.pick 151 (.s 135) (.s 150) (.k (.bool false))}]) c_laws_FnPlayer_85) c_laws_FnPlayer_90
def c_laws_FnPlayer_80:VC:=
 .seq (.d 23 [(0,oG 121 3 0),
  (1,oV 122 121 1),
  (2,oG 123 3 1),
  (3,oV 124 123 1),
  (4,oG 125 13 2),
  (5,oV 126 125 1),
  (6,oX 127 124 126 5),
  (7,oF 128 127 0),
  (8,oL 129 128 1),
  (9,oX 130 122 129 3),
  (10,oF 131 130 0),
  (11,oL 132 131 1),
  (12,M 14 132)]) c_laws_FnPlayer_82
def c_laws_FnPlayer_72:VC:=
 .seq (.seq (.d 21 [(0,{op:=.ldv 85 (.s 13) 4 true}),
  (1,oG 86 7 1),
  (2,oV 87 86 1),
  (3,M 88 12),
  (4,oX 89 87 88 4),
  (5,{op:=.ld 90 (.s 89) 4 true}),
  (6,{op:=.ceq 91 [.i,.i,.i,.b] true (.s 85) (.s 90)}),
  (7,M 92 91),
  (8,⟨none,[],some (92,false),.fadv 93 (.s 13) 0⟩),
  (9,⟨none,[],some (92,false),.ldv 94 (.s 93) 1 false⟩),
  (10,⟨none,[],some (92,false),.mv 95 (.s 11)⟩),
  (11,⟨none,[],some (92,false),.bin 96 .lss (.s 94) (.s 95)⟩),
  (12,{op:=.pick 97 (.s 92) (.k (.bool true)) (.s 96)}),
  (13,M 98 97),
  (14,⟨none,[],some (98,false),.fadv 99 (.s 13) 2⟩),
  (15,⟨none,[],some (98,false),.ldv 100 (.s 99) 1 false⟩),
  (16,⟨none,[],some (98,false),.bin 101 .lss (.s 100) (.k (.int .i64 0))⟩),
  (17,{op:=.pick 102 (.s 98) (.k (.bool true)) (.s 101)}),
  (18,M 103 102),
  (19,⟨none,[],some (103,false),.fadv 104 (.s 13) 2⟩),
  (20,⟨none,[],some (103,false),.ldv 105 (.s 104) 1 false⟩),
  (21,⟨none,[],some (103,false),.fadv 106 (.s 3) 1⟩),
  (22,⟨none,[],some (103,false),.ldv 107 (.s 106) 1 false⟩),
  (23,⟨none,[],some (103,false),.len 108 (.s 107)⟩),
  (24,⟨none,[],some (103,false),.bin 109 .geq (.s 105) (.s 108)⟩),
  (25,{op:=.pick 110 (.s 103) (.k (.bool true)) (.s 109)}),
  (26,M 111 110),
  (27,⟨none,[],some (111,false),.ldv 112 (.s 3) 2 true⟩),
  (28,⟨none,[],some (111,false),.fadv 113 (.s 13) 2⟩),
  (29,⟨none,[],some (111,false),.ldv 114 (.s 113) 1 false⟩),
  (30,⟨none,[],some (111,false),.call 115 27 [(.s 112),(.s 114)]⟩),
  (31,⟨none,[],some (111,false),.bin 116 .quo (.s 115) (.k (.int .i64 1000))⟩),
  (32,⟨none,[],some (111,false),.fadv 117 (.s 13) 1⟩),
  (33,⟨none,[],some (111,false),.ldv 118 (.s 117) 1 false⟩),
  (34,⟨none,[],some (111,false),.bin 119 .gtr (.s 116) (.s 118)⟩),
  (35,{op:=.pick 120 (.s 111) (.k (.bool true)) (.s 119)})]) c_laws_FnPlayer_75) c_laws_FnPlayer_80
def c_laws_FnPlayer_91:VC:=
 .r 27 [{op:=.bin 154 .add (.s 80) (.k (.int .i64 1))},
  M 80 154]
def c_laws_FnPlayer_68:VC:=
 .seq (.blk 3 (.seq (.r 20 [M 82 80,
  oX 83 78 80 4,
  {op:=.ld 84 (.s 83) 4 true},
  {op:=.alloc 13 [.k (.int .i64 0),.k (.int .i64 0),.k (.int .i64 0),.k (.bool false)]},
  M 12 82,
  oS 13 84 4]) c_laws_FnPlayer_72)) c_laws_FnPlayer_91
def c_laws_FnPlayer_64:VC:=
 .seq (.ite (.s 81) (.skip) (.exit 2)) c_laws_FnPlayer_68
def c_laws_FnPlayer_62:VC:=
 .seq (.r 19 [{op:=.bin 81 .lss (.s 80) (.s 79)}]) c_laws_FnPlayer_64
def c_laws_FnPlayer_60:VC:=
 .blk 2 (.loop [3,6,7,8,11,78,79,80] c_laws_FnPlayer_62)
def c_laws_FnPlayer_92:VC:=
 .seq (.r 28 [oF 155 6 2,
  oL 156 155 1,
  M 157 8,
  {op:=.bin 158 .eql (.s 156) (.s 157)},
  M 2 158]) (.ret)
def c_laws_FnPlayer_57:VC:=
 .seq (.seq (.r 18 [oF 77 6 1,
  oL 78 77 1,
  {op:=.len 79 (.s 78)},
  oN 80 0]) c_laws_FnPlayer_60) (.kp [6,8] c_laws_FnPlayer_92)
def c_laws_FnPlayer_55:VC:=
 .seq (.r 17 [oN 11 0]) c_laws_FnPlayer_57
def c_laws_FnPlayer_34:VC:=
 .seq (.seq (.r 11 [M 63 5,
  {op:=.len 64 (.s 63)},
  oN 65 0]) c_laws_FnPlayer_37) (.kp [3,6,7,8] c_laws_FnPlayer_55)
def c_laws_FnPlayer_32:VC:=
 .seq (.r 10 [oN 8 0]) c_laws_FnPlayer_34
def c_laws_FnPlayer_24:VC:=
 .seq (.seq (.r 8 [oF 60 6 0,
  oL 61 60 1,
  {op:=.bin 62 .neq (.s 61) (.k (.int .i64 0))}]) c_laws_FnPlayer_27) c_laws_FnPlayer_32
def c_laws_FnPlayer_16:VC:=
 .seq (.seq (.r 6 [oF 32 6 0,
  oL 33 32 1,
  oF 34 7 0,
  oL 35 34 1,
  {op:=.bin 36 .neq (.s 33) (.s 35)},
  M 37 36,
  ⟨none,[],some (37,false),.fadr 38 (.s 6) 2⟩,
  ⟨none,[],some (37,false),.ld 39 (.s 38) 1 false⟩,
  ⟨none,[],some (37,false),.fadr 40 (.s 7) 2⟩,
  ⟨none,[],some (37,false),.ld 41 (.s 40) 1 false⟩,
  ⟨none,[],some (37,false),.bin 42 .neq (.s 39) (.s 41)⟩,
  {op:=.pick 43 (.s 37) (.k (.bool true)) (.s 42)},
  M 44 43,
  ⟨none,[],some (44,false),.fadr 45 (.s 6) 3⟩,
  ⟨none,[],some (44,false),.ld 46 (.s 45) 1 false⟩,
  ⟨none,[],some (44,false),.fadr 47 (.s 7) 3⟩,
  ⟨none,[],some (44,false),.ld 48 (.s 47) 1 false⟩,
  ⟨none,[],some (44,false),.bin 49 .neq (.s 46) (.s 48)⟩,
  {op:=.pick 50 (.s 44) (.k (.bool true)) (.s 49)},
  M 51 50,
  ⟨none,[],some (51,false),.fadr 52 (.s 6) 1⟩,
  ⟨none,[],some (51,false),.ld 53 (.s 52) 1 false⟩,
  ⟨none,[],some (51,false),.len 54 (.s 53)⟩,
  ⟨none,[],some (51,false),.fadr 55 (.s 7) 1⟩,
  ⟨none,[],some (51,false),.ld 56 (.s 55) 1 false⟩,
  ⟨none,[],some (51,false),.len 57 (.s 56)⟩,
  ⟨none,[],some (51,false),.bin 58 .neq (.s 54) (.s 57)⟩,
  {op:=.pick 59 (.s 51) (.k (.bool true)) (.s 58)}]) c_laws_FnPlayer_19) c_laws_FnPlayer_24
def c_laws_FnPlayer_14:VC:=
 .seq (.r 5 [{op:=.ld 28 (.s 3) 2 true},
  M 29 4,
  M 30 5,
  {op:=.call 31 26 [(.s 28),(.s 29),(.s 30)]},
  {op:=.alloc 7 [.k (.int .i64 0),.o q4,.k (.int .i64 0),.k (.int .i64 0)]},
  oS 7 31 4]) c_laws_FnPlayer_16
def c_laws_FnPlayer_12:VC:=
 .seq (.r 4 [{op:=.ld 24 (.s 3) 2 true},
  M 25 4,
  M 26 5,
  {op:=.call 27 25 [(.s 24),(.s 25),(.s 26)]},
  {op:=.alloc 6 [.k (.int .i64 0),.o q4,.k (.int .i64 0),.k (.int .i64 0)]},
  oS 6 27 4]) c_laws_FnPlayer_14
def c_laws_FnPlayer_10:VC:=
 .seq (.r 3 [M 19 0,
  {op:=.call 20 24 [(.s 19)]},
  M 18 20,
  {op:=.ext 21 (.s 18) 0},
  {op:=.ext 22 (.s 18) 1},
  {op:=.ext 23 (.s 18) 2},
  {op:=.alloc 3 [.o q3,.o [.sc,.sc,.sc,.sc,.own [.sc]]]},
  oS 3 21 2,
  M 4 22,
  M 5 23]) c_laws_FnPlayer_12
def c_laws_FnPlayer_2:VC:=
 .seq (.seq (.r 1 [M 15 0,
  {op:=.len 16 (.s 15)},
  {op:=.bin 17 .gtr (.s 16) (.k (.int .i64 1048576))}]) c_laws_FnPlayer_5) c_laws_FnPlayer_10
def c_laws_FnPlayer_0:VC:=
 .seq (.r 0 [oK 2 false]) c_laws_FnPlayer_2
def vf_laws_FnPlayer:VF:={ pm:=[.ro [.ro [.sc]]],rm:=[.v [.sc]],nslots:=159,res:=[2],rc:=[],code:=.kp [0] c_laws_FnPlayer_0 }
def ext:FuncId→List Arg→Option FRes:=fun f ars=>none
def tblL:List (FuncId×VF):=[(121,vf_Sz),(68,vf_Sbb),(118,vf_Sbc),(65,vf_Sba),(119,vf_Sx),(104,vf_Sh),(144,vf_Sf),(120,vf_Sm),(67,vf_Sw),(117,vf_Sbd),(64,vf_Sg),(66,vf_Sy),(69,vf_Sv),(24,vf_Sa),(131,vf_Il),(133,vf_Ik),(112,vf_Ij),(113,vf_If),(54,vf_Ia),(122,vf_Id),(70,vf_Ic),(71,vf_Ie),(123,vf_Ig),(72,vf_Ih),(73,vf_Ii),(25,vf_Ib),(139,vf_Se),(97,vf_Sk),(142,vf_Sl),(127,vf_Sj),(103,vf_Si),(48,vf_Sc),(74,vf_Sn),(75,vf_So),(76,vf_Sr),(124,vf_Sq),(125,vf_Sp),(77,vf_Ss),(126,vf_St),(78,vf_Su),(26,vf_Sd),(27,vf_Sb),(5,vf_laws_FnPlayer)]
def tbl:FuncId→Option VF:=fun f=>tblL.lookup f
end Go.Proofs.V

namespace Go.Proofs.V
open Go
theorem fi_Sz:funcIs Go.Proofs.Try.prog tbl 121 vf_Sz=true:=by kernel_rfl
theorem fi_Sbb:funcIs Go.Proofs.Try.prog tbl 68 vf_Sbb=true:=by kernel_rfl
theorem fi_Sbc:funcIs Go.Proofs.Try.prog tbl 118 vf_Sbc=true:=by kernel_rfl
theorem fi_Sba:funcIs Go.Proofs.Try.prog tbl 65 vf_Sba=true:=by kernel_rfl
theorem fi_Sx:funcIs Go.Proofs.Try.prog tbl 119 vf_Sx=true:=by kernel_rfl
theorem fi_Sh:funcIs Go.Proofs.Try.prog tbl 104 vf_Sh=true:=by kernel_rfl
theorem fi_Sf:funcIs Go.Proofs.Try.prog tbl 144 vf_Sf=true:=by kernel_rfl
theorem fi_Sm:funcIs Go.Proofs.Try.prog tbl 120 vf_Sm=true:=by kernel_rfl
theorem fi_Sw:funcIs Go.Proofs.Try.prog tbl 67 vf_Sw=true:=by kernel_rfl
theorem fi_Sbd:funcIs Go.Proofs.Try.prog tbl 117 vf_Sbd=true:=by kernel_rfl
theorem fi_Sg:funcIs Go.Proofs.Try.prog tbl 64 vf_Sg=true:=by kernel_rfl
theorem fi_Sy:funcIs Go.Proofs.Try.prog tbl 66 vf_Sy=true:=by kernel_rfl
theorem fi_Sv:funcIs Go.Proofs.Try.prog tbl 69 vf_Sv=true:=by kernel_rfl
theorem fi_Sa:funcIs Go.Proofs.Try.prog tbl 24 vf_Sa=true:=by kernel_rfl
theorem fi_Il:funcIs Go.Proofs.Try.prog tbl 131 vf_Il=true:=by kernel_rfl
theorem fi_Ik:funcIs Go.Proofs.Try.prog tbl 133 vf_Ik=true:=by kernel_rfl
theorem fi_Ij:funcIs Go.Proofs.Try.prog tbl 112 vf_Ij=true:=by kernel_rfl
theorem fi_If:funcIs Go.Proofs.Try.prog tbl 113 vf_If=true:=by kernel_rfl
theorem fi_Ia:funcIs Go.Proofs.Try.prog tbl 54 vf_Ia=true:=by kernel_rfl
theorem fi_Id:funcIs Go.Proofs.Try.prog tbl 122 vf_Id=true:=by kernel_rfl
theorem fi_Ic:funcIs Go.Proofs.Try.prog tbl 70 vf_Ic=true:=by kernel_rfl
theorem fi_Ie:funcIs Go.Proofs.Try.prog tbl 71 vf_Ie=true:=by kernel_rfl
theorem fi_Ig:funcIs Go.Proofs.Try.prog tbl 123 vf_Ig=true:=by kernel_rfl
theorem fi_Ih:funcIs Go.Proofs.Try.prog tbl 72 vf_Ih=true:=by kernel_rfl
theorem fi_Ii:funcIs Go.Proofs.Try.prog tbl 73 vf_Ii=true:=by kernel_rfl
theorem fi_Ib:funcIs Go.Proofs.Try.prog tbl 25 vf_Ib=true:=by kernel_rfl
theorem fi_Se:funcIs Go.Proofs.Try.prog tbl 139 vf_Se=true:=by kernel_rfl
theorem fi_Sk:funcIs Go.Proofs.Try.prog tbl 97 vf_Sk=true:=by kernel_rfl
theorem fi_Sl:funcIs Go.Proofs.Try.prog tbl 142 vf_Sl=true:=by kernel_rfl
theorem fi_Sj:funcIs Go.Proofs.Try.prog tbl 127 vf_Sj=true:=by kernel_rfl
theorem fi_Si:funcIs Go.Proofs.Try.prog tbl 103 vf_Si=true:=by kernel_rfl
theorem fi_Sc:funcIs Go.Proofs.Try.prog tbl 48 vf_Sc=true:=by kernel_rfl
theorem fi_Sn:funcIs Go.Proofs.Try.prog tbl 74 vf_Sn=true:=by kernel_rfl
theorem fi_So:funcIs Go.Proofs.Try.prog tbl 75 vf_So=true:=by kernel_rfl
theorem fi_Sr:funcIs Go.Proofs.Try.prog tbl 76 vf_Sr=true:=by kernel_rfl
theorem fi_Sq:funcIs Go.Proofs.Try.prog tbl 124 vf_Sq=true:=by kernel_rfl
theorem fi_Sp:funcIs Go.Proofs.Try.prog tbl 125 vf_Sp=true:=by kernel_rfl
theorem fi_Ss:funcIs Go.Proofs.Try.prog tbl 77 vf_Ss=true:=by kernel_rfl
theorem fi_St:funcIs Go.Proofs.Try.prog tbl 126 vf_St=true:=by kernel_rfl
theorem fi_Su:funcIs Go.Proofs.Try.prog tbl 78 vf_Su=true:=by kernel_rfl
theorem fi_Sd:funcIs Go.Proofs.Try.prog tbl 26 vf_Sd=true:=by kernel_rfl
theorem fi_Sb:funcIs Go.Proofs.Try.prog tbl 27 vf_Sb=true:=by kernel_rfl
theorem fi_laws_FnPlayer:funcIs Go.Proofs.Try.prog tbl 5 vf_laws_FnPlayer=true:=by kernel_rfl
def gI:GInv:=gNone
end Go.Proofs.V

namespace Go.Proofs.V
open Go
def ta2 (a:List Za) (b:List Zb) (c:List Zc) (w:WJ):WJ:=wL rZa a<|wL rZb b<|wL rZc c w
abbrev EE (c : VC) (K : List Fr) (s : St) (Q : VX → St → Prop) : Prop := EvU ext tbl (.c c) K s Q
def as_Sz (p0:Zd):List Arg:=[.m (.pt [.sl (p0.code.map (rI .u8)),.lit (vI p0.at_),.lit (.int .u64 p0.seed)])]
def res_Sz (r:Int×Zd):FRes:=⟨[.v false [.lit (vI r.1)]],[.pt [.sl (r.2.code.map (rI .u8)),.lit (vI r.2.at_),.lit (.int .u64 r.2.seed)]]⟩
def as_Sbb (p0:Zd) (p1:Int):List Arg:=[.m (.pt [.sl (p0.code.map (rI .u8)),.lit (vI p0.at_),.lit (.int .u64 p0.seed)]),.v false [.lit (vI p1)]]
def res_Sbb (r:Int×Zd):FRes:=⟨[.v false [.lit (vI r.1)]],[.pt [.sl (r.2.code.map (rI .u8)),.lit (vI r.2.at_),.lit (.int .u64 r.2.seed)]]⟩
def as_Sbc (p0:Zd) (p1:Int):List Arg:=[.m (.pt [.sl (p0.code.map (rI .u8)),.lit (vI p0.at_),.lit (.int .u64 p0.seed)]),.v false [.lit (vI p1)]]
def res_Sbc (r:LI×Zd):FRes:=⟨[.v false [.sl (r.1.map (rI .u8))]],[.pt [.sl (r.2.code.map (rI .u8)),.lit (vI r.2.at_),.lit (.int .u64 r.2.seed)]]⟩
def as_Sba (p0:Zd) (p1:Int):List Arg:=[.m (.pt [.sl (p0.code.map (rI .u8)),.lit (vI p0.at_),.lit (.int .u64 p0.seed)]),.v false [.lit (vI p1)]]
def res_Sba (r:Bool×Zd):FRes:=⟨[.v false [.lit (.bool r.1)]],[.pt [.sl (r.2.code.map (rI .u8)),.lit (vI r.2.at_),.lit (.int .u64 r.2.seed)]]⟩
def as_Sx (p0:Zd) (p1:Int):List Arg:=[.m (.pt [.sl (p0.code.map (rI .u8)),.lit (vI p0.at_),.lit (.int .u64 p0.seed)]),.v false [.lit (vI p1)]]
def res_Sx (r:LI×Zd):FRes:=⟨[.v false [.sl (r.1.map (rI .u8))]],[.pt [.sl (r.2.code.map (rI .u8)),.lit (vI r.2.at_),.lit (.int .u64 r.2.seed)]]⟩
def as_Sh (p0:Ze) (p1 p2:Int):List Arg:=[.v true [.sl (p0.tracks.map rZa),.sl (p0.packets.map rZb)],.v false [.lit (vI p1)],.v false [.lit (vI p2)]]
def res_Sh (r:Bool):FRes:=⟨[.v false [.lit (.bool r)]],[]⟩
def as_Sf (p0:Zb):List Arg:=[.v true [.lit (vI p0.track),.lit (vI p0.time),.lit (vI p0.span),.lit (.bool p0.key),.sl (p0.data.map (rI .u8))]]
def res_Sf (r:Zb):FRes:=⟨[.v true [.lit (vI r.track),.lit (vI r.time),.lit (vI r.span),.lit (.bool r.key),.sl (r.data.map (rI .u8))]],[]⟩
def as_Sm (p0:Ze):List Arg:=[.v true [.sl (p0.tracks.map rZa),.sl (p0.packets.map rZb)]]
def res_Sm (r:Ze):FRes:=⟨[.v true [.sl (r.tracks.map rZa),.sl (r.packets.map rZb)]],[]⟩
def as_Sw (p0:Zd) (p1:Int):List Arg:=[.m (.pt [.sl (p0.code.map (rI .u8)),.lit (vI p0.at_),.lit (.int .u64 p0.seed)]),.v false [.lit (vI p1)]]
def res_Sw (r:Ze×Zd):FRes:=⟨[.v true [.sl (r.1.tracks.map rZa),.sl (r.1.packets.map rZb)]],[.pt [.sl (r.2.code.map (rI .u8)),.lit (vI r.2.at_),.lit (.int .u64 r.2.seed)]]⟩
def as_Sbd (p0:LI) (p1 p2:Int):List Arg:=[.v false [.sl (p0.map (rI .u8))],.v false [.lit (vI p1)],.v false [.lit (vI p2)]]
def res_Sbd (r:Int):FRes:=⟨[.v false [.lit (vI r)]],[]⟩
def as_Sg (p0:LI):List Arg:=[.v false [.sl (p0.map (rI .u8))]]
def res_Sg (r:Ze×Zd):FRes:=⟨[.v true [.sl (r.1.tracks.map rZa),.sl (r.1.packets.map rZb)],.m (.pt [.sl (r.2.code.map (rI .u8)),.lit (vI r.2.at_),.lit (.int .u64 r.2.seed)])],[]⟩
def as_Sy (p0:Zd) (p1:Ze):List Arg:=[.m (.pt [.sl (p0.code.map (rI .u8)),.lit (vI p0.at_),.lit (.int .u64 p0.seed)]),.v true [.sl (p1.tracks.map rZa),.sl (p1.packets.map rZb)]]
def res_Sy (r:Ze×Zd):FRes:=⟨[.v true [.sl (r.1.tracks.map rZa),.sl (r.1.packets.map rZb)]],[.pt [.sl (r.2.code.map (rI .u8)),.lit (vI r.2.at_),.lit (.int .u64 r.2.seed)]]⟩
def as_Sv (p0:Zd) (p1:Int):List Arg:=[.m (.pt [.sl (p0.code.map (rI .u8)),.lit (vI p0.at_),.lit (.int .u64 p0.seed)]),.v false [.lit (vI p1)]]
def res_Sv (r:LZb×Zd):FRes:=⟨[.v false [.sl (r.1.map rZc)]],[.pt [.sl (r.2.code.map (rI .u8)),.lit (vI r.2.at_),.lit (.int .u64 r.2.seed)]]⟩
def as_Sa (p0:LI):List Arg:=[.v false [.sl (p0.map (rI .u8))]]
def res_Sa (r:Ze×Int×LZb):FRes:=⟨[.v true [.sl (r.1.tracks.map rZa),.sl (r.1.packets.map rZb)],.v false [.lit (vI r.2.1)],.v false [.sl (r.2.2.map rZc)]],[]⟩
def as_Il (p0:Za):List Arg:=[.v true [.lit (vI p0.kind),.lit (vI p0.scale),.lit (.string p0.name)]]
def res_Il (r:Bool):FRes:=⟨[.v false [.lit (.bool r)]],[]⟩
def as_Ik (p0:Int):List Arg:=[.v false [.lit (vI p0)]]
def res_Ik (r:Bool):FRes:=⟨[.v false [.lit (.bool r)]],[]⟩
def as_Ij (p0:Ze):List Arg:=[.v true [.sl (p0.tracks.map rZa),.sl (p0.packets.map rZb)]]
def res_Ij (r:Bool):FRes:=⟨[.v false [.lit (.bool r)]],[]⟩
def as_If (p0:Ze) (p1 p2:Int):List Arg:=[.v true [.sl (p0.tracks.map rZa),.sl (p0.packets.map rZb)],.v false [.lit (vI p1)],.v false [.lit (vI p2)]]
def res_If (r:Bool):FRes:=⟨[.v false [.lit (.bool r)]],[]⟩
def as_Ia (p0:Ze):List Arg:=[.v true [.sl (p0.tracks.map rZa),.sl (p0.packets.map rZb)]]
def res_Ia (r:Bool):FRes:=⟨[.v false [.lit (.bool r)]],[]⟩
def as_Id (p0 p1:Int) (p2:Zc):List Arg:=[.v false [.lit (vI p0)],.v false [.lit (vI p1)],.m (.pt [.lit (vI p2.kind),.lit (vI p2.value)])]
def res_Id (r:Bool×Zc):FRes:=⟨[.v false [.lit (.bool r.1)]],[.pt [.lit (vI r.2.kind),.lit (vI r.2.value)]]⟩
def as_Ic (p0:Zc):List Arg:=[.v true [.lit (vI p0.kind),.lit (vI p0.value)]]
def res_Ic (r:Bool):FRes:=⟨[.v false [.lit (.bool r)]],[]⟩
def as_Ie (p0:Ze) (p1:Int):List Arg:=[.v true [.sl (p0.tracks.map rZa),.sl (p0.packets.map rZb)],.v false [.lit (vI p1)]]
def res_Ie (r:Int):FRes:=⟨[.v false [.lit (vI r)]],[]⟩
def as_Ig (p0:Zh) (p1:Int):List Arg:=[.m (.pt [.sl (p0.b.tracks.map rZa),.sl (p0.b.packets.map rZb),.lit (vI p0.speed),.sl (p0.due.map (rI .i64)),.sl (p0.gone.map rB),.lit (vI p0.next),.sl (p0.dropping.map rB),.lit (vI p0.wall),.lit (vI p0.clock),.lit (vI p0.busy),.sl (p0.shows.map rZf)]),.v false [.lit (vI p1)]]
def res_Ig (r:Int×Zh):FRes:=⟨[.v false [.lit (vI r.1)]],[.pt [.sl (r.2.b.tracks.map rZa),.sl (r.2.b.packets.map rZb),.lit (vI r.2.speed),.sl (r.2.due.map (rI .i64)),.sl (r.2.gone.map rB),.lit (vI r.2.next),.sl (r.2.dropping.map rB),.lit (vI r.2.wall),.lit (vI r.2.clock),.lit (vI r.2.busy),.sl (r.2.shows.map rZf)]]⟩
def as_Ih (p0:Zh) (p1:Int):List Arg:=[.m (.pt [.sl (p0.b.tracks.map rZa),.sl (p0.b.packets.map rZb),.lit (vI p0.speed),.sl (p0.due.map (rI .i64)),.sl (p0.gone.map rB),.lit (vI p0.next),.sl (p0.dropping.map rB),.lit (vI p0.wall),.lit (vI p0.clock),.lit (vI p0.busy),.sl (p0.shows.map rZf)]),.v false [.lit (vI p1)]]
def res_Ih (r:Zh):FRes:=⟨[],[.pt [.sl (r.b.tracks.map rZa),.sl (r.b.packets.map rZb),.lit (vI r.speed),.sl (r.due.map (rI .i64)),.sl (r.gone.map rB),.lit (vI r.next),.sl (r.dropping.map rB),.lit (vI r.wall),.lit (vI r.clock),.lit (vI r.busy),.sl (r.shows.map rZf)]]⟩
def as_Ii (p0:Zh):List Arg:=[.m (.pt [.sl (p0.b.tracks.map rZa),.sl (p0.b.packets.map rZb),.lit (vI p0.speed),.sl (p0.due.map (rI .i64)),.sl (p0.gone.map rB),.lit (vI p0.next),.sl (p0.dropping.map rB),.lit (vI p0.wall),.lit (vI p0.clock),.lit (vI p0.busy),.sl (p0.shows.map rZf)])]
def res_Ii (r:Zh):FRes:=⟨[],[.pt [.sl (r.b.tracks.map rZa),.sl (r.b.packets.map rZb),.lit (vI r.speed),.sl (r.due.map (rI .i64)),.sl (r.gone.map rB),.lit (vI r.next),.sl (r.dropping.map rB),.lit (vI r.wall),.lit (vI r.clock),.lit (vI r.busy),.sl (r.shows.map rZf)]]⟩
def as_Ib (p0:Ze) (p1:Int) (p2:LZb):List Arg:=[.v true [.sl (p0.tracks.map rZa),.sl (p0.packets.map rZb)],.v false [.lit (vI p1)],.v false [.sl (p2.map rZc)]]
def res_Ib (r:Zg):FRes:=⟨[.v true [.lit (vI r.err),.sl (r.shows.map rZf),.lit (vI r.wall),.lit (vI r.clock)]],[]⟩
def as_Se (p0:ByteArray):List Arg:=[.v false [.lit (.string p0)]]
def res_Se (r:Bool):FRes:=⟨[.v false [.lit (.bool r)]],[]⟩
def as_Sk (p0:Za):List Arg:=[.v true [.lit (vI p0.kind),.lit (vI p0.scale),.lit (.string p0.name)]]
def res_Sk (r:Bool):FRes:=⟨[.v false [.lit (.bool r)]],[]⟩
def as_Sl (p0:LZ):List Arg:=[.v false [.sl (p0.map rZa)]]
def res_Sl (r:Bool):FRes:=⟨[.v false [.lit (.bool r)]],[]⟩
def as_Sj (p0:Int):List Arg:=[.v false [.lit (vI p0)]]
def res_Sj (r:Bool):FRes:=⟨[.v false [.lit (.bool r)]],[]⟩
def as_Si (p0:Ze):List Arg:=[.v true [.sl (p0.tracks.map rZa),.sl (p0.packets.map rZb)]]
def res_Si (r:Bool):FRes:=⟨[.v false [.lit (.bool r)]],[]⟩
def as_Sc (p0:Ze):List Arg:=[.v true [.sl (p0.tracks.map rZa),.sl (p0.packets.map rZb)]]
def res_Sc (r:Bool):FRes:=⟨[.v false [.lit (.bool r)]],[]⟩
def as_Sn (p0:Zc):List Arg:=[.v true [.lit (vI p0.kind),.lit (vI p0.value)]]
def res_Sn (r:Bool):FRes:=⟨[.v false [.lit (.bool r)]],[]⟩
def as_So (p0:Ze) (p1:Int):List Arg:=[.v true [.sl (p0.tracks.map rZa),.sl (p0.packets.map rZb)],.v false [.lit (vI p1)]]
def res_So (r:Int):FRes:=⟨[.v false [.lit (vI r)]],[]⟩
def as_Sr (p0:Zi):List Arg:=[.m (.pt [.sl (p0.b.tracks.map rZa),.sl (p0.b.packets.map rZb),.sl (p0.due.map (rI .i64)),.lit (vI p0.speed),.lit (vI p0.wall),.lit (vI p0.clock),.lit (vI p0.pace),.lit (.bool p0.playing),.lit (vI p0.busy),.sl (p0.gone.map rB),.lit (vI p0.left),.lit (vI p0.soon),.sl (p0.drop.map rB),.sl (p0.shows.map rZf)])]
def res_Sr (r:Zi):FRes:=⟨[],[.pt [.sl (r.b.tracks.map rZa),.sl (r.b.packets.map rZb),.sl (r.due.map (rI .i64)),.lit (vI r.speed),.lit (vI r.wall),.lit (vI r.clock),.lit (vI r.pace),.lit (.bool r.playing),.lit (vI r.busy),.sl (r.gone.map rB),.lit (vI r.left),.lit (vI r.soon),.sl (r.drop.map rB),.sl (r.shows.map rZf)]]⟩
def as_Sq (p0:Zi):List Arg:=[.m (.pt [.sl (p0.b.tracks.map rZa),.sl (p0.b.packets.map rZb),.sl (p0.due.map (rI .i64)),.lit (vI p0.speed),.lit (vI p0.wall),.lit (vI p0.clock),.lit (vI p0.pace),.lit (.bool p0.playing),.lit (vI p0.busy),.sl (p0.gone.map rB),.lit (vI p0.left),.lit (vI p0.soon),.sl (p0.drop.map rB),.sl (p0.shows.map rZf)])]
def res_Sq (r:Int×Zi):FRes:=⟨[.v false [.lit (vI r.1)]],[.pt [.sl (r.2.b.tracks.map rZa),.sl (r.2.b.packets.map rZb),.sl (r.2.due.map (rI .i64)),.lit (vI r.2.speed),.lit (vI r.2.wall),.lit (vI r.2.clock),.lit (vI r.2.pace),.lit (.bool r.2.playing),.lit (vI r.2.busy),.sl (r.2.gone.map rB),.lit (vI r.2.left),.lit (vI r.2.soon),.sl (r.2.drop.map rB),.sl (r.2.shows.map rZf)]]⟩
def as_Sp (p0:Zi) (p1:Int):List Arg:=[.m (.pt [.sl (p0.b.tracks.map rZa),.sl (p0.b.packets.map rZb),.sl (p0.due.map (rI .i64)),.lit (vI p0.speed),.lit (vI p0.wall),.lit (vI p0.clock),.lit (vI p0.pace),.lit (.bool p0.playing),.lit (vI p0.busy),.sl (p0.gone.map rB),.lit (vI p0.left),.lit (vI p0.soon),.sl (p0.drop.map rB),.sl (p0.shows.map rZf)]),.v false [.lit (vI p1)]]
def res_Sp (r:Int×Zi):FRes:=⟨[.v false [.lit (vI r.1)]],[.pt [.sl (r.2.b.tracks.map rZa),.sl (r.2.b.packets.map rZb),.sl (r.2.due.map (rI .i64)),.lit (vI r.2.speed),.lit (vI r.2.wall),.lit (vI r.2.clock),.lit (vI r.2.pace),.lit (.bool r.2.playing),.lit (vI r.2.busy),.sl (r.2.gone.map rB),.lit (vI r.2.left),.lit (vI r.2.soon),.sl (r.2.drop.map rB),.sl (r.2.shows.map rZf)]]⟩
def as_Ss (p0:Zi) (p1:Int):List Arg:=[.m (.pt [.sl (p0.b.tracks.map rZa),.sl (p0.b.packets.map rZb),.sl (p0.due.map (rI .i64)),.lit (vI p0.speed),.lit (vI p0.wall),.lit (vI p0.clock),.lit (vI p0.pace),.lit (.bool p0.playing),.lit (vI p0.busy),.sl (p0.gone.map rB),.lit (vI p0.left),.lit (vI p0.soon),.sl (p0.drop.map rB),.sl (p0.shows.map rZf)]),.v false [.lit (vI p1)]]
def res_Ss (r:Zi):FRes:=⟨[],[.pt [.sl (r.b.tracks.map rZa),.sl (r.b.packets.map rZb),.sl (r.due.map (rI .i64)),.lit (vI r.speed),.lit (vI r.wall),.lit (vI r.clock),.lit (vI r.pace),.lit (.bool r.playing),.lit (vI r.busy),.sl (r.gone.map rB),.lit (vI r.left),.lit (vI r.soon),.sl (r.drop.map rB),.sl (r.shows.map rZf)]]⟩
def as_St (p0:Zi) (p1:Int):List Arg:=[.m (.pt [.sl (p0.b.tracks.map rZa),.sl (p0.b.packets.map rZb),.sl (p0.due.map (rI .i64)),.lit (vI p0.speed),.lit (vI p0.wall),.lit (vI p0.clock),.lit (vI p0.pace),.lit (.bool p0.playing),.lit (vI p0.busy),.sl (p0.gone.map rB),.lit (vI p0.left),.lit (vI p0.soon),.sl (p0.drop.map rB),.sl (p0.shows.map rZf)]),.v false [.lit (vI p1)]]
def res_St (r:Zi):FRes:=⟨[],[.pt [.sl (r.b.tracks.map rZa),.sl (r.b.packets.map rZb),.sl (r.due.map (rI .i64)),.lit (vI r.speed),.lit (vI r.wall),.lit (vI r.clock),.lit (vI r.pace),.lit (.bool r.playing),.lit (vI r.busy),.sl (r.gone.map rB),.lit (vI r.left),.lit (vI r.soon),.sl (r.drop.map rB),.sl (r.shows.map rZf)]]⟩
def as_Su (p0:Zi):List Arg:=[.m (.pt [.sl (p0.b.tracks.map rZa),.sl (p0.b.packets.map rZb),.sl (p0.due.map (rI .i64)),.lit (vI p0.speed),.lit (vI p0.wall),.lit (vI p0.clock),.lit (vI p0.pace),.lit (.bool p0.playing),.lit (vI p0.busy),.sl (p0.gone.map rB),.lit (vI p0.left),.lit (vI p0.soon),.sl (p0.drop.map rB),.sl (p0.shows.map rZf)])]
def res_Su (r:Zi):FRes:=⟨[],[.pt [.sl (r.b.tracks.map rZa),.sl (r.b.packets.map rZb),.sl (r.due.map (rI .i64)),.lit (vI r.speed),.lit (vI r.wall),.lit (vI r.clock),.lit (vI r.pace),.lit (.bool r.playing),.lit (vI r.busy),.sl (r.gone.map rB),.lit (vI r.left),.lit (vI r.soon),.sl (r.drop.map rB),.sl (r.shows.map rZf)]]⟩
def as_Sd (p0:Ze) (p1:Int) (p2:LZb):List Arg:=[.v true [.sl (p0.tracks.map rZa),.sl (p0.packets.map rZb)],.v false [.lit (vI p1)],.v false [.sl (p2.map rZc)]]
def res_Sd (r:Zg):FRes:=⟨[.v true [.lit (vI r.err),.sl (r.shows.map rZf),.lit (vI r.wall),.lit (vI r.clock)]],[]⟩
def as_Sb (p0:Ze) (p1:Int):List Arg:=[.v true [.sl (p0.tracks.map rZa),.sl (p0.packets.map rZb)],.v false [.lit (vI p1)]]
def res_Sb (r:Int):FRes:=⟨[.v false [.lit (vI r)]],[]⟩
def as_laws_FnPlayer (p0:LI):List Arg:=[.v false [.sl (p0.map (rI .u8))]]
def res_laws_FnPlayer (r:Bool):FRes:=⟨[.v false [.lit (.bool r)]],[]⟩
def K_Sz_10:List Fr:=[]
def s_Sz_10 (p0:Zd) (a:Int):St:=
 ⟨mkSl 62 [(0,sP 0 0),(3,sI a)],[],[some [.ro [.sc] (p0.code.map (rI .u8)),cI p0.at_,.lit (.int .u64 p0.seed)]]⟩
def K_Sz_0:List Fr:=[]
def s_Sz_0 (p0:Zd):St:=
 ⟨mkSl 62 [(0,sP 0 0)],[],[some [.ro [.sc] (p0.code.map (rI .u8)),cI p0.at_,.lit (.int .u64 p0.seed)]]⟩
def K_Sbb_24:List Fr:=[]
def s_Sbb_24 (p1 a:Int) (b:LI) (c d:Int):St:=
 ⟨mkSl 27 [(0,sP 0 0),(1,sI p1),(5,sI a)],[],[some [.ro [.sc] (b.map (rI .u8)),cI c,.lit (.int .u64 d)]]⟩
def K_Sbb_18:List Fr:=[]
def s_Sbb_18 (p1 a:Int) (b:LI) (c d:Int):St:=
 ⟨mkSl 27 [(0,sP 0 0),(1,sI p1),(5,sI a)],[],[some [.ro [.sc] (b.map (rI .u8)),cI c,.lit (.int .u64 d)]]⟩
def K_Sbb_0:List Fr:=[]
def s_Sbb_0 (p1:Int) (p0:Zd):St:=
 ⟨mkSl 27 [(0,sP 0 0),(1,sI p1)],[],[some [.ro [.sc] (p0.code.map (rI .u8)),cI p0.at_,.lit (.int .u64 p0.seed)]]⟩
def K_Sbc_21:List Fr:=[]
def s_Sbc_21 (b:LI) (c d:Int) (a:LI):St:=
 ⟨mkSl 23 [(0,sP 0 0),(5,.v false [cR 0 a])],[some ⟨[.sc],(List.map (rI .u8) a)⟩],[some [.ro [.sc] (b.map (rI .u8)),cI c,.lit (.int .u64 d)]]⟩
def K_Sbc_9:List Fr:=[.lp [0,5,10,11] c_Sbc_9,.bk 0,.sq (.kp [0,5] c_Sbc_21)]
def s_Sbc_9 (b c:Int) (d:LI) (e f:Int) (a:LI):St:=
 ⟨mkSl 23 [(0,sP 0 0),(5,.v false [cR 0 a]),(10,sI b),(11,sI c)],[some ⟨[.sc],(List.map (rI .u8) a)⟩],[some [.ro [.sc] (d.map (rI .u8)),cI e,.lit (.int .u64 f)]]⟩
def K_Sbc_0:List Fr:=[]
def s_Sbc_0 (p1:Int) (p0:Zd):St:=
 ⟨mkSl 23 [(0,sP 0 0),(1,sI p1)],[],[some [.ro [.sc] (p0.code.map (rI .u8)),cI p0.at_,.lit (.int .u64 p0.seed)]]⟩
def K_Sba_0:List Fr:=[]
def s_Sba_0 (p1:Int) (p0:Zd):St:=
 ⟨mkSl 9 [(0,sP 0 0),(1,sI p1)],[],[some [.ro [.sc] (p0.code.map (rI .u8)),cI p0.at_,.lit (.int .u64 p0.seed)]]⟩
def K_Sx_21:List Fr:=[]
def s_Sx_21 (b:LI) (c d:Int) (a:LI):St:=
 ⟨mkSl 22 [(0,sP 0 0),(5,.v false [cR 0 a])],[some ⟨[.sc],(List.map (rI .u8) a)⟩],[some [.ro [.sc] (b.map (rI .u8)),cI c,.lit (.int .u64 d)]]⟩
def K_Sx_9:List Fr:=[.lp [0,5,10,11] c_Sx_9,.bk 0,.sq (.kp [0,5] c_Sx_21)]
def s_Sx_9 (b c:Int) (d:LI) (e f:Int) (a:LI):St:=
 ⟨mkSl 22 [(0,sP 0 0),(5,.v false [cR 0 a]),(10,sI b),(11,sI c)],[some ⟨[.sc],(List.map (rI .u8) a)⟩],[some [.ro [.sc] (d.map (rI .u8)),cI e,.lit (.int .u64 f)]]⟩
def K_Sx_0:List Fr:=[]
def s_Sx_0 (p1:Int) (p0:Zd):St:=
 ⟨mkSl 22 [(0,sP 0 0),(1,sI p1)],[],[some [.ro [.sc] (p0.code.map (rI .u8)),cI p0.at_,.lit (.int .u64 p0.seed)]]⟩
def K_Sh_0:List Fr:=[]
def s_Sh_0 (p0:Ze) (p1 p2:Int):St:=
 ⟨mkSl 62 [(0,.v true [.ro q3 (p0.tracks.map rZa),.ro q5 (p0.packets.map rZb)]),(1,sI p1),(2,sI p2)],[],[]⟩
def K_Sf_0:List Fr:=[]
def s_Sf_0 (p0:Zb):St:=
 ⟨mkSl 11 [(0,.v true [cI p0.track,cI p0.time,cI p0.span,cB p0.key,.ro [.sc] (p0.data.map (rI .u8))])],[],[]⟩
def K_Sm_56:List Fr:=[.lp [1,2,3,4,6] c_Sm_30,.bk 2,.sq (.kp [1,2,3,4] c_Sm_57)]
def s_Sm_56 (c:Int) (p0:Ze) (a:LZ) (b:LI):St:=
 ⟨mkSl 92 [(1,sP 0 0),(2,sP 1 0),(3,sP 2 0),(4,.v false [cR 0 b]),(6,sI c)],[jI b,some ⟨q3,(List.map rZa ([]:LZ))⟩,some ⟨[.sc,.sc,.sc,.sc,.own [.sc]],(List.map rZb ([]:LZa))⟩,some ⟨q3,(List.map rZa a)⟩,some ⟨[.sc,.sc,.sc,.sc,.own [.sc]],(List.map rZb ([]:LZa))⟩],[some [.ro q3 (p0.tracks.map rZa),.ro q5 (p0.packets.map rZb)],some [.ref 1 [] 0 (([]:LZ).length),.ref 2 [] 0 (([]:LZa).length)],some [cR 3 a,.ref 4 [] 0 (([]:LZa).length)]]⟩
def K_Sm_42:List Fr:=[.lp [1,2,3,4,6,7] c_Sm_42,.bk 4,.bk 3,.sq (.kp [1,2,3,4,6] c_Sm_56),.lp [1,2,3,4,6] c_Sm_30,.bk 2,.sq (.kp [1,2,3,4] c_Sm_57)]
def s_Sm_42 (c:Int) (p0:Ze) (a:LZ) (d:Int) (b:LI):St:=
 ⟨mkSl 92 [(1,sP 0 0),(2,sP 1 0),(3,sP 2 0),(4,.v false [cR 0 b]),(6,sI c),(7,sI d)],[jI b,some ⟨q3,(List.map rZa ([]:LZ))⟩,some ⟨[.sc,.sc,.sc,.sc,.own [.sc]],(List.map rZb ([]:LZa))⟩,some ⟨q3,(List.map rZa a)⟩,some ⟨[.sc,.sc,.sc,.sc,.own [.sc]],(List.map rZb ([]:LZa))⟩],[some [.ro q3 (p0.tracks.map rZa),.ro q5 (p0.packets.map rZb)],some [.ref 1 [] 0 (([]:LZ).length),.ref 2 [] 0 (([]:LZa).length)],some [cR 3 a,.ref 4 [] 0 (([]:LZa).length)]]⟩
def K_Sm_74:List Fr:=[]
def s_Sm_74 (a:LZ) (b:LZa):St:=
 ⟨mkSl 92 [(2,sP 0 0),(3,sP 1 0)],[some ⟨q3,(List.map rZa ([]:LZ))⟩,some ⟨[.sc,.sc,.sc,.sc,.own [.sc]],(List.map rZb ([]:LZa))⟩,some ⟨q3,(List.map rZa a)⟩,some ⟨[.sc,.sc,.sc,.sc,.own [.sc]],(List.map rZb b)⟩],[some [.ref 0 [] 0 (([]:LZ).length),.ref 1 [] 0 (([]:LZa).length)],some [cR 2 a,cR 3 b]]⟩
def K_Sm_62:List Fr:=[.lp [1,2,3,73,74,75] c_Sm_62,.bk 6,.sq (.kp [2,3] c_Sm_74)]
def s_Sm_62 (a:LI) (p0:Ze) (b:LZ) (d:Int) (c:LZa):St:=
 ⟨mkSl 92 [(1,sP 0 0),(2,sP 1 0),(3,sP 2 0),(73,.v false [cR 0 a]),(74,sI (a.length:Int)),(75,sI d)],[jI a,some ⟨q3,(List.map rZa ([]:LZ))⟩,some ⟨[.sc,.sc,.sc,.sc,.own [.sc]],(List.map rZb ([]:LZa))⟩,some ⟨q3,(List.map rZa b)⟩,some ⟨[.sc,.sc,.sc,.sc,.own [.sc]],(List.map rZb c)⟩],[some [.ro q3 (p0.tracks.map rZa),.ro q5 (p0.packets.map rZb)],some [.ref 1 [] 0 (([]:LZ).length),.ref 2 [] 0 (([]:LZa).length)],some [cR 3 b,cR 4 c]]⟩
def K_Sm_57:List Fr:=[]
def s_Sm_57 (p0:Ze) (a:LZ) (b:LI):St:=
 ⟨mkSl 92 [(1,sP 0 0),(2,sP 1 0),(3,sP 2 0),(4,.v false [cR 0 b])],[jI b,some ⟨q3,(List.map rZa ([]:LZ))⟩,some ⟨[.sc,.sc,.sc,.sc,.own [.sc]],(List.map rZb ([]:LZa))⟩,some ⟨q3,(List.map rZa a)⟩,some ⟨[.sc,.sc,.sc,.sc,.own [.sc]],(List.map rZb ([]:LZa))⟩],[some [.ro q3 (p0.tracks.map rZa),.ro q5 (p0.packets.map rZb)],some [.ref 1 [] 0 (([]:LZ).length),.ref 2 [] 0 (([]:LZa).length)],some [cR 3 a,.ref 4 [] 0 (([]:LZa).length)]]⟩
def K_Sm_30:List Fr:=[.lp [1,2,3,4,6] c_Sm_30,.bk 2,.sq (.kp [1,2,3,4] c_Sm_57)]
def s_Sm_30 (p0:Ze) (a:LZ) (c:Int) (b:LI):St:=
 ⟨mkSl 92 [(1,sP 0 0),(2,sP 1 0),(3,sP 2 0),(4,.v false [cR 0 b]),(6,sI c)],[jI b,some ⟨q3,(List.map rZa ([]:LZ))⟩,some ⟨[.sc,.sc,.sc,.sc,.own [.sc]],(List.map rZb ([]:LZa))⟩,some ⟨q3,(List.map rZa a)⟩,some ⟨[.sc,.sc,.sc,.sc,.own [.sc]],(List.map rZb ([]:LZa))⟩],[some [.ro q3 (p0.tracks.map rZa),.ro q5 (p0.packets.map rZb)],some [.ref 1 [] 0 (([]:LZ).length),.ref 2 [] 0 (([]:LZa).length)],some [cR 3 a,.ref 4 [] 0 (([]:LZa).length)]]⟩
def K_Sm_25:List Fr:=[]
def s_Sm_25 (p0:Ze) (a:LI) (b:LZ):St:=
 ⟨mkSl 92 [(1,sP 0 0),(2,sP 1 0),(3,sP 2 0),(4,.v false [cR 0 a])],[jI a,some ⟨q3,(List.map rZa ([]:LZ))⟩,some ⟨[.sc,.sc,.sc,.sc,.own [.sc]],(List.map rZb ([]:LZa))⟩,some ⟨q3,(List.map rZa b)⟩,some ⟨[.sc,.sc,.sc,.sc,.own [.sc]],(List.map rZb ([]:LZa))⟩],[some [.ro q3 (p0.tracks.map rZa),.ro q5 (p0.packets.map rZb)],some [.ref 1 [] 0 (([]:LZ).length),.ref 2 [] 0 (([]:LZa).length)],some [cR 3 b,.ref 4 [] 0 (([]:LZa).length)]]⟩
def K_Sm_13:List Fr:=[.lp [1,2,3,4,23,24] c_Sm_13,.bk 0,.sq (.kp [1,2,3,4] c_Sm_25)]
def s_Sm_13 (p0:Ze) (c d:Int) (a:LI) (b:LZ):St:=
 ⟨mkSl 92 [(1,sP 0 0),(2,sP 1 0),(3,sP 2 0),(4,.v false [cR 0 a]),(23,sI c),(24,sI d)],[jI a,some ⟨q3,(List.map rZa ([]:LZ))⟩,some ⟨[.sc,.sc,.sc,.sc,.own [.sc]],(List.map rZb ([]:LZa))⟩,some ⟨q3,(List.map rZa b)⟩,some ⟨[.sc,.sc,.sc,.sc,.own [.sc]],(List.map rZb ([]:LZa))⟩],[some [.ro q3 (p0.tracks.map rZa),.ro q5 (p0.packets.map rZb)],some [.ref 1 [] 0 (([]:LZ).length),.ref 2 [] 0 (([]:LZa).length)],some [cR 3 b,.ref 4 [] 0 (([]:LZa).length)]]⟩
def K_Sm_0:List Fr:=[]
def s_Sm_0 (p0:Ze):St:=
 ⟨mkSl 92 [(0,.v true [.ro q3 (p0.tracks.map rZa),.ro q5 (p0.packets.map rZb)])],[],[]⟩
def K_Sw_44:List Fr:=[.bk 3,.sq c_Sw_49,.lp [0,1,4,5,8,9,10] c_Sw_32,.bk 2,.sq (.kp [0,4,5] c_Sw_50)]
def s_Sw_44 (p1 g:Int) (a:Int×Zd) (h:Int) (i:Int×Zd) (b:LI) (c:LB) (d:LZ) (e:LZa) (j:LI) (k l:Int) (m:Bool) (f:LI):St:=
 ⟨mkSl 112 [(0,sP 0 0),(1,sI p1),(4,sP 1 0),(5,sP 2 0),(8,.v false [cR 0 b]),(9,.v false [cR 1 c]),(10,sI g),(11,sI a.1),(12,sP 3 0)],[jI b,jB c,some ⟨q3,(List.map rZa ([]:LZ))⟩,some ⟨[.sc,.sc,.sc,.sc,.own [.sc]],(List.map rZb ([]:LZa))⟩,some ⟨q3,(List.map rZa d)⟩,some ⟨[.sc,.sc,.sc,.sc,.own [.sc]],(List.map rZb e)⟩,some ⟨[.sc],(List.map (rI .u8) f)⟩],[some [.ro [.sc] (j.map (rI .u8)),cI k,.lit (.int .u64 l)],some [.ref 2 [] 0 (([]:LZ).length),.ref 3 [] 0 (([]:LZa).length)],some [cR 4 d,cR 5 e],some [cI a.1,cI h,cI i.1,cB m,cR 6 f]]⟩
def K_Sw_50:List Fr:=[]
def s_Sw_50 (a:LZ) (c:LI) (d e:Int) (b:LZa):St:=
 ⟨mkSl 112 [(0,sP 0 0),(4,sP 1 0),(5,sP 2 0)],[some ⟨q3,(List.map rZa ([]:LZ))⟩,some ⟨[.sc,.sc,.sc,.sc,.own [.sc]],(List.map rZb ([]:LZa))⟩,some ⟨q3,(List.map rZa a)⟩,some ⟨[.sc,.sc,.sc,.sc,.own [.sc]],(List.map rZb b)⟩],[some [.ro [.sc] (c.map (rI .u8)),cI d,.lit (.int .u64 e)],some [.ref 0 [] 0 (([]:LZ).length),.ref 1 [] 0 (([]:LZa).length)],some [cR 2 a,cR 3 b]]⟩
def K_Sw_32:List Fr:=[.lp [0,1,4,5,8,9,10] c_Sw_32,.bk 2,.sq (.kp [0,4,5] c_Sw_50)]
def s_Sw_32 (p1:Int) (a:LZ) (e:Int) (f:LI) (g h:Int) (b:LI) (c:LB) (d:LZa):St:=
 ⟨mkSl 112 [(0,sP 0 0),(1,sI p1),(4,sP 1 0),(5,sP 2 0),(8,.v false [cR 0 b]),(9,.v false [cR 1 c]),(10,sI e)],[jI b,jB c,some ⟨q3,(List.map rZa ([]:LZ))⟩,some ⟨[.sc,.sc,.sc,.sc,.own [.sc]],(List.map rZb ([]:LZa))⟩,some ⟨q3,(List.map rZa a)⟩,some ⟨[.sc,.sc,.sc,.sc,.own [.sc]],(List.map rZb d)⟩],[some [.ro [.sc] (f.map (rI .u8)),cI g,.lit (.int .u64 h)],some [.ref 2 [] 0 (([]:LZ).length),.ref 3 [] 0 (([]:LZa).length)],some [cR 4 a,cR 5 d]]⟩
def K_Sw_23:List Fr:=[]
def s_Sw_23 (p1:Int) (b:LI) (c d:Int) (a:LZ):St:=
 ⟨mkSl 112 [(0,sP 0 0),(1,sI p1),(4,sP 1 0),(5,sP 2 0)],[some ⟨q3,(List.map rZa ([]:LZ))⟩,some ⟨[.sc,.sc,.sc,.sc,.own [.sc]],(List.map rZb ([]:LZa))⟩,some ⟨q3,(List.map rZa a)⟩,some ⟨[.sc,.sc,.sc,.sc,.own [.sc]],(List.map rZb ([]:LZa))⟩],[some [.ro [.sc] (b.map (rI .u8)),cI c,.lit (.int .u64 d)],some [.ref 0 [] 0 (([]:LZ).length),.ref 1 [] 0 (([]:LZa).length)],some [cR 2 a,.ref 3 [] 0 (([]:LZa).length)]]⟩
def K_Sw_9:List Fr:=[.lp [0,1,4,5,6] c_Sw_9,.bk 0,.sq (.kp [0,1,4,5] c_Sw_23)]
def s_Sw_9 (p1 b:Int) (c:LI) (d e:Int) (a:LZ):St:=
 ⟨mkSl 112 [(0,sP 0 0),(1,sI p1),(4,sP 1 0),(5,sP 2 0),(6,sI b)],[some ⟨q3,(List.map rZa ([]:LZ))⟩,some ⟨[.sc,.sc,.sc,.sc,.own [.sc]],(List.map rZb ([]:LZa))⟩,some ⟨q3,(List.map rZa a)⟩,some ⟨[.sc,.sc,.sc,.sc,.own [.sc]],(List.map rZb ([]:LZa))⟩],[some [.ro [.sc] (c.map (rI .u8)),cI d,.lit (.int .u64 e)],some [.ref 0 [] 0 (([]:LZ).length),.ref 1 [] 0 (([]:LZa).length)],some [cR 2 a,.ref 3 [] 0 (([]:LZa).length)]]⟩
def K_Sw_0:List Fr:=[]
def s_Sw_0 (p1:Int) (p0:Zd):St:=
 ⟨mkSl 112 [(0,sP 0 0),(1,sI p1)],[],[some [.ro [.sc] (p0.code.map (rI .u8)),cI p0.at_,.lit (.int .u64 p0.seed)]]⟩
def K_Sbd_0:List Fr:=[]
def s_Sbd_0 (p0:LI) (p1 p2:Int):St:=
 ⟨mkSl 17 [(0,.v false [.ro [.sc] (p0.map (rI .u8))]),(1,sI p1),(2,sI p2)],[],[]⟩
def K_Sg_49:List Fr:=[]
def s_Sg_49 (c:LI) (d e:Int) (a:LZ) (b:LZa):St:=
 ⟨mkSl 86 [(2,sP 0 0),(4,sP 1 0),(5,sP 2 0)],[some ⟨q3,(List.map rZa ([]:LZ))⟩,some ⟨q5,(List.map rZb ([]:LZa))⟩,some ⟨q3,(List.map rZa a)⟩,some ⟨q5,(List.map rZb b)⟩],[some [.ref 0 [] 0 (([]:LZ).length),.ref 1 [] 0 (([]:LZa).length)],some [.ro [.sc] (c.map (rI .u8)),cI d,.lit (.int .u64 e)],some [cR 2 a,cR 3 b]]⟩
def K_Sg_12:List Fr:=[]
def s_Sg_12 (c:LI) (d e:Int) (a:LZ) (b:LZa):St:=
 ⟨mkSl 86 [(2,sP 0 0),(4,sP 1 0),(5,sP 2 0)],[some ⟨q3,(List.map rZa ([]:LZ))⟩,some ⟨q5,(List.map rZb ([]:LZa))⟩,some ⟨q3,(List.map rZa a)⟩,some ⟨q5,(List.map rZb b)⟩],[some [.ref 0 [] 0 (([]:LZ).length),.ref 1 [] 0 (([]:LZa).length)],some [.ro [.sc] (c.map (rI .u8)),cI d,.lit (.int .u64 e)],some [cR 2 a,cR 3 b]]⟩
def K_Sg_0:List Fr:=[]
def s_Sg_0 (p0:LI):St:=
 ⟨mkSl 86 [(0,.v false [.ro [.sc] (p0.map (rI .u8))])],[],[]⟩
def K_Sy_23:List Fr:=[.bk 1,.sq c_Sy_28,.lp [0,3,4,9,10] c_Sy_7,.bk 0,.sq (.kp [0,3,4] c_Sy_29)]
def s_Sy_23 (a:Int) (p1:Ze) (c:LI) (d e:Int) (b:LZa):St:=
 ⟨mkSl 49 [(0,sP 0 0),(3,sP 1 0),(4,sP 2 0),(5,sI a),(9,sI (p1.packets.length:Int)),(10,sI a)],[some ⟨q3,(List.map rZa p1.tracks)⟩,some ⟨[.sc,.sc,.sc,.sc,.own [.sc]],(List.map rZb b)⟩,some ⟨q3,(List.map rZa ([]:LZ))⟩,some ⟨[.sc,.sc,.sc,.sc,.own [.sc]],(List.map rZb ([]:LZa))⟩],[some [.ro [.sc] (c.map (rI .u8)),cI d,.lit (.int .u64 e)],some [cR 0 p1.tracks,cR 1 b],some [.ref 2 [] 0 (([]:LZ).length),.ref 3 [] 0 (([]:LZa).length)]]⟩
def K_Sy_50:List Fr:=[]
def s_Sy_50 (a:LZa) (c:LI) (d e:Int) (b:LZ):St:=
 ⟨mkSl 49 [(0,sP 0 0),(3,sP 1 0),(4,sP 2 0)],[some ⟨q3,(List.map rZa b)⟩,some ⟨[.sc,.sc,.sc,.sc,.own [.sc]],(List.map rZb a)⟩,some ⟨q3,(List.map rZa ([]:LZ))⟩,some ⟨[.sc,.sc,.sc,.sc,.own [.sc]],(List.map rZb ([]:LZa))⟩],[some [.ro [.sc] (c.map (rI .u8)),cI d,.lit (.int .u64 e)],some [cR 0 b,cR 1 a],some [.ref 2 [] 0 (([]:LZ).length),.ref 3 [] 0 (([]:LZa).length)]]⟩
def K_Sy_34:List Fr:=[.lp [0,3,4,36,37] c_Sy_34,.bk 2,.sq (.kp [0,3,4] c_Sy_50)]
def s_Sy_34 (p1:Ze) (a:LZa) (c:Int) (d:LI) (e f:Int) (b:LZ):St:=
 ⟨mkSl 49 [(0,sP 0 0),(3,sP 1 0),(4,sP 2 0),(36,sI (p1.tracks.length:Int)),(37,sI c)],[some ⟨q3,(List.map rZa b)⟩,some ⟨[.sc,.sc,.sc,.sc,.own [.sc]],(List.map rZb a)⟩,some ⟨q3,(List.map rZa ([]:LZ))⟩,some ⟨[.sc,.sc,.sc,.sc,.own [.sc]],(List.map rZb ([]:LZa))⟩],[some [.ro [.sc] (d.map (rI .u8)),cI e,.lit (.int .u64 f)],some [cR 0 b,cR 1 a],some [.ref 2 [] 0 (([]:LZ).length),.ref 3 [] 0 (([]:LZa).length)]]⟩
def K_Sy_29:List Fr:=[]
def s_Sy_29 (p1:Ze) (b:LI) (c d:Int) (a:LZa):St:=
 ⟨mkSl 49 [(0,sP 0 0),(3,sP 1 0),(4,sP 2 0)],[some ⟨q3,(List.map rZa p1.tracks)⟩,some ⟨[.sc,.sc,.sc,.sc,.own [.sc]],(List.map rZb a)⟩,some ⟨q3,(List.map rZa ([]:LZ))⟩,some ⟨[.sc,.sc,.sc,.sc,.own [.sc]],(List.map rZb ([]:LZa))⟩],[some [.ro [.sc] (b.map (rI .u8)),cI c,.lit (.int .u64 d)],some [cR 0 p1.tracks,cR 1 a],some [.ref 2 [] 0 (([]:LZ).length),.ref 3 [] 0 (([]:LZa).length)]]⟩
def K_Sy_7:List Fr:=[.lp [0,3,4,9,10] c_Sy_7,.bk 0,.sq (.kp [0,3,4] c_Sy_29)]
def s_Sy_7 (p1:Ze) (b:Int) (c:LI) (d e:Int) (a:LZa):St:=
 ⟨mkSl 49 [(0,sP 0 0),(3,sP 1 0),(4,sP 2 0),(9,sI (p1.packets.length:Int)),(10,sI b)],[some ⟨q3,(List.map rZa p1.tracks)⟩,some ⟨[.sc,.sc,.sc,.sc,.own [.sc]],(List.map rZb a)⟩,some ⟨q3,(List.map rZa ([]:LZ))⟩,some ⟨[.sc,.sc,.sc,.sc,.own [.sc]],(List.map rZb ([]:LZa))⟩],[some [.ro [.sc] (c.map (rI .u8)),cI d,.lit (.int .u64 e)],some [cR 0 p1.tracks,cR 1 a],some [.ref 2 [] 0 (([]:LZ).length),.ref 3 [] 0 (([]:LZa).length)]]⟩
def K_Sy_0:List Fr:=[]
def s_Sy_0 (p0:Zd) (p1:Ze):St:=
 ⟨mkSl 49 [(0,sP 0 0),(1,.v true [cR 0 p1.tracks,cR 1 p1.packets])],[some ⟨q3,(List.map rZa p1.tracks)⟩,some ⟨[.sc,.sc,.sc,.sc,.own [.sc]],(List.map rZb p1.packets)⟩],[some [.ro [.sc] (p0.code.map (rI .u8)),cI p0.at_,.lit (.int .u64 p0.seed)]]⟩
def K_Sv_46:List Fr:=[.bk 1,.sq c_Sv_47,.lp [0,1,5,6] c_Sv_11,.bk 0,.sq (.kp [0,5] c_Sv_48)]
def s_Sv_46 (p1 b:Int) (a:LZb) (c:LI) (d e f g:Int):St:=
 ⟨mkSl 49 [(0,sP 0 0),(1,sI p1),(5,.v false [cR 0 a]),(6,sI b),(7,sP 1 0)],[some ⟨[.sc,.sc],(List.map rZc a)⟩],[some [.ro [.sc] (c.map (rI .u8)),cI d,.lit (.int .u64 e)],some [cI f,cI g]]⟩
def K_Sv_48:List Fr:=[]
def s_Sv_48 (b:LI) (c d:Int) (a:LZb):St:=
 ⟨mkSl 49 [(0,sP 0 0),(5,.v false [cR 0 a])],[some ⟨[.sc,.sc],(List.map rZc a)⟩],[some [.ro [.sc] (b.map (rI .u8)),cI c,.lit (.int .u64 d)]]⟩
def K_Sv_11:List Fr:=[.lp [0,1,5,6] c_Sv_11,.bk 0,.sq (.kp [0,5] c_Sv_48)]
def s_Sv_11 (p1 b:Int) (c:LI) (d e:Int) (a:LZb):St:=
 ⟨mkSl 49 [(0,sP 0 0),(1,sI p1),(5,.v false [cR 0 a]),(6,sI b)],[some ⟨[.sc,.sc],(List.map rZc a)⟩],[some [.ro [.sc] (c.map (rI .u8)),cI d,.lit (.int .u64 e)]]⟩
def K_Sv_0:List Fr:=[]
def s_Sv_0 (p1:Int) (p0:Zd):St:=
 ⟨mkSl 49 [(0,sP 0 0),(1,sI p1)],[],[some [.ro [.sc] (p0.code.map (rI .u8)),cI p0.at_,.lit (.int .u64 p0.seed)]]⟩
def K_Sa_31:List Fr:=[]
def s_Sa_31 (a:LZ) (b:LZa) (d:Int) (c:LZb):St:=
 ⟨mkSl 68 [(2,sP 0 0),(5,sP 1 0),(7,sI d),(8,.v false [cR 0 c])],[some ⟨[.sc,.sc],(List.map rZc c)⟩,some ⟨q3,(List.map rZa ([]:LZ))⟩,some ⟨q5,(List.map rZb ([]:LZa))⟩,some ⟨q3,(List.map rZa a)⟩,some ⟨q5,(List.map rZb b)⟩],[some [.ref 1 [] 0 (([]:LZ).length),.ref 2 [] 0 (([]:LZa).length)],some [cR 3 a,cR 4 b]]⟩
def K_Sa_10:List Fr:=[]
def s_Sa_10 (c:LI) (d e:Int) (a:LZ) (b:LZa):St:=
 ⟨mkSl 68 [(2,sP 0 0),(5,sP 1 0),(6,sP 2 0)],[some ⟨q3,(List.map rZa ([]:LZ))⟩,some ⟨q5,(List.map rZb ([]:LZa))⟩,some ⟨q3,(List.map rZa a)⟩,some ⟨q5,(List.map rZb b)⟩],[some [.ref 0 [] 0 (([]:LZ).length),.ref 1 [] 0 (([]:LZa).length)],some [cR 2 a,cR 3 b],some [.ro [.sc] (c.map (rI .u8)),cI d,.lit (.int .u64 e)]]⟩
def K_Sa_0:List Fr:=[]
def s_Sa_0 (p0:LI):St:=
 ⟨mkSl 68 [(0,.v false [.ro [.sc] (p0.map (rI .u8))])],[],[]⟩
def K_Il_33:List Fr:=[]
def s_Il_33:St:=
 ⟨mkSl 47 [],[],[]⟩
def K_Il_15:List Fr:=[.lp [1,30,31] c_Il_15,.bk 0,.sq (.kp [] c_Il_33)]
def s_Il_15 (p0:Za) (a:Int):St:=
 ⟨mkSl 47 [(1,sP 0 0),(30,sI (p0.name.size:Int)),(31,sI a)],[],[some [cI p0.kind,cI p0.scale,.lit (.string p0.name)]]⟩
def K_Il_0:List Fr:=[]
def s_Il_0 (p0:Za):St:=
 ⟨mkSl 47 [(0,.v true [cI p0.kind,cI p0.scale,.lit (.string p0.name)])],[],[]⟩
def K_Ik_0:List Fr:=[]
def s_Ik_0 (p0:Int):St:=
 ⟨mkSl 9 [(0,sI p0)],[],[]⟩
def K_Ij_77:List Fr:=[.bk 5,.sq c_Ij_80,.lp [1,5,6,51,52,53] c_Ij_59,.bk 4,.sq (.kp [5] c_Ij_81)]
def s_Ij_77 (c:Int) (p0:Ze) (d:Int) (a:Zb) (b:LI):St:=
 ⟨mkSl 117 [(1,sP 0 0),(5,sI c),(6,.v false [cR 0 b]),(9,sP 1 0),(51,.v false [.ro q5 (p0.packets.map rZb)]),(52,sI (p0.packets.length:Int)),(53,sI d)],[jI b],[some [.ro q3 (p0.tracks.map rZa),.ro q5 (p0.packets.map rZb)],some [cI a.track,cI a.time,cI a.span,cB a.key,.ro [.sc] (a.data.map (rI .u8))]]⟩
def K_Ij_81:List Fr:=[]
def s_Ij_81 (a:Int):St:=
 ⟨mkSl 117 [(5,sI a)],[],[]⟩
def K_Ij_59:List Fr:=[.lp [1,5,6,51,52,53] c_Ij_59,.bk 4,.sq (.kp [5] c_Ij_81)]
def s_Ij_59 (p0:Ze) (b c:Int) (a:LI):St:=
 ⟨mkSl 117 [(1,sP 0 0),(5,sI b),(6,.v false [cR 0 a]),(51,.v false [.ro q5 (p0.packets.map rZb)]),(52,sI (p0.packets.length:Int)),(53,sI c)],[jI a],[some [.ro q3 (p0.tracks.map rZa),.ro q5 (p0.packets.map rZb)]]⟩
def K_Ij_54:List Fr:=[]
def s_Ij_54 (p0:Ze) (a:LI):St:=
 ⟨mkSl 117 [(1,sP 0 0),(5,sI 0),(6,.v false [cR 0 a])],[jI a],[some [.ro q3 (p0.tracks.map rZa),.ro q5 (p0.packets.map rZb)]]⟩
def K_Ij_42:List Fr:=[.lp [1,5,6,42,43] c_Ij_42,.bk 2,.sq (.kp [1,5,6] c_Ij_54)]
def s_Ij_42 (p0:Ze) (b c:Int) (a:LI):St:=
 ⟨mkSl 117 [(1,sP 0 0),(5,sI 0),(6,.v false [cR 0 a]),(42,sI b),(43,sI c)],[jI a],[some [.ro q3 (p0.tracks.map rZa),.ro q5 (p0.packets.map rZb)]]⟩
def K_Ij_33:List Fr:=[]
def s_Ij_33 (p0:Ze):St:=
 ⟨mkSl 117 [(1,sP 0 0)],[],[some [.ro q3 (p0.tracks.map rZa),.ro q5 (p0.packets.map rZb)]]⟩
def K_Ij_15:List Fr:=[.lp [1,27,28,29] c_Ij_15,.bk 0,.sq (.kp [1] c_Ij_33)]
def s_Ij_15 (p0:Ze) (a:Int):St:=
 ⟨mkSl 117 [(1,sP 0 0),(27,.v false [.ro q3 (p0.tracks.map rZa)]),(28,sI (p0.tracks.length:Int)),(29,sI a)],[],[some [.ro q3 (p0.tracks.map rZa),.ro q5 (p0.packets.map rZb)]]⟩
def K_Ij_0:List Fr:=[]
def s_Ij_0 (p0:Ze):St:=
 ⟨mkSl 117 [(0,.v true [.ro q3 (p0.tracks.map rZa),.ro q5 (p0.packets.map rZb)])],[],[]⟩
def K_If_0:List Fr:=[]
def s_If_0 (p0:Ze) (p1 p2:Int):St:=
 ⟨mkSl 60 [(0,.v true [.ro q3 (p0.tracks.map rZa),.ro q5 (p0.packets.map rZb)]),(1,sI p1),(2,sI p2)],[],[]⟩
def K_Ia_31:List Fr:=[]
def s_Ia_31:St:=
 ⟨mkSl 19 [],[],[]⟩
def K_Ia_15:List Fr:=[.lp [1,3] c_Ia_15,.bk 0,.sq (.kp [] c_Ia_31)]
def s_Ia_15 (p0:Ze) (a:Int):St:=
 ⟨mkSl 19 [(1,sP 0 0),(3,sI a)],[],[some [.ro q3 (p0.tracks.map rZa),.ro q5 (p0.packets.map rZb)]]⟩
def K_Ia_0:List Fr:=[]
def s_Ia_0 (p0:Ze):St:=
 ⟨mkSl 19 [(0,.v true [.ro q3 (p0.tracks.map rZa),.ro q5 (p0.packets.map rZb)])],[],[]⟩
def K_Id_0:List Fr:=[]
def s_Id_0 (p0 p1:Int) (p2:Zc):St:=
 ⟨mkSl 16 [(0,sI p0),(1,sI p1),(2,sP 0 0)],[],[some [cI p2.kind,cI p2.value]]⟩
def K_Ic_14:List Fr:=[.bk 0,.sq c_Ic_37]
def s_Ic_14 (p0:Zc) (a:Bool):St:=
 ⟨mkSl 25 [(1,sP 0 0),(3,.v false [.clo 122 [0]]),(6,sI p0.kind),(7,sB a)],[],[some [cI p0.kind,cI p0.value]]⟩
def K_Ic_0:List Fr:=[]
def s_Ic_0 (p0:Zc):St:=
 ⟨mkSl 25 [(0,.v true [cI p0.kind,cI p0.value])],[],[]⟩
def K_Ie_0:List Fr:=[]
def s_Ie_0 (p0:Ze) (p1:Int):St:=
 ⟨mkSl 22 [(0,.v true [.ro q3 (p0.tracks.map rZa),.ro q5 (p0.packets.map rZb)]),(1,sI p1)],[],[]⟩
def K_Ig_0:List Fr:=[]
def s_Ig_0 (p1:Int) (p0:Zh):St:=
 ⟨mkSl 31 [(0,sP 0 0),(1,sI p1)],[jI p0.due,jB p0.gone,jB p0.dropping,some ⟨q4,(List.map rZf p0.shows)⟩],[some [.ro q3 (p0.b.tracks.map rZa),.ro q5 (p0.b.packets.map rZb),cI p0.speed,cR 0 p0.due,cR 1 p0.gone,cI p0.next,cR 2 p0.dropping,cI p0.wall,cI p0.clock,cI p0.busy,cR 3 p0.shows]]⟩
def K_Ih_38:List Fr:=[.bk 3,.sq c_Ih_41,.lp [0,4,5,23,24,34,35,36] c_Ih_26,.bk 2,.sq (.kp [0,4,5,23,24] c_Ih_42),.bk 1,.sq c_Ih_43,.lp [0,4,23,24] c_Ih_9,.bk 0,.sq (.kp [0,4] c_Ih_44)]
def s_Ih_38 (a c f:Int) (p0:Zh) (g:Int) (d:LI) (e:LB) (h:Bool):St:=
 ⟨mkSl 158 [(0,sP 0 0),(4,.v false [cR 0 d]),(5,sI a),(6,sI c),(23,sI f),(24,sI a),(34,.v false [.ro q5 (p0.b.packets.map rZb)]),(35,sI (p0.b.packets.length:Int)),(36,sI c),(83,sB h)],[jI d,jI p0.due,jB p0.gone,jB e,some ⟨q4,(List.map rZf p0.shows)⟩],[some [.ro q3 (p0.b.tracks.map rZa),.ro q5 (p0.b.packets.map rZb),cI p0.speed,cR 1 p0.due,cR 2 p0.gone,cI p0.next,cR 3 e,cI p0.wall,cI g,cI p0.busy,cR 4 p0.shows]]⟩
def K_Ih_42:List Fr:=[.bk 1,.sq c_Ih_43,.lp [0,4,23,24] c_Ih_9,.bk 0,.sq (.kp [0,4] c_Ih_44)]
def s_Ih_42 (a e:Int) (p0:Zh) (f:Int) (c:LB) (d:LI):St:=
 ⟨mkSl 158 [(0,sP 0 0),(4,.v false [cR 0 d]),(5,sI a),(23,sI e),(24,sI a)],[jI d,jI p0.due,jB p0.gone,jB c,some ⟨q4,(List.map rZf p0.shows)⟩],[some [.ro q3 (p0.b.tracks.map rZa),.ro q5 (p0.b.packets.map rZb),cI p0.speed,cR 1 p0.due,cR 2 p0.gone,cI p0.next,cR 3 c,cI p0.wall,cI f,cI p0.busy,cR 4 p0.shows]]⟩
def K_Ih_26:List Fr:=[.lp [0,4,5,23,24,34,35,36] c_Ih_26,.bk 2,.sq (.kp [0,4,5,23,24] c_Ih_42),.bk 1,.sq c_Ih_43,.lp [0,4,23,24] c_Ih_9,.bk 0,.sq (.kp [0,4] c_Ih_44)]
def s_Ih_26 (a e:Int) (p0:Zh) (f:Int) (c:LB) (g:Int) (d:LI):St:=
 ⟨mkSl 158 [(0,sP 0 0),(4,.v false [cR 0 d]),(5,sI a),(23,sI e),(24,sI a),(34,.v false [.ro q5 (p0.b.packets.map rZb)]),(35,sI (p0.b.packets.length:Int)),(36,sI g)],[jI d,jI p0.due,jB p0.gone,jB c,some ⟨q4,(List.map rZf p0.shows)⟩],[some [.ro q3 (p0.b.tracks.map rZa),.ro q5 (p0.b.packets.map rZb),cI p0.speed,cR 1 p0.due,cR 2 p0.gone,cI p0.next,cR 3 c,cI p0.wall,cI f,cI p0.busy,cR 4 p0.shows]]⟩
def K_Ih_63:List Fr:=[.bk 5,.sq c_Ih_68,.lp [0,4,100,101,102] c_Ih_49,.bk 4,.sq (.kp [0] c_Ih_69)]
def s_Ih_63 (a:Int) (p0:Zh) (h:LZ) (i:LZa) (j k l m n:Int) (c d:LI) (e:LB) (f:LZc) (o:Bool) (g:LB):St:=
 ⟨mkSl 158 [(0,sP 0 0),(4,.v false [cR 0 c]),(8,sI a),(100,.v false [.ro q5 (p0.b.packets.map rZb)]),(101,sI (p0.b.packets.length:Int)),(102,sI a),(141,sB o)],[jI c,jI d,jB g,jB e,some ⟨q4,(List.map rZf f)⟩],[some [.ro q3 (h.map rZa),.ro q5 (i.map rZb),cI j,cR 1 d,cR 2 g,cI k,cR 3 e,cI l,cI m,cI n,cR 4 f]]⟩
def K_Ih_69:List Fr:=[]
def s_Ih_69 (e:LZ) (f:LZa) (g h i j k:Int) (a:LI) (b c:LB) (d:LZc):St:=
 ⟨mkSl 158 [(0,sP 0 0)],[jI a,jB b,jB c,some ⟨q4,(List.map rZf d)⟩],[some [.ro q3 (e.map rZa),.ro q5 (f.map rZb),cI g,cR 0 a,cR 1 b,cI h,cR 2 c,cI i,cI j,cI k,cR 3 d]]⟩
def K_Ih_49:List Fr:=[.lp [0,4,100,101,102] c_Ih_49,.bk 4,.sq (.kp [0] c_Ih_69)]
def s_Ih_49 (p0:Zh) (a:LI) (g:Int) (h:LZ) (i:LZa) (j k l m n:Int) (c:LI) (d e:LB) (f:LZc):St:=
 ⟨mkSl 158 [(0,sP 0 0),(4,.v false [cR 0 a]),(100,.v false [.ro q5 (p0.b.packets.map rZb)]),(101,sI (p0.b.packets.length:Int)),(102,sI g)],[jI a,jI c,jB d,jB e,some ⟨q4,(List.map rZf f)⟩],[some [.ro q3 (h.map rZa),.ro q5 (i.map rZb),cI j,cR 1 c,cR 2 d,cI k,cR 3 e,cI l,cI m,cI n,cR 4 f]]⟩
def K_Ih_44:List Fr:=[]
def s_Ih_44 (p0:Zh) (d:Int) (a:LI) (c:LB):St:=
 ⟨mkSl 158 [(0,sP 0 0),(4,.v false [cR 0 a])],[jI a,jI p0.due,jB p0.gone,jB c,some ⟨q4,(List.map rZf p0.shows)⟩],[some [.ro q3 (p0.b.tracks.map rZa),.ro q5 (p0.b.packets.map rZb),cI p0.speed,cR 1 p0.due,cR 2 p0.gone,cI p0.next,cR 3 c,cI p0.wall,cI d,cI p0.busy,cR 4 p0.shows]]⟩
def K_Ih_9:List Fr:=[.lp [0,4,23,24] c_Ih_9,.bk 0,.sq (.kp [0,4] c_Ih_44)]
def s_Ih_9 (p0:Zh) (d e f:Int) (a:LI) (c:LB):St:=
 ⟨mkSl 158 [(0,sP 0 0),(4,.v false [cR 0 a]),(23,sI d),(24,sI e)],[jI a,jI p0.due,jB p0.gone,jB c,some ⟨q4,(List.map rZf p0.shows)⟩],[some [.ro q3 (p0.b.tracks.map rZa),.ro q5 (p0.b.packets.map rZb),cI p0.speed,cR 1 p0.due,cR 2 p0.gone,cI p0.next,cR 3 c,cI p0.wall,cI f,cI p0.busy,cR 4 p0.shows]]⟩
def K_Ih_0:List Fr:=[]
def s_Ih_0 (p1:Int) (p0:Zh):St:=
 ⟨mkSl 158 [(0,sP 0 0),(1,sI p1)],[jI p0.due,jB p0.gone,jB p0.dropping,some ⟨q4,(List.map rZf p0.shows)⟩],[some [.ro q3 (p0.b.tracks.map rZa),.ro q5 (p0.b.packets.map rZb),cI p0.speed,cR 0 p0.due,cR 1 p0.gone,cI p0.next,cR 2 p0.dropping,cI p0.wall,cI p0.clock,cI p0.busy,cR 3 p0.shows]]⟩
def K_Ii_49:List Fr:=[.bk 1,.lp [0] c_Ii_2,.bk 0]
def s_Ii_49 (e:LZ) (f:LZa) (g h i j k:Int) (a:LI) (b c:LB) (d:LZc):St:=
 ⟨mkSl 153 [(0,sP 0 0)],[jI a,jB b,jB c,some ⟨q4,(List.map rZf d)⟩],[some [.ro q3 (e.map rZa),.ro q5 (f.map rZb),cI g,cR 0 a,cR 1 b,cI h,cR 2 c,cI i,cI j,cI k,cR 3 d]]⟩
def K_Ii_47:List Fr:=[.sq (.kp [0] c_Ii_49),.bk 1,.lp [0] c_Ii_2,.bk 0]
def s_Ii_47 (f:Int) (a:Zb) (g:LZ) (h:LZa) (i j k l m:Int) (b:LI) (c d:LB) (e:LZc):St:=
 ⟨mkSl 153 [(0,sP 0 0),(2,sI f),(3,sP 1 0)],[jI b,jB c,jB d,some ⟨q4,(List.map rZf e)⟩],[some [.ro q3 (g.map rZa),.ro q5 (h.map rZb),cI i,cR 0 b,cR 1 c,cI j,cR 2 d,cI k,cI l,cI m,cR 3 e],some [cI a.track,cI a.time,cI a.span,cB a.key,.ro [.sc] (a.data.map (rI .u8))]]⟩
def K_Ii_41:List Fr:=[.sq (.kp [0] c_Ii_49),.bk 1,.lp [0] c_Ii_2,.bk 0]
def s_Ii_41 (e:Int) (a:Int×Zh) (c:Zb) (d:LB):St:=
 ⟨mkSl 153 [(0,sP 0 0),(2,sI e),(3,sP 1 0)],[jI a.2.due,jB a.2.gone,jB d,some ⟨q4,(List.map rZf a.2.shows)⟩],[some [.ro q3 (a.2.b.tracks.map rZa),.ro q5 (a.2.b.packets.map rZb),cI a.2.speed,cR 0 a.2.due,cR 1 a.2.gone,cI a.2.next,cR 2 d,cI a.2.wall,cI a.2.clock,cI a.2.busy,cR 3 a.2.shows],some [cI c.track,cI c.time,cI c.span,cB c.key,.ro [.sc] (c.data.map (rI .u8))]]⟩
def K_Ii_38:List Fr:=[.sq (.kp [0,2,3] c_Ii_41),.sq (.kp [0] c_Ii_49),.bk 1,.lp [0] c_Ii_2,.bk 0]
def s_Ii_38 (d:Int) (a:Int×Zh) (c:Zb) (e:Bool):St:=
 ⟨mkSl 153 [(0,sP 0 0),(2,sI d),(3,sP 1 0),(95,sB e)],[jI a.2.due,jB a.2.gone,jB a.2.dropping,some ⟨q4,(List.map rZf a.2.shows)⟩],[some [.ro q3 (a.2.b.tracks.map rZa),.ro q5 (a.2.b.packets.map rZb),cI a.2.speed,cR 0 a.2.due,cR 1 a.2.gone,cI a.2.next,cR 2 a.2.dropping,cI a.2.wall,cI a.2.clock,cI a.2.busy,cR 3 a.2.shows],some [cI c.track,cI c.time,cI c.span,cB c.key,.ro [.sc] (c.data.map (rI .u8))]]⟩
def K_Ii_31:List Fr:=[.sq (.kp [0] c_Ii_49),.bk 1,.lp [0] c_Ii_2,.bk 0]
def s_Ii_31 (b:Int) (g:LZ) (h:LZa) (i j k l:Int) (a:Zb) (c:LI) (d:LZc) (e f:LB):St:=
 ⟨mkSl 153 [(0,sP 0 0),(2,sI b),(3,sP 1 0)],[jI c,jB e,jB f,some ⟨q4,(List.map rZf d)⟩],[some [.ro q3 (g.map rZa),.ro q5 (h.map rZb),cI i,cR 0 c,cR 1 e,cI b,cR 2 f,cI j,cI k,cI l,cR 3 d],some [cI a.track,cI a.time,cI a.span,cB a.key,.ro [.sc] (a.data.map (rI .u8))]]⟩
def K_Ii_2:List Fr:=[.lp [0] c_Ii_2,.bk 0]
def s_Ii_2 (e:LZ) (f:LZa) (g h i j k:Int) (a:LI) (b c:LB) (d:LZc):St:=
 ⟨mkSl 153 [(0,sP 0 0)],[jI a,jB b,jB c,some ⟨q4,(List.map rZf d)⟩],[some [.ro q3 (e.map rZa),.ro q5 (f.map rZb),cI g,cR 0 a,cR 1 b,cI h,cR 2 c,cI i,cI j,cI k,cR 3 d]]⟩
def K_Ii_0:List Fr:=[]
def s_Ii_0 (p0:Zh):St:=
 ⟨mkSl 153 [(0,sP 0 0)],[jI p0.due,jB p0.gone,jB p0.dropping,some ⟨q4,(List.map rZf p0.shows)⟩],[some [.ro q3 (p0.b.tracks.map rZa),.ro q5 (p0.b.packets.map rZb),cI p0.speed,cR 0 p0.due,cR 1 p0.gone,cI p0.next,cR 2 p0.dropping,cI p0.wall,cI p0.clock,cI p0.busy,cR 3 p0.shows]]⟩
def K_Ib_120:List Fr:=[.lp [6,10,12,13,74,75,76] c_Ib_61,.bk 4,.sq (.kp [6,10] c_Ib_121)]
def s_Ib_120 (p2:LZb) (e f:Int) (g:Bool) (h:LZ) (i:LZa) (j k l m n:Int) (a:LI) (b c:LB) (d:LZc):St:=
 ⟨mkSl 149 [(6,sP 0 0),(10,sP 1 0),(12,sI f),(13,sB g),(74,.v false [.ro [.sc,.sc] (p2.map rZc)]),(75,sI (p2.length:Int)),(76,sI e)],[some ⟨q4,(List.map rZf ([]:LZc))⟩,jI a,jB b,jB c,some ⟨q4,(List.map rZf d)⟩],[some [cI 0,.ref 0 [] 0 (([]:LZc).length),cI 0,cI 0],some [.ro q3 (h.map rZa),.ro q5 (i.map rZb),cI j,cR 1 a,cR 2 b,cI k,cR 3 c,cI l,cI m,cI n,cR 4 d]]⟩
def K_Ib_105:List Fr:=[.lp [6,10,12,13,74,75,76,112,113] c_Ib_105,.bk 7,.bk 6,.bk 5,.sq (.kp [6,10,12,13,74,75,76] c_Ib_120),.lp [6,10,12,13,74,75,76] c_Ib_61,.bk 4,.sq (.kp [6,10] c_Ib_121)]
def s_Ib_105 (e:Int) (f:Bool) (p2:LZb) (g:Int) (h:Zc) (i:Int) (j:LZ) (k:LZa) (l m n o p:Int) (a:LI) (b c:LB) (d:LZc):St:=
 ⟨mkSl 149 [(6,sP 0 0),(10,sP 1 0),(12,sI e),(13,sB f),(74,.v false [.ro [.sc,.sc] (p2.map rZc)]),(75,sI (p2.length:Int)),(76,sI g),(112,sI h.value),(113,sI i)],[some ⟨q4,(List.map rZf ([]:LZc))⟩,jI a,jB b,jB c,some ⟨q4,(List.map rZf d)⟩],[some [cI 0,.ref 0 [] 0 (([]:LZc).length),cI 0,cI 0],some [.ro q3 (j.map rZa),.ro q5 (k.map rZb),cI l,cR 1 a,cR 2 b,cI m,cR 3 c,cI n,cI o,cI p,cR 4 d]]⟩
def K_Ib_80:List Fr:=[.bk 6,.bk 5,.sq (.kp [6,10,12,13,74,75,76] c_Ib_120),.lp [6,10,12,13,74,75,76] c_Ib_61,.bk 4,.sq (.kp [6,10] c_Ib_121)]
def s_Ib_80 (f:Int) (g:Bool) (p2:LZb) (h:Int) (a:Zc) (i:LZ) (j:LZa) (k l m n o:Int) (b:LI) (c d:LB) (e:LZc) (p:Bool):St:=
 ⟨mkSl 149 [(6,sP 0 0),(10,sP 1 0),(12,sI f),(13,sB g),(15,sP 2 0),(74,.v false [.ro [.sc,.sc] (p2.map rZc)]),(75,sI (p2.length:Int)),(76,sI h),(81,sI a.kind),(82,sB p)],[some ⟨q4,(List.map rZf ([]:LZc))⟩,jI b,jB c,jB d,some ⟨q4,(List.map rZf e)⟩],[some [cI 0,.ref 0 [] 0 (([]:LZc).length),cI 0,cI 0],some [.ro q3 (i.map rZa),.ro q5 (j.map rZb),cI k,cR 1 b,cR 2 c,cI l,cR 3 d,cI m,cI n,cI o,cR 4 e],some [cI a.kind,cI a.value]]⟩
def K_Ib_121:List Fr:=[]
def s_Ib_121 (e:LZ) (f:LZa) (g h i j k:Int) (a:LI) (b c:LB) (d:LZc):St:=
 ⟨mkSl 149 [(6,sP 0 0),(10,sP 1 0)],[some ⟨q4,(List.map rZf ([]:LZc))⟩,jI a,jB b,jB c,some ⟨q4,(List.map rZf d)⟩],[some [cI 0,.ref 0 [] 0 (([]:LZc).length),cI 0,cI 0],some [.ro q3 (e.map rZa),.ro q5 (f.map rZb),cI g,cR 1 a,cR 2 b,cI h,cR 3 c,cI i,cI j,cI k,cR 4 d]]⟩
def K_Ib_61:List Fr:=[.lp [6,10,12,13,74,75,76] c_Ib_61,.bk 4,.sq (.kp [6,10] c_Ib_121)]
def s_Ib_61 (p2:LZb) (e:Int) (f:Bool) (g:Int) (h:LZ) (i:LZa) (j k l m n:Int) (a:LI) (b c:LB) (d:LZc):St:=
 ⟨mkSl 149 [(6,sP 0 0),(10,sP 1 0),(12,sI e),(13,sB f),(74,.v false [.ro [.sc,.sc] (p2.map rZc)]),(75,sI (p2.length:Int)),(76,sI g)],[some ⟨q4,(List.map rZf ([]:LZc))⟩,jI a,jB b,jB c,some ⟨q4,(List.map rZf d)⟩],[some [cI 0,.ref 0 [] 0 (([]:LZc).length),cI 0,cI 0],some [.ro q3 (h.map rZa),.ro q5 (i.map rZb),cI j,cR 1 a,cR 2 b,cI k,cR 3 c,cI l,cI m,cI n,cR 4 d]]⟩
def K_Ib_54:List Fr:=[]
def s_Ib_54 (p2:LZb) (p0:Ze) (p1:Int) (a:LI) (b c:LB):St:=
 ⟨mkSl 149 [(2,.v false [.ro [.sc,.sc] (p2.map rZc)]),(6,sP 0 0),(10,sP 1 0)],[some ⟨q4,(List.map rZf ([]:LZc))⟩,jI a,jB b,jB c],[some [cI 0,.ref 0 [] 0 (([]:LZc).length),cI 0,cI 0],some [.ro q3 (p0.tracks.map rZa),.ro q5 (p0.packets.map rZb),cI p1,cR 1 a,cR 2 b,cI 0,cR 3 c,cI 0,cI 0,cI 0,.lit (.slice none 0 0)]]⟩
def K_Ib_42:List Fr:=[.lp [2,3,6,10,57,58] c_Ib_42,.bk 2,.sq (.kp [2,6,10] c_Ib_54)]
def s_Ib_42 (p2:LZb) (p0:Ze) (p1 d:Int) (a:LI) (b c:LB):St:=
 ⟨mkSl 149 [(2,.v false [.ro [.sc,.sc] (p2.map rZc)]),(3,sP 0 0),(6,sP 1 0),(10,sP 2 0),(57,sI (p0.packets.length:Int)),(58,sI d)],[some ⟨q4,(List.map rZf ([]:LZc))⟩,jI a,jB b,jB c],[some [.ro q3 (p0.tracks.map rZa),.ro q5 (p0.packets.map rZb)],some [cI 0,.ref 0 [] 0 (([]:LZc).length),cI 0,cI 0],some [.ro q3 (p0.tracks.map rZa),.ro q5 (p0.packets.map rZb),cI p1,cR 1 a,cR 2 b,cI 0,cR 3 c,cI 0,cI 0,cI 0,.lit (.slice none 0 0)]]⟩
def K_Ib_33:List Fr:=[]
def s_Ib_33 (p1:Int) (p2:LZb) (p0:Ze):St:=
 ⟨mkSl 149 [(1,sI p1),(2,.v false [.ro [.sc,.sc] (p2.map rZc)]),(3,sP 0 0),(6,sP 1 0)],[some ⟨q4,(List.map rZf ([]:LZc))⟩],[some [.ro q3 (p0.tracks.map rZa),.ro q5 (p0.packets.map rZb)],some [cI 0,.ref 0 [] 0 (([]:LZc).length),cI 0,cI 0]]⟩
def K_Ib_15:List Fr:=[.lp [1,2,3,6,33,34,35] c_Ib_15,.bk 0,.sq (.kp [1,2,3,6] c_Ib_33)]
def s_Ib_15 (p1:Int) (p2:LZb) (p0:Ze) (a:Int):St:=
 ⟨mkSl 149 [(1,sI p1),(2,.v false [.ro [.sc,.sc] (p2.map rZc)]),(3,sP 0 0),(6,sP 1 0),(33,.v false [.ro [.sc,.sc] (p2.map rZc)]),(34,sI (p2.length:Int)),(35,sI a)],[some ⟨q4,(List.map rZf ([]:LZc))⟩],[some [.ro q3 (p0.tracks.map rZa),.ro q5 (p0.packets.map rZb)],some [cI 0,.ref 0 [] 0 (([]:LZc).length),cI 0,cI 0]]⟩
def K_Ib_5:List Fr:=[.sq c_Ib_10]
def s_Ib_5 (p1:Int) (p2:LZb) (p0:Ze) (a:Bool):St:=
 ⟨mkSl 149 [(1,sI p1),(2,.v false [.ro [.sc,.sc] (p2.map rZc)]),(3,sP 0 0),(6,sP 1 0),(31,sB a)],[some ⟨q4,(List.map rZf ([]:LZc))⟩],[some [.ro q3 (p0.tracks.map rZa),.ro q5 (p0.packets.map rZb)],some [cI 0,.ref 0 [] 0 (([]:LZc).length),cI 0,cI 0]]⟩
def K_Ib_0:List Fr:=[]
def s_Ib_0 (p0:Ze) (p1:Int) (p2:LZb):St:=
 ⟨mkSl 149 [(0,.v true [.ro q3 (p0.tracks.map rZa),.ro q5 (p0.packets.map rZb)]),(1,sI p1),(2,.v false [.ro [.sc,.sc] (p2.map rZc)])],[],[]⟩
def K_Se_23:List Fr:=[]
def s_Se_23:St:=
 ⟨mkSl 20 [],[],[]⟩
def K_Se_7:List Fr:=[.lp [0,3] c_Se_7,.bk 0,.sq (.kp [] c_Se_23)]
def s_Se_7 (p0:ByteArray) (a:Int):St:=
 ⟨mkSl 20 [(0,.v false [.lit (.string p0)]),(3,sI a)],[],[]⟩
def K_Se_0:List Fr:=[]
def s_Se_0 (p0:ByteArray):St:=
 ⟨mkSl 20 [(0,.v false [.lit (.string p0)])],[],[]⟩
def K_Sk_0:List Fr:=[]
def s_Sk_0 (p0:Za):St:=
 ⟨mkSl 32 [(0,.v true [cI p0.kind,cI p0.scale,.lit (.string p0.name)])],[],[]⟩
def K_Sl_25:List Fr:=[]
def s_Sl_25 (p0:LZ):St:=
 ⟨mkSl 23 [(0,.v false [.ro q3 (p0.map rZa)])],[],[]⟩
def K_Sl_7:List Fr:=[.lp [0,5,6,7] c_Sl_7,.bk 0,.sq (.kp [0] c_Sl_25)]
def s_Sl_7 (p0:LZ) (a:Int):St:=
 ⟨mkSl 23 [(0,.v false [.ro q3 (p0.map rZa)]),(5,.v false [.ro q3 (p0.map rZa)]),(6,sI (p0.length:Int)),(7,sI a)],[],[]⟩
def K_Sl_0:List Fr:=[]
def s_Sl_0 (p0:LZ):St:=
 ⟨mkSl 23 [(0,.v false [.ro q3 (p0.map rZa)])],[],[]⟩
def K_Sj_0:List Fr:=[]
def s_Sj_0 (p0:Int):St:=
 ⟨mkSl 9 [(0,sI p0)],[],[]⟩
def K_Si_62:List Fr:=[.bk 3,.sq c_Si_73,.lp [1,3,5,32,33,34] c_Si_36,.bk 2,.sq (.kp [] c_Si_74)]
def s_Si_62 (c:Int) (p0:Ze) (d:Int) (a:Zb) (b:LI):St:=
 ⟨mkSl 96 [(1,sP 0 0),(3,.v false [cR 0 b]),(5,sI c),(7,sP 1 0),(32,.v false [.ro q5 (p0.packets.map rZb)]),(33,sI (p0.packets.length:Int)),(34,sI d)],[jI b],[some [.ro q3 (p0.tracks.map rZa),.ro q5 (p0.packets.map rZb)],some [cI a.track,cI a.time,cI a.span,cB a.key,.ro [.sc] (a.data.map (rI .u8))]]⟩
def K_Si_74:List Fr:=[]
def s_Si_74:St:=
 ⟨mkSl 96 [],[],[]⟩
def K_Si_36:List Fr:=[.lp [1,3,5,32,33,34] c_Si_36,.bk 2,.sq (.kp [] c_Si_74)]
def s_Si_36 (p0:Ze) (b c:Int) (a:LI):St:=
 ⟨mkSl 96 [(1,sP 0 0),(3,.v false [cR 0 a]),(5,sI b),(32,.v false [.ro q5 (p0.packets.map rZb)]),(33,sI (p0.packets.length:Int)),(34,sI c)],[jI a],[some [.ro q3 (p0.tracks.map rZa),.ro q5 (p0.packets.map rZb)]]⟩
def K_Si_29:List Fr:=[]
def s_Si_29 (p0:Ze) (a:LI):St:=
 ⟨mkSl 96 [(1,sP 0 0),(3,.v false [cR 0 a])],[jI a],[some [.ro q3 (p0.tracks.map rZa),.ro q5 (p0.packets.map rZb)]]⟩
def K_Si_17:List Fr:=[.lp [1,3,23,24] c_Si_17,.bk 0,.sq (.kp [1,3] c_Si_29)]
def s_Si_17 (p0:Ze) (b c:Int) (a:LI):St:=
 ⟨mkSl 96 [(1,sP 0 0),(3,.v false [cR 0 a]),(23,sI b),(24,sI c)],[jI a],[some [.ro q3 (p0.tracks.map rZa),.ro q5 (p0.packets.map rZb)]]⟩
def K_Si_0:List Fr:=[]
def s_Si_0 (p0:Ze):St:=
 ⟨mkSl 96 [(0,.v true [.ro q3 (p0.tracks.map rZa),.ro q5 (p0.packets.map rZb)])],[],[]⟩
def K_Sc_31:List Fr:=[]
def s_Sc_31:St:=
 ⟨mkSl 20 [],[],[]⟩
def K_Sc_15:List Fr:=[.lp [1,3] c_Sc_15,.bk 0,.sq (.kp [] c_Sc_31)]
def s_Sc_15 (p0:Ze) (a:Int):St:=
 ⟨mkSl 20 [(1,sP 0 0),(3,sI a)],[],[some [.ro q3 (p0.tracks.map rZa),.ro q5 (p0.packets.map rZb)]]⟩
def K_Sc_0:List Fr:=[]
def s_Sc_0 (p0:Ze):St:=
 ⟨mkSl 20 [(0,.v true [.ro q3 (p0.tracks.map rZa),.ro q5 (p0.packets.map rZb)])],[],[]⟩
def K_Sn_12:List Fr:=[.bk 0,.sq c_Sn_35]
def s_Sn_12 (p0:Zc) (a:Bool):St:=
 ⟨mkSl 41 [(1,sP 0 0),(4,sI p0.kind),(5,sB a)],[],[some [cI p0.kind,cI p0.value]]⟩
def K_Sn_0:List Fr:=[]
def s_Sn_0 (p0:Zc):St:=
 ⟨mkSl 41 [(0,.v true [cI p0.kind,cI p0.value])],[],[]⟩
def K_So_0:List Fr:=[]
def s_So_0 (p0:Ze) (p1:Int):St:=
 ⟨mkSl 22 [(0,.v true [.ro q3 (p0.tracks.map rZa),.ro q5 (p0.packets.map rZb)]),(1,sI p1)],[],[]⟩
def K_Sr_18:List Fr:=[.bk 1,.sq c_Sr_21,.lp [0,10,11] c_Sr_6,.bk 0]
def s_Sr_18 (a:Int) (p0:Zi) (c:Int) (d:Bool):St:=
 ⟨mkSl 54 [(0,sP 0 0),(2,sI a),(10,sI (p0.due.length:Int)),(11,sI a),(42,sB d)],[jI p0.due,jB p0.gone,jB p0.drop,some ⟨q4,(List.map rZf p0.shows)⟩],[some [.ro q3 (p0.b.tracks.map rZa),.ro q5 (p0.b.packets.map rZb),cR 0 p0.due,cI p0.speed,cI p0.wall,cI p0.clock,cI p0.pace,cB p0.playing,cI p0.busy,cR 1 p0.gone,cI p0.left,cI c,cR 2 p0.drop,cR 3 p0.shows]]⟩
def K_Sr_6:List Fr:=[.lp [0,10,11] c_Sr_6,.bk 0]
def s_Sr_6 (p0:Zi) (a c:Int):St:=
 ⟨mkSl 54 [(0,sP 0 0),(10,sI (p0.due.length:Int)),(11,sI a)],[jI p0.due,jB p0.gone,jB p0.drop,some ⟨q4,(List.map rZf p0.shows)⟩],[some [.ro q3 (p0.b.tracks.map rZa),.ro q5 (p0.b.packets.map rZb),cR 0 p0.due,cI p0.speed,cI p0.wall,cI p0.clock,cI p0.pace,cB p0.playing,cI p0.busy,cR 1 p0.gone,cI p0.left,cI c,cR 2 p0.drop,cR 3 p0.shows]]⟩
def K_Sr_0:List Fr:=[]
def s_Sr_0 (p0:Zi):St:=
 ⟨mkSl 54 [(0,sP 0 0)],[jI p0.due,jB p0.gone,jB p0.drop,some ⟨q4,(List.map rZf p0.shows)⟩],[some [.ro q3 (p0.b.tracks.map rZa),.ro q5 (p0.b.packets.map rZb),cR 0 p0.due,cI p0.speed,cI p0.wall,cI p0.clock,cI p0.pace,cB p0.playing,cI p0.busy,cR 1 p0.gone,cI p0.left,cI p0.soon,cR 2 p0.drop,cR 3 p0.shows]]⟩
def K_Sq_0:List Fr:=[]
def s_Sq_0 (p0:Zi):St:=
 ⟨mkSl 20 [(0,sP 0 0)],[jI p0.due,jB p0.gone,jB p0.drop,some ⟨q4,(List.map rZf p0.shows)⟩],[some [.ro q3 (p0.b.tracks.map rZa),.ro q5 (p0.b.packets.map rZb),cR 0 p0.due,cI p0.speed,cI p0.wall,cI p0.clock,cI p0.pace,cB p0.playing,cI p0.busy,cR 1 p0.gone,cI p0.left,cI p0.soon,cR 2 p0.drop,cR 3 p0.shows]]⟩
def K_Sp_0:List Fr:=[]
def s_Sp_0 (p1:Int) (p0:Zi):St:=
 ⟨mkSl 21 [(0,sP 0 0),(1,sI p1)],[jI p0.due,jB p0.gone,jB p0.drop,some ⟨q4,(List.map rZf p0.shows)⟩],[some [.ro q3 (p0.b.tracks.map rZa),.ro q5 (p0.b.packets.map rZb),cR 0 p0.due,cI p0.speed,cI p0.wall,cI p0.clock,cI p0.pace,cB p0.playing,cI p0.busy,cR 1 p0.gone,cI p0.left,cI p0.soon,cR 2 p0.drop,cR 3 p0.shows]]⟩
def K_Ss_38:List Fr:=[.bk 3,.sq c_Ss_41,.lp [0,4,41,42,43] c_Ss_26,.bk 2,.sq (.kp [0,4] c_Ss_42)]
def s_Ss_38 (c:Int) (p0:Zi) (e:Int) (a:Zb) (d:LI) (f:Bool):St:=
 ⟨mkSl 183 [(0,sP 0 0),(4,.v false [cR 0 d]),(6,sI c),(7,sP 1 0),(41,.v false [.ro q5 (p0.b.packets.map rZb)]),(42,sI (p0.b.packets.length:Int)),(43,sI c),(90,sB f)],[jI d,jI p0.due,jB p0.gone,jB p0.drop,some ⟨q4,(List.map rZf p0.shows)⟩],[some [.ro q3 (p0.b.tracks.map rZa),.ro q5 (p0.b.packets.map rZb),cR 1 p0.due,cI p0.speed,cI p0.wall,cI e,cI p0.pace,cB p0.playing,cI p0.busy,cR 2 p0.gone,cI p0.left,cI p0.soon,cR 3 p0.drop,cR 4 p0.shows],some [cI a.track,cI a.time,cI a.span,cB a.key,.ro [.sc] (a.data.map (rI .u8))]]⟩
def K_Ss_78:List Fr:=[.bk 7,.sq c_Ss_81,.lp [0,4,116,117,118] c_Ss_64,.bk 6,.sq (.kp [0] c_Ss_82)]
def s_Ss_78 (a:Int) (p0:Zi) (h:LZ) (i:LZa) (j k l m:Int) (n:Bool) (o p q:Int) (c d:LI) (e f:LB) (g:LZc) (r:Bool):St:=
 ⟨mkSl 183 [(0,sP 0 0),(4,.v false [cR 0 c]),(9,sI a),(116,.v false [.ro q5 (p0.b.packets.map rZb)]),(117,sI (p0.b.packets.length:Int)),(118,sI a),(170,sB r)],[jI c,jI d,jB e,jB f,some ⟨q4,(List.map rZf g)⟩],[some [.ro q3 (h.map rZa),.ro q5 (i.map rZb),cR 1 d,cI j,cI k,cI l,cI m,cB n,cI o,cR 2 e,cI p,cI q,cR 3 f,cR 4 g]]⟩
def K_Ss_76:List Fr:=[.bk 7,.sq c_Ss_81,.lp [0,4,116,117,118] c_Ss_64,.bk 6,.sq (.kp [0] c_Ss_82)]
def s_Ss_76 (c:Int) (p0:Zi) (i:LZ) (j:LZa) (k l m n:Int) (o:Bool) (p q r:Int) (a:Zb) (d e:LI) (f:LB) (g:LZc) (h:LB):St:=
 ⟨mkSl 183 [(0,sP 0 0),(4,.v false [cR 0 d]),(9,sI c),(10,sP 1 0),(116,.v false [.ro q5 (p0.b.packets.map rZb)]),(117,sI (p0.b.packets.length:Int)),(118,sI c)],[jI d,jI e,jB h,jB f,some ⟨q4,(List.map rZf g)⟩],[some [.ro q3 (i.map rZa),.ro q5 (j.map rZb),cR 1 e,cI k,cI l,cI m,cI n,cB o,cI p,cR 2 h,cI q,cI r,cR 3 f,cR 4 g],some [cI a.track,cI a.time,cI a.span,cB a.key,.ro [.sc] (a.data.map (rI .u8))]]⟩
def K_Ss_82:List Fr:=[]
def s_Ss_82 (e:LZ) (f:LZa) (g h i j:Int) (k:Bool) (l m n:Int) (a:LI) (b c:LB) (d:LZc):St:=
 ⟨mkSl 183 [(0,sP 0 0)],[jI a,jB b,jB c,some ⟨q4,(List.map rZf d)⟩],[some [.ro q3 (e.map rZa),.ro q5 (f.map rZb),cR 0 a,cI g,cI h,cI i,cI j,cB k,cI l,cR 1 b,cI m,cI n,cR 2 c,cR 3 d]]⟩
def K_Ss_64:List Fr:=[.lp [0,4,116,117,118] c_Ss_64,.bk 6,.sq (.kp [0] c_Ss_82)]
def s_Ss_64 (p0:Zi) (a:LI) (g:Int) (h:LZ) (i:LZa) (j k l m:Int) (n:Bool) (o p q:Int) (c:LI) (d e:LB) (f:LZc):St:=
 ⟨mkSl 183 [(0,sP 0 0),(4,.v false [cR 0 a]),(116,.v false [.ro q5 (p0.b.packets.map rZb)]),(117,sI (p0.b.packets.length:Int)),(118,sI g)],[jI a,jI c,jB d,jB e,some ⟨q4,(List.map rZf f)⟩],[some [.ro q3 (h.map rZa),.ro q5 (i.map rZb),cR 1 c,cI j,cI k,cI l,cI m,cB n,cI o,cR 2 d,cI p,cI q,cR 3 e,cR 4 f]]⟩
def K_Ss_59:List Fr:=[]
def s_Ss_59 (p0:Zi) (d:Int) (a:LI) (c:LB):St:=
 ⟨mkSl 183 [(0,sP 0 0),(4,.v false [cR 0 a])],[jI a,jI p0.due,jB p0.gone,jB c,some ⟨q4,(List.map rZf p0.shows)⟩],[some [.ro q3 (p0.b.tracks.map rZa),.ro q5 (p0.b.packets.map rZb),cR 1 p0.due,cI p0.speed,cI p0.wall,cI d,cI p0.pace,cB p0.playing,cI p0.busy,cR 2 p0.gone,cI p0.left,cI p0.soon,cR 3 c,cR 4 p0.shows]]⟩
def K_Ss_47:List Fr:=[.lp [0,4,101,102] c_Ss_47,.bk 4,.sq (.kp [0,4] c_Ss_59)]
def s_Ss_47 (p0:Zi) (d:Int) (a:LI) (e:Int) (c:LB):St:=
 ⟨mkSl 183 [(0,sP 0 0),(4,.v false [cR 0 a]),(101,sI (p0.drop.length:Int)),(102,sI e)],[jI a,jI p0.due,jB p0.gone,jB c,some ⟨q4,(List.map rZf p0.shows)⟩],[some [.ro q3 (p0.b.tracks.map rZa),.ro q5 (p0.b.packets.map rZb),cR 1 p0.due,cI p0.speed,cI p0.wall,cI d,cI p0.pace,cB p0.playing,cI p0.busy,cR 2 p0.gone,cI p0.left,cI p0.soon,cR 3 c,cR 4 p0.shows]]⟩
def K_Ss_42:List Fr:=[]
def s_Ss_42 (p0:Zi) (c:Int) (a:LI):St:=
 ⟨mkSl 183 [(0,sP 0 0),(4,.v false [cR 0 a])],[jI a,jI p0.due,jB p0.gone,jB p0.drop,some ⟨q4,(List.map rZf p0.shows)⟩],[some [.ro q3 (p0.b.tracks.map rZa),.ro q5 (p0.b.packets.map rZb),cR 1 p0.due,cI p0.speed,cI p0.wall,cI c,cI p0.pace,cB p0.playing,cI p0.busy,cR 2 p0.gone,cI p0.left,cI p0.soon,cR 3 p0.drop,cR 4 p0.shows]]⟩
def K_Ss_26:List Fr:=[.lp [0,4,41,42,43] c_Ss_26,.bk 2,.sq (.kp [0,4] c_Ss_42)]
def s_Ss_26 (p0:Zi) (c d:Int) (a:LI):St:=
 ⟨mkSl 183 [(0,sP 0 0),(4,.v false [cR 0 a]),(41,.v false [.ro q5 (p0.b.packets.map rZb)]),(42,sI (p0.b.packets.length:Int)),(43,sI d)],[jI a,jI p0.due,jB p0.gone,jB p0.drop,some ⟨q4,(List.map rZf p0.shows)⟩],[some [.ro q3 (p0.b.tracks.map rZa),.ro q5 (p0.b.packets.map rZb),cR 1 p0.due,cI p0.speed,cI p0.wall,cI c,cI p0.pace,cB p0.playing,cI p0.busy,cR 2 p0.gone,cI p0.left,cI p0.soon,cR 3 p0.drop,cR 4 p0.shows]]⟩
def K_Ss_21:List Fr:=[]
def s_Ss_21 (p0:Zi) (c:Int) (a:LI):St:=
 ⟨mkSl 183 [(0,sP 0 0),(4,.v false [cR 0 a])],[jI a,jI p0.due,jB p0.gone,jB p0.drop,some ⟨q4,(List.map rZf p0.shows)⟩],[some [.ro q3 (p0.b.tracks.map rZa),.ro q5 (p0.b.packets.map rZb),cR 1 p0.due,cI p0.speed,cI p0.wall,cI c,cI p0.pace,cB p0.playing,cI p0.busy,cR 2 p0.gone,cI p0.left,cI p0.soon,cR 3 p0.drop,cR 4 p0.shows]]⟩
def K_Ss_9:List Fr:=[.lp [0,4,24,25] c_Ss_9,.bk 0,.sq (.kp [0,4] c_Ss_21)]
def s_Ss_9 (p0:Zi) (c d e:Int) (a:LI):St:=
 ⟨mkSl 183 [(0,sP 0 0),(4,.v false [cR 0 a]),(24,sI c),(25,sI d)],[jI a,jI p0.due,jB p0.gone,jB p0.drop,some ⟨q4,(List.map rZf p0.shows)⟩],[some [.ro q3 (p0.b.tracks.map rZa),.ro q5 (p0.b.packets.map rZb),cR 1 p0.due,cI p0.speed,cI p0.wall,cI e,cI p0.pace,cB p0.playing,cI p0.busy,cR 2 p0.gone,cI p0.left,cI p0.soon,cR 3 p0.drop,cR 4 p0.shows]]⟩
def K_Ss_0:List Fr:=[]
def s_Ss_0 (p1:Int) (p0:Zi):St:=
 ⟨mkSl 183 [(0,sP 0 0),(1,sI p1)],[jI p0.due,jB p0.gone,jB p0.drop,some ⟨q4,(List.map rZf p0.shows)⟩],[some [.ro q3 (p0.b.tracks.map rZa),.ro q5 (p0.b.packets.map rZb),cR 0 p0.due,cI p0.speed,cI p0.wall,cI p0.clock,cI p0.pace,cB p0.playing,cI p0.busy,cR 1 p0.gone,cI p0.left,cI p0.soon,cR 2 p0.drop,cR 3 p0.shows]]⟩
def K_St_24:List Fr:=[]
def s_St_24 (p1:Int) (a:Int×Zi) (c:Zb) (d:LB) (e:Int):St:=
 ⟨mkSl 108 [(0,sP 0 0),(1,sI p1),(4,sP 1 0)],[jI a.2.due,jB a.2.gone,jB d,some ⟨q4,(List.map rZf a.2.shows)⟩],[some [.ro q3 (a.2.b.tracks.map rZa),.ro q5 (a.2.b.packets.map rZb),cR 0 a.2.due,cI a.2.speed,cI a.2.wall,cI a.2.clock,cI a.2.pace,cB a.2.playing,cI e,cR 1 a.2.gone,cI a.2.left,cI a.2.soon,cR 2 d,cR 3 a.2.shows],some [cI c.track,cI c.time,cI c.span,cB c.key,.ro [.sc] (c.data.map (rI .u8))]]⟩
def K_St_18:List Fr:=[]
def s_St_18 (p1 e:Int) (a:Int×Zi) (c:Zb) (d:LB):St:=
 ⟨mkSl 108 [(0,sP 0 0),(1,sI p1),(4,sP 1 0),(6,sI e)],[jI a.2.due,jB a.2.gone,jB d,some ⟨q4,(List.map rZf a.2.shows)⟩],[some [.ro q3 (a.2.b.tracks.map rZa),.ro q5 (a.2.b.packets.map rZb),cR 0 a.2.due,cI a.2.speed,cI a.2.wall,cI a.2.clock,cI a.2.pace,cB a.2.playing,cI a.2.busy,cR 1 a.2.gone,cI a.2.left,cI a.2.soon,cR 2 d,cR 3 a.2.shows],some [cI c.track,cI c.time,cI c.span,cB c.key,.ro [.sc] (c.data.map (rI .u8))]]⟩
def K_St_15:List Fr:=[.sq (.kp [0,1,4,6] c_St_18)]
def s_St_15 (p1:Int) (a:Int×Zi) (c:Zb) (d:Int) (e:Bool):St:=
 ⟨mkSl 108 [(0,sP 0 0),(1,sI p1),(4,sP 1 0),(6,sI d),(59,sB e)],[jI a.2.due,jB a.2.gone,jB a.2.drop,some ⟨q4,(List.map rZf a.2.shows)⟩],[some [.ro q3 (a.2.b.tracks.map rZa),.ro q5 (a.2.b.packets.map rZb),cR 0 a.2.due,cI a.2.speed,cI a.2.wall,cI a.2.clock,cI a.2.pace,cB a.2.playing,cI a.2.busy,cR 1 a.2.gone,cI a.2.left,cI a.2.soon,cR 2 a.2.drop,cR 3 a.2.shows],some [cI c.track,cI c.time,cI c.span,cB c.key,.ro [.sc] (c.data.map (rI .u8))]]⟩
def K_St_10:List Fr:=[]
def s_St_10 (p1:Int) (d:Za) (p0:Zi) (a:Zb) (c:LB):St:=
 ⟨mkSl 108 [(0,sP 0 0),(1,sI p1),(4,sP 1 0),(5,sI d.kind)],[jI p0.due,jB p0.gone,jB c,some ⟨q4,(List.map rZf p0.shows)⟩],[some [.ro q3 (p0.b.tracks.map rZa),.ro q5 (p0.b.packets.map rZb),cR 0 p0.due,cI p0.speed,cI p0.wall,cI p0.clock,cI p0.pace,cB p0.playing,cI p0.busy,cR 1 p0.gone,cI p0.left,cI p0.soon,cR 2 c,cR 3 p0.shows],some [cI a.track,cI a.time,cI a.span,cB a.key,.ro [.sc] (a.data.map (rI .u8))]]⟩
def K_St_0:List Fr:=[]
def s_St_0 (p1:Int) (p0:Zi):St:=
 ⟨mkSl 108 [(0,sP 0 0),(1,sI p1)],[jI p0.due,jB p0.gone,jB p0.drop,some ⟨q4,(List.map rZf p0.shows)⟩],[some [.ro q3 (p0.b.tracks.map rZa),.ro q5 (p0.b.packets.map rZb),cR 0 p0.due,cI p0.speed,cI p0.wall,cI p0.clock,cI p0.pace,cB p0.playing,cI p0.busy,cR 1 p0.gone,cI p0.left,cI p0.soon,cR 2 p0.drop,cR 3 p0.shows]]⟩
def K_Su_33:List Fr:=[.bk 1,.sq c_Su_38,.lp [0,47,48] c_Su_21,.bk 0,.sq (.kp [0] c_Su_39)]
def s_Su_33 (a:Int) (p0:Zi) (f:LZ) (g:LZa) (h i j k:Int) (l:Bool) (m n o:Int) (b:LI) (c d:LB) (e:LZc) (p:Bool):St:=
 ⟨mkSl 85 [(0,sP 0 0),(2,sI a),(47,sI (p0.due.length:Int)),(48,sI a),(72,sB p)],[jI b,jB c,jB d,some ⟨q4,(List.map rZf e)⟩],[some [.ro q3 (f.map rZa),.ro q5 (g.map rZb),cR 0 b,cI h,cI i,cI j,cI k,cB l,cI m,cR 1 c,cI n,cI o,cR 2 d,cR 3 e]]⟩
def K_Su_39:List Fr:=[]
def s_Su_39 (e:LZ) (f:LZa) (g h i j:Int) (k:Bool) (l m n:Int) (a:LI) (b c:LB) (d:LZc):St:=
 ⟨mkSl 85 [(0,sP 0 0)],[jI a,jB b,jB c,some ⟨q4,(List.map rZf d)⟩],[some [.ro q3 (e.map rZa),.ro q5 (f.map rZb),cR 0 a,cI g,cI h,cI i,cI j,cB k,cI l,cR 1 b,cI m,cI n,cR 2 c,cR 3 d]]⟩
def K_Su_21:List Fr:=[.lp [0,47,48] c_Su_21,.bk 0,.sq (.kp [0] c_Su_39)]
def s_Su_21 (p0:Zi) (e:Int) (f:LZ) (g:LZa) (h i j k:Int) (l:Bool) (m n o:Int) (a:LI) (b c:LB) (d:LZc):St:=
 ⟨mkSl 85 [(0,sP 0 0),(47,sI (p0.due.length:Int)),(48,sI e)],[jI a,jB b,jB c,some ⟨q4,(List.map rZf d)⟩],[some [.ro q3 (f.map rZa),.ro q5 (g.map rZb),cR 0 a,cI h,cI i,cI j,cI k,cB l,cI m,cR 1 b,cI n,cI o,cR 2 c,cR 3 d]]⟩
def K_Su_0:List Fr:=[]
def s_Su_0 (p0:Zi):St:=
 ⟨mkSl 85 [(0,sP 0 0)],[jI p0.due,jB p0.gone,jB p0.drop,some ⟨q4,(List.map rZf p0.shows)⟩],[some [.ro q3 (p0.b.tracks.map rZa),.ro q5 (p0.b.packets.map rZb),cR 0 p0.due,cI p0.speed,cI p0.wall,cI p0.clock,cI p0.pace,cB p0.playing,cI p0.busy,cR 1 p0.gone,cI p0.left,cI p0.soon,cR 2 p0.drop,cR 3 p0.shows]]⟩
def K_Sd_102:List Fr:=[.lp [6,9,75,76,77] c_Sd_59,.bk 4,.sq (.kp [6,9] c_Sd_103)]
def s_Sd_102 (p2:LZb) (e:Int) (f:LZ) (g:LZa) (h i j k:Int) (l:Bool) (m n o:Int) (a:LI) (b c:LB) (d:LZc):St:=
 ⟨mkSl 129 [(6,sP 0 0),(9,sP 1 0),(75,.v false [.ro [.sc,.sc] (p2.map rZc)]),(76,sI (p2.length:Int)),(77,sI e)],[some ⟨q4,(List.map rZf ([]:LZc))⟩,jI a,jB b,jB c,some ⟨q4,(List.map rZf d)⟩],[some [cI 0,.ref 0 [] 0 (([]:LZc).length),cI 0,cI 0],some [.ro q3 (f.map rZa),.ro q5 (g.map rZb),cR 1 a,cI h,cI i,cI j,cI k,cB l,cI m,cR 2 b,cI n,cI o,cR 3 c,cR 4 d]]⟩
def K_Sd_92:List Fr:=[.lp [6,9,12,13,75,76,77] c_Sd_92,.bk 7,.bk 6,.bk 5,.sq (.kp [6,9,75,76,77] c_Sd_102),.lp [6,9,75,76,77] c_Sd_59,.bk 4,.sq (.kp [6,9] c_Sd_103)]
def s_Sd_92 (p2:LZb) (f:Int) (a:Zc) (g:Int) (h:LZ) (i:LZa) (j k l m:Int) (n:Bool) (o p q:Int) (b:LI) (c d:LB) (e:LZc):St:=
 ⟨mkSl 129 [(6,sP 0 0),(9,sP 1 0),(12,sP 2 0),(13,sI g),(75,.v false [.ro [.sc,.sc] (p2.map rZc)]),(76,sI (p2.length:Int)),(77,sI f)],[some ⟨q4,(List.map rZf ([]:LZc))⟩,jI b,jB c,jB d,some ⟨q4,(List.map rZf e)⟩],[some [cI 0,.ref 0 [] 0 (([]:LZc).length),cI 0,cI 0],some [.ro q3 (h.map rZa),.ro q5 (i.map rZb),cR 1 b,cI j,cI k,cI l,cI m,cB n,cI o,cR 2 c,cI p,cI q,cR 3 d,cR 4 e],some [cI a.kind,cI a.value]]⟩
def K_Sd_103:List Fr:=[]
def s_Sd_103 (e:LZ) (f:LZa) (g h i j:Int) (k:Bool) (l m n:Int) (a:LI) (b c:LB) (d:LZc):St:=
 ⟨mkSl 129 [(6,sP 0 0),(9,sP 1 0)],[some ⟨q4,(List.map rZf ([]:LZc))⟩,jI a,jB b,jB c,some ⟨q4,(List.map rZf d)⟩],[some [cI 0,.ref 0 [] 0 (([]:LZc).length),cI 0,cI 0],some [.ro q3 (e.map rZa),.ro q5 (f.map rZb),cR 1 a,cI g,cI h,cI i,cI j,cB k,cI l,cR 2 b,cI m,cI n,cR 3 c,cR 4 d]]⟩
def K_Sd_59:List Fr:=[.lp [6,9,75,76,77] c_Sd_59,.bk 4,.sq (.kp [6,9] c_Sd_103)]
def s_Sd_59 (p2:LZb) (e:Int) (f:LZ) (g:LZa) (h i j k:Int) (l:Bool) (m n o:Int) (a:LI) (b c:LB) (d:LZc):St:=
 ⟨mkSl 129 [(6,sP 0 0),(9,sP 1 0),(75,.v false [.ro [.sc,.sc] (p2.map rZc)]),(76,sI (p2.length:Int)),(77,sI e)],[some ⟨q4,(List.map rZf ([]:LZc))⟩,jI a,jB b,jB c,some ⟨q4,(List.map rZf d)⟩],[some [cI 0,.ref 0 [] 0 (([]:LZc).length),cI 0,cI 0],some [.ro q3 (f.map rZa),.ro q5 (g.map rZb),cR 1 a,cI h,cI i,cI j,cI k,cB l,cI m,cR 2 b,cI n,cI o,cR 3 c,cR 4 d]]⟩
def K_Sd_52:List Fr:=[]
def s_Sd_52 (p2:LZb) (p0:Ze) (p1:Int) (a:LI) (b c:LB):St:=
 ⟨mkSl 129 [(2,.v false [.ro [.sc,.sc] (p2.map rZc)]),(6,sP 0 0),(9,sP 1 0)],[some ⟨q4,(List.map rZf ([]:LZc))⟩,jI a,jB b,jB c],[some [cI 0,.ref 0 [] 0 (([]:LZc).length),cI 0,cI 0],some [.ro q3 (p0.tracks.map rZa),.ro q5 (p0.packets.map rZb),cR 1 a,cI p1,cI 0,cI 0,cI 100,cB false,cI 0,cR 2 b,cI 0,cI 0,cR 3 c,.lit (.slice none 0 0)]]⟩
def K_Sd_40:List Fr:=[.lp [2,3,6,9,56,57] c_Sd_40,.bk 2,.sq (.kp [2,6,9] c_Sd_52)]
def s_Sd_40 (p2:LZb) (p0:Ze) (p1 d:Int) (a:LI) (b c:LB):St:=
 ⟨mkSl 129 [(2,.v false [.ro [.sc,.sc] (p2.map rZc)]),(3,sP 0 0),(6,sP 1 0),(9,sP 2 0),(56,sI (p0.packets.length:Int)),(57,sI d)],[some ⟨q4,(List.map rZf ([]:LZc))⟩,jI a,jB b,jB c],[some [.ro q3 (p0.tracks.map rZa),.ro q5 (p0.packets.map rZb)],some [cI 0,.ref 0 [] 0 (([]:LZc).length),cI 0,cI 0],some [.ro q3 (p0.tracks.map rZa),.ro q5 (p0.packets.map rZb),cR 1 a,cI p1,cI 0,cI 0,cI 100,cB false,cI 0,cR 2 b,cI 0,cI 0,cR 3 c,.lit (.slice none 0 0)]]⟩
def K_Sd_33:List Fr:=[]
def s_Sd_33 (p1:Int) (p2:LZb) (p0:Ze):St:=
 ⟨mkSl 129 [(1,sI p1),(2,.v false [.ro [.sc,.sc] (p2.map rZc)]),(3,sP 0 0),(6,sP 1 0)],[some ⟨q4,(List.map rZf ([]:LZc))⟩],[some [.ro q3 (p0.tracks.map rZa),.ro q5 (p0.packets.map rZb)],some [cI 0,.ref 0 [] 0 (([]:LZc).length),cI 0,cI 0]]⟩
def K_Sd_15:List Fr:=[.lp [1,2,3,6,31,32,33] c_Sd_15,.bk 0,.sq (.kp [1,2,3,6] c_Sd_33)]
def s_Sd_15 (p1:Int) (p2:LZb) (p0:Ze) (a:Int):St:=
 ⟨mkSl 129 [(1,sI p1),(2,.v false [.ro [.sc,.sc] (p2.map rZc)]),(3,sP 0 0),(6,sP 1 0),(31,.v false [.ro [.sc,.sc] (p2.map rZc)]),(32,sI (p2.length:Int)),(33,sI a)],[some ⟨q4,(List.map rZf ([]:LZc))⟩],[some [.ro q3 (p0.tracks.map rZa),.ro q5 (p0.packets.map rZb)],some [cI 0,.ref 0 [] 0 (([]:LZc).length),cI 0,cI 0]]⟩
def K_Sd_5:List Fr:=[.sq c_Sd_10]
def s_Sd_5 (p1:Int) (p2:LZb) (p0:Ze) (a:Bool):St:=
 ⟨mkSl 129 [(1,sI p1),(2,.v false [.ro [.sc,.sc] (p2.map rZc)]),(3,sP 0 0),(6,sP 1 0),(29,sB a)],[some ⟨q4,(List.map rZf ([]:LZc))⟩],[some [.ro q3 (p0.tracks.map rZa),.ro q5 (p0.packets.map rZb)],some [cI 0,.ref 0 [] 0 (([]:LZc).length),cI 0,cI 0]]⟩
def K_Sd_0:List Fr:=[]
def s_Sd_0 (p0:Ze) (p1:Int) (p2:LZb):St:=
 ⟨mkSl 129 [(0,.v true [.ro q3 (p0.tracks.map rZa),.ro q5 (p0.packets.map rZb)]),(1,sI p1),(2,.v false [.ro [.sc,.sc] (p2.map rZc)])],[],[]⟩
def K_Sb_0:List Fr:=[]
def s_Sb_0 (p0:Ze) (p1:Int):St:=
 ⟨mkSl 22 [(0,.v true [.ro q3 (p0.tracks.map rZa),.ro q5 (p0.packets.map rZb)]),(1,sI p1)],[],[]⟩
def K_laws_FnPlayer_92:List Fr:=[]
def s_laws_FnPlayer_92 (b:Int) (a:Zg):St:=
 ⟨mkSl 159 [(6,sP 0 0),(8,sI b)],[some ⟨q4,(List.map rZf a.shows)⟩],[some [cI a.err,cR 0 a.shows,cI a.wall,cI a.clock]]⟩
def K_laws_FnPlayer_62:List Fr:=[.lp [3,6,7,8,11,78,79,80] c_laws_FnPlayer_62,.bk 2,.sq (.kp [6,8] c_laws_FnPlayer_92)]
def s_laws_FnPlayer_62 (d:Int) (a b:Zg) (c:Ze×Int×LZb) (e f:Int):St:=
 ⟨mkSl 159 [(3,sP 0 0),(6,sP 1 0),(7,sP 2 0),(8,sI d),(11,sI e),(78,.v false [cR 0 a.shows]),(79,sI (a.shows.length:Int)),(80,sI f)],[some ⟨q4,(List.map rZf a.shows)⟩,some ⟨q3,(List.map rZa c.1.tracks)⟩,some ⟨q5,(List.map rZb c.1.packets)⟩,some ⟨q4,(List.map rZf b.shows)⟩],[some [cR 1 c.1.tracks,cR 2 c.1.packets],some [cI a.err,cR 0 a.shows,cI a.wall,cI a.clock],some [cI b.err,cR 3 b.shows,cI b.wall,cI b.clock]]⟩
def K_laws_FnPlayer_55:List Fr:=[]
def s_laws_FnPlayer_55 (a b:Zg) (c:Ze×Int×LZb) (d:Int):St:=
 ⟨mkSl 159 [(3,sP 0 0),(6,sP 1 0),(7,sP 2 0),(8,sI d)],[some ⟨q3,(List.map rZa c.1.tracks)⟩,some ⟨q5,(List.map rZb c.1.packets)⟩,some ⟨q4,(List.map rZf a.shows)⟩,some ⟨q4,(List.map rZf b.shows)⟩],[some [cR 0 c.1.tracks,cR 1 c.1.packets],some [cI a.err,cR 2 a.shows,cI a.wall,cI a.clock],some [cI b.err,cR 3 b.shows,cI b.wall,cI b.clock]]⟩
def K_laws_FnPlayer_39:List Fr:=[.lp [3,6,7,8,63,64,65] c_laws_FnPlayer_39,.bk 0,.sq (.kp [3,6,7,8] c_laws_FnPlayer_55)]
def s_laws_FnPlayer_39 (a:Ze×Int×LZb) (b c:Zg) (d e:Int):St:=
 ⟨mkSl 159 [(3,sP 0 0),(6,sP 1 0),(7,sP 2 0),(8,sI d),(63,.v false [cR 0 a.2.2]),(64,sI (a.2.2.length:Int)),(65,sI e)],[some ⟨[.sc,.sc],(List.map rZc a.2.2)⟩,some ⟨q3,(List.map rZa a.1.tracks)⟩,some ⟨q5,(List.map rZb a.1.packets)⟩,some ⟨q4,(List.map rZf b.shows)⟩,some ⟨q4,(List.map rZf c.shows)⟩],[some [cR 1 a.1.tracks,cR 2 a.1.packets],some [cI b.err,cR 3 b.shows,cI b.wall,cI b.clock],some [cI c.err,cR 4 c.shows,cI c.wall,cI c.clock]]⟩
def K_laws_FnPlayer_0:List Fr:=[]
def s_laws_FnPlayer_0 (p0:LI):St:=
 ⟨mkSl 159 [(0,.v false [.ro [.sc] (p0.map (rI .u8))])],[],[]⟩
theorem ok_Sz_10 (p0:Zd) (b:Int) (r:Int×Zd) (hm:m_Sz_10 p0 b=some r):EE c_Sz_10 K_Sz_10 (s_Sz_10 p0 b) (Post vf_Sz (res_Sz r)):=by
 obtain ⟨a,hm⟩|⟨a,hm⟩:=split_ite hm
 ·exact ge (wL (rI .u8) p0.code<|u1 a<|z0) (congrArg res_Sz (qj hm)) (by kernel_rfl)
 ·exact ge (wL (rI .u8) p0.code<|v1 a<|wP (by decide:(0:Int)≤40)<|z0) (congrArg res_Sz (qj hm)) (by kernel_rfl)
theorem ok_Sz_0 (p0:Zd) (r:Int×Zd) (hm:m_Sz_0 p0=some r):EE c_Sz_0 K_Sz_0 (s_Sz_0 p0) (Post vf_Sz (res_Sz r)):=by
 obtain ⟨a,hm⟩|⟨a,hm⟩:=split_ite hm
 ·obtain ⟨c,b,hm⟩:=bind_some hm
  exact gw (ok_Sz_10 _ _ r hm) (wL (rI .u8) p0.code<|u1 a<|wO (.row ((rI .u8) c))<|wP (rd_nn b)<|wP (at_row (rI .u8) (rd_get b))<|z0) (by kernel_rfl)
 ·exact gw (ok_Sz_10 _ _ r hm) (wL (rI .u8) p0.code<|v1 a<|z0) (by kernel_rfl)
theorem ok_Sz (p0:Zd) (r:Int×Zd) (hm:m_Sz p0=some r):Runs ext tbl 121 (as_Sz p0) (res_Sz r):=
 runs_of (vf:=vf_Sz) (by kernel_rfl) rfl (st:=(enter vf_Sz (as_Sz p0)).getD default) (by kernel_rfl) (go_on [] 1000 J0 (ok_Sz_0 p0 r hm) (by kernel_rfl))
theorem ok_Sbb_24 (p1 a:Int) (b:LI) (c d:Int) (r:Int×Zd) (hm:m_Sbb_24 p1 a b c d=some r):EE c_Sbb_24 K_Sbb_24 (s_Sbb_24 p1 a b c d) (Post vf_Sbb (res_Sbb r)):=by
 obtain ⟨f,e,hm⟩:=bind_some hm
 exact ge (wP (ck_p e)<|z0) (congrArg res_Sbb (qj hm)) (by kernel_rfl)
theorem ok_Sbb_18 (p1 e:Int) (a:LI) (b c:Int) (r:Int×Zd) (hm:m_Sbb_18 p1 e a b c=some r):EE c_Sbb_18 K_Sbb_18 (s_Sbb_18 p1 e a b c) (Post vf_Sbb (res_Sbb r)):=by
 obtain ⟨d,hm⟩|⟨d,hm⟩:=split_ite hm
 ·obtain ⟨f,g,hm⟩:=bind_some hm
  exact gw (ok_Sbb_24 _ _ _ _ _ r hm) (u1 d<|wO (.res (res_Sz f))<|wP (ok_Sz (Zd.mk a b c) f g)<|z0) (by kernel_rfl)
 ·exact gw (ok_Sbb_24 _ _ _ _ _ r hm) (v1 d<|z0) (by kernel_rfl)
theorem ok_Sbb_0 (p1:Int) (p0:Zd) (r:Int×Zd) (hm:m_Sbb_0 p1 p0=some r):EE c_Sbb_0 K_Sbb_0 (s_Sbb_0 p1 p0) (Post vf_Sbb (res_Sbb r)):=by
 obtain ⟨b,hm⟩|⟨b,hm⟩:=split_ite hm
 ·exact ge (u1 b<|z0) (congrArg res_Sbb (qj hm)) (by kernel_rfl)
 ·obtain ⟨a,d,hm⟩:=bind_some hm
  obtain ⟨c,hm⟩|⟨c,hm⟩:=split_ite hm
  ·obtain ⟨e,f,hm⟩:=bind_some hm
   exact gw (ok_Sbb_18 _ _ _ _ _ r hm) (v1 b<|wO (.res (res_Sz a))<|wP (ok_Sz p0 a d)<|u1 c<|wO (.res (res_Sz e))<|wP (ok_Sz a.2 e f)<|z0) (by kernel_rfl)
  ·exact gw (ok_Sbb_18 _ _ _ _ _ r hm) (v1 b<|wO (.res (res_Sz a))<|wP (ok_Sz p0 a d)<|v1 c<|z0) (by kernel_rfl)
theorem ok_Sbb (p0:Zd) (p1:Int) (r:Int×Zd) (hm:m_Sbb p0 p1=some r):Runs ext tbl 68 (as_Sbb p0 p1) (res_Sbb r):=
 runs_of (vf:=vf_Sbb) (by kernel_rfl) rfl (st:=(enter vf_Sbb (as_Sbb p0 p1)).getD default) (by kernel_rfl) (go_on [] 1000 J0 (ok_Sbb_0 p1 p0 r hm) (by kernel_rfl))
def O_Sbc_9 (Q:VX→St→Prop) (e:(LI×Int×Int×LI)):Prop:=EE c_Sbc_21 K_Sbc_21 (s_Sbc_21 e.1 e.2.1 e.2.2.1 e.2.2.2) Q
theorem ok_Sbc_21 (b:LI) (c d:Int) (a:LI) (r:LI×Zd) (hm:m_Sbc_21 b c d a=some r):EE c_Sbc_21 K_Sbc_21 (s_Sbc_21 b c d a) (Post vf_Sbc (res_Sbc r)):=by
 exact ge (wR (rI .u8) a<|z0) (congrArg res_Sbc (qj hm)) (by kernel_rfl)
theorem ok_Sbc_9 (i c:Int) (d:LI) (f g:Int) (a:LI) (y) (hm:m_Sbc_9 i c d f g a=some y) (Q)
  (hin:∀ s,y=.inl s→EE c_Sbc_9 K_Sbc_9 (s_Sbc_9 s.1 s.2.1 s.2.2.1 s.2.2.2.1 s.2.2.2.2.1 s.2.2.2.2.2) Q) (hout:∀ e,y=.inr e→O_Sbc_9 Q e):EE c_Sbc_9 K_Sbc_9 (s_Sbc_9 i c d f g a) Q:=by
 obtain ⟨h,hm⟩|⟨h,hm⟩:=split_ite hm
 ·obtain ⟨b,k,hm⟩:=bind_some hm
  obtain ⟨l,j,hm⟩:=bind_some hm
  exact gw (hin _ (qj hm).symm) (u1 h<|wO (.res (res_Sbb b))<|wO (.rows (List.map (rI .u8) (a.set (0+Int.toNat c) (wr .u8 (w64 (32+b.1))))))<|wO (zn ((a.set (0+Int.toNat c) (wr .u8 (w64 (32+b.1)))).length))<|wP (ok_Sbb (Zd.mk d f g) 95 b k)<|wP (rd_in rfl j)<|wP (put_ob (rI .u8) (wr .u8 (w64 (32+b.1))) 0 (.lit (.int .u8 (wr .u8 (w64 (32+b.1))))) (rd_get0 j) (by kernel_rfl) (by kernel_rfl))<|wP (lens a.length ((a.set (0+Int.toNat c) (wr .u8 (w64 (32+b.1)))).length) (set_len rfl))<|z0) (by kernel_rfl)
 ·refine gm c_Sbc_21 K_Sbc_21 (s_Sbc_21 d f g a) (v1 h<|wN a.length<|z0) ?_ (by kernel_rfl)
  exact hout (d,f,g,a) (qj hm).symm
theorem ok_Sbc_0 (p1:Int) (p0:Zd) (r:LI×Zd) (hm:m_Sbc_0 p1 p0=some r):EE c_Sbc_0 K_Sbc_0 (s_Sbc_0 p1 p0) (Post vf_Sbc (res_Sbc r)):=by
 obtain ⟨d,a,hm⟩:=bind_some hm
 refine gm c_Sbc_9 K_Sbc_9 (s_Sbc_9 ((Int.toNat p1):Int) 0 p0.code p0.at_ p0.seed (List.replicate (Int.toNat p1) (0:Int))) (wO (.rows (List.map (rI .u8) (List.replicate (Int.toNat p1) (0:Int))))<|wO (zn (Int.toNat p1))<|wO (zn ((List.replicate (Int.toNat p1) (0:Int)).length))<|wP (ck_p a)<|wP (rep_ob (rI .u8) (Int.toNat p1) (0:Int) [.lit (.int .u8 0)] (by kernel_rfl))<|wP (len_map (rI .u8) (show (Int.toNat p1)=(List.replicate (Int.toNat p1) (0:Int)).length from (rep_len (Int.toNat p1) (0:Int))))<|wP (lens (Int.toNat p1) ((List.replicate (Int.toNat p1) (0:Int)).length) (rep_len (Int.toNat p1) (0:Int)))<|z0) ?_ (by kernel_rfl)
 obtain ⟨e,he,hm⟩:=bind_some hm
 refine loop_rule (u:=.c c_Sbc_9) (K:=K_Sbc_9) (Q:=(Post vf_Sbc (res_Sbc r))) (b:=lp_Sbc_9) (We:=O_Sbc_9 (Post vf_Sbc (res_Sbc r))) (stJ:=fun s=>s_Sbc_9 s.1 s.2.1 s.2.2.1 s.2.2.2.1 s.2.2.2.2.1 s.2.2.2.2.2) (s:=(((Int.toNat p1):Int),0,p0.code,p0.at_,p0.seed,(List.replicate (Int.toNat p1) (0:Int)))) (fun s y hb hin hout=>ok_Sbc_9 s.1 s.2.1 s.2.2.1 s.2.2.2.1 s.2.2.2.2.1 s.2.2.2.2.2 y hb (Post vf_Sbc (res_Sbc r)) hin hout) he ?_
 show EE c_Sbc_21 K_Sbc_21 (s_Sbc_21 e.1 e.2.1 e.2.2.1 e.2.2.2) _
 exact ok_Sbc_21 e.1 e.2.1 e.2.2.1 e.2.2.2 r hm
theorem ok_Sbc (p0:Zd) (p1:Int) (r:LI×Zd) (hm:m_Sbc p0 p1=some r):Runs ext tbl 118 (as_Sbc p0 p1) (res_Sbc r):=
 runs_of (vf:=vf_Sbc) (by kernel_rfl) rfl (st:=(enter vf_Sbc (as_Sbc p0 p1)).getD default) (by kernel_rfl) (go_on [] 1000 J0 (ok_Sbc_0 p1 p0 r hm) (by kernel_rfl))
theorem ok_Sba_0 (p1:Int) (p0:Zd) (r:Bool×Zd) (hm:m_Sba_0 p1 p0=some r):EE c_Sba_0 K_Sba_0 (s_Sba_0 p1 p0) (Post vf_Sba (res_Sba r)):=by
 obtain ⟨a,b,hm⟩:=bind_some hm
 exact ge (wO (.res (res_Sbb a))<|wP (ok_Sbb p0 p1 a b)<|z0) (congrArg res_Sba (qj hm)) (by kernel_rfl)
theorem ok_Sba (p0:Zd) (p1:Int) (r:Bool×Zd) (hm:m_Sba p0 p1=some r):Runs ext tbl 65 (as_Sba p0 p1) (res_Sba r):=
 runs_of (vf:=vf_Sba) (by kernel_rfl) rfl (st:=(enter vf_Sba (as_Sba p0 p1)).getD default) (by kernel_rfl) (go_on [] 1000 J0 (ok_Sba_0 p1 p0 r hm) (by kernel_rfl))
def O_Sx_9 (Q:VX→St→Prop) (e:(LI×Int×Int×LI)):Prop:=EE c_Sx_21 K_Sx_21 (s_Sx_21 e.1 e.2.1 e.2.2.1 e.2.2.2) Q
theorem ok_Sx_21 (b:LI) (c d:Int) (a:LI) (r:LI×Zd) (hm:m_Sx_21 b c d a=some r):EE c_Sx_21 K_Sx_21 (s_Sx_21 b c d a) (Post vf_Sx (res_Sx r)):=by
 exact ge (wR (rI .u8) a<|z0) (congrArg res_Sx (qj hm)) (by kernel_rfl)
theorem ok_Sx_9 (i c:Int) (d:LI) (f g:Int) (a:LI) (y) (hm:m_Sx_9 i c d f g a=some y) (Q)
  (hin:∀ s,y=.inl s→EE c_Sx_9 K_Sx_9 (s_Sx_9 s.1 s.2.1 s.2.2.1 s.2.2.2.1 s.2.2.2.2.1 s.2.2.2.2.2) Q) (hout:∀ e,y=.inr e→O_Sx_9 Q e):EE c_Sx_9 K_Sx_9 (s_Sx_9 i c d f g a) Q:=by
 obtain ⟨h,hm⟩|⟨h,hm⟩:=split_ite hm
 ·obtain ⟨b,k,hm⟩:=bind_some hm
  obtain ⟨l,j,hm⟩:=bind_some hm
  exact gw (hin _ (qj hm).symm) (u1 h<|wO (.res (res_Sz b))<|wO (.rows (List.map (rI .u8) (a.set (0+Int.toNat c) (wr .u8 b.1))))<|wO (zn ((a.set (0+Int.toNat c) (wr .u8 b.1)).length))<|wP (ok_Sz (Zd.mk d f g) b k)<|wP (rd_in rfl j)<|wP (put_ob (rI .u8) (wr .u8 b.1) 0 (.lit (.int .u8 (wr .u8 b.1))) (rd_get0 j) (by kernel_rfl) (by kernel_rfl))<|wP (lens a.length ((a.set (0+Int.toNat c) (wr .u8 b.1)).length) (set_len rfl))<|z0) (by kernel_rfl)
 ·refine gm c_Sx_21 K_Sx_21 (s_Sx_21 d f g a) (v1 h<|wN a.length<|z0) ?_ (by kernel_rfl)
  exact hout (d,f,g,a) (qj hm).symm
theorem ok_Sx_0 (p1:Int) (p0:Zd) (r:LI×Zd) (hm:m_Sx_0 p1 p0=some r):EE c_Sx_0 K_Sx_0 (s_Sx_0 p1 p0) (Post vf_Sx (res_Sx r)):=by
 obtain ⟨d,a,hm⟩:=bind_some hm
 refine gm c_Sx_9 K_Sx_9 (s_Sx_9 ((Int.toNat p1):Int) 0 p0.code p0.at_ p0.seed (List.replicate (Int.toNat p1) (0:Int))) (wO (.rows (List.map (rI .u8) (List.replicate (Int.toNat p1) (0:Int))))<|wO (zn (Int.toNat p1))<|wO (zn ((List.replicate (Int.toNat p1) (0:Int)).length))<|wP (ck_p a)<|wP (rep_ob (rI .u8) (Int.toNat p1) (0:Int) [.lit (.int .u8 0)] (by kernel_rfl))<|wP (len_map (rI .u8) (show (Int.toNat p1)=(List.replicate (Int.toNat p1) (0:Int)).length from (rep_len (Int.toNat p1) (0:Int))))<|wP (lens (Int.toNat p1) ((List.replicate (Int.toNat p1) (0:Int)).length) (rep_len (Int.toNat p1) (0:Int)))<|z0) ?_ (by kernel_rfl)
 obtain ⟨e,he,hm⟩:=bind_some hm
 refine loop_rule (u:=.c c_Sx_9) (K:=K_Sx_9) (Q:=(Post vf_Sx (res_Sx r))) (b:=lp_Sx_9) (We:=O_Sx_9 (Post vf_Sx (res_Sx r))) (stJ:=fun s=>s_Sx_9 s.1 s.2.1 s.2.2.1 s.2.2.2.1 s.2.2.2.2.1 s.2.2.2.2.2) (s:=(((Int.toNat p1):Int),0,p0.code,p0.at_,p0.seed,(List.replicate (Int.toNat p1) (0:Int)))) (fun s y hb hin hout=>ok_Sx_9 s.1 s.2.1 s.2.2.1 s.2.2.2.1 s.2.2.2.2.1 s.2.2.2.2.2 y hb (Post vf_Sx (res_Sx r)) hin hout) he ?_
 show EE c_Sx_21 K_Sx_21 (s_Sx_21 e.1 e.2.1 e.2.2.1 e.2.2.2) _
 exact ok_Sx_21 e.1 e.2.1 e.2.2.1 e.2.2.2 r hm
theorem ok_Sx (p0:Zd) (p1:Int) (r:LI×Zd) (hm:m_Sx p0 p1=some r):Runs ext tbl 119 (as_Sx p0 p1) (res_Sx r):=
 runs_of (vf:=vf_Sx) (by kernel_rfl) rfl (st:=(enter vf_Sx (as_Sx p0 p1)).getD default) (by kernel_rfl) (go_on [] 1000 J0 (ok_Sx_0 p1 p0 r hm) (by kernel_rfl))
theorem ok_Sh_0 (p0:Ze) (p1 p2:Int) (r:Bool) (hm:m_Sh_0 p0 p1 p2=some r):EE c_Sh_0 K_Sh_0 (s_Sh_0 p0 p1 p2) (Post vf_Sh (res_Sh r)):=by
 obtain ⟨f,a,hm⟩:=bind_some hm
 obtain ⟨g,b,hm⟩:=bind_some hm
 obtain ⟨h,c,hm⟩:=bind_some hm
 obtain ⟨i,d,hm⟩:=bind_some hm
 obtain ⟨e,hm⟩|⟨e,hm⟩:=split_ite hm
 ·exact ge (wO (.row (rZb f))<|wO (.row (rZb g))<|wO (.row (rZa h))<|wO (.row (rZa i))<|wO zT<|wP (rd_nn a)<|wP (at_row rZb (rd_get a))<|wP (rd_nn b)<|wP (at_row rZb (rd_get b))<|wP (rd_nn c)<|wP (at_row rZa (rd_get c))<|wP (rd_nn d)<|wP (at_row rZa (rd_get d))<|wP e<|z0) (congrArg res_Sh (qj hm)) (by kernel_rfl)
 ·obtain ⟨j,hm⟩|⟨j,hm⟩:=split_ite hm
  ·exact ge (wO (.row (rZb f))<|wO (.row (rZb g))<|wO (.row (rZa h))<|wO (.row (rZa i))<|wO zF<|wO zT<|wP (rd_nn a)<|wP (at_row rZb (rd_get a))<|wP (rd_nn b)<|wP (at_row rZb (rd_get b))<|wP (rd_nn c)<|wP (at_row rZa (rd_get c))<|wP (rd_nn d)<|wP (at_row rZa (rd_get d))<|wP e<|wP j<|z0) (congrArg res_Sh (qj hm)) (by kernel_rfl)
  ·exact ge (wO (.row (rZb f))<|wO (.row (rZb g))<|wO (.row (rZa h))<|wO (.row (rZa i))<|wO zF<|wO zF<|wP (rd_nn a)<|wP (at_row rZb (rd_get a))<|wP (rd_nn b)<|wP (at_row rZb (rd_get b))<|wP (rd_nn c)<|wP (at_row rZa (rd_get c))<|wP (rd_nn d)<|wP (at_row rZa (rd_get d))<|wP e<|wP j<|z0) (congrArg res_Sh (qj hm)) (by kernel_rfl)
theorem ok_Sh (p0:Ze) (p1 p2:Int) (r:Bool) (hm:m_Sh p0 p1 p2=some r):Runs ext tbl 104 (as_Sh p0 p1 p2) (res_Sh r):=
 runs_of (vf:=vf_Sh) (by kernel_rfl) rfl (st:=(enter vf_Sh (as_Sh p0 p1 p2)).getD default) (by kernel_rfl) (go_on [] 1000 J0 (ok_Sh_0 p0 p1 p2 r hm) (by kernel_rfl))
theorem ok_Sf_0 (p0 r:Zb) (hm:m_Sf_0 p0=some r):EE c_Sf_0 K_Sf_0 (s_Sf_0 p0) (Post vf_Sf (res_Sf r)):=by
 obtain ⟨b,a,hm⟩:=bind_some hm
 exact ge (wO (.rows (List.map (rI .u8) (([]:LI)++p0.data)))<|wO (zn ((([]:LI)++p0.data).length))<|wO (.rows (List.map (rI .u8) (([]:LI)++p0.data)))<|wP (app_ck_ro (rI .u8) ([]:LI) p0.data rfl a)<|wP (app_tell_ro (rI .u8) ([]:LI) p0.data rfl)<|wP (len_map (rI .u8) (show (([]:LI)++p0.data).length=(([]:LI)++p0.data).length from rfl))<|wP (all_le0 (rI .u8) (([]:LI)++p0.data) rfl)<|wP (all_t (rI .u8) (([]:LI)++p0.data) rfl)<|z0) (congrArg res_Sf (qj hm)) (by kernel_rfl)
theorem ok_Sf (p0 r:Zb) (hm:m_Sf p0=some r):Runs ext tbl 144 (as_Sf p0) (res_Sf r):=
 runs_of (vf:=vf_Sf) (by kernel_rfl) rfl (st:=(enter vf_Sf (as_Sf p0)).getD default) (by kernel_rfl) (go_on [] 1000 J0 (ok_Sf_0 p0 r hm) (by kernel_rfl))
def O_Sm_42 (a:Int) (p0:Ze) (b:LZ) (Q:VX→St→Prop) (e:(LI)):Prop:=EE c_Sm_56 K_Sm_56 (s_Sm_56 a p0 b e) Q
def O_Sm_62 (a:LZ) (Q:VX→St→Prop) (e:(LZa)):Prop:=EE c_Sm_74 K_Sm_74 (s_Sm_74 a e) Q
def O_Sm_30 (p0:Ze) (a:LZ) (Q:VX→St→Prop) (e:(LI)):Prop:=EE c_Sm_57 K_Sm_57 (s_Sm_57 p0 a e) Q
def O_Sm_13 (p0:Ze) (Q:VX→St→Prop) (e:(LI×LZ)):Prop:=EE c_Sm_25 K_Sm_25 (s_Sm_25 p0 e.1 e.2) Q
theorem ok_Sm_56 (c:Int) (p0:Ze) (a:LZ) (b:LI) (y) (hm:m_Sm_56 c p0 a b=some y) (Q)
  (hin:∀ s,y=.inl s→EE c_Sm_30 K_Sm_30 (s_Sm_30 p0 a s.1 s.2) Q) (hout:∀ e,y=.inr e→O_Sm_30 p0 a Q e):EE c_Sm_56 K_Sm_56 (s_Sm_56 c p0 a b) Q:=by
 exact gw (hin _ (qj hm).symm) (wN b.length<|wO (zn (([]:LZ).length))<|wO (zn (([]:LZa).length))<|wP (lens (([]:LZ).length) (([]:LZ).length) rfl)<|wP (lens (([]:LZa).length) (([]:LZa).length) rfl)<|wN a.length<|wO (zn (([]:LZa).length))<|wP (lens (([]:LZa).length) (([]:LZa).length) rfl)<|z0) (by kernel_rfl)
theorem ok_Sm_42 (i:Int) (p0:Ze) (d:LZ) (g:Int) (b:LI) (y) (hm:m_Sm_42 i p0 d g b=some y) (Q)
  (hin:∀ s,y=.inl s→EE c_Sm_42 K_Sm_42 (s_Sm_42 i p0 d s.1 s.2) Q) (hout:∀ e,y=.inr e→O_Sm_42 i p0 d Q e):EE c_Sm_42 K_Sm_42 (s_Sm_42 i p0 d g b) Q:=by
 obtain ⟨a,hm⟩|⟨a,hm⟩:=split_ite hm
 ·obtain ⟨f,h,hm⟩:=bind_some hm
  obtain ⟨c,j,hm⟩:=bind_some hm
  obtain ⟨k,m,hm⟩:=bind_some hm
  obtain ⟨l,hm⟩|⟨l,hm⟩:=split_ite hm
  ·obtain ⟨o,n,hm⟩:=bind_some hm
   exact gw (hin _ (qj hm).symm) (u4 a<|wP (rd_in rfl h)<|u1 a<|wO (.row ((rI .i64) f))<|wP (at_row (rI .i64) (rd_get0 h))<|u4 a<|wP (rd_in rfl j)<|u1 a<|wO (.row ((rI .i64) c))<|wP (at_row (rI .i64) (rd_get0 j))<|u1 a<|wO (.res (res_Sh k))<|wP (ok_Sh p0 f c k m)<|u1 a<|u1 l<|wO (.row ((rI .i64) f))<|wO (.row ((rI .i64) c))<|wO (.rows (mi (b.set (0+Int.toNat g) c)))<|wO (.rows (mi ((b.set (0+Int.toNat g) c).set (0+Int.toNat (w64 (g - 1))) f)))<|wO (zn (((b.set (0+Int.toNat g) c).set (0+Int.toNat (w64 (g - 1))) f).length))<|wO (zn (([]:LZ).length))<|wO (zn (([]:LZa).length))<|wO (zn d.length)<|wO (zn (([]:LZa).length))<|wP (rd_in rfl h)<|wP (at_row (rI .i64) (rd_get0 h))<|wP (rd_in rfl j)<|wP (at_row (rI .i64) (rd_get0 j))<|wP (rd_in rfl h)<|wP (put_ob (rI .i64) c 0 (.lit (vI c)) (rd_get0 h) (by kernel_rfl) (by kernel_rfl))<|wP (rd_in (set_len rfl) n)<|wP (put_ob (rI .i64) f 0 (.lit (vI f)) (rd_get0 n) (by kernel_rfl) (by kernel_rfl))<|wP (lens b.length (((b.set (0+Int.toNat g) c).set (0+Int.toNat (w64 (g - 1))) f).length) (set_len (set_len rfl)))<|wP (lens (([]:LZ).length) (([]:LZ).length) rfl)<|wP (lens (([]:LZa).length) (([]:LZa).length) rfl)<|wP (ln d.length)<|wP (lens (([]:LZa).length) (([]:LZa).length) rfl)<|z0) (by kernel_rfl)
  ·refine gm c_Sm_56 K_Sm_56 (s_Sm_56 i p0 d b) (u4 a<|wP (rd_in rfl h)<|u1 a<|wO (.row ((rI .i64) f))<|wP (at_row (rI .i64) (rd_get0 h))<|u4 a<|wP (rd_in rfl j)<|u1 a<|wO (.row ((rI .i64) c))<|wP (at_row (rI .i64) (rd_get0 j))<|u1 a<|wO (.res (res_Sh k))<|wP (ok_Sh p0 f c k m)<|u1 a<|v1 l<|wN b.length<|wO (zn (([]:LZ).length))<|wO (zn (([]:LZa).length))<|wP (lens (([]:LZ).length) (([]:LZ).length) rfl)<|wP (lens (([]:LZa).length) (([]:LZa).length) rfl)<|wN d.length<|wO (zn (([]:LZa).length))<|wP (lens (([]:LZa).length) (([]:LZa).length) rfl)<|z0) ?_ (by kernel_rfl)
   exact hout b (qj hm).symm
 ·refine gm c_Sm_56 K_Sm_56 (s_Sm_56 i p0 d b) (v4 a<|v4 a<|v4 a<|v1 eF<|wN b.length<|wO (zn (([]:LZ).length))<|wO (zn (([]:LZa).length))<|wP (lens (([]:LZ).length) (([]:LZ).length) rfl)<|wP (lens (([]:LZa).length) (([]:LZa).length) rfl)<|wN d.length<|wO (zn (([]:LZa).length))<|wP (lens (([]:LZa).length) (([]:LZa).length) rfl)<|z0) ?_ (by kernel_rfl)
  exact hout b (qj hm).symm
theorem ok_Sm_74 (a:LZ) (b:LZa) (r:Ze) (hm:m_Sm_74 a b=some r):EE c_Sm_74 K_Sm_74 (s_Sm_74 a b) (Post vf_Sm (res_Sm r)):=by
 exact ge (wR rZa a<|wR rZb b<|z0) (congrArg res_Sm (qj hm)) (by kernel_rfl)
theorem ok_Sm_62 (d:LI) (p0:Ze) (c:LZ) (g:Int) (b:LZa) (y) (hm:m_Sm_62 d p0 c g b=some y) (Q)
  (hin:∀ s,y=.inl s→EE c_Sm_62 K_Sm_62 (s_Sm_62 d p0 c s.1 s.2) Q) (hout:∀ e,y=.inr e→O_Sm_62 c Q e):EE c_Sm_62 K_Sm_62 (s_Sm_62 d p0 c g b) Q:=by
 obtain ⟨f,hm⟩|⟨f,hm⟩:=split_ite hm
 ·obtain ⟨k,h,hm⟩:=bind_some hm
  obtain ⟨i,j,hm⟩:=bind_some hm
  obtain ⟨a,l,hm⟩:=bind_some hm
  obtain ⟨n,m,hm⟩:=bind_some hm
  exact gw (hin _ (qj hm).symm) (u1 f<|wO (.row ((rI .i64) k))<|wO (.row (rZb i))<|wO (.res (res_Sf a))<|wP (rd_in rfl h)<|wP (at_row (rI .i64) (rd_get0 h))<|wP (rd_nn j)<|wP (at_row rZb (rd_get j))<|wP (ok_Sf i a l)<|wL (rI .u8) a.data<|wR (rI .u8) a.data<|wO (.rows (List.map rZb ([a]:LZa)))<|wO (zn 1)<|wO (.rows (List.map rZb (b++([a]:LZa))))<|wO (zn ((b++([a]:LZa)).length))<|wO (zn d.length)<|wO (zn (([]:LZ).length))<|wO (zn (([]:LZa).length))<|wO (zn c.length)<|wO (zn ((b++([a]:LZa)).length))<|wP (Eq.refl (List.map rZb ([a]:LZa)))<|wP (len_map rZb (show 1=([a]:LZa).length from rfl))<|wP (all_eq rZb ([a]:LZa) rfl)<|wP (all_le rZb ([a]:LZa) rfl)<|wP (app_ck_ro rZb b ([a]:LZa) rfl m)<|wP (app_tell_ro rZb b ([a]:LZa) rfl)<|wP (len_map rZb (show (b++([a]:LZa)).length=(b++([a]:LZa)).length from rfl))<|wP (ln d.length)<|wP (lens (([]:LZ).length) (([]:LZ).length) rfl)<|wP (lens (([]:LZa).length) (([]:LZa).length) rfl)<|wP (ln c.length)<|wP (lens ((b++([a]:LZa)).length) ((b++([a]:LZa)).length) rfl)<|z0) (by kernel_rfl)
 ·refine gm c_Sm_74 K_Sm_74 (s_Sm_74 c b) (v1 f<|wO (zn (([]:LZ).length))<|wO (zn (([]:LZa).length))<|wP (lens (([]:LZ).length) (([]:LZ).length) rfl)<|wP (lens (([]:LZa).length) (([]:LZa).length) rfl)<|wN c.length<|wN b.length<|z0) ?_ (by kernel_rfl)
  exact hout b (qj hm).symm
theorem ok_Sm_57 (p0:Ze) (a:LZ) (d:LI) (r:Ze) (hm:m_Sm_57 p0 a d=some r):EE c_Sm_57 K_Sm_57 (s_Sm_57 p0 a d) (Post vf_Sm (res_Sm r)):=by
 refine gm c_Sm_62 K_Sm_62 (s_Sm_62 d p0 a 0 ([]:LZa)) (wN d.length<|wO (zn (([]:LZ).length))<|wO (zn (([]:LZa).length))<|wP (lens (([]:LZ).length) (([]:LZ).length) rfl)<|wP (lens (([]:LZa).length) (([]:LZa).length) rfl)<|wN a.length<|wO (zn (([]:LZa).length))<|wP (lens (([]:LZa).length) (([]:LZa).length) rfl)<|z0) ?_ (by kernel_rfl)
 obtain ⟨e,he,hm⟩:=bind_some hm
 refine loop_rule (u:=.c c_Sm_62) (K:=K_Sm_62) (Q:=(Post vf_Sm (res_Sm r))) (b:=lp_Sm_62 d p0 a) (We:=O_Sm_62 a (Post vf_Sm (res_Sm r))) (stJ:=fun s=>s_Sm_62 d p0 a s.1 s.2) (s:=(0,([]:LZa))) (fun s y hb hin hout=>ok_Sm_62 d p0 a s.1 s.2 y hb (Post vf_Sm (res_Sm r)) hin hout) he ?_
 show EE c_Sm_74 K_Sm_74 (s_Sm_74 a e) _
 exact ok_Sm_74 a e r hm
theorem ok_Sm_30 (p0:Ze) (a:LZ) (d:Int) (f:LI) (y) (hm:m_Sm_30 p0 a d f=some y) (Q)
  (hin:∀ s,y=.inl s→EE c_Sm_30 K_Sm_30 (s_Sm_30 p0 a s.1 s.2) Q) (hout:∀ e,y=.inr e→O_Sm_30 p0 a Q e):EE c_Sm_30 K_Sm_30 (s_Sm_30 p0 a d f) Q:=by
 obtain ⟨g,hm⟩|⟨g,hm⟩:=split_ite hm
 ·refine gm c_Sm_42 K_Sm_42 (s_Sm_42 d p0 a d f) (u1 g<|wN f.length<|wO (zn (([]:LZ).length))<|wO (zn (([]:LZa).length))<|wP (lens (([]:LZ).length) (([]:LZ).length) rfl)<|wP (lens (([]:LZa).length) (([]:LZa).length) rfl)<|wN a.length<|wO (zn (([]:LZa).length))<|wP (lens (([]:LZa).length) (([]:LZa).length) rfl)<|z0) ?_ (by kernel_rfl)
  obtain ⟨e,he,hm⟩:=bind_some hm
  refine loop_rule (u:=.c c_Sm_42) (K:=K_Sm_42) (Q:=Q) (b:=lp_Sm_42 d p0 a) (We:=O_Sm_42 d p0 a Q) (stJ:=fun s=>s_Sm_42 d p0 a s.1 s.2) (s:=(d,f)) (fun s y hb hin hout=>ok_Sm_42 d p0 a s.1 s.2 y hb Q hin hout) he ?_
  show EE c_Sm_56 K_Sm_56 (s_Sm_56 d p0 a e) _
  exact ok_Sm_56 d p0 a e y hm Q hin hout
 ·refine gm c_Sm_57 K_Sm_57 (s_Sm_57 p0 a f) (v1 g<|wN f.length<|wO (zn (([]:LZ).length))<|wO (zn (([]:LZa).length))<|wP (lens (([]:LZ).length) (([]:LZ).length) rfl)<|wP (lens (([]:LZa).length) (([]:LZa).length) rfl)<|wN a.length<|wO (zn (([]:LZa).length))<|wP (lens (([]:LZa).length) (([]:LZa).length) rfl)<|z0) ?_ (by kernel_rfl)
  exact hout f (qj hm).symm
theorem ok_Sm_25 (p0:Ze) (d:LI) (a:LZ) (r:Ze) (hm:m_Sm_25 p0 d a=some r):EE c_Sm_25 K_Sm_25 (s_Sm_25 p0 d a) (Post vf_Sm (res_Sm r)):=by
 refine gm c_Sm_30 K_Sm_30 (s_Sm_30 p0 a 1 d) (wN d.length<|wO (zn (([]:LZ).length))<|wO (zn (([]:LZa).length))<|wP (lens (([]:LZ).length) (([]:LZ).length) rfl)<|wP (lens (([]:LZa).length) (([]:LZa).length) rfl)<|wN a.length<|wO (zn (([]:LZa).length))<|wP (lens (([]:LZa).length) (([]:LZa).length) rfl)<|z0) ?_ (by kernel_rfl)
 obtain ⟨e,he,hm⟩:=bind_some hm
 refine loop_rule (u:=.c c_Sm_30) (K:=K_Sm_30) (Q:=(Post vf_Sm (res_Sm r))) (b:=lp_Sm_30 p0 a) (We:=O_Sm_30 p0 a (Post vf_Sm (res_Sm r))) (stJ:=fun s=>s_Sm_30 p0 a s.1 s.2) (s:=(1,d)) (fun s y hb hin hout=>ok_Sm_30 p0 a s.1 s.2 y hb (Post vf_Sm (res_Sm r)) hin hout) he ?_
 show EE c_Sm_57 K_Sm_57 (s_Sm_57 p0 a e) _
 exact ok_Sm_57 p0 a e r hm
theorem ok_Sm_13 (p0:Ze) (f a:Int) (b:LI) (c:LZ) (y) (hm:m_Sm_13 p0 f a b c=some y) (Q)
  (hin:∀ s,y=.inl s→EE c_Sm_13 K_Sm_13 (s_Sm_13 p0 s.1 s.2.1 s.2.2.1 s.2.2.2) Q) (hout:∀ e,y=.inr e→O_Sm_13 p0 Q e):EE c_Sm_13 K_Sm_13 (s_Sm_13 p0 f a b c) Q:=by
 obtain ⟨d,hm⟩|⟨d,hm⟩:=split_ite hm
 ·obtain ⟨h,g,hm⟩:=bind_some hm
  exact gw (hin _ (qj hm).symm) (u1 d<|wO (.rows (mi (b.set (0+Int.toNat a) a)))<|wO (zn ((b.set (0+Int.toNat a) a).length))<|wO (zn (([]:LZ).length))<|wO (zn (([]:LZa).length))<|wP (rd_in rfl g)<|wP (put_ob (rI .i64) a 0 (.lit (vI a)) (rd_get0 g) (by kernel_rfl) (by kernel_rfl))<|wP (lens b.length ((b.set (0+Int.toNat a) a).length) (set_len rfl))<|wP (lens (([]:LZ).length) (([]:LZ).length) rfl)<|wP (lens (([]:LZa).length) (([]:LZa).length) rfl)<|wN c.length<|wO (zn (([]:LZa).length))<|wP (lens (([]:LZa).length) (([]:LZa).length) rfl)<|z0) (by kernel_rfl)
 ·refine gm c_Sm_25 K_Sm_25 (s_Sm_25 p0 b c) (v1 d<|wN b.length<|wO (zn (([]:LZ).length))<|wO (zn (([]:LZa).length))<|wP (lens (([]:LZ).length) (([]:LZ).length) rfl)<|wP (lens (([]:LZa).length) (([]:LZa).length) rfl)<|wN c.length<|wO (zn (([]:LZa).length))<|wP (lens (([]:LZa).length) (([]:LZa).length) rfl)<|z0) ?_ (by kernel_rfl)
  exact hout (b,c) (qj hm).symm
theorem ok_Sm_0 (p0 r:Ze) (hm:m_Sm_0 p0=some r):EE c_Sm_0 K_Sm_0 (s_Sm_0 p0) (Post vf_Sm (res_Sm r)):=by
 obtain ⟨f,a,hm⟩:=bind_some hm
 obtain ⟨g,d,hm⟩:=bind_some hm
 refine gm c_Sm_13 K_Sm_13 (s_Sm_13 p0 ((Int.toNat (p0.packets.length:Int)):Int) 0 (List.replicate (Int.toNat (p0.packets.length:Int)) (0:Int)) (([]:LZ)++p0.tracks)) (wO (.rows (List.map rZa (([]:LZ)++p0.tracks)))<|wO (zn ((([]:LZ)++p0.tracks).length))<|wP (app_ck_ro rZa ([]:LZ) p0.tracks rfl a)<|wP (app_tell_ro rZa ([]:LZ) p0.tracks rfl)<|wP (len_map rZa (show (([]:LZ)++p0.tracks).length=(([]:LZ)++p0.tracks).length from rfl))<|wL rZb p0.packets<|wO (.rows (mi (List.replicate (Int.toNat (p0.packets.length:Int)) (0:Int))))<|wO (zn (Int.toNat (p0.packets.length:Int)))<|wO (zn ((List.replicate (Int.toNat (p0.packets.length:Int)) (0:Int)).length))<|wO (zn (([]:LZ).length))<|wO (zn (([]:LZa).length))<|wO (zn ((([]:LZ)++p0.tracks).length))<|wO (zn (([]:LZa).length))<|wP (ck_p d)<|wP (rep_ob (rI .i64) (Int.toNat (p0.packets.length:Int)) (0:Int) [.lit (vI 0)] (by kernel_rfl))<|wP (len_map (rI .i64) (show (Int.toNat (p0.packets.length:Int))=(List.replicate (Int.toNat (p0.packets.length:Int)) (0:Int)).length from (rep_len (Int.toNat (p0.packets.length:Int)) (0:Int))))<|wP (lens (Int.toNat (p0.packets.length:Int)) ((List.replicate (Int.toNat (p0.packets.length:Int)) (0:Int)).length) (rep_len (Int.toNat (p0.packets.length:Int)) (0:Int)))<|wP (lens 0 (([]:LZ).length) rfl)<|wP (lens 0 (([]:LZa).length) rfl)<|wP (lens ((([]:LZ)++p0.tracks).length) ((([]:LZ)++p0.tracks).length) rfl)<|wP (lens 0 (([]:LZa).length) rfl)<|z0) ?_ (by kernel_rfl)
 obtain ⟨e,he,hm⟩:=bind_some hm
 refine loop_rule (u:=.c c_Sm_13) (K:=K_Sm_13) (Q:=(Post vf_Sm (res_Sm r))) (b:=lp_Sm_13 p0) (We:=O_Sm_13 p0 (Post vf_Sm (res_Sm r))) (stJ:=fun s=>s_Sm_13 p0 s.1 s.2.1 s.2.2.1 s.2.2.2) (s:=(((Int.toNat (p0.packets.length:Int)):Int),0,(List.replicate (Int.toNat (p0.packets.length:Int)) (0:Int)),(([]:LZ)++p0.tracks))) (fun s y hb hin hout=>ok_Sm_13 p0 s.1 s.2.1 s.2.2.1 s.2.2.2 y hb (Post vf_Sm (res_Sm r)) hin hout) he ?_
 show EE c_Sm_25 K_Sm_25 (s_Sm_25 p0 e.1 e.2) _
 exact ok_Sm_25 p0 e.1 e.2 r hm
theorem ok_Sm (p0 r:Ze) (hm:m_Sm p0=some r):Runs ext tbl 120 (as_Sm p0) (res_Sm r):=
 runs_of (vf:=vf_Sm) (by kernel_rfl) rfl (st:=(enter vf_Sm (as_Sm p0)).getD default) (by kernel_rfl) (go_on [] 1000 J0 (ok_Sm_0 p0 r hm) (by kernel_rfl))
def O_Sw_32 (a:LZ) (Q:VX→St→Prop) (e:(LI×Int×Int×LZa)):Prop:=EE c_Sw_50 K_Sw_50 (s_Sw_50 a e.1 e.2.1 e.2.2.1 e.2.2.2) Q
def O_Sw_9 (p1:Int) (Q:VX→St→Prop) (e:(LI×Int×Int×LZ)):Prop:=EE c_Sw_23 K_Sw_23 (s_Sw_23 p1 e.1 e.2.1 e.2.2.1 e.2.2.2) Q
theorem ok_Sw_44 (p1 r:Int) (a:Int×Zd) (c:Int) (d:Int×Zd) (i:LI) (j:LB) (k:LZ) (g:LZa) (o:LI) (p q:Int) (f:Bool) (b:LI) (y) (hm:m_Sw_44 p1 r a c d i j k g o p q f b=some y) (Q)
  (hin:∀ s,y=.inl s→EE c_Sw_32 K_Sw_32 (s_Sw_32 p1 k s.1 s.2.1 s.2.2.1 s.2.2.2.1 s.2.2.2.2.1 s.2.2.2.2.2.1 s.2.2.2.2.2.2) Q) (hout:∀ e,y=.inr e→O_Sw_32 k Q e):EE c_Sw_44 K_Sw_44 (s_Sw_44 p1 r a c d i j k g o p q f b) Q:=by
 obtain ⟨x,t,hm⟩:=bind_some hm
 obtain ⟨l,n,hm⟩:=bind_some hm
 obtain ⟨m,u,hm⟩:=bind_some hm
 obtain ⟨h,v,hm⟩:=bind_some hm
 obtain ⟨z,w,hm⟩:=bind_some hm
 exact gw (hin _ (qj hm).symm) (wO (.rows (mb (j.set (0+Int.toNat a.1) true)))<|wO (.row ((rI .i64) l))<|wO (.row (rZa m))<|wO (.res (res_Sbb h))<|wO (.rows (mi (i.set (0+Int.toNat a.1) (w64 (l+(w64 (h.1*(w64 (1+(w64 (Int.tdiv m.scale 200)))))))))))<|wO (.rows (List.map (rI .u8) b))<|wO (.rows (List.map rZb ([(Zb.mk a.1 c d.1 f b)]:LZa)))<|wO (zn 1)<|wO (.rows (List.map rZb (g++([(Zb.mk a.1 c d.1 f b)]:LZa))))<|wO (zn ((g++([(Zb.mk a.1 c d.1 f b)]:LZa)).length))<|wO (zn ((i.set (0+Int.toNat a.1) (w64 (l+(w64 (h.1*(w64 (1+(w64 (Int.tdiv m.scale 200))))))))).length))<|wO (zn ((j.set (0+Int.toNat a.1) true).length))<|wO (zn (([]:LZ).length))<|wO (zn (([]:LZa).length))<|wO (zn k.length)<|wO (zn ((g++([(Zb.mk a.1 c d.1 f b)]:LZa)).length))<|wP (rd_in rfl t)<|wP (put_ob rB true 0 (.lit (.bool true)) (rd_get0 t) (by kernel_rfl) (by kernel_rfl))<|wP (rd_in rfl n)<|wP (at_row (rI .i64) (rd_get0 n))<|wP (rd_in rfl u)<|wP (at_row rZa (rd_get0 u))<|wP (by decide:(200:Int)≠0)<|wP (ok_Sbb (Zd.mk o p q) 60 h v)<|wP (rd_in rfl n)<|wP (put_ob (rI .i64) (w64 (l+(w64 (h.1*(w64 (1+(w64 (Int.tdiv m.scale 200)))))))) 0 (.lit (vI (w64 (l+(w64 (h.1*(w64 (1+(w64 (Int.tdiv m.scale 200)))))))))) (rd_get0 n) (by kernel_rfl) (by kernel_rfl))<|wA (rI .u8) b<|wP (Eq.refl (List.map rZb ([(Zb.mk a.1 c d.1 f b)]:LZa)))<|wP (len_map rZb (show 1=([(Zb.mk a.1 c d.1 f b)]:LZa).length from rfl))<|wP (all_eq rZb ([(Zb.mk a.1 c d.1 f b)]:LZa) rfl)<|wP (all_le rZb ([(Zb.mk a.1 c d.1 f b)]:LZa) rfl)<|wP (app_ck_ro rZb g ([(Zb.mk a.1 c d.1 f b)]:LZa) rfl w)<|wP (app_tell_ro rZb g ([(Zb.mk a.1 c d.1 f b)]:LZa) rfl)<|wP (len_map rZb (show (g++([(Zb.mk a.1 c d.1 f b)]:LZa)).length=(g++([(Zb.mk a.1 c d.1 f b)]:LZa)).length from rfl))<|wP (lens i.length ((i.set (0+Int.toNat a.1) (w64 (l+(w64 (h.1*(w64 (1+(w64 (Int.tdiv m.scale 200))))))))).length) (set_len rfl))<|wP (lens j.length ((j.set (0+Int.toNat a.1) true).length) (set_len rfl))<|wP (lens (([]:LZ).length) (([]:LZ).length) rfl)<|wP (lens (([]:LZa).length) (([]:LZa).length) rfl)<|wP (ln k.length)<|wP (lens ((g++([(Zb.mk a.1 c d.1 f b)]:LZa)).length) ((g++([(Zb.mk a.1 c d.1 f b)]:LZa)).length) rfl)<|z0) (by kernel_rfl)
theorem ok_Sw_50 (a:LZ) (d:LI) (e f:Int) (b:LZa) (r:Ze×Zd) (hm:m_Sw_50 a d e f b=some r):EE c_Sw_50 K_Sw_50 (s_Sw_50 a d e f b) (Post vf_Sw (res_Sw r)):=by
 obtain ⟨c,g,hm⟩:=bind_some hm
 exact ge (wO (.rows (List.map rZa a))<|wO (.rows (List.map rZb b))<|wO (.res (res_Sm c))<|wP (all_le rZa a rfl)<|wP (all_dt rZa a rfl)<|wP (all_le rZb b rfl)<|wP (all_dt rZb b rfl)<|wP (ok_Sm (Ze.mk a b) c g)<|wL rZa c.tracks<|wL rZb c.packets<|wR rZa c.tracks<|wR rZb c.packets<|z0) (congrArg res_Sw (qj hm)) (by kernel_rfl)
theorem ok_Sw_32 (p1:Int) (a:LZ) (u:Int) (g:LI) (h i:Int) (j:LI) (k:LB) (c:LZa) (y) (hm:m_Sw_32 p1 a u g h i j k c=some y) (Q)
  (hin:∀ s,y=.inl s→EE c_Sw_32 K_Sw_32 (s_Sw_32 p1 a s.1 s.2.1 s.2.2.1 s.2.2.2.1 s.2.2.2.2.1 s.2.2.2.2.2.1 s.2.2.2.2.2.2) Q) (hout:∀ e,y=.inr e→O_Sw_32 a Q e):EE c_Sw_32 K_Sw_32 (s_Sw_32 p1 a u g h i j k c) Q:=by
 obtain ⟨o,hm⟩|⟨o,hm⟩:=split_ite hm
 ·obtain ⟨l,v,hm⟩:=bind_some hm
  obtain ⟨w,p,hm⟩:=bind_some hm
  obtain ⟨x,q,hm⟩:=bind_some hm
  obtain ⟨m,z,hm⟩:=bind_some hm
  obtain ⟨f,hm⟩|⟨f,hm⟩:=split_ite hm
  ·obtain ⟨d,r,hm⟩:=bind_some hm
   obtain ⟨b,t,hm⟩:=bind_some hm
   obtain ⟨n,A,hm⟩:=bind_some hm
   exact gw (ok_Sw_44 _ _ _ _ _ _ _ _ _ _ _ _ _ _ y hm Q hin hout) (u1 o<|wO (.res (res_Sbb l))<|wO (.row ((rI .i64) w))<|wO (.row (rB x))<|wO (.res (res_Sbb m))<|wO zF<|wO zF<|wO (.res (res_Sba d))<|wO zF<|wO (.res (res_Sbb b))<|wO (.res (res_Sx n))<|wO (zn n.1.length)<|wO (zn j.length)<|wO (zn k.length)<|wO (zn (([]:LZ).length))<|wO (zn (([]:LZa).length))<|wO (zn a.length)<|wO (zn c.length)<|wO (zn n.1.length)<|wP (ok_Sbb (Zd.mk g h i) (a.length:Int) l v)<|wP (rd_in rfl p)<|wP (at_row (rI .i64) (rd_get0 p))<|wP (rd_in rfl q)<|wP (at_row rB (rd_get0 q))<|wP (ok_Sbb l.2 50 m z)<|wP (not_f f)<|wP (not_f f)<|wP (ok_Sba m.2 3 d r)<|wP (not_f f)<|wP (ok_Sbb d.2 12 b t)<|wP (ok_Sx b.2 b.1 n A)<|wP (lm (rI .u8) n.1)<|wP (ln j.length)<|wP (ln k.length)<|wP (lens (([]:LZ).length) (([]:LZ).length) rfl)<|wP (lens (([]:LZa).length) (([]:LZa).length) rfl)<|wP (ln a.length)<|wP (ln c.length)<|wP (ln n.1.length)<|z0) (by kernel_rfl)
  ·obtain ⟨d,r,hm⟩:=bind_some hm
   obtain ⟨b,t,hm⟩:=bind_some hm
   exact gw (ok_Sw_44 _ _ _ _ _ _ _ _ _ _ _ _ _ _ y hm Q hin hout) (u1 o<|wO (.res (res_Sbb l))<|wO (.row ((rI .i64) w))<|wO (.row (rB x))<|wO (.res (res_Sbb m))<|wO zT<|wO zT<|wO zT<|wO (.res (res_Sbb d))<|wO (.res (res_Sx b))<|wO (zn b.1.length)<|wO (zn j.length)<|wO (zn k.length)<|wO (zn (([]:LZ).length))<|wO (zn (([]:LZa).length))<|wO (zn a.length)<|wO (zn c.length)<|wO (zn b.1.length)<|wP (ok_Sbb (Zd.mk g h i) (a.length:Int) l v)<|wP (rd_in rfl p)<|wP (at_row (rI .i64) (rd_get0 p))<|wP (rd_in rfl q)<|wP (at_row rB (rd_get0 q))<|wP (ok_Sbb l.2 50 m z)<|wP (not_t f)<|wP (not_t f)<|wP (not_t f)<|wP (ok_Sbb m.2 12 d r)<|wP (ok_Sx d.2 d.1 b t)<|wP (lm (rI .u8) b.1)<|wP (ln j.length)<|wP (ln k.length)<|wP (lens (([]:LZ).length) (([]:LZ).length) rfl)<|wP (lens (([]:LZa).length) (([]:LZa).length) rfl)<|wP (ln a.length)<|wP (ln c.length)<|wP (ln b.1.length)<|z0) (by kernel_rfl)
 ·refine gm c_Sw_50 K_Sw_50 (s_Sw_50 a g h i c) (v1 o<|wO (zn (([]:LZ).length))<|wO (zn (([]:LZa).length))<|wP (lens (([]:LZ).length) (([]:LZ).length) rfl)<|wP (lens (([]:LZa).length) (([]:LZa).length) rfl)<|wN a.length<|wN c.length<|z0) ?_ (by kernel_rfl)
  exact hout (g,h,i,c) (qj hm).symm
theorem ok_Sw_23 (p1:Int) (d:LI) (f g:Int) (a:LZ) (r:Ze×Zd) (hm:m_Sw_23 p1 d f g a=some r):EE c_Sw_23 K_Sw_23 (s_Sw_23 p1 d f g a) (Post vf_Sw (res_Sw r)):=by
 obtain ⟨j,h,hm⟩:=bind_some hm
 obtain ⟨k,i,hm⟩:=bind_some hm
 refine gm c_Sw_32 K_Sw_32 (s_Sw_32 p1 a 0 d f g (List.replicate (Int.toNat (a.length:Int)) (0:Int)) (List.replicate (Int.toNat (a.length:Int)) (false:Bool)) ([]:LZa)) (wO (.rows (mi (List.replicate (Int.toNat (a.length:Int)) (0:Int))))<|wO (zn (Int.toNat (a.length:Int)))<|wO (.rows (mb (List.replicate (Int.toNat (a.length:Int)) (false:Bool))))<|wO (zn (Int.toNat (a.length:Int)))<|wO (zn ((List.replicate (Int.toNat (a.length:Int)) (0:Int)).length))<|wO (zn ((List.replicate (Int.toNat (a.length:Int)) (false:Bool)).length))<|wO (zn (([]:LZ).length))<|wO (zn (([]:LZa).length))<|wO (zn a.length)<|wO (zn (([]:LZa).length))<|wP (ck_p h)<|wP (rep_ob (rI .i64) (Int.toNat (a.length:Int)) (0:Int) [.lit (vI 0)] (by kernel_rfl))<|wP (len_map (rI .i64) (show (Int.toNat (a.length:Int))=(List.replicate (Int.toNat (a.length:Int)) (0:Int)).length from (rep_len (Int.toNat (a.length:Int)) (0:Int))))<|wP (ck_p i)<|wP (rep_ob rB (Int.toNat (a.length:Int)) (false:Bool) [.lit (.bool false)] (by kernel_rfl))<|wP (len_map rB (show (Int.toNat (a.length:Int))=(List.replicate (Int.toNat (a.length:Int)) (false:Bool)).length from (rep_len (Int.toNat (a.length:Int)) (false:Bool))))<|wP (lens (Int.toNat (a.length:Int)) ((List.replicate (Int.toNat (a.length:Int)) (0:Int)).length) (rep_len (Int.toNat (a.length:Int)) (0:Int)))<|wP (lens (Int.toNat (a.length:Int)) ((List.replicate (Int.toNat (a.length:Int)) (false:Bool)).length) (rep_len (Int.toNat (a.length:Int)) (false:Bool)))<|wP (lens (([]:LZ).length) (([]:LZ).length) rfl)<|wP (lens (([]:LZa).length) (([]:LZa).length) rfl)<|wP (ln a.length)<|wP (lens (([]:LZa).length) (([]:LZa).length) rfl)<|z0) ?_ (by kernel_rfl)
 obtain ⟨e,he,hm⟩:=bind_some hm
 refine loop_rule (u:=.c c_Sw_32) (K:=K_Sw_32) (Q:=(Post vf_Sw (res_Sw r))) (b:=lp_Sw_32 p1 a) (We:=O_Sw_32 a (Post vf_Sw (res_Sw r))) (stJ:=fun s=>s_Sw_32 p1 a s.1 s.2.1 s.2.2.1 s.2.2.2.1 s.2.2.2.2.1 s.2.2.2.2.2.1 s.2.2.2.2.2.2) (s:=(0,d,f,g,(List.replicate (Int.toNat (a.length:Int)) (0:Int)),(List.replicate (Int.toNat (a.length:Int)) (false:Bool)),([]:LZa))) (fun s y hb hin hout=>ok_Sw_32 p1 a s.1 s.2.1 s.2.2.1 s.2.2.2.1 s.2.2.2.2.1 s.2.2.2.2.2.1 s.2.2.2.2.2.2 y hb (Post vf_Sw (res_Sw r)) hin hout) he ?_
 show EE c_Sw_50 K_Sw_50 (s_Sw_50 a e.1 e.2.1 e.2.2.1 e.2.2.2) _
 exact ok_Sw_50 a e.1 e.2.1 e.2.2.1 e.2.2.2 r hm
theorem ok_Sw_9 (p1 n:Int) (h:LI) (i j:Int) (b:LZ) (y) (hm:m_Sw_9 p1 n h i j b=some y) (Q)
  (hin:∀ s,y=.inl s→EE c_Sw_9 K_Sw_9 (s_Sw_9 p1 s.1 s.2.1 s.2.2.1 s.2.2.2.1 s.2.2.2.2) Q) (hout:∀ e,y=.inr e→O_Sw_9 p1 Q e):EE c_Sw_9 K_Sw_9 (s_Sw_9 p1 n h i j b) Q:=by
 obtain ⟨l,hm⟩|⟨l,hm⟩:=split_ite hm
 ·obtain ⟨a,p,hm⟩:=bind_some hm
  obtain ⟨g,q,hm⟩:=bind_some hm
  obtain ⟨m,r,hm⟩:=bind_some hm
  obtain ⟨c,o,hm⟩:=bind_some hm
  obtain ⟨k,t,hm⟩:=bind_some hm
  obtain ⟨f,u,hm⟩:=bind_some hm
  obtain ⟨d,v,hm⟩:=bind_some hm
  obtain ⟨x,w,hm⟩:=bind_some hm
  exact gw (hin _ (qj hm).symm) (u1 l<|wO (.res (res_Sbb a))<|wO (.res (res_Sbb g))<|wO (.rows (mi ([1,25,1000,44100,(w64 (1+g.1))]:LI)))<|wO (zn 5)<|wO (.res (res_Sbb m))<|wO (.row ((rI .i64) c))<|wO (.res (res_Sbb k))<|wO (.res (res_Sbc f))<|wO (zn f.1.length)<|wO (.rows (List.map (rI .u8) f.1))<|wO (.str d)<|wO (.rows (List.map rZa ([(Za.mk (w64 (1+a.1)) c d)]:LZ)))<|wO (zn 1)<|wO (.rows (List.map rZa (b++([(Za.mk (w64 (1+a.1)) c d)]:LZ))))<|wO (zn ((b++([(Za.mk (w64 (1+a.1)) c d)]:LZ)).length))<|wO (zn (([]:LZ).length))<|wO (zn (([]:LZa).length))<|wO (zn ((b++([(Za.mk (w64 (1+a.1)) c d)]:LZ)).length))<|wO (zn (([]:LZa).length))<|wP (ok_Sbb (Zd.mk h i j) 6 a p)<|wP (ok_Sbb a.2 300 g q)<|wP (Eq.refl (mi ([1,25,1000,44100,(w64 (1+g.1))]:LI)))<|wP (len_map (rI .i64) (show 5=([1,25,1000,44100,(w64 (1+g.1))]:LI).length from rfl))<|wP (ok_Sbb g.2 5 m r)<|wP (rd_in rfl o)<|wP (at_row (rI .i64) (rd_get0 o))<|wP (ok_Sbb m.2 5 k t)<|wP (ok_Sbc k.2 k.1 f u)<|wP (lm (rI .u8) f.1)<|wP (all_le (rI .u8) f.1 rfl)<|wP (all_dt (rI .u8) f.1 rfl)<|wP (bstr_t v)<|wP (Eq.refl (List.map rZa ([(Za.mk (w64 (1+a.1)) c d)]:LZ)))<|wP (len_map rZa (show 1=([(Za.mk (w64 (1+a.1)) c d)]:LZ).length from rfl))<|wP (all_le rZa ([(Za.mk (w64 (1+a.1)) c d)]:LZ) rfl)<|wP (app_ck rZa b ([(Za.mk (w64 (1+a.1)) c d)]:LZ) rfl rfl w)<|wP (app_tell rZa b ([(Za.mk (w64 (1+a.1)) c d)]:LZ) rfl rfl)<|wP (len_map rZa (show (b++([(Za.mk (w64 (1+a.1)) c d)]:LZ)).length=(b++([(Za.mk (w64 (1+a.1)) c d)]:LZ)).length from rfl))<|wP (lens (([]:LZ).length) (([]:LZ).length) rfl)<|wP (lens (([]:LZa).length) (([]:LZa).length) rfl)<|wP (lens ((b++([(Za.mk (w64 (1+a.1)) c d)]:LZ)).length) ((b++([(Za.mk (w64 (1+a.1)) c d)]:LZ)).length) rfl)<|wP (lens (([]:LZa).length) (([]:LZa).length) rfl)<|z0) (by kernel_rfl)
 ·refine gm c_Sw_23 K_Sw_23 (s_Sw_23 p1 h i j b) (v1 l<|wO (zn (([]:LZ).length))<|wO (zn (([]:LZa).length))<|wP (lens (([]:LZ).length) (([]:LZ).length) rfl)<|wP (lens (([]:LZa).length) (([]:LZa).length) rfl)<|wN b.length<|wO (zn (([]:LZa).length))<|wP (lens (([]:LZa).length) (([]:LZa).length) rfl)<|z0) ?_ (by kernel_rfl)
  exact hout (h,i,j,b) (qj hm).symm
end Go.Proofs.V
