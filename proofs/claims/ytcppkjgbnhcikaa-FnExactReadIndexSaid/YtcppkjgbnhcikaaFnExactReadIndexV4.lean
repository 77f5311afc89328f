import Derived.Test.YtcppkjgbnhcikaaFnExactReadIndexV3
import Derived.Test.YtcppkjgbnhcikaaProg
import Derived.KernelRfl
set_option linter.unusedVariables false
set_option maxRecDepth 100000
namespace Go.Proofs.V
open Go
def c_Lg_12:VC:=
 .ite (.s 11) (.skip) (.exit 0)
def c_Lg_18:VC:=
 .r 4 [M 12 4,
  {op:=.bin 13 .add (.s 12) (.k (.int .i64 1))},
  M 4 13]
def c_Lg_15:VC:=
 .seq (.blk 1 (.r 5 [M 14 3,
  M 15 4,
  M 16 0,
  M 17 4,
  oX 18 16 17 1,
  oL 19 18 1,
  oX 20 14 15 1,
  oS 20 19 1])) c_Lg_18
def c_Lg_9:VC:=
 .seq (.seq (.r 3 [M 8 4,
  M 9 0,
  {op:=.len 10 (.s 9)},
  {op:=.bin 11 .lss (.s 8) (.s 10)}]) c_Lg_12) c_Lg_15
def c_Lg_7:VC:=
 .blk 0 (.loop [0,3,4] c_Lg_9)
def c_Lg_19:VC:=
 .seq (.r 6 [M 21 3,
  M 2 21]) (.ret)
def c_Lg_4:VC:=
 .seq (.seq (.r 2 [oN 4 0]) c_Lg_7) (.kp [3] c_Lg_19)
def c_Lg_2:VC:=
 .seq (.r 1 [M 5 0,
  {op:=.len 6 (.s 5)},
  {op:=.mk 7 (.s 6) [.sc] [(.int .u8 0)] 140737488355328},
  M 3 7]) c_Lg_4
def c_Lg_0:VC:=
 .seq (.r 0 [{op:=.nil 2 [.sc]}]) c_Lg_2
def vf_Lg:VF:={ pm:=[.ro [.ro [.sc]]],rm:=[.v [.own [.sc]]],nslots:=22,res:=[2],rc:=[],code:=.kp [0] c_Lg_0 }
def c_Sj_2:VC:=
 .ite (.s 8) (.r 1 [M 9 0,
  M 10 1,
  {op:=.nck 11 (.s 9)},
  oF 12 11 2,
  oS 12 10 1]) (.skip)
def c_Sj_0:VC:=
 .seq (.r 0 [M 4 0,
  {op:=.nck 5 (.s 4)},
  oF 6 5 2,
  oL 7 6 1,
  {op:=.bin 8 .eql (.s 7) (.k (.int .i64 0))}]) c_Sj_2
def vf_Sj:VF:={ pm:=[.mb [.ro [.sc],.sc,.sc,.own q3,.own [.sc,.sc,.sc,.sc,.own [.sc]],.sc,.sc,.own q3],.ro [.sc]],rm:=[],nslots:=13,res:=[],rc:=[],code:=.kp [0,1] c_Sj_0 }
def c_Sr_5:VC:=
 .ite (.s 23) (.r 2 [M 24 0,
  {op:=.call 25 94 [(.s 24),(.k (.int .i64 2))]}]) (.skip)
def c_Sr_11:VC:=
 .ite (.s 30) (.seq (.r 4 [{op:=.nil 4 [.sc]}]) (.pre [.fz 4 0] (.ret))) (.skip)
def c_Sr_18:VC:=
 .seq (.d 6 [(0,M 39 0),
  (1,{op:=.nckv 40 (.s 39)}),
  (2,oG 41 40 0),
  (3,oV 42 41 1),
  (4,M 43 0),
  (5,{op:=.nckv 44 (.s 43)}),
  (6,oG 45 44 1),
  (7,oV 46 45 1),
  (8,M 47 1),
  (9,{op:=.bin 48 .sub (.s 46) (.s 47)}),
  (10,M 49 0),
  (11,{op:=.nckv 50 (.s 49)}),
  (12,oG 51 50 1),
  (13,oV 52 51 1),
  (14,{op:=.slc 53 (.s 42) (some (.s 48)) (some (.s 52)) 1}),
  (15,M 4 53)]) (.ret)
def c_Sr_16:VC:=
 .seq (.r 5 [M 31 0,
  {op:=.nck 32 (.s 31)},
  oF 33 32 1,
  oL 34 33 1,
  M 35 1,
  {op:=.bin 36 .add (.s 34) (.s 35)},
  {op:=.nck 37 (.s 31)},
  oF 38 37 1,
  oS 38 36 1]) c_Sr_18
def c_Sr_8:VC:=
 .seq (.seq (.r 3 [M 26 0,
  {op:=.nck 27 (.s 26)},
  oF 28 27 2,
  oL 29 28 1,
  {op:=.bin 30 .neq (.s 29) (.k (.int .i64 0))}]) c_Sr_11) c_Sr_16
def c_Sr_2:VC:=
 .seq (.seq (.d 1 [(0,M 5 0),
  (1,{op:=.nckv 6 (.s 5)}),
  (2,oG 7 6 2),
  (3,oV 8 7 1),
  (4,{op:=.bin 9 .eql (.s 8) (.k (.int .i64 0))}),
  (5,M 10 9),
  (6,⟨none,[],some (10,true),.mv 11 (.s 1)⟩),
  (7,⟨none,[],some (10,true),.mv 12 (.s 0)⟩),
  (8,⟨none,[],some (10,true),.nckv 13 (.s 12)⟩),
  (9,⟨none,[],some (10,true),.fadv 14 (.s 13) 0⟩),
  (10,⟨none,[],some (10,true),.ldv 15 (.s 14) 1 false⟩),
  (11,⟨none,[],some (10,true),.len 16 (.s 15)⟩),
  (12,⟨none,[],some (10,true),.mv 17 (.s 0)⟩),
  (13,⟨none,[],some (10,true),.nckv 18 (.s 17)⟩),
  (14,⟨none,[],some (10,true),.fadv 19 (.s 18) 1⟩),
  (15,⟨none,[],some (10,true),.ldv 20 (.s 19) 1 false⟩),
  (16,⟨none,[],some (10,true),.bin 21 .sub (.s 16) (.s 20)⟩),
  (17,⟨none,[],some (10,true),.bin 22 .gtr (.s 11) (.s 21)⟩),
  (18,{op:=.pick 23 (.s 10) (.s 22) (.k (.bool false))})]) (.kp [0,1,23] c_Sr_5)) (.kp [0,1] c_Sr_8)
def c_Sr_0:VC:=
 .seq (.r 0 [{op:=.nil 4 [.sc]}]) c_Sr_2
def vf_Sr:VF:={ pm:=[.mb [.ro [.sc],.sc,.sc,.own q3,.own [.sc,.sc,.sc,.sc,.own [.sc]],.sc,.sc,.own q3],.ro [.sc]],rm:=[.v [.ro [.sc]]],nslots:=54,res:=[4],rc:=[],code:=.kp [0,1] c_Sr_0 }
def c_Si_7:VC:=
 .ite (.s 10) (.seq (.r 3 [oN 2 0]) (.ret)) (.skip)
def c_Si_12:VC:=
 .seq (.r 4 [M 11 3,
  {op:=.iadr 12 (.s 11) (.k (.int .i64 0)) 1},
  oL 13 12 1,
  {op:=.conv 14 .i64 (.s 13)},
  M 2 14]) (.ret)
def c_Si_4:VC:=
 .seq (.seq (.r 2 [M 6 0,
  {op:=.nck 7 (.s 6)},
  oF 8 7 2,
  oL 9 8 1,
  {op:=.bin 10 .neq (.s 9) (.k (.int .i64 0))}]) c_Si_7) c_Si_12
def c_Si_2:VC:=
 .seq (.r 1 [M 4 0,
  {op:=.call 5 96 [(.s 4),(.k (.int .i64 1))]},
  M 3 5]) c_Si_4
def c_Si_0:VC:=
 .seq (.r 0 [oN 2 0]) c_Si_2
def vf_Si:VF:={ pm:=[.mb [.ro [.sc],.sc,.sc,.own q3,.own [.sc,.sc,.sc,.sc,.own [.sc]],.sc,.sc,.own q3]],rm:=[.v [.sc]],nslots:=15,res:=[2],rc:=[],code:=.kp [0] c_Si_0 }
def c_Sb_5:VC:=
 .ite (.s 9) (.seq (.r 2 [{op:=.bld 10 [.k (.bool false),.k (.int .u64 0),.k (.int .i64 0)] []},
  oS 4 10 3]) (.ret)) (.skip)
def c_Sb_20:VC:=
 .ite (.s 12) (.skip) (.exit 0)
def c_Sb_28:VC:=
 .ite (.s 27) (.seq (.r 8 [{op:=.bld 28 [.k (.bool false),.k (.int .u64 0),.k (.int .i64 0)] []},
  oS 4 28 3]) (.ret)) (.skip)
def c_Sb_38:VC:=
 .ite (.s 41) (.seq (.r 11 [{op:=.bld 42 [.k (.bool false),.k (.int .u64 0),.k (.int .i64 0)] []},
  oS 4 42 3]) (.ret)) (.skip)
def c_Sb_51:VC:=
 .ite (.s 58) (.seq (.r 15 [{op:=.bld 59 [.k (.bool false),.k (.int .u64 0),.k (.int .i64 0)] []},
  oS 4 59 3]) (.ret)) (.skip)
def c_Sb_56:VC:=
 .seq (.r 16 [M 60 5,
  M 61 1,
  M 62 6,
  {op:=.bin 63 .add (.s 61) (.s 62)},
  {op:=.bin 64 .add (.s 63) (.k (.int .i64 1))},
  {op:=.bld 65 [.k (.bool false),.k (.int .u64 0),.k (.int .i64 0)] [(0,1,(.k (.bool true))),(1,1,(.s 60)),(2,1,(.s 64))]},
  oS 4 65 3]) (.ret)
def c_Sb_47:VC:=
 .ite (.s 52) (.seq (.seq (.r 14 [M 53 7,
  {op:=.bin 54 .eql (.s 53) (.k (.int .u64 0))},
  M 55 54,
  ⟨none,[],some (55,true),.mv 56 (.s 6)⟩,
  ⟨none,[],some (55,true),.bin 57 .gtr (.s 56) (.k (.int .i64 0))⟩,
  {op:=.pick 58 (.s 55) (.s 57) (.k (.bool false))}]) (.kp [1,4,5,6,58] c_Sb_51)) c_Sb_56) (.skip)
def c_Sb_45:VC:=
 .seq (.r 13 [M 51 7,
  {op:=.bin 52 .lss (.s 51) (.k (.int .u64 128))}]) c_Sb_47
def c_Sb_43:VC:=
 .seq (.r 12 [M 43 5,
  M 44 7,
  {op:=.bin 45 .rem (.s 44) (.k (.int .u64 128))},
  M 46 6,
  {op:=.bin 47 .mul (.k (.int .i64 7)) (.s 46)},
  {op:=.conv 48 .u64 (.s 47)},
  {op:=.bin 49 .shl (.s 45) (.s 48)},
  {op:=.bin 50 .or (.s 43) (.s 49)},
  M 5 50]) c_Sb_45
def c_Sb_35:VC:=
 .seq (.seq (.r 10 [M 36 6,
  {op:=.bin 37 .eql (.s 36) (.k (.int .i64 9))},
  M 38 37,
  ⟨none,[],some (38,true),.mv 39 (.s 7)⟩,
  ⟨none,[],some (38,true),.bin 40 .gtr (.s 39) (.k (.int .u64 1))⟩,
  {op:=.pick 41 (.s 38) (.s 40) (.k (.bool false))}]) (.kp [0,1,4,5,6,7,41] c_Sb_38)) c_Sb_43
def c_Sb_33:VC:=
 .seq (.r 9 [M 29 0,
  M 30 1,
  M 31 6,
  {op:=.bin 32 .add (.s 30) (.s 31)},
  oX 33 29 32 1,
  oL 34 33 1,
  {op:=.conv 35 .u64 (.s 34)},
  M 7 35]) c_Sb_35
def c_Sb_60:VC:=
 .r 6 [M 13 6,
  {op:=.bin 14 .add (.s 13) (.k (.int .i64 1))},
  M 6 14]
def c_Sb_23:VC:=
 .seq (.blk 1 (.seq (.seq (.r 7 [M 15 1,
  M 16 0,
  {op:=.len 17 (.s 16)},
  {op:=.bin 18 .geq (.s 15) (.s 17)},
  M 19 18,
  ⟨none,[],some (19,false),.mv 20 (.s 6)⟩,
  ⟨none,[],some (19,false),.mv 21 (.s 0)⟩,
  ⟨none,[],some (19,false),.len 22 (.s 21)⟩,
  ⟨none,[],some (19,false),.bin 23 .sub (.s 22) (.k (.int .i64 1))⟩,
  ⟨none,[],some (19,false),.mv 24 (.s 1)⟩,
  ⟨none,[],some (19,false),.bin 25 .sub (.s 23) (.s 24)⟩,
  ⟨none,[],some (19,false),.bin 26 .gtr (.s 20) (.s 25)⟩,
  {op:=.pick 27 (.s 19) (.k (.bool true)) (.s 26)}]) (.kp [0,1,4,5,6,27] c_Sb_28)) c_Sb_33)) c_Sb_60
def c_Sb_17:VC:=
 .seq (.seq (.r 5 [M 11 6,
  {op:=.bin 12 .lss (.s 11) (.k (.int .i64 10))}]) c_Sb_20) c_Sb_23
def c_Sb_15:VC:=
 .blk 0 (.loop [0,1,4,5,6] c_Sb_17)
def c_Sb_61:VC:=
 .seq (.r 17 [{op:=.bld 66 [.k (.bool false),.k (.int .u64 0),.k (.int .i64 0)] []},
  oS 4 66 3]) (.ret)
def c_Sb_12:VC:=
 .seq (.seq (.r 4 [oN 6 0]) c_Sb_15) (.kp [4] c_Sb_61)
def c_Sb_10:VC:=
 .seq (.r 3 [{op:=.mv 5 (.k (.int .u64 0))}]) c_Sb_12
def c_Sb_2:VC:=
 .seq (.seq (.r 1 [M 8 1,
  {op:=.bin 9 .lss (.s 8) (.k (.int .i64 0))}]) c_Sb_5) c_Sb_10
def c_Sb_0:VC:=
 .seq (.r 0 [{op:=.alloc 4 [.k (.bool false),.k (.int .u64 0),.k (.int .i64 0)]}]) c_Sb_2
def vf_Sb:VF:={ pm:=[.ro [.ro [.sc]],.ro [.sc]],rm:=[.v q3],nslots:=67,res:=[4],rc:=[some (3,true)],code:=.kp [0,1] c_Sb_0 }
def c_Sn_5:VC:=
 .ite (.s 9) (.seq (.r 2 [oN 2 0]) (.ret)) (.skip)
def c_Sn_24:VC:=
 .ite (.s 51) (.skip) (.exit 0)
def c_Sn_27:VC:=
 .blk 1 (.r 7 [M 52 4,
  {op:=.bin 53 .add (.s 52) (.k (.int .i64 1))},
  M 4 53])
def c_Sn_21:VC:=
 .seq (.seq (.r 6 [M 26 4,
  M 27 0,
  {op:=.nck 28 (.s 27)},
  oF 29 28 0,
  oL 30 29 1,
  {op:=.len 31 (.s 30)},
  {op:=.bin 32 .lss (.s 26) (.s 31)},
  M 33 32,
  ⟨none,[],some (33,true),.mv 34 (.s 4)⟩,
  ⟨none,[],some (33,true),.mv 35 (.s 0)⟩,
  ⟨none,[],some (33,true),.nck 36 (.s 35)⟩,
  ⟨none,[],some (33,true),.fadr 37 (.s 36) 1⟩,
  ⟨none,[],some (33,true),.ld 38 (.s 37) 1 false⟩,
  ⟨none,[],some (33,true),.bin 39 .add (.s 38) (.k (.int .i64 10))⟩,
  ⟨none,[],some (33,true),.bin 40 .lss (.s 34) (.s 39)⟩,
  {op:=.pick 41 (.s 33) (.s 40) (.k (.bool false))},
  M 42 41,
  ⟨none,[],some (42,true),.mv 43 (.s 0)⟩,
  ⟨none,[],some (42,true),.nck 44 (.s 43)⟩,
  ⟨none,[],some (42,true),.fadr 45 (.s 44) 0⟩,
  ⟨none,[],some (42,true),.ld 46 (.s 45) 1 false⟩,
  ⟨none,[],some (42,true),.mv 47 (.s 4)⟩,
  ⟨none,[],some (42,true),.iadr 48 (.s 46) (.s 47) 1⟩,
  ⟨none,[],some (42,true),.ld 49 (.s 48) 1 false⟩,
  ⟨none,[],some (42,true),.bin 50 .geq (.s 49) (.k (.int .u8 128))⟩,
  {op:=.pick 51 (.s 42) (.s 50) (.k (.bool false))}]) c_Sn_24) c_Sn_27
def c_Sn_32:VC:=
 .ite (.s 69) (.r 9 [M 70 0,
  {op:=.call 71 94 [(.s 70),(.k (.int .i64 2))]}]) (.r 10 [M 72 0,
  {op:=.call 73 94 [(.s 72),(.k (.int .i64 5))]}])
def c_Sn_35:VC:=
 .seq (.r 11 [oN 2 0]) (.ret)
def c_Sn_29:VC:=
 .seq (.seq (.r 8 [M 54 4,
  M 55 0,
  {op:=.nck 56 (.s 55)},
  oF 57 56 0,
  oL 58 57 1,
  {op:=.len 59 (.s 58)},
  {op:=.bin 60 .eql (.s 54) (.s 59)},
  M 61 60,
  ⟨none,[],some (61,true),.mv 62 (.s 4)⟩,
  ⟨none,[],some (61,true),.mv 63 (.s 0)⟩,
  ⟨none,[],some (61,true),.nck 64 (.s 63)⟩,
  ⟨none,[],some (61,true),.fadr 65 (.s 64) 1⟩,
  ⟨none,[],some (61,true),.ld 66 (.s 65) 1 false⟩,
  ⟨none,[],some (61,true),.bin 67 .add (.s 66) (.k (.int .i64 10))⟩,
  ⟨none,[],some (61,true),.bin 68 .lss (.s 62) (.s 67)⟩,
  {op:=.pick 69 (.s 61) (.s 68) (.k (.bool false))}]) (.kp [0,69] c_Sn_32)) c_Sn_35
def c_Sn_18:VC:=
 .seq (.blk 0 (.loop [0,4] c_Sn_21)) (.kp [0,4] c_Sn_29)
def c_Sn_15:VC:=
 .ite (.s 21) (.seq (.r 5 [M 22 0,
  {op:=.nck 23 (.s 22)},
  oF 24 23 1,
  oL 25 24 1,
  M 4 25]) c_Sn_18) (.skip)
def c_Sn_45:VC:=
 .seq (.r 14 [oN 2 0]) (.ret)
def c_Sn_42:VC:=
 .ite (.s 76) (.seq (.r 13 [M 77 0,
  {op:=.call 78 94 [(.s 77),(.k (.int .i64 5))]}]) c_Sn_45) (.skip)
def c_Sn_51:VC:=
 .seq (.r 16 [oF 84 3 1,
  oL 85 84 1,
  {op:=.conv 86 .i64 (.s 85)},
  M 2 86]) (.ret)
def c_Sn_49:VC:=
 .seq (.r 15 [M 79 0,
  oF 80 3 2,
  oL 81 80 1,
  {op:=.nck 82 (.s 79)},
  oF 83 82 1,
  oS 83 81 1]) c_Sn_51
def c_Sn_39:VC:=
 .seq (.seq (.r 12 [oF 74 3 1,
  oL 75 74 1,
  {op:=.bin 76 .gtr (.s 75) (.k (.int .u64 4611686018427387904))}]) c_Sn_42) c_Sn_49
def c_Sn_12:VC:=
 .seq (.seq (.r 4 [oF 19 3 0,
  oL 20 19 1,
  {op:=.un 21 .not (.s 20)}]) c_Sn_15) c_Sn_39
def c_Sn_10:VC:=
 .seq (.d 3 [(0,M 10 0),
  (1,{op:=.nckv 11 (.s 10)}),
  (2,oG 12 11 0),
  (3,oV 13 12 1),
  (4,M 14 0),
  (5,{op:=.nckv 15 (.s 14)}),
  (6,oG 16 15 1),
  (7,oV 17 16 1),
  (8,{op:=.call 18 138 [(.s 13),(.s 17)]}),
  (9,{op:=.alloc 3 [.k (.bool false),.k (.int .u64 0),.k (.int .i64 0)]}),
  (10,oS 3 18 3)]) c_Sn_12
def c_Sn_2:VC:=
 .seq (.seq (.r 1 [M 5 0,
  {op:=.nck 6 (.s 5)},
  oF 7 6 2,
  oL 8 7 1,
  {op:=.bin 9 .neq (.s 8) (.k (.int .i64 0))}]) c_Sn_5) c_Sn_10
def c_Sn_0:VC:=
 .seq (.r 0 [oN 2 0]) c_Sn_2
def vf_Sn:VF:={ pm:=[.mb [.ro [.sc],.sc,.sc,.own q3,.own [.sc,.sc,.sc,.sc,.own [.sc]],.sc,.sc,.own q3]],rm:=[.v [.sc]],nslots:=87,res:=[2],rc:=[],code:=.kp [0] c_Sn_0 }
def c_Se_10:VC:=
 .ite (.s 7) (.skip) (.exit 0)
def c_Se_17:VC:=
 .ite (.s 19) (.seq (.r 5 [oK 2 false]) (.ret)) (.skip)
def c_Se_22:VC:=
 .r 3 [M 8 3,
  {op:=.bin 9 .add (.s 8) (.k (.int .i64 1))},
  M 3 9]
def c_Se_13:VC:=
 .seq (.blk 1 (.seq (.r 4 [M 10 0,
  M 11 3,
  {op:=.idx 12 (.s 10) (.s 11)},
  {op:=.bin 13 .lss (.s 12) (.k (.int .u8 32))},
  M 14 13,
  ⟨none,[],some (14,false),.mv 15 (.s 0)⟩,
  ⟨none,[],some (14,false),.mv 16 (.s 3)⟩,
  ⟨none,[],some (14,false),.idx 17 (.s 15) (.s 16)⟩,
  ⟨none,[],some (14,false),.bin 18 .gtr (.s 17) (.k (.int .u8 126))⟩,
  {op:=.pick 19 (.s 14) (.k (.bool true)) (.s 18)}]) c_Se_17)) c_Se_22
def c_Se_7:VC:=
 .seq (.seq (.r 2 [M 4 3,
  M 5 0,
  {op:=.slen 6 (.s 5)},
  {op:=.bin 7 .lss (.s 4) (.s 6)}]) c_Se_10) c_Se_13
def c_Se_5:VC:=
 .blk 0 (.loop [0,3] c_Se_7)
def c_Se_23:VC:=
 .seq (.r 6 [oK 2 true]) (.ret)
def c_Se_2:VC:=
 .seq (.seq (.r 1 [oN 3 0]) c_Se_5) (.kp [] c_Se_23)
def c_Se_0:VC:=
 .seq (.r 0 [oK 2 false]) c_Se_2
def vf_Se:VF:={ pm:=[.ro [.sc]],rm:=[.v [.sc]],nslots:=20,res:=[2],rc:=[],code:=.kp [0] c_Se_0 }
def c_Sv_2:VC:=
 .seq (.r 1 [oF 3 1 0,
  oL 4 3 1,
  {op:=.bin 5 .geq (.s 4) (.k (.int .i64 1))},
  M 6 5,
  ⟨none,[],some (6,true),.fadr 7 (.s 1) 0⟩,
  ⟨none,[],some (6,true),.ld 8 (.s 7) 1 false⟩,
  ⟨none,[],some (6,true),.bin 9 .leq (.s 8) (.k (.int .i64 6))⟩,
  {op:=.pick 10 (.s 6) (.s 9) (.k (.bool false))},
  M 11 10,
  ⟨none,[],some (11,true),.fadr 12 (.s 1) 1⟩,
  ⟨none,[],some (11,true),.ld 13 (.s 12) 1 false⟩,
  ⟨none,[],some (11,true),.bin 14 .geq (.s 13) (.k (.int .i64 1))⟩,
  {op:=.pick 15 (.s 11) (.s 14) (.k (.bool false))},
  M 16 15,
  ⟨none,[],some (16,true),.fadr 17 (.s 1) 1⟩,
  ⟨none,[],some (16,true),.ld 18 (.s 17) 1 false⟩,
  ⟨none,[],some (16,true),.bin 19 .leq (.s 18) (.k (.int .i64 1000000))⟩,
  {op:=.pick 20 (.s 16) (.s 19) (.k (.bool false))},
  M 21 20,
  ⟨none,[],some (21,true),.fadr 22 (.s 1) 2⟩,
  ⟨none,[],some (21,true),.ld 23 (.s 22) 1 false⟩,
  ⟨none,[],some (21,true),.slen 24 (.s 23)⟩,
  ⟨none,[],some (21,true),.bin 25 .leq (.s 24) (.k (.int .i64 40))⟩,
  {op:=.pick 26 (.s 21) (.s 25) (.k (.bool false))},
  M 27 26,
  ⟨none,[],some (27,true),.fadr 28 (.s 1) 2⟩,
  ⟨none,[],some (27,true),.ld 29 (.s 28) 1 false⟩,
  ⟨none,[],some (27,true),.call 30 139 [(.s 29)]⟩,
  {op:=.pick 31 (.s 27) (.s 30) (.k (.bool false))},
  M 2 31]) (.ret)
def c_Sv_0:VC:=
 .seq (.r 0 [{op:=.box 1 (.s 0)},
  oK 2 false]) c_Sv_2
def vf_Sv:VF:={ pm:=[.ro q3],rm:=[.v [.sc]],nslots:=32,res:=[2],rc:=[],code:=.kp [0] c_Sv_0 }
def c_Sx_19:VC:=
 .r 5 [M 12 3,
  {op:=.bin 13 .mul (.s 12) (.k (.int .i64 256))},
  M 14 5,
  {op:=.conv 15 .i64 (.s 14)},
  {op:=.bin 16 .add (.s 13) (.s 15)},
  M 3 16]
def c_Sx_20:VC:=
 .r 6 [{op:=.bin 17 .add (.s 8) (.k (.int .i64 1))},
  M 8 17]
def c_Sx_15:VC:=
 .seq (.blk 1 (.seq (.r 4 [oX 10 6 8 1,
  oL 11 10 1,
  M 5 11]) c_Sx_19)) c_Sx_20
def c_Sx_11:VC:=
 .seq (.ite (.s 9) (.skip) (.exit 0)) c_Sx_15
def c_Sx_9:VC:=
 .seq (.r 3 [{op:=.bin 9 .lss (.s 8) (.s 7)}]) c_Sx_11
def c_Sx_7:VC:=
 .blk 0 (.loop [3,6,7,8] c_Sx_9)
def c_Sx_21:VC:=
 .seq (.r 7 [M 18 3,
  M 2 18]) (.ret)
def c_Sx_4:VC:=
 .seq (.seq (.r 2 [M 6 0,
  {op:=.len 7 (.s 6)},
  oN 8 0]) c_Sx_7) (.kp [3] c_Sx_21)
def c_Sx_2:VC:=
 .seq (.r 1 [oN 3 0]) c_Sx_4
def c_Sx_0:VC:=
 .seq (.r 0 [oN 2 0]) c_Sx_2
def vf_Sx:VF:={ pm:=[.ro [.ro [.sc]]],rm:=[.v [.sc]],nslots:=19,res:=[2],rc:=[],code:=.kp [0] c_Sx_0 }
def c_Sa_28:VC:=
 .ite (.s 19) (.skip) (.exit 2)
def c_Sa_39:VC:=
 .ite (.s 27) (.r 12 [M 28 3,
  {op:=.bin 29 .xor (.s 28) (.k (.int .u32 3988292384))},
  M 3 29]) (.skip)
def c_Sa_37:VC:=
 .seq (.r 11 [M 26 7,
  {op:=.bin 27 .eql (.s 26) (.k (.int .u32 1))}]) c_Sa_39
def c_Sa_35:VC:=
 .seq (.r 10 [M 24 3,
  {op:=.bin 25 .shr (.s 24) (.k (.int .u64 1))},
  M 3 25]) c_Sa_37
def c_Sa_42:VC:=
 .r 8 [M 20 6,
  {op:=.bin 21 .add (.s 20) (.k (.int .i64 1))},
  M 6 21]
def c_Sa_31:VC:=
 .seq (.blk 3 (.seq (.r 9 [M 22 3,
  {op:=.bin 23 .and (.s 22) (.k (.int .u32 1))},
  M 7 23]) c_Sa_35)) c_Sa_42
def c_Sa_25:VC:=
 .seq (.seq (.r 7 [M 18 6,
  {op:=.bin 19 .lss (.s 18) (.k (.int .i64 8))}]) c_Sa_28) c_Sa_31
def c_Sa_23:VC:=
 .blk 2 (.loop [3,6,8,9,10] c_Sa_25)
def c_Sa_21:VC:=
 .seq (.r 6 [oN 6 0]) c_Sa_23
def c_Sa_19:VC:=
 .seq (.r 5 [M 14 3,
  M 15 5,
  {op:=.conv 16 .u32 (.s 15)},
  {op:=.bin 17 .xor (.s 14) (.s 16)},
  M 3 17]) c_Sa_21
def c_Sa_43:VC:=
 .r 13 [{op:=.bin 30 .add (.s 10) (.k (.int .i64 1))},
  M 10 30]
def c_Sa_15:VC:=
 .seq (.blk 1 (.seq (.r 4 [oX 12 8 10 1,
  oL 13 12 1,
  M 5 13]) c_Sa_19)) (.kp [3,8,9,10] c_Sa_43)
def c_Sa_11:VC:=
 .seq (.ite (.s 11) (.skip) (.exit 0)) c_Sa_15
def c_Sa_9:VC:=
 .seq (.r 3 [{op:=.bin 11 .lss (.s 10) (.s 9)}]) c_Sa_11
def c_Sa_7:VC:=
 .blk 0 (.loop [3,8,9,10] c_Sa_9)
def c_Sa_44:VC:=
 .seq (.r 14 [M 31 3,
  {op:=.un 32 .xor (.s 31)},
  M 2 32]) (.ret)
def c_Sa_4:VC:=
 .seq (.seq (.r 2 [M 8 0,
  {op:=.len 9 (.s 8)},
  oN 10 0]) c_Sa_7) (.kp [3] c_Sa_44)
def c_Sa_2:VC:=
 .seq (.r 1 [{op:=.mv 3 (.k (.int .u32 4294967295))}]) c_Sa_4
def c_Sa_0:VC:=
 .seq (.r 0 [{op:=.mv 2 (.k (.int .u32 0))}]) c_Sa_2
def vf_Sa:VF:={ pm:=[.ro [.ro [.sc]]],rm:=[.v [.sc]],nslots:=33,res:=[2],rc:=[],code:=.kp [0] c_Sa_0 }
def c_Sq_6:VC:=
 .ite (.s 30) (.r 3 [M 31 0,
  {op:=.call 32 94 [(.s 31),(.k (.int .i64 3))]}]) (.skip)
def c_Sq_4:VC:=
 .seq (.d 2 [(0,M 12 0),
  (1,{op:=.nckv 13 (.s 12)}),
  (2,oG 14 13 2),
  (3,oV 15 14 1),
  (4,{op:=.bin 16 .eql (.s 15) (.k (.int .i64 0))}),
  (5,M 17 16),
  (6,⟨none,[],some (17,true),.mv 18 (.s 5)⟩),
  (7,⟨none,[],some (17,true),.call 19 140 [(.s 18)]⟩),
  (8,⟨none,[],some (17,true),.conv 20 .u32 (.s 19)⟩),
  (9,⟨none,[],some (17,true),.mv 21 (.s 0)⟩),
  (10,⟨none,[],some (17,true),.nckv 22 (.s 21)⟩),
  (11,⟨none,[],some (17,true),.fadv 23 (.s 22) 0⟩),
  (12,⟨none,[],some (17,true),.ldv 24 (.s 23) 1 false⟩),
  (13,⟨none,[],some (17,true),.mv 25 (.s 1)⟩),
  (14,⟨none,[],some (17,true),.mv 26 (.s 4)⟩),
  (15,⟨none,[],some (17,true),.slc 27 (.s 24) (some (.s 25)) (some (.s 26)) 1⟩),
  (16,⟨none,[],some (17,true),.call 28 107 [(.s 27)]⟩),
  (17,⟨none,[],some (17,true),.bin 29 .neq (.s 20) (.s 28)⟩),
  (18,{op:=.pick 30 (.s 17) (.s 29) (.k (.bool false))})]) (.kp [0,30] c_Sq_6)
def c_Sq_2:VC:=
 .seq (.r 1 [M 10 0,
  {op:=.call 11 96 [(.s 10),(.k (.int .i64 4))]},
  M 5 11]) c_Sq_4
def c_Sq_0:VC:=
 .seq (.r 0 [M 6 0,
  {op:=.nck 7 (.s 6)},
  oF 8 7 1,
  oL 9 8 1,
  M 4 9]) c_Sq_2
def vf_Sq:VF:={ pm:=[.mb [.ro [.sc],.sc,.sc,.own q3,.own [.sc,.sc,.sc,.sc,.own [.sc]],.sc,.sc,.own q3],.ro [.sc]],rm:=[],nslots:=33,res:=[],rc:=[],code:=.kp [0,1] c_Sq_0 }
def c_Sk_19:VC:=
 .ite (.s 26) (.r 5 [M 27 0,
  {op:=.call 28 94 [(.s 27),(.k (.int .i64 4))]}]) (.skip)
def c_Sk_17:VC:=
 .seq (.r 4 [M 16 0,
  {op:=.nck 17 (.s 16)},
  oF 18 17 2,
  oL 19 18 1,
  {op:=.bin 20 .eql (.s 19) (.k (.int .i64 0))},
  M 21 20,
  ⟨none,[],some (21,true),.mv 22 (.s 4)⟩,
  ⟨none,[],some (21,true),.mv 23 (.s 3)⟩,
  ⟨none,[],some (21,true),.conv 24 .i64 (.s 23)⟩,
  ⟨none,[],some (21,true),.bin 25 .neq (.s 22) (.s 24)⟩,
  {op:=.pick 26 (.s 21) (.s 25) (.k (.bool false))}]) (.kp [0,8,9,10,26] c_Sk_19)
def c_Sk_15:VC:=
 .seq (.r 3 [M 14 0,
  {op:=.call 15 93 [(.s 14)]},
  M 4 15]) c_Sk_17
def c_Sk_22:VC:=
 .r 6 [{op:=.bin 29 .add (.s 10) (.k (.int .i64 1))},
  M 10 29]
def c_Sk_11:VC:=
 .seq (.blk 1 (.seq (.r 2 [oX 12 8 10 1,
  oL 13 12 1,
  M 3 13]) c_Sk_15)) c_Sk_22
def c_Sk_7:VC:=
 .seq (.ite (.s 11) (.skip) (.exit 0)) c_Sk_11
def c_Sk_5:VC:=
 .seq (.r 1 [{op:=.bin 11 .lss (.s 10) (.s 9)}]) c_Sk_7
def c_Sk_3:VC:=
 .blk 0 (.loop [0,8,9,10] c_Sk_5)
def c_Sk_28:VC:=
 .ite (.s 44) (.r 9 [M 45 0,
  {op:=.call 46 94 [(.s 45),(.k (.int .i64 5))]}]) (.skip)
def c_Sk_39:VC:=
 .ite (.s 56) (.skip) (.exit 2)
def c_Sk_55:VC:=
 .ite (.s 81) (.r 18 [M 82 0,
  {op:=.call 83 94 [(.s 82),(.k (.int .i64 5))]}]) (.skip)
def c_Sk_58:VC:=
 .d 19 [(0,M 84 0),
  (1,M 85 0),
  (2,{op:=.nckv 86 (.s 85)}),
  (3,oG 87 86 3),
  (4,oG 88 87 0),
  (5,oV 89 88 1),
  (6,{op:=.ldv 90 (.s 7) 3 true}),
  (7,{op:=.lits 91 q3 [(.s 90)]}),
  (8,{op:=.app 92 (.s 89) (.s 91) q3 4398046511104}),
  (9,{op:=.nckv 93 (.s 84)}),
  (10,oG 94 93 3),
  (11,oG 95 94 0),
  (12,oS 95 92 1)]
def c_Sk_52:VC:=
 .seq (.seq (.r 17 [M 72 0,
  {op:=.nck 73 (.s 72)},
  oF 74 73 2,
  oL 75 74 1,
  {op:=.bin 76 .eql (.s 75) (.k (.int .i64 0))},
  M 77 76,
  ⟨none,[],some (77,true),.ld 78 (.s 7) 3 true⟩,
  ⟨none,[],some (77,true),.call 79 97 [(.s 78)]⟩,
  ⟨none,[],some (77,true),.un 80 .not (.s 79)⟩,
  {op:=.pick 81 (.s 77) (.s 80) (.k (.bool false))}]) (.kp [0,5,6,7,81] c_Sk_55)) (.kp [0,5,6,7] c_Sk_58)
def c_Sk_50:VC:=
 .seq (.r 16 [M 66 0,
  M 67 0,
  {op:=.call 68 93 [(.s 67)]},
  {op:=.call 69 96 [(.s 66),(.s 68)]},
  {op:=.b2s 70 (.s 69)},
  oF 71 7 2,
  oS 71 70 1]) c_Sk_52
def c_Sk_48:VC:=
 .seq (.r 15 [M 63 0,
  {op:=.call 64 95 [(.s 63)]},
  oF 65 7 1,
  oS 65 64 1]) c_Sk_50
def c_Sk_46:VC:=
 .seq (.r 14 [M 60 0,
  {op:=.call 61 93 [(.s 60)]},
  oF 62 7 0,
  oS 62 61 1]) c_Sk_48
def c_Sk_59:VC:=
 .r 12 [M 57 6,
  {op:=.bin 58 .add (.s 57) (.k (.int .i64 1))},
  M 6 58]
def c_Sk_42:VC:=
 .seq (.blk 3 (.seq (.r 13 [{op:=.bld 59 [.k (.int .i64 0),.k (.int .i64 0),.k (.string (ByteArray.mk #[]))] []},
  {op:=.alloc 7 [.k (.int .i64 0),.k (.int .i64 0),.k (.string (ByteArray.mk #[]))]},
  oS 7 59 3]) c_Sk_46)) c_Sk_59
def c_Sk_36:VC:=
 .seq (.seq (.r 11 [M 47 6,
  M 48 5,
  {op:=.bin 49 .lss (.s 47) (.s 48)},
  M 50 49,
  ⟨none,[],some (50,true),.mv 51 (.s 0)⟩,
  ⟨none,[],some (50,true),.nck 52 (.s 51)⟩,
  ⟨none,[],some (50,true),.fadr 53 (.s 52) 2⟩,
  ⟨none,[],some (50,true),.ld 54 (.s 53) 1 false⟩,
  ⟨none,[],some (50,true),.bin 55 .eql (.s 54) (.k (.int .i64 0))⟩,
  {op:=.pick 56 (.s 50) (.s 55) (.k (.bool false))}]) c_Sk_39) c_Sk_42
def c_Sk_34:VC:=
 .blk 2 (.loop [0,5,6] c_Sk_36)
def c_Sk_60:VC:=
 .r 20 [M 96 0,
  {op:=.call 97 98 [(.s 96),(.k (.int .i64 0))]}]
def c_Sk_31:VC:=
 .seq (.seq (.r 10 [oN 6 0]) c_Sk_34) (.kp [0] c_Sk_60)
def c_Sk_25:VC:=
 .seq (.seq (.r 8 [M 32 0,
  {op:=.nck 33 (.s 32)},
  oF 34 33 2,
  oL 35 34 1,
  {op:=.bin 36 .eql (.s 35) (.k (.int .i64 0))},
  M 37 36,
  ⟨none,[],some (37,true),.mv 38 (.s 5)⟩,
  ⟨none,[],some (37,true),.bin 39 .lss (.s 38) (.k (.int .i64 1))⟩,
  ⟨none,[],some (37,true),.mv 40 (.s 39)⟩,
  ⟨none,[],some (40,false),.mv 41 (.s 5)⟩,
  ⟨none,[],some (40,false),.bin 42 .gtr (.s 41) (.k (.int .i64 8))⟩,
  ⟨none,[],some (37,true),.pick 43 (.s 40) (.k (.bool true)) (.s 42)⟩,
  {op:=.pick 44 (.s 37) (.s 43) (.k (.bool false))}]) (.kp [0,5,44] c_Sk_28)) (.kp [0,5] c_Sk_31)
def c_Sk_23:VC:=
 .seq (.r 7 [M 30 0,
  {op:=.call 31 93 [(.s 30)]},
  M 5 31]) c_Sk_25
def c_Sk_0:VC:=
 .seq (.seq (.r 0 [{op:=.lits 8 [.sc] [(.k (.int .u8 66)),(.k (.int .u8 79)),(.k (.int .u8 88)),(.k (.int .u8 49))]},
  {op:=.len 9 (.s 8)},
  oN 10 0]) c_Sk_3) (.kp [0] c_Sk_23)
def vf_Sk:VF:={ pm:=[.mb [.ro [.sc],.sc,.sc,.own q3,.own [.sc,.sc,.sc,.sc,.own [.sc]],.sc,.sc,.own q3]],rm:=[],nslots:=98,res:=[],rc:=[],code:=.kp [0] c_Sk_0 }
def c_Sh_2:VC:=
 .seq (.r 1 [{op:=.lits 1 [.sc] [(.k (.int .u8 27)),(.k (.int .u8 80)),(.k (.int .u8 73)),(.k (.int .u8 69)),(.k (.int .u8 67)),(.k (.int .u8 69)),(.k (.int .u8 10)),(.k (.int .u8 0))]},
  M 0 1]) (.ret)
def c_Sh_0:VC:=
 .seq (.r 0 [{op:=.nil 0 [.sc]}]) c_Sh_2
def vf_Sh:VF:={ pm:=[],rm:=[.v [.own [.sc]]],nslots:=2,res:=[0],rc:=[],code:=.kp [] c_Sh_0 }
def c_Sm_5:VC:=
 .ite (.s 17) (.seq (.r 2 [oK 4 false]) (.ret)) (.skip)
def c_Sm_27:VC:=
 .ite (.s 38) (.seq (.r 7 [oK 4 false]) (.ret)) (.skip)
def c_Sm_25:VC:=
 .seq (.d 6 [(0,M 25 0),
  (1,{op:=.nckv 26 (.s 25)}),
  (2,oG 27 26 0),
  (3,oV 28 27 1),
  (4,M 29 0),
  (5,{op:=.nckv 30 (.s 29)}),
  (6,oG 31 30 1),
  (7,oV 32 31 1),
  (8,M 33 5),
  (9,{op:=.bin 34 .add (.s 32) (.s 33)}),
  (10,oX 35 28 34 1),
  (11,oV 36 35 1),
  (12,M 37 6),
  (13,{op:=.bin 38 .neq (.s 36) (.s 37)})]) c_Sm_27
def c_Sm_32:VC:=
 .r 8 [{op:=.bin 39 .add (.s 20) (.k (.int .i64 1))},
  M 20 39]
def c_Sm_21:VC:=
 .seq (.blk 1 (.seq (.r 5 [M 22 20,
  oX 23 18 20 1,
  oL 24 23 1,
  M 5 22,
  M 6 24]) c_Sm_25)) c_Sm_32
def c_Sm_17:VC:=
 .seq (.ite (.s 21) (.skip) (.exit 0)) c_Sm_21
def c_Sm_15:VC:=
 .seq (.r 4 [{op:=.bin 21 .lss (.s 20) (.s 19)}]) c_Sm_17
def c_Sm_13:VC:=
 .blk 0 (.loop [0,18,19,20] c_Sm_15)
def c_Sm_33:VC:=
 .seq (.r 9 [oK 4 true]) (.ret)
def c_Sm_10:VC:=
 .seq (.seq (.r 3 [M 18 1,
  {op:=.len 19 (.s 18)},
  oN 20 0]) c_Sm_13) (.kp [0] c_Sm_33)
def c_Sm_2:VC:=
 .seq (.seq (.d 1 [(0,M 7 0),
  (1,{op:=.nckv 8 (.s 7)}),
  (2,oG 9 8 0),
  (3,oV 10 9 1),
  (4,{op:=.len 11 (.s 10)}),
  (5,M 12 0),
  (6,{op:=.nckv 13 (.s 12)}),
  (7,oG 14 13 1),
  (8,oV 15 14 1),
  (9,{op:=.bin 16 .sub (.s 11) (.s 15)}),
  (10,{op:=.bin 17 .lss (.s 16) (.k (.int .i64 8))})]) c_Sm_5) c_Sm_10
def c_Sm_0:VC:=
 .seq (.r 0 [oK 4 false]) c_Sm_2
def vf_Sm:VF:={ pm:=[.mb [.ro [.sc],.sc,.sc,.own q3,.own [.sc,.sc,.sc,.sc,.own [.sc]],.sc,.sc,.own q3],.ro [.ro [.sc]]],rm:=[.v [.sc]],nslots:=40,res:=[4],rc:=[],code:=.kp [0,1] c_Sm_0 }
def c_Su_2:VC:=
 .seq (.r 1 [M 3 0,
  {op:=.bin 4 .geq (.s 3) (.k (.int .i64 0))},
  M 5 4,
  ⟨none,[],some (5,true),.mv 6 (.s 0)⟩,
  ⟨none,[],some (5,true),.bin 7 .leq (.s 6) (.k (.int .i64 1000000000))⟩,
  {op:=.pick 8 (.s 5) (.s 7) (.k (.bool false))},
  M 2 8]) (.ret)
def c_Su_0:VC:=
 .seq (.r 0 [oK 2 false]) c_Su_2
def vf_Su:VF:={ pm:=[.ro [.sc]],rm:=[.v [.sc]],nslots:=9,res:=[2],rc:=[],code:=.kp [0] c_Su_0 }
def c_So_11:VC:=
 .ite (.s 43) (.r 5 [M 44 0,
  {op:=.call 45 94 [(.s 44),(.k (.int .i64 6))]}]) (.skip)
def c_So_19:VC:=
 .ite (.s 60) (.r 8 [M 61 0,
  {op:=.call 62 94 [(.s 61),(.k (.int .i64 5))]}]) (.skip)
def c_So_25:VC:=
 .ite (.s 78) (.r 10 [M 79 0,
  {op:=.call 80 94 [(.s 79),(.k (.int .i64 7))]}]) (.skip)
def c_So_42:VC:=
 .ite (.s 94) (.skip) (.exit 0)
def c_So_64:VC:=
 .ite (.s 145) (.r 25 [M 146 0,
  {op:=.call 147 94 [(.s 146),(.k (.int .i64 5))]}]) (.skip)
def c_So_70:VC:=
 .ite (.s 158) (.r 27 [M 159 0,
  {op:=.call 160 94 [(.s 159),(.k (.int .i64 7))]}]) (.skip)
def c_So_77:VC:=
 .r 30 [M 168 10,
  M 169 15,
  {op:=.lits 170 [.sc] [(.s 169)]},
  {op:=.app 171 (.s 168) (.s 170) [.sc] 17592186044416},
  M 10 171]
def c_So_75:VC:=
 .seq (.r 29 [M 164 9,
  {op:=.ld 165 (.s 13) 5 true},
  {op:=.lits 166 [.sc,.sc,.sc,.sc,.own [.sc]] [(.s 165)]},
  {op:=.app 167 (.s 164) (.s 166) [.sc,.sc,.sc,.sc,.own [.sc]] 2513169434916},
  M 9 167]) c_So_77
def c_So_73:VC:=
 .seq (.r 28 [M 161 11,
  M 162 15,
  {op:=.bin 163 .add (.s 161) (.s 162)},
  M 11 163]) c_So_75
def c_So_67:VC:=
 .seq (.seq (.r 26 [M 148 0,
  {op:=.nck 149 (.s 148)},
  oF 150 149 2,
  oL 151 150 1,
  {op:=.bin 152 .eql (.s 151) (.k (.int .i64 0))},
  M 153 152,
  ⟨none,[],some (153,true),.mv 154 (.s 15)⟩,
  ⟨none,[],some (153,true),.mv 155 (.s 11)⟩,
  ⟨none,[],some (153,true),.bin 156 .sub (.k (.int .i64 60000)) (.s 155)⟩,
  ⟨none,[],some (153,true),.bin 157 .gtr (.s 154) (.s 156)⟩,
  {op:=.pick 158 (.s 153) (.s 157) (.k (.bool false))}]) (.kp [0,6,7,8,9,10,11,12,13,15,158] c_So_70)) (.kp [0,6,7,8,9,10,11,12,13,15] c_So_73)
def c_So_61:VC:=
 .seq (.seq (.d 24 [(0,M 114 0),
  (1,{op:=.nckv 115 (.s 114)}),
  (2,oG 116 115 2),
  (3,oV 117 116 1),
  (4,{op:=.bin 118 .eql (.s 117) (.k (.int .i64 0))}),
  (5,M 119 118),
  (6,⟨none,[],some (119,true),.fadv 120 (.s 13) 0⟩),
  (7,⟨none,[],some (119,true),.ldv 121 (.s 120) 1 false⟩),
  (8,⟨none,[],some (119,true),.mv 122 (.s 0)⟩),
  (9,⟨none,[],some (119,true),.nckv 123 (.s 122)⟩),
  (10,⟨none,[],some (119,true),.fadv 124 (.s 123) 3⟩),
  (11,⟨none,[],some (119,true),.fadv 125 (.s 124) 0⟩),
  (12,⟨none,[],some (119,true),.ldv 126 (.s 125) 1 false⟩),
  (13,⟨none,[],some (119,true),.len 127 (.s 126)⟩),
  (14,⟨none,[],some (119,true),.bin 128 .geq (.s 121) (.s 127)⟩),
  (15,⟨none,[],some (119,true),.mv 129 (.s 128)⟩),
  (16,⟨none,[],some (129,false),.fadv 130 (.s 13) 1⟩),
  (17,⟨none,[],some (129,false),.ldv 131 (.s 130) 1 false⟩),
  (18,⟨none,[],some (129,false),.call 132 127 [(.s 131)]⟩),
  (19,⟨none,[],some (129,false),.un 133 .not (.s 132)⟩),
  (20,⟨none,[],some (119,true),.pick 134 (.s 129) (.k (.bool true)) (.s 133)⟩),
  (21,⟨none,[],some (119,true),.mv 135 (.s 134)⟩),
  (22,⟨none,[],some (135,false),.fadv 136 (.s 13) 2⟩),
  (23,⟨none,[],some (135,false),.ldv 137 (.s 136) 1 false⟩),
  (24,⟨none,[],some (135,false),.call 138 127 [(.s 137)]⟩),
  (25,⟨none,[],some (135,false),.un 139 .not (.s 138)⟩),
  (26,⟨none,[],some (119,true),.pick 140 (.s 135) (.k (.bool true)) (.s 139)⟩),
  (27,⟨none,[],some (119,true),.mv 141 (.s 140)⟩),
  (28,⟨none,[],some (141,false),.mv 142 (.s 14)⟩),
  (29,⟨none,[],some (141,false),.bin 143 .gtr (.s 142) (.k (.int .i64 1))⟩),
  (30,⟨none,[],some (119,true),.pick 144 (.s 141) (.k (.bool true)) (.s 143)⟩),
  (31,{op:=.pick 145 (.s 119) (.s 144) (.k (.bool false))})]) (.kp [0,6,7,8,9,10,11,12,13,15,145] c_So_64)) (.kp [0,6,7,8,9,10,11,12,13,15] c_So_67)
def c_So_59:VC:=
 .seq (.r 23 [M 111 14,
  {op:=.bin 112 .eql (.s 111) (.k (.int .i64 1))},
  oF 113 13 3,
  oS 113 112 1]) c_So_61
def c_So_57:VC:=
 .seq (.r 22 [M 109 0,
  {op:=.call 110 95 [(.s 109)]},
  M 15 110]) c_So_59
def c_So_55:VC:=
 .seq (.r 21 [M 107 0,
  {op:=.call 108 95 [(.s 107)]},
  M 14 108]) c_So_57
def c_So_53:VC:=
 .seq (.r 20 [M 104 0,
  {op:=.call 105 95 [(.s 104)]},
  oF 106 13 2,
  oS 106 105 1]) c_So_55
def c_So_51:VC:=
 .seq (.r 19 [M 101 0,
  {op:=.call 102 95 [(.s 101)]},
  oF 103 13 1,
  oS 103 102 1]) c_So_53
def c_So_49:VC:=
 .seq (.r 18 [M 98 0,
  {op:=.call 99 95 [(.s 98)]},
  oF 100 13 0,
  oS 100 99 1]) c_So_51
def c_So_78:VC:=
 .r 16 [M 95 12,
  {op:=.bin 96 .add (.s 95) (.k (.int .i64 1))},
  M 12 96]
def c_So_45:VC:=
 .seq (.blk 1 (.seq (.r 17 [{op:=.bld 97 [.k (.int .i64 0),.k (.int .i64 0),.k (.int .i64 0),.k (.bool false),.o [.sc]] []},
  {op:=.alloc 13 [.k (.int .i64 0),.k (.int .i64 0),.k (.int .i64 0),.k (.bool false),.o [.sc]]},
  oS 13 97 5]) c_So_49)) c_So_78
def c_So_39:VC:=
 .seq (.seq (.r 15 [M 85 12,
  M 86 8,
  {op:=.bin 87 .lss (.s 85) (.s 86)},
  M 88 87,
  ⟨none,[],some (88,true),.mv 89 (.s 0)⟩,
  ⟨none,[],some (88,true),.nck 90 (.s 89)⟩,
  ⟨none,[],some (88,true),.fadr 91 (.s 90) 2⟩,
  ⟨none,[],some (88,true),.ld 92 (.s 91) 1 false⟩,
  ⟨none,[],some (88,true),.bin 93 .eql (.s 92) (.k (.int .i64 0))⟩,
  {op:=.pick 94 (.s 88) (.s 93) (.k (.bool false))}]) c_So_42) c_So_45
def c_So_37:VC:=
 .blk 0 (.loop [0,6,7,8,9,10,11,12] c_So_39)
def c_So_98:VC:=
 .ite (.s 197) (.exit 2) (.skip)
def c_So_96:VC:=
 .seq (.r 35 [M 193 0,
  {op:=.nck 194 (.s 193)},
  oF 195 194 2,
  oL 196 195 1,
  {op:=.bin 197 .neq (.s 196) (.k (.int .i64 0))}]) c_So_98
def c_So_94:VC:=
 .seq (.d 34 [(0,M 177 9),
  (1,M 178 16),
  (2,M 179 9),
  (3,M 180 16),
  (4,⟨some [9],[],none,.iadr 181 (.s 179) (.s 180) 5⟩),
  (5,⟨some [9],[],none,.fadr 182 (.s 181) 4⟩),
  (6,⟨some [9],[],none,.ld 183 (.s 182) 1 false⟩),
  (7,M 184 0),
  (8,M 185 10),
  (9,M 186 16),
  (10,oX 187 185 186 1),
  (11,oL 188 187 1),
  (12,⟨some [9],[],none,.call 189 96 [(.s 184),(.s 188)]⟩),
  (13,⟨none,[.tk 183 0],none,.app 190 (.s 183) (.s 189) [.sc] 140737488355328⟩),
  (14,oX 191 177 178 5),
  (15,oF 192 191 4),
  (16,oS 192 190 1)]) c_So_96
def c_So_101:VC:=
 .r 36 [{op:=.bin 198 .add (.s 174) (.k (.int .i64 1))},
  M 174 198]
def c_So_90:VC:=
 .seq (.blk 3 (.seq (.r 33 [M 176 174,
  M 16 176]) c_So_94)) c_So_101
def c_So_86:VC:=
 .seq (.ite (.s 175) (.skip) (.exit 2)) c_So_90
def c_So_84:VC:=
 .seq (.r 32 [{op:=.bin 175 .lss (.s 174) (.s 173)}]) c_So_86
def c_So_82:VC:=
 .blk 2 (.loop [0,6,7,9,10,11,173,174] c_So_84)
def c_So_107:VC:=
 .ite (.s 206) (.r 39 [M 207 0,
  M 208 11,
  {op:=.nck 209 (.s 207)},
  oF 210 209 6,
  oS 210 208 1]) (.skip)
def c_So_110:VC:=
 .seq (.r 40 [M 211 7,
  M 212 9,
  M 4 211,
  M 5 212]) (.ret)
def c_So_104:VC:=
 .seq (.seq (.r 38 [M 202 0,
  {op:=.nck 203 (.s 202)},
  oF 204 203 2,
  oL 205 204 1,
  {op:=.bin 206 .eql (.s 205) (.k (.int .i64 0))}]) c_So_107) (.kp [0,7,9] c_So_110)
def c_So_102:VC:=
 .seq (.r 37 [M 199 0,
  M 200 6,
  {op:=.call 201 98 [(.s 199),(.s 200)]}]) c_So_104
def c_So_79:VC:=
 .seq (.seq (.r 31 [M 172 9,
  {op:=.len 173 (.s 172)},
  oN 174 0]) c_So_82) (.kp [0,6,7,9,11] c_So_102)
def c_So_34:VC:=
 .seq (.seq (.r 14 [oN 12 0]) c_So_37) (.kp [0,6,7,9,10,11] c_So_79)
def c_So_32:VC:=
 .seq (.r 13 [M 81 0,
  {op:=.nck 82 (.s 81)},
  oF 83 82 6,
  oL 84 83 1,
  M 11 84]) c_So_34
def c_So_30:VC:=
 .seq (.r 12 [{op:=.nil 10 [.sc]}]) c_So_32
def c_So_28:VC:=
 .seq (.r 11 [{op:=.nil 9 [.sc,.sc,.sc,.sc,.own [.sc]]}]) c_So_30
def c_So_22:VC:=
 .seq (.seq (.r 9 [M 63 0,
  {op:=.nck 64 (.s 63)},
  oF 65 64 2,
  oL 66 65 1,
  {op:=.bin 67 .eql (.s 66) (.k (.int .i64 0))},
  M 68 67,
  ⟨none,[],some (68,true),.mv 69 (.s 0)⟩,
  ⟨none,[],some (68,true),.nck 70 (.s 69)⟩,
  ⟨none,[],some (68,true),.fadr 71 (.s 70) 3⟩,
  ⟨none,[],some (68,true),.fadr 72 (.s 71) 1⟩,
  ⟨none,[],some (68,true),.ld 73 (.s 72) 1 false⟩,
  ⟨none,[],some (68,true),.len 74 (.s 73)⟩,
  ⟨none,[],some (68,true),.mv 75 (.s 8)⟩,
  ⟨none,[],some (68,true),.bin 76 .add (.s 74) (.s 75)⟩,
  ⟨none,[],some (68,true),.bin 77 .gtr (.s 76) (.k (.int .i64 400))⟩,
  {op:=.pick 78 (.s 68) (.s 77) (.k (.bool false))}]) (.kp [0,6,7,8,78] c_So_25)) (.kp [0,6,7,8] c_So_28)
def c_So_16:VC:=
 .seq (.seq (.r 7 [M 48 0,
  {op:=.nck 49 (.s 48)},
  oF 50 49 2,
  oL 51 50 1,
  {op:=.bin 52 .eql (.s 51) (.k (.int .i64 0))},
  M 53 52,
  ⟨none,[],some (53,true),.mv 54 (.s 8)⟩,
  ⟨none,[],some (53,true),.bin 55 .lss (.s 54) (.k (.int .i64 1))⟩,
  ⟨none,[],some (53,true),.mv 56 (.s 55)⟩,
  ⟨none,[],some (56,false),.mv 57 (.s 8)⟩,
  ⟨none,[],some (56,false),.bin 58 .gtr (.s 57) (.k (.int .i64 100))⟩,
  ⟨none,[],some (53,true),.pick 59 (.s 56) (.k (.bool true)) (.s 58)⟩,
  {op:=.pick 60 (.s 53) (.s 59) (.k (.bool false))}]) (.kp [0,6,7,8,60] c_So_19)) (.kp [0,6,7,8] c_So_22)
def c_So_14:VC:=
 .seq (.r 6 [M 46 0,
  {op:=.call 47 95 [(.s 46)]},
  M 8 47]) c_So_16
def c_So_8:VC:=
 .seq (.seq (.r 4 [M 30 0,
  {op:=.nck 31 (.s 30)},
  oF 32 31 2,
  oL 33 32 1,
  {op:=.bin 34 .eql (.s 33) (.k (.int .i64 0))},
  M 35 34,
  ⟨none,[],some (35,true),.mv 36 (.s 1)⟩,
  ⟨none,[],some (35,true),.bin 37 .geq (.s 36) (.k (.int .i64 0))⟩,
  {op:=.pick 38 (.s 35) (.s 37) (.k (.bool false))},
  M 39 38,
  ⟨none,[],some (39,true),.mv 40 (.s 7)⟩,
  ⟨none,[],some (39,true),.mv 41 (.s 1)⟩,
  ⟨none,[],some (39,true),.bin 42 .neq (.s 40) (.s 41)⟩,
  {op:=.pick 43 (.s 39) (.s 42) (.k (.bool false))}]) (.kp [0,6,7,43] c_So_11)) (.kp [0,6,7] c_So_14)
def c_So_6:VC:=
 .seq (.r 3 [M 28 0,
  {op:=.call 29 95 [(.s 28)]},
  M 7 29]) c_So_8
def c_So_4:VC:=
 .seq (.r 2 [M 21 0,
  {op:=.nck 22 (.s 21)},
  oF 23 22 1,
  oL 24 23 1,
  {op:=.bin 25 .add (.s 24) (.k (.int .i64 8))},
  {op:=.nck 26 (.s 21)},
  oF 27 26 1,
  oS 27 25 1]) c_So_6
def c_So_2:VC:=
 .seq (.r 1 [M 17 0,
  {op:=.nck 18 (.s 17)},
  oF 19 18 1,
  oL 20 19 1,
  M 6 20]) c_So_4
def c_So_0:VC:=
 .seq (.r 0 [oN 4 0,
  {op:=.nil 5 [.sc,.sc,.sc,.sc,.own [.sc]]}]) c_So_2
def vf_So:VF:={ pm:=[.mb [.ro [.sc],.sc,.sc,.own q3,.own [.sc,.sc,.sc,.sc,.own [.sc]],.sc,.sc,.own q3],.ro [.sc]],rm:=[.v [.sc],.v [.own [.sc,.sc,.sc,.sc,.own [.sc]]]],nslots:=213,res:=[4,5],rc:=[],code:=.kp [0,1] c_So_0 }
def c_Sp_5:VC:=
 .ite (.s 16) (.skip) (.exit 0)
def c_Sp_16:VC:=
 .ite (.s 34) (.ret) (.skip)
def c_Sp_38:VC:=
 .ite (.s 49) (.d 9 [(0,M 50 0),
  (1,M 51 0),
  (2,{op:=.nckv 52 (.s 51)}),
  (3,oG 53 52 7),
  (4,oV 54 53 1),
  (5,oG 55 6 0),
  (6,oV 56 55 1),
  (7,oG 57 6 1),
  (8,oV 58 57 1),
  (9,M 59 2),
  (10,{op:=.bld 60 [.k (.int .i64 0),.k (.int .i64 0),.k (.int .i64 0)] [(0,1,(.s 56)),(1,1,(.s 58)),(2,1,(.s 59))]}),
  (11,{op:=.lits 61 q3 [(.s 60)]}),
  (12,{op:=.app 62 (.s 54) (.s 61) q3 5864062014805}),
  (13,{op:=.nckv 63 (.s 50)}),
  (14,oG 64 63 7),
  (15,oS 64 62 1)]) (.skip)
def c_Sp_36:VC:=
 .seq (.r 8 [oF 48 6 3,
  oL 49 48 1]) c_Sp_38
def c_Sp_41:VC:=
 .r 10 [{op:=.bin 65 .add (.s 44) (.k (.int .i64 1))},
  M 44 65]
def c_Sp_32:VC:=
 .seq (.blk 3 (.seq (.r 7 [oX 46 42 44 5,
  {op:=.ld 47 (.s 46) 5 true},
  {op:=.alloc 6 [.k (.int .i64 0),.k (.int .i64 0),.k (.int .i64 0),.k (.bool false),.o [.sc]]},
  oS 6 47 5]) c_Sp_36)) c_Sp_41
def c_Sp_28:VC:=
 .seq (.ite (.s 45) (.skip) (.exit 2)) c_Sp_32
def c_Sp_26:VC:=
 .seq (.r 6 [{op:=.bin 45 .lss (.s 44) (.s 43)}]) c_Sp_28
def c_Sp_24:VC:=
 .blk 2 (.loop [0,2,4,42,43,44] c_Sp_26)
def c_Sp_42:VC:=
 .r 11 [M 66 0,
  M 67 0,
  {op:=.nck 68 (.s 67)},
  oF 69 68 3,
  oF 70 69 1,
  oL 71 70 1,
  M 72 4,
  {op:=.app 73 (.s 71) (.s 72) [.sc,.sc,.sc,.sc,.own [.sc]] 2513169434916},
  {op:=.nck 74 (.s 66)},
  oF 75 74 3,
  oF 76 75 1,
  oS 76 73 1]
def c_Sp_21:VC:=
 .seq (.seq (.r 5 [M 42 4,
  {op:=.len 43 (.s 42)},
  oN 44 0]) c_Sp_24) (.kp [0,4] c_Sp_42)
def c_Sp_19:VC:=
 .seq (.r 4 [M 35 0,
  {op:=.nck 36 (.s 35)},
  oF 37 36 5,
  oL 38 37 1,
  {op:=.bin 39 .add (.s 38) (.k (.int .i64 1))},
  {op:=.nck 40 (.s 35)},
  oF 41 40 5,
  oS 41 39 1]) c_Sp_21
def c_Sp_13:VC:=
 .seq (.seq (.r 3 [M 30 0,
  {op:=.nck 31 (.s 30)},
  oF 32 31 2,
  oL 33 32 1,
  {op:=.bin 34 .neq (.s 33) (.k (.int .i64 0))}]) c_Sp_16) c_Sp_19
def c_Sp_11:VC:=
 .seq (.r 2 [M 22 0,
  M 23 0,
  {op:=.nck 24 (.s 23)},
  oF 25 24 5,
  oL 26 25 1,
  {op:=.call 27 81 [(.s 22),(.s 26)]},
  M 21 27,
  {op:=.ext 28 (.s 21) 0},
  {op:=.ext 29 (.s 21) 1},
  M 3 28,
  M 4 29]) c_Sp_13
def c_Sp_8:VC:=
 .blk 1 (.seq (.r 1 [M 17 0,
  {op:=.nck 18 (.s 17)},
  oF 19 18 1,
  oL 20 19 1,
  M 2 20]) c_Sp_11)
def c_Sp_2:VC:=
 .seq (.seq (.r 0 [M 7 0,
  {op:=.nck 8 (.s 7)},
  oF 9 8 2,
  oL 10 9 1,
  {op:=.bin 11 .eql (.s 10) (.k (.int .i64 0))},
  M 12 11,
  ⟨none,[],some (12,true),.mv 13 (.s 0)⟩,
  ⟨none,[],some (12,true),.call 14 80 []⟩,
  ⟨none,[.fz 14 0],some (12,true),.call 15 79 [(.s 13),(.s 14)]⟩,
  {op:=.pick 16 (.s 12) (.s 15) (.k (.bool false))}]) c_Sp_5) c_Sp_8
def c_Sp_0:VC:=
 .blk 0 (.loop [0] c_Sp_2)
def vf_Sp:VF:={ pm:=[.mb [.ro [.sc],.sc,.sc,.own q3,.own [.sc,.sc,.sc,.sc,.own [.sc]],.sc,.sc,.own q3]],rm:=[],nslots:=77,res:=[],rc:=[],code:=.kp [0] c_Sp_0 }
def c_Sg_2:VC:=
 .seq (.r 1 [{op:=.lits 1 [.sc] [(.k (.int .u8 27)),(.k (.int .u8 73)),(.k (.int .u8 78)),(.k (.int .u8 68)),(.k (.int .u8 69)),(.k (.int .u8 88)),(.k (.int .u8 10)),(.k (.int .u8 0))]},
  M 0 1]) (.ret)
def c_Sg_0:VC:=
 .seq (.r 0 [{op:=.nil 0 [.sc]}]) c_Sg_2
def vf_Sg:VF:={ pm:=[],rm:=[.v [.own [.sc]]],nslots:=2,res:=[0],rc:=[],code:=.kp [] c_Sg_0 }
def c_Sw_19:VC:=
 .ite (.s 13) (.seq (.r 5 [oK 2 false]) (.ret)) (.skip)
def c_Sw_17:VC:=
 .seq (.r 4 [{op:=.ld 11 (.s 4) 3 true},
  {op:=.call 12 97 [(.s 11)]},
  {op:=.un 13 .not (.s 12)}]) c_Sw_19
def c_Sw_24:VC:=
 .r 6 [{op:=.bin 14 .add (.s 7) (.k (.int .i64 1))},
  M 7 14]
def c_Sw_13:VC:=
 .seq (.blk 1 (.seq (.r 3 [oX 9 5 7 3,
  {op:=.ld 10 (.s 9) 3 true},
  {op:=.alloc 4 [.k (.int .i64 0),.k (.int .i64 0),.k (.string (ByteArray.mk #[]))]},
  oS 4 10 3]) c_Sw_17)) c_Sw_24
def c_Sw_9:VC:=
 .seq (.ite (.s 8) (.skip) (.exit 0)) c_Sw_13
def c_Sw_7:VC:=
 .seq (.r 2 [{op:=.bin 8 .lss (.s 7) (.s 6)}]) c_Sw_9
def c_Sw_5:VC:=
 .blk 0 (.loop [0,5,6,7] c_Sw_7)
def c_Sw_25:VC:=
 .seq (.r 7 [M 15 0,
  {op:=.len 16 (.s 15)},
  {op:=.bin 17 .geq (.s 16) (.k (.int .i64 1))},
  M 18 17,
  ⟨none,[],some (18,true),.mv 19 (.s 0)⟩,
  ⟨none,[],some (18,true),.len 20 (.s 19)⟩,
  ⟨none,[],some (18,true),.bin 21 .leq (.s 20) (.k (.int .i64 8))⟩,
  {op:=.pick 22 (.s 18) (.s 21) (.k (.bool false))},
  M 2 22]) (.ret)
def c_Sw_2:VC:=
 .seq (.seq (.r 1 [M 5 0,
  {op:=.len 6 (.s 5)},
  oN 7 0]) c_Sw_5) (.kp [0] c_Sw_25)
def c_Sw_0:VC:=
 .seq (.r 0 [oK 2 false]) c_Sw_2
def vf_Sw:VF:={ pm:=[.ro [.ro q3]],rm:=[.v [.sc]],nslots:=23,res:=[2],rc:=[],code:=.kp [0] c_Sw_0 }
def c_St_5:VC:=
 .ite (.s 17) (.seq (.r 2 [oK 2 false]) (.ret)) (.skip)
def c_St_27:VC:=
 .r 7 [M 27 3,
  M 28 4,
  oX 29 27 28 1,
  {op:=.st (.s 29) (.k (.int .i64 (-1))) 1}]
def c_St_28:VC:=
 .r 8 [{op:=.bin 30 .add (.s 24) (.k (.int .i64 1))},
  M 24 30]
def c_St_23:VC:=
 .seq (.blk 1 (.seq (.r 6 [M 26 24,
  M 4 26]) c_St_27)) c_St_28
def c_St_19:VC:=
 .seq (.ite (.s 25) (.skip) (.exit 0)) c_St_23
def c_St_17:VC:=
 .seq (.r 5 [{op:=.bin 25 .lss (.s 24) (.s 23)}]) c_St_19
def c_St_15:VC:=
 .blk 0 (.loop [1,3,23,24] c_St_17)
def c_St_49:VC:=
 .ite (.s 60) (.seq (.r 14 [oK 2 false]) (.ret)) (.skip)
def c_St_57:VC:=
 .ite (.s 81) (.seq (.r 16 [oK 2 false]) (.ret)) (.skip)
def c_St_68:VC:=
 .ite (.s 94) (.seq (.r 20 [oK 2 false]) (.ret)) (.skip)
def c_St_66:VC:=
 .seq (.r 19 [M 93 5,
  {op:=.bin 94 .gtr (.s 93) (.k (.int .i64 60000))}]) c_St_68
def c_St_64:VC:=
 .seq (.r 18 [M 88 5,
  oF 89 7 4,
  oL 90 89 1,
  {op:=.len 91 (.s 90)},
  {op:=.bin 92 .add (.s 88) (.s 91)},
  M 5 92]) c_St_66
def c_St_62:VC:=
 .seq (.r 17 [M 82 3,
  oF 83 7 0,
  oL 84 83 1,
  oF 85 7 1,
  oL 86 85 1,
  oX 87 82 84 1,
  oS 87 86 1]) c_St_64
def c_St_54:VC:=
 .seq (.seq (.d 15 [(0,oG 61 7 1),
  (1,oV 62 61 1),
  (2,M 63 3),
  (3,oG 64 7 0),
  (4,oV 65 64 1),
  (5,oX 66 63 65 1),
  (6,oL 67 66 1),
  (7,{op:=.bin 68 .lss (.s 62) (.s 67)}),
  (8,M 69 68),
  (9,⟨none,[],some (69,false),.mv 70 (.s 3)⟩),
  (10,⟨none,[],some (69,false),.fadv 71 (.s 7) 0⟩),
  (11,⟨none,[],some (69,false),.ldv 72 (.s 71) 1 false⟩),
  (12,⟨none,[],some (69,false),.iadr 73 (.s 70) (.s 72) 1⟩),
  (13,⟨none,[],some (69,false),.ld 74 (.s 73) 1 false⟩),
  (14,⟨none,[],some (69,false),.bin 75 .lss (.s 74) (.k (.int .i64 0))⟩),
  (15,⟨none,[],some (69,false),.mv 76 (.s 75)⟩),
  (16,⟨none,[],some (76,true),.fadv 77 (.s 7) 3⟩),
  (17,⟨none,[],some (76,true),.ldv 78 (.s 77) 1 false⟩),
  (18,⟨none,[],some (76,true),.un 79 .not (.s 78)⟩),
  (19,⟨none,[],some (69,false),.pick 80 (.s 76) (.s 79) (.k (.bool false))⟩),
  (20,{op:=.pick 81 (.s 69) (.k (.bool true)) (.s 80)})]) c_St_57) (.kp [1,3,5,7,32,33,34] c_St_62)
def c_St_46:VC:=
 .seq (.seq (.r 13 [oF 38 7 0,
  oL 39 38 1,
  {op:=.bin 40 .lss (.s 39) (.k (.int .i64 0))},
  M 41 40,
  ⟨none,[],some (41,false),.fadr 42 (.s 7) 0⟩,
  ⟨none,[],some (41,false),.ld 43 (.s 42) 1 false⟩,
  ⟨none,[],some (41,false),.fadr 44 (.s 1) 0⟩,
  ⟨none,[],some (41,false),.ld 45 (.s 44) 1 false⟩,
  ⟨none,[],some (41,false),.len 46 (.s 45)⟩,
  ⟨none,[],some (41,false),.bin 47 .geq (.s 43) (.s 46)⟩,
  {op:=.pick 48 (.s 41) (.k (.bool true)) (.s 47)},
  M 49 48,
  ⟨none,[],some (49,false),.fadr 50 (.s 7) 1⟩,
  ⟨none,[],some (49,false),.ld 51 (.s 50) 1 false⟩,
  ⟨none,[],some (49,false),.call 52 127 [(.s 51)]⟩,
  ⟨none,[],some (49,false),.un 53 .not (.s 52)⟩,
  {op:=.pick 54 (.s 49) (.k (.bool true)) (.s 53)},
  M 55 54,
  ⟨none,[],some (55,false),.fadr 56 (.s 7) 2⟩,
  ⟨none,[],some (55,false),.ld 57 (.s 56) 1 false⟩,
  ⟨none,[],some (55,false),.call 58 127 [(.s 57)]⟩,
  ⟨none,[],some (55,false),.un 59 .not (.s 58)⟩,
  {op:=.pick 60 (.s 55) (.k (.bool true)) (.s 59)}]) c_St_49) c_St_54
def c_St_73:VC:=
 .r 21 [{op:=.bin 95 .add (.s 34) (.k (.int .i64 1))},
  M 34 95]
def c_St_42:VC:=
 .seq (.blk 3 (.seq (.r 12 [oX 36 32 34 5,
  {op:=.ld 37 (.s 36) 5 true},
  {op:=.alloc 7 [.k (.int .i64 0),.k (.int .i64 0),.k (.int .i64 0),.k (.bool false),.o [.sc]]},
  oS 7 37 5]) c_St_46)) c_St_73
def c_St_38:VC:=
 .seq (.ite (.s 35) (.skip) (.exit 2)) c_St_42
def c_St_36:VC:=
 .seq (.r 11 [{op:=.bin 35 .lss (.s 34) (.s 33)}]) c_St_38
def c_St_34:VC:=
 .blk 2 (.loop [1,3,5,32,33,34] c_St_36)
def c_St_74:VC:=
 .seq (.r 22 [oK 2 true]) (.ret)
def c_St_31:VC:=
 .seq (.seq (.r 10 [oF 31 1 1,
  oL 32 31 1,
  {op:=.len 33 (.s 32)},
  oN 34 0]) c_St_34) (.kp [] c_St_74)
def c_St_29:VC:=
 .seq (.r 9 [oN 5 0]) c_St_31
def c_St_12:VC:=
 .seq (.seq (.r 4 [M 22 3,
  {op:=.len 23 (.s 22)},
  oN 24 0]) c_St_15) (.kp [1,3] c_St_29)
def c_St_10:VC:=
 .seq (.r 3 [oF 18 1 0,
  oL 19 18 1,
  {op:=.len 20 (.s 19)},
  {op:=.mk 21 (.s 20) [.sc] [(.int .i64 0)] 17592186044416},
  M 3 21]) c_St_12
def c_St_2:VC:=
 .seq (.seq (.r 1 [oF 8 1 0,
  oL 9 8 1,
  {op:=.call 10 142 [(.s 9)]},
  {op:=.un 11 .not (.s 10)},
  M 12 11,
  ⟨none,[],some (12,false),.fadr 13 (.s 1) 1⟩,
  ⟨none,[],some (12,false),.ld 14 (.s 13) 1 false⟩,
  ⟨none,[],some (12,false),.len 15 (.s 14)⟩,
  ⟨none,[],some (12,false),.bin 16 .gtr (.s 15) (.k (.int .i64 400))⟩,
  {op:=.pick 17 (.s 12) (.k (.bool true)) (.s 16)}]) c_St_5) c_St_10
def c_St_0:VC:=
 .seq (.r 0 [{op:=.box 1 (.s 0)},
  oK 2 false]) c_St_2
def vf_St:VF:={ pm:=[.ro [.ro q3,.ro q5]],rm:=[.v [.sc]],nslots:=96,res:=[2],rc:=[],code:=.kp [0] c_St_0 }
def c_Sf_20:VC:=
 .ite (.s 48) (.seq (.r 8 [oF 54 7 0,
  oL 55 54 1,
  oF 56 8 0,
  oL 57 56 1,
  {op:=.bin 58 .lss (.s 55) (.s 57)},
  M 6 58]) (.ret)) (.skip)
def c_Sf_14:VC:=
 .ite (.s 41) (.seq (.r 6 [M 45 9,
  M 46 10,
  {op:=.bin 47 .lss (.s 45) (.s 46)},
  M 6 47]) (.ret)) (.seq (.r 7 [oF 49 7 0,
  oL 50 49 1,
  oF 51 8 0,
  oL 52 51 1,
  {op:=.bin 53 .neq (.s 50) (.s 52)},
  M 48 53]) c_Sf_20)
def c_Sf_25:VC:=
 .seq (.r 9 [M 59 1,
  M 60 2,
  {op:=.bin 61 .lss (.s 59) (.s 60)},
  M 6 61]) (.ret)
def c_Sf_10:VC:=
 .seq (.blk 0 (.seq (.r 5 [M 42 9,
  M 43 10,
  {op:=.bin 44 .neq (.s 42) (.s 43)},
  M 41 44]) c_Sf_14)) c_Sf_25
def c_Sf_8:VC:=
 .seq (.d 4 [(0,oG 31 8 1),
  (1,oV 32 31 1),
  (2,oG 33 3 0),
  (3,oV 34 33 1),
  (4,oG 35 7 0),
  (5,oV 36 35 1),
  (6,oX 37 34 36 3),
  (7,oG 38 37 1),
  (8,oV 39 38 1),
  (9,{op:=.bin 40 .mul (.s 32) (.s 39)}),
  (10,M 10 40)]) c_Sf_10
def c_Sf_6:VC:=
 .seq (.d 3 [(0,oG 21 7 1),
  (1,oV 22 21 1),
  (2,oG 23 3 0),
  (3,oV 24 23 1),
  (4,oG 25 8 0),
  (5,oV 26 25 1),
  (6,oX 27 24 26 3),
  (7,oG 28 27 1),
  (8,oV 29 28 1),
  (9,{op:=.bin 30 .mul (.s 22) (.s 29)}),
  (10,M 9 30)]) c_Sf_8
def c_Sf_4:VC:=
 .seq (.r 2 [oF 16 3 1,
  oL 17 16 1,
  M 18 2,
  oX 19 17 18 5,
  {op:=.ld 20 (.s 19) 5 true},
  {op:=.alloc 8 [.k (.int .i64 0),.k (.int .i64 0),.k (.int .i64 0),.k (.bool false),.o [.sc]]},
  oS 8 20 5]) c_Sf_6
def c_Sf_2:VC:=
 .seq (.r 1 [oF 11 3 1,
  oL 12 11 1,
  M 13 1,
  oX 14 12 13 5,
  {op:=.ld 15 (.s 14) 5 true},
  {op:=.alloc 7 [.k (.int .i64 0),.k (.int .i64 0),.k (.int .i64 0),.k (.bool false),.o [.sc]]},
  oS 7 15 5]) c_Sf_4
def c_Sf_0:VC:=
 .seq (.r 0 [{op:=.box 3 (.s 0)},
  oK 6 false]) c_Sf_2
def vf_Sf:VF:={ pm:=[.ro [.ro q3,.ro q5],.ro [.sc],.ro [.sc]],rm:=[.v [.sc]],nslots:=62,res:=[6],rc:=[],code:=.kp [0,1,2] c_Sf_0 }
def c_Sc_5:VC:=
 .ite (.s 6) (.seq (.r 2 [oK 2 false]) (.ret)) (.skip)
def c_Sc_18:VC:=
 .ite (.s 11) (.skip) (.exit 0)
def c_Sc_25:VC:=
 .ite (.s 19) (.seq (.r 7 [oK 2 false]) (.ret)) (.skip)
def c_Sc_30:VC:=
 .r 5 [M 12 3,
  {op:=.bin 13 .add (.s 12) (.k (.int .i64 1))},
  M 3 13]
def c_Sc_21:VC:=
 .seq (.blk 1 (.seq (.r 6 [{op:=.ld 14 (.s 1) 2 true},
  M 15 3,
  {op:=.bin 16 .sub (.s 15) (.k (.int .i64 1))},
  M 17 3,
  {op:=.call 18 104 [(.s 14),(.s 16),(.s 17)]},
  {op:=.un 19 .not (.s 18)}]) c_Sc_25)) c_Sc_30
def c_Sc_15:VC:=
 .seq (.seq (.r 4 [M 7 3,
  oF 8 1 1,
  oL 9 8 1,
  {op:=.len 10 (.s 9)},
  {op:=.bin 11 .lss (.s 7) (.s 10)}]) c_Sc_18) c_Sc_21
def c_Sc_13:VC:=
 .blk 0 (.loop [1,3] c_Sc_15)
def c_Sc_31:VC:=
 .seq (.r 8 [oK 2 true]) (.ret)
def c_Sc_10:VC:=
 .seq (.seq (.r 3 [oN 3 1]) c_Sc_13) (.kp [] c_Sc_31)
def c_Sc_2:VC:=
 .seq (.seq (.r 1 [{op:=.ld 4 (.s 1) 2 true},
  {op:=.call 5 103 [(.s 4)]},
  {op:=.un 6 .not (.s 5)}]) c_Sc_5) c_Sc_10
def c_Sc_0:VC:=
 .seq (.r 0 [{op:=.box 1 (.s 0)},
  oK 2 false]) c_Sc_2
def vf_Sc:VF:={ pm:=[.ro [.ro q3,.ro q5]],rm:=[.v [.sc]],nslots:=20,res:=[2],rc:=[],code:=.kp [0] c_Sc_0 }
def c_Sl_3:VC:=
 .ite (.s 25) (.r 1 [M 26 0,
  {op:=.call 27 94 [(.s 26),(.k (.int .i64 2))]}]) (.skip)
def c_Sl_9:VC:=
 .ite (.s 38) (.r 3 [M 39 0,
  {op:=.call 40 94 [(.s 39),(.k (.int .i64 4))]}]) (.skip)
def c_Sl_15:VC:=
 .ite (.s 45) (.ret) (.skip)
def c_Sl_27:VC:=
 .ite (.s 67) (.r 9 [M 68 0,
  {op:=.call 69 94 [(.s 68),(.k (.int .i64 5))]}]) (.skip)
def c_Sl_40:VC:=
 .ite (.s 86) (.skip) (.exit 0)
def c_Sl_53:VC:=
 .d 18 [(0,M 99 4),
  (1,M 100 99),
  (2,⟨none,[],some (100,true),.mv 101 (.s 5)⟩),
  (3,⟨none,[],some (100,true),.mv 102 (.s 0)⟩),
  (4,⟨none,[],some (100,true),.nckv 103 (.s 102)⟩),
  (5,⟨none,[],some (100,true),.fadv 104 (.s 103) 7⟩),
  (6,⟨none,[],some (100,true),.ldv 105 (.s 104) 1 false⟩),
  (7,⟨none,[],some (100,true),.len 106 (.s 105)⟩),
  (8,⟨none,[],some (100,true),.bin 107 .lss (.s 101) (.s 106)⟩),
  (9,{op:=.pick 108 (.s 100) (.s 107) (.k (.bool false))}),
  (10,M 109 108),
  (11,⟨none,[],some (109,true),.mv 110 (.s 0)⟩),
  (12,⟨none,[],some (109,true),.nckv 111 (.s 110)⟩),
  (13,⟨none,[],some (109,true),.fadv 112 (.s 111) 7⟩),
  (14,⟨none,[],some (109,true),.ldv 113 (.s 112) 1 false⟩),
  (15,⟨none,[],some (109,true),.mv 114 (.s 5)⟩),
  (16,⟨none,[],some (109,true),.iadr 115 (.s 113) (.s 114) 3⟩),
  (17,⟨none,[],some (109,true),.ld 116 (.s 115) 3 true⟩),
  (18,⟨none,[],some (109,true),.ldv 117 (.s 6) 3 true⟩),
  (19,⟨none,[],some (109,true),.ceq 118 [.i,.i,.i] false (.s 116) (.s 117)⟩),
  (20,{op:=.pick 119 (.s 109) (.s 118) (.k (.bool false))}),
  (21,M 4 119)]
def c_Sl_51:VC:=
 .seq (.r 17 [M 96 0,
  {op:=.call 97 95 [(.s 96)]},
  oF 98 6 2,
  oS 98 97 1]) c_Sl_53
def c_Sl_49:VC:=
 .seq (.r 16 [M 93 0,
  {op:=.call 94 95 [(.s 93)]},
  oF 95 6 1,
  oS 95 94 1]) c_Sl_51
def c_Sl_47:VC:=
 .seq (.r 15 [M 90 0,
  {op:=.call 91 95 [(.s 90)]},
  oF 92 6 0,
  oS 92 91 1]) c_Sl_49
def c_Sl_54:VC:=
 .r 13 [M 87 5,
  {op:=.bin 88 .add (.s 87) (.k (.int .i64 1))},
  M 5 88]
def c_Sl_43:VC:=
 .seq (.blk 1 (.seq (.r 14 [{op:=.bld 89 [.k (.int .i64 0),.k (.int .i64 0),.k (.int .i64 0)] []},
  {op:=.alloc 6 [.k (.int .i64 0),.k (.int .i64 0),.k (.int .i64 0)]},
  oS 6 89 3]) c_Sl_47)) c_Sl_54
def c_Sl_37:VC:=
 .seq (.seq (.r 12 [M 77 5,
  M 78 3,
  {op:=.bin 79 .lss (.s 77) (.s 78)},
  M 80 79,
  ⟨none,[],some (80,true),.mv 81 (.s 0)⟩,
  ⟨none,[],some (80,true),.nck 82 (.s 81)⟩,
  ⟨none,[],some (80,true),.fadr 83 (.s 82) 2⟩,
  ⟨none,[],some (80,true),.ld 84 (.s 83) 1 false⟩,
  ⟨none,[],some (80,true),.bin 85 .eql (.s 84) (.k (.int .i64 0))⟩,
  {op:=.pick 86 (.s 80) (.s 85) (.k (.bool false))}]) c_Sl_40) c_Sl_43
def c_Sl_35:VC:=
 .blk 0 (.loop [0,2,3,4,5] c_Sl_37)
def c_Sl_62:VC:=
 .ite (.s 138) (.r 22 [M 139 0,
  {op:=.call 140 94 [(.s 139),(.k (.int .i64 5))]}]) (.skip)
def c_Sl_68:VC:=
 .ite (.s 157) (.r 24 [M 158 0,
  {op:=.call 159 94 [(.s 158),(.k (.int .i64 8))]}]) (.skip)
def c_Sl_73:VC:=
 .ite (.s 172) (.r 26 [M 173 0,
  {op:=.call 174 94 [(.s 173),(.k (.int .i64 6))]}]) (.skip)
def c_Sl_71:VC:=
 .seq (.r 25 [M 160 0,
  {op:=.nck 161 (.s 160)},
  oF 162 161 2,
  oL 163 162 1,
  {op:=.bin 164 .eql (.s 163) (.k (.int .i64 0))},
  M 165 164,
  ⟨none,[],some (165,true),.mv 166 (.s 0)⟩,
  ⟨none,[],some (165,true),.nck 167 (.s 166)⟩,
  ⟨none,[],some (165,true),.fadr 168 (.s 167) 3⟩,
  ⟨none,[],some (165,true),.ld 169 (.s 168) 2 true⟩,
  ⟨none,[],some (165,true),.call 170 48 [(.s 169)]⟩,
  ⟨none,[],some (165,true),.un 171 .not (.s 170)⟩,
  {op:=.pick 172 (.s 165) (.s 171) (.k (.bool false))}]) (.kp [0,172] c_Sl_73)
def c_Sl_65:VC:=
 .seq (.seq (.d 23 [(0,M 141 0),
  (1,{op:=.nckv 142 (.s 141)}),
  (2,oG 143 142 2),
  (3,oV 144 143 1),
  (4,{op:=.bin 145 .eql (.s 144) (.k (.int .i64 0))}),
  (5,M 146 145),
  (6,⟨none,[],some (146,true),.mv 147 (.s 0)⟩),
  (7,⟨none,[],some (146,true),.nckv 148 (.s 147)⟩),
  (8,⟨none,[],some (146,true),.fadv 149 (.s 148) 1⟩),
  (9,⟨none,[],some (146,true),.ldv 150 (.s 149) 1 false⟩),
  (10,⟨none,[],some (146,true),.mv 151 (.s 0)⟩),
  (11,⟨none,[],some (146,true),.nckv 152 (.s 151)⟩),
  (12,⟨none,[],some (146,true),.fadv 153 (.s 152) 0⟩),
  (13,⟨none,[],some (146,true),.ldv 154 (.s 153) 1 false⟩),
  (14,⟨none,[],some (146,true),.len 155 (.s 154)⟩),
  (15,⟨none,[],some (146,true),.bin 156 .lss (.s 150) (.s 155)⟩),
  (16,{op:=.pick 157 (.s 146) (.s 156) (.k (.bool false))})]) (.kp [0,157] c_Sl_68)) (.kp [0] c_Sl_71)
def c_Sl_59:VC:=
 .seq (.seq (.r 21 [M 125 0,
  {op:=.nck 126 (.s 125)},
  oF 127 126 2,
  oL 128 127 1,
  {op:=.bin 129 .eql (.s 128) (.k (.int .i64 0))},
  M 130 129,
  ⟨none,[],some (130,true),.mv 131 (.s 4)⟩,
  ⟨none,[],some (130,true),.un 132 .not (.s 131)⟩,
  ⟨none,[],some (130,true),.mv 133 (.s 132)⟩,
  ⟨none,[],some (133,false),.mv 134 (.s 7)⟩,
  ⟨none,[],some (133,false),.mv 135 (.s 2)⟩,
  ⟨none,[],some (133,false),.bin 136 .neq (.s 134) (.s 135)⟩,
  ⟨none,[],some (130,true),.pick 137 (.s 133) (.k (.bool true)) (.s 136)⟩,
  {op:=.pick 138 (.s 130) (.s 137) (.k (.bool false))}]) (.kp [0,138] c_Sl_62)) (.kp [0] c_Sl_65)
def c_Sl_57:VC:=
 .seq (.r 20 [M 122 0,
  M 123 2,
  {op:=.call 124 98 [(.s 122),(.s 123)]}]) c_Sl_59
def c_Sl_55:VC:=
 .seq (.r 19 [M 120 0,
  {op:=.call 121 95 [(.s 120)]},
  M 7 121]) c_Sl_57
def c_Sl_32:VC:=
 .seq (.seq (.r 11 [oN 5 0]) c_Sl_35) (.kp [0,2,4] c_Sl_55)
def c_Sl_30:VC:=
 .seq (.r 10 [M 70 3,
  M 71 0,
  {op:=.nck 72 (.s 71)},
  oF 73 72 7,
  oL 74 73 1,
  {op:=.len 75 (.s 74)},
  {op:=.bin 76 .eql (.s 70) (.s 75)},
  M 4 76]) c_Sl_32
def c_Sl_24:VC:=
 .seq (.seq (.r 8 [M 59 0,
  {op:=.nck 60 (.s 59)},
  oF 61 60 2,
  oL 62 61 1,
  {op:=.bin 63 .eql (.s 62) (.k (.int .i64 0))},
  M 64 63,
  ⟨none,[],some (64,true),.mv 65 (.s 3)⟩,
  ⟨none,[],some (64,true),.bin 66 .gtr (.s 65) (.k (.int .i64 400))⟩,
  {op:=.pick 67 (.s 64) (.s 66) (.k (.bool false))}]) (.kp [0,2,3,67] c_Sl_27)) (.kp [0,2,3] c_Sl_30)
def c_Sl_22:VC:=
 .seq (.r 7 [M 57 0,
  {op:=.call 58 95 [(.s 57)]},
  M 3 58]) c_Sl_24
def c_Sl_20:VC:=
 .seq (.r 6 [M 50 0,
  {op:=.nck 51 (.s 50)},
  oF 52 51 1,
  oL 53 52 1,
  {op:=.bin 54 .add (.s 53) (.k (.int .i64 8))},
  {op:=.nck 55 (.s 50)},
  oF 56 55 1,
  oS 56 54 1]) c_Sl_22
def c_Sl_18:VC:=
 .seq (.r 5 [M 46 0,
  {op:=.nck 47 (.s 46)},
  oF 48 47 1,
  oL 49 48 1,
  M 2 49]) c_Sl_20
def c_Sl_12:VC:=
 .seq (.seq (.r 4 [M 41 0,
  {op:=.nck 42 (.s 41)},
  oF 43 42 2,
  oL 44 43 1,
  {op:=.bin 45 .neq (.s 44) (.k (.int .i64 0))}]) c_Sl_15) c_Sl_18
def c_Sl_6:VC:=
 .seq (.seq (.r 2 [M 28 0,
  {op:=.nck 29 (.s 28)},
  oF 30 29 2,
  oL 31 30 1,
  {op:=.bin 32 .eql (.s 31) (.k (.int .i64 0))},
  M 33 32,
  ⟨none,[],some (33,true),.mv 34 (.s 0)⟩,
  ⟨none,[],some (33,true),.call 35 109 []⟩,
  ⟨none,[.fz 35 0],some (33,true),.call 36 79 [(.s 34),(.s 35)]⟩,
  ⟨none,[],some (33,true),.un 37 .not (.s 36)⟩,
  {op:=.pick 38 (.s 33) (.s 37) (.k (.bool false))}]) (.kp [0,38] c_Sl_9)) (.kp [0] c_Sl_12)
def c_Sl_0:VC:=
 .seq (.seq (.d 0 [(0,M 8 0),
  (1,{op:=.nckv 9 (.s 8)}),
  (2,oG 10 9 2),
  (3,oV 11 10 1),
  (4,{op:=.bin 12 .eql (.s 11) (.k (.int .i64 0))}),
  (5,M 13 12),
  (6,⟨none,[],some (13,true),.mv 14 (.s 0)⟩),
  (7,⟨none,[],some (13,true),.nckv 15 (.s 14)⟩),
  (8,⟨none,[],some (13,true),.fadv 16 (.s 15) 0⟩),
  (9,⟨none,[],some (13,true),.ldv 17 (.s 16) 1 false⟩),
  (10,⟨none,[],some (13,true),.len 18 (.s 17)⟩),
  (11,⟨none,[],some (13,true),.mv 19 (.s 0)⟩),
  (12,⟨none,[],some (13,true),.nckv 20 (.s 19)⟩),
  (13,⟨none,[],some (13,true),.fadv 21 (.s 20) 1⟩),
  (14,⟨none,[],some (13,true),.ldv 22 (.s 21) 1 false⟩),
  (15,⟨none,[],some (13,true),.bin 23 .sub (.s 18) (.s 22)⟩),
  (16,⟨none,[],some (13,true),.bin 24 .lss (.s 23) (.k (.int .i64 8))⟩),
  (17,{op:=.pick 25 (.s 13) (.s 24) (.k (.bool false))})]) (.kp [0,25] c_Sl_3)) (.kp [0] c_Sl_6)
def vf_Sl:VF:={ pm:=[.mb [.ro [.sc],.sc,.sc,.own q3,.own [.sc,.sc,.sc,.sc,.own [.sc]],.sc,.sc,.own q3]],rm:=[],nslots:=175,res:=[],rc:=[],code:=.kp [0] c_Sl_0 }
def c_Ss_10:VC:=
 .seq (.r 4 [M 13 3,
  M 2 13]) (.ret)
def c_Ss_7:VC:=
 .ite (.s 9) (.seq (.r 3 [M 10 3,
  {op:=.nck 11 (.s 10)},
  oF 12 11 2,
  {op:=.st (.s 12) (.k (.int .i64 1)) 1}]) c_Ss_10) (.skip)
def c_Ss_20:VC:=
 .seq (.r 8 [M 20 3,
  M 2 20]) (.ret)
def c_Ss_18:VC:=
 .seq (.r 7 [M 18 3,
  {op:=.call 19 136 [(.s 18)]}]) c_Ss_20
def c_Ss_16:VC:=
 .seq (.r 6 [M 16 3,
  {op:=.call 17 43 [(.s 16)]}]) c_Ss_18
def c_Ss_14:VC:=
 .seq (.r 5 [M 14 3,
  {op:=.call 15 42 [(.s 14)]}]) c_Ss_16
def c_Ss_4:VC:=
 .seq (.seq (.r 2 [M 7 0,
  {op:=.len 8 (.s 7)},
  {op:=.bin 9 .gtr (.s 8) (.k (.int .i64 120000))}]) c_Ss_7) c_Ss_14
def c_Ss_2:VC:=
 .seq (.r 1 [M 4 0,
  {op:=.bld 5 [.k (.slice none 0 0),.k (.int .i64 0),.k (.int .i64 0),.o q3,.o [.sc,.sc,.sc,.sc,.own [.sc]],.k (.int .i64 0),.k (.int .i64 0),.o q3] [(0,1,(.s 4))]},
  {op:=.box 6 (.s 5)},
  M 3 6]) c_Ss_4
def c_Ss_0:VC:=
 .seq (.r 0 [{op:=.mv 2 (.k (.pointer none))}]) c_Ss_2
def vf_Ss:VF:={ pm:=[.ro [.ro [.sc]]],rm:=[.p [.ro [.sc],.sc,.sc,.own q3,.own [.sc,.sc,.sc,.sc,.own [.sc]],.sc,.sc,.own q3]],nslots:=21,res:=[2],rc:=[],code:=.kp [0] c_Ss_0 }
def c_Sd_7:VC:=
 .ite (.s 10) (.seq (.r 3 [{op:=.nil 2 q3}]) (.ret)) (.skip)
def c_Sd_12:VC:=
 .seq (.r 4 [M 11 3,
  {op:=.nck 12 (.s 11)},
  oF 13 12 7,
  oL 14 13 1,
  M 2 14]) (.ret)
def c_Sd_4:VC:=
 .seq (.seq (.r 2 [M 6 3,
  {op:=.nck 7 (.s 6)},
  oF 8 7 2,
  oL 9 8 1,
  {op:=.bin 10 .neq (.s 9) (.k (.int .i64 0))}]) c_Sd_7) c_Sd_12
def c_Sd_2:VC:=
 .seq (.r 1 [M 4 0,
  {op:=.call 5 86 [(.s 4)]},
  M 3 5]) c_Sd_4
def c_Sd_0:VC:=
 .seq (.r 0 [{op:=.nil 2 q3}]) c_Sd_2
def vf_Sd:VF:={ pm:=[.ro [.ro [.sc]]],rm:=[.v [.own q3]],nslots:=15,res:=[2],rc:=[],code:=.kp [0] c_Sd_0 }
def c_Im_2:VC:=
 .ite (.s 8) (.r 1 [M 9 0,
  M 10 1,
  {op:=.nck 11 (.s 9)},
  oF 12 11 2,
  oS 12 10 1]) (.skip)
def c_Im_0:VC:=
 .seq (.r 0 [M 4 0,
  {op:=.nck 5 (.s 4)},
  oF 6 5 2,
  oL 7 6 1,
  {op:=.bin 8 .eql (.s 7) (.k (.int .i64 0))}]) c_Im_2
def vf_Im:VF:={ pm:=[.mb [.ro [.sc],.sc,.sc],.ro [.sc]],rm:=[],nslots:=13,res:=[],rc:=[],code:=.kp [0,1] c_Im_0 }
def c_Ii_20:VC:=
 .ite (.s 14) (.seq (.r 5 [oN 4 2]) (.ret)) (.skip)
def c_Ii_27:VC:=
 .ite (.s 22) (.seq (.r 7 [oN 4 4]) (.ret)) (.skip)
def c_Ii_25:VC:=
 .seq (.d 6 [(0,M 15 0),
  (1,M 16 5),
  (2,oX 17 15 16 1),
  (3,oV 18 17 1),
  (4,M 19 1),
  (5,M 20 5),
  (6,{op:=.idx 21 (.s 19) (.s 20)}),
  (7,{op:=.bin 22 .neq (.s 18) (.s 21)})]) c_Ii_27
def c_Ii_17:VC:=
 .seq (.seq (.r 4 [M 11 5,
  M 12 0,
  {op:=.len 13 (.s 12)},
  {op:=.bin 14 .geq (.s 11) (.s 13)}]) c_Ii_20) c_Ii_25
def c_Ii_32:VC:=
 .r 8 [{op:=.bin 23 .add (.s 8) (.k (.int .i64 1))},
  M 8 23]
def c_Ii_13:VC:=
 .seq (.blk 1 (.seq (.r 3 [M 10 8,
  M 5 10]) c_Ii_17)) c_Ii_32
def c_Ii_9:VC:=
 .seq (.ite (.s 9) (.skip) (.exit 0)) c_Ii_13
def c_Ii_7:VC:=
 .seq (.r 2 [{op:=.bin 9 .lss (.s 8) (.s 7)}]) c_Ii_9
def c_Ii_5:VC:=
 .blk 0 (.loop [0,1,7,8] c_Ii_7)
def c_Ii_33:VC:=
 .seq (.r 9 [oN 4 0]) (.ret)
def c_Ii_2:VC:=
 .seq (.seq (.r 1 [M 6 1,
  {op:=.slen 7 (.s 6)},
  oN 8 0]) c_Ii_5) (.kp [] c_Ii_33)
def c_Ii_0:VC:=
 .seq (.r 0 [oN 4 0]) c_Ii_2
def vf_Ii:VF:={ pm:=[.ro [.ro [.sc]],.ro [.sc]],rm:=[.v [.sc]],nslots:=24,res:=[4],rc:=[],code:=.kp [0,1] c_Ii_0 }
def c_Il_8:VC:=
 .seq (.r 3 [{op:=.nil 4 [.sc]}]) (.pre [.fz 4 0] (.ret))
def c_Il_5:VC:=
 .ite (.s 24) (.seq (.r 2 [M 25 0,
  {op:=.call 26 100 [(.s 25),(.k (.int .i64 2))]}]) c_Il_8) (.skip)
def c_Il_16:VC:=
 .seq (.r 6 [M 50 5,
  M 4 50]) (.ret)
def c_Il_14:VC:=
 .seq (.r 5 [M 42 0,
  {op:=.nck 43 (.s 42)},
  oF 44 43 1,
  oL 45 44 1,
  M 46 1,
  {op:=.bin 47 .add (.s 45) (.s 46)},
  {op:=.nck 48 (.s 42)},
  oF 49 48 1,
  oS 49 47 1]) c_Il_16
def c_Il_12:VC:=
 .seq (.d 4 [(0,M 27 0),
  (1,{op:=.nckv 28 (.s 27)}),
  (2,oG 29 28 0),
  (3,oV 30 29 1),
  (4,M 31 0),
  (5,{op:=.nckv 32 (.s 31)}),
  (6,oG 33 32 1),
  (7,oV 34 33 1),
  (8,M 35 0),
  (9,{op:=.nckv 36 (.s 35)}),
  (10,oG 37 36 1),
  (11,oV 38 37 1),
  (12,M 39 1),
  (13,{op:=.bin 40 .add (.s 38) (.s 39)}),
  (14,{op:=.slc 41 (.s 30) (some (.s 34)) (some (.s 40)) 1}),
  (15,M 5 41)]) c_Il_14
def c_Il_2:VC:=
 .seq (.seq (.d 1 [(0,M 6 0),
  (1,{op:=.nckv 7 (.s 6)}),
  (2,oG 8 7 2),
  (3,oV 9 8 1),
  (4,{op:=.bin 10 .neq (.s 9) (.k (.int .i64 0))}),
  (5,M 11 10),
  (6,⟨none,[],some (11,false),.mv 12 (.s 1)⟩),
  (7,⟨none,[],some (11,false),.mv 13 (.s 0)⟩),
  (8,⟨none,[],some (11,false),.nckv 14 (.s 13)⟩),
  (9,⟨none,[],some (11,false),.fadv 15 (.s 14) 0⟩),
  (10,⟨none,[],some (11,false),.ldv 16 (.s 15) 1 false⟩),
  (11,⟨none,[],some (11,false),.len 17 (.s 16)⟩),
  (12,⟨none,[],some (11,false),.mv 18 (.s 0)⟩),
  (13,⟨none,[],some (11,false),.nckv 19 (.s 18)⟩),
  (14,⟨none,[],some (11,false),.fadv 20 (.s 19) 1⟩),
  (15,⟨none,[],some (11,false),.ldv 21 (.s 20) 1 false⟩),
  (16,⟨none,[],some (11,false),.bin 22 .sub (.s 17) (.s 21)⟩),
  (17,⟨none,[],some (11,false),.bin 23 .gtr (.s 12) (.s 22)⟩),
  (18,{op:=.pick 24 (.s 11) (.k (.bool true)) (.s 23)})]) (.kp [0,1,24] c_Il_5)) c_Il_12
def c_Il_0:VC:=
 .seq (.r 0 [{op:=.nil 4 [.sc]}]) c_Il_2
def vf_Il:VF:={ pm:=[.mb [.ro [.sc],.sc,.sc],.ro [.sc]],rm:=[.v [.ro [.sc]]],nslots:=51,res:=[4],rc:=[],code:=.kp [0,1] c_Il_0 }
def c_Ik_7:VC:=
 .ite (.s 8) (.seq (.r 3 [M 9 3,
  {op:=.iadr 10 (.s 9) (.k (.int .i64 0)) 1},
  oL 11 10 1,
  {op:=.conv 12 .i64 (.s 11)},
  M 2 12]) (.ret)) (.skip)
def c_Ik_5:VC:=
 .seq (.r 2 [M 6 3,
  {op:=.len 7 (.s 6)},
  {op:=.bin 8 .eql (.s 7) (.k (.int .i64 1))}]) c_Ik_7
def c_Ik_12:VC:=
 .seq (.r 4 [oN 2 0]) (.ret)
def c_Ik_2:VC:=
 .seq (.seq (.r 1 [M 4 0,
  {op:=.call 5 99 [(.s 4),(.k (.int .i64 1))]},
  M 3 5]) c_Ik_5) c_Ik_12
def c_Ik_0:VC:=
 .seq (.r 0 [oN 2 0]) c_Ik_2
def vf_Ik:VF:={ pm:=[.mb [.ro [.sc],.sc,.sc]],rm:=[.v [.sc]],nslots:=13,res:=[2],rc:=[],code:=.kp [0] c_Ik_0 }
def c_Ib_5:VC:=
 .ite (.s 15) (.seq (.r 2 [{op:=.bld 16 [.k (.bool false),.k (.int .u64 0),.k (.int .i64 0)] []},
  oS 4 16 3]) (.ret)) (.skip)
def c_Ib_20:VC:=
 .ite (.s 26) (.skip) (.exit 0)
def c_Ib_30:VC:=
 .ite (.s 40) (.exit 0) (.skip)
def c_Ib_41:VC:=
 .ite (.s 56) (.exit 0) (.skip)
def c_Ib_44:VC:=
 .seq (.r 12 [M 57 5,
  M 58 1,
  M 59 6,
  {op:=.bin 60 .add (.s 58) (.s 59)},
  {op:=.bin 61 .add (.s 60) (.k (.int .i64 1))},
  {op:=.bld 62 [.k (.bool false),.k (.int .u64 0),.k (.int .i64 0)] [(0,1,(.k (.bool true))),(1,1,(.s 57)),(2,1,(.s 61))]},
  oS 4 62 3]) (.ret)
def c_Ib_37:VC:=
 .ite (.s 50) (.seq (.seq (.r 11 [M 51 7,
  {op:=.bin 52 .eql (.s 51) (.k (.int .u8 0))},
  M 53 52,
  ⟨none,[],some (53,true),.mv 54 (.s 6)⟩,
  ⟨none,[],some (53,true),.bin 55 .gtr (.s 54) (.k (.int .i64 0))⟩,
  {op:=.pick 56 (.s 53) (.s 55) (.k (.bool false))}]) c_Ib_41) (.kp [1,4,5,6] c_Ib_44)) (.skip)
def c_Ib_35:VC:=
 .seq (.r 10 [M 49 7,
  {op:=.bin 50 .lss (.s 49) (.k (.int .u8 128))}]) c_Ib_37
def c_Ib_33:VC:=
 .seq (.r 9 [M 41 5,
  M 42 7,
  {op:=.bin 43 .and (.s 42) (.k (.int .u8 127))},
  {op:=.conv 44 .u64 (.s 43)},
  M 45 6,
  {op:=.bin 46 .mul (.k (.int .i64 7)) (.s 45)},
  {op:=.bin 47 .shl (.s 44) (.s 46)},
  {op:=.bin 48 .or (.s 41) (.s 47)},
  M 5 48]) c_Ib_35
def c_Ib_27:VC:=
 .seq (.seq (.r 8 [M 35 6,
  {op:=.bin 36 .eql (.s 35) (.k (.int .i64 9))},
  M 37 36,
  ⟨none,[],some (37,true),.mv 38 (.s 7)⟩,
  ⟨none,[],some (37,true),.bin 39 .gtr (.s 38) (.k (.int .u8 1))⟩,
  {op:=.pick 40 (.s 37) (.s 39) (.k (.bool false))}]) c_Ib_30) (.kp [0,1,4,5,6,7] c_Ib_33)
def c_Ib_48:VC:=
 .r 6 [M 27 6,
  {op:=.bin 28 .add (.s 27) (.k (.int .i64 1))},
  M 6 28]
def c_Ib_23:VC:=
 .seq (.blk 1 (.seq (.r 7 [M 29 0,
  M 30 1,
  M 31 6,
  {op:=.bin 32 .add (.s 30) (.s 31)},
  oX 33 29 32 1,
  oL 34 33 1,
  M 7 34]) c_Ib_27)) c_Ib_48
def c_Ib_17:VC:=
 .seq (.seq (.r 5 [M 17 6,
  {op:=.bin 18 .lss (.s 17) (.k (.int .i64 10))},
  M 19 18,
  ⟨none,[],some (19,true),.mv 20 (.s 1)⟩,
  ⟨none,[],some (19,true),.mv 21 (.s 6)⟩,
  ⟨none,[],some (19,true),.bin 22 .add (.s 20) (.s 21)⟩,
  ⟨none,[],some (19,true),.mv 23 (.s 0)⟩,
  ⟨none,[],some (19,true),.len 24 (.s 23)⟩,
  ⟨none,[],some (19,true),.bin 25 .lss (.s 22) (.s 24)⟩,
  {op:=.pick 26 (.s 19) (.s 25) (.k (.bool false))}]) c_Ib_20) c_Ib_23
def c_Ib_15:VC:=
 .blk 0 (.loop [0,1,4,5,6] c_Ib_17)
def c_Ib_49:VC:=
 .seq (.r 13 [{op:=.bld 63 [.k (.bool false),.k (.int .u64 0),.k (.int .i64 0)] []},
  oS 4 63 3]) (.ret)
def c_Ib_12:VC:=
 .seq (.seq (.r 4 [oN 6 0]) c_Ib_15) (.kp [4] c_Ib_49)
def c_Ib_10:VC:=
 .seq (.r 3 [{op:=.mv 5 (.k (.int .u64 0))}]) c_Ib_12
def c_Ib_2:VC:=
 .seq (.seq (.r 1 [M 8 1,
  {op:=.bin 9 .lss (.s 8) (.k (.int .i64 0))},
  M 10 9,
  ⟨none,[],some (10,false),.mv 11 (.s 1)⟩,
  ⟨none,[],some (10,false),.mv 12 (.s 0)⟩,
  ⟨none,[],some (10,false),.len 13 (.s 12)⟩,
  ⟨none,[],some (10,false),.bin 14 .gtr (.s 11) (.s 13)⟩,
  {op:=.pick 15 (.s 10) (.k (.bool true)) (.s 14)}]) (.kp [0,1,4,15] c_Ib_5)) c_Ib_10
def c_Ib_0:VC:=
 .seq (.r 0 [{op:=.alloc 4 [.k (.bool false),.k (.int .u64 0),.k (.int .i64 0)]}]) c_Ib_2
def vf_Ib:VF:={ pm:=[.ro [.ro [.sc]],.ro [.sc]],rm:=[.v q3],nslots:=64,res:=[4],rc:=[some (3,true)],code:=.kp [0,1] c_Ib_0 }
def c_Io_5:VC:=
 .ite (.s 9) (.seq (.r 2 [oN 2 0]) (.ret)) (.skip)
def c_Io_24:VC:=
 .ite (.s 41) (.skip) (.exit 0)
def c_Io_31:VC:=
 .ite (.s 51) (.r 9 [M 52 0,
  {op:=.call 53 100 [(.s 52),(.k (.int .i64 5))]}]) (.skip)
def c_Io_34:VC:=
 .r 7 [M 42 4,
  {op:=.bin 43 .add (.s 42) (.k (.int .i64 1))},
  M 4 43]
def c_Io_27:VC:=
 .seq (.blk 1 (.seq (.r 8 [M 44 0,
  {op:=.nck 45 (.s 44)},
  oF 46 45 0,
  oL 47 46 1,
  M 48 4,
  oX 49 47 48 1,
  oL 50 49 1,
  {op:=.bin 51 .lss (.s 50) (.k (.int .u8 128))}]) c_Io_31)) c_Io_34
def c_Io_21:VC:=
 .seq (.seq (.r 6 [M 26 4,
  M 27 0,
  {op:=.nck 28 (.s 27)},
  oF 29 28 0,
  oL 30 29 1,
  {op:=.len 31 (.s 30)},
  {op:=.bin 32 .lss (.s 26) (.s 31)},
  M 33 32,
  ⟨none,[],some (33,true),.mv 34 (.s 4)⟩,
  ⟨none,[],some (33,true),.mv 35 (.s 0)⟩,
  ⟨none,[],some (33,true),.nck 36 (.s 35)⟩,
  ⟨none,[],some (33,true),.fadr 37 (.s 36) 1⟩,
  ⟨none,[],some (33,true),.ld 38 (.s 37) 1 false⟩,
  ⟨none,[],some (33,true),.bin 39 .add (.s 38) (.k (.int .i64 10))⟩,
  ⟨none,[],some (33,true),.bin 40 .lss (.s 34) (.s 39)⟩,
  {op:=.pick 41 (.s 33) (.s 40) (.k (.bool false))}]) c_Io_24) c_Io_27
def c_Io_19:VC:=
 .blk 0 (.loop [0,4] c_Io_21)
def c_Io_38:VC:=
 .ite (.s 64) (.r 11 [M 65 0,
  {op:=.call 66 100 [(.s 65),(.k (.int .i64 5))]}]) (.skip)
def c_Io_43:VC:=
 .seq (.r 13 [oN 2 0]) (.ret)
def c_Io_41:VC:=
 .seq (.r 12 [M 67 0,
  {op:=.call 68 100 [(.s 67),(.k (.int .i64 2))]}]) c_Io_43
def c_Io_35:VC:=
 .seq (.seq (.d 10 [(0,M 54 0),
  (1,{op:=.nckv 55 (.s 54)}),
  (2,oG 56 55 1),
  (3,oV 57 56 1),
  (4,{op:=.bin 58 .add (.s 57) (.k (.int .i64 10))}),
  (5,M 59 0),
  (6,{op:=.nckv 60 (.s 59)}),
  (7,oG 61 60 0),
  (8,oV 62 61 1),
  (9,{op:=.len 63 (.s 62)}),
  (10,{op:=.bin 64 .leq (.s 58) (.s 63)})]) c_Io_38) (.kp [0] c_Io_41)
def c_Io_15:VC:=
 .ite (.s 21) (.seq (.seq (.r 5 [M 22 0,
  {op:=.nck 23 (.s 22)},
  oF 24 23 1,
  oL 25 24 1,
  M 4 25]) c_Io_19) (.kp [0] c_Io_35)) (.skip)
def c_Io_53:VC:=
 .seq (.r 16 [oN 2 0]) (.ret)
def c_Io_50:VC:=
 .ite (.s 71) (.seq (.r 15 [M 72 0,
  {op:=.call 73 100 [(.s 72),(.k (.int .i64 5))]}]) c_Io_53) (.skip)
def c_Io_59:VC:=
 .seq (.r 18 [oF 79 3 1,
  oL 80 79 1,
  {op:=.conv 81 .i64 (.s 80)},
  M 2 81]) (.ret)
def c_Io_57:VC:=
 .seq (.r 17 [M 74 0,
  oF 75 3 2,
  oL 76 75 1,
  {op:=.nck 77 (.s 74)},
  oF 78 77 1,
  oS 78 76 1]) c_Io_59
def c_Io_47:VC:=
 .seq (.seq (.r 14 [oF 69 3 1,
  oL 70 69 1,
  {op:=.bin 71 .gtr (.s 70) (.k (.int .u64 4611686018427387904))}]) c_Io_50) c_Io_57
def c_Io_12:VC:=
 .seq (.seq (.r 4 [oF 19 3 0,
  oL 20 19 1,
  {op:=.un 21 .not (.s 20)}]) c_Io_15) c_Io_47
def c_Io_10:VC:=
 .seq (.d 3 [(0,M 10 0),
  (1,{op:=.nckv 11 (.s 10)}),
  (2,oG 12 11 0),
  (3,oV 13 12 1),
  (4,M 14 0),
  (5,{op:=.nckv 15 (.s 14)}),
  (6,oG 16 15 1),
  (7,oV 17 16 1),
  (8,{op:=.call 18 145 [(.s 13),(.s 17)]}),
  (9,{op:=.alloc 3 [.k (.bool false),.k (.int .u64 0),.k (.int .i64 0)]}),
  (10,oS 3 18 3)]) c_Io_12
def c_Io_2:VC:=
 .seq (.seq (.r 1 [M 5 0,
  {op:=.nck 6 (.s 5)},
  oF 7 6 2,
  oL 8 7 1,
  {op:=.bin 9 .neq (.s 8) (.k (.int .i64 0))}]) c_Io_5) c_Io_10
def c_Io_0:VC:=
 .seq (.r 0 [oN 2 0]) c_Io_2
def vf_Io:VF:={ pm:=[.mb [.ro [.sc],.sc,.sc]],rm:=[.v [.sc]],nslots:=82,res:=[2],rc:=[],code:=.kp [0] c_Io_0 }
def c_It_5:VC:=
 .ite (.s 27) (.seq (.r 2 [oK 2 false]) (.ret)) (.skip)
def c_It_27:VC:=
 .ite (.s 45) (.seq (.r 7 [oK 2 false]) (.ret)) (.skip)
def c_It_25:VC:=
 .seq (.r 6 [oF 34 1 2,
  oL 35 34 1,
  M 36 3,
  {op:=.idx 37 (.s 35) (.s 36)},
  {op:=.bin 38 .lss (.s 37) (.k (.int .u8 32))},
  M 39 38,
  ⟨none,[],some (39,false),.fadr 40 (.s 1) 2⟩,
  ⟨none,[],some (39,false),.ld 41 (.s 40) 1 false⟩,
  ⟨none,[],some (39,false),.mv 42 (.s 3)⟩,
  ⟨none,[],some (39,false),.idx 43 (.s 41) (.s 42)⟩,
  ⟨none,[],some (39,false),.bin 44 .gtr (.s 43) (.k (.int .u8 126))⟩,
  {op:=.pick 45 (.s 39) (.k (.bool true)) (.s 44)}]) c_It_27
def c_It_32:VC:=
 .r 8 [{op:=.bin 46 .add (.s 31) (.k (.int .i64 1))},
  M 31 46]
def c_It_21:VC:=
 .seq (.blk 1 (.seq (.r 5 [M 33 31,
  M 3 33]) c_It_25)) c_It_32
def c_It_17:VC:=
 .seq (.ite (.s 32) (.skip) (.exit 0)) c_It_21
def c_It_15:VC:=
 .seq (.r 4 [{op:=.bin 32 .lss (.s 31) (.s 30)}]) c_It_17
def c_It_13:VC:=
 .blk 0 (.loop [1,30,31] c_It_15)
def c_It_33:VC:=
 .seq (.r 9 [oK 2 true]) (.ret)
def c_It_10:VC:=
 .seq (.seq (.r 3 [oF 28 1 2,
  oL 29 28 1,
  {op:=.slen 30 (.s 29)},
  oN 31 0]) c_It_13) (.kp [] c_It_33)
def c_It_2:VC:=
 .seq (.seq (.r 1 [oF 4 1 0,
  oL 5 4 1,
  {op:=.bin 6 .lss (.s 5) (.k (.int .i64 1))},
  M 7 6,
  ⟨none,[],some (7,false),.fadr 8 (.s 1) 0⟩,
  ⟨none,[],some (7,false),.ld 9 (.s 8) 1 false⟩,
  ⟨none,[],some (7,false),.bin 10 .gtr (.s 9) (.k (.int .i64 6))⟩,
  {op:=.pick 11 (.s 7) (.k (.bool true)) (.s 10)},
  M 12 11,
  ⟨none,[],some (12,false),.fadr 13 (.s 1) 1⟩,
  ⟨none,[],some (12,false),.ld 14 (.s 13) 1 false⟩,
  ⟨none,[],some (12,false),.bin 15 .lss (.s 14) (.k (.int .i64 1))⟩,
  {op:=.pick 16 (.s 12) (.k (.bool true)) (.s 15)},
  M 17 16,
  ⟨none,[],some (17,false),.fadr 18 (.s 1) 1⟩,
  ⟨none,[],some (17,false),.ld 19 (.s 18) 1 false⟩,
  ⟨none,[],some (17,false),.bin 20 .gtr (.s 19) (.k (.int .i64 1000000))⟩,
  {op:=.pick 21 (.s 17) (.k (.bool true)) (.s 20)},
  M 22 21,
  ⟨none,[],some (22,false),.fadr 23 (.s 1) 2⟩,
  ⟨none,[],some (22,false),.ld 24 (.s 23) 1 false⟩,
  ⟨none,[],some (22,false),.slen 25 (.s 24)⟩,
  ⟨none,[],some (22,false),.bin 26 .gtr (.s 25) (.k (.int .i64 40))⟩,
  {op:=.pick 27 (.s 22) (.k (.bool true)) (.s 26)}]) c_It_5) c_It_10
def c_It_0:VC:=
 .seq (.r 0 [{op:=.box 1 (.s 0)},
  oK 2 false]) c_It_2
def vf_It:VF:={ pm:=[.ro q3],rm:=[.v [.sc]],nslots:=47,res:=[2],rc:=[],code:=.kp [0] c_It_0 }
def c_Ih_2:VC:=
 .seq (.d 1 [(0,M 3 0),
  (1,{op:=.iadr 4 (.s 3) (.k (.int .i64 0)) 1}),
  (2,oV 5 4 1),
  (3,{op:=.conv 6 .i64 (.s 5)}),
  (4,{op:=.bin 7 .shl (.s 6) (.k (.int .u64 24))}),
  (5,M 8 0),
  (6,{op:=.iadr 9 (.s 8) (.k (.int .i64 1)) 1}),
  (7,oV 10 9 1),
  (8,{op:=.conv 11 .i64 (.s 10)}),
  (9,{op:=.bin 12 .shl (.s 11) (.k (.int .u64 16))}),
  (10,{op:=.bin 13 .or (.s 7) (.s 12)}),
  (11,M 14 0),
  (12,{op:=.iadr 15 (.s 14) (.k (.int .i64 2)) 1}),
  (13,oV 16 15 1),
  (14,{op:=.conv 17 .i64 (.s 16)}),
  (15,{op:=.bin 18 .shl (.s 17) (.k (.int .u64 8))}),
  (16,{op:=.bin 19 .or (.s 13) (.s 18)}),
  (17,M 20 0),
  (18,{op:=.iadr 21 (.s 20) (.k (.int .i64 3)) 1}),
  (19,oV 22 21 1),
  (20,{op:=.conv 23 .i64 (.s 22)}),
  (21,{op:=.bin 24 .or (.s 19) (.s 23)}),
  (22,M 2 24)]) (.ret)
def c_Ih_0:VC:=
 .seq (.r 0 [oN 2 0]) c_Ih_2
def vf_Ih:VF:={ pm:=[.ro [.ro [.sc]]],rm:=[.v [.sc]],nslots:=25,res:=[2],rc:=[],code:=.kp [0] c_Ih_0 }
def c_Ia_34:VC:=
 .r 9 [{op:=.bin 24 .add (.s 16) (.k (.int .i64 1))},
  M 16 24]
def c_Ia_31:VC:=
 .seq (.blk 3 (.r 8 [M 18 3,
  {op:=.bin 19 .shr (.s 18) (.k (.int .u64 1))},
  M 20 3,
  {op:=.bin 21 .and (.s 20) (.k (.int .u32 1))},
  {op:=.bin 22 .mul (.k (.int .u32 3988292384)) (.s 21)},
  {op:=.bin 23 .xor (.s 19) (.s 22)},
  M 3 23])) c_Ia_34
def c_Ia_27:VC:=
 .seq (.ite (.s 17) (.skip) (.exit 2)) c_Ia_31
def c_Ia_25:VC:=
 .seq (.r 7 [{op:=.bin 17 .lss (.s 16) (.k (.int .i64 8))}]) c_Ia_27
def c_Ia_23:VC:=
 .blk 2 (.loop [3,6,7,8,16] c_Ia_25)
def c_Ia_21:VC:=
 .seq (.r 6 [oN 16 0]) c_Ia_23
def c_Ia_19:VC:=
 .seq (.r 5 [M 12 3,
  M 13 5,
  {op:=.conv 14 .u32 (.s 13)},
  {op:=.bin 15 .xor (.s 12) (.s 14)},
  M 3 15]) c_Ia_21
def c_Ia_35:VC:=
 .r 10 [{op:=.bin 25 .add (.s 8) (.k (.int .i64 1))},
  M 8 25]
def c_Ia_15:VC:=
 .seq (.blk 1 (.seq (.r 4 [oX 10 6 8 1,
  oL 11 10 1,
  M 5 11]) c_Ia_19)) (.kp [3,6,7,8] c_Ia_35)
def c_Ia_11:VC:=
 .seq (.ite (.s 9) (.skip) (.exit 0)) c_Ia_15
def c_Ia_9:VC:=
 .seq (.r 3 [{op:=.bin 9 .lss (.s 8) (.s 7)}]) c_Ia_11
def c_Ia_7:VC:=
 .blk 0 (.loop [3,6,7,8] c_Ia_9)
def c_Ia_36:VC:=
 .seq (.r 11 [M 26 3,
  {op:=.un 27 .xor (.s 26)},
  M 2 27]) (.ret)
def c_Ia_4:VC:=
 .seq (.seq (.r 2 [M 6 0,
  {op:=.len 7 (.s 6)},
  oN 8 0]) c_Ia_7) (.kp [3] c_Ia_36)
def c_Ia_2:VC:=
 .seq (.r 1 [{op:=.mv 3 (.k (.int .u32 4294967295))}]) c_Ia_4
def c_Ia_0:VC:=
 .seq (.r 0 [{op:=.mv 2 (.k (.int .u32 0))}]) c_Ia_2
def vf_Ia:VF:={ pm:=[.ro [.ro [.sc]]],rm:=[.v [.sc]],nslots:=28,res:=[2],rc:=[],code:=.kp [0] c_Ia_0 }
def c_Iq_6:VC:=
 .ite (.s 30) (.r 3 [M 31 0,
  {op:=.call 32 100 [(.s 31),(.k (.int .i64 3))]}]) (.skip)
def c_Iq_4:VC:=
 .seq (.d 2 [(0,M 12 0),
  (1,{op:=.nckv 13 (.s 12)}),
  (2,oG 14 13 2),
  (3,oV 15 14 1),
  (4,{op:=.bin 16 .eql (.s 15) (.k (.int .i64 0))}),
  (5,M 17 16),
  (6,⟨none,[],some (17,true),.mv 18 (.s 5)⟩),
  (7,⟨none,[],some (17,true),.call 19 146 [(.s 18)]⟩),
  (8,⟨none,[],some (17,true),.mv 20 (.s 0)⟩),
  (9,⟨none,[],some (17,true),.nckv 21 (.s 20)⟩),
  (10,⟨none,[],some (17,true),.fadv 22 (.s 21) 0⟩),
  (11,⟨none,[],some (17,true),.ldv 23 (.s 22) 1 false⟩),
  (12,⟨none,[],some (17,true),.mv 24 (.s 1)⟩),
  (13,⟨none,[],some (17,true),.mv 25 (.s 4)⟩),
  (14,⟨none,[],some (17,true),.slc 26 (.s 23) (some (.s 24)) (some (.s 25)) 1⟩),
  (15,⟨none,[],some (17,true),.call 27 59 [(.s 26)]⟩),
  (16,⟨none,[],some (17,true),.conv 28 .i64 (.s 27)⟩),
  (17,⟨none,[],some (17,true),.bin 29 .neq (.s 19) (.s 28)⟩),
  (18,{op:=.pick 30 (.s 17) (.s 29) (.k (.bool false))})]) (.kp [0,30] c_Iq_6)
def c_Iq_2:VC:=
 .seq (.r 1 [M 10 0,
  {op:=.call 11 99 [(.s 10),(.k (.int .i64 4))]},
  M 5 11]) c_Iq_4
def c_Iq_0:VC:=
 .seq (.r 0 [M 6 0,
  {op:=.nck 7 (.s 6)},
  oF 8 7 1,
  oL 9 8 1,
  M 4 9]) c_Iq_2
def vf_Iq:VF:={ pm:=[.mb [.ro [.sc],.sc,.sc],.ro [.sc]],rm:=[],nslots:=33,res:=[],rc:=[],code:=.kp [0,1] c_Iq_0 }
def c_In_8:VC:=
 .seq (.r 3 [{op:=.nil 2 q3}]) (.ret)
def c_In_5:VC:=
 .ite (.s 11) (.seq (.r 2 [M 12 0,
  {op:=.call 13 100 [(.s 12),(.k (.int .i64 1))]}]) c_In_8) (.skip)
def c_In_21:VC:=
 .ite (.s 30) (.r 8 [M 31 0,
  {op:=.call 32 100 [(.s 31),(.k (.int .i64 5))]}]) (.skip)
def c_In_42:VC:=
 .ite (.s 40) (.seq (.r 13 [{op:=.nil 2 q3}]) (.ret)) (.skip)
def c_In_54:VC:=
 .ite (.s 54) (.r 17 [M 55 0,
  {op:=.call 56 100 [(.s 55),(.k (.int .i64 5))]}]) (.skip)
def c_In_57:VC:=
 .r 18 [M 57 4,
  {op:=.ld 58 (.s 5) 3 true},
  {op:=.lits 59 q3 [(.s 58)]},
  {op:=.app 60 (.s 57) (.s 59) q3 4398046511104},
  M 4 60]
def c_In_51:VC:=
 .seq (.seq (.r 16 [{op:=.ld 52 (.s 5) 3 true},
  {op:=.call 53 131 [(.s 52)]},
  {op:=.un 54 .not (.s 53)}]) c_In_54) (.kp [0,4,5,33,34] c_In_57)
def c_In_49:VC:=
 .seq (.r 15 [M 46 0,
  M 47 0,
  {op:=.call 48 129 [(.s 47)]},
  {op:=.call 49 99 [(.s 46),(.s 48)]},
  {op:=.b2s 50 (.s 49)},
  oF 51 5 2,
  oS 51 50 1]) c_In_51
def c_In_47:VC:=
 .seq (.r 14 [M 41 0,
  {op:=.call 42 129 [(.s 41)]},
  M 43 0,
  {op:=.call 44 130 [(.s 43)]},
  {op:=.bld 45 [.k (.int .i64 0),.k (.int .i64 0),.k (.string (ByteArray.mk #[]))] [(0,1,(.s 42)),(1,1,(.s 44))]},
  {op:=.alloc 5 [.k (.int .i64 0),.k (.int .i64 0),.k (.string (ByteArray.mk #[]))]},
  oS 5 45 3]) c_In_49
def c_In_58:VC:=
 .r 19 [{op:=.bin 61 .add (.s 34) (.k (.int .i64 1))},
  M 34 61]
def c_In_37:VC:=
 .seq (.blk 1 (.seq (.seq (.r 12 [M 36 0,
  {op:=.nck 37 (.s 36)},
  oF 38 37 2,
  oL 39 38 1,
  {op:=.bin 40 .neq (.s 39) (.k (.int .i64 0))}]) c_In_42) c_In_47)) c_In_58
def c_In_33:VC:=
 .seq (.ite (.s 35) (.skip) (.exit 0)) c_In_37
def c_In_31:VC:=
 .seq (.r 11 [{op:=.bin 35 .lss (.s 34) (.s 33)}]) c_In_33
def c_In_29:VC:=
 .blk 0 (.loop [0,4,33,34] c_In_31)
def c_In_61:VC:=
 .seq (.r 21 [M 64 4,
  M 2 64]) (.ret)
def c_In_59:VC:=
 .seq (.r 20 [M 62 0,
  {op:=.call 63 132 [(.s 62),(.k (.int .i64 0))]}]) c_In_61
def c_In_26:VC:=
 .seq (.seq (.r 10 [M 33 3,
  oN 34 0]) c_In_29) (.kp [0,4] c_In_59)
def c_In_24:VC:=
 .seq (.r 9 [{op:=.nil 4 q3}]) c_In_26
def c_In_18:VC:=
 .seq (.seq (.r 7 [M 25 3,
  {op:=.bin 26 .lss (.s 25) (.k (.int .i64 1))},
  M 27 26,
  ⟨none,[],some (27,false),.mv 28 (.s 3)⟩,
  ⟨none,[],some (27,false),.bin 29 .gtr (.s 28) (.k (.int .i64 8))⟩,
  {op:=.pick 30 (.s 27) (.k (.bool true)) (.s 29)}]) (.kp [0,3,30] c_In_21)) (.kp [0,3] c_In_24)
def c_In_16:VC:=
 .seq (.r 6 [M 23 0,
  {op:=.call 24 129 [(.s 23)]},
  M 3 24]) c_In_18
def c_In_14:VC:=
 .seq (.r 5 [M 21 0,
  {op:=.call 22 99 [(.s 21),(.k (.int .i64 4))]}]) c_In_16
def c_In_12:VC:=
 .seq (.r 4 [M 14 0,
  M 15 0,
  {op:=.nck 16 (.s 15)},
  oF 17 16 0,
  oL 18 17 1,
  {op:=.call 19 128 [(.s 18),(.k (.string (ByteArray.mk #[66,79,88,49])))]},
  {op:=.call 20 100 [(.s 14),(.s 19)]}]) c_In_14
def c_In_2:VC:=
 .seq (.seq (.r 1 [M 6 0,
  {op:=.nck 7 (.s 6)},
  oF 8 7 0,
  oL 9 8 1,
  {op:=.len 10 (.s 9)},
  {op:=.bin 11 .gtr (.s 10) (.k (.int .i64 120000))}]) c_In_5) c_In_12
def c_In_0:VC:=
 .seq (.r 0 [{op:=.nil 2 q3}]) c_In_2
def vf_In:VF:={ pm:=[.mb [.ro [.sc],.sc,.sc]],rm:=[.v [.own q3]],nslots:=65,res:=[2],rc:=[],code:=.kp [0] c_In_0 }
def c_Is_2:VC:=
 .seq (.r 1 [M 3 0,
  {op:=.bin 4 .geq (.s 3) (.k (.int .i64 0))},
  M 5 4,
  ⟨none,[],some (5,true),.mv 6 (.s 0)⟩,
  ⟨none,[],some (5,true),.bin 7 .leq (.s 6) (.k (.int .i64 1000000000))⟩,
  {op:=.pick 8 (.s 5) (.s 7) (.k (.bool false))},
  M 2 8]) (.ret)
def c_Is_0:VC:=
 .seq (.r 0 [oK 2 false]) c_Is_2
def vf_Is:VF:={ pm:=[.ro [.sc]],rm:=[.v [.sc]],nslots:=9,res:=[2],rc:=[],code:=.kp [0] c_Is_0 }
def c_Ip_7:VC:=
 .ite (.s 30) (.r 3 [M 31 0,
  {op:=.call 32 100 [(.s 31),(.k (.int .i64 6))]}]) (.skip)
def c_Ip_15:VC:=
 .ite (.s 40) (.r 6 [M 41 0,
  {op:=.call 42 100 [(.s 41),(.k (.int .i64 5))]}]) (.skip)
def c_Ip_38:VC:=
 .ite (.s 50) (.seq (.r 12 [oN 12 0,
  {op:=.nil 13 [.sc,.sc,.sc,.sc,.own [.sc]]}]) (.ret)) (.skip)
def c_Ip_50:VC:=
 .ite (.s 81) (.r 16 [M 82 0,
  {op:=.call 83 100 [(.s 82),(.k (.int .i64 5))]}]) (.skip)
def c_Ip_62:VC:=
 .ite (.s 98) (.r 21 [M 99 0,
  {op:=.call 100 100 [(.s 99),(.k (.int .i64 7))]}]) (.skip)
def c_Ip_60:VC:=
 .seq (.r 20 [M 93 4,
  {op:=.bin 94 .gtr (.s 93) (.k (.int .i64 400))},
  M 95 94,
  ⟨none,[],some (95,false),.mv 96 (.s 5)⟩,
  ⟨none,[],some (95,false),.bin 97 .lss (.s 96) (.k (.int .i64 0))⟩,
  {op:=.pick 98 (.s 95) (.k (.bool true)) (.s 97)}]) (.kp [0,1,2,4,5,14,16,17,18,20,43,44,98] c_Ip_62)
def c_Ip_67:VC:=
 .r 23 [M 105 17,
  M 106 20,
  {op:=.lits 107 [.sc] [(.s 106)]},
  {op:=.app 108 (.s 105) (.s 107) [.sc] 17592186044416},
  M 17 108]
def c_Ip_65:VC:=
 .seq (.r 22 [M 101 16,
  {op:=.ld 102 (.s 18) 5 true},
  {op:=.lits 103 [.sc,.sc,.sc,.sc,.own [.sc]] [(.s 102)]},
  {op:=.app 104 (.s 101) (.s 103) [.sc,.sc,.sc,.sc,.own [.sc]] 2513169434916},
  M 16 104]) c_Ip_67
def c_Ip_57:VC:=
 .seq (.seq (.r 19 [M 91 4,
  {op:=.bin 92 .add (.s 91) (.k (.int .i64 1))},
  M 4 92]) c_Ip_60) (.kp [0,1,2,4,5,14,16,17,18,20,43,44] c_Ip_65)
def c_Ip_55:VC:=
 .seq (.r 18 [M 87 5,
  M 88 20,
  {op:=.mn 89 (.s 88) (.k (.int .i64 1099511627776))},
  {op:=.bin 90 .sub (.s 87) (.s 89)},
  M 5 90]) c_Ip_57
def c_Ip_53:VC:=
 .seq (.r 17 [M 84 19,
  {op:=.bin 85 .eql (.s 84) (.k (.int .i64 1))},
  oF 86 18 3,
  oS 86 85 1]) c_Ip_55
def c_Ip_47:VC:=
 .seq (.seq (.r 15 [oF 62 18 0,
  oL 63 62 1,
  M 64 2,
  {op:=.bin 65 .geq (.s 63) (.s 64)},
  M 66 65,
  ⟨none,[],some (66,false),.fadr 67 (.s 18) 1⟩,
  ⟨none,[],some (66,false),.ld 68 (.s 67) 1 false⟩,
  ⟨none,[],some (66,false),.call 69 133 [(.s 68)]⟩,
  ⟨none,[],some (66,false),.un 70 .not (.s 69)⟩,
  {op:=.pick 71 (.s 66) (.k (.bool true)) (.s 70)},
  M 72 71,
  ⟨none,[],some (72,false),.fadr 73 (.s 18) 2⟩,
  ⟨none,[],some (72,false),.ld 74 (.s 73) 1 false⟩,
  ⟨none,[],some (72,false),.call 75 133 [(.s 74)]⟩,
  ⟨none,[],some (72,false),.un 76 .not (.s 75)⟩,
  {op:=.pick 77 (.s 72) (.k (.bool true)) (.s 76)},
  M 78 77,
  ⟨none,[],some (78,false),.mv 79 (.s 19)⟩,
  ⟨none,[],some (78,false),.bin 80 .gtr (.s 79) (.k (.int .i64 1))⟩,
  {op:=.pick 81 (.s 78) (.k (.bool true)) (.s 80)}]) (.kp [0,1,2,4,5,14,16,17,18,19,20,43,44,81] c_Ip_50)) (.kp [0,1,2,4,5,14,16,17,18,19,20,43,44] c_Ip_53)
def c_Ip_45:VC:=
 .seq (.r 14 [M 58 0,
  {op:=.call 59 130 [(.s 58)]},
  M 60 0,
  {op:=.call 61 130 [(.s 60)]},
  M 19 59,
  M 20 61]) c_Ip_47
def c_Ip_43:VC:=
 .seq (.r 13 [M 51 0,
  {op:=.call 52 130 [(.s 51)]},
  M 53 0,
  {op:=.call 54 130 [(.s 53)]},
  M 55 0,
  {op:=.call 56 130 [(.s 55)]},
  {op:=.bld 57 [.k (.int .i64 0),.k (.int .i64 0),.k (.int .i64 0),.k (.bool false),.o [.sc]] [(0,1,(.s 52)),(1,1,(.s 54)),(2,1,(.s 56))]},
  {op:=.alloc 18 [.k (.int .i64 0),.k (.int .i64 0),.k (.int .i64 0),.k (.bool false),.o [.sc]]},
  oS 18 57 5]) c_Ip_45
def c_Ip_68:VC:=
 .r 24 [{op:=.bin 109 .add (.s 44) (.k (.int .i64 1))},
  M 44 109]
def c_Ip_33:VC:=
 .seq (.blk 1 (.seq (.seq (.r 11 [M 46 0,
  {op:=.nck 47 (.s 46)},
  oF 48 47 2,
  oL 49 48 1,
  {op:=.bin 50 .neq (.s 49) (.k (.int .i64 0))}]) c_Ip_38) c_Ip_43)) c_Ip_68
def c_Ip_29:VC:=
 .seq (.ite (.s 45) (.skip) (.exit 0)) c_Ip_33
def c_Ip_27:VC:=
 .seq (.r 10 [{op:=.bin 45 .lss (.s 44) (.s 43)}]) c_Ip_29
def c_Ip_25:VC:=
 .blk 0 (.loop [0,1,2,4,5,14,16,17,43,44] c_Ip_27)
def c_Ip_84:VC:=
 .r 28 [M 115 16,
  M 116 21,
  {op:=.lits 117 [.sc] []},
  M 118 0,
  M 119 17,
  M 120 21,
  oX 121 119 120 1,
  oL 122 121 1,
  {op:=.call 123 99 [(.s 118),(.s 122)]},
  {op:=.app 124 (.s 117) (.s 123) [.sc] 140737488355328},
  oX 125 115 116 5,
  oF 126 125 4,
  oS 126 124 1]
def c_Ip_85:VC:=
 .r 29 [{op:=.bin 127 .add (.s 112) (.k (.int .i64 1))},
  M 112 127]
def c_Ip_80:VC:=
 .seq (.blk 3 (.seq (.r 27 [M 114 112,
  M 21 114]) c_Ip_84)) c_Ip_85
def c_Ip_76:VC:=
 .seq (.ite (.s 113) (.skip) (.exit 2)) c_Ip_80
def c_Ip_74:VC:=
 .seq (.r 26 [{op:=.bin 113 .lss (.s 112) (.s 111)}]) c_Ip_76
def c_Ip_72:VC:=
 .blk 2 (.loop [0,1,14,16,17,111,112] c_Ip_74)
def c_Ip_88:VC:=
 .seq (.r 31 [M 131 14,
  M 132 16,
  M 12 131,
  M 13 132]) (.ret)
def c_Ip_86:VC:=
 .seq (.r 30 [M 128 0,
  M 129 1,
  {op:=.call 130 132 [(.s 128),(.s 129)]}]) c_Ip_88
def c_Ip_69:VC:=
 .seq (.seq (.r 25 [M 110 16,
  {op:=.len 111 (.s 110)},
  oN 112 0]) c_Ip_72) (.kp [0,1,14,16] c_Ip_86)
def c_Ip_22:VC:=
 .seq (.seq (.r 9 [M 43 15,
  oN 44 0]) c_Ip_25) (.kp [0,1,14,16,17] c_Ip_69)
def c_Ip_20:VC:=
 .seq (.r 8 [{op:=.nil 17 [.sc]}]) c_Ip_22
def c_Ip_18:VC:=
 .seq (.r 7 [{op:=.nil 16 [.sc,.sc,.sc,.sc,.own [.sc]]}]) c_Ip_20
def c_Ip_12:VC:=
 .seq (.seq (.r 5 [M 35 15,
  {op:=.bin 36 .lss (.s 35) (.k (.int .i64 1))},
  M 37 36,
  ⟨none,[],some (37,false),.mv 38 (.s 15)⟩,
  ⟨none,[],some (37,false),.bin 39 .gtr (.s 38) (.k (.int .i64 100))⟩,
  {op:=.pick 40 (.s 37) (.k (.bool true)) (.s 39)}]) (.kp [0,1,2,4,5,14,15,40] c_Ip_15)) (.kp [0,1,2,4,5,14,15] c_Ip_18)
def c_Ip_10:VC:=
 .seq (.r 4 [M 33 0,
  {op:=.call 34 130 [(.s 33)]},
  M 15 34]) c_Ip_12
def c_Ip_4:VC:=
 .seq (.seq (.r 2 [M 24 3,
  {op:=.bin 25 .geq (.s 24) (.k (.int .i64 0))},
  M 26 25,
  ⟨none,[],some (26,true),.mv 27 (.s 14)⟩,
  ⟨none,[],some (26,true),.mv 28 (.s 3)⟩,
  ⟨none,[],some (26,true),.bin 29 .neq (.s 27) (.s 28)⟩,
  {op:=.pick 30 (.s 26) (.s 29) (.k (.bool false))}]) (.kp [0,1,2,4,5,14,30] c_Ip_7)) (.kp [0,1,2,4,5,14] c_Ip_10)
def c_Ip_2:VC:=
 .seq (.r 1 [M 22 0,
  {op:=.call 23 130 [(.s 22)]},
  M 14 23]) c_Ip_4
def c_Ip_0:VC:=
 .seq (.r 0 [oN 12 0,
  {op:=.nil 13 [.sc,.sc,.sc,.sc,.own [.sc]]}]) c_Ip_2
def vf_Ip:VF:={ pm:=[.mb [.ro [.sc],.sc,.sc],.ro [.sc],.ro [.sc],.ro [.sc],.ro [.sc],.ro [.sc]],rm:=[.v [.sc],.v [.own [.sc,.sc,.sc,.sc,.own [.sc]]]],nslots:=133,res:=[12,13],rc:=[],code:=.kp [0,1,2,3,4,5] c_Ip_0 }
def c_Ij_16:VC:=
 .ite (.s 21) (.skip) (.exit 0)
def c_Ij_28:VC:=
 .ite (.s 39) (.seq (.r 10 [{op:=.ld 40 (.s 4) 2 true},
  M 41 5,
  oS 2 40 2,
  M 3 41]) (.ret)) (.skip)
def c_Ij_36:VC:=
 .ite (.s 43) (.r 12 [M 44 0,
  {op:=.call 45 100 [(.s 44),(.k (.int .i64 4))]}]) (.skip)
def c_Ij_44:VC:=
 .ite (.s 64) (.exit 0) (.skip)
def c_Ij_66:VC:=
 .ite (.s 77) (.r 20 [M 78 5,
  oF 79 13 0,
  oL 80 79 1,
  oF 81 13 1,
  oL 82 81 1,
  M 83 8,
  {op:=.bld 84 [.k (.int .i64 0),.k (.int .i64 0),.k (.int .i64 0)] [(0,1,(.s 80)),(1,1,(.s 82)),(2,1,(.s 83))]},
  {op:=.lits 85 q3 [(.s 84)]},
  {op:=.app 86 (.s 78) (.s 85) q3 5864062014805},
  M 5 86]) (.skip)
def c_Ij_64:VC:=
 .seq (.r 19 [oF 76 13 3,
  oL 77 76 1]) c_Ij_66
def c_Ij_62:VC:=
 .seq (.r 18 [M 71 6,
  oF 72 13 4,
  oL 73 72 1,
  {op:=.len 74 (.s 73)},
  {op:=.bin 75 .sub (.s 71) (.s 74)},
  M 6 75]) c_Ij_64
def c_Ij_69:VC:=
 .r 21 [{op:=.bin 87 .add (.s 67) (.k (.int .i64 1))},
  M 67 87]
def c_Ij_58:VC:=
 .seq (.blk 3 (.seq (.r 17 [oX 69 65 67 5,
  {op:=.ld 70 (.s 69) 5 true},
  {op:=.alloc 13 [.k (.int .i64 0),.k (.int .i64 0),.k (.int .i64 0),.k (.bool false),.o [.sc]]},
  oS 13 70 5]) c_Ij_62)) c_Ij_69
def c_Ij_54:VC:=
 .seq (.ite (.s 68) (.skip) (.exit 2)) c_Ij_58
def c_Ij_52:VC:=
 .seq (.r 16 [{op:=.bin 68 .lss (.s 67) (.s 66)}]) c_Ij_54
def c_Ij_50:VC:=
 .blk 2 (.loop [0,2,4,5,6,7,8,11,65,66,67] c_Ij_52)
def c_Ij_70:VC:=
 .r 22 [oF 88 4 1,
  oL 89 88 1,
  M 90 11,
  {op:=.app 91 (.s 89) (.s 90) [.sc,.sc,.sc,.sc,.own [.sc]] 2513169434916},
  oF 92 4 1,
  oS 92 91 1]
def c_Ij_47:VC:=
 .seq (.seq (.r 15 [M 65 11,
  {op:=.len 66 (.s 65)},
  oN 67 0]) c_Ij_50) (.kp [0,2,4,5,6,7,11] c_Ij_70)
def c_Ij_41:VC:=
 .seq (.seq (.r 14 [M 60 0,
  {op:=.nck 61 (.s 60)},
  oF 62 61 2,
  oL 63 62 1,
  {op:=.bin 64 .neq (.s 63) (.k (.int .i64 0))}]) c_Ij_44) c_Ij_47
def c_Ij_39:VC:=
 .seq (.r 13 [M 47 0,
  M 48 8,
  oF 49 4 0,
  oL 50 49 1,
  {op:=.len 51 (.s 50)},
  M 52 7,
  oF 53 4 1,
  oL 54 53 1,
  {op:=.len 55 (.s 54)},
  M 56 6,
  {op:=.call 57 84 [(.s 47),(.s 48),(.s 51),(.s 52),(.s 55),(.s 56)]},
  M 46 57,
  {op:=.ext 58 (.s 46) 0},
  {op:=.ext 59 (.s 46) 1},
  M 10 58,
  M 11 59]) c_Ij_41
def c_Ij_33:VC:=
 .seq (.seq (.r 11 [M 42 9,
  {op:=.bin 43 .neq (.s 42) (.k (.string (ByteArray.mk #[27,80,73,69,67,69,10,0])))}]) c_Ij_36) (.kp [0,2,4,5,6,7,8] c_Ij_39)
def c_Ij_25:VC:=
 .seq (.seq (.r 9 [M 31 0,
  {op:=.nck 32 (.s 31)},
  oF 33 32 2,
  oL 34 33 1,
  {op:=.bin 35 .eql (.s 34) (.k (.int .i64 0))},
  M 36 35,
  ⟨none,[],some (36,true),.mv 37 (.s 9)⟩,
  ⟨none,[],some (36,true),.bin 38 .eql (.s 37) (.k (.string (ByteArray.mk #[27,73,78,68,69,88,10,0])))⟩,
  {op:=.pick 39 (.s 36) (.s 38) (.k (.bool false))}]) (.kp [0,2,4,5,6,7,8,9,39] c_Ij_28)) c_Ij_33
def c_Ij_23:VC:=
 .seq (.r 8 [M 28 0,
  {op:=.call 29 99 [(.s 28),(.k (.int .i64 8))]},
  {op:=.b2s 30 (.s 29)},
  M 9 30]) c_Ij_25
def c_Ij_71:VC:=
 .r 6 [M 22 7,
  {op:=.bin 23 .add (.s 22) (.k (.int .i64 1))},
  M 7 23]
def c_Ij_19:VC:=
 .seq (.blk 1 (.seq (.r 7 [M 24 0,
  {op:=.nck 25 (.s 24)},
  oF 26 25 1,
  oL 27 26 1,
  M 8 27]) c_Ij_23)) c_Ij_71
def c_Ij_13:VC:=
 .seq (.seq (.r 5 [M 17 0,
  {op:=.nck 18 (.s 17)},
  oF 19 18 2,
  oL 20 19 1,
  {op:=.bin 21 .eql (.s 20) (.k (.int .i64 0))}]) c_Ij_16) c_Ij_19
def c_Ij_11:VC:=
 .blk 0 (.loop [0,2,4,5,6,7] c_Ij_13)
def c_Ij_72:VC:=
 .seq (.r 23 [{op:=.ld 93 (.s 4) 2 true},
  M 94 5,
  oS 2 93 2,
  M 3 94]) (.ret)
def c_Ij_8:VC:=
 .seq (.seq (.r 4 [oN 7 0]) c_Ij_11) (.kp [0,2,4,5] c_Ij_72)
def c_Ij_6:VC:=
 .seq (.r 3 [oN 6 60000]) c_Ij_8
def c_Ij_4:VC:=
 .seq (.r 2 [{op:=.nil 5 q3}]) c_Ij_6
def c_Ij_2:VC:=
 .seq (.r 1 [M 14 0,
  {op:=.call 15 83 [(.s 14)]},
  {op:=.bld 16 [.k (.slice none 0 0),.o [.sc,.sc,.sc,.sc,.own [.sc]]] [(0,1,(.s 15))]},
  {op:=.alloc 4 [.o q3,.o [.sc,.sc,.sc,.sc,.own [.sc]]]},
  oS 4 16 2]) c_Ij_4
def c_Ij_0:VC:=
 .seq (.r 0 [{op:=.alloc 2 [.o q3,.o [.sc,.sc,.sc,.sc,.own [.sc]]]},
  {op:=.nil 3 q3}]) c_Ij_2
def vf_Ij:VF:={ pm:=[.mb [.ro [.sc],.sc,.sc]],rm:=[.v [.own q3,.own [.sc,.sc,.sc,.sc,.own [.sc]]],.v [.own q3]],nslots:=95,res:=[2,3],rc:=[some (2,true),none],code:=.kp [0] c_Ij_0 }
def c_Ir_5:VC:=
 .ite (.s 25) (.seq (.r 2 [oK 2 false]) (.ret)) (.skip)
def c_Ir_27:VC:=
 .ite (.s 35) (.seq (.r 7 [oK 2 false]) (.ret)) (.skip)
def c_Ir_25:VC:=
 .seq (.r 6 [{op:=.ld 33 (.s 4) 3 true},
  {op:=.call 34 131 [(.s 33)]},
  {op:=.un 35 .not (.s 34)}]) c_Ir_27
def c_Ir_32:VC:=
 .r 8 [{op:=.bin 36 .add (.s 29) (.k (.int .i64 1))},
  M 29 36]
def c_Ir_21:VC:=
 .seq (.blk 1 (.seq (.r 5 [oX 31 27 29 3,
  {op:=.ld 32 (.s 31) 3 true},
  {op:=.alloc 4 [.k (.int .i64 0),.k (.int .i64 0),.k (.string (ByteArray.mk #[]))]},
  oS 4 32 3]) c_Ir_25)) c_Ir_32
def c_Ir_17:VC:=
 .seq (.ite (.s 30) (.skip) (.exit 0)) c_Ir_21
def c_Ir_15:VC:=
 .seq (.r 4 [{op:=.bin 30 .lss (.s 29) (.s 28)}]) c_Ir_17
def c_Ir_13:VC:=
 .blk 0 (.loop [1,27,28,29] c_Ir_15)
def c_Ir_52:VC:=
 .r 14 [M 46 6,
  M 47 7,
  oX 48 46 47 1,
  {op:=.st (.s 48) (.k (.int .i64 (-1))) 1}]
def c_Ir_53:VC:=
 .r 15 [{op:=.bin 49 .add (.s 43) (.k (.int .i64 1))},
  M 43 49]
def c_Ir_48:VC:=
 .seq (.blk 3 (.seq (.r 13 [M 45 43,
  M 7 45]) c_Ir_52)) c_Ir_53
def c_Ir_44:VC:=
 .seq (.ite (.s 44) (.skip) (.exit 2)) c_Ir_48
def c_Ir_42:VC:=
 .seq (.r 12 [{op:=.bin 44 .lss (.s 43) (.s 42)}]) c_Ir_44
def c_Ir_40:VC:=
 .blk 2 (.loop [1,5,6,42,43] c_Ir_42)
def c_Ir_72:VC:=
 .ite (.s 102) (.seq (.r 20 [oK 2 false]) (.ret)) (.skip)
def c_Ir_79:VC:=
 .r 22 [M 109 5,
  oF 110 9 4,
  oL 111 110 1,
  {op:=.len 112 (.s 111)},
  {op:=.bin 113 .add (.s 109) (.s 112)},
  M 5 113]
def c_Ir_77:VC:=
 .seq (.r 21 [M 103 6,
  oF 104 9 0,
  oL 105 104 1,
  oF 106 9 1,
  oL 107 106 1,
  oX 108 103 105 1,
  oS 108 107 1]) c_Ir_79
def c_Ir_69:VC:=
 .seq (.seq (.d 19 [(0,oG 57 9 0),
  (1,oV 58 57 1),
  (2,{op:=.bin 59 .lss (.s 58) (.k (.int .i64 0))}),
  (3,M 60 59),
  (4,⟨none,[],some (60,false),.fadv 61 (.s 9) 0⟩),
  (5,⟨none,[],some (60,false),.ldv 62 (.s 61) 1 false⟩),
  (6,⟨none,[],some (60,false),.fadv 63 (.s 1) 0⟩),
  (7,⟨none,[],some (60,false),.ldv 64 (.s 63) 1 false⟩),
  (8,⟨none,[],some (60,false),.len 65 (.s 64)⟩),
  (9,⟨none,[],some (60,false),.bin 66 .geq (.s 62) (.s 65)⟩),
  (10,{op:=.pick 67 (.s 60) (.k (.bool true)) (.s 66)}),
  (11,M 68 67),
  (12,⟨none,[],some (68,false),.fadv 69 (.s 9) 1⟩),
  (13,⟨none,[],some (68,false),.ldv 70 (.s 69) 1 false⟩),
  (14,⟨none,[],some (68,false),.call 71 133 [(.s 70)]⟩),
  (15,⟨none,[],some (68,false),.un 72 .not (.s 71)⟩),
  (16,{op:=.pick 73 (.s 68) (.k (.bool true)) (.s 72)}),
  (17,M 74 73),
  (18,⟨none,[],some (74,false),.fadv 75 (.s 9) 2⟩),
  (19,⟨none,[],some (74,false),.ldv 76 (.s 75) 1 false⟩),
  (20,⟨none,[],some (74,false),.call 77 133 [(.s 76)]⟩),
  (21,⟨none,[],some (74,false),.un 78 .not (.s 77)⟩),
  (22,{op:=.pick 79 (.s 74) (.k (.bool true)) (.s 78)}),
  (23,M 80 79),
  (24,⟨none,[],some (80,false),.fadv 81 (.s 9) 1⟩),
  (25,⟨none,[],some (80,false),.ldv 82 (.s 81) 1 false⟩),
  (26,⟨none,[],some (80,false),.mv 83 (.s 6)⟩),
  (27,⟨none,[],some (80,false),.fadv 84 (.s 9) 0⟩),
  (28,⟨none,[],some (80,false),.ldv 85 (.s 84) 1 false⟩),
  (29,⟨none,[],some (80,false),.iadr 86 (.s 83) (.s 85) 1⟩),
  (30,⟨none,[],some (80,false),.ld 87 (.s 86) 1 false⟩),
  (31,⟨none,[],some (80,false),.bin 88 .lss (.s 82) (.s 87)⟩),
  (32,{op:=.pick 89 (.s 80) (.k (.bool true)) (.s 88)}),
  (33,M 90 89),
  (34,⟨none,[],some (90,false),.mv 91 (.s 6)⟩),
  (35,⟨none,[],some (90,false),.fadv 92 (.s 9) 0⟩),
  (36,⟨none,[],some (90,false),.ldv 93 (.s 92) 1 false⟩),
  (37,⟨none,[],some (90,false),.iadr 94 (.s 91) (.s 93) 1⟩),
  (38,⟨none,[],some (90,false),.ld 95 (.s 94) 1 false⟩),
  (39,⟨none,[],some (90,false),.bin 96 .lss (.s 95) (.k (.int .i64 0))⟩),
  (40,⟨none,[],some (90,false),.mv 97 (.s 96)⟩),
  (41,⟨none,[],some (97,true),.fadv 98 (.s 9) 3⟩),
  (42,⟨none,[],some (97,true),.ldv 99 (.s 98) 1 false⟩),
  (43,⟨none,[],some (97,true),.un 100 .not (.s 99)⟩),
  (44,⟨none,[],some (90,false),.pick 101 (.s 97) (.s 100) (.k (.bool false))⟩),
  (45,{op:=.pick 102 (.s 90) (.k (.bool true)) (.s 101)})]) c_Ir_72) (.kp [1,5,6,9,51,52,53] c_Ir_77)
def c_Ir_80:VC:=
 .r 23 [{op:=.bin 114 .add (.s 53) (.k (.int .i64 1))},
  M 53 114]
def c_Ir_65:VC:=
 .seq (.blk 5 (.seq (.r 18 [oX 55 51 53 5,
  {op:=.ld 56 (.s 55) 5 true},
  {op:=.alloc 9 [.k (.int .i64 0),.k (.int .i64 0),.k (.int .i64 0),.k (.bool false),.o [.sc]]},
  oS 9 56 5]) c_Ir_69)) c_Ir_80
def c_Ir_61:VC:=
 .seq (.ite (.s 54) (.skip) (.exit 4)) c_Ir_65
def c_Ir_59:VC:=
 .seq (.r 17 [{op:=.bin 54 .lss (.s 53) (.s 52)}]) c_Ir_61
def c_Ir_57:VC:=
 .blk 4 (.loop [1,5,6,51,52,53] c_Ir_59)
def c_Ir_81:VC:=
 .seq (.r 24 [M 115 5,
  {op:=.bin 116 .leq (.s 115) (.k (.int .i64 60000))},
  M 2 116]) (.ret)
def c_Ir_54:VC:=
 .seq (.seq (.r 16 [oF 50 1 1,
  oL 51 50 1,
  {op:=.len 52 (.s 51)},
  oN 53 0]) c_Ir_57) (.kp [5] c_Ir_81)
def c_Ir_37:VC:=
 .seq (.seq (.r 11 [M 41 6,
  {op:=.len 42 (.s 41)},
  oN 43 0]) c_Ir_40) (.kp [1,5,6] c_Ir_54)
def c_Ir_35:VC:=
 .seq (.r 10 [oF 37 1 0,
  oL 38 37 1,
  {op:=.len 39 (.s 38)},
  {op:=.mk 40 (.s 39) [.sc] [(.int .i64 0)] 17592186044416},
  M 6 40]) c_Ir_37
def c_Ir_33:VC:=
 .seq (.r 9 [oN 5 0]) c_Ir_35
def c_Ir_10:VC:=
 .seq (.seq (.r 3 [oF 26 1 0,
  oL 27 26 1,
  {op:=.len 28 (.s 27)},
  oN 29 0]) c_Ir_13) (.kp [1] c_Ir_33)
def c_Ir_2:VC:=
 .seq (.seq (.r 1 [oF 10 1 0,
  oL 11 10 1,
  {op:=.len 12 (.s 11)},
  {op:=.bin 13 .lss (.s 12) (.k (.int .i64 1))},
  M 14 13,
  ⟨none,[],some (14,false),.fadr 15 (.s 1) 0⟩,
  ⟨none,[],some (14,false),.ld 16 (.s 15) 1 false⟩,
  ⟨none,[],some (14,false),.len 17 (.s 16)⟩,
  ⟨none,[],some (14,false),.bin 18 .gtr (.s 17) (.k (.int .i64 8))⟩,
  {op:=.pick 19 (.s 14) (.k (.bool true)) (.s 18)},
  M 20 19,
  ⟨none,[],some (20,false),.fadr 21 (.s 1) 1⟩,
  ⟨none,[],some (20,false),.ld 22 (.s 21) 1 false⟩,
  ⟨none,[],some (20,false),.len 23 (.s 22)⟩,
  ⟨none,[],some (20,false),.bin 24 .gtr (.s 23) (.k (.int .i64 400))⟩,
  {op:=.pick 25 (.s 20) (.k (.bool true)) (.s 24)}]) c_Ir_5) c_Ir_10
def c_Ir_0:VC:=
 .seq (.r 0 [{op:=.box 1 (.s 0)},
  oK 2 false]) c_Ir_2
def vf_Ir:VF:={ pm:=[.ro [.ro q3,.ro q5]],rm:=[.v [.sc]],nslots:=117,res:=[2],rc:=[],code:=.kp [0] c_Ir_0 }
def c_Ig_9:VC:=
 .ite (.s 43) (.seq (.r 4 [M 44 9,
  M 45 10,
  {op:=.bin 46 .lss (.s 44) (.s 45)},
  M 6 46]) (.ret)) (.skip)
def c_Ig_17:VC:=
 .ite (.s 51) (.seq (.r 6 [oF 52 7 0,
  oL 53 52 1,
  oF 54 8 0,
  oL 55 54 1,
  {op:=.bin 56 .lss (.s 53) (.s 55)},
  M 6 56]) (.ret)) (.skip)
def c_Ig_22:VC:=
 .seq (.r 7 [M 57 1,
  M 58 2,
  {op:=.bin 59 .lss (.s 57) (.s 58)},
  M 6 59]) (.ret)
def c_Ig_14:VC:=
 .seq (.seq (.r 5 [oF 47 7 0,
  oL 48 47 1,
  oF 49 8 0,
  oL 50 49 1,
  {op:=.bin 51 .neq (.s 48) (.s 50)}]) c_Ig_17) c_Ig_22
def c_Ig_6:VC:=
 .seq (.seq (.r 3 [M 41 9,
  M 42 10,
  {op:=.bin 43 .neq (.s 41) (.s 42)}]) c_Ig_9) c_Ig_14
def c_Ig_4:VC:=
 .seq (.d 2 [(0,oG 21 7 1),
  (1,oV 22 21 1),
  (2,oG 23 3 0),
  (3,oV 24 23 1),
  (4,oG 25 8 0),
  (5,oV 26 25 1),
  (6,oX 27 24 26 3),
  (7,oG 28 27 1),
  (8,oV 29 28 1),
  (9,{op:=.bin 30 .mul (.s 22) (.s 29)}),
  (10,oG 31 8 1),
  (11,oV 32 31 1),
  (12,oG 33 3 0),
  (13,oV 34 33 1),
  (14,oG 35 7 0),
  (15,oV 36 35 1),
  (16,oX 37 34 36 3),
  (17,oG 38 37 1),
  (18,oV 39 38 1),
  (19,{op:=.bin 40 .mul (.s 32) (.s 39)}),
  (20,M 9 30),
  (21,M 10 40)]) c_Ig_6
def c_Ig_2:VC:=
 .seq (.pre [.pad 2] (.d 1 [(0,{op:=.fadk 11 (.s 3) 0 1}),
  (1,{op:=.ldk 12 (.s 11) 0 1 false}),
  (2,M 13 1),
  (3,oX 14 12 13 5),
  (4,{op:=.ldr 15 (.s 14) 5 true}),
  (5,{op:=.fadk 16 (.s 3) 0 1}),
  (6,{op:=.ldk 17 (.s 16) 0 1 false}),
  (7,M 18 2),
  (8,oX 19 17 18 5),
  (9,{op:=.ldr 20 (.s 19) 5 true}),
  (10,{op:=.alk 7 [.k (.int .i64 0),.k (.int .i64 0),.k (.int .i64 0),.k (.bool false),.k (.slice none 0 0)] 1}),
  (11,{op:=.alk 8 [.k (.int .i64 0),.k (.int .i64 0),.k (.int .i64 0),.k (.bool false),.k (.slice none 0 0)] 2}),
  (12,{op:=.stk (.s 7) (.s 15) 1 5}),
  (13,{op:=.stk (.s 8) (.s 20) 2 5})])) c_Ig_4
def c_Ig_0:VC:=
 .seq (.r 0 [{op:=.box 3 (.s 0)},
  oK 6 false]) c_Ig_2
def vf_Ig:VF:={ pm:=[.ro [.ro q3,.ro q5],.ro [.sc],.ro [.sc]],rm:=[.v [.sc]],nslots:=60,res:=[6],rc:=[],code:=.kp [0,1,2] c_Ig_0 }
def c_Ic_5:VC:=
 .ite (.s 6) (.seq (.r 2 [oK 2 false]) (.ret)) (.skip)
def c_Ic_18:VC:=
 .ite (.s 11) (.skip) (.exit 0)
def c_Ic_25:VC:=
 .ite (.s 18) (.seq (.r 7 [oK 2 false]) (.ret)) (.skip)
def c_Ic_30:VC:=
 .r 5 [M 12 3,
  {op:=.bin 13 .add (.s 12) (.k (.int .i64 1))},
  M 3 13]
def c_Ic_21:VC:=
 .seq (.blk 1 (.seq (.r 6 [{op:=.ld 14 (.s 1) 2 true},
  M 15 3,
  M 16 3,
  {op:=.bin 17 .sub (.s 16) (.k (.int .i64 1))},
  {op:=.call 18 113 [(.s 14),(.s 15),(.s 17)]}]) c_Ic_25)) c_Ic_30
def c_Ic_15:VC:=
 .seq (.seq (.r 4 [M 7 3,
  oF 8 1 1,
  oL 9 8 1,
  {op:=.len 10 (.s 9)},
  {op:=.bin 11 .lss (.s 7) (.s 10)}]) c_Ic_18) c_Ic_21
def c_Ic_13:VC:=
 .blk 0 (.loop [1,3] c_Ic_15)
def c_Ic_31:VC:=
 .seq (.r 8 [oK 2 true]) (.ret)
def c_Ic_10:VC:=
 .seq (.seq (.r 3 [oN 3 1]) c_Ic_13) (.kp [] c_Ic_31)
def c_Ic_2:VC:=
 .seq (.seq (.r 1 [{op:=.ld 4 (.s 1) 2 true},
  {op:=.call 5 112 [(.s 4)]},
  {op:=.un 6 .not (.s 5)}]) c_Ic_5) c_Ic_10
def c_Ic_0:VC:=
 .seq (.r 0 [{op:=.box 1 (.s 0)},
  oK 2 false]) c_Ic_2
def vf_Ic:VF:={ pm:=[.ro [.ro q3,.ro q5]],rm:=[.v [.sc]],nslots:=19,res:=[2],rc:=[],code:=.kp [0] c_Ic_0 }
def c_Ie_13:VC:=
 .ite (.s 29) (.r 6 [M 30 3,
  {op:=.call 31 100 [(.s 30),(.k (.int .i64 5))]}]) (.skip)
def c_Ie_26:VC:=
 .ite (.s 41) (.skip) (.exit 0)
def c_Ie_32:VC:=
 .r 10 [M 42 9,
  {op:=.bin 43 .add (.s 42) (.k (.int .i64 1))},
  M 9 43]
def c_Ie_29:VC:=
 .seq (.blk 1 (.r 11 [M 44 8,
  M 45 3,
  {op:=.call 46 130 [(.s 45)]},
  M 47 3,
  {op:=.call 48 130 [(.s 47)]},
  M 49 3,
  {op:=.call 50 130 [(.s 49)]},
  {op:=.bld 51 [.k (.int .i64 0),.k (.int .i64 0),.k (.int .i64 0)] [(0,1,(.s 46)),(1,1,(.s 48)),(2,1,(.s 50))]},
  {op:=.lits 52 q3 [(.s 51)]},
  {op:=.app 53 (.s 44) (.s 52) q3 5864062014805},
  M 8 53])) c_Ie_32
def c_Ie_23:VC:=
 .seq (.seq (.r 9 [M 32 9,
  M 33 7,
  {op:=.bin 34 .lss (.s 32) (.s 33)},
  M 35 34,
  ⟨none,[],some (35,true),.mv 36 (.s 3)⟩,
  ⟨none,[],some (35,true),.nck 37 (.s 36)⟩,
  ⟨none,[],some (35,true),.fadr 38 (.s 37) 2⟩,
  ⟨none,[],some (35,true),.ld 39 (.s 38) 1 false⟩,
  ⟨none,[],some (35,true),.bin 40 .eql (.s 39) (.k (.int .i64 0))⟩,
  {op:=.pick 41 (.s 35) (.s 40) (.k (.bool false))}]) c_Ie_26) c_Ie_29
def c_Ie_21:VC:=
 .blk 0 (.loop [0,2,3,4,5,6,7,8,9] c_Ie_23)
def c_Ie_47:VC:=
 .ite (.s 76) (.skip) (.exit 2)
def c_Ie_53:VC:=
 .r 17 [M 77 12,
  {op:=.bin 78 .add (.s 77) (.k (.int .i64 1))},
  M 12 78]
def c_Ie_50:VC:=
 .seq (.blk 3 (.d 18 [(0,M 79 8),
  (1,M 80 12),
  (2,oX 81 79 80 3),
  (3,{op:=.ld 82 (.s 81) 3 true}),
  (4,M 83 5),
  (5,M 84 12),
  (6,oX 85 83 84 3),
  (7,{op:=.ld 86 (.s 85) 3 true}),
  (8,{op:=.ceq 87 [.i,.i,.i] false (.s 82) (.s 86)}),
  (9,M 11 87)])) c_Ie_53
def c_Ie_44:VC:=
 .seq (.seq (.r 16 [M 70 11,
  M 71 70,
  ⟨none,[],some (71,true),.mv 72 (.s 12)⟩,
  ⟨none,[],some (71,true),.mv 73 (.s 8)⟩,
  ⟨none,[],some (71,true),.len 74 (.s 73)⟩,
  ⟨none,[],some (71,true),.bin 75 .lss (.s 72) (.s 74)⟩,
  {op:=.pick 76 (.s 71) (.s 75) (.k (.bool false))}]) c_Ie_47) c_Ie_50
def c_Ie_42:VC:=
 .blk 2 (.loop [0,2,3,4,5,8,11,12] c_Ie_44)
def c_Ie_57:VC:=
 .ite (.s 89) (.r 20 [M 90 3,
  {op:=.call 91 100 [(.s 90),(.k (.int .i64 5))]}]) (.skip)
def c_Ie_63:VC:=
 .ite (.s 98) (.r 22 [M 99 3,
  {op:=.call 100 100 [(.s 99),(.k (.int .i64 8))]}]) (.skip)
def c_Ie_69:VC:=
 .ite (.s 103) (.r 24 [M 104 3,
  {op:=.call 105 100 [(.s 104),(.k (.int .i64 6))]}]) (.skip)
def c_Ie_75:VC:=
 .ite (.s 110) (.seq (.r 26 [M 111 3,
  {op:=.nck 112 (.s 111)},
  oF 113 112 2,
  oL 114 113 1,
  {op:=.bld 115 [.k (.int .i64 0),.o q3,.o [.sc,.sc,.sc,.sc,.own [.sc]],.k (.int .i64 0)] [(0,1,(.s 114))]},
  oS 2 115 4]) (.ret)) (.skip)
def c_Ie_80:VC:=
 .seq (.r 27 [{op:=.ld 116 (.s 4) 2 true},
  {op:=.bld 117 [.k (.int .i64 0),.k (.slice none 0 0),.k (.slice none 0 0),.k (.int .i64 0)] [(1,2,(.s 116))]},
  oS 2 117 4]) (.ret)
def c_Ie_72:VC:=
 .seq (.seq (.r 25 [M 106 3,
  {op:=.nck 107 (.s 106)},
  oF 108 107 2,
  oL 109 108 1,
  {op:=.bin 110 .neq (.s 109) (.k (.int .i64 0))}]) c_Ie_75) c_Ie_80
def c_Ie_66:VC:=
 .seq (.seq (.r 23 [{op:=.ld 101 (.s 4) 2 true},
  {op:=.call 102 54 [(.s 101)]},
  {op:=.un 103 .not (.s 102)}]) c_Ie_69) (.kp [2,3,4] c_Ie_72)
def c_Ie_60:VC:=
 .seq (.seq (.r 21 [M 92 3,
  {op:=.nck 93 (.s 92)},
  oF 94 93 1,
  oL 95 94 1,
  M 96 0,
  {op:=.len 97 (.s 96)},
  {op:=.bin 98 .lss (.s 95) (.s 97)}]) c_Ie_63) (.kp [2,3,4] c_Ie_66)
def c_Ie_54:VC:=
 .seq (.seq (.r 19 [M 88 11,
  {op:=.un 89 .not (.s 88)}]) c_Ie_57) (.kp [0,2,3,4] c_Ie_60)
def c_Ie_39:VC:=
 .seq (.seq (.r 15 [oN 12 0]) c_Ie_42) (.kp [0,2,3,4,11] c_Ie_54)
def c_Ie_37:VC:=
 .seq (.r 14 [M 60 8,
  {op:=.len 61 (.s 60)},
  M 62 5,
  {op:=.len 63 (.s 62)},
  {op:=.bin 64 .eql (.s 61) (.s 63)},
  M 65 64,
  ⟨none,[],some (65,true),.mv 66 (.s 10)⟩,
  ⟨none,[],some (65,true),.mv 67 (.s 6)⟩,
  ⟨none,[],some (65,true),.bin 68 .eql (.s 66) (.s 67)⟩,
  {op:=.pick 69 (.s 65) (.s 68) (.k (.bool false))},
  M 11 69]) (.kp [0,2,3,4,5,8,11] c_Ie_39)
def c_Ie_35:VC:=
 .seq (.r 13 [M 56 3,
  M 57 6,
  {op:=.mx 58 (.s 57) (.k (.int .i64 0))},
  {op:=.call 59 132 [(.s 56),(.s 58)]}]) c_Ie_37
def c_Ie_33:VC:=
 .seq (.r 12 [M 54 3,
  {op:=.call 55 130 [(.s 54)]},
  M 10 55]) c_Ie_35
def c_Ie_18:VC:=
 .seq (.seq (.r 8 [oN 9 0]) c_Ie_21) (.kp [0,2,3,4,5,6,8] c_Ie_33)
def c_Ie_16:VC:=
 .seq (.r 7 [{op:=.nil 8 q3}]) c_Ie_18
def c_Ie_10:VC:=
 .seq (.seq (.r 5 [M 28 7,
  {op:=.bin 29 .gtr (.s 28) (.k (.int .i64 400))}]) c_Ie_13) (.kp [0,2,3,4,5,6,7] c_Ie_16)
def c_Ie_8:VC:=
 .seq (.r 4 [M 26 3,
  {op:=.call 27 130 [(.s 26)]},
  M 7 27]) c_Ie_10
def c_Ie_6:VC:=
 .seq (.r 3 [M 21 3,
  {op:=.nck 22 (.s 21)},
  oF 23 22 1,
  oL 24 23 1,
  {op:=.bin 25 .sub (.s 24) (.k (.int .i64 8))},
  M 6 25]) c_Ie_8
def c_Ie_4:VC:=
 .seq (.r 2 [M 17 3,
  {op:=.call 18 44 [(.s 17)]},
  M 16 18,
  {op:=.ext 19 (.s 16) 0},
  {op:=.ext 20 (.s 16) 1},
  {op:=.alloc 4 [.o q3,.o [.sc,.sc,.sc,.sc,.own [.sc]]]},
  oS 4 19 2,
  M 5 20]) c_Ie_6
def c_Ie_2:VC:=
 .seq (.r 1 [M 13 0,
  {op:=.bld 14 [.k (.slice none 0 0),.k (.int .i64 0),.k (.int .i64 0)] [(0,1,(.s 13))]},
  {op:=.box 15 (.s 14)},
  M 3 15]) c_Ie_4
def c_Ie_0:VC:=
 .seq (.r 0 [{op:=.alloc 2 [.k (.int .i64 0),.o q3,.o [.sc,.sc,.sc,.sc,.own [.sc]],.k (.int .i64 0)]}]) c_Ie_2
def vf_Ie:VF:={ pm:=[.ro [.ro [.sc]]],rm:=[.v [.sc,.own q3,.own [.sc,.sc,.sc,.sc,.own [.sc]],.sc]],nslots:=118,res:=[2],rc:=[some (4,true)],code:=.kp [0] c_Ie_0 }
def c_Id_6:VC:=
 .seq (.r 3 [M 14 5,
  M 2 14]) (.ret)
def c_Id_4:VC:=
 .seq (.r 2 [M 10 3,
  {op:=.call 11 44 [(.s 10)]},
  M 9 11,
  {op:=.ext 12 (.s 9) 0},
  {op:=.ext 13 (.s 9) 1},
  {op:=.alloc 4 [.o q3,.o [.sc,.sc,.sc,.sc,.own [.sc]]]},
  oS 4 12 2,
  M 5 13]) c_Id_6
def c_Id_2:VC:=
 .seq (.r 1 [M 6 0,
  {op:=.bld 7 [.k (.slice none 0 0),.k (.int .i64 0),.k (.int .i64 0)] [(0,1,(.s 6))]},
  {op:=.box 8 (.s 7)},
  M 3 8]) c_Id_4
def c_Id_0:VC:=
 .seq (.r 0 [{op:=.nil 2 q3}]) c_Id_2
def vf_Id:VF:={ pm:=[.ro [.ro [.sc]]],rm:=[.v [.own q3]],nslots:=15,res:=[2],rc:=[],code:=.kp [0] c_Id_0 }
def c_If_5:VC:=
 .ite (.s 6) (.seq (.r 2 [{op:=.nil 2 q3}]) (.ret)) (.skip)
def c_If_10:VC:=
 .seq (.r 3 [M 7 0,
  {op:=.call 8 11 [(.s 7)]},
  M 2 8]) (.ret)
def c_If_2:VC:=
 .seq (.seq (.r 1 [M 3 0,
  {op:=.call 4 87 [(.s 3)]},
  {op:=.fld 5 (.s 4) 0 1 false},
  {op:=.bin 6 .neq (.s 5) (.k (.int .i64 0))}]) c_If_5) c_If_10
def c_If_0:VC:=
 .seq (.r 0 [{op:=.nil 2 q3}]) c_If_2
def vf_If:VF:={ pm:=[.ro [.ro [.sc]]],rm:=[.v [.own q3]],nslots:=9,res:=[2],rc:=[],code:=.kp [0] c_If_0 }
def c_Lb_5:VC:=
 .ite (.s 9) (.seq (.r 2 [oK 4 false]) (.ret)) (.skip)
def c_Lb_13:VC:=
 .ite (.s 14) (.seq (.r 4 [oK 4 false]) (.ret)) (.skip)
def c_Lb_21:VC:=
 .ite (.s 19) (.seq (.r 6 [oK 4 false]) (.ret)) (.skip)
def c_Lb_26:VC:=
 .seq (.r 7 [oK 4 true]) (.ret)
def c_Lb_18:VC:=
 .seq (.seq (.r 5 [oF 15 2 2,
  oL 16 15 1,
  oF 17 3 2,
  oL 18 17 1,
  {op:=.bin 19 .neq (.s 16) (.s 18)}]) c_Lb_21) c_Lb_26
def c_Lb_10:VC:=
 .seq (.seq (.r 3 [oF 10 2 1,
  oL 11 10 1,
  oF 12 3 1,
  oL 13 12 1,
  {op:=.bin 14 .neq (.s 11) (.s 13)}]) c_Lb_13) c_Lb_18
def c_Lb_2:VC:=
 .seq (.seq (.r 1 [oF 5 2 0,
  oL 6 5 1,
  oF 7 3 0,
  oL 8 7 1,
  {op:=.bin 9 .neq (.s 6) (.s 8)}]) c_Lb_5) c_Lb_10
def c_Lb_0:VC:=
 .seq (.r 0 [{op:=.box 2 (.s 0)},
  {op:=.box 3 (.s 1)},
  oK 4 false]) c_Lb_2
def vf_Lb:VF:={ pm:=[.ro q3,.ro q3],rm:=[.v [.sc]],nslots:=20,res:=[4],rc:=[],code:=.kp [0,1] c_Lb_0 }
def c_Lc_5:VC:=
 .ite (.s 10) (.seq (.r 2 [oK 4 false]) (.ret)) (.skip)
def c_Lc_18:VC:=
 .ite (.s 14) (.skip) (.exit 0)
def c_Lc_25:VC:=
 .ite (.s 26) (.seq (.r 7 [oK 4 false]) (.ret)) (.skip)
def c_Lc_30:VC:=
 .r 5 [M 15 5,
  {op:=.bin 16 .add (.s 15) (.k (.int .i64 1))},
  M 5 16]
def c_Lc_21:VC:=
 .seq (.blk 1 (.seq (.d 6 [(0,M 17 0),
  (1,M 18 5),
  (2,oX 19 17 18 3),
  (3,{op:=.ldv 20 (.s 19) 3 true}),
  (4,M 21 1),
  (5,M 22 5),
  (6,oX 23 21 22 3),
  (7,{op:=.ldv 24 (.s 23) 3 true}),
  (8,{op:=.call 25 45 [(.s 20),(.s 24)]}),
  (9,{op:=.un 26 .not (.s 25)})]) c_Lc_25)) c_Lc_30
def c_Lc_15:VC:=
 .seq (.seq (.r 4 [M 11 5,
  M 12 0,
  {op:=.len 13 (.s 12)},
  {op:=.bin 14 .lss (.s 11) (.s 13)}]) c_Lc_18) c_Lc_21
def c_Lc_13:VC:=
 .blk 0 (.loop [0,1,5] c_Lc_15)
def c_Lc_31:VC:=
 .seq (.r 8 [oK 4 true]) (.ret)
def c_Lc_10:VC:=
 .seq (.seq (.r 3 [oN 5 0]) c_Lc_13) (.kp [] c_Lc_31)
def c_Lc_2:VC:=
 .seq (.seq (.r 1 [M 6 0,
  {op:=.len 7 (.s 6)},
  M 8 1,
  {op:=.len 9 (.s 8)},
  {op:=.bin 10 .neq (.s 7) (.s 9)}]) c_Lc_5) c_Lc_10
def c_Lc_0:VC:=
 .seq (.r 0 [oK 4 false]) c_Lc_2
def vf_Lc:VF:={ pm:=[.ro [.ro q3],.ro [.ro q3]],rm:=[.v [.sc]],nslots:=27,res:=[4],rc:=[],code:=.kp [0,1] c_Lc_0 }
def c_La_5:VC:=
 .ite (.s 10) (.seq (.r 2 [oK 4 false]) (.ret)) (.skip)
def c_La_18:VC:=
 .ite (.s 14) (.skip) (.exit 0)
def c_La_25:VC:=
 .ite (.s 25) (.seq (.r 7 [oK 4 false]) (.ret)) (.skip)
def c_La_30:VC:=
 .r 5 [M 15 5,
  {op:=.bin 16 .add (.s 15) (.k (.int .i64 1))},
  M 5 16]
def c_La_21:VC:=
 .seq (.blk 1 (.seq (.d 6 [(0,M 17 0),
  (1,M 18 5),
  (2,oX 19 17 18 1),
  (3,oV 20 19 1),
  (4,M 21 1),
  (5,M 22 5),
  (6,oX 23 21 22 1),
  (7,oV 24 23 1),
  (8,{op:=.bin 25 .neq (.s 20) (.s 24)})]) c_La_25)) c_La_30
def c_La_15:VC:=
 .seq (.seq (.r 4 [M 11 5,
  M 12 0,
  {op:=.len 13 (.s 12)},
  {op:=.bin 14 .lss (.s 11) (.s 13)}]) c_La_18) c_La_21
def c_La_13:VC:=
 .blk 0 (.loop [0,1,5] c_La_15)
def c_La_31:VC:=
 .seq (.r 8 [oK 4 true]) (.ret)
def c_La_10:VC:=
 .seq (.seq (.r 3 [oN 5 0]) c_La_13) (.kp [] c_La_31)
def c_La_2:VC:=
 .seq (.seq (.r 1 [M 6 0,
  {op:=.len 7 (.s 6)},
  M 8 1,
  {op:=.len 9 (.s 8)},
  {op:=.bin 10 .neq (.s 7) (.s 9)}]) c_La_5) c_La_10
def c_La_0:VC:=
 .seq (.r 0 [oK 4 false]) c_La_2
def vf_La:VF:={ pm:=[.ro [.ro [.sc]],.ro [.ro [.sc]]],rm:=[.v [.sc]],nslots:=26,res:=[4],rc:=[],code:=.kp [0,1] c_La_0 }
def c_Le_10:VC:=
 .ite (.s 9) (.skip) (.exit 0)
def c_Le_17:VC:=
 .r 5 [M 17 1,
  {op:=.bin 18 .add (.s 17) (.k (.int .i64 1))},
  M 1 18]
def c_Le_18:VC:=
 .r 3 [M 10 5,
  {op:=.bin 11 .add (.s 10) (.k (.int .i64 1))},
  M 5 11]
def c_Le_13:VC:=
 .seq (.blk 1 (.seq (.r 4 [M 12 0,
  M 13 5,
  M 14 1,
  {op:=.conv 15 .u8 (.s 14)},
  oX 16 12 13 1,
  oS 16 15 1]) c_Le_17)) c_Le_18
def c_Le_7:VC:=
 .seq (.seq (.r 2 [M 6 5,
  M 7 0,
  {op:=.len 8 (.s 7)},
  {op:=.bin 9 .lss (.s 6) (.s 8)}]) c_Le_10) c_Le_13
def c_Le_5:VC:=
 .blk 0 (.loop [0,1,5] c_Le_7)
def c_Le_19:VC:=
 .seq (.r 6 [M 19 1,
  M 4 19]) (.ret)
def c_Le_2:VC:=
 .seq (.seq (.r 1 [oN 5 0]) c_Le_5) (.kp [0,1] c_Le_19)
def c_Le_0:VC:=
 .seq (.r 0 [oN 4 0]) c_Le_2
def vf_Le:VF:={ pm:=[.ms [.sc],.ro [.sc]],rm:=[.v [.sc]],nslots:=20,res:=[4],rc:=[],code:=.kp [0,1] c_Le_0 }
def c_Lf_10:VC:=
 .ite (.s 9) (.skip) (.exit 0)
def c_Lf_25:VC:=
 .r 9 [M 31 1,
  {op:=.bin 32 .add (.s 31) (.k (.int .i64 1))},
  M 1 32]
def c_Lf_23:VC:=
 .seq (.r 8 [M 26 0,
  M 27 5,
  M 28 1,
  oX 29 26 27 3,
  oF 30 29 2,
  oS 30 28 1]) c_Lf_25
def c_Lf_21:VC:=
 .seq (.r 7 [M 24 1,
  {op:=.bin 25 .add (.s 24) (.k (.int .i64 1))},
  M 1 25]) c_Lf_23
def c_Lf_19:VC:=
 .seq (.r 6 [M 19 0,
  M 20 5,
  M 21 1,
  oX 22 19 20 3,
  oF 23 22 1,
  oS 23 21 1]) c_Lf_21
def c_Lf_17:VC:=
 .seq (.r 5 [M 17 1,
  {op:=.bin 18 .add (.s 17) (.k (.int .i64 1))},
  M 1 18]) c_Lf_19
def c_Lf_26:VC:=
 .r 3 [M 10 5,
  {op:=.bin 11 .add (.s 10) (.k (.int .i64 1))},
  M 5 11]
def c_Lf_13:VC:=
 .seq (.blk 1 (.seq (.r 4 [M 12 0,
  M 13 5,
  M 14 1,
  oX 15 12 13 3,
  oF 16 15 0,
  oS 16 14 1]) c_Lf_17)) c_Lf_26
def c_Lf_7:VC:=
 .seq (.seq (.r 2 [M 6 5,
  M 7 0,
  {op:=.len 8 (.s 7)},
  {op:=.bin 9 .lss (.s 6) (.s 8)}]) c_Lf_10) c_Lf_13
def c_Lf_5:VC:=
 .blk 0 (.loop [0,1,5] c_Lf_7)
def c_Lf_27:VC:=
 .seq (.r 10 [M 33 1,
  M 4 33]) (.ret)
def c_Lf_2:VC:=
 .seq (.seq (.r 1 [oN 5 0]) c_Lf_5) (.kp [0,1] c_Lf_27)
def c_Lf_0:VC:=
 .seq (.r 0 [oN 4 0]) c_Lf_2
def vf_Lf:VF:={ pm:=[.ms q3,.ro [.sc]],rm:=[.v [.sc]],nslots:=34,res:=[4],rc:=[],code:=.kp [0,1] c_Lf_0 }
def c_Ld_10:VC:=
 .ite (.s 9) (.skip) (.exit 0)
def c_Ld_18:VC:=
 .ite (.s 18) (.seq (.r 5 [oN 4 (-1)]) (.ret)) (.skip)
def c_Ld_28:VC:=
 .ite (.s 27) (.seq (.r 8 [oN 4 (-1)]) (.ret)) (.skip)
def c_Ld_38:VC:=
 .ite (.s 36) (.seq (.r 11 [oN 4 (-1)]) (.ret)) (.skip)
def c_Ld_43:VC:=
 .r 12 [M 37 1,
  {op:=.bin 38 .add (.s 37) (.k (.int .i64 1))},
  M 1 38]
def c_Ld_35:VC:=
 .seq (.seq (.r 10 [M 30 0,
  M 31 5,
  oX 32 30 31 3,
  oF 33 32 2,
  oL 34 33 1,
  M 35 1,
  {op:=.bin 36 .neq (.s 34) (.s 35)}]) c_Ld_38) c_Ld_43
def c_Ld_33:VC:=
 .seq (.r 9 [M 28 1,
  {op:=.bin 29 .add (.s 28) (.k (.int .i64 1))},
  M 1 29]) c_Ld_35
def c_Ld_25:VC:=
 .seq (.seq (.r 7 [M 21 0,
  M 22 5,
  oX 23 21 22 3,
  oF 24 23 1,
  oL 25 24 1,
  M 26 1,
  {op:=.bin 27 .neq (.s 25) (.s 26)}]) c_Ld_28) c_Ld_33
def c_Ld_23:VC:=
 .seq (.r 6 [M 19 1,
  {op:=.bin 20 .add (.s 19) (.k (.int .i64 1))},
  M 1 20]) c_Ld_25
def c_Ld_44:VC:=
 .r 3 [M 10 5,
  {op:=.bin 11 .add (.s 10) (.k (.int .i64 1))},
  M 5 11]
def c_Ld_13:VC:=
 .seq (.blk 1 (.seq (.seq (.r 4 [M 12 0,
  M 13 5,
  oX 14 12 13 3,
  oF 15 14 0,
  oL 16 15 1,
  M 17 1,
  {op:=.bin 18 .neq (.s 16) (.s 17)}]) c_Ld_18) c_Ld_23)) c_Ld_44
def c_Ld_7:VC:=
 .seq (.seq (.r 2 [M 6 5,
  M 7 0,
  {op:=.len 8 (.s 7)},
  {op:=.bin 9 .lss (.s 6) (.s 8)}]) c_Ld_10) c_Ld_13
def c_Ld_5:VC:=
 .blk 0 (.loop [0,1,5] c_Ld_7)
def c_Ld_45:VC:=
 .seq (.r 13 [M 39 1,
  M 4 39]) (.ret)
def c_Ld_2:VC:=
 .seq (.seq (.r 1 [oN 5 0]) c_Ld_5) (.kp [1] c_Ld_45)
def c_Ld_0:VC:=
 .seq (.r 0 [oN 4 0]) c_Ld_2
def vf_Ld:VF:={ pm:=[.ro [.ro q3],.ro [.sc]],rm:=[.v [.sc]],nslots:=40,res:=[4],rc:=[],code:=.kp [0,1] c_Ld_0 }
def c_laws_FnExactReadIndex_5:VC:=
 .ite (.s 12) (.seq (.r 2 [oK 2 true]) (.ret)) (.skip)
def c_laws_FnExactReadIndex_19:VC:=
 .ite (.s 23) (.seq (.r 7 [oK 2 false]) (.ret)) (.skip)
def c_laws_FnExactReadIndex_27:VC:=
 .ite (.s 28) (.seq (.r 9 [oK 2 false]) (.ret)) (.skip)
def c_laws_FnExactReadIndex_39:VC:=
 .ite (.s 39) (.seq (.r 13 [oK 2 false]) (.ret)) (.skip)
def c_laws_FnExactReadIndex_55:VC:=
 .ite (.s 47) (.seq (.r 19 [oK 2 false]) (.ret)) (.skip)
def c_laws_FnExactReadIndex_63:VC:=
 .ite (.s 50) (.seq (.r 21 [oK 2 false]) (.ret)) (.skip)
def c_laws_FnExactReadIndex_73:VC:=
 .ite (.s 57) (.seq (.r 24 [oK 2 false]) (.ret)) (.skip)
def c_laws_FnExactReadIndex_85:VC:=
 .ite (.s 62) (.seq (.r 28 [oK 2 false]) (.ret)) (.skip)
def c_laws_FnExactReadIndex_93:VC:=
 .ite (.s 65) (.seq (.r 30 [oK 2 false]) (.ret)) (.skip)
def c_laws_FnExactReadIndex_98:VC:=
 .seq (.r 31 [oK 2 true]) (.ret)
def c_laws_FnExactReadIndex_90:VC:=
 .seq (.seq (.r 29 [M 63 8,
  M 64 7,
  {op:=.bin 65 .neq (.s 63) (.s 64)}]) c_laws_FnExactReadIndex_93) c_laws_FnExactReadIndex_98
def c_laws_FnExactReadIndex_82:VC:=
 .seq (.seq (.r 27 [M 61 8,
  {op:=.bin 62 .lss (.s 61) (.k (.int .i64 0))}]) c_laws_FnExactReadIndex_85) c_laws_FnExactReadIndex_90
def c_laws_FnExactReadIndex_80:VC:=
 .seq (.r 26 [M 58 5,
  M 59 8,
  {op:=.call 60 16 [(.s 58),(.s 59)]},
  M 8 60]) c_laws_FnExactReadIndex_82
def c_laws_FnExactReadIndex_78:VC:=
 .seq (.r 25 [oN 8 1]) c_laws_FnExactReadIndex_80
def c_laws_FnExactReadIndex_70:VC:=
 .seq (.seq (.r 23 [M 54 9,
  M 55 3,
  {op:=.call 56 12 [(.s 54),(.s 55)]},
  {op:=.un 57 .not (.s 56)}]) c_laws_FnExactReadIndex_73) c_laws_FnExactReadIndex_78
def c_laws_FnExactReadIndex_68:VC:=
 .seq (.r 22 [M 51 0,
  {op:=.call 52 10 [(.s 51)]},
  {op:=.call 53 34 [(.s 52)]},
  M 9 53]) c_laws_FnExactReadIndex_70
def c_laws_FnExactReadIndex_60:VC:=
 .seq (.seq (.r 20 [M 48 8,
  M 49 7,
  {op:=.bin 50 .neq (.s 48) (.s 49)}]) c_laws_FnExactReadIndex_63) c_laws_FnExactReadIndex_68
def c_laws_FnExactReadIndex_52:VC:=
 .seq (.seq (.r 18 [M 46 8,
  {op:=.bin 47 .lss (.s 46) (.k (.int .i64 0))}]) c_laws_FnExactReadIndex_55) c_laws_FnExactReadIndex_60
def c_laws_FnExactReadIndex_50:VC:=
 .seq (.r 17 [M 43 5,
  M 44 8,
  {op:=.call 45 16 [(.s 43),(.s 44)]},
  M 8 45]) c_laws_FnExactReadIndex_52
def c_laws_FnExactReadIndex_48:VC:=
 .seq (.r 16 [oN 8 1]) c_laws_FnExactReadIndex_50
def c_laws_FnExactReadIndex_46:VC:=
 .seq (.r 15 [M 40 5,
  M 41 7,
  {op:=.call 42 15 [(.s 40),(.s 41)]},
  M 7 42]) c_laws_FnExactReadIndex_48
def c_laws_FnExactReadIndex_44:VC:=
 .seq (.r 14 [oN 7 1]) c_laws_FnExactReadIndex_46
def c_laws_FnExactReadIndex_36:VC:=
 .seq (.seq (.r 12 [M 32 6,
  {op:=.bin 33 .lss (.s 32) (.k (.int .i64 0))},
  M 34 33,
  ⟨none,[],some (34,false),.mv 35 (.s 5)⟩,
  ⟨none,[],some (34,false),.mv 36 (.s 3)⟩,
  ⟨none,[],some (34,false),.call 37 12 [(.s 35),(.s 36)]⟩,
  ⟨none,[],some (34,false),.un 38 .not (.s 37)⟩,
  {op:=.pick 39 (.s 34) (.k (.bool true)) (.s 38)}]) c_laws_FnExactReadIndex_39) c_laws_FnExactReadIndex_44
def c_laws_FnExactReadIndex_34:VC:=
 .seq (.r 11 [M 29 4,
  M 30 6,
  {op:=.call 31 14 [(.s 29),(.s 30)]},
  M 6 31]) c_laws_FnExactReadIndex_36
def c_laws_FnExactReadIndex_32:VC:=
 .seq (.r 10 [oN 6 1]) c_laws_FnExactReadIndex_34
def c_laws_FnExactReadIndex_24:VC:=
 .seq (.seq (.r 8 [M 24 4,
  M 25 0,
  {op:=.call 26 10 [(.s 25)]},
  {op:=.call 27 13 [(.s 24),(.s 26)]},
  {op:=.un 28 .not (.s 27)}]) c_laws_FnExactReadIndex_27) c_laws_FnExactReadIndex_32
def c_laws_FnExactReadIndex_16:VC:=
 .seq (.seq (.r 6 [M 20 5,
  M 21 3,
  {op:=.call 22 12 [(.s 20),(.s 21)]},
  {op:=.un 23 .not (.s 22)}]) c_laws_FnExactReadIndex_19) c_laws_FnExactReadIndex_24
def c_laws_FnExactReadIndex_14:VC:=
 .seq (.r 5 [M 18 4,
  {op:=.call 19 34 [(.s 18)]},
  M 5 19]) c_laws_FnExactReadIndex_16
def c_laws_FnExactReadIndex_12:VC:=
 .seq (.r 4 [M 16 0,
  {op:=.call 17 10 [(.s 16)]},
  M 4 17]) c_laws_FnExactReadIndex_14
def c_laws_FnExactReadIndex_10:VC:=
 .seq (.r 3 [M 13 0,
  {op:=.call 14 10 [(.s 13)]},
  {op:=.call 15 33 [(.s 14)]},
  M 3 15]) c_laws_FnExactReadIndex_12
def c_laws_FnExactReadIndex_2:VC:=
 .seq (.seq (.r 1 [M 10 0,
  {op:=.len 11 (.s 10)},
  {op:=.bin 12 .gtr (.s 11) (.k (.int .i64 1048576))}]) c_laws_FnExactReadIndex_5) c_laws_FnExactReadIndex_10
def c_laws_FnExactReadIndex_0:VC:=
 .seq (.r 0 [oK 2 false]) c_laws_FnExactReadIndex_2
def vf_laws_FnExactReadIndex:VF:={ pm:=[.ro [.ro [.sc]]],rm:=[.v [.sc]],nslots:=66,res:=[2],rc:=[],code:=.kp [0] c_laws_FnExactReadIndex_0 }
def ext:FuncId→List Arg→Option FRes:=fun f ars=>none
def tblL:List (FuncId×VF):=[(10,vf_Lg),(94,vf_Sj),(96,vf_Sr),(93,vf_Si),(138,vf_Sb),(95,vf_Sn),(139,vf_Se),(97,vf_Sv),(140,vf_Sx),(107,vf_Sa),(98,vf_Sq),(42,vf_Sk),(80,vf_Sh),(79,vf_Sm),(127,vf_Su),(81,vf_So),(43,vf_Sp),(109,vf_Sg),(142,vf_Sw),(103,vf_St),(104,vf_Sf),(48,vf_Sc),(136,vf_Sl),(86,vf_Ss),(33,vf_Sd),(100,vf_Im),(128,vf_Ii),(99,vf_Il),(129,vf_Ik),(145,vf_Ib),(130,vf_Io),(131,vf_It),(146,vf_Ih),(59,vf_Ia),(132,vf_Iq),(83,vf_In),(133,vf_Is),(84,vf_Ip),(44,vf_Ij),(112,vf_Ir),(113,vf_Ig),(54,vf_Ic),(87,vf_Ie),(11,vf_Id),(34,vf_If),(45,vf_Lb),(12,vf_Lc),(13,vf_La),(14,vf_Le),(15,vf_Lf),(16,vf_Ld),(7,vf_laws_FnExactReadIndex)]
def tbl:FuncId→Option VF:=fun f=>tblL.lookup f
end Go.Proofs.V

namespace Go.Proofs.V
open Go
theorem fi_Lg:funcIs Go.Proofs.Try.prog tbl 10 vf_Lg=true:=by kernel_rfl
theorem fi_Sj:funcIs Go.Proofs.Try.prog tbl 94 vf_Sj=true:=by kernel_rfl
theorem fi_Sr:funcIs Go.Proofs.Try.prog tbl 96 vf_Sr=true:=by kernel_rfl
theorem fi_Si:funcIs Go.Proofs.Try.prog tbl 93 vf_Si=true:=by kernel_rfl
theorem fi_Sb:funcIs Go.Proofs.Try.prog tbl 138 vf_Sb=true:=by kernel_rfl
theorem fi_Sn:funcIs Go.Proofs.Try.prog tbl 95 vf_Sn=true:=by kernel_rfl
theorem fi_Se:funcIs Go.Proofs.Try.prog tbl 139 vf_Se=true:=by kernel_rfl
theorem fi_Sv:funcIs Go.Proofs.Try.prog tbl 97 vf_Sv=true:=by kernel_rfl
theorem fi_Sx:funcIs Go.Proofs.Try.prog tbl 140 vf_Sx=true:=by kernel_rfl
theorem fi_Sa:funcIs Go.Proofs.Try.prog tbl 107 vf_Sa=true:=by kernel_rfl
theorem fi_Sq:funcIs Go.Proofs.Try.prog tbl 98 vf_Sq=true:=by kernel_rfl
theorem fi_Sk:funcIs Go.Proofs.Try.prog tbl 42 vf_Sk=true:=by kernel_rfl
theorem fi_Sh:funcIs Go.Proofs.Try.prog tbl 80 vf_Sh=true:=by kernel_rfl
theorem fi_Sm:funcIs Go.Proofs.Try.prog tbl 79 vf_Sm=true:=by kernel_rfl
theorem fi_Su:funcIs Go.Proofs.Try.prog tbl 127 vf_Su=true:=by kernel_rfl
theorem fi_So:funcIs Go.Proofs.Try.prog tbl 81 vf_So=true:=by kernel_rfl
theorem fi_Sp:funcIs Go.Proofs.Try.prog tbl 43 vf_Sp=true:=by kernel_rfl
theorem fi_Sg:funcIs Go.Proofs.Try.prog tbl 109 vf_Sg=true:=by kernel_rfl
theorem fi_Sw:funcIs Go.Proofs.Try.prog tbl 142 vf_Sw=true:=by kernel_rfl
theorem fi_St:funcIs Go.Proofs.Try.prog tbl 103 vf_St=true:=by kernel_rfl
theorem fi_Sf:funcIs Go.Proofs.Try.prog tbl 104 vf_Sf=true:=by kernel_rfl
theorem fi_Sc:funcIs Go.Proofs.Try.prog tbl 48 vf_Sc=true:=by kernel_rfl
theorem fi_Sl:funcIs Go.Proofs.Try.prog tbl 136 vf_Sl=true:=by kernel_rfl
theorem fi_Ss:funcIs Go.Proofs.Try.prog tbl 86 vf_Ss=true:=by kernel_rfl
theorem fi_Sd:funcIs Go.Proofs.Try.prog tbl 33 vf_Sd=true:=by kernel_rfl
theorem fi_Im:funcIs Go.Proofs.Try.prog tbl 100 vf_Im=true:=by kernel_rfl
theorem fi_Ii:funcIs Go.Proofs.Try.prog tbl 128 vf_Ii=true:=by kernel_rfl
theorem fi_Il:funcIs Go.Proofs.Try.prog tbl 99 vf_Il=true:=by kernel_rfl
theorem fi_Ik:funcIs Go.Proofs.Try.prog tbl 129 vf_Ik=true:=by kernel_rfl
theorem fi_Ib:funcIs Go.Proofs.Try.prog tbl 145 vf_Ib=true:=by kernel_rfl
theorem fi_Io:funcIs Go.Proofs.Try.prog tbl 130 vf_Io=true:=by kernel_rfl
theorem fi_It:funcIs Go.Proofs.Try.prog tbl 131 vf_It=true:=by kernel_rfl
theorem fi_Ih:funcIs Go.Proofs.Try.prog tbl 146 vf_Ih=true:=by kernel_rfl
theorem fi_Ia:funcIs Go.Proofs.Try.prog tbl 59 vf_Ia=true:=by kernel_rfl
theorem fi_Iq:funcIs Go.Proofs.Try.prog tbl 132 vf_Iq=true:=by kernel_rfl
theorem fi_In:funcIs Go.Proofs.Try.prog tbl 83 vf_In=true:=by kernel_rfl
theorem fi_Is:funcIs Go.Proofs.Try.prog tbl 133 vf_Is=true:=by kernel_rfl
theorem fi_Ip:funcIs Go.Proofs.Try.prog tbl 84 vf_Ip=true:=by kernel_rfl
theorem fi_Ij:funcIs Go.Proofs.Try.prog tbl 44 vf_Ij=true:=by kernel_rfl
theorem fi_Ir:funcIs Go.Proofs.Try.prog tbl 112 vf_Ir=true:=by kernel_rfl
theorem fi_Ig:funcIs Go.Proofs.Try.prog tbl 113 vf_Ig=true:=by kernel_rfl
theorem fi_Ic:funcIs Go.Proofs.Try.prog tbl 54 vf_Ic=true:=by kernel_rfl
theorem fi_Ie:funcIs Go.Proofs.Try.prog tbl 87 vf_Ie=true:=by kernel_rfl
theorem fi_Id:funcIs Go.Proofs.Try.prog tbl 11 vf_Id=true:=by kernel_rfl
theorem fi_If:funcIs Go.Proofs.Try.prog tbl 34 vf_If=true:=by kernel_rfl
theorem fi_Lb:funcIs Go.Proofs.Try.prog tbl 45 vf_Lb=true:=by kernel_rfl
theorem fi_Lc:funcIs Go.Proofs.Try.prog tbl 12 vf_Lc=true:=by kernel_rfl
theorem fi_La:funcIs Go.Proofs.Try.prog tbl 13 vf_La=true:=by kernel_rfl
theorem fi_Le:funcIs Go.Proofs.Try.prog tbl 14 vf_Le=true:=by kernel_rfl
theorem fi_Lf:funcIs Go.Proofs.Try.prog tbl 15 vf_Lf=true:=by kernel_rfl
theorem fi_Ld:funcIs Go.Proofs.Try.prog tbl 16 vf_Ld=true:=by kernel_rfl
theorem fi_laws_FnExactReadIndex:funcIs Go.Proofs.Try.prog tbl 7 vf_laws_FnExactReadIndex=true:=by kernel_rfl
def gI:GInv:=gNone
end Go.Proofs.V

namespace Go.Proofs.V
open Go
def ta0 (a:List Zb) (b:List Zc) (c:List Za) (w:WJ):WJ:=wR rZb a<|wR rZc b<|wR rZa c w
def ta1 (a:List Zb) (b:List Zc) (c:List Za) (w:WJ):WJ:=wL rZb a<|wL rZc b<|wL rZa c w
abbrev EE (c : VC) (K : List Fr) (s : St) (Q : VX → St → Prop) : Prop := EvU ext tbl (.c c) K s Q
def as_Lg (p0:LI):List Arg:=[.v false [.sl (p0.map (rI .u8))]]
def res_Lg (r:LI):FRes:=⟨[.v false [.sl (r.map (rI .u8))]],[]⟩
def as_Sj (p0:Ze) (p1:Int):List Arg:=[.m (.pt [.sl (p0.data.map (rI .u8)),.lit (vI p0.at_),.lit (vI p0.err),.sl (p0.box.tracks.map rZb),.sl (p0.box.packets.map rZc),.lit (vI p0.due),.lit (vI p0.bytes),.sl (p0.index.map rZa)]),.v false [.lit (vI p1)]]
def res_Sj (r:Ze):FRes:=⟨[],[.pt [.sl (r.data.map (rI .u8)),.lit (vI r.at_),.lit (vI r.err),.sl (r.box.tracks.map rZb),.sl (r.box.packets.map rZc),.lit (vI r.due),.lit (vI r.bytes),.sl (r.index.map rZa)]]⟩
def as_Sr (p0:Ze) (p1:Int):List Arg:=[.m (.pt [.sl (p0.data.map (rI .u8)),.lit (vI p0.at_),.lit (vI p0.err),.sl (p0.box.tracks.map rZb),.sl (p0.box.packets.map rZc),.lit (vI p0.due),.lit (vI p0.bytes),.sl (p0.index.map rZa)]),.v false [.lit (vI p1)]]
def res_Sr (r:LI×Ze):FRes:=⟨[.v false [.sl (r.1.map (rI .u8))]],[.pt [.sl (r.2.data.map (rI .u8)),.lit (vI r.2.at_),.lit (vI r.2.err),.sl (r.2.box.tracks.map rZb),.sl (r.2.box.packets.map rZc),.lit (vI r.2.due),.lit (vI r.2.bytes),.sl (r.2.index.map rZa)]]⟩
def as_Si (p0:Ze):List Arg:=[.m (.pt [.sl (p0.data.map (rI .u8)),.lit (vI p0.at_),.lit (vI p0.err),.sl (p0.box.tracks.map rZb),.sl (p0.box.packets.map rZc),.lit (vI p0.due),.lit (vI p0.bytes),.sl (p0.index.map rZa)])]
def res_Si (r:Int×Ze):FRes:=⟨[.v false [.lit (vI r.1)]],[.pt [.sl (r.2.data.map (rI .u8)),.lit (vI r.2.at_),.lit (vI r.2.err),.sl (r.2.box.tracks.map rZb),.sl (r.2.box.packets.map rZc),.lit (vI r.2.due),.lit (vI r.2.bytes),.sl (r.2.index.map rZa)]]⟩
def as_Sb (p0:LI) (p1:Int):List Arg:=[.v false [.sl (p0.map (rI .u8))],.v false [.lit (vI p1)]]
def res_Sb (r:Zf):FRes:=⟨[.v true [.lit (.bool r.ok),.lit (.int .u64 r.value),.lit (vI r.next)]],[]⟩
def as_Sn (p0:Ze):List Arg:=[.m (.pt [.sl (p0.data.map (rI .u8)),.lit (vI p0.at_),.lit (vI p0.err),.sl (p0.box.tracks.map rZb),.sl (p0.box.packets.map rZc),.lit (vI p0.due),.lit (vI p0.bytes),.sl (p0.index.map rZa)])]
def res_Sn (r:Int×Ze):FRes:=⟨[.v false [.lit (vI r.1)]],[.pt [.sl (r.2.data.map (rI .u8)),.lit (vI r.2.at_),.lit (vI r.2.err),.sl (r.2.box.tracks.map rZb),.sl (r.2.box.packets.map rZc),.lit (vI r.2.due),.lit (vI r.2.bytes),.sl (r.2.index.map rZa)]]⟩
def as_Se (p0:ByteArray):List Arg:=[.v false [.lit (.string p0)]]
def res_Se (r:Bool):FRes:=⟨[.v false [.lit (.bool r)]],[]⟩
def as_Sv (p0:Zb):List Arg:=[.v true [.lit (vI p0.kind),.lit (vI p0.scale),.lit (.string p0.name)]]
def res_Sv (r:Bool):FRes:=⟨[.v false [.lit (.bool r)]],[]⟩
def as_Sx (p0:LI):List Arg:=[.v false [.sl (p0.map (rI .u8))]]
def res_Sx (r:Int):FRes:=⟨[.v false [.lit (vI r)]],[]⟩
def as_Sa (p0:LI):List Arg:=[.v false [.sl (p0.map (rI .u8))]]
def res_Sa (r:Int):FRes:=⟨[.v false [.lit (.int .u32 r)]],[]⟩
def as_Sq (p0:Ze) (p1:Int):List Arg:=[.m (.pt [.sl (p0.data.map (rI .u8)),.lit (vI p0.at_),.lit (vI p0.err),.sl (p0.box.tracks.map rZb),.sl (p0.box.packets.map rZc),.lit (vI p0.due),.lit (vI p0.bytes),.sl (p0.index.map rZa)]),.v false [.lit (vI p1)]]
def res_Sq (r:Ze):FRes:=⟨[],[.pt [.sl (r.data.map (rI .u8)),.lit (vI r.at_),.lit (vI r.err),.sl (r.box.tracks.map rZb),.sl (r.box.packets.map rZc),.lit (vI r.due),.lit (vI r.bytes),.sl (r.index.map rZa)]]⟩
def as_Sk (p0:Ze):List Arg:=[.m (.pt [.sl (p0.data.map (rI .u8)),.lit (vI p0.at_),.lit (vI p0.err),.sl (p0.box.tracks.map rZb),.sl (p0.box.packets.map rZc),.lit (vI p0.due),.lit (vI p0.bytes),.sl (p0.index.map rZa)])]
def res_Sk (r:Ze):FRes:=⟨[],[.pt [.sl (r.data.map (rI .u8)),.lit (vI r.at_),.lit (vI r.err),.sl (r.box.tracks.map rZb),.sl (r.box.packets.map rZc),.lit (vI r.due),.lit (vI r.bytes),.sl (r.index.map rZa)]]⟩
def as_Sh:List Arg:=[]
def res_Sh (r:LI):FRes:=⟨[.v false [.sl (r.map (rI .u8))]],[]⟩
def as_Sm (p0:Ze) (p1:LI):List Arg:=[.m (.pt [.sl (p0.data.map (rI .u8)),.lit (vI p0.at_),.lit (vI p0.err),.sl (p0.box.tracks.map rZb),.sl (p0.box.packets.map rZc),.lit (vI p0.due),.lit (vI p0.bytes),.sl (p0.index.map rZa)]),.v false [.sl (p1.map (rI .u8))]]
def res_Sm (r:Bool×Ze):FRes:=⟨[.v false [.lit (.bool r.1)]],[.pt [.sl (r.2.data.map (rI .u8)),.lit (vI r.2.at_),.lit (vI r.2.err),.sl (r.2.box.tracks.map rZb),.sl (r.2.box.packets.map rZc),.lit (vI r.2.due),.lit (vI r.2.bytes),.sl (r.2.index.map rZa)]]⟩
def as_Su (p0:Int):List Arg:=[.v false [.lit (vI p0)]]
def res_Su (r:Bool):FRes:=⟨[.v false [.lit (.bool r)]],[]⟩
def as_So (p0:Ze) (p1:Int):List Arg:=[.m (.pt [.sl (p0.data.map (rI .u8)),.lit (vI p0.at_),.lit (vI p0.err),.sl (p0.box.tracks.map rZb),.sl (p0.box.packets.map rZc),.lit (vI p0.due),.lit (vI p0.bytes),.sl (p0.index.map rZa)]),.v false [.lit (vI p1)]]
def res_So (r:Int×LZb×Ze):FRes:=⟨[.v false [.lit (vI r.1)],.v false [.sl (r.2.1.map rZc)]],[.pt [.sl (r.2.2.data.map (rI .u8)),.lit (vI r.2.2.at_),.lit (vI r.2.2.err),.sl (r.2.2.box.tracks.map rZb),.sl (r.2.2.box.packets.map rZc),.lit (vI r.2.2.due),.lit (vI r.2.2.bytes),.sl (r.2.2.index.map rZa)]]⟩
def as_Sp (p0:Ze):List Arg:=[.m (.pt [.sl (p0.data.map (rI .u8)),.lit (vI p0.at_),.lit (vI p0.err),.sl (p0.box.tracks.map rZb),.sl (p0.box.packets.map rZc),.lit (vI p0.due),.lit (vI p0.bytes),.sl (p0.index.map rZa)])]
def res_Sp (r:Ze):FRes:=⟨[],[.pt [.sl (r.data.map (rI .u8)),.lit (vI r.at_),.lit (vI r.err),.sl (r.box.tracks.map rZb),.sl (r.box.packets.map rZc),.lit (vI r.due),.lit (vI r.bytes),.sl (r.index.map rZa)]]⟩
def as_Sg:List Arg:=[]
def res_Sg (r:LI):FRes:=⟨[.v false [.sl (r.map (rI .u8))]],[]⟩
def as_Sw (p0:LZa):List Arg:=[.v false [.sl (p0.map rZb)]]
def res_Sw (r:Bool):FRes:=⟨[.v false [.lit (.bool r)]],[]⟩
def as_St (p0:Zd):List Arg:=[.v true [.sl (p0.tracks.map rZb),.sl (p0.packets.map rZc)]]
def res_St (r:Bool):FRes:=⟨[.v false [.lit (.bool r)]],[]⟩
def as_Sf (p0:Zd) (p1 p2:Int):List Arg:=[.v true [.sl (p0.tracks.map rZb),.sl (p0.packets.map rZc)],.v false [.lit (vI p1)],.v false [.lit (vI p2)]]
def res_Sf (r:Bool):FRes:=⟨[.v false [.lit (.bool r)]],[]⟩
def as_Sc (p0:Zd):List Arg:=[.v true [.sl (p0.tracks.map rZb),.sl (p0.packets.map rZc)]]
def res_Sc (r:Bool):FRes:=⟨[.v false [.lit (.bool r)]],[]⟩
def as_Sl (p0:Ze):List Arg:=[.m (.pt [.sl (p0.data.map (rI .u8)),.lit (vI p0.at_),.lit (vI p0.err),.sl (p0.box.tracks.map rZb),.sl (p0.box.packets.map rZc),.lit (vI p0.due),.lit (vI p0.bytes),.sl (p0.index.map rZa)])]
def res_Sl (r:Ze):FRes:=⟨[],[.pt [.sl (r.data.map (rI .u8)),.lit (vI r.at_),.lit (vI r.err),.sl (r.box.tracks.map rZb),.sl (r.box.packets.map rZc),.lit (vI r.due),.lit (vI r.bytes),.sl (r.index.map rZa)]]⟩
def as_Ss (p0:LI):List Arg:=[.v false [.sl (p0.map (rI .u8))]]
def res_Ss (r:Ze):FRes:=⟨[.m (.pt [.sl (r.data.map (rI .u8)),.lit (vI r.at_),.lit (vI r.err),.sl (r.box.tracks.map rZb),.sl (r.box.packets.map rZc),.lit (vI r.due),.lit (vI r.bytes),.sl (r.index.map rZa)])],[]⟩
def as_Sd (p0:LI):List Arg:=[.v false [.sl (p0.map (rI .u8))]]
def res_Sd (r:LZ):FRes:=⟨[.v false [.sl (r.map rZa)]],[]⟩
def as_Im (p0:Zg) (p1:Int):List Arg:=[.m (.pt [.sl (p0.b.map (rI .u8)),.lit (vI p0.at_),.lit (vI p0.err)]),.v false [.lit (vI p1)]]
def res_Im (r:Zg):FRes:=⟨[],[.pt [.sl (r.b.map (rI .u8)),.lit (vI r.at_),.lit (vI r.err)]]⟩
def as_Ii (p0:LI) (p1:ByteArray):List Arg:=[.v false [.sl (p0.map (rI .u8))],.v false [.lit (.string p1)]]
def res_Ii (r:Int):FRes:=⟨[.v false [.lit (vI r)]],[]⟩
def as_Il (p0:Zg) (p1:Int):List Arg:=[.m (.pt [.sl (p0.b.map (rI .u8)),.lit (vI p0.at_),.lit (vI p0.err)]),.v false [.lit (vI p1)]]
def res_Il (r:LI×Zg):FRes:=⟨[.v false [.sl (r.1.map (rI .u8))]],[.pt [.sl (r.2.b.map (rI .u8)),.lit (vI r.2.at_),.lit (vI r.2.err)]]⟩
def as_Ik (p0:Zg):List Arg:=[.m (.pt [.sl (p0.b.map (rI .u8)),.lit (vI p0.at_),.lit (vI p0.err)])]
def res_Ik (r:Int×Zg):FRes:=⟨[.v false [.lit (vI r.1)]],[.pt [.sl (r.2.b.map (rI .u8)),.lit (vI r.2.at_),.lit (vI r.2.err)]]⟩
def as_Ib (p0:LI) (p1:Int):List Arg:=[.v false [.sl (p0.map (rI .u8))],.v false [.lit (vI p1)]]
def res_Ib (r:Zf):FRes:=⟨[.v true [.lit (.bool r.ok),.lit (.int .u64 r.value),.lit (vI r.next)]],[]⟩
def as_Io (p0:Zg):List Arg:=[.m (.pt [.sl (p0.b.map (rI .u8)),.lit (vI p0.at_),.lit (vI p0.err)])]
def res_Io (r:Int×Zg):FRes:=⟨[.v false [.lit (vI r.1)]],[.pt [.sl (r.2.b.map (rI .u8)),.lit (vI r.2.at_),.lit (vI r.2.err)]]⟩
def as_It (p0:Zb):List Arg:=[.v true [.lit (vI p0.kind),.lit (vI p0.scale),.lit (.string p0.name)]]
def res_It (r:Bool):FRes:=⟨[.v false [.lit (.bool r)]],[]⟩
def as_Ih (p0:LI):List Arg:=[.v false [.sl (p0.map (rI .u8))]]
def res_Ih (r:Int):FRes:=⟨[.v false [.lit (vI r)]],[]⟩
def as_Ia (p0:LI):List Arg:=[.v false [.sl (p0.map (rI .u8))]]
def res_Ia (r:Int):FRes:=⟨[.v false [.lit (.int .u32 r)]],[]⟩
def as_Iq (p0:Zg) (p1:Int):List Arg:=[.m (.pt [.sl (p0.b.map (rI .u8)),.lit (vI p0.at_),.lit (vI p0.err)]),.v false [.lit (vI p1)]]
def res_Iq (r:Zg):FRes:=⟨[],[.pt [.sl (r.b.map (rI .u8)),.lit (vI r.at_),.lit (vI r.err)]]⟩
def as_In (p0:Zg):List Arg:=[.m (.pt [.sl (p0.b.map (rI .u8)),.lit (vI p0.at_),.lit (vI p0.err)])]
def res_In (r:LZa×Zg):FRes:=⟨[.v false [.sl (r.1.map rZb)]],[.pt [.sl (r.2.b.map (rI .u8)),.lit (vI r.2.at_),.lit (vI r.2.err)]]⟩
def as_Is (p0:Int):List Arg:=[.v false [.lit (vI p0)]]
def res_Is (r:Bool):FRes:=⟨[.v false [.lit (.bool r)]],[]⟩
def as_Ip (p0:Zg) (p1 p2 p3 p4 p5:Int):List Arg:=[.m (.pt [.sl (p0.b.map (rI .u8)),.lit (vI p0.at_),.lit (vI p0.err)]),.v false [.lit (vI p1)],.v false [.lit (vI p2)],.v false [.lit (vI p3)],.v false [.lit (vI p4)],.v false [.lit (vI p5)]]
def res_Ip (r:Int×LZb×Zg):FRes:=⟨[.v false [.lit (vI r.1)],.v false [.sl (r.2.1.map rZc)]],[.pt [.sl (r.2.2.b.map (rI .u8)),.lit (vI r.2.2.at_),.lit (vI r.2.2.err)]]⟩
def as_Ij (p0:Zg):List Arg:=[.m (.pt [.sl (p0.b.map (rI .u8)),.lit (vI p0.at_),.lit (vI p0.err)])]
def res_Ij (r:Zd×LZ×Zg):FRes:=⟨[.v true [.sl (r.1.tracks.map rZb),.sl (r.1.packets.map rZc)],.v false [.sl (r.2.1.map rZa)]],[.pt [.sl (r.2.2.b.map (rI .u8)),.lit (vI r.2.2.at_),.lit (vI r.2.2.err)]]⟩
def as_Ir (p0:Zd):List Arg:=[.v true [.sl (p0.tracks.map rZb),.sl (p0.packets.map rZc)]]
def res_Ir (r:Bool):FRes:=⟨[.v false [.lit (.bool r)]],[]⟩
def as_Ig (p0:Zd) (p1 p2:Int):List Arg:=[.v true [.sl (p0.tracks.map rZb),.sl (p0.packets.map rZc)],.v false [.lit (vI p1)],.v false [.lit (vI p2)]]
def res_Ig (r:Bool):FRes:=⟨[.v false [.lit (.bool r)]],[]⟩
def as_Ic (p0:Zd):List Arg:=[.v true [.sl (p0.tracks.map rZb),.sl (p0.packets.map rZc)]]
def res_Ic (r:Bool):FRes:=⟨[.v false [.lit (.bool r)]],[]⟩
def as_Ie (p0:LI):List Arg:=[.v false [.sl (p0.map (rI .u8))]]
def res_Ie (r:Zh):FRes:=⟨[.v true [.lit (vI r.err),.sl (r.box.tracks.map rZb),.sl (r.box.packets.map rZc),.lit (vI r.lost)]],[]⟩
def as_Id (p0:LI):List Arg:=[.v false [.sl (p0.map (rI .u8))]]
def res_Id (r:LZ):FRes:=⟨[.v false [.sl (r.map rZa)]],[]⟩
def as_If (p0:LI):List Arg:=[.v false [.sl (p0.map (rI .u8))]]
def res_If (r:LZ):FRes:=⟨[.v false [.sl (r.map rZa)]],[]⟩
def as_Lb (p0 p1:Za):List Arg:=[.v true [.lit (vI p0.track),.lit (vI p0.time),.lit (vI p0.at_)],.v true [.lit (vI p1.track),.lit (vI p1.time),.lit (vI p1.at_)]]
def res_Lb (r:Bool):FRes:=⟨[.v false [.lit (.bool r)]],[]⟩
def as_Lc (p0 p1:LZ):List Arg:=[.v false [.sl (p0.map rZa)],.v false [.sl (p1.map rZa)]]
def res_Lc (r:Bool):FRes:=⟨[.v false [.lit (.bool r)]],[]⟩
def as_La (p0 p1:LI):List Arg:=[.v false [.sl (p0.map (rI .u8))],.v false [.sl (p1.map (rI .u8))]]
def res_La (r:Bool):FRes:=⟨[.v false [.lit (.bool r)]],[]⟩
def as_Le (p0:LI) (p1:Int):List Arg:=[.m (.sl (p0.map (rI .u8))),.v false [.lit (vI p1)]]
def res_Le (r:Int×LI):FRes:=⟨[.v false [.lit (vI r.1)]],[.sl (r.2.map (rI .u8))]⟩
def as_Lf (p0:LZ) (p1:Int):List Arg:=[.m (.sl (p0.map rZa)),.v false [.lit (vI p1)]]
def res_Lf (r:Int×LZ):FRes:=⟨[.v false [.lit (vI r.1)]],[.sl (r.2.map rZa)]⟩
def as_Ld (p0:LZ) (p1:Int):List Arg:=[.v false [.sl (p0.map rZa)],.v false [.lit (vI p1)]]
def res_Ld (r:Int):FRes:=⟨[.v false [.lit (vI r)]],[]⟩
def as_laws_FnExactReadIndex (p0:LI):List Arg:=[.v false [.sl (p0.map (rI .u8))]]
def res_laws_FnExactReadIndex (r:Bool):FRes:=⟨[.v false [.lit (.bool r)]],[]⟩
def K_Lg_19:List Fr:=[]
def s_Lg_19 (a:LI):St:=
 ⟨mkSl 22 [(3,.v false [cR 0 a])],[some ⟨[.sc],(List.map (rI .u8) a)⟩],[]⟩
def K_Lg_9:List Fr:=[.lp [0,3,4] c_Lg_9,.bk 0,.sq (.kp [3] c_Lg_19)]
def s_Lg_9 (p0:LI) (b:Int) (a:LI):St:=
 ⟨mkSl 22 [(0,.v false [.ro [.sc] (p0.map (rI .u8))]),(3,.v false [cR 0 a]),(4,sI b)],[some ⟨[.sc],(List.map (rI .u8) a)⟩],[]⟩
def K_Lg_0:List Fr:=[]
def s_Lg_0 (p0:LI):St:=
 ⟨mkSl 22 [(0,.v false [.ro [.sc] (p0.map (rI .u8))])],[],[]⟩
def K_Sj_0:List Fr:=[]
def s_Sj_0 (p1:Int) (p0:Ze):St:=
 ⟨mkSl 13 [(0,sP 0 0),(1,sI p1)],[some ⟨q3,(List.map rZb p0.box.tracks)⟩,some ⟨[.sc,.sc,.sc,.sc,.own [.sc]],(List.map rZc p0.box.packets)⟩,some ⟨q3,(List.map rZa p0.index)⟩],[some [.ro [.sc] (p0.data.map (rI .u8)),cI p0.at_,cI p0.err,cR 0 p0.box.tracks,cR 1 p0.box.packets,cI p0.due,cI p0.bytes,cR 2 p0.index]]⟩
def K_Sr_8:List Fr:=[]
def s_Sr_8 (p1:Int) (d:LI) (e f g h:Int) (a:LZa) (b:LZb) (c:LZ):St:=
 ⟨mkSl 54 [(0,sP 0 0),(1,sI p1)],[some ⟨q3,(List.map rZb a)⟩,some ⟨[.sc,.sc,.sc,.sc,.own [.sc]],(List.map rZc b)⟩,some ⟨q3,(List.map rZa c)⟩],[some [.ro [.sc] (d.map (rI .u8)),cI e,cI f,cR 0 a,cR 1 b,cI g,cI h,cR 2 c]]⟩
def K_Sr_5:List Fr:=[.sq (.kp [0,1] c_Sr_8)]
def s_Sr_5 (p1:Int) (p0:Ze) (a:Bool):St:=
 ⟨mkSl 54 [(0,sP 0 0),(1,sI p1),(23,sB a)],[some ⟨q3,(List.map rZb p0.box.tracks)⟩,some ⟨[.sc,.sc,.sc,.sc,.own [.sc]],(List.map rZc p0.box.packets)⟩,some ⟨q3,(List.map rZa p0.index)⟩],[some [.ro [.sc] (p0.data.map (rI .u8)),cI p0.at_,cI p0.err,cR 0 p0.box.tracks,cR 1 p0.box.packets,cI p0.due,cI p0.bytes,cR 2 p0.index]]⟩
def K_Sr_0:List Fr:=[]
def s_Sr_0 (p1:Int) (p0:Ze):St:=
 ⟨mkSl 54 [(0,sP 0 0),(1,sI p1)],[some ⟨q3,(List.map rZb p0.box.tracks)⟩,some ⟨[.sc,.sc,.sc,.sc,.own [.sc]],(List.map rZc p0.box.packets)⟩,some ⟨q3,(List.map rZa p0.index)⟩],[some [.ro [.sc] (p0.data.map (rI .u8)),cI p0.at_,cI p0.err,cR 0 p0.box.tracks,cR 1 p0.box.packets,cI p0.due,cI p0.bytes,cR 2 p0.index]]⟩
def K_Si_0:List Fr:=[]
def s_Si_0 (p0:Ze):St:=
 ⟨mkSl 15 [(0,sP 0 0)],[some ⟨q3,(List.map rZb p0.box.tracks)⟩,some ⟨[.sc,.sc,.sc,.sc,.own [.sc]],(List.map rZc p0.box.packets)⟩,some ⟨q3,(List.map rZa p0.index)⟩],[some [.ro [.sc] (p0.data.map (rI .u8)),cI p0.at_,cI p0.err,cR 0 p0.box.tracks,cR 1 p0.box.packets,cI p0.due,cI p0.bytes,cR 2 p0.index]]⟩
def K_Sb_51:List Fr:=[.sq c_Sb_56,.bk 1,.sq c_Sb_60,.lp [0,1,4,5,6] c_Sb_17,.bk 0,.sq (.kp [4] c_Sb_61)]
def s_Sb_51 (p1 a b:Int) (c:Bool):St:=
 ⟨mkSl 67 [(1,sI p1),(4,sP 0 0),(5,.v false [.lit (.int .u64 b)]),(6,sI a),(58,sB c)],[],[some [cB false,.lit (.int .u64 0),cI 0]]⟩
def K_Sb_38:List Fr:=[.sq c_Sb_43,.bk 1,.sq c_Sb_60,.lp [0,1,4,5,6] c_Sb_17,.bk 0,.sq (.kp [4] c_Sb_61)]
def s_Sb_38 (p0:LI) (p1 a b c:Int) (d:Bool):St:=
 ⟨mkSl 67 [(0,.v false [.ro [.sc] (p0.map (rI .u8))]),(1,sI p1),(4,sP 0 0),(5,.v false [.lit (.int .u64 a)]),(6,sI b),(7,.v false [.lit (.int .u64 c)]),(41,sB d)],[],[some [cB false,.lit (.int .u64 0),cI 0]]⟩
def K_Sb_28:List Fr:=[.sq c_Sb_33,.bk 1,.sq c_Sb_60,.lp [0,1,4,5,6] c_Sb_17,.bk 0,.sq (.kp [4] c_Sb_61)]
def s_Sb_28 (p0:LI) (p1 a b:Int) (c:Bool):St:=
 ⟨mkSl 67 [(0,.v false [.ro [.sc] (p0.map (rI .u8))]),(1,sI p1),(4,sP 0 0),(5,.v false [.lit (.int .u64 a)]),(6,sI b),(27,sB c)],[],[some [cB false,.lit (.int .u64 0),cI 0]]⟩
def K_Sb_61:List Fr:=[]
def s_Sb_61:St:=
 ⟨mkSl 67 [(4,sP 0 0)],[],[some [cB false,.lit (.int .u64 0),cI 0]]⟩
def K_Sb_17:List Fr:=[.lp [0,1,4,5,6] c_Sb_17,.bk 0,.sq (.kp [4] c_Sb_61)]
def s_Sb_17 (p0:LI) (p1 a b:Int):St:=
 ⟨mkSl 67 [(0,.v false [.ro [.sc] (p0.map (rI .u8))]),(1,sI p1),(4,sP 0 0),(5,.v false [.lit (.int .u64 a)]),(6,sI b)],[],[some [cB false,.lit (.int .u64 0),cI 0]]⟩
def K_Sb_0:List Fr:=[]
def s_Sb_0 (p0:LI) (p1:Int):St:=
 ⟨mkSl 67 [(0,.v false [.ro [.sc] (p0.map (rI .u8))]),(1,sI p1)],[],[]⟩
def K_Sn_32:List Fr:=[.sq c_Sn_35,.sq c_Sn_39]
def s_Sn_32 (p0:Ze) (a:Bool):St:=
 ⟨mkSl 87 [(0,sP 0 0),(69,sB a)],[some ⟨q3,(List.map rZb p0.box.tracks)⟩,some ⟨[.sc,.sc,.sc,.sc,.own [.sc]],(List.map rZc p0.box.packets)⟩,some ⟨q3,(List.map rZa p0.index)⟩],[some [.ro [.sc] (p0.data.map (rI .u8)),cI p0.at_,cI p0.err,cR 0 p0.box.tracks,cR 1 p0.box.packets,cI p0.due,cI p0.bytes,cR 2 p0.index]]⟩
def K_Sn_29:List Fr:=[.sq c_Sn_39]
def s_Sn_29 (p0:Ze) (a:Int):St:=
 ⟨mkSl 87 [(0,sP 0 0),(4,sI a)],[some ⟨q3,(List.map rZb p0.box.tracks)⟩,some ⟨[.sc,.sc,.sc,.sc,.own [.sc]],(List.map rZc p0.box.packets)⟩,some ⟨q3,(List.map rZa p0.index)⟩],[some [.ro [.sc] (p0.data.map (rI .u8)),cI p0.at_,cI p0.err,cR 0 p0.box.tracks,cR 1 p0.box.packets,cI p0.due,cI p0.bytes,cR 2 p0.index]]⟩
def K_Sn_21:List Fr:=[.lp [0,4] c_Sn_21,.bk 0,.sq (.kp [0,4] c_Sn_29),.sq c_Sn_39]
def s_Sn_21 (p0:Ze) (a:Int):St:=
 ⟨mkSl 87 [(0,sP 0 0),(4,sI a)],[some ⟨q3,(List.map rZb p0.box.tracks)⟩,some ⟨[.sc,.sc,.sc,.sc,.own [.sc]],(List.map rZc p0.box.packets)⟩,some ⟨q3,(List.map rZa p0.index)⟩],[some [.ro [.sc] (p0.data.map (rI .u8)),cI p0.at_,cI p0.err,cR 0 p0.box.tracks,cR 1 p0.box.packets,cI p0.due,cI p0.bytes,cR 2 p0.index]]⟩
def K_Sn_0:List Fr:=[]
def s_Sn_0 (p0:Ze):St:=
 ⟨mkSl 87 [(0,sP 0 0)],[some ⟨q3,(List.map rZb p0.box.tracks)⟩,some ⟨[.sc,.sc,.sc,.sc,.own [.sc]],(List.map rZc p0.box.packets)⟩,some ⟨q3,(List.map rZa p0.index)⟩],[some [.ro [.sc] (p0.data.map (rI .u8)),cI p0.at_,cI p0.err,cR 0 p0.box.tracks,cR 1 p0.box.packets,cI p0.due,cI p0.bytes,cR 2 p0.index]]⟩
def K_Se_23:List Fr:=[]
def s_Se_23:St:=
 ⟨mkSl 20 [],[],[]⟩
def K_Se_7:List Fr:=[.lp [0,3] c_Se_7,.bk 0,.sq (.kp [] c_Se_23)]
def s_Se_7 (p0:ByteArray) (a:Int):St:=
 ⟨mkSl 20 [(0,.v false [.lit (.string p0)]),(3,sI a)],[],[]⟩
def K_Se_0:List Fr:=[]
def s_Se_0 (p0:ByteArray):St:=
 ⟨mkSl 20 [(0,.v false [.lit (.string p0)])],[],[]⟩
def K_Sv_0:List Fr:=[]
def s_Sv_0 (p0:Zb):St:=
 ⟨mkSl 32 [(0,.v true [cI p0.kind,cI p0.scale,.lit (.string p0.name)])],[],[]⟩
def K_Sx_21:List Fr:=[]
def s_Sx_21 (a:Int):St:=
 ⟨mkSl 19 [(3,sI a)],[],[]⟩
def K_Sx_9:List Fr:=[.lp [3,6,7,8] c_Sx_9,.bk 0,.sq (.kp [3] c_Sx_21)]
def s_Sx_9 (p0:LI) (a b:Int):St:=
 ⟨mkSl 19 [(3,sI a),(6,.v false [.ro [.sc] (p0.map (rI .u8))]),(7,sI (p0.length:Int)),(8,sI b)],[],[]⟩
def K_Sx_0:List Fr:=[]
def s_Sx_0 (p0:LI):St:=
 ⟨mkSl 19 [(0,.v false [.ro [.sc] (p0.map (rI .u8))])],[],[]⟩
def K_Sa_43:List Fr:=[.lp [3,8,9,10] c_Sa_9,.bk 0,.sq (.kp [3] c_Sa_44)]
def s_Sa_43 (p0:LI) (a b:Int):St:=
 ⟨mkSl 33 [(3,.v false [.lit (.int .u32 b)]),(8,.v false [.ro [.sc] (p0.map (rI .u8))]),(9,sI (p0.length:Int)),(10,sI a)],[],[]⟩
def K_Sa_25:List Fr:=[.lp [3,6,8,9,10] c_Sa_25,.bk 2,.bk 1,.sq (.kp [3,8,9,10] c_Sa_43),.lp [3,8,9,10] c_Sa_9,.bk 0,.sq (.kp [3] c_Sa_44)]
def s_Sa_25 (p0:LI) (a b c:Int):St:=
 ⟨mkSl 33 [(3,.v false [.lit (.int .u32 b)]),(6,sI c),(8,.v false [.ro [.sc] (p0.map (rI .u8))]),(9,sI (p0.length:Int)),(10,sI a)],[],[]⟩
def K_Sa_44:List Fr:=[]
def s_Sa_44 (a:Int):St:=
 ⟨mkSl 33 [(3,.v false [.lit (.int .u32 a)])],[],[]⟩
def K_Sa_9:List Fr:=[.lp [3,8,9,10] c_Sa_9,.bk 0,.sq (.kp [3] c_Sa_44)]
def s_Sa_9 (p0:LI) (a b:Int):St:=
 ⟨mkSl 33 [(3,.v false [.lit (.int .u32 a)]),(8,.v false [.ro [.sc] (p0.map (rI .u8))]),(9,sI (p0.length:Int)),(10,sI b)],[],[]⟩
def K_Sa_0:List Fr:=[]
def s_Sa_0 (p0:LI):St:=
 ⟨mkSl 33 [(0,.v false [.ro [.sc] (p0.map (rI .u8))])],[],[]⟩
def K_Sq_6:List Fr:=[]
def s_Sq_6 (a:LI×Ze) (b:Bool):St:=
 ⟨mkSl 33 [(0,sP 0 0),(30,sB b)],[some ⟨q3,(List.map rZb a.2.box.tracks)⟩,some ⟨[.sc,.sc,.sc,.sc,.own [.sc]],(List.map rZc a.2.box.packets)⟩,some ⟨q3,(List.map rZa a.2.index)⟩],[some [.ro [.sc] (a.2.data.map (rI .u8)),cI a.2.at_,cI a.2.err,cR 0 a.2.box.tracks,cR 1 a.2.box.packets,cI a.2.due,cI a.2.bytes,cR 2 a.2.index]]⟩
def K_Sq_0:List Fr:=[]
def s_Sq_0 (p1:Int) (p0:Ze):St:=
 ⟨mkSl 33 [(0,sP 0 0),(1,sI p1)],[some ⟨q3,(List.map rZb p0.box.tracks)⟩,some ⟨[.sc,.sc,.sc,.sc,.own [.sc]],(List.map rZc p0.box.packets)⟩,some ⟨q3,(List.map rZa p0.index)⟩],[some [.ro [.sc] (p0.data.map (rI .u8)),cI p0.at_,cI p0.err,cR 0 p0.box.tracks,cR 1 p0.box.packets,cI p0.due,cI p0.bytes,cR 2 p0.index]]⟩
def K_Sk_19:List Fr:=[.bk 1,.sq c_Sk_22,.lp [0,8,9,10] c_Sk_5,.bk 0,.sq (.kp [0] c_Sk_23)]
def s_Sk_19 (c:Int) (a:Int×Ze) (b:LI) (d:Bool):St:=
 ⟨mkSl 98 [(0,sP 0 0),(8,.v false [cR 0 b]),(9,sI 4),(10,sI c),(26,sB d)],[some ⟨[.sc],(List.map (rI .u8) b)⟩,some ⟨q3,(List.map rZb a.2.box.tracks)⟩,some ⟨[.sc,.sc,.sc,.sc,.own [.sc]],(List.map rZc a.2.box.packets)⟩,some ⟨q3,(List.map rZa a.2.index)⟩],[some [.ro [.sc] (a.2.data.map (rI .u8)),cI a.2.at_,cI a.2.err,cR 1 a.2.box.tracks,cR 2 a.2.box.packets,cI a.2.due,cI a.2.bytes,cR 3 a.2.index]]⟩
def K_Sk_58:List Fr:=[.bk 3,.sq c_Sk_59,.lp [0,5,6] c_Sk_36,.bk 2,.sq (.kp [0] c_Sk_60)]
def s_Sk_58 (d:Int×Ze) (e:Int) (f:Int×Ze) (g:Int×Ze) (h:ByteArray) (i:LI) (j k l m:Int) (a:LZa) (b:LZb) (c:LZ):St:=
 ⟨mkSl 98 [(0,sP 0 0),(5,sI d.1),(6,sI e),(7,sP 1 0)],[some ⟨q3,(List.map rZb a)⟩,some ⟨[.sc,.sc,.sc,.sc,.own [.sc]],(List.map rZc b)⟩,some ⟨q3,(List.map rZa c)⟩],[some [.ro [.sc] (i.map (rI .u8)),cI j,cI k,cR 0 a,cR 1 b,cI l,cI m,cR 2 c],some [cI f.1,cI g.1,.lit (.string h)]]⟩
def K_Sk_55:List Fr:=[.sq (.kp [0,5,6,7] c_Sk_58),.bk 3,.sq c_Sk_59,.lp [0,5,6] c_Sk_36,.bk 2,.sq (.kp [0] c_Sk_60)]
def s_Sk_55 (b:Int×Ze) (c:Int) (a:LI×Ze) (d:Int×Ze) (e:Int×Ze) (f:ByteArray) (g:Bool):St:=
 ⟨mkSl 98 [(0,sP 0 0),(5,sI b.1),(6,sI c),(7,sP 1 0),(81,sB g)],[some ⟨q3,(List.map rZb a.2.box.tracks)⟩,some ⟨[.sc,.sc,.sc,.sc,.own [.sc]],(List.map rZc a.2.box.packets)⟩,some ⟨q3,(List.map rZa a.2.index)⟩],[some [.ro [.sc] (a.2.data.map (rI .u8)),cI a.2.at_,cI a.2.err,cR 0 a.2.box.tracks,cR 1 a.2.box.packets,cI a.2.due,cI a.2.bytes,cR 2 a.2.index],some [cI d.1,cI e.1,.lit (.string f)]]⟩
def K_Sk_60:List Fr:=[]
def s_Sk_60 (d:LI) (e f g h:Int) (a:LZa) (b:LZb) (c:LZ):St:=
 ⟨mkSl 98 [(0,sP 0 0)],[some ⟨q3,(List.map rZb a)⟩,some ⟨[.sc,.sc,.sc,.sc,.own [.sc]],(List.map rZc b)⟩,some ⟨q3,(List.map rZa c)⟩],[some [.ro [.sc] (d.map (rI .u8)),cI e,cI f,cR 0 a,cR 1 b,cI g,cI h,cR 2 c]]⟩
def K_Sk_36:List Fr:=[.lp [0,5,6] c_Sk_36,.bk 2,.sq (.kp [0] c_Sk_60)]
def s_Sk_36 (d:Int×Ze) (e:Int) (f:LI) (g h i j:Int) (a:LZa) (b:LZb) (c:LZ):St:=
 ⟨mkSl 98 [(0,sP 0 0),(5,sI d.1),(6,sI e)],[some ⟨q3,(List.map rZb a)⟩,some ⟨[.sc,.sc,.sc,.sc,.own [.sc]],(List.map rZc b)⟩,some ⟨q3,(List.map rZa c)⟩],[some [.ro [.sc] (f.map (rI .u8)),cI g,cI h,cR 0 a,cR 1 b,cI i,cI j,cR 2 c]]⟩
def K_Sk_31:List Fr:=[]
def s_Sk_31 (d:Int×Ze) (e:LI) (f g h i:Int) (a:LZa) (b:LZb) (c:LZ):St:=
 ⟨mkSl 98 [(0,sP 0 0),(5,sI d.1)],[some ⟨q3,(List.map rZb a)⟩,some ⟨[.sc,.sc,.sc,.sc,.own [.sc]],(List.map rZc b)⟩,some ⟨q3,(List.map rZa c)⟩],[some [.ro [.sc] (e.map (rI .u8)),cI f,cI g,cR 0 a,cR 1 b,cI h,cI i,cR 2 c]]⟩
def K_Sk_28:List Fr:=[.sq (.kp [0,5] c_Sk_31)]
def s_Sk_28 (a:Int×Ze) (b:Bool):St:=
 ⟨mkSl 98 [(0,sP 0 0),(5,sI a.1),(44,sB b)],[some ⟨q3,(List.map rZb a.2.box.tracks)⟩,some ⟨[.sc,.sc,.sc,.sc,.own [.sc]],(List.map rZc a.2.box.packets)⟩,some ⟨q3,(List.map rZa a.2.index)⟩],[some [.ro [.sc] (a.2.data.map (rI .u8)),cI a.2.at_,cI a.2.err,cR 0 a.2.box.tracks,cR 1 a.2.box.packets,cI a.2.due,cI a.2.bytes,cR 2 a.2.index]]⟩
def K_Sk_23:List Fr:=[]
def s_Sk_23 (d:LI) (e f g h:Int) (a:LZa) (b:LZb) (c:LZ):St:=
 ⟨mkSl 98 [(0,sP 0 0)],[some ⟨q3,(List.map rZb a)⟩,some ⟨[.sc,.sc,.sc,.sc,.own [.sc]],(List.map rZc b)⟩,some ⟨q3,(List.map rZa c)⟩],[some [.ro [.sc] (d.map (rI .u8)),cI e,cI f,cR 0 a,cR 1 b,cI g,cI h,cR 2 c]]⟩
def K_Sk_5:List Fr:=[.lp [0,8,9,10] c_Sk_5,.bk 0,.sq (.kp [0] c_Sk_23)]
def s_Sk_5 (e:Int) (f:LI) (g h i j:Int) (a:LI) (b:LZa) (c:LZb) (d:LZ):St:=
 ⟨mkSl 98 [(0,sP 0 0),(8,.v false [cR 0 a]),(9,sI 4),(10,sI e)],[some ⟨[.sc],(List.map (rI .u8) a)⟩,some ⟨q3,(List.map rZb b)⟩,some ⟨[.sc,.sc,.sc,.sc,.own [.sc]],(List.map rZc c)⟩,some ⟨q3,(List.map rZa d)⟩],[some [.ro [.sc] (f.map (rI .u8)),cI g,cI h,cR 1 b,cR 2 c,cI i,cI j,cR 3 d]]⟩
def K_Sk_0:List Fr:=[]
def s_Sk_0 (p0:Ze):St:=
 ⟨mkSl 98 [(0,sP 0 0)],[some ⟨q3,(List.map rZb p0.box.tracks)⟩,some ⟨[.sc,.sc,.sc,.sc,.own [.sc]],(List.map rZc p0.box.packets)⟩,some ⟨q3,(List.map rZa p0.index)⟩],[some [.ro [.sc] (p0.data.map (rI .u8)),cI p0.at_,cI p0.err,cR 0 p0.box.tracks,cR 1 p0.box.packets,cI p0.due,cI p0.bytes,cR 2 p0.index]]⟩
def K_Sh_0:List Fr:=[]
def s_Sh_0:St:=
 ⟨mkSl 2 [],[],[]⟩
def K_Sm_33:List Fr:=[]
def s_Sm_33 (p0:Ze):St:=
 ⟨mkSl 40 [(0,sP 0 0)],[some ⟨q3,(List.map rZb p0.box.tracks)⟩,some ⟨[.sc,.sc,.sc,.sc,.own [.sc]],(List.map rZc p0.box.packets)⟩,some ⟨q3,(List.map rZa p0.index)⟩],[some [.ro [.sc] (p0.data.map (rI .u8)),cI p0.at_,cI p0.err,cR 0 p0.box.tracks,cR 1 p0.box.packets,cI p0.due,cI p0.bytes,cR 2 p0.index]]⟩
def K_Sm_15:List Fr:=[.lp [0,18,19,20] c_Sm_15,.bk 0,.sq (.kp [0] c_Sm_33)]
def s_Sm_15 (p1:LI) (p0:Ze) (a:Int):St:=
 ⟨mkSl 40 [(0,sP 0 0),(18,.v false [.ro [.sc] (p1.map (rI .u8))]),(19,sI (p1.length:Int)),(20,sI a)],[some ⟨q3,(List.map rZb p0.box.tracks)⟩,some ⟨[.sc,.sc,.sc,.sc,.own [.sc]],(List.map rZc p0.box.packets)⟩,some ⟨q3,(List.map rZa p0.index)⟩],[some [.ro [.sc] (p0.data.map (rI .u8)),cI p0.at_,cI p0.err,cR 0 p0.box.tracks,cR 1 p0.box.packets,cI p0.due,cI p0.bytes,cR 2 p0.index]]⟩
def K_Sm_0:List Fr:=[]
def s_Sm_0 (p1:LI) (p0:Ze):St:=
 ⟨mkSl 40 [(0,sP 0 0),(1,.v false [.ro [.sc] (p1.map (rI .u8))])],[some ⟨q3,(List.map rZb p0.box.tracks)⟩,some ⟨[.sc,.sc,.sc,.sc,.own [.sc]],(List.map rZc p0.box.packets)⟩,some ⟨q3,(List.map rZa p0.index)⟩],[some [.ro [.sc] (p0.data.map (rI .u8)),cI p0.at_,cI p0.err,cR 0 p0.box.tracks,cR 1 p0.box.packets,cI p0.due,cI p0.bytes,cR 2 p0.index]]⟩
def K_Su_0:List Fr:=[]
def s_Su_0 (p0:Int):St:=
 ⟨mkSl 9 [(0,sI p0)],[],[]⟩
def K_So_73:List Fr:=[.bk 1,.sq c_So_78,.lp [0,6,7,8,9,10,11,12] c_So_39,.bk 0,.sq (.kp [0,6,7,9,10,11] c_So_79)]
def s_So_73 (p0:Ze) (f:Int×Ze) (g:Int×Ze) (h i:Int) (j:Int×Ze) (k:Int×Ze) (l:Int×Ze) (m:Int×Ze) (n:Bool) (a:LZb) (b o:LI) (p q r s:Int) (c:LZa) (d:LZb) (e:LZ):St:=
 ⟨mkSl 213 [(0,sP 0 0),(6,sI p0.at_),(7,sI f.1),(8,sI g.1),(9,.v false [cR 0 a]),(10,.v false [cR 1 b]),(11,sI h),(12,sI i),(13,sP 1 0),(15,sI j.1)],[some ⟨[.sc,.sc,.sc,.sc,.own [.sc]],(List.map rZc a)⟩,jI b,some ⟨q3,(List.map rZb c)⟩,some ⟨[.sc,.sc,.sc,.sc,.own [.sc]],(List.map rZc d)⟩,some ⟨q3,(List.map rZa e)⟩,some ⟨[.sc],(List.map (rI .u8) ([]:LI))⟩],[some [.ro [.sc] (o.map (rI .u8)),cI p,cI q,cR 2 c,cR 3 d,cI r,cI s,cR 4 e],some [cI k.1,cI l.1,cI m.1,cB n,.ref 5 [] 0 (([]:LI).length)]]⟩
def K_So_70:List Fr:=[.sq (.kp [0,6,7,8,9,10,11,12,13,15] c_So_73),.bk 1,.sq c_So_78,.lp [0,6,7,8,9,10,11,12] c_So_39,.bk 0,.sq (.kp [0,6,7,9,10,11] c_So_79)]
def s_So_70 (p0:Ze) (f:Int×Ze) (g:Int×Ze) (h i:Int) (j:Int×Ze) (k:LI) (l m n o:Int) (p:Int×Ze) (q:Int×Ze) (r:Int×Ze) (s:Bool) (a:LZb) (b:LI) (c:LZa) (d:LZb) (e:LZ) (t:Bool):St:=
 ⟨mkSl 213 [(0,sP 0 0),(6,sI p0.at_),(7,sI f.1),(8,sI g.1),(9,.v false [cR 0 a]),(10,.v false [cR 1 b]),(11,sI h),(12,sI i),(13,sP 1 0),(15,sI j.1),(158,sB t)],[some ⟨[.sc,.sc,.sc,.sc,.own [.sc]],(List.map rZc a)⟩,jI b,some ⟨q3,(List.map rZb c)⟩,some ⟨[.sc,.sc,.sc,.sc,.own [.sc]],(List.map rZc d)⟩,some ⟨q3,(List.map rZa e)⟩,some ⟨[.sc],(List.map (rI .u8) ([]:LI))⟩],[some [.ro [.sc] (k.map (rI .u8)),cI l,cI m,cR 2 c,cR 3 d,cI n,cI o,cR 4 e],some [cI p.1,cI q.1,cI r.1,cB s,.ref 5 [] 0 (([]:LI).length)]]⟩
def K_So_67:List Fr:=[.bk 1,.sq c_So_78,.lp [0,6,7,8,9,10,11,12] c_So_39,.bk 0,.sq (.kp [0,6,7,9,10,11] c_So_79)]
def s_So_67 (p0:Ze) (f:Int×Ze) (g:Int×Ze) (h i:Int) (j:Int×Ze) (k:Int×Ze) (l:Int×Ze) (m:Int×Ze) (n:Bool) (a:LZb) (b o:LI) (p q r s:Int) (c:LZa) (d:LZb) (e:LZ):St:=
 ⟨mkSl 213 [(0,sP 0 0),(6,sI p0.at_),(7,sI f.1),(8,sI g.1),(9,.v false [cR 0 a]),(10,.v false [cR 1 b]),(11,sI h),(12,sI i),(13,sP 1 0),(15,sI j.1)],[some ⟨[.sc,.sc,.sc,.sc,.own [.sc]],(List.map rZc a)⟩,jI b,some ⟨q3,(List.map rZb c)⟩,some ⟨[.sc,.sc,.sc,.sc,.own [.sc]],(List.map rZc d)⟩,some ⟨q3,(List.map rZa e)⟩,some ⟨[.sc],(List.map (rI .u8) ([]:LI))⟩],[some [.ro [.sc] (o.map (rI .u8)),cI p,cI q,cR 2 c,cR 3 d,cI r,cI s,cR 4 e],some [cI k.1,cI l.1,cI m.1,cB n,.ref 5 [] 0 (([]:LI).length)]]⟩
def K_So_64:List Fr:=[.sq (.kp [0,6,7,8,9,10,11,12,13,15] c_So_67),.bk 1,.sq c_So_78,.lp [0,6,7,8,9,10,11,12] c_So_39,.bk 0,.sq (.kp [0,6,7,9,10,11] c_So_79)]
def s_So_64 (p0:Ze) (d:Int×Ze) (e:Int×Ze) (f g:Int) (a:Int×Ze) (h:Int×Ze) (i:Int×Ze) (j:Int×Ze) (b:LZb) (c:LI) (k l:Bool):St:=
 ⟨mkSl 213 [(0,sP 0 0),(6,sI p0.at_),(7,sI d.1),(8,sI e.1),(9,.v false [cR 0 b]),(10,.v false [cR 1 c]),(11,sI f),(12,sI g),(13,sP 1 0),(15,sI a.1),(145,sB k)],[some ⟨[.sc,.sc,.sc,.sc,.own [.sc]],(List.map rZc b)⟩,jI c,some ⟨q3,(List.map rZb a.2.box.tracks)⟩,some ⟨[.sc,.sc,.sc,.sc,.own [.sc]],(List.map rZc a.2.box.packets)⟩,some ⟨q3,(List.map rZa a.2.index)⟩,some ⟨[.sc],(List.map (rI .u8) ([]:LI))⟩],[some [.ro [.sc] (a.2.data.map (rI .u8)),cI a.2.at_,cI a.2.err,cR 2 a.2.box.tracks,cR 3 a.2.box.packets,cI a.2.due,cI a.2.bytes,cR 4 a.2.index],some [cI h.1,cI i.1,cI j.1,cB l,.ref 5 [] 0 (([]:LI).length)]]⟩
def K_So_110:List Fr:=[]
def s_So_110 (c:Int×Ze) (a:Ze) (b:LZb) (d:Int):St:=
 ⟨mkSl 213 [(0,sP 0 0),(7,sI c.1),(9,.v false [cR 0 b])],[some ⟨[.sc,.sc,.sc,.sc,.own [.sc]],(List.map rZc b)⟩,some ⟨q3,(List.map rZb a.box.tracks)⟩,some ⟨[.sc,.sc,.sc,.sc,.own [.sc]],(List.map rZc a.box.packets)⟩,some ⟨q3,(List.map rZa a.index)⟩],[some [.ro [.sc] (a.data.map (rI .u8)),cI a.at_,cI a.err,cR 1 a.box.tracks,cR 2 a.box.packets,cI a.due,cI d,cR 3 a.index]]⟩
def K_So_102:List Fr:=[]
def s_So_102 (p0:Ze) (e:Int×Ze) (f:Int) (g:LI) (h i j k:Int) (a:LZb) (b:LZa) (c:LZb) (d:LZ):St:=
 ⟨mkSl 213 [(0,sP 0 0),(6,sI p0.at_),(7,sI e.1),(9,.v false [cR 0 a]),(11,sI f)],[some ⟨[.sc,.sc,.sc,.sc,.own [.sc]],(List.map rZc a)⟩,some ⟨q3,(List.map rZb b)⟩,some ⟨[.sc,.sc,.sc,.sc,.own [.sc]],(List.map rZc c)⟩,some ⟨q3,(List.map rZa d)⟩],[some [.ro [.sc] (g.map (rI .u8)),cI h,cI i,cR 1 b,cR 2 c,cI j,cI k,cR 3 d]]⟩
def K_So_84:List Fr:=[.lp [0,6,7,9,10,11,173,174] c_So_84,.bk 2,.sq (.kp [0,6,7,9,11] c_So_102)]
def s_So_84 (p0:Ze) (f:Int×Ze) (g:Int) (h:LZb) (a:LI) (i:Int) (j:LI) (k l m n:Int) (b:LZb) (c:LZa) (d:LZb) (e:LZ):St:=
 ⟨mkSl 213 [(0,sP 0 0),(6,sI p0.at_),(7,sI f.1),(9,.v false [cR 0 b]),(10,.v false [cR 1 a]),(11,sI g),(173,sI (h.length:Int)),(174,sI i)],[some ⟨[.sc,.sc,.sc,.sc,.own [.sc]],(List.map rZc b)⟩,jI a,some ⟨q3,(List.map rZb c)⟩,some ⟨[.sc,.sc,.sc,.sc,.own [.sc]],(List.map rZc d)⟩,some ⟨q3,(List.map rZa e)⟩],[some [.ro [.sc] (j.map (rI .u8)),cI k,cI l,cR 2 c,cR 3 d,cI m,cI n,cR 4 e]]⟩
def K_So_79:List Fr:=[]
def s_So_79 (p0:Ze) (f:Int×Ze) (g:Int) (h:LI) (i j k l:Int) (a:LZb) (b:LI) (c:LZa) (d:LZb) (e:LZ):St:=
 ⟨mkSl 213 [(0,sP 0 0),(6,sI p0.at_),(7,sI f.1),(9,.v false [cR 0 a]),(10,.v false [cR 1 b]),(11,sI g)],[some ⟨[.sc,.sc,.sc,.sc,.own [.sc]],(List.map rZc a)⟩,jI b,some ⟨q3,(List.map rZb c)⟩,some ⟨[.sc,.sc,.sc,.sc,.own [.sc]],(List.map rZc d)⟩,some ⟨q3,(List.map rZa e)⟩],[some [.ro [.sc] (h.map (rI .u8)),cI i,cI j,cR 2 c,cR 3 d,cI k,cI l,cR 4 e]]⟩
def K_So_39:List Fr:=[.lp [0,6,7,8,9,10,11,12] c_So_39,.bk 0,.sq (.kp [0,6,7,9,10,11] c_So_79)]
def s_So_39 (p0:Ze) (f:Int×Ze) (g:Int×Ze) (h i:Int) (j:LI) (k l m n:Int) (a:LZb) (b:LI) (c:LZa) (d:LZb) (e:LZ):St:=
 ⟨mkSl 213 [(0,sP 0 0),(6,sI p0.at_),(7,sI f.1),(8,sI g.1),(9,.v false [cR 0 a]),(10,.v false [cR 1 b]),(11,sI h),(12,sI i)],[some ⟨[.sc,.sc,.sc,.sc,.own [.sc]],(List.map rZc a)⟩,jI b,some ⟨q3,(List.map rZb c)⟩,some ⟨[.sc,.sc,.sc,.sc,.own [.sc]],(List.map rZc d)⟩,some ⟨q3,(List.map rZa e)⟩],[some [.ro [.sc] (j.map (rI .u8)),cI k,cI l,cR 2 c,cR 3 d,cI m,cI n,cR 4 e]]⟩
def K_So_28:List Fr:=[]
def s_So_28 (p0:Ze) (d:Int×Ze) (e:Int×Ze) (f:LI) (g h i j:Int) (a:LZa) (b:LZb) (c:LZ):St:=
 ⟨mkSl 213 [(0,sP 0 0),(6,sI p0.at_),(7,sI d.1),(8,sI e.1)],[some ⟨q3,(List.map rZb a)⟩,some ⟨[.sc,.sc,.sc,.sc,.own [.sc]],(List.map rZc b)⟩,some ⟨q3,(List.map rZa c)⟩],[some [.ro [.sc] (f.map (rI .u8)),cI g,cI h,cR 0 a,cR 1 b,cI i,cI j,cR 2 c]]⟩
def K_So_25:List Fr:=[.sq (.kp [0,6,7,8] c_So_28)]
def s_So_25 (p0:Ze) (d:Int×Ze) (e:Int×Ze) (f:LI) (g h i j:Int) (a:LZa) (b:LZb) (c:LZ) (k:Bool):St:=
 ⟨mkSl 213 [(0,sP 0 0),(6,sI p0.at_),(7,sI d.1),(8,sI e.1),(78,sB k)],[some ⟨q3,(List.map rZb a)⟩,some ⟨[.sc,.sc,.sc,.sc,.own [.sc]],(List.map rZc b)⟩,some ⟨q3,(List.map rZa c)⟩],[some [.ro [.sc] (f.map (rI .u8)),cI g,cI h,cR 0 a,cR 1 b,cI i,cI j,cR 2 c]]⟩
def K_So_22:List Fr:=[]
def s_So_22 (p0:Ze) (d:Int×Ze) (e:Int×Ze) (f:LI) (g h i j:Int) (a:LZa) (b:LZb) (c:LZ):St:=
 ⟨mkSl 213 [(0,sP 0 0),(6,sI p0.at_),(7,sI d.1),(8,sI e.1)],[some ⟨q3,(List.map rZb a)⟩,some ⟨[.sc,.sc,.sc,.sc,.own [.sc]],(List.map rZc b)⟩,some ⟨q3,(List.map rZa c)⟩],[some [.ro [.sc] (f.map (rI .u8)),cI g,cI h,cR 0 a,cR 1 b,cI i,cI j,cR 2 c]]⟩
def K_So_19:List Fr:=[.sq (.kp [0,6,7,8] c_So_22)]
def s_So_19 (p0:Ze) (b:Int×Ze) (a:Int×Ze) (c:Bool):St:=
 ⟨mkSl 213 [(0,sP 0 0),(6,sI p0.at_),(7,sI b.1),(8,sI a.1),(60,sB c)],[some ⟨q3,(List.map rZb a.2.box.tracks)⟩,some ⟨[.sc,.sc,.sc,.sc,.own [.sc]],(List.map rZc a.2.box.packets)⟩,some ⟨q3,(List.map rZa a.2.index)⟩],[some [.ro [.sc] (a.2.data.map (rI .u8)),cI a.2.at_,cI a.2.err,cR 0 a.2.box.tracks,cR 1 a.2.box.packets,cI a.2.due,cI a.2.bytes,cR 2 a.2.index]]⟩
def K_So_14:List Fr:=[]
def s_So_14 (p0:Ze) (d:Int×Ze) (e:LI) (f g h i:Int) (a:LZa) (b:LZb) (c:LZ):St:=
 ⟨mkSl 213 [(0,sP 0 0),(6,sI p0.at_),(7,sI d.1)],[some ⟨q3,(List.map rZb a)⟩,some ⟨[.sc,.sc,.sc,.sc,.own [.sc]],(List.map rZc b)⟩,some ⟨q3,(List.map rZa c)⟩],[some [.ro [.sc] (e.map (rI .u8)),cI f,cI g,cR 0 a,cR 1 b,cI h,cI i,cR 2 c]]⟩
def K_So_11:List Fr:=[.sq (.kp [0,6,7] c_So_14)]
def s_So_11 (p0:Ze) (a:Int×Ze) (b:Bool):St:=
 ⟨mkSl 213 [(0,sP 0 0),(6,sI p0.at_),(7,sI a.1),(43,sB b)],[some ⟨q3,(List.map rZb a.2.box.tracks)⟩,some ⟨[.sc,.sc,.sc,.sc,.own [.sc]],(List.map rZc a.2.box.packets)⟩,some ⟨q3,(List.map rZa a.2.index)⟩],[some [.ro [.sc] (a.2.data.map (rI .u8)),cI a.2.at_,cI a.2.err,cR 0 a.2.box.tracks,cR 1 a.2.box.packets,cI a.2.due,cI a.2.bytes,cR 2 a.2.index]]⟩
def K_So_0:List Fr:=[]
def s_So_0 (p1:Int) (p0:Ze):St:=
 ⟨mkSl 213 [(0,sP 0 0),(1,sI p1)],[some ⟨q3,(List.map rZb p0.box.tracks)⟩,some ⟨[.sc,.sc,.sc,.sc,.own [.sc]],(List.map rZc p0.box.packets)⟩,some ⟨q3,(List.map rZa p0.index)⟩],[some [.ro [.sc] (p0.data.map (rI .u8)),cI p0.at_,cI p0.err,cR 0 p0.box.tracks,cR 1 p0.box.packets,cI p0.due,cI p0.bytes,cR 2 p0.index]]⟩
def K_Sp_42:List Fr:=[.bk 1,.lp [0] c_Sp_2,.bk 0]
def s_Sp_42 (a:Int×LZb×Ze) (c:Int) (b:LZ):St:=
 ⟨mkSl 77 [(0,sP 0 0),(4,.v false [cR 0 a.2.1])],[some ⟨[.sc,.sc,.sc,.sc,.own [.sc]],(List.map rZc a.2.1)⟩,some ⟨q3,(List.map rZb a.2.2.box.tracks)⟩,some ⟨[.sc,.sc,.sc,.sc,.own [.sc]],(List.map rZc a.2.2.box.packets)⟩,some ⟨q3,(List.map rZa b)⟩],[some [.ro [.sc] (a.2.2.data.map (rI .u8)),cI a.2.2.at_,cI a.2.2.err,cR 1 a.2.2.box.tracks,cR 2 a.2.2.box.packets,cI c,cI a.2.2.bytes,cR 3 b]]⟩
def K_Sp_26:List Fr:=[.lp [0,2,4,42,43,44] c_Sp_26,.bk 2,.sq (.kp [0,4] c_Sp_42),.bk 1,.lp [0] c_Sp_2,.bk 0]
def s_Sp_26 (c:Bool×Ze) (a:Int×LZb×Ze) (d e:Int) (b:LZ):St:=
 ⟨mkSl 77 [(0,sP 0 0),(2,sI c.2.at_),(4,.v false [cR 0 a.2.1]),(42,.v false [cR 0 a.2.1]),(43,sI (a.2.1.length:Int)),(44,sI d)],[some ⟨[.sc,.sc,.sc,.sc,.own [.sc]],(List.map rZc a.2.1)⟩,some ⟨q3,(List.map rZb a.2.2.box.tracks)⟩,some ⟨[.sc,.sc,.sc,.sc,.own [.sc]],(List.map rZc a.2.2.box.packets)⟩,some ⟨q3,(List.map rZa b)⟩],[some [.ro [.sc] (a.2.2.data.map (rI .u8)),cI a.2.2.at_,cI a.2.2.err,cR 1 a.2.2.box.tracks,cR 2 a.2.2.box.packets,cI e,cI a.2.2.bytes,cR 3 b]]⟩
def K_Sp_2:List Fr:=[.lp [0] c_Sp_2,.bk 0]
def s_Sp_2 (d:LI) (e f g h:Int) (a:LZa) (b:LZb) (c:LZ):St:=
 ⟨mkSl 77 [(0,sP 0 0)],[some ⟨q3,(List.map rZb a)⟩,some ⟨[.sc,.sc,.sc,.sc,.own [.sc]],(List.map rZc b)⟩,some ⟨q3,(List.map rZa c)⟩],[some [.ro [.sc] (d.map (rI .u8)),cI e,cI f,cR 0 a,cR 1 b,cI g,cI h,cR 2 c]]⟩
def K_Sp_0:List Fr:=[]
def s_Sp_0 (p0:Ze):St:=
 ⟨mkSl 77 [(0,sP 0 0)],[some ⟨q3,(List.map rZb p0.box.tracks)⟩,some ⟨[.sc,.sc,.sc,.sc,.own [.sc]],(List.map rZc p0.box.packets)⟩,some ⟨q3,(List.map rZa p0.index)⟩],[some [.ro [.sc] (p0.data.map (rI .u8)),cI p0.at_,cI p0.err,cR 0 p0.box.tracks,cR 1 p0.box.packets,cI p0.due,cI p0.bytes,cR 2 p0.index]]⟩
def K_Sg_0:List Fr:=[]
def s_Sg_0:St:=
 ⟨mkSl 2 [],[],[]⟩
def K_Sw_25:List Fr:=[]
def s_Sw_25 (p0:LZa):St:=
 ⟨mkSl 23 [(0,.v false [.ro q3 (p0.map rZb)])],[],[]⟩
def K_Sw_7:List Fr:=[.lp [0,5,6,7] c_Sw_7,.bk 0,.sq (.kp [0] c_Sw_25)]
def s_Sw_7 (p0:LZa) (a:Int):St:=
 ⟨mkSl 23 [(0,.v false [.ro q3 (p0.map rZb)]),(5,.v false [.ro q3 (p0.map rZb)]),(6,sI (p0.length:Int)),(7,sI a)],[],[]⟩
def K_Sw_0:List Fr:=[]
def s_Sw_0 (p0:LZa):St:=
 ⟨mkSl 23 [(0,.v false [.ro q3 (p0.map rZb)])],[],[]⟩
def K_St_62:List Fr:=[.bk 3,.sq c_St_73,.lp [1,3,5,32,33,34] c_St_36,.bk 2,.sq (.kp [] c_St_74)]
def s_St_62 (c:Int) (p0:Zd) (d:Int) (a:Zc) (b:LI):St:=
 ⟨mkSl 96 [(1,sP 0 0),(3,.v false [cR 0 b]),(5,sI c),(7,sP 1 0),(32,.v false [.ro q5 (p0.packets.map rZc)]),(33,sI (p0.packets.length:Int)),(34,sI d)],[jI b],[some [.ro q3 (p0.tracks.map rZb),.ro q5 (p0.packets.map rZc)],some [cI a.track,cI a.time,cI a.span,cB a.key,.ro [.sc] (a.data.map (rI .u8))]]⟩
def K_St_74:List Fr:=[]
def s_St_74:St:=
 ⟨mkSl 96 [],[],[]⟩
def K_St_36:List Fr:=[.lp [1,3,5,32,33,34] c_St_36,.bk 2,.sq (.kp [] c_St_74)]
def s_St_36 (p0:Zd) (b c:Int) (a:LI):St:=
 ⟨mkSl 96 [(1,sP 0 0),(3,.v false [cR 0 a]),(5,sI b),(32,.v false [.ro q5 (p0.packets.map rZc)]),(33,sI (p0.packets.length:Int)),(34,sI c)],[jI a],[some [.ro q3 (p0.tracks.map rZb),.ro q5 (p0.packets.map rZc)]]⟩
def K_St_29:List Fr:=[]
def s_St_29 (p0:Zd) (a:LI):St:=
 ⟨mkSl 96 [(1,sP 0 0),(3,.v false [cR 0 a])],[jI a],[some [.ro q3 (p0.tracks.map rZb),.ro q5 (p0.packets.map rZc)]]⟩
def K_St_17:List Fr:=[.lp [1,3,23,24] c_St_17,.bk 0,.sq (.kp [1,3] c_St_29)]
def s_St_17 (p0:Zd) (b c:Int) (a:LI):St:=
 ⟨mkSl 96 [(1,sP 0 0),(3,.v false [cR 0 a]),(23,sI b),(24,sI c)],[jI a],[some [.ro q3 (p0.tracks.map rZb),.ro q5 (p0.packets.map rZc)]]⟩
def K_St_0:List Fr:=[]
def s_St_0 (p0:Zd):St:=
 ⟨mkSl 96 [(0,.v true [.ro q3 (p0.tracks.map rZb),.ro q5 (p0.packets.map rZc)])],[],[]⟩
def K_Sf_0:List Fr:=[]
def s_Sf_0 (p0:Zd) (p1 p2:Int):St:=
 ⟨mkSl 62 [(0,.v true [.ro q3 (p0.tracks.map rZb),.ro q5 (p0.packets.map rZc)]),(1,sI p1),(2,sI p2)],[],[]⟩
def K_Sc_31:List Fr:=[]
def s_Sc_31:St:=
 ⟨mkSl 20 [],[],[]⟩
def K_Sc_15:List Fr:=[.lp [1,3] c_Sc_15,.bk 0,.sq (.kp [] c_Sc_31)]
def s_Sc_15 (p0:Zd) (a:Int):St:=
 ⟨mkSl 20 [(1,sP 0 0),(3,sI a)],[],[some [.ro q3 (p0.tracks.map rZb),.ro q5 (p0.packets.map rZc)]]⟩
def K_Sc_0:List Fr:=[]
def s_Sc_0 (p0:Zd):St:=
 ⟨mkSl 20 [(0,.v true [.ro q3 (p0.tracks.map rZb),.ro q5 (p0.packets.map rZc)])],[],[]⟩
def K_Sl_73:List Fr:=[]
def s_Sl_73 (d:LI) (e f g h:Int) (a:LZa) (b:LZb) (c:LZ) (i:Bool):St:=
 ⟨mkSl 175 [(0,sP 0 0),(172,sB i)],[some ⟨q3,(List.map rZb a)⟩,some ⟨[.sc,.sc,.sc,.sc,.own [.sc]],(List.map rZc b)⟩,some ⟨q3,(List.map rZa c)⟩],[some [.ro [.sc] (d.map (rI .u8)),cI e,cI f,cR 0 a,cR 1 b,cI g,cI h,cR 2 c]]⟩
def K_Sl_71:List Fr:=[]
def s_Sl_71 (d:LI) (e f g h:Int) (a:LZa) (b:LZb) (c:LZ):St:=
 ⟨mkSl 175 [(0,sP 0 0)],[some ⟨q3,(List.map rZb a)⟩,some ⟨[.sc,.sc,.sc,.sc,.own [.sc]],(List.map rZc b)⟩,some ⟨q3,(List.map rZa c)⟩],[some [.ro [.sc] (d.map (rI .u8)),cI e,cI f,cR 0 a,cR 1 b,cI g,cI h,cR 2 c]]⟩
def K_Sl_68:List Fr:=[.sq (.kp [0] c_Sl_71)]
def s_Sl_68 (d:LI) (e f g h:Int) (a:LZa) (b:LZb) (c:LZ) (i:Bool):St:=
 ⟨mkSl 175 [(0,sP 0 0),(157,sB i)],[some ⟨q3,(List.map rZb a)⟩,some ⟨[.sc,.sc,.sc,.sc,.own [.sc]],(List.map rZc b)⟩,some ⟨q3,(List.map rZa c)⟩],[some [.ro [.sc] (d.map (rI .u8)),cI e,cI f,cR 0 a,cR 1 b,cI g,cI h,cR 2 c]]⟩
def K_Sl_65:List Fr:=[]
def s_Sl_65 (d:LI) (e f g h:Int) (a:LZa) (b:LZb) (c:LZ):St:=
 ⟨mkSl 175 [(0,sP 0 0)],[some ⟨q3,(List.map rZb a)⟩,some ⟨[.sc,.sc,.sc,.sc,.own [.sc]],(List.map rZc b)⟩,some ⟨q3,(List.map rZa c)⟩],[some [.ro [.sc] (d.map (rI .u8)),cI e,cI f,cR 0 a,cR 1 b,cI g,cI h,cR 2 c]]⟩
def K_Sl_62:List Fr:=[.sq (.kp [0] c_Sl_65)]
def s_Sl_62 (a:Ze) (b:Bool):St:=
 ⟨mkSl 175 [(0,sP 0 0),(138,sB b)],[some ⟨q3,(List.map rZb a.box.tracks)⟩,some ⟨[.sc,.sc,.sc,.sc,.own [.sc]],(List.map rZc a.box.packets)⟩,some ⟨q3,(List.map rZa a.index)⟩],[some [.ro [.sc] (a.data.map (rI .u8)),cI a.at_,cI a.err,cR 0 a.box.tracks,cR 1 a.box.packets,cI a.due,cI a.bytes,cR 2 a.index]]⟩
def K_Sl_55:List Fr:=[]
def s_Sl_55 (d:Int) (e:Bool) (f:LI) (g h i j:Int) (a:LZa) (b:LZb) (c:LZ):St:=
 ⟨mkSl 175 [(0,sP 0 0),(2,sI d),(4,sB e)],[some ⟨q3,(List.map rZb a)⟩,some ⟨[.sc,.sc,.sc,.sc,.own [.sc]],(List.map rZc b)⟩,some ⟨q3,(List.map rZa c)⟩],[some [.ro [.sc] (f.map (rI .u8)),cI g,cI h,cR 0 a,cR 1 b,cI i,cI j,cR 2 c]]⟩
def K_Sl_37:List Fr:=[.lp [0,2,3,4,5] c_Sl_37,.bk 0,.sq (.kp [0,2,4] c_Sl_55)]
def s_Sl_37 (d:Int) (e:Int×Ze) (f:Bool) (g:Int) (h:LI) (i j k l:Int) (a:LZa) (b:LZb) (c:LZ):St:=
 ⟨mkSl 175 [(0,sP 0 0),(2,sI d),(3,sI e.1),(4,sB f),(5,sI g)],[some ⟨q3,(List.map rZb a)⟩,some ⟨[.sc,.sc,.sc,.sc,.own [.sc]],(List.map rZc b)⟩,some ⟨q3,(List.map rZa c)⟩],[some [.ro [.sc] (h.map (rI .u8)),cI i,cI j,cR 0 a,cR 1 b,cI k,cI l,cR 2 c]]⟩
def K_Sl_30:List Fr:=[]
def s_Sl_30 (d:Int) (e:Int×Ze) (f:LI) (g h i j:Int) (a:LZa) (b:LZb) (c:LZ):St:=
 ⟨mkSl 175 [(0,sP 0 0),(2,sI d),(3,sI e.1)],[some ⟨q3,(List.map rZb a)⟩,some ⟨[.sc,.sc,.sc,.sc,.own [.sc]],(List.map rZc b)⟩,some ⟨q3,(List.map rZa c)⟩],[some [.ro [.sc] (f.map (rI .u8)),cI g,cI h,cR 0 a,cR 1 b,cI i,cI j,cR 2 c]]⟩
def K_Sl_27:List Fr:=[.sq (.kp [0,2,3] c_Sl_30)]
def s_Sl_27 (b:Int) (a:Int×Ze) (c:Bool):St:=
 ⟨mkSl 175 [(0,sP 0 0),(2,sI b),(3,sI a.1),(67,sB c)],[some ⟨q3,(List.map rZb a.2.box.tracks)⟩,some ⟨[.sc,.sc,.sc,.sc,.own [.sc]],(List.map rZc a.2.box.packets)⟩,some ⟨q3,(List.map rZa a.2.index)⟩],[some [.ro [.sc] (a.2.data.map (rI .u8)),cI a.2.at_,cI a.2.err,cR 0 a.2.box.tracks,cR 1 a.2.box.packets,cI a.2.due,cI a.2.bytes,cR 2 a.2.index]]⟩
def K_Sl_12:List Fr:=[]
def s_Sl_12 (d:LI) (e f g h:Int) (a:LZa) (b:LZb) (c:LZ):St:=
 ⟨mkSl 175 [(0,sP 0 0)],[some ⟨q3,(List.map rZb a)⟩,some ⟨[.sc,.sc,.sc,.sc,.own [.sc]],(List.map rZc b)⟩,some ⟨q3,(List.map rZa c)⟩],[some [.ro [.sc] (d.map (rI .u8)),cI e,cI f,cR 0 a,cR 1 b,cI g,cI h,cR 2 c]]⟩
def K_Sl_9:List Fr:=[.sq (.kp [0] c_Sl_12)]
def s_Sl_9 (d:Bool) (e:LI) (f g h i:Int) (a:LZa) (b:LZb) (c:LZ):St:=
 ⟨mkSl 175 [(0,sP 0 0),(38,sB d)],[some ⟨q3,(List.map rZb a)⟩,some ⟨[.sc,.sc,.sc,.sc,.own [.sc]],(List.map rZc b)⟩,some ⟨q3,(List.map rZa c)⟩],[some [.ro [.sc] (e.map (rI .u8)),cI f,cI g,cR 0 a,cR 1 b,cI h,cI i,cR 2 c]]⟩
def K_Sl_6:List Fr:=[]
def s_Sl_6 (d:LI) (e f g h:Int) (a:LZa) (b:LZb) (c:LZ):St:=
 ⟨mkSl 175 [(0,sP 0 0)],[some ⟨q3,(List.map rZb a)⟩,some ⟨[.sc,.sc,.sc,.sc,.own [.sc]],(List.map rZc b)⟩,some ⟨q3,(List.map rZa c)⟩],[some [.ro [.sc] (d.map (rI .u8)),cI e,cI f,cR 0 a,cR 1 b,cI g,cI h,cR 2 c]]⟩
def K_Sl_3:List Fr:=[.sq (.kp [0] c_Sl_6)]
def s_Sl_3 (p0:Ze) (a:Bool):St:=
 ⟨mkSl 175 [(0,sP 0 0),(25,sB a)],[some ⟨q3,(List.map rZb p0.box.tracks)⟩,some ⟨[.sc,.sc,.sc,.sc,.own [.sc]],(List.map rZc p0.box.packets)⟩,some ⟨q3,(List.map rZa p0.index)⟩],[some [.ro [.sc] (p0.data.map (rI .u8)),cI p0.at_,cI p0.err,cR 0 p0.box.tracks,cR 1 p0.box.packets,cI p0.due,cI p0.bytes,cR 2 p0.index]]⟩
def K_Sl_0:List Fr:=[]
def s_Sl_0 (p0:Ze):St:=
 ⟨mkSl 175 [(0,sP 0 0)],[some ⟨q3,(List.map rZb p0.box.tracks)⟩,some ⟨[.sc,.sc,.sc,.sc,.own [.sc]],(List.map rZc p0.box.packets)⟩,some ⟨q3,(List.map rZa p0.index)⟩],[some [.ro [.sc] (p0.data.map (rI .u8)),cI p0.at_,cI p0.err,cR 0 p0.box.tracks,cR 1 p0.box.packets,cI p0.due,cI p0.bytes,cR 2 p0.index]]⟩
def K_Ss_0:List Fr:=[]
def s_Ss_0 (p0:LI):St:=
 ⟨mkSl 21 [(0,.v false [.ro [.sc] (p0.map (rI .u8))])],[],[]⟩
def K_Sd_0:List Fr:=[]
def s_Sd_0 (p0:LI):St:=
 ⟨mkSl 15 [(0,.v false [.ro [.sc] (p0.map (rI .u8))])],[],[]⟩
def K_Im_0:List Fr:=[]
def s_Im_0 (p1:Int) (p0:Zg):St:=
 ⟨mkSl 13 [(0,sP 0 0),(1,sI p1)],[],[some [.ro [.sc] (p0.b.map (rI .u8)),cI p0.at_,cI p0.err]]⟩
def K_Ii_33:List Fr:=[]
def s_Ii_33:St:=
 ⟨mkSl 24 [],[],[]⟩
def K_Ii_7:List Fr:=[.lp [0,1,7,8] c_Ii_7,.bk 0,.sq (.kp [] c_Ii_33)]
def s_Ii_7 (p0:LI) (p1:ByteArray) (a:Int):St:=
 ⟨mkSl 24 [(0,.v false [.ro [.sc] (p0.map (rI .u8))]),(1,.v false [.lit (.string p1)]),(7,sI (p1.size:Int)),(8,sI a)],[],[]⟩
def K_Ii_0:List Fr:=[]
def s_Ii_0 (p0:LI) (p1:ByteArray):St:=
 ⟨mkSl 24 [(0,.v false [.ro [.sc] (p0.map (rI .u8))]),(1,.v false [.lit (.string p1)])],[],[]⟩
def K_Il_5:List Fr:=[.sq c_Il_12]
def s_Il_5 (p1:Int) (p0:Zg) (a:Bool):St:=
 ⟨mkSl 51 [(0,sP 0 0),(1,sI p1),(24,sB a)],[],[some [.ro [.sc] (p0.b.map (rI .u8)),cI p0.at_,cI p0.err]]⟩
def K_Il_0:List Fr:=[]
def s_Il_0 (p1:Int) (p0:Zg):St:=
 ⟨mkSl 51 [(0,sP 0 0),(1,sI p1)],[],[some [.ro [.sc] (p0.b.map (rI .u8)),cI p0.at_,cI p0.err]]⟩
def K_Ik_0:List Fr:=[]
def s_Ik_0 (p0:Zg):St:=
 ⟨mkSl 13 [(0,sP 0 0)],[],[some [.ro [.sc] (p0.b.map (rI .u8)),cI p0.at_,cI p0.err]]⟩
def K_Ib_49:List Fr:=[]
def s_Ib_49:St:=
 ⟨mkSl 64 [(4,sP 0 0)],[],[some [cB false,.lit (.int .u64 0),cI 0]]⟩
def K_Ib_44:List Fr:=[.bk 1,.sq c_Ib_48,.lp [0,1,4,5,6] c_Ib_17,.bk 0,.sq (.kp [4] c_Ib_49)]
def s_Ib_44 (p1 a b:Int):St:=
 ⟨mkSl 64 [(1,sI p1),(4,sP 0 0),(5,.v false [.lit (.int .u64 b)]),(6,sI a)],[],[some [cB false,.lit (.int .u64 0),cI 0]]⟩
def K_Ib_33:List Fr:=[.bk 1,.sq c_Ib_48,.lp [0,1,4,5,6] c_Ib_17,.bk 0,.sq (.kp [4] c_Ib_49)]
def s_Ib_33 (p0:LI) (p1 a b c:Int):St:=
 ⟨mkSl 64 [(0,.v false [.ro [.sc] (p0.map (rI .u8))]),(1,sI p1),(4,sP 0 0),(5,.v false [.lit (.int .u64 a)]),(6,sI b),(7,.v false [.lit (.int .u8 c)])],[],[some [cB false,.lit (.int .u64 0),cI 0]]⟩
def K_Ib_17:List Fr:=[.lp [0,1,4,5,6] c_Ib_17,.bk 0,.sq (.kp [4] c_Ib_49)]
def s_Ib_17 (p0:LI) (p1 a b:Int):St:=
 ⟨mkSl 64 [(0,.v false [.ro [.sc] (p0.map (rI .u8))]),(1,sI p1),(4,sP 0 0),(5,.v false [.lit (.int .u64 a)]),(6,sI b)],[],[some [cB false,.lit (.int .u64 0),cI 0]]⟩
def K_Ib_5:List Fr:=[.sq c_Ib_10]
def s_Ib_5 (p0:LI) (p1:Int) (a:Bool):St:=
 ⟨mkSl 64 [(0,.v false [.ro [.sc] (p0.map (rI .u8))]),(1,sI p1),(4,sP 0 0),(15,sB a)],[],[some [cB false,.lit (.int .u64 0),cI 0]]⟩
def K_Ib_0:List Fr:=[]
def s_Ib_0 (p0:LI) (p1:Int):St:=
 ⟨mkSl 64 [(0,.v false [.ro [.sc] (p0.map (rI .u8))]),(1,sI p1)],[],[]⟩
def K_Io_41:List Fr:=[.sq c_Io_47]
def s_Io_41 (a:LI) (b c:Int):St:=
 ⟨mkSl 82 [(0,sP 0 0)],[],[some [.ro [.sc] (a.map (rI .u8)),cI b,cI c]]⟩
def K_Io_35:List Fr:=[.sq c_Io_47]
def s_Io_35 (a:LI) (b c:Int):St:=
 ⟨mkSl 82 [(0,sP 0 0)],[],[some [.ro [.sc] (a.map (rI .u8)),cI b,cI c]]⟩
def K_Io_21:List Fr:=[.lp [0,4] c_Io_21,.bk 0,.sq (.kp [0] c_Io_35),.sq c_Io_47]
def s_Io_21 (a:Int) (b:LI) (c d:Int):St:=
 ⟨mkSl 82 [(0,sP 0 0),(4,sI a)],[],[some [.ro [.sc] (b.map (rI .u8)),cI c,cI d]]⟩
def K_Io_0:List Fr:=[]
def s_Io_0 (p0:Zg):St:=
 ⟨mkSl 82 [(0,sP 0 0)],[],[some [.ro [.sc] (p0.b.map (rI .u8)),cI p0.at_,cI p0.err]]⟩
def K_It_33:List Fr:=[]
def s_It_33:St:=
 ⟨mkSl 47 [],[],[]⟩
def K_It_15:List Fr:=[.lp [1,30,31] c_It_15,.bk 0,.sq (.kp [] c_It_33)]
def s_It_15 (p0:Zb) (a:Int):St:=
 ⟨mkSl 47 [(1,sP 0 0),(30,sI (p0.name.size:Int)),(31,sI a)],[],[some [cI p0.kind,cI p0.scale,.lit (.string p0.name)]]⟩
def K_It_0:List Fr:=[]
def s_It_0 (p0:Zb):St:=
 ⟨mkSl 47 [(0,.v true [cI p0.kind,cI p0.scale,.lit (.string p0.name)])],[],[]⟩
def K_Ih_0:List Fr:=[]
def s_Ih_0 (p0:LI):St:=
 ⟨mkSl 25 [(0,.v false [.ro [.sc] (p0.map (rI .u8))])],[],[]⟩
def K_Ia_35:List Fr:=[.lp [3,6,7,8] c_Ia_9,.bk 0,.sq (.kp [3] c_Ia_36)]
def s_Ia_35 (p0:LI) (a b:Int):St:=
 ⟨mkSl 28 [(3,.v false [.lit (.int .u32 b)]),(6,.v false [.ro [.sc] (p0.map (rI .u8))]),(7,sI (p0.length:Int)),(8,sI a)],[],[]⟩
def K_Ia_25:List Fr:=[.lp [3,6,7,8,16] c_Ia_25,.bk 2,.bk 1,.sq (.kp [3,6,7,8] c_Ia_35),.lp [3,6,7,8] c_Ia_9,.bk 0,.sq (.kp [3] c_Ia_36)]
def s_Ia_25 (p0:LI) (a b c:Int):St:=
 ⟨mkSl 28 [(3,.v false [.lit (.int .u32 b)]),(6,.v false [.ro [.sc] (p0.map (rI .u8))]),(7,sI (p0.length:Int)),(8,sI a),(16,sI c)],[],[]⟩
def K_Ia_36:List Fr:=[]
def s_Ia_36 (a:Int):St:=
 ⟨mkSl 28 [(3,.v false [.lit (.int .u32 a)])],[],[]⟩
def K_Ia_9:List Fr:=[.lp [3,6,7,8] c_Ia_9,.bk 0,.sq (.kp [3] c_Ia_36)]
def s_Ia_9 (p0:LI) (a b:Int):St:=
 ⟨mkSl 28 [(3,.v false [.lit (.int .u32 a)]),(6,.v false [.ro [.sc] (p0.map (rI .u8))]),(7,sI (p0.length:Int)),(8,sI b)],[],[]⟩
def K_Ia_0:List Fr:=[]
def s_Ia_0 (p0:LI):St:=
 ⟨mkSl 28 [(0,.v false [.ro [.sc] (p0.map (rI .u8))])],[],[]⟩
def K_Iq_6:List Fr:=[]
def s_Iq_6 (a:LI×Zg) (c:Bool):St:=
 ⟨mkSl 33 [(0,sP 0 0),(30,sB c)],[],[some [.ro [.sc] (a.2.b.map (rI .u8)),cI a.2.at_,cI a.2.err]]⟩
def K_Iq_0:List Fr:=[]
def s_Iq_0 (p1:Int) (p0:Zg):St:=
 ⟨mkSl 33 [(0,sP 0 0),(1,sI p1)],[],[some [.ro [.sc] (p0.b.map (rI .u8)),cI p0.at_,cI p0.err]]⟩
def K_In_57:List Fr:=[.bk 1,.sq c_In_58,.lp [0,4,33,34] c_In_31,.bk 0,.sq (.kp [0,4] c_In_59)]
def s_In_57 (b:Int×Zg) (c:Int) (d:Int×Zg) (e:Int×Zg) (f:ByteArray) (a:LZa) (g:LI) (h i:Int):St:=
 ⟨mkSl 65 [(0,sP 0 0),(4,.v false [cR 0 a]),(5,sP 1 0),(33,sI b.1),(34,sI c)],[some ⟨q3,(List.map rZb a)⟩],[some [.ro [.sc] (g.map (rI .u8)),cI h,cI i],some [cI d.1,cI e.1,.lit (.string f)]]⟩
def K_In_59:List Fr:=[]
def s_In_59 (b:LI) (c d:Int) (a:LZa):St:=
 ⟨mkSl 65 [(0,sP 0 0),(4,.v false [cR 0 a])],[some ⟨q3,(List.map rZb a)⟩],[some [.ro [.sc] (b.map (rI .u8)),cI c,cI d]]⟩
def K_In_31:List Fr:=[.lp [0,4,33,34] c_In_31,.bk 0,.sq (.kp [0,4] c_In_59)]
def s_In_31 (b:Int×Zg) (c:Int) (d:LI) (e f:Int) (a:LZa):St:=
 ⟨mkSl 65 [(0,sP 0 0),(4,.v false [cR 0 a]),(33,sI b.1),(34,sI c)],[some ⟨q3,(List.map rZb a)⟩],[some [.ro [.sc] (d.map (rI .u8)),cI e,cI f]]⟩
def K_In_24:List Fr:=[]
def s_In_24 (a:Int×Zg) (b:LI) (c d:Int):St:=
 ⟨mkSl 65 [(0,sP 0 0),(3,sI a.1)],[],[some [.ro [.sc] (b.map (rI .u8)),cI c,cI d]]⟩
def K_In_21:List Fr:=[.sq (.kp [0,3] c_In_24)]
def s_In_21 (a:Int×Zg) (c:Bool):St:=
 ⟨mkSl 65 [(0,sP 0 0),(3,sI a.1),(30,sB c)],[],[some [.ro [.sc] (a.2.b.map (rI .u8)),cI a.2.at_,cI a.2.err]]⟩
def K_In_0:List Fr:=[]
def s_In_0 (p0:Zg):St:=
 ⟨mkSl 65 [(0,sP 0 0)],[],[some [.ro [.sc] (p0.b.map (rI .u8)),cI p0.at_,cI p0.err]]⟩
def K_Is_0:List Fr:=[]
def s_Is_0 (p0:Int):St:=
 ⟨mkSl 9 [(0,sI p0)],[],[]⟩
def K_Ip_65:List Fr:=[.bk 1,.sq c_Ip_68,.lp [0,1,2,4,5,14,16,17,43,44] c_Ip_27,.bk 0,.sq (.kp [0,1,14,16,17] c_Ip_69)]
def s_Ip_65 (p1 p2 c d:Int) (e:Int×Zg) (f:Int×Zg) (g:Int×Zg) (h:Int) (i:Int×Zg) (j:Int×Zg) (k:Int×Zg) (l:Bool) (a:LZb) (b m:LI) (n o:Int):St:=
 ⟨mkSl 133 [(0,sP 0 0),(1,sI p1),(2,sI p2),(4,sI c),(5,sI d),(14,sI e.1),(16,.v false [cR 0 a]),(17,.v false [cR 1 b]),(18,sP 1 0),(20,sI f.1),(43,sI g.1),(44,sI h)],[some ⟨[.sc,.sc,.sc,.sc,.own [.sc]],(List.map rZc a)⟩,jI b,some ⟨[.sc],(List.map (rI .u8) ([]:LI))⟩],[some [.ro [.sc] (m.map (rI .u8)),cI n,cI o],some [cI i.1,cI j.1,cI k.1,cB l,.ref 2 [] 0 (([]:LI).length)]]⟩
def K_Ip_62:List Fr:=[.sq (.kp [0,1,2,4,5,14,16,17,18,20,43,44] c_Ip_65),.bk 1,.sq c_Ip_68,.lp [0,1,2,4,5,14,16,17,43,44] c_Ip_27,.bk 0,.sq (.kp [0,1,14,16,17] c_Ip_69)]
def s_Ip_62 (p1 p2:Int) (c:Int×Zg) (d:Int×Zg) (e:Int×Zg) (f:Int) (g:LI) (h i:Int) (j:Int×Zg) (k:Int×Zg) (l:Int×Zg) (a:LZb) (b:LI) (m n:Int) (o p:Bool):St:=
 ⟨mkSl 133 [(0,sP 0 0),(1,sI p1),(2,sI p2),(4,sI m),(5,sI n),(14,sI c.1),(16,.v false [cR 0 a]),(17,.v false [cR 1 b]),(18,sP 1 0),(20,sI d.1),(43,sI e.1),(44,sI f),(98,sB o)],[some ⟨[.sc,.sc,.sc,.sc,.own [.sc]],(List.map rZc a)⟩,jI b,some ⟨[.sc],(List.map (rI .u8) ([]:LI))⟩],[some [.ro [.sc] (g.map (rI .u8)),cI h,cI i],some [cI j.1,cI k.1,cI l.1,cB p,.ref 2 [] 0 (([]:LI).length)]]⟩
def K_Ip_53:List Fr:=[.bk 1,.sq c_Ip_68,.lp [0,1,2,4,5,14,16,17,43,44] c_Ip_27,.bk 0,.sq (.kp [0,1,14,16,17] c_Ip_69)]
def s_Ip_53 (p1 p2 c d:Int) (e:Int×Zg) (f:Int×Zg) (g:Int×Zg) (h:Int×Zg) (i:Int) (j:Int×Zg) (k:Int×Zg) (l:Int×Zg) (a:LZb) (b m:LI) (n o:Int):St:=
 ⟨mkSl 133 [(0,sP 0 0),(1,sI p1),(2,sI p2),(4,sI c),(5,sI d),(14,sI e.1),(16,.v false [cR 0 a]),(17,.v false [cR 1 b]),(18,sP 1 0),(19,sI f.1),(20,sI g.1),(43,sI h.1),(44,sI i)],[some ⟨[.sc,.sc,.sc,.sc,.own [.sc]],(List.map rZc a)⟩,jI b,some ⟨[.sc],(List.map (rI .u8) ([]:LI))⟩],[some [.ro [.sc] (m.map (rI .u8)),cI n,cI o],some [cI j.1,cI k.1,cI l.1,cB false,.ref 2 [] 0 (([]:LI).length)]]⟩
def K_Ip_50:List Fr:=[.sq (.kp [0,1,2,4,5,14,16,17,18,19,20,43,44] c_Ip_53),.bk 1,.sq c_Ip_68,.lp [0,1,2,4,5,14,16,17,43,44] c_Ip_27,.bk 0,.sq (.kp [0,1,14,16,17] c_Ip_69)]
def s_Ip_50 (p1 p2 e f:Int) (g:Int×Zg) (h:Int×Zg) (a:Int×Zg) (i:Int×Zg) (j:Int) (k:Int×Zg) (l:Int×Zg) (m:Int×Zg) (c:LZb) (d:LI) (n:Bool):St:=
 ⟨mkSl 133 [(0,sP 0 0),(1,sI p1),(2,sI p2),(4,sI e),(5,sI f),(14,sI g.1),(16,.v false [cR 0 c]),(17,.v false [cR 1 d]),(18,sP 1 0),(19,sI h.1),(20,sI a.1),(43,sI i.1),(44,sI j),(81,sB n)],[some ⟨[.sc,.sc,.sc,.sc,.own [.sc]],(List.map rZc c)⟩,jI d,some ⟨[.sc],(List.map (rI .u8) ([]:LI))⟩],[some [.ro [.sc] (a.2.b.map (rI .u8)),cI a.2.at_,cI a.2.err],some [cI k.1,cI l.1,cI m.1,cB false,.ref 2 [] 0 (([]:LI).length)]]⟩
def K_Ip_86:List Fr:=[]
def s_Ip_86 (p1:Int) (b:Int×Zg) (c:LI) (d e:Int) (a:LZb):St:=
 ⟨mkSl 133 [(0,sP 0 0),(1,sI p1),(14,sI b.1),(16,.v false [cR 0 a])],[some ⟨[.sc,.sc,.sc,.sc,.own [.sc]],(List.map rZc a)⟩],[some [.ro [.sc] (c.map (rI .u8)),cI d,cI e]]⟩
def K_Ip_74:List Fr:=[.lp [0,1,14,16,17,111,112] c_Ip_74,.bk 2,.sq (.kp [0,1,14,16] c_Ip_86)]
def s_Ip_74 (p1:Int) (c:Int×Zg) (d:LZb) (a:LI) (e:Int) (f:LI) (g h:Int) (b:LZb):St:=
 ⟨mkSl 133 [(0,sP 0 0),(1,sI p1),(14,sI c.1),(16,.v false [cR 0 b]),(17,.v false [cR 1 a]),(111,sI (d.length:Int)),(112,sI e)],[some ⟨[.sc,.sc,.sc,.sc,.own [.sc]],(List.map rZc b)⟩,jI a],[some [.ro [.sc] (f.map (rI .u8)),cI g,cI h]]⟩
def K_Ip_69:List Fr:=[]
def s_Ip_69 (p1:Int) (c:Int×Zg) (d:LI) (e f:Int) (a:LZb) (b:LI):St:=
 ⟨mkSl 133 [(0,sP 0 0),(1,sI p1),(14,sI c.1),(16,.v false [cR 0 a]),(17,.v false [cR 1 b])],[some ⟨[.sc,.sc,.sc,.sc,.own [.sc]],(List.map rZc a)⟩,jI b],[some [.ro [.sc] (d.map (rI .u8)),cI e,cI f]]⟩
def K_Ip_27:List Fr:=[.lp [0,1,2,4,5,14,16,17,43,44] c_Ip_27,.bk 0,.sq (.kp [0,1,14,16,17] c_Ip_69)]
def s_Ip_27 (p1 p2:Int) (c:Int×Zg) (d:Int×Zg) (e f g:Int) (h:LI) (i j:Int) (a:LZb) (b:LI):St:=
 ⟨mkSl 133 [(0,sP 0 0),(1,sI p1),(2,sI p2),(4,sI e),(5,sI f),(14,sI c.1),(16,.v false [cR 0 a]),(17,.v false [cR 1 b]),(43,sI d.1),(44,sI g)],[some ⟨[.sc,.sc,.sc,.sc,.own [.sc]],(List.map rZc a)⟩,jI b],[some [.ro [.sc] (h.map (rI .u8)),cI i,cI j]]⟩
def K_Ip_18:List Fr:=[]
def s_Ip_18 (p1 p2 p4 p5:Int) (a:Int×Zg) (b:Int×Zg) (c:LI) (d e:Int):St:=
 ⟨mkSl 133 [(0,sP 0 0),(1,sI p1),(2,sI p2),(4,sI p4),(5,sI p5),(14,sI a.1),(15,sI b.1)],[],[some [.ro [.sc] (c.map (rI .u8)),cI d,cI e]]⟩
def K_Ip_15:List Fr:=[.sq (.kp [0,1,2,4,5,14,15] c_Ip_18)]
def s_Ip_15 (p1 p2 p4 p5:Int) (c:Int×Zg) (a:Int×Zg) (d:Bool):St:=
 ⟨mkSl 133 [(0,sP 0 0),(1,sI p1),(2,sI p2),(4,sI p4),(5,sI p5),(14,sI c.1),(15,sI a.1),(40,sB d)],[],[some [.ro [.sc] (a.2.b.map (rI .u8)),cI a.2.at_,cI a.2.err]]⟩
def K_Ip_10:List Fr:=[]
def s_Ip_10 (p1 p2 p4 p5:Int) (a:Int×Zg) (b:LI) (c d:Int):St:=
 ⟨mkSl 133 [(0,sP 0 0),(1,sI p1),(2,sI p2),(4,sI p4),(5,sI p5),(14,sI a.1)],[],[some [.ro [.sc] (b.map (rI .u8)),cI c,cI d]]⟩
def K_Ip_7:List Fr:=[.sq (.kp [0,1,2,4,5,14] c_Ip_10)]
def s_Ip_7 (p1 p2 p4 p5:Int) (a:Int×Zg) (c:Bool):St:=
 ⟨mkSl 133 [(0,sP 0 0),(1,sI p1),(2,sI p2),(4,sI p4),(5,sI p5),(14,sI a.1),(30,sB c)],[],[some [.ro [.sc] (a.2.b.map (rI .u8)),cI a.2.at_,cI a.2.err]]⟩
def K_Ip_0:List Fr:=[]
def s_Ip_0 (p1 p2 p3 p4 p5:Int) (p0:Zg):St:=
 ⟨mkSl 133 [(0,sP 0 0),(1,sI p1),(2,sI p2),(3,sI p3),(4,sI p4),(5,sI p5)],[],[some [.ro [.sc] (p0.b.map (rI .u8)),cI p0.at_,cI p0.err]]⟩
def K_Ij_72:List Fr:=[]
def s_Ij_72 (a:LZa×Zg) (d:LI) (e f:Int) (b:LZ) (c:LZb):St:=
 ⟨mkSl 95 [(0,sP 0 0),(2,sP 1 0),(4,sP 2 0),(5,.v false [cR 0 b])],[some ⟨q3,(List.map rZa b)⟩,some ⟨q3,(List.map rZb ([]:LZa))⟩,some ⟨[.sc,.sc,.sc,.sc,.own [.sc]],(List.map rZc ([]:LZb))⟩,some ⟨q3,(List.map rZb a.1)⟩,some ⟨[.sc,.sc,.sc,.sc,.own [.sc]],(List.map rZc c)⟩],[some [.ro [.sc] (d.map (rI .u8)),cI e,cI f],some [.ref 1 [] 0 (([]:LZa).length),.ref 2 [] 0 (([]:LZb).length)],some [cR 3 a.1,cR 4 c]]⟩
def K_Ij_70:List Fr:=[.bk 1,.sq c_Ij_71,.lp [0,2,4,5,6,7] c_Ij_13,.bk 0,.sq (.kp [0,2,4,5] c_Ij_72)]
def s_Ij_70 (f:Int) (a:Int×LZb×Zg) (c:LZa×Zg) (d:LZb) (g:Int) (e:LZ):St:=
 ⟨mkSl 95 [(0,sP 0 0),(2,sP 1 0),(4,sP 2 0),(5,.v false [cR 0 e]),(6,sI g),(7,sI f),(11,.v false [cR 1 a.2.1])],[some ⟨q3,(List.map rZa e)⟩,some ⟨[.sc,.sc,.sc,.sc,.own [.sc]],(List.map rZc a.2.1)⟩,some ⟨q3,(List.map rZb ([]:LZa))⟩,some ⟨[.sc,.sc,.sc,.sc,.own [.sc]],(List.map rZc ([]:LZb))⟩,some ⟨q3,(List.map rZb c.1)⟩,some ⟨[.sc,.sc,.sc,.sc,.own [.sc]],(List.map rZc d)⟩],[some [.ro [.sc] (a.2.2.b.map (rI .u8)),cI a.2.2.at_,cI a.2.2.err],some [.ref 2 [] 0 (([]:LZa).length),.ref 3 [] 0 (([]:LZb).length)],some [cR 4 c.1,cR 5 d]]⟩
def K_Ij_52:List Fr:=[.lp [0,2,4,5,6,7,8,11,65,66,67] c_Ij_52,.bk 2,.sq (.kp [0,2,4,5,6,7,11] c_Ij_70),.bk 1,.sq c_Ij_71,.lp [0,2,4,5,6,7] c_Ij_13,.bk 0,.sq (.kp [0,2,4,5] c_Ij_72)]
def s_Ij_52 (f g:Int) (a:Int×LZb×Zg) (c:LZa×Zg) (d:LZb) (h i:Int) (e:LZ):St:=
 ⟨mkSl 95 [(0,sP 0 0),(2,sP 1 0),(4,sP 2 0),(5,.v false [cR 0 e]),(6,sI h),(7,sI f),(8,sI g),(11,.v false [cR 1 a.2.1]),(65,.v false [cR 1 a.2.1]),(66,sI (a.2.1.length:Int)),(67,sI i)],[some ⟨q3,(List.map rZa e)⟩,some ⟨[.sc,.sc,.sc,.sc,.own [.sc]],(List.map rZc a.2.1)⟩,some ⟨q3,(List.map rZb ([]:LZa))⟩,some ⟨[.sc,.sc,.sc,.sc,.own [.sc]],(List.map rZc ([]:LZb))⟩,some ⟨q3,(List.map rZb c.1)⟩,some ⟨[.sc,.sc,.sc,.sc,.own [.sc]],(List.map rZc d)⟩],[some [.ro [.sc] (a.2.2.b.map (rI .u8)),cI a.2.2.at_,cI a.2.2.err],some [.ref 2 [] 0 (([]:LZa).length),.ref 3 [] 0 (([]:LZb).length)],some [cR 4 c.1,cR 5 d]]⟩
def K_Ij_39:List Fr:=[.bk 1,.sq c_Ij_71,.lp [0,2,4,5,6,7] c_Ij_13,.bk 0,.sq (.kp [0,2,4,5] c_Ij_72)]
def s_Ij_39 (d e f:Int) (a:LZ) (b:LZa×Zg) (c:LZb) (g:LI) (h i:Int):St:=
 ⟨mkSl 95 [(0,sP 0 0),(2,sP 1 0),(4,sP 2 0),(5,.v false [cR 0 a]),(6,sI d),(7,sI e),(8,sI f)],[some ⟨q3,(List.map rZa a)⟩,some ⟨q3,(List.map rZb ([]:LZa))⟩,some ⟨[.sc,.sc,.sc,.sc,.own [.sc]],(List.map rZc ([]:LZb))⟩,some ⟨q3,(List.map rZb b.1)⟩,some ⟨[.sc,.sc,.sc,.sc,.own [.sc]],(List.map rZc c)⟩],[some [.ro [.sc] (g.map (rI .u8)),cI h,cI i],some [.ref 1 [] 0 (([]:LZa).length),.ref 2 [] 0 (([]:LZb).length)],some [cR 3 b.1,cR 4 c]]⟩
def K_Ij_28:List Fr:=[.sq c_Ij_33,.bk 1,.sq c_Ij_71,.lp [0,2,4,5,6,7] c_Ij_13,.bk 0,.sq (.kp [0,2,4,5] c_Ij_72)]
def s_Ij_28 (f g h:Int) (i:ByteArray) (a:LI×Zg) (c:LZ) (d:LZa×Zg) (e:LZb) (j:Bool):St:=
 ⟨mkSl 95 [(0,sP 0 0),(2,sP 1 0),(4,sP 2 0),(5,.v false [cR 0 c]),(6,sI f),(7,sI g),(8,sI h),(9,.v false [.lit (.string i)]),(39,sB j)],[some ⟨q3,(List.map rZa c)⟩,some ⟨q3,(List.map rZb ([]:LZa))⟩,some ⟨[.sc,.sc,.sc,.sc,.own [.sc]],(List.map rZc ([]:LZb))⟩,some ⟨q3,(List.map rZb d.1)⟩,some ⟨[.sc,.sc,.sc,.sc,.own [.sc]],(List.map rZc e)⟩],[some [.ro [.sc] (a.2.b.map (rI .u8)),cI a.2.at_,cI a.2.err],some [.ref 1 [] 0 (([]:LZa).length),.ref 2 [] 0 (([]:LZb).length)],some [cR 3 d.1,cR 4 e]]⟩
def K_Ij_13:List Fr:=[.lp [0,2,4,5,6,7] c_Ij_13,.bk 0,.sq (.kp [0,2,4,5] c_Ij_72)]
def s_Ij_13 (a:LZa×Zg) (d e:Int) (f:LI) (g h:Int) (b:LZ) (c:LZb):St:=
 ⟨mkSl 95 [(0,sP 0 0),(2,sP 1 0),(4,sP 2 0),(5,.v false [cR 0 b]),(6,sI d),(7,sI e)],[some ⟨q3,(List.map rZa b)⟩,some ⟨q3,(List.map rZb ([]:LZa))⟩,some ⟨[.sc,.sc,.sc,.sc,.own [.sc]],(List.map rZc ([]:LZb))⟩,some ⟨q3,(List.map rZb a.1)⟩,some ⟨[.sc,.sc,.sc,.sc,.own [.sc]],(List.map rZc c)⟩],[some [.ro [.sc] (f.map (rI .u8)),cI g,cI h],some [.ref 1 [] 0 (([]:LZa).length),.ref 2 [] 0 (([]:LZb).length)],some [cR 3 a.1,cR 4 c]]⟩
def K_Ij_0:List Fr:=[]
def s_Ij_0 (p0:Zg):St:=
 ⟨mkSl 95 [(0,sP 0 0)],[],[some [.ro [.sc] (p0.b.map (rI .u8)),cI p0.at_,cI p0.err]]⟩
def K_Ir_77:List Fr:=[.bk 5,.sq c_Ir_80,.lp [1,5,6,51,52,53] c_Ir_59,.bk 4,.sq (.kp [5] c_Ir_81)]
def s_Ir_77 (c:Int) (p0:Zd) (d:Int) (a:Zc) (b:LI):St:=
 ⟨mkSl 117 [(1,sP 0 0),(5,sI c),(6,.v false [cR 0 b]),(9,sP 1 0),(51,.v false [.ro q5 (p0.packets.map rZc)]),(52,sI (p0.packets.length:Int)),(53,sI d)],[jI b],[some [.ro q3 (p0.tracks.map rZb),.ro q5 (p0.packets.map rZc)],some [cI a.track,cI a.time,cI a.span,cB a.key,.ro [.sc] (a.data.map (rI .u8))]]⟩
def K_Ir_81:List Fr:=[]
def s_Ir_81 (a:Int):St:=
 ⟨mkSl 117 [(5,sI a)],[],[]⟩
def K_Ir_59:List Fr:=[.lp [1,5,6,51,52,53] c_Ir_59,.bk 4,.sq (.kp [5] c_Ir_81)]
def s_Ir_59 (p0:Zd) (b c:Int) (a:LI):St:=
 ⟨mkSl 117 [(1,sP 0 0),(5,sI b),(6,.v false [cR 0 a]),(51,.v false [.ro q5 (p0.packets.map rZc)]),(52,sI (p0.packets.length:Int)),(53,sI c)],[jI a],[some [.ro q3 (p0.tracks.map rZb),.ro q5 (p0.packets.map rZc)]]⟩
def K_Ir_54:List Fr:=[]
def s_Ir_54 (p0:Zd) (a:LI):St:=
 ⟨mkSl 117 [(1,sP 0 0),(5,sI 0),(6,.v false [cR 0 a])],[jI a],[some [.ro q3 (p0.tracks.map rZb),.ro q5 (p0.packets.map rZc)]]⟩
def K_Ir_42:List Fr:=[.lp [1,5,6,42,43] c_Ir_42,.bk 2,.sq (.kp [1,5,6] c_Ir_54)]
def s_Ir_42 (p0:Zd) (b c:Int) (a:LI):St:=
 ⟨mkSl 117 [(1,sP 0 0),(5,sI 0),(6,.v false [cR 0 a]),(42,sI b),(43,sI c)],[jI a],[some [.ro q3 (p0.tracks.map rZb),.ro q5 (p0.packets.map rZc)]]⟩
def K_Ir_33:List Fr:=[]
def s_Ir_33 (p0:Zd):St:=
 ⟨mkSl 117 [(1,sP 0 0)],[],[some [.ro q3 (p0.tracks.map rZb),.ro q5 (p0.packets.map rZc)]]⟩
def K_Ir_15:List Fr:=[.lp [1,27,28,29] c_Ir_15,.bk 0,.sq (.kp [1] c_Ir_33)]
def s_Ir_15 (p0:Zd) (a:Int):St:=
 ⟨mkSl 117 [(1,sP 0 0),(27,.v false [.ro q3 (p0.tracks.map rZb)]),(28,sI (p0.tracks.length:Int)),(29,sI a)],[],[some [.ro q3 (p0.tracks.map rZb),.ro q5 (p0.packets.map rZc)]]⟩
def K_Ir_0:List Fr:=[]
def s_Ir_0 (p0:Zd):St:=
 ⟨mkSl 117 [(0,.v true [.ro q3 (p0.tracks.map rZb),.ro q5 (p0.packets.map rZc)])],[],[]⟩
def K_Ig_0:List Fr:=[]
def s_Ig_0 (p0:Zd) (p1 p2:Int):St:=
 ⟨mkSl 60 [(0,.v true [.ro q3 (p0.tracks.map rZb),.ro q5 (p0.packets.map rZc)]),(1,sI p1),(2,sI p2)],[],[]⟩
def K_Ic_31:List Fr:=[]
def s_Ic_31:St:=
 ⟨mkSl 19 [],[],[]⟩
def K_Ic_15:List Fr:=[.lp [1,3] c_Ic_15,.bk 0,.sq (.kp [] c_Ic_31)]
def s_Ic_15 (p0:Zd) (a:Int):St:=
 ⟨mkSl 19 [(1,sP 0 0),(3,sI a)],[],[some [.ro q3 (p0.tracks.map rZb),.ro q5 (p0.packets.map rZc)]]⟩
def K_Ic_0:List Fr:=[]
def s_Ic_0 (p0:Zd):St:=
 ⟨mkSl 19 [(0,.v true [.ro q3 (p0.tracks.map rZb),.ro q5 (p0.packets.map rZc)])],[],[]⟩
def K_Ie_72:List Fr:=[]
def s_Ie_72 (a:Zd×LZ×Zg) (b:LI) (c d:Int):St:=
 ⟨mkSl 118 [(2,sP 0 0),(3,sP 1 0),(4,sP 2 0)],[some ⟨q3,(List.map rZb ([]:LZa))⟩,some ⟨[.sc,.sc,.sc,.sc,.own [.sc]],(List.map rZc ([]:LZb))⟩,some ⟨q3,(List.map rZb a.1.tracks)⟩,some ⟨[.sc,.sc,.sc,.sc,.own [.sc]],(List.map rZc a.1.packets)⟩],[some [cI 0,.ref 0 [] 0 (([]:LZa).length),.ref 1 [] 0 (([]:LZb).length),cI 0],some [.ro [.sc] (b.map (rI .u8)),cI c,cI d],some [cR 2 a.1.tracks,cR 3 a.1.packets]]⟩
def K_Ie_66:List Fr:=[]
def s_Ie_66 (a:Zd×LZ×Zg) (b:LI) (c d:Int):St:=
 ⟨mkSl 118 [(2,sP 0 0),(3,sP 1 0),(4,sP 2 0)],[some ⟨q3,(List.map rZb ([]:LZa))⟩,some ⟨[.sc,.sc,.sc,.sc,.own [.sc]],(List.map rZc ([]:LZb))⟩,some ⟨q3,(List.map rZb a.1.tracks)⟩,some ⟨[.sc,.sc,.sc,.sc,.own [.sc]],(List.map rZc a.1.packets)⟩],[some [cI 0,.ref 0 [] 0 (([]:LZa).length),.ref 1 [] 0 (([]:LZb).length),cI 0],some [.ro [.sc] (b.map (rI .u8)),cI c,cI d],some [cR 2 a.1.tracks,cR 3 a.1.packets]]⟩
def K_Ie_60:List Fr:=[]
def s_Ie_60 (p0:LI) (a:Zd×LZ×Zg) (b:LI) (c d:Int):St:=
 ⟨mkSl 118 [(0,.v false [.ro [.sc] (p0.map (rI .u8))]),(2,sP 0 0),(3,sP 1 0),(4,sP 2 0)],[some ⟨q3,(List.map rZb ([]:LZa))⟩,some ⟨[.sc,.sc,.sc,.sc,.own [.sc]],(List.map rZc ([]:LZb))⟩,some ⟨q3,(List.map rZb a.1.tracks)⟩,some ⟨[.sc,.sc,.sc,.sc,.own [.sc]],(List.map rZc a.1.packets)⟩],[some [cI 0,.ref 0 [] 0 (([]:LZa).length),.ref 1 [] 0 (([]:LZb).length),cI 0],some [.ro [.sc] (b.map (rI .u8)),cI c,cI d],some [cR 2 a.1.tracks,cR 3 a.1.packets]]⟩
def K_Ie_54:List Fr:=[]
def s_Ie_54 (p0:LI) (c:Zg) (a:Zd×LZ×Zg) (d:Bool):St:=
 ⟨mkSl 118 [(0,.v false [.ro [.sc] (p0.map (rI .u8))]),(2,sP 0 0),(3,sP 1 0),(4,sP 2 0),(11,sB d)],[some ⟨q3,(List.map rZb ([]:LZa))⟩,some ⟨[.sc,.sc,.sc,.sc,.own [.sc]],(List.map rZc ([]:LZb))⟩,some ⟨q3,(List.map rZb a.1.tracks)⟩,some ⟨[.sc,.sc,.sc,.sc,.own [.sc]],(List.map rZc a.1.packets)⟩],[some [cI 0,.ref 0 [] 0 (([]:LZa).length),.ref 1 [] 0 (([]:LZb).length),cI 0],some [.ro [.sc] (c.b.map (rI .u8)),cI c.at_,cI c.err],some [cR 2 a.1.tracks,cR 3 a.1.packets]]⟩
def K_Ie_44:List Fr:=[.lp [0,2,3,4,5,8,11,12] c_Ie_44,.bk 2,.sq (.kp [0,2,3,4,11] c_Ie_54)]
def s_Ie_44 (p0:LI) (c:Zg) (a:Zd×LZ×Zg) (d:LZ) (e:Bool) (f:Int):St:=
 ⟨mkSl 118 [(0,.v false [.ro [.sc] (p0.map (rI .u8))]),(2,sP 0 0),(3,sP 1 0),(4,sP 2 0),(5,.v false [cR 0 a.2.1]),(8,.v false [cR 1 d]),(11,sB e),(12,sI f)],[some ⟨q3,(List.map rZa a.2.1)⟩,some ⟨q3,(List.map rZa d)⟩,some ⟨q3,(List.map rZb ([]:LZa))⟩,some ⟨[.sc,.sc,.sc,.sc,.own [.sc]],(List.map rZc ([]:LZb))⟩,some ⟨q3,(List.map rZb a.1.tracks)⟩,some ⟨[.sc,.sc,.sc,.sc,.own [.sc]],(List.map rZc a.1.packets)⟩],[some [cI 0,.ref 2 [] 0 (([]:LZa).length),.ref 3 [] 0 (([]:LZb).length),cI 0],some [.ro [.sc] (c.b.map (rI .u8)),cI c.at_,cI c.err],some [cR 4 a.1.tracks,cR 5 a.1.packets]]⟩
def K_Ie_39:List Fr:=[]
def s_Ie_39 (p0:LI) (c:Zg) (a:Zd×LZ×Zg) (d:LZ) (e:Bool):St:=
 ⟨mkSl 118 [(0,.v false [.ro [.sc] (p0.map (rI .u8))]),(2,sP 0 0),(3,sP 1 0),(4,sP 2 0),(5,.v false [cR 0 a.2.1]),(8,.v false [cR 1 d]),(11,sB e)],[some ⟨q3,(List.map rZa a.2.1)⟩,some ⟨q3,(List.map rZa d)⟩,some ⟨q3,(List.map rZb ([]:LZa))⟩,some ⟨[.sc,.sc,.sc,.sc,.own [.sc]],(List.map rZc ([]:LZb))⟩,some ⟨q3,(List.map rZb a.1.tracks)⟩,some ⟨[.sc,.sc,.sc,.sc,.own [.sc]],(List.map rZc a.1.packets)⟩],[some [cI 0,.ref 2 [] 0 (([]:LZa).length),.ref 3 [] 0 (([]:LZb).length),cI 0],some [.ro [.sc] (c.b.map (rI .u8)),cI c.at_,cI c.err],some [cR 4 a.1.tracks,cR 5 a.1.packets]]⟩
def K_Ie_33:List Fr:=[]
def s_Ie_33 (p0:LI) (c:Int) (a:Zd×LZ×Zg) (d:LI) (e f:Int) (b:LZ):St:=
 ⟨mkSl 118 [(0,.v false [.ro [.sc] (p0.map (rI .u8))]),(2,sP 0 0),(3,sP 1 0),(4,sP 2 0),(5,.v false [cR 0 a.2.1]),(6,sI c),(8,.v false [cR 1 b])],[some ⟨q3,(List.map rZa a.2.1)⟩,some ⟨q3,(List.map rZa b)⟩,some ⟨q3,(List.map rZb ([]:LZa))⟩,some ⟨[.sc,.sc,.sc,.sc,.own [.sc]],(List.map rZc ([]:LZb))⟩,some ⟨q3,(List.map rZb a.1.tracks)⟩,some ⟨[.sc,.sc,.sc,.sc,.own [.sc]],(List.map rZc a.1.packets)⟩],[some [cI 0,.ref 2 [] 0 (([]:LZa).length),.ref 3 [] 0 (([]:LZb).length),cI 0],some [.ro [.sc] (d.map (rI .u8)),cI e,cI f],some [cR 4 a.1.tracks,cR 5 a.1.packets]]⟩
def K_Ie_23:List Fr:=[.lp [0,2,3,4,5,6,7,8,9] c_Ie_23,.bk 0,.sq (.kp [0,2,3,4,5,6,8] c_Ie_33)]
def s_Ie_23 (p0:LI) (c:Int) (d:Int×Zg) (a:Zd×LZ×Zg) (e:Int) (f:LI) (g h:Int) (b:LZ):St:=
 ⟨mkSl 118 [(0,.v false [.ro [.sc] (p0.map (rI .u8))]),(2,sP 0 0),(3,sP 1 0),(4,sP 2 0),(5,.v false [cR 0 a.2.1]),(6,sI c),(7,sI d.1),(8,.v false [cR 1 b]),(9,sI e)],[some ⟨q3,(List.map rZa a.2.1)⟩,some ⟨q3,(List.map rZa b)⟩,some ⟨q3,(List.map rZb ([]:LZa))⟩,some ⟨[.sc,.sc,.sc,.sc,.own [.sc]],(List.map rZc ([]:LZb))⟩,some ⟨q3,(List.map rZb a.1.tracks)⟩,some ⟨[.sc,.sc,.sc,.sc,.own [.sc]],(List.map rZc a.1.packets)⟩],[some [cI 0,.ref 2 [] 0 (([]:LZa).length),.ref 3 [] 0 (([]:LZb).length),cI 0],some [.ro [.sc] (f.map (rI .u8)),cI g,cI h],some [cR 4 a.1.tracks,cR 5 a.1.packets]]⟩
def K_Ie_16:List Fr:=[]
def s_Ie_16 (p0:LI) (b:Int×Zg) (a:Zd×LZ×Zg) (c:Int) (d:LI) (e f:Int):St:=
 ⟨mkSl 118 [(0,.v false [.ro [.sc] (p0.map (rI .u8))]),(2,sP 0 0),(3,sP 1 0),(4,sP 2 0),(5,.v false [cR 0 a.2.1]),(6,sI c),(7,sI b.1)],[some ⟨q3,(List.map rZa a.2.1)⟩,some ⟨q3,(List.map rZb ([]:LZa))⟩,some ⟨[.sc,.sc,.sc,.sc,.own [.sc]],(List.map rZc ([]:LZb))⟩,some ⟨q3,(List.map rZb a.1.tracks)⟩,some ⟨[.sc,.sc,.sc,.sc,.own [.sc]],(List.map rZc a.1.packets)⟩],[some [cI 0,.ref 1 [] 0 (([]:LZa).length),.ref 2 [] 0 (([]:LZb).length),cI 0],some [.ro [.sc] (d.map (rI .u8)),cI e,cI f],some [cR 3 a.1.tracks,cR 4 a.1.packets]]⟩
def K_Ie_0:List Fr:=[]
def s_Ie_0 (p0:LI):St:=
 ⟨mkSl 118 [(0,.v false [.ro [.sc] (p0.map (rI .u8))])],[],[]⟩
def K_Id_0:List Fr:=[]
def s_Id_0 (p0:LI):St:=
 ⟨mkSl 15 [(0,.v false [.ro [.sc] (p0.map (rI .u8))])],[],[]⟩
def K_If_0:List Fr:=[]
def s_If_0 (p0:LI):St:=
 ⟨mkSl 9 [(0,.v false [.ro [.sc] (p0.map (rI .u8))])],[],[]⟩
def K_Lb_0:List Fr:=[]
def s_Lb_0 (p0 p1:Za):St:=
 ⟨mkSl 20 [(0,.v true [cI p0.track,cI p0.time,cI p0.at_]),(1,.v true [cI p1.track,cI p1.time,cI p1.at_])],[],[]⟩
def K_Lc_31:List Fr:=[]
def s_Lc_31:St:=
 ⟨mkSl 27 [],[],[]⟩
def K_Lc_15:List Fr:=[.lp [0,1,5] c_Lc_15,.bk 0,.sq (.kp [] c_Lc_31)]
def s_Lc_15 (p0 p1:LZ) (a:Int):St:=
 ⟨mkSl 27 [(0,.v false [.ro q3 (p0.map rZa)]),(1,.v false [.ro q3 (p1.map rZa)]),(5,sI a)],[],[]⟩
def K_Lc_0:List Fr:=[]
def s_Lc_0 (p0 p1:LZ):St:=
 ⟨mkSl 27 [(0,.v false [.ro q3 (p0.map rZa)]),(1,.v false [.ro q3 (p1.map rZa)])],[],[]⟩
def K_La_31:List Fr:=[]
def s_La_31:St:=
 ⟨mkSl 26 [],[],[]⟩
def K_La_15:List Fr:=[.lp [0,1,5] c_La_15,.bk 0,.sq (.kp [] c_La_31)]
def s_La_15 (p0 p1:LI) (a:Int):St:=
 ⟨mkSl 26 [(0,.v false [.ro [.sc] (p0.map (rI .u8))]),(1,.v false [.ro [.sc] (p1.map (rI .u8))]),(5,sI a)],[],[]⟩
def K_La_0:List Fr:=[]
def s_La_0 (p0 p1:LI):St:=
 ⟨mkSl 26 [(0,.v false [.ro [.sc] (p0.map (rI .u8))]),(1,.v false [.ro [.sc] (p1.map (rI .u8))])],[],[]⟩
def K_Le_19:List Fr:=[]
def s_Le_19 (b:Int) (a:LI):St:=
 ⟨mkSl 20 [(0,.v false [cR 0 a]),(1,sI b)],[some ⟨[.sc],(List.map (rI .u8) a)⟩],[]⟩
def K_Le_7:List Fr:=[.lp [0,1,5] c_Le_7,.bk 0,.sq (.kp [0,1] c_Le_19)]
def s_Le_7 (b c:Int) (a:LI):St:=
 ⟨mkSl 20 [(0,.v false [cR 0 a]),(1,sI b),(5,sI c)],[some ⟨[.sc],(List.map (rI .u8) a)⟩],[]⟩
def K_Le_0:List Fr:=[]
def s_Le_0 (p1:Int) (p0:LI):St:=
 ⟨mkSl 20 [(0,.v false [cR 0 p0]),(1,sI p1)],[some ⟨[.sc],(List.map (rI .u8) p0)⟩],[]⟩
def K_Lf_27:List Fr:=[]
def s_Lf_27 (b:Int) (a:LZ):St:=
 ⟨mkSl 34 [(0,.v false [cR 0 a]),(1,sI b)],[some ⟨q3,(List.map rZa a)⟩],[]⟩
def K_Lf_7:List Fr:=[.lp [0,1,5] c_Lf_7,.bk 0,.sq (.kp [0,1] c_Lf_27)]
def s_Lf_7 (b c:Int) (a:LZ):St:=
 ⟨mkSl 34 [(0,.v false [cR 0 a]),(1,sI b),(5,sI c)],[some ⟨q3,(List.map rZa a)⟩],[]⟩
def K_Lf_0:List Fr:=[]
def s_Lf_0 (p1:Int) (p0:LZ):St:=
 ⟨mkSl 34 [(0,.v false [cR 0 p0]),(1,sI p1)],[some ⟨q3,(List.map rZa p0)⟩],[]⟩
def K_Ld_45:List Fr:=[]
def s_Ld_45 (a:Int):St:=
 ⟨mkSl 40 [(1,sI a)],[],[]⟩
def K_Ld_7:List Fr:=[.lp [0,1,5] c_Ld_7,.bk 0,.sq (.kp [1] c_Ld_45)]
def s_Ld_7 (p0:LZ) (a b:Int):St:=
 ⟨mkSl 40 [(0,.v false [.ro q3 (p0.map rZa)]),(1,sI a),(5,sI b)],[],[]⟩
def K_Ld_0:List Fr:=[]
def s_Ld_0 (p0:LZ) (p1:Int):St:=
 ⟨mkSl 40 [(0,.v false [.ro q3 (p0.map rZa)]),(1,sI p1)],[],[]⟩
def K_laws_FnExactReadIndex_0:List Fr:=[]
def s_laws_FnExactReadIndex_0 (p0:LI):St:=
 ⟨mkSl 66 [(0,.v false [.ro [.sc] (p0.map (rI .u8))])],[],[]⟩
def O_Lg_9 (Q:VX→St→Prop) (e:(LI)):Prop:=EE c_Lg_19 K_Lg_19 (s_Lg_19 e) Q
theorem ok_Lg_19 (a r:LI) (hm:m_Lg_19 a=some r):EE c_Lg_19 K_Lg_19 (s_Lg_19 a) (Post vf_Lg (res_Lg r)):=by
 exact ge (wR (rI .u8) a<|z0) (congrArg res_Lg (qj hm)) (by kernel_rfl)
theorem ok_Lg_9 (p0:LI) (c:Int) (a:LI) (y) (hm:m_Lg_9 p0 c a=some y) (Q)
  (hin:∀ s,y=.inl s→EE c_Lg_9 K_Lg_9 (s_Lg_9 p0 s.1 s.2) Q) (hout:∀ e,y=.inr e→O_Lg_9 Q e):EE c_Lg_9 K_Lg_9 (s_Lg_9 p0 c a) Q:=by
 obtain ⟨d,hm⟩|⟨d,hm⟩:=split_ite hm
 ·obtain ⟨b,f,hm⟩:=bind_some hm
  obtain ⟨h,g,hm⟩:=bind_some hm
  exact gw (hin _ (qj hm).symm) (wL (rI .u8) p0<|u1 d<|wO (.row ((rI .u8) b))<|wO (.rows (List.map (rI .u8) (a.set (0+Int.toNat c) b)))<|wO (zn ((a.set (0+Int.toNat c) b).length))<|wP (rd_nn f)<|wP (at_row (rI .u8) (rd_get f))<|wP (rd_in rfl g)<|wP (put_ob (rI .u8) b 0 (.lit (.int .u8 b)) (rd_get0 g) (by kernel_rfl) (by kernel_rfl))<|wP (lens a.length ((a.set (0+Int.toNat c) b).length) (set_len rfl))<|z0) (by kernel_rfl)
 ·refine gm c_Lg_19 K_Lg_19 (s_Lg_19 a) (wL (rI .u8) p0<|v1 d<|wN a.length<|z0) ?_ (by kernel_rfl)
  exact hout a (qj hm).symm
theorem ok_Lg_0 (p0 r:LI) (hm:m_Lg_0 p0=some r):EE c_Lg_0 K_Lg_0 (s_Lg_0 p0) (Post vf_Lg (res_Lg r)):=by
 obtain ⟨d,a,hm⟩:=bind_some hm
 refine gm c_Lg_9 K_Lg_9 (s_Lg_9 p0 0 (List.replicate (Int.toNat (p0.length:Int)) (0:Int))) (wL (rI .u8) p0<|wO (.rows (List.map (rI .u8) (List.replicate (Int.toNat (p0.length:Int)) (0:Int))))<|wO (zn (Int.toNat (p0.length:Int)))<|wO (zn ((List.replicate (Int.toNat (p0.length:Int)) (0:Int)).length))<|wP (ck_p a)<|wP (rep_ob (rI .u8) (Int.toNat (p0.length:Int)) (0:Int) [.lit (.int .u8 0)] (by kernel_rfl))<|wP (len_map (rI .u8) (show (Int.toNat (p0.length:Int))=(List.replicate (Int.toNat (p0.length:Int)) (0:Int)).length from (rep_len (Int.toNat (p0.length:Int)) (0:Int))))<|wP (lens (Int.toNat (p0.length:Int)) ((List.replicate (Int.toNat (p0.length:Int)) (0:Int)).length) (rep_len (Int.toNat (p0.length:Int)) (0:Int)))<|z0) ?_ (by kernel_rfl)
 obtain ⟨e,he,hm⟩:=bind_some hm
 refine loop_rule (u:=.c c_Lg_9) (K:=K_Lg_9) (Q:=(Post vf_Lg (res_Lg r))) (b:=lp_Lg_9 p0) (We:=O_Lg_9 (Post vf_Lg (res_Lg r))) (stJ:=fun s=>s_Lg_9 p0 s.1 s.2) (s:=(0,(List.replicate (Int.toNat (p0.length:Int)) (0:Int)))) (fun s y hb hin hout=>ok_Lg_9 p0 s.1 s.2 y hb (Post vf_Lg (res_Lg r)) hin hout) he ?_
 show EE c_Lg_19 K_Lg_19 (s_Lg_19 e) _
 exact ok_Lg_19 e r hm
theorem ok_Lg (p0 r:LI) (hm:m_Lg p0=some r):Runs ext tbl 10 (as_Lg p0) (res_Lg r):=
 runs_of (vf:=vf_Lg) (by kernel_rfl) rfl (st:=(enter vf_Lg (as_Lg p0)).getD default) (by kernel_rfl) (go_on [] 1000 J0 (ok_Lg_0 p0 r hm) (by kernel_rfl))
theorem ok_Sj_0 (p1:Int) (p0 r:Ze) (hm:m_Sj_0 p1 p0=some r):EE c_Sj_0 K_Sj_0 (s_Sj_0 p1 p0) (Post vf_Sj (res_Sj r)):=by
 obtain ⟨a,hm⟩|⟨a,hm⟩:=split_ite hm
 ·exact ge (u1 a<|ta0 p0.box.tracks p0.box.packets p0.index<|z0) (congrArg res_Sj (qj hm)) (by kernel_rfl)
 ·exact ge (v1 a<|ta0 p0.box.tracks p0.box.packets p0.index<|z0) (congrArg res_Sj (qj hm)) (by kernel_rfl)
theorem ok_Sj (p0:Ze) (p1:Int) (r:Ze) (hm:m_Sj p0 p1=some r):Runs ext tbl 94 (as_Sj p0 p1) (res_Sj r):=
 runs_of (vf:=vf_Sj) (by kernel_rfl) rfl (st:=(enter vf_Sj (as_Sj p0 p1)).getD default) (by kernel_rfl) (go_on [zn p0.box.tracks.length,zn p0.box.packets.length,zn p0.index.length] 1000 (J (len_map rZb (rfl:p0.box.tracks.length=p0.box.tracks.length)) (J (len_map rZc (rfl:p0.box.packets.length=p0.box.packets.length)) (J (len_map rZa (rfl:p0.index.length=p0.index.length)) J0))) (ok_Sj_0 p1 p0 r hm) (by kernel_rfl))
theorem ok_Sr_8 (p1:Int) (b:LI) (a g h i:Int) (c:LZa) (d:LZb) (e:LZ) (r:LI×Ze) (hm:m_Sr_8 p1 b a g h i c d e=some r):EE c_Sr_8 K_Sr_8 (s_Sr_8 p1 b a g h i c d e) (Post vf_Sr (res_Sr r)):=by
 obtain ⟨f,hm⟩|⟨f,hm⟩:=split_ite hm
 ·exact ge (u1 f<|wO (.rows (List.map (rI .u8) ([]:LI)))<|wP (all_le (rI .u8) ([]:LI) rfl)<|wP (all_dt (rI .u8) ([]:LI) rfl)<|ta0 c d e<|z0) (congrArg res_Sr (qj hm)) (by kernel_rfl)
 ·obtain ⟨l,j,hm⟩:=bind_some hm
  obtain ⟨m,k,hm⟩:=bind_some hm
  exact ge (v1 f<|wO (.rows (List.map (rI .u8) ((b.take (Int.toNat (w64 (a+p1)))).drop (Int.toNat (w64 ((w64 (a+p1)) - p1))))))<|wP (slc_hi (rI .u8) b (ck_p j))<|wP (ck_p k)<|wP (slc_tell (rI .u8) b (Int.toNat (w64 ((w64 (a+p1)) - p1))) (Int.toNat (w64 (a+p1))))<|ta0 c d e<|z0) (congrArg res_Sr (qj hm)) (by kernel_rfl)
theorem ok_Sr_5 (p1:Int) (p0:Ze) (c:Bool) (r:LI×Ze) (hm:m_Sr_5 p1 p0 c=some r):EE c_Sr_5 K_Sr_5 (s_Sr_5 p1 p0 c) (Post vf_Sr (res_Sr r)):=by
 obtain ⟨b,hm⟩|⟨b,hm⟩:=split_ite hm
 ·obtain ⟨a,d,hm⟩:=bind_some hm
  exact gw (ok_Sr_8 _ _ _ _ _ _ _ _ _ r hm) (u1 b<|ta0 p0.box.tracks p0.box.packets p0.index<|wO (.res (res_Sj a))<|wP (ok_Sj p0 2 a d)<|ta1 a.box.tracks a.box.packets a.index<|wK a.box.tracks.length a.box.packets.length a.index.length<|z0) (by kernel_rfl)
 ·exact gw (ok_Sr_8 _ _ _ _ _ _ _ _ _ r hm) (v1 b<|wK p0.box.tracks.length p0.box.packets.length p0.index.length<|z0) (by kernel_rfl)
theorem ok_Sr_0 (p1:Int) (p0:Ze) (r:LI×Ze) (hm:m_Sr_0 p1 p0=some r):EE c_Sr_0 K_Sr_0 (s_Sr_0 p1 p0) (Post vf_Sr (res_Sr r)):=by
 obtain ⟨a,hm⟩|⟨a,hm⟩:=split_ite hm
 ·exact gw (ok_Sr_5 _ _ _ r hm) (u4 a<|u2 a<|wL (rI .u8) p0.data<|u4 a<|u3 a<|wK p0.box.tracks.length p0.box.packets.length p0.index.length<|z0) (by kernel_rfl)
 ·exact gw (ok_Sr_5 _ _ _ r hm) (v4 a<|v4 a<|v4 a<|v1 a<|wK p0.box.tracks.length p0.box.packets.length p0.index.length<|z0) (by kernel_rfl)
theorem ok_Sr (p0:Ze) (p1:Int) (r:LI×Ze) (hm:m_Sr p0 p1=some r):Runs ext tbl 96 (as_Sr p0 p1) (res_Sr r):=
 runs_of (vf:=vf_Sr) (by kernel_rfl) rfl (st:=(enter vf_Sr (as_Sr p0 p1)).getD default) (by kernel_rfl) (go_on [zn p0.box.tracks.length,zn p0.box.packets.length,zn p0.index.length] 1000 (J (len_map rZb (rfl:p0.box.tracks.length=p0.box.tracks.length)) (J (len_map rZc (rfl:p0.box.packets.length=p0.box.packets.length)) (J (len_map rZa (rfl:p0.index.length=p0.index.length)) J0))) (ok_Sr_0 p1 p0 r hm) (by kernel_rfl))
theorem ok_Si_0 (p0:Ze) (r:Int×Ze) (hm:m_Si_0 p0=some r):EE c_Si_0 K_Si_0 (s_Si_0 p0) (Post vf_Si (res_Si r)):=by
 obtain ⟨a,c,hm⟩:=bind_some hm
 obtain ⟨b,hm⟩|⟨b,hm⟩:=split_ite hm
 ·exact ge (ta0 p0.box.tracks p0.box.packets p0.index<|wO (.res (res_Sr a))<|wP (ok_Sr p0 1 a c)<|ta1 a.2.box.tracks a.2.box.packets a.2.index<|u1 b<|ta0 a.2.box.tracks a.2.box.packets a.2.index<|z0) (congrArg res_Si (qj hm)) (by kernel_rfl)
 ·obtain ⟨e,d,hm⟩:=bind_some hm
  exact ge (ta0 p0.box.tracks p0.box.packets p0.index<|wO (.res (res_Sr a))<|wP (ok_Sr p0 1 a c)<|ta1 a.2.box.tracks a.2.box.packets a.2.index<|v1 b<|wO (.row ((rI .u8) e))<|wP (rd_nn d)<|wP (at_row (rI .u8) (rd_get d))<|ta0 a.2.box.tracks a.2.box.packets a.2.index<|z0) (congrArg res_Si (qj hm)) (by kernel_rfl)
theorem ok_Si (p0:Ze) (r:Int×Ze) (hm:m_Si p0=some r):Runs ext tbl 93 (as_Si p0) (res_Si r):=
 runs_of (vf:=vf_Si) (by kernel_rfl) rfl (st:=(enter vf_Si (as_Si p0)).getD default) (by kernel_rfl) (go_on [zn p0.box.tracks.length,zn p0.box.packets.length,zn p0.index.length] 1000 (J (len_map rZb (rfl:p0.box.tracks.length=p0.box.tracks.length)) (J (len_map rZc (rfl:p0.box.packets.length=p0.box.packets.length)) (J (len_map rZa (rfl:p0.index.length=p0.index.length)) J0))) (ok_Si_0 p0 r hm) (by kernel_rfl))
def O_Sb_17 (Q:VX→St→Prop) (e:((Unit))⊕(Zf)):Prop:=match e with | .inl e=>EE c_Sb_61 K_Sb_61 (s_Sb_61) Q | .inr e=>Q=Post vf_Sb (res_Sb e)
theorem ok_Sb_51 (p1 a b:Int) (d:Bool) (p0:LI) (y) (hm:m_Sb_51 p1 a b d=some y) (Q)
  (hin:∀ s,y=.inl s→EE c_Sb_17 K_Sb_17 (s_Sb_17 p0 p1 s.1 s.2) Q) (hout:∀ e,y=.inr e→O_Sb_17 Q e):EE c_Sb_51 K_Sb_51 (s_Sb_51 p1 a b d) Q:=by
 obtain ⟨c,hm⟩|⟨c,hm⟩:=split_ite hm
 ·have hQ:Q=Post vf_Sb (res_Sb (Zf.mk false 0 0)):=hout (.inr (Zf.mk false 0 0)) (qj hm).symm
  subst hQ
  exact ge (u1 c<|z0) (rfl:res_Sb (Zf.mk false 0 0)=res_Sb (Zf.mk false 0 0)) (by kernel_rfl)
 ·have hQ:Q=Post vf_Sb (res_Sb (Zf.mk true b (w64 ((w64 (p1+a))+1)))):=hout (.inr (Zf.mk true b (w64 ((w64 (p1+a))+1)))) (qj hm).symm
  subst hQ
  exact ge (v1 c<|z0) (rfl:res_Sb (Zf.mk true b (w64 ((w64 (p1+a))+1)))=res_Sb (Zf.mk true b (w64 ((w64 (p1+a))+1)))) (by kernel_rfl)
theorem ok_Sb_38 (p0:LI) (p1 f g h:Int) (i:Bool) (y) (hm:m_Sb_38 p0 p1 f g h i=some y) (Q)
  (hin:∀ s,y=.inl s→EE c_Sb_17 K_Sb_17 (s_Sb_17 p0 p1 s.1 s.2) Q) (hout:∀ e,y=.inr e→O_Sb_17 Q e):EE c_Sb_38 K_Sb_38 (s_Sb_38 p0 p1 f g h i) Q:=by
 obtain ⟨a,hm⟩|⟨a,hm⟩:=split_ite hm
 ·have hQ:Q=Post vf_Sb (res_Sb (Zf.mk false 0 0)):=hout (.inr (Zf.mk false 0 0)) (qj hm).symm
  subst hQ
  exact ge (u1 a<|z0) (rfl:res_Sb (Zf.mk false 0 0)=res_Sb (Zf.mk false 0 0)) (by kernel_rfl)
 ·obtain ⟨j,c,hm⟩:=bind_some hm
  obtain ⟨b,hm⟩|⟨b,hm⟩:=split_ite hm
  ·obtain ⟨d,hm⟩|⟨d,hm⟩:=split_ite hm
   ·exact gw (ok_Sb_51 _ _ _ _ _ y hm Q hin hout) (v1 a<|wP (by decide:(128:Int)≠0)<|wP (ck_p c)<|u1 b<|u3 d<|z0) (by kernel_rfl)
   ·exact gw (ok_Sb_51 _ _ _ _ _ y hm Q hin hout) (v1 a<|wP (by decide:(128:Int)≠0)<|wP (ck_p c)<|u1 b<|v3 d<|z0) (by kernel_rfl)
  ·exact gw (hin _ (qj hm).symm) (v1 a<|wP (by decide:(128:Int)≠0)<|wP (ck_p c)<|v1 b<|z0) (by kernel_rfl)
theorem ok_Sb_28 (p0:LI) (p1 d f:Int) (g:Bool) (y) (hm:m_Sb_28 p0 p1 d f g=some y) (Q)
  (hin:∀ s,y=.inl s→EE c_Sb_17 K_Sb_17 (s_Sb_17 p0 p1 s.1 s.2) Q) (hout:∀ e,y=.inr e→O_Sb_17 Q e):EE c_Sb_28 K_Sb_28 (s_Sb_28 p0 p1 d f g) Q:=by
 obtain ⟨a,hm⟩|⟨a,hm⟩:=split_ite hm
 ·have hQ:Q=Post vf_Sb (res_Sb (Zf.mk false 0 0)):=hout (.inr (Zf.mk false 0 0)) (qj hm).symm
  subst hQ
  exact ge (u1 a<|z0) (rfl:res_Sb (Zf.mk false 0 0)=res_Sb (Zf.mk false 0 0)) (by kernel_rfl)
 ·obtain ⟨h,b,hm⟩:=bind_some hm
  obtain ⟨c,hm⟩|⟨c,hm⟩:=split_ite hm
  ·exact gw (ok_Sb_38 _ _ _ _ _ _ y hm Q hin hout) (v1 a<|wO (.row ((rI .u8) h))<|wP (rd_nn b)<|wP (at_row (rI .u8) (rd_get b))<|u3 c<|z0) (by kernel_rfl)
  ·exact gw (ok_Sb_38 _ _ _ _ _ _ y hm Q hin hout) (v1 a<|wO (.row ((rI .u8) h))<|wP (rd_nn b)<|wP (at_row (rI .u8) (rd_get b))<|v3 c<|z0) (by kernel_rfl)
theorem ok_Sb_61 (r:Zf) (hm:m_Sb_61=some r):EE c_Sb_61 K_Sb_61 (s_Sb_61) (Post vf_Sb (res_Sb r)):=by
 exact ge (z0) (congrArg res_Sb (qj hm)) (by kernel_rfl)
theorem ok_Sb_17 (p0:LI) (p1 c d:Int) (y) (hm:m_Sb_17 p0 p1 c d=some y) (Q)
  (hin:∀ s,y=.inl s→EE c_Sb_17 K_Sb_17 (s_Sb_17 p0 p1 s.1 s.2) Q) (hout:∀ e,y=.inr e→O_Sb_17 Q e):EE c_Sb_17 K_Sb_17 (s_Sb_17 p0 p1 c d) Q:=by
 obtain ⟨b,hm⟩|⟨b,hm⟩:=split_ite hm
 ·obtain ⟨a,hm⟩|⟨a,hm⟩:=split_ite hm
  ·exact gw (ok_Sb_28 _ _ _ _ _ y hm Q hin hout) (u1 b<|wL (rI .u8) p0<|u4 a<|u4 a<|z0) (by kernel_rfl)
  ·exact gw (ok_Sb_28 _ _ _ _ _ y hm Q hin hout) (u1 b<|wL (rI .u8) p0<|v3 a<|wL (rI .u8) p0<|v4 a<|v1 a<|z0) (by kernel_rfl)
 ·refine gm c_Sb_61 K_Sb_61 (s_Sb_61) (v1 b<|z0) ?_ (by kernel_rfl)
  exact hout (.inl ()) (qj hm).symm
theorem ok_Sb_0 (p0:LI) (p1:Int) (r:Zf) (hm:m_Sb_0 p0 p1=some r):EE c_Sb_0 K_Sb_0 (s_Sb_0 p0 p1) (Post vf_Sb (res_Sb r)):=by
 obtain ⟨a,hm⟩|⟨a,hm⟩:=split_ite hm
 ·exact ge (u1 a<|z0) (congrArg res_Sb (qj hm)) (by kernel_rfl)
 ·refine gm c_Sb_17 K_Sb_17 (s_Sb_17 p0 p1 0 0) (v1 a<|z0) ?_ (by kernel_rfl)
  obtain ⟨e,he,hm⟩:=bind_some hm
  refine loop_rule (u:=.c c_Sb_17) (K:=K_Sb_17) (Q:=(Post vf_Sb (res_Sb r))) (b:=lp_Sb_17 p0 p1) (We:=O_Sb_17 (Post vf_Sb (res_Sb r))) (stJ:=fun s=>s_Sb_17 p0 p1 s.1 s.2) (s:=(0,0)) (fun s y hb hin hout=>ok_Sb_17 p0 p1 s.1 s.2 y hb (Post vf_Sb (res_Sb r)) hin hout) he ?_
  rcases e with e | e
  ·show EE c_Sb_61 K_Sb_61 (s_Sb_61) _
   exact ok_Sb_61 r hm
  ·exact congrArg (fun r=>Post vf_Sb (res_Sb r)) (qj hm).symm
theorem ok_Sb (p0:LI) (p1:Int) (r:Zf) (hm:m_Sb p0 p1=some r):Runs ext tbl 138 (as_Sb p0 p1) (res_Sb r):=
 runs_of (vf:=vf_Sb) (by kernel_rfl) rfl (st:=(enter vf_Sb (as_Sb p0 p1)).getD default) (by kernel_rfl) (go_on [] 1000 J0 (ok_Sb_0 p0 p1 r hm) (by kernel_rfl))
def O_Sn_21 (p0:Ze) (Q:VX→St→Prop) (e:(Int)):Prop:=EE c_Sn_29 K_Sn_29 (s_Sn_29 p0 e) Q
theorem ok_Sn_32 (p0:Ze) (d:Bool) (r:Int×Ze) (hm:m_Sn_32 p0 d=some r):EE c_Sn_32 K_Sn_32 (s_Sn_32 p0 d) (Post vf_Sn (res_Sn r)):=by
 obtain ⟨b,hm⟩|⟨b,hm⟩:=split_ite hm
 ·obtain ⟨a,c,hm⟩:=bind_some hm
  exact ge (u1 b<|ta0 p0.box.tracks p0.box.packets p0.index<|wO (.res (res_Sj a))<|wP (ok_Sj p0 2 a c)<|ta1 a.box.tracks a.box.packets a.index<|ta0 a.box.tracks a.box.packets a.index<|z0) (congrArg res_Sn (qj hm)) (by kernel_rfl)
 ·obtain ⟨a,c,hm⟩:=bind_some hm
  exact ge (v1 b<|ta0 p0.box.tracks p0.box.packets p0.index<|wO (.res (res_Sj a))<|wP (ok_Sj p0 5 a c)<|ta1 a.box.tracks a.box.packets a.index<|ta0 a.box.tracks a.box.packets a.index<|z0) (congrArg res_Sn (qj hm)) (by kernel_rfl)
theorem ok_Sn_29 (p0:Ze) (b:Int) (r:Int×Ze) (hm:m_Sn_29 p0 b=some r):EE c_Sn_29 K_Sn_29 (s_Sn_29 p0 b) (Post vf_Sn (res_Sn r)):=by
 obtain ⟨a,hm⟩|⟨a,hm⟩:=split_ite hm
 ·exact gw (ok_Sn_32 _ _ r hm) (wL (rI .u8) p0.data<|u4 a<|u4 a<|wK p0.box.tracks.length p0.box.packets.length p0.index.length<|z0) (by kernel_rfl)
 ·exact gw (ok_Sn_32 _ _ r hm) (wL (rI .u8) p0.data<|v4 a<|v4 a<|wK p0.box.tracks.length p0.box.packets.length p0.index.length<|z0) (by kernel_rfl)
theorem ok_Sn_21 (p0:Ze) (c:Int) (y) (hm:m_Sn_21 p0 c=some y) (Q)
  (hin:∀ s,y=.inl s→EE c_Sn_21 K_Sn_21 (s_Sn_21 p0 s) Q) (hout:∀ e,y=.inr e→O_Sn_21 p0 Q e):EE c_Sn_21 K_Sn_21 (s_Sn_21 p0 c) Q:=by
 obtain ⟨b,hm⟩|⟨b,hm⟩:=split_ite hm
 ·obtain ⟨a,hm⟩|⟨a,hm⟩:=split_ite hm
  ·obtain ⟨g,d,hm⟩:=bind_some hm
   obtain ⟨f,hm⟩|⟨f,hm⟩:=split_ite hm
   ·exact gw (hin _ (qj hm).symm) (wL (rI .u8) p0.data<|u4 b<|u4 b<|u4 a<|u2 a<|wO (.row ((rI .u8) g))<|wP (rd_nn d)<|wP (at_row (rI .u8) (rd_get d))<|u3 a<|u1 f<|wK p0.box.tracks.length p0.box.packets.length p0.index.length<|z0) (by kernel_rfl)
   ·refine gm c_Sn_29 K_Sn_29 (s_Sn_29 p0 c) (wL (rI .u8) p0.data<|u4 b<|u4 b<|u4 a<|u2 a<|wO (.row ((rI .u8) g))<|wP (rd_nn d)<|wP (at_row (rI .u8) (rd_get d))<|u3 a<|v1 f<|wK p0.box.tracks.length p0.box.packets.length p0.index.length<|z0) ?_ (by kernel_rfl)
    exact hout c (qj hm).symm
  ·refine gm c_Sn_29 K_Sn_29 (s_Sn_29 p0 c) (wL (rI .u8) p0.data<|u4 b<|u4 b<|v4 a<|v4 a<|v1 a<|v1 eF<|wK p0.box.tracks.length p0.box.packets.length p0.index.length<|z0) ?_ (by kernel_rfl)
   exact hout c (qj hm).symm
 ·refine gm c_Sn_29 K_Sn_29 (s_Sn_29 p0 c) (wL (rI .u8) p0.data<|v4 b<|v4 b<|v4 eF<|v4 eF<|v2 eF<|wK p0.box.tracks.length p0.box.packets.length p0.index.length<|z0) ?_ (by kernel_rfl)
  exact hout c (qj hm).symm
theorem ok_Sn_0 (p0:Ze) (r:Int×Ze) (hm:m_Sn_0 p0=some r):EE c_Sn_0 K_Sn_0 (s_Sn_0 p0) (Post vf_Sn (res_Sn r)):=by
 obtain ⟨f,hm⟩|⟨f,hm⟩:=split_ite hm
 ·exact ge (u1 f<|ta0 p0.box.tracks p0.box.packets p0.index<|z0) (congrArg res_Sn (qj hm)) (by kernel_rfl)
 ·obtain ⟨d,h,hm⟩:=bind_some hm
  obtain ⟨g,hm⟩|⟨g,hm⟩:=split_ite hm
  ·obtain ⟨i,hm⟩|⟨i,hm⟩:=split_ite hm
   ·obtain ⟨a,j,hm⟩:=bind_some hm
    exact ge (v1 f<|wO (.res (res_Sb d))<|wP (ok_Sb p0.data p0.at_ d h)<|v1 (not_f g)<|u1 i<|ta0 p0.box.tracks p0.box.packets p0.index<|wO (.res (res_Sj a))<|wP (ok_Sj p0 5 a j)<|ta1 a.box.tracks a.box.packets a.index<|ta0 a.box.tracks a.box.packets a.index<|z0) (congrArg res_Sn (qj hm)) (by kernel_rfl)
   ·exact ge (v1 f<|wO (.res (res_Sb d))<|wP (ok_Sb p0.data p0.at_ d h)<|v1 (not_f g)<|v1 i<|ta0 p0.box.tracks p0.box.packets p0.index<|z0) (congrArg res_Sn (qj hm)) (by kernel_rfl)
  ·refine gm c_Sn_21 K_Sn_21 (s_Sn_21 p0 p0.at_) (v1 f<|wO (.res (res_Sb d))<|wP (ok_Sb p0.data p0.at_ d h)<|u1 (not_t g)<|wK p0.box.tracks.length p0.box.packets.length p0.index.length<|z0) ?_ (by kernel_rfl)
   obtain ⟨e,he,hm⟩:=bind_some hm
   refine loop_rule (u:=.c c_Sn_21) (K:=K_Sn_21) (Q:=(Post vf_Sn (res_Sn r))) (b:=lp_Sn_21 p0) (We:=O_Sn_21 p0 (Post vf_Sn (res_Sn r))) (stJ:=fun s=>s_Sn_21 p0 s) (s:=p0.at_) (fun s y hb hin hout=>ok_Sn_21 p0 s y hb (Post vf_Sn (res_Sn r)) hin hout) he ?_
   show EE c_Sn_29 K_Sn_29 (s_Sn_29 p0 e) _
   exact ok_Sn_29 p0 e r hm
theorem ok_Sn (p0:Ze) (r:Int×Ze) (hm:m_Sn p0=some r):Runs ext tbl 95 (as_Sn p0) (res_Sn r):=
 runs_of (vf:=vf_Sn) (by kernel_rfl) rfl (st:=(enter vf_Sn (as_Sn p0)).getD default) (by kernel_rfl) (go_on [zn p0.box.tracks.length,zn p0.box.packets.length,zn p0.index.length] 1000 (J (len_map rZb (rfl:p0.box.tracks.length=p0.box.tracks.length)) (J (len_map rZc (rfl:p0.box.packets.length=p0.box.packets.length)) (J (len_map rZa (rfl:p0.index.length=p0.index.length)) J0))) (ok_Sn_0 p0 r hm) (by kernel_rfl))
def O_Se_7 (Q:VX→St→Prop) (e:(Bool)⊕((Unit))):Prop:=match e with | .inl e=>Q=Post vf_Se (res_Se e) | .inr e=>EE c_Se_23 K_Se_23 (s_Se_23) Q
theorem ok_Se_23 (r:Bool) (hm:m_Se_23=some r):EE c_Se_23 K_Se_23 (s_Se_23) (Post vf_Se (res_Se r)):=by
 exact ge (z0) (congrArg res_Se (qj hm)) (by kernel_rfl)
theorem ok_Se_7 (p0:ByteArray) (g:Int) (y) (hm:m_Se_7 p0 g=some y) (Q)
  (hin:∀ s,y=.inl s→EE c_Se_7 K_Se_7 (s_Se_7 p0 s) Q) (hout:∀ e,y=.inr e→O_Se_7 Q e):EE c_Se_7 K_Se_7 (s_Se_7 p0 g) Q:=by
 obtain ⟨c,hm⟩|⟨c,hm⟩:=split_ite hm
 ·obtain ⟨d,a,hm⟩:=bind_some hm
  obtain ⟨b,hm⟩|⟨b,hm⟩:=split_ite hm
  ·have hQ:Q=Post vf_Se (res_Se false):=hout (.inl false) (qj hm).symm
   subst hQ
   exact ge (u1 c<|wO (.int d)<|wP (sat_nn a)<|wP (sat_at a)<|u4 b<|u1 b<|u1 eT<|z0) (rfl:res_Se false=res_Se false) (by kernel_rfl)
  ·obtain ⟨f,hm⟩|⟨f,hm⟩:=split_ite hm
   ·have hQ:Q=Post vf_Se (res_Se false):=hout (.inl false) (qj hm).symm
    subst hQ
    exact ge (u1 c<|wO (.int d)<|wP (sat_nn a)<|wP (sat_at a)<|v3 b<|wO (.int d)<|wP (sat_nn a)<|wP (sat_at a)<|v2 b<|u1 f<|z0) (rfl:res_Se false=res_Se false) (by kernel_rfl)
   ·exact gw (hin _ (qj hm).symm) (u1 c<|wO (.int d)<|wP (sat_nn a)<|wP (sat_at a)<|v3 b<|wO (.int d)<|wP (sat_nn a)<|wP (sat_at a)<|v2 b<|v1 f<|z0) (by kernel_rfl)
 ·refine gm c_Se_23 K_Se_23 (s_Se_23) (v1 c<|z0) ?_ (by kernel_rfl)
  exact hout (.inr ()) (qj hm).symm
theorem ok_Se_0 (p0:ByteArray) (r:Bool) (hm:m_Se_0 p0=some r):EE c_Se_0 K_Se_0 (s_Se_0 p0) (Post vf_Se (res_Se r)):=by
 refine gm c_Se_7 K_Se_7 (s_Se_7 p0 0) (z0) ?_ (by kernel_rfl)
 obtain ⟨e,he,hm⟩:=bind_some hm
 refine loop_rule (u:=.c c_Se_7) (K:=K_Se_7) (Q:=(Post vf_Se (res_Se r))) (b:=lp_Se_7 p0) (We:=O_Se_7 (Post vf_Se (res_Se r))) (stJ:=fun s=>s_Se_7 p0 s) (s:=0) (fun s y hb hin hout=>ok_Se_7 p0 s y hb (Post vf_Se (res_Se r)) hin hout) he ?_
 rcases e with e | e
 ·exact congrArg (fun r=>Post vf_Se (res_Se r)) (qj hm).symm
 ·show EE c_Se_23 K_Se_23 (s_Se_23) _
  exact ok_Se_23 r hm
theorem ok_Se (p0:ByteArray) (r:Bool) (hm:m_Se p0=some r):Runs ext tbl 139 (as_Se p0) (res_Se r):=
 runs_of (vf:=vf_Se) (by kernel_rfl) rfl (st:=(enter vf_Se (as_Se p0)).getD default) (by kernel_rfl) (go_on [] 1000 J0 (ok_Se_0 p0 r hm) (by kernel_rfl))
theorem ok_Sv_0 (p0:Zb) (r:Bool) (hm:m_Sv_0 p0=some r):EE c_Sv_0 K_Sv_0 (s_Sv_0 p0) (Post vf_Sv (res_Sv r)):=by
 obtain ⟨a,hm⟩|⟨a,hm⟩:=split_ite hm
 ·obtain ⟨c,hm⟩|⟨c,hm⟩:=split_ite hm
  ·obtain ⟨d,hm⟩|⟨d,hm⟩:=split_ite hm
   ·obtain ⟨b,hm⟩|⟨b,hm⟩:=split_ite hm
    ·obtain ⟨e,hm⟩|⟨e,hm⟩:=split_ite hm
     ·obtain ⟨f,g,hm⟩:=bind_some hm
      exact ge (u4 a<|u4 c<|u4 d<|u4 b<|u1 b<|u3 e<|wO (.res (res_Se f))<|wP (ok_Se p0.name f g)<|u1 e<|z0) (congrArg res_Sv (qj hm)) (by kernel_rfl)
     ·exact ge (u4 a<|u4 c<|u4 d<|u4 b<|u1 b<|v4 e<|z0) (congrArg res_Sv (qj hm)) (by kernel_rfl)
    ·exact ge (u4 a<|u4 c<|u4 d<|v4 b<|v1 b<|v4 eF<|z0) (congrArg res_Sv (qj hm)) (by kernel_rfl)
   ·exact ge (u4 a<|u4 c<|v4 d<|v4 eF<|v4 eF<|v1 eF<|z0) (congrArg res_Sv (qj hm)) (by kernel_rfl)
  ·exact ge (u4 a<|v4 c<|v4 eF<|v4 eF<|v4 eF<|v1 eF<|z0) (congrArg res_Sv (qj hm)) (by kernel_rfl)
 ·exact ge (v4 a<|v4 eF<|v4 eF<|v4 eF<|v4 eF<|v1 eF<|z0) (congrArg res_Sv (qj hm)) (by kernel_rfl)
theorem ok_Sv (p0:Zb) (r:Bool) (hm:m_Sv p0=some r):Runs ext tbl 97 (as_Sv p0) (res_Sv r):=
 runs_of (vf:=vf_Sv) (by kernel_rfl) rfl (st:=(enter vf_Sv (as_Sv p0)).getD default) (by kernel_rfl) (go_on [] 1000 J0 (ok_Sv_0 p0 r hm) (by kernel_rfl))
def O_Sx_9 (Q:VX→St→Prop) (e:(Int)):Prop:=EE c_Sx_21 K_Sx_21 (s_Sx_21 e) Q
theorem ok_Sx_21 (a r:Int) (hm:m_Sx_21 a=some r):EE c_Sx_21 K_Sx_21 (s_Sx_21 a) (Post vf_Sx (res_Sx r)):=by
 exact ge (z0) (congrArg res_Sx (qj hm)) (by kernel_rfl)
theorem ok_Sx_9 (p0:LI) (a c:Int) (y) (hm:m_Sx_9 p0 a c=some y) (Q)
  (hin:∀ s,y=.inl s→EE c_Sx_9 K_Sx_9 (s_Sx_9 p0 s.1 s.2) Q) (hout:∀ e,y=.inr e→O_Sx_9 Q e):EE c_Sx_9 K_Sx_9 (s_Sx_9 p0 a c) Q:=by
 obtain ⟨b,hm⟩|⟨b,hm⟩:=split_ite hm
 ·obtain ⟨f,d,hm⟩:=bind_some hm
  exact gw (hin _ (qj hm).symm) (u1 b<|wO (.row ((rI .u8) f))<|wP (rd_nn d)<|wP (at_row (rI .u8) (rd_get d))<|z0) (by kernel_rfl)
 ·refine gm c_Sx_21 K_Sx_21 (s_Sx_21 a) (v1 b<|z0) ?_ (by kernel_rfl)
  exact hout a (qj hm).symm
theorem ok_Sx_0 (p0:LI) (r:Int) (hm:m_Sx_0 p0=some r):EE c_Sx_0 K_Sx_0 (s_Sx_0 p0) (Post vf_Sx (res_Sx r)):=by
 refine gm c_Sx_9 K_Sx_9 (s_Sx_9 p0 0 0) (wL (rI .u8) p0<|z0) ?_ (by kernel_rfl)
 obtain ⟨e,he,hm⟩:=bind_some hm
 refine loop_rule (u:=.c c_Sx_9) (K:=K_Sx_9) (Q:=(Post vf_Sx (res_Sx r))) (b:=lp_Sx_9 p0) (We:=O_Sx_9 (Post vf_Sx (res_Sx r))) (stJ:=fun s=>s_Sx_9 p0 s.1 s.2) (s:=(0,0)) (fun s y hb hin hout=>ok_Sx_9 p0 s.1 s.2 y hb (Post vf_Sx (res_Sx r)) hin hout) he ?_
 show EE c_Sx_21 K_Sx_21 (s_Sx_21 e) _
 exact ok_Sx_21 e r hm
theorem ok_Sx (p0:LI) (r:Int) (hm:m_Sx p0=some r):Runs ext tbl 140 (as_Sx p0) (res_Sx r):=
 runs_of (vf:=vf_Sx) (by kernel_rfl) rfl (st:=(enter vf_Sx (as_Sx p0)).getD default) (by kernel_rfl) (go_on [] 1000 J0 (ok_Sx_0 p0 r hm) (by kernel_rfl))
def O_Sa_25 (p0:LI) (a:Int) (Q:VX→St→Prop) (e:(Int)):Prop:=EE c_Sa_43 K_Sa_43 (s_Sa_43 p0 a e) Q
def O_Sa_9 (Q:VX→St→Prop) (e:(Int)):Prop:=EE c_Sa_44 K_Sa_44 (s_Sa_44 e) Q
theorem ok_Sa_43 (p0:LI) (a b:Int) (y) (hm:m_Sa_43 p0 a b=some y) (Q)
  (hin:∀ s,y=.inl s→EE c_Sa_9 K_Sa_9 (s_Sa_9 p0 s.1 s.2) Q) (hout:∀ e,y=.inr e→O_Sa_9 Q e):EE c_Sa_43 K_Sa_43 (s_Sa_43 p0 a b) Q:=by
 exact gw (hin _ (qj hm).symm) (z0) (by kernel_rfl)
theorem ok_Sa_25 (p0:LI) (a b f:Int) (y) (hm:m_Sa_25 p0 a b f=some y) (Q)
  (hin:∀ s,y=.inl s→EE c_Sa_25 K_Sa_25 (s_Sa_25 p0 a s.1 s.2) Q) (hout:∀ e,y=.inr e→O_Sa_25 p0 a Q e):EE c_Sa_25 K_Sa_25 (s_Sa_25 p0 a b f) Q:=by
 obtain ⟨c,hm⟩|⟨c,hm⟩:=split_ite hm
 ·obtain ⟨d,hm⟩|⟨d,hm⟩:=split_ite hm
  ·exact gw (hin _ (qj hm).symm) (u1 c<|wP (by decide:(0:Int)≤1)<|u1 d<|z0) (by kernel_rfl)
  ·exact gw (hin _ (qj hm).symm) (u1 c<|wP (by decide:(0:Int)≤1)<|v1 d<|z0) (by kernel_rfl)
 ·refine gm c_Sa_43 K_Sa_43 (s_Sa_43 p0 a b) (v1 c<|z0) ?_ (by kernel_rfl)
  exact hout b (qj hm).symm
theorem ok_Sa_44 (a r:Int) (hm:m_Sa_44 a=some r):EE c_Sa_44 K_Sa_44 (s_Sa_44 a) (Post vf_Sa (res_Sa r)):=by
 exact ge (z0) (congrArg res_Sa (qj hm)) (by kernel_rfl)
theorem ok_Sa_9 (p0:LI) (d a:Int) (y) (hm:m_Sa_9 p0 d a=some y) (Q)
  (hin:∀ s,y=.inl s→EE c_Sa_9 K_Sa_9 (s_Sa_9 p0 s.1 s.2) Q) (hout:∀ e,y=.inr e→O_Sa_9 Q e):EE c_Sa_9 K_Sa_9 (s_Sa_9 p0 d a) Q:=by
 obtain ⟨f,hm⟩|⟨f,hm⟩:=split_ite hm
 ·obtain ⟨g,h,hm⟩:=bind_some hm
  refine gm c_Sa_25 K_Sa_25 (s_Sa_25 p0 a (xorI .u32 d (wr .u32 g)) 0) (u1 f<|wO (.row ((rI .u8) g))<|wP (rd_nn h)<|wP (at_row (rI .u8) (rd_get h))<|z0) ?_ (by kernel_rfl)
  obtain ⟨e,he,hm⟩:=bind_some hm
  refine loop_rule (u:=.c c_Sa_25) (K:=K_Sa_25) (Q:=Q) (b:=lp_Sa_25 p0 a) (We:=O_Sa_25 p0 a Q) (stJ:=fun s=>s_Sa_25 p0 a s.1 s.2) (s:=((xorI .u32 d (wr .u32 g)),0)) (fun s y hb hin hout=>ok_Sa_25 p0 a s.1 s.2 y hb Q hin hout) he ?_
  show EE c_Sa_43 K_Sa_43 (s_Sa_43 p0 a e) _
  exact ok_Sa_43 p0 a e y hm Q hin hout
 ·refine gm c_Sa_44 K_Sa_44 (s_Sa_44 d) (v1 f<|z0) ?_ (by kernel_rfl)
  exact hout d (qj hm).symm
theorem ok_Sa_0 (p0:LI) (r:Int) (hm:m_Sa_0 p0=some r):EE c_Sa_0 K_Sa_0 (s_Sa_0 p0) (Post vf_Sa (res_Sa r)):=by
 refine gm c_Sa_9 K_Sa_9 (s_Sa_9 p0 4294967295 0) (wL (rI .u8) p0<|z0) ?_ (by kernel_rfl)
 obtain ⟨e,he,hm⟩:=bind_some hm
 refine loop_rule (u:=.c c_Sa_9) (K:=K_Sa_9) (Q:=(Post vf_Sa (res_Sa r))) (b:=lp_Sa_9 p0) (We:=O_Sa_9 (Post vf_Sa (res_Sa r))) (stJ:=fun s=>s_Sa_9 p0 s.1 s.2) (s:=(4294967295,0)) (fun s y hb hin hout=>ok_Sa_9 p0 s.1 s.2 y hb (Post vf_Sa (res_Sa r)) hin hout) he ?_
 show EE c_Sa_44 K_Sa_44 (s_Sa_44 e) _
 exact ok_Sa_44 e r hm
theorem ok_Sa (p0:LI) (r:Int) (hm:m_Sa p0=some r):Runs ext tbl 107 (as_Sa p0) (res_Sa r):=
 runs_of (vf:=vf_Sa) (by kernel_rfl) rfl (st:=(enter vf_Sa (as_Sa p0)).getD default) (by kernel_rfl) (go_on [] 1000 J0 (ok_Sa_0 p0 r hm) (by kernel_rfl))
theorem ok_Sq_6 (a:LI×Ze) (d:Bool) (r:Ze) (hm:m_Sq_6 a d=some r):EE c_Sq_6 K_Sq_6 (s_Sq_6 a d) (Post vf_Sq (res_Sq r)):=by
 obtain ⟨c,hm⟩|⟨c,hm⟩:=split_ite hm
 ·obtain ⟨b,e,hm⟩:=bind_some hm
  exact ge (u1 c<|ta0 a.2.box.tracks a.2.box.packets a.2.index<|wO (.res (res_Sj b))<|wP (ok_Sj a.2 3 b e)<|ta1 b.box.tracks b.box.packets b.index<|ta0 b.box.tracks b.box.packets b.index<|z0) (congrArg res_Sq (qj hm)) (by kernel_rfl)
 ·exact ge (v1 c<|ta0 a.2.box.tracks a.2.box.packets a.2.index<|z0) (congrArg res_Sq (qj hm)) (by kernel_rfl)
end Go.Proofs.V

namespace Go.Proofs.V
open Go
theorem ok_Sq_0 (p1:Int) (p0 r:Ze) (hm:m_Sq_0 p1 p0=some r):EE c_Sq_0 K_Sq_0 (s_Sq_0 p1 p0) (Post vf_Sq (res_Sq r)):=by
 obtain ⟨a,c,hm⟩:=bind_some hm
 obtain ⟨b,hm⟩|⟨b,hm⟩:=split_ite hm
 ·obtain ⟨d,f,hm⟩:=bind_some hm
  obtain ⟨j,g,hm⟩:=bind_some hm
  obtain ⟨k,h,hm⟩:=bind_some hm
  obtain ⟨e,i,hm⟩:=bind_some hm
  exact gw (ok_Sq_6 _ _ r hm) (ta0 p0.box.tracks p0.box.packets p0.index<|wO (.res (res_Sr a))<|wP (ok_Sr p0 4 a c)<|ta1 a.2.box.tracks a.2.box.packets a.2.index<|u2 b<|wO (.res (res_Sx d))<|wP (ok_Sx a.1 d f)<|u4 b<|u4 b<|wO (.rows (List.map (rI .u8) ((a.2.data.take (Int.toNat p0.at_)).drop (Int.toNat p1))))<|wP (slc_hi (rI .u8) a.2.data (ck_p g))<|wP (ck_p h)<|wP (slc_tell (rI .u8) a.2.data (Int.toNat p1) (Int.toNat p0.at_))<|u1 b<|wO (.res (res_Sa e))<|wP (ok_Sa ((a.2.data.take (Int.toNat p0.at_)).drop (Int.toNat p1)) e i)<|u2 b<|wK a.2.box.tracks.length a.2.box.packets.length a.2.index.length<|z0) (by kernel_rfl)
 ·exact gw (ok_Sq_6 _ _ r hm) (ta0 p0.box.tracks p0.box.packets p0.index<|wO (.res (res_Sr a))<|wP (ok_Sr p0 4 a c)<|ta1 a.2.box.tracks a.2.box.packets a.2.index<|v4 b<|v4 b<|v4 b<|v1 b<|wK a.2.box.tracks.length a.2.box.packets.length a.2.index.length<|z0) (by kernel_rfl)
theorem ok_Sq (p0:Ze) (p1:Int) (r:Ze) (hm:m_Sq p0 p1=some r):Runs ext tbl 98 (as_Sq p0 p1) (res_Sq r):=
 runs_of (vf:=vf_Sq) (by kernel_rfl) rfl (st:=(enter vf_Sq (as_Sq p0 p1)).getD default) (by kernel_rfl) (go_on [zn p0.box.tracks.length,zn p0.box.packets.length,zn p0.index.length] 1000 (J (len_map rZb (rfl:p0.box.tracks.length=p0.box.tracks.length)) (J (len_map rZc (rfl:p0.box.packets.length=p0.box.packets.length)) (J (len_map rZa (rfl:p0.index.length=p0.index.length)) J0))) (ok_Sq_0 p1 p0 r hm) (by kernel_rfl))
def O_Sk_36 (Q:VX→St→Prop) (e:(LI×Int×Int×Int×Int×LZa×LZb×LZ)):Prop:=EE c_Sk_60 K_Sk_60 (s_Sk_60 e.1 e.2.1 e.2.2.1 e.2.2.2.1 e.2.2.2.2.1 e.2.2.2.2.2.1 e.2.2.2.2.2.2.1 e.2.2.2.2.2.2.2) Q
def O_Sk_5 (Q:VX→St→Prop) (e:(LI×Int×Int×Int×Int×LZa×LZb×LZ)):Prop:=EE c_Sk_23 K_Sk_23 (s_Sk_23 e.1 e.2.1 e.2.2.1 e.2.2.2.1 e.2.2.2.2.1 e.2.2.2.2.2.1 e.2.2.2.2.2.2.1 e.2.2.2.2.2.2.2) Q
theorem ok_Sk_19 (f:Int) (a:Int×Ze) (c:LI) (g:Bool) (y) (hm:m_Sk_19 f a c g=some y) (Q)
  (hin:∀ s,y=.inl s→EE c_Sk_5 K_Sk_5 (s_Sk_5 s.1 s.2.1 s.2.2.1 s.2.2.2.1 s.2.2.2.2.1 s.2.2.2.2.2.1 s.2.2.2.2.2.2.1 s.2.2.2.2.2.2.2.1 s.2.2.2.2.2.2.2.2.1 s.2.2.2.2.2.2.2.2.2) Q) (hout:∀ e,y=.inr e→O_Sk_5 Q e):EE c_Sk_19 K_Sk_19 (s_Sk_19 f a c g) Q:=by
 obtain ⟨d,hm⟩|⟨d,hm⟩:=split_ite hm
 ·obtain ⟨b,h,hm⟩:=bind_some hm
  exact gw (hin _ (qj hm).symm) (u1 d<|ta0 a.2.box.tracks a.2.box.packets a.2.index<|wO (.res (res_Sj b))<|wP (ok_Sj a.2 4 b h)<|ta1 b.box.tracks b.box.packets b.index<|wK c.length b.box.tracks.length b.box.packets.length<|wN b.index.length<|z0) (by kernel_rfl)
 ·exact gw (hin _ (qj hm).symm) (v1 d<|wK c.length a.2.box.tracks.length a.2.box.packets.length<|wN a.2.index.length<|z0) (by kernel_rfl)
theorem ok_Sk_58 (h:Int×Ze) (i:Int) (a:Int×Ze) (b:Int×Ze) (c:ByteArray) (j:LI) (k l m n:Int) (d:LZa) (f:LZb) (g:LZ) (y) (hm:m_Sk_58 h i a b c j k l m n d f g=some y) (Q)
  (hin:∀ s,y=.inl s→EE c_Sk_36 K_Sk_36 (s_Sk_36 h s.1 s.2.1 s.2.2.1 s.2.2.2.1 s.2.2.2.2.1 s.2.2.2.2.2.1 s.2.2.2.2.2.2.1 s.2.2.2.2.2.2.2.1 s.2.2.2.2.2.2.2.2) Q) (hout:∀ e,y=.inr e→O_Sk_36 Q e):EE c_Sk_58 K_Sk_58 (s_Sk_58 h i a b c j k l m n d f g) Q:=by
 obtain ⟨p,o,hm⟩:=bind_some hm
 exact gw (hin _ (qj hm).symm) (wO (.rows (List.map rZb ([(Zb.mk a.1 b.1 c)]:LZa)))<|wO (zn 1)<|wO (.rows (List.map rZb (d++([(Zb.mk a.1 b.1 c)]:LZa))))<|wO (zn ((d++([(Zb.mk a.1 b.1 c)]:LZa)).length))<|wO (zn ((d++([(Zb.mk a.1 b.1 c)]:LZa)).length))<|wO (zn f.length)<|wO (zn g.length)<|wP (Eq.refl (List.map rZb ([(Zb.mk a.1 b.1 c)]:LZa)))<|wP (len_map rZb (show 1=([(Zb.mk a.1 b.1 c)]:LZa).length from rfl))<|wP (all_le rZb ([(Zb.mk a.1 b.1 c)]:LZa) rfl)<|wP (app_ck rZb d ([(Zb.mk a.1 b.1 c)]:LZa) rfl rfl o)<|wP (app_tell rZb d ([(Zb.mk a.1 b.1 c)]:LZa) rfl rfl)<|wP (len_map rZb (show (d++([(Zb.mk a.1 b.1 c)]:LZa)).length=(d++([(Zb.mk a.1 b.1 c)]:LZa)).length from rfl))<|wP (lens ((d++([(Zb.mk a.1 b.1 c)]:LZa)).length) ((d++([(Zb.mk a.1 b.1 c)]:LZa)).length) rfl)<|wP (ln f.length)<|wP (ln g.length)<|z0) (by kernel_rfl)
theorem ok_Sk_55 (c:Int×Ze) (f:Int) (a:LI×Ze) (g:Int×Ze) (h:Int×Ze) (i:ByteArray) (j:Bool) (y) (hm:m_Sk_55 c f a g h i j=some y) (Q)
  (hin:∀ s,y=.inl s→EE c_Sk_36 K_Sk_36 (s_Sk_36 c s.1 s.2.1 s.2.2.1 s.2.2.2.1 s.2.2.2.2.1 s.2.2.2.2.2.1 s.2.2.2.2.2.2.1 s.2.2.2.2.2.2.2.1 s.2.2.2.2.2.2.2.2) Q) (hout:∀ e,y=.inr e→O_Sk_36 Q e):EE c_Sk_55 K_Sk_55 (s_Sk_55 c f a g h i j) Q:=by
 obtain ⟨d,hm⟩|⟨d,hm⟩:=split_ite hm
 ·obtain ⟨b,k,hm⟩:=bind_some hm
  exact gw (ok_Sk_58 _ _ _ _ _ _ _ _ _ _ _ _ _ y hm Q hin hout) (u1 d<|ta0 a.2.box.tracks a.2.box.packets a.2.index<|wO (.res (res_Sj b))<|wP (ok_Sj a.2 5 b k)<|ta1 b.box.tracks b.box.packets b.index<|wK b.box.tracks.length b.box.packets.length b.index.length<|z0) (by kernel_rfl)
 ·exact gw (ok_Sk_58 _ _ _ _ _ _ _ _ _ _ _ _ _ y hm Q hin hout) (v1 d<|wK a.2.box.tracks.length a.2.box.packets.length a.2.index.length<|z0) (by kernel_rfl)
theorem ok_Sk_60 (e:LI) (f g h i:Int) (b:LZa) (c:LZb) (d:LZ) (r:Ze) (hm:m_Sk_60 e f g h i b c d=some r):EE c_Sk_60 K_Sk_60 (s_Sk_60 e f g h i b c d) (Post vf_Sk (res_Sk r)):=by
 obtain ⟨a,j,hm⟩:=bind_some hm
 exact ge (ta0 b c d<|wO (.res (res_Sq a))<|wP (ok_Sq (Ze.mk e f g (Zd.mk b c) h i d) 0 a j)<|ta1 a.box.tracks a.box.packets a.index<|ta0 a.box.tracks a.box.packets a.index<|z0) (congrArg res_Sk (qj hm)) (by kernel_rfl)
theorem ok_Sk_36 (q:Int×Ze) (t:Int) (j:LI) (k l m n:Int) (f:LZa) (g:LZb) (h:LZ) (y) (hm:m_Sk_36 q t j k l m n f g h=some y) (Q)
  (hin:∀ s,y=.inl s→EE c_Sk_36 K_Sk_36 (s_Sk_36 q s.1 s.2.1 s.2.2.1 s.2.2.2.1 s.2.2.2.2.1 s.2.2.2.2.2.1 s.2.2.2.2.2.2.1 s.2.2.2.2.2.2.2.1 s.2.2.2.2.2.2.2.2) Q) (hout:∀ e,y=.inr e→O_Sk_36 Q e):EE c_Sk_36 K_Sk_36 (s_Sk_36 q t j k l m n f g h) Q:=by
 obtain ⟨i,hm⟩|⟨i,hm⟩:=split_ite hm
 ·obtain ⟨o,hm⟩|⟨o,hm⟩:=split_ite hm
  ·obtain ⟨b,u,hm⟩:=bind_some hm
   obtain ⟨c,v,hm⟩:=bind_some hm
   obtain ⟨a,w,hm⟩:=bind_some hm
   obtain ⟨d,x,hm⟩:=bind_some hm
   obtain ⟨r,z,hm⟩:=bind_some hm
   obtain ⟨p,hm⟩|⟨p,hm⟩:=split_ite hm
   ·obtain ⟨A,B,hm⟩:=bind_some hm
    exact gw (ok_Sk_55 _ _ _ _ _ _ _ y hm Q hin hout) (u4 i<|u2 i<|u1 o<|ta0 f g h<|wO (.res (res_Si b))<|wP (ok_Si (Ze.mk j k l (Zd.mk f g) m n h) b u)<|ta1 b.2.box.tracks b.2.box.packets b.2.index<|ta0 b.2.box.tracks b.2.box.packets b.2.index<|wO (.res (res_Sn c))<|wP (ok_Sn b.2 c v)<|ta1 c.2.box.tracks c.2.box.packets c.2.index<|ta0 c.2.box.tracks c.2.box.packets c.2.index<|wO (.res (res_Si a))<|wP (ok_Si c.2 a w)<|ta1 a.2.box.tracks a.2.box.packets a.2.index<|ta0 a.2.box.tracks a.2.box.packets a.2.index<|wO (.res (res_Sr d))<|wP (ok_Sr a.2 a.1 d x)<|ta1 d.2.box.tracks d.2.box.packets d.2.index<|wO (.str r)<|wP (bstr_t z)<|u2 p<|wO (.res (res_Sv A))<|wP (ok_Sv (Zb.mk b.1 c.1 r) A B)<|u2 p<|wK d.2.box.tracks.length d.2.box.packets.length d.2.index.length<|z0) (by kernel_rfl)
   ·exact gw (ok_Sk_55 _ _ _ _ _ _ _ y hm Q hin hout) (u4 i<|u2 i<|u1 o<|ta0 f g h<|wO (.res (res_Si b))<|wP (ok_Si (Ze.mk j k l (Zd.mk f g) m n h) b u)<|ta1 b.2.box.tracks b.2.box.packets b.2.index<|ta0 b.2.box.tracks b.2.box.packets b.2.index<|wO (.res (res_Sn c))<|wP (ok_Sn b.2 c v)<|ta1 c.2.box.tracks c.2.box.packets c.2.index<|ta0 c.2.box.tracks c.2.box.packets c.2.index<|wO (.res (res_Si a))<|wP (ok_Si c.2 a w)<|ta1 a.2.box.tracks a.2.box.packets a.2.index<|ta0 a.2.box.tracks a.2.box.packets a.2.index<|wO (.res (res_Sr d))<|wP (ok_Sr a.2 a.1 d x)<|ta1 d.2.box.tracks d.2.box.packets d.2.index<|wO (.str r)<|wP (bstr_t z)<|v4 p<|wK d.2.box.tracks.length d.2.box.packets.length d.2.index.length<|z0) (by kernel_rfl)
  ·refine gm c_Sk_60 K_Sk_60 (s_Sk_60 j k l m n f g h) (u4 i<|u2 i<|v1 o<|wK f.length g.length h.length<|z0) ?_ (by kernel_rfl)
   exact hout (j,k,l,m,n,f,g,h) (qj hm).symm
 ·refine gm c_Sk_60 K_Sk_60 (s_Sk_60 j k l m n f g h) (v4 i<|v2 i<|v1 eF<|wK f.length g.length h.length<|z0) ?_ (by kernel_rfl)
  exact hout (j,k,l,m,n,f,g,h) (qj hm).symm
theorem ok_Sk_31 (a:Int×Ze) (h:LI) (i j k l:Int) (d:LZa) (f:LZb) (g:LZ) (r:Ze) (hm:m_Sk_31 a h i j k l d f g=some r):EE c_Sk_31 K_Sk_31 (s_Sk_31 a h i j k l d f g) (Post vf_Sk (res_Sk r)):=by
 refine gm c_Sk_36 K_Sk_36 (s_Sk_36 a 0 h i j k l d f g) (wK d.length f.length g.length<|z0) ?_ (by kernel_rfl)
 obtain ⟨e,he,hm⟩:=bind_some hm
 refine loop_rule (u:=.c c_Sk_36) (K:=K_Sk_36) (Q:=(Post vf_Sk (res_Sk r))) (b:=lp_Sk_36 a) (We:=O_Sk_36 (Post vf_Sk (res_Sk r))) (stJ:=fun s=>s_Sk_36 a s.1 s.2.1 s.2.2.1 s.2.2.2.1 s.2.2.2.2.1 s.2.2.2.2.2.1 s.2.2.2.2.2.2.1 s.2.2.2.2.2.2.2.1 s.2.2.2.2.2.2.2.2) (s:=(0,h,i,j,k,l,d,f,g)) (fun s y hb hin hout=>ok_Sk_36 a s.1 s.2.1 s.2.2.1 s.2.2.2.1 s.2.2.2.2.1 s.2.2.2.2.2.1 s.2.2.2.2.2.2.1 s.2.2.2.2.2.2.2.1 s.2.2.2.2.2.2.2.2 y hb (Post vf_Sk (res_Sk r)) hin hout) he ?_
 show EE c_Sk_60 K_Sk_60 (s_Sk_60 e.1 e.2.1 e.2.2.1 e.2.2.2.1 e.2.2.2.2.1 e.2.2.2.2.2.1 e.2.2.2.2.2.2.1 e.2.2.2.2.2.2.2) _
 exact ok_Sk_60 e.1 e.2.1 e.2.2.1 e.2.2.2.1 e.2.2.2.2.1 e.2.2.2.2.2.1 e.2.2.2.2.2.2.1 e.2.2.2.2.2.2.2 r hm
theorem ok_Sk_28 (a:Int×Ze) (d:Bool) (r:Ze) (hm:m_Sk_28 a d=some r):EE c_Sk_28 K_Sk_28 (s_Sk_28 a d) (Post vf_Sk (res_Sk r)):=by
 obtain ⟨c,hm⟩|⟨c,hm⟩:=split_ite hm
 ·obtain ⟨b,e,hm⟩:=bind_some hm
  exact gw (ok_Sk_31 _ _ _ _ _ _ _ _ _ r hm) (u1 c<|ta0 a.2.box.tracks a.2.box.packets a.2.index<|wO (.res (res_Sj b))<|wP (ok_Sj a.2 5 b e)<|ta1 b.box.tracks b.box.packets b.index<|wK b.box.tracks.length b.box.packets.length b.index.length<|z0) (by kernel_rfl)
 ·exact gw (ok_Sk_31 _ _ _ _ _ _ _ _ _ r hm) (v1 c<|wK a.2.box.tracks.length a.2.box.packets.length a.2.index.length<|z0) (by kernel_rfl)
theorem ok_Sk_23 (f:LI) (g h i j:Int) (c:LZa) (d:LZb) (e:LZ) (r:Ze) (hm:m_Sk_23 f g h i j c d e=some r):EE c_Sk_23 K_Sk_23 (s_Sk_23 f g h i j c d e) (Post vf_Sk (res_Sk r)):=by
 obtain ⟨a,l,hm⟩:=bind_some hm
 obtain ⟨b,hm⟩|⟨b,hm⟩:=split_ite hm
 ·obtain ⟨k,hm⟩|⟨k,hm⟩:=split_ite hm
  ·exact gw (ok_Sk_28 _ _ r hm) (ta0 c d e<|wO (.res (res_Si a))<|wP (ok_Si (Ze.mk f g h (Zd.mk c d) i j e) a l)<|ta1 a.2.box.tracks a.2.box.packets a.2.index<|u3 b<|u2 k<|u1 b<|u1 k<|u1 b<|wK a.2.box.tracks.length a.2.box.packets.length a.2.index.length<|z0) (by kernel_rfl)
  ·exact gw (ok_Sk_28 _ _ r hm) (ta0 c d e<|wO (.res (res_Si a))<|wP (ok_Si (Ze.mk f g h (Zd.mk c d) i j e) a l)<|ta1 a.2.box.tracks a.2.box.packets a.2.index<|u3 b<|v2 k<|u1 b<|v1 k<|u1 b<|wK a.2.box.tracks.length a.2.box.packets.length a.2.index.length<|z0) (by kernel_rfl)
 ·exact gw (ok_Sk_28 _ _ r hm) (ta0 c d e<|wO (.res (res_Si a))<|wP (ok_Si (Ze.mk f g h (Zd.mk c d) i j e) a l)<|ta1 a.2.box.tracks a.2.box.packets a.2.index<|v4 b<|v1 b<|wK a.2.box.tracks.length a.2.box.packets.length a.2.index.length<|z0) (by kernel_rfl)
theorem ok_Sk_5 (o:Int) (f:LI) (g h i j:Int) (l:LI) (b:LZa) (c:LZb) (d:LZ) (y) (hm:m_Sk_5 o f g h i j l b c d=some y) (Q)
  (hin:∀ s,y=.inl s→EE c_Sk_5 K_Sk_5 (s_Sk_5 s.1 s.2.1 s.2.2.1 s.2.2.2.1 s.2.2.2.2.1 s.2.2.2.2.2.1 s.2.2.2.2.2.2.1 s.2.2.2.2.2.2.2.1 s.2.2.2.2.2.2.2.2.1 s.2.2.2.2.2.2.2.2.2) Q) (hout:∀ e,y=.inr e→O_Sk_5 Q e):EE c_Sk_5 K_Sk_5 (s_Sk_5 o f g h i j l b c d) Q:=by
 obtain ⟨m,hm⟩|⟨m,hm⟩:=split_ite hm
 ·obtain ⟨p,n,hm⟩:=bind_some hm
  obtain ⟨a,q,hm⟩:=bind_some hm
  obtain ⟨k,hm⟩|⟨k,hm⟩:=split_ite hm
  ·exact gw (ok_Sk_19 _ _ _ _ y hm Q hin hout) (u1 m<|wO (.row ((rI .u8) p))<|wP (rd_in rfl n)<|wP (at_row (rI .u8) (rd_get0 n))<|ta0 b c d<|wO (.res (res_Si a))<|wP (ok_Si (Ze.mk f g h (Zd.mk b c) i j d) a q)<|ta1 a.2.box.tracks a.2.box.packets a.2.index<|u4 k<|u1 k<|wK l.length a.2.box.tracks.length a.2.box.packets.length<|wN a.2.index.length<|z0) (by kernel_rfl)
  ·exact gw (ok_Sk_19 _ _ _ _ y hm Q hin hout) (u1 m<|wO (.row ((rI .u8) p))<|wP (rd_in rfl n)<|wP (at_row (rI .u8) (rd_get0 n))<|ta0 b c d<|wO (.res (res_Si a))<|wP (ok_Si (Ze.mk f g h (Zd.mk b c) i j d) a q)<|ta1 a.2.box.tracks a.2.box.packets a.2.index<|v4 k<|v1 k<|wK l.length a.2.box.tracks.length a.2.box.packets.length<|wN a.2.index.length<|z0) (by kernel_rfl)
 ·refine gm c_Sk_23 K_Sk_23 (s_Sk_23 f g h i j b c d) (v1 m<|wK b.length c.length d.length<|z0) ?_ (by kernel_rfl)
  exact hout (f,g,h,i,j,b,c,d) (qj hm).symm
theorem ok_Sk_0 (p0 r:Ze) (hm:m_Sk_0 p0=some r):EE c_Sk_0 K_Sk_0 (s_Sk_0 p0) (Post vf_Sk (res_Sk r)):=by
 refine gm c_Sk_5 K_Sk_5 (s_Sk_5 0 p0.data p0.at_ p0.err p0.due p0.bytes ([66,79,88,49]:LI) p0.box.tracks p0.box.packets p0.index) (wO (.rows (List.map (rI .u8) ([66,79,88,49]:LI)))<|wO (zn 4)<|wO (zn (([66,79,88,49]:LI).length))<|wP (Eq.refl (List.map (rI .u8) ([66,79,88,49]:LI)))<|wP (len_map (rI .u8) (show 4=([66,79,88,49]:LI).length from rfl))<|wP (lens 4 (([66,79,88,49]:LI).length) rfl)<|wK p0.box.tracks.length p0.box.packets.length p0.index.length<|z0) ?_ (by kernel_rfl)
 obtain ⟨e,he,hm⟩:=bind_some hm
 refine loop_rule (u:=.c c_Sk_5) (K:=K_Sk_5) (Q:=(Post vf_Sk (res_Sk r))) (b:=lp_Sk_5) (We:=O_Sk_5 (Post vf_Sk (res_Sk r))) (stJ:=fun s=>s_Sk_5 s.1 s.2.1 s.2.2.1 s.2.2.2.1 s.2.2.2.2.1 s.2.2.2.2.2.1 s.2.2.2.2.2.2.1 s.2.2.2.2.2.2.2.1 s.2.2.2.2.2.2.2.2.1 s.2.2.2.2.2.2.2.2.2) (s:=(0,p0.data,p0.at_,p0.err,p0.due,p0.bytes,([66,79,88,49]:LI),p0.box.tracks,p0.box.packets,p0.index)) (fun s y hb hin hout=>ok_Sk_5 s.1 s.2.1 s.2.2.1 s.2.2.2.1 s.2.2.2.2.1 s.2.2.2.2.2.1 s.2.2.2.2.2.2.1 s.2.2.2.2.2.2.2.1 s.2.2.2.2.2.2.2.2.1 s.2.2.2.2.2.2.2.2.2 y hb (Post vf_Sk (res_Sk r)) hin hout) he ?_
 show EE c_Sk_23 K_Sk_23 (s_Sk_23 e.1 e.2.1 e.2.2.1 e.2.2.2.1 e.2.2.2.2.1 e.2.2.2.2.2.1 e.2.2.2.2.2.2.1 e.2.2.2.2.2.2.2) _
 exact ok_Sk_23 e.1 e.2.1 e.2.2.1 e.2.2.2.1 e.2.2.2.2.1 e.2.2.2.2.2.1 e.2.2.2.2.2.2.1 e.2.2.2.2.2.2.2 r hm
theorem ok_Sk (p0 r:Ze) (hm:m_Sk p0=some r):Runs ext tbl 42 (as_Sk p0) (res_Sk r):=
 runs_of (vf:=vf_Sk) (by kernel_rfl) rfl (st:=(enter vf_Sk (as_Sk p0)).getD default) (by kernel_rfl) (go_on [zn p0.box.tracks.length,zn p0.box.packets.length,zn p0.index.length] 1000 (J (len_map rZb (rfl:p0.box.tracks.length=p0.box.tracks.length)) (J (len_map rZc (rfl:p0.box.packets.length=p0.box.packets.length)) (J (len_map rZa (rfl:p0.index.length=p0.index.length)) J0))) (ok_Sk_0 p0 r hm) (by kernel_rfl))
theorem ok_Sh_0 (r:LI) (hm:m_Sh_0=some r):EE c_Sh_0 K_Sh_0 (s_Sh_0) (Post vf_Sh (res_Sh r)):=by
 exact ge (wO (.rows (List.map (rI .u8) ([27,80,73,69,67,69,10,0]:LI)))<|wO (zn 8)<|wO (.rows (List.map (rI .u8) ([27,80,73,69,67,69,10,0]:LI)))<|wP (Eq.refl (List.map (rI .u8) ([27,80,73,69,67,69,10,0]:LI)))<|wP (len_map (rI .u8) (show 8=([27,80,73,69,67,69,10,0]:LI).length from rfl))<|wP (all_le0 (rI .u8) ([27,80,73,69,67,69,10,0]:LI) rfl)<|wP (all_t (rI .u8) ([27,80,73,69,67,69,10,0]:LI) rfl)<|z0) (congrArg res_Sh (qj hm)) (by kernel_rfl)
theorem ok_Sh (r:LI) (hm:m_Sh=some r):Runs ext tbl 80 (as_Sh) (res_Sh r):=
 runs_of (vf:=vf_Sh) (by kernel_rfl) rfl (st:=(enter vf_Sh (as_Sh)).getD default) (by kernel_rfl) (go_on [] 1000 J0 (ok_Sh_0 r hm) (by kernel_rfl))
def O_Sm_15 (p0:Ze) (Q:VX→St→Prop) (e:((Bool×Ze))⊕((Unit))):Prop:=match e with | .inl e=>Q=Post vf_Sm (res_Sm e) | .inr e=>EE c_Sm_33 K_Sm_33 (s_Sm_33 p0) Q
theorem ok_Sm_33 (p0:Ze) (r:Bool×Ze) (hm:m_Sm_33 p0=some r):EE c_Sm_33 K_Sm_33 (s_Sm_33 p0) (Post vf_Sm (res_Sm r)):=by
 exact ge (ta0 p0.box.tracks p0.box.packets p0.index<|z0) (congrArg res_Sm (qj hm)) (by kernel_rfl)
theorem ok_Sm_15 (p1:LI) (p0:Ze) (f:Int) (y) (hm:m_Sm_15 p1 p0 f=some y) (Q)
  (hin:∀ s,y=.inl s→EE c_Sm_15 K_Sm_15 (s_Sm_15 p1 p0 s) Q) (hout:∀ e,y=.inr e→O_Sm_15 p0 Q e):EE c_Sm_15 K_Sm_15 (s_Sm_15 p1 p0 f) Q:=by
 obtain ⟨a,hm⟩|⟨a,hm⟩:=split_ite hm
 ·obtain ⟨g,b,hm⟩:=bind_some hm
  obtain ⟨h,c,hm⟩:=bind_some hm
  obtain ⟨d,hm⟩|⟨d,hm⟩:=split_ite hm
  ·have hQ:Q=Post vf_Sm (res_Sm (false,p0)):=hout (.inl (false,p0)) (qj hm).symm
   subst hQ
   exact ge (u1 a<|wO (.row ((rI .u8) g))<|wO (.row ((rI .u8) h))<|wP (rd_nn b)<|wP (at_row (rI .u8) (rd_get b))<|wP (rd_nn c)<|wP (at_row (rI .u8) (rd_get c))<|u1 d<|ta0 p0.box.tracks p0.box.packets p0.index<|z0) (rfl:res_Sm (false,p0)=res_Sm (false,p0)) (by kernel_rfl)
  ·exact gw (hin _ (qj hm).symm) (u1 a<|wO (.row ((rI .u8) g))<|wO (.row ((rI .u8) h))<|wP (rd_nn b)<|wP (at_row (rI .u8) (rd_get b))<|wP (rd_nn c)<|wP (at_row (rI .u8) (rd_get c))<|v1 d<|wK p0.box.tracks.length p0.box.packets.length p0.index.length<|z0) (by kernel_rfl)
 ·refine gm c_Sm_33 K_Sm_33 (s_Sm_33 p0) (v1 a<|wK p0.box.tracks.length p0.box.packets.length p0.index.length<|z0) ?_ (by kernel_rfl)
  exact hout (.inr ()) (qj hm).symm
theorem ok_Sm_0 (p1:LI) (p0:Ze) (r:Bool×Ze) (hm:m_Sm_0 p1 p0=some r):EE c_Sm_0 K_Sm_0 (s_Sm_0 p1 p0) (Post vf_Sm (res_Sm r)):=by
 obtain ⟨a,hm⟩|⟨a,hm⟩:=split_ite hm
 ·exact ge (wL (rI .u8) p0.data<|u1 a<|ta0 p0.box.tracks p0.box.packets p0.index<|z0) (congrArg res_Sm (qj hm)) (by kernel_rfl)
 ·refine gm c_Sm_15 K_Sm_15 (s_Sm_15 p1 p0 0) (wL (rI .u8) p0.data<|v1 a<|wL (rI .u8) p1<|wK p0.box.tracks.length p0.box.packets.length p0.index.length<|z0) ?_ (by kernel_rfl)
  obtain ⟨e,he,hm⟩:=bind_some hm
  refine loop_rule (u:=.c c_Sm_15) (K:=K_Sm_15) (Q:=(Post vf_Sm (res_Sm r))) (b:=lp_Sm_15 p1 p0) (We:=O_Sm_15 p0 (Post vf_Sm (res_Sm r))) (stJ:=fun s=>s_Sm_15 p1 p0 s) (s:=0) (fun s y hb hin hout=>ok_Sm_15 p1 p0 s y hb (Post vf_Sm (res_Sm r)) hin hout) he ?_
  rcases e with e | e
  ·exact congrArg (fun r=>Post vf_Sm (res_Sm r)) (qj hm).symm
  ·show EE c_Sm_33 K_Sm_33 (s_Sm_33 p0) _
   exact ok_Sm_33 p0 r hm
theorem ok_Sm (p0:Ze) (p1:LI) (r:Bool×Ze) (hm:m_Sm p0 p1=some r):Runs ext tbl 79 (as_Sm p0 p1) (res_Sm r):=
 runs_of (vf:=vf_Sm) (by kernel_rfl) rfl (st:=(enter vf_Sm (as_Sm p0 p1)).getD default) (by kernel_rfl) (go_on [zn p0.box.tracks.length,zn p0.box.packets.length,zn p0.index.length] 1000 (J (len_map rZb (rfl:p0.box.tracks.length=p0.box.tracks.length)) (J (len_map rZc (rfl:p0.box.packets.length=p0.box.packets.length)) (J (len_map rZa (rfl:p0.index.length=p0.index.length)) J0))) (ok_Sm_0 p1 p0 r hm) (by kernel_rfl))
theorem ok_Su_0 (p0:Int) (r:Bool) (hm:m_Su_0 p0=some r):EE c_Su_0 K_Su_0 (s_Su_0 p0) (Post vf_Su (res_Su r)):=by
 obtain ⟨a,hm⟩|⟨a,hm⟩:=split_ite hm
 ·exact ge (u3 a<|z0) (congrArg res_Su (qj hm)) (by kernel_rfl)
 ·exact ge (v3 a<|z0) (congrArg res_Su (qj hm)) (by kernel_rfl)
theorem ok_Su (p0:Int) (r:Bool) (hm:m_Su p0=some r):Runs ext tbl 127 (as_Su p0) (res_Su r):=
 runs_of (vf:=vf_Su) (by kernel_rfl) rfl (st:=(enter vf_Su (as_Su p0)).getD default) (by kernel_rfl) (go_on [] 1000 J0 (ok_Su_0 p0 r hm) (by kernel_rfl))
def O_So_84 (p0:Ze) (a:Int×Ze) (b:Int) (Q:VX→St→Prop) (e:(LI×Int×Int×Int×Int×LZb×LZa×LZb×LZ)):Prop:=EE c_So_102 K_So_102 (s_So_102 p0 a b e.1 e.2.1 e.2.2.1 e.2.2.2.1 e.2.2.2.2.1 e.2.2.2.2.2.1 e.2.2.2.2.2.2.1 e.2.2.2.2.2.2.2.1 e.2.2.2.2.2.2.2.2) Q
def O_So_39 (p0:Ze) (a:Int×Ze) (Q:VX→St→Prop) (e:(Int×LI×Int×Int×Int×Int×LZb×LI×LZa×LZb×LZ)):Prop:=EE c_So_79 K_So_79 (s_So_79 p0 a e.1 e.2.1 e.2.2.1 e.2.2.2.1 e.2.2.2.2.1 e.2.2.2.2.2.1 e.2.2.2.2.2.2.1 e.2.2.2.2.2.2.2.1 e.2.2.2.2.2.2.2.2.1 e.2.2.2.2.2.2.2.2.2.1 e.2.2.2.2.2.2.2.2.2.2) Q
theorem ok_So_73 (p0:Ze) (i:Int×Ze) (m:Int×Ze) (n o:Int) (f:Int×Ze) (a:Int×Ze) (b:Int×Ze) (c:Int×Ze) (d:Bool) (g:LZb) (h p:LI) (q r t u:Int) (j:LZa) (k:LZb) (l:LZ) (y) (hm:m_So_73 p0 i m n o f a b c d g h p q r t u j k l=some y) (Q)
  (hin:∀ s,y=.inl s→EE c_So_39 K_So_39 (s_So_39 p0 i m s.1 s.2.1 s.2.2.1 s.2.2.2.1 s.2.2.2.2.1 s.2.2.2.2.2.1 s.2.2.2.2.2.2.1 s.2.2.2.2.2.2.2.1 s.2.2.2.2.2.2.2.2.1 s.2.2.2.2.2.2.2.2.2.1 s.2.2.2.2.2.2.2.2.2.2.1 s.2.2.2.2.2.2.2.2.2.2.2) Q) (hout:∀ e,y=.inr e→O_So_39 p0 i Q e):EE c_So_73 K_So_73 (s_So_73 p0 i m n o f a b c d g h p q r t u j k l) Q:=by
 obtain ⟨x,v,hm⟩:=bind_some hm
 obtain ⟨z,w,hm⟩:=bind_some hm
 exact gw (hin _ (qj hm).symm) (wO (.rows (List.map (rI .u8) ([]:LI)))<|wO (.rows (List.map rZc ([(Zc.mk a.1 b.1 c.1 d ([]:LI))]:LZb)))<|wO (zn 1)<|wO (.rows (List.map rZc (g++([(Zc.mk a.1 b.1 c.1 d ([]:LI))]:LZb))))<|wO (zn ((g++([(Zc.mk a.1 b.1 c.1 d ([]:LI))]:LZb)).length))<|wO (.rows (mi ([f.1]:LI)))<|wO (zn 1)<|wO (.rows (mi (h++([f.1]:LI))))<|wO (zn ((h++([f.1]:LI)).length))<|wO (zn ((g++([(Zc.mk a.1 b.1 c.1 d ([]:LI))]:LZb)).length))<|wO (zn ((h++([f.1]:LI)).length))<|wO (zn j.length)<|wO (zn k.length)<|wO (zn l.length)<|wP (all_le0 (rI .u8) ([]:LI) rfl)<|wP (all_t (rI .u8) ([]:LI) rfl)<|wP (Eq.refl (List.map rZc ([(Zc.mk a.1 b.1 c.1 d ([]:LI))]:LZb)))<|wP (len_map rZc (show 1=([(Zc.mk a.1 b.1 c.1 d ([]:LI))]:LZb).length from rfl))<|wP (all_eq rZc ([(Zc.mk a.1 b.1 c.1 d ([]:LI))]:LZb) rfl)<|wP (all_le rZc ([(Zc.mk a.1 b.1 c.1 d ([]:LI))]:LZb) rfl)<|wP (app_ck_ro rZc g ([(Zc.mk a.1 b.1 c.1 d ([]:LI))]:LZb) rfl v)<|wP (app_tell_ro rZc g ([(Zc.mk a.1 b.1 c.1 d ([]:LI))]:LZb) rfl)<|wP (len_map rZc (show (g++([(Zc.mk a.1 b.1 c.1 d ([]:LI))]:LZb)).length=(g++([(Zc.mk a.1 b.1 c.1 d ([]:LI))]:LZb)).length from rfl))<|wP (Eq.refl (mi ([f.1]:LI)))<|wP (len_map (rI .i64) (show 1=([f.1]:LI).length from rfl))<|wP (all_le (rI .i64) ([f.1]:LI) rfl)<|wP (app_ck (rI .i64) h ([f.1]:LI) rfl rfl w)<|wP (app_tell (rI .i64) h ([f.1]:LI) rfl rfl)<|wP (len_map (rI .i64) (show (h++([f.1]:LI)).length=(h++([f.1]:LI)).length from rfl))<|wP (lens ((g++([(Zc.mk a.1 b.1 c.1 d ([]:LI))]:LZb)).length) ((g++([(Zc.mk a.1 b.1 c.1 d ([]:LI))]:LZb)).length) rfl)<|wP (lens ((h++([f.1]:LI)).length) ((h++([f.1]:LI)).length) rfl)<|wP (ln j.length)<|wP (ln k.length)<|wP (ln l.length)<|z0) (by kernel_rfl)
theorem ok_So_70 (p0:Ze) (f:Int×Ze) (i:Int×Ze) (p q:Int) (r:Int×Ze) (j:LI) (k l m n:Int) (t:Int×Ze) (u:Int×Ze) (v:Int×Ze) (w:Bool) (g:LZb) (h:LI) (b:LZa) (c:LZb) (d:LZ) (x:Bool) (y) (hm:m_So_70 p0 f i p q r j k l m n t u v w g h b c d x=some y) (Q)
  (hin:∀ s,y=.inl s→EE c_So_39 K_So_39 (s_So_39 p0 f i s.1 s.2.1 s.2.2.1 s.2.2.2.1 s.2.2.2.2.1 s.2.2.2.2.2.1 s.2.2.2.2.2.2.1 s.2.2.2.2.2.2.2.1 s.2.2.2.2.2.2.2.2.1 s.2.2.2.2.2.2.2.2.2.1 s.2.2.2.2.2.2.2.2.2.2.1 s.2.2.2.2.2.2.2.2.2.2.2) Q) (hout:∀ e,y=.inr e→O_So_39 p0 f Q e):EE c_So_70 K_So_70 (s_So_70 p0 f i p q r j k l m n t u v w g h b c d x) Q:=by
 obtain ⟨o,hm⟩|⟨o,hm⟩:=split_ite hm
 ·obtain ⟨a,z,hm⟩:=bind_some hm
  exact gw (ok_So_73 _ _ _ _ _ _ _ _ _ _ _ _ _ _ _ _ _ _ _ _ y hm Q hin hout) (u1 o<|ta0 b c d<|wO (.res (res_Sj a))<|wP (ok_Sj (Ze.mk j k l (Zd.mk b c) m n d) 7 a z)<|ta1 a.box.tracks a.box.packets a.index<|wK g.length h.length a.box.tracks.length<|wN a.box.packets.length<|wN a.index.length<|wO (zn (([]:LI).length))<|wP (lens (([]:LI).length) (([]:LI).length) rfl)<|z0) (by kernel_rfl)
 ·exact gw (ok_So_73 _ _ _ _ _ _ _ _ _ _ _ _ _ _ _ _ _ _ _ _ y hm Q hin hout) (v1 o<|wK g.length h.length b.length<|wN c.length<|wN d.length<|wO (zn (([]:LI).length))<|wP (lens (([]:LI).length) (([]:LI).length) rfl)<|z0) (by kernel_rfl)
theorem ok_So_67 (p0:Ze) (b:Int×Ze) (i:Int×Ze) (j k:Int) (l:Int×Ze) (m:Int×Ze) (n:Int×Ze) (o:Int×Ze) (p:Bool) (c:LZb) (d q:LI) (r t u v:Int) (f:LZa) (g:LZb) (h:LZ) (y) (hm:m_So_67 p0 b i j k l m n o p c d q r t u v f g h=some y) (Q)
  (hin:∀ s,y=.inl s→EE c_So_39 K_So_39 (s_So_39 p0 b i s.1 s.2.1 s.2.2.1 s.2.2.2.1 s.2.2.2.2.1 s.2.2.2.2.2.1 s.2.2.2.2.2.2.1 s.2.2.2.2.2.2.2.1 s.2.2.2.2.2.2.2.2.1 s.2.2.2.2.2.2.2.2.2.1 s.2.2.2.2.2.2.2.2.2.2.1 s.2.2.2.2.2.2.2.2.2.2.2) Q) (hout:∀ e,y=.inr e→O_So_39 p0 b Q e):EE c_So_67 K_So_67 (s_So_67 p0 b i j k l m n o p c d q r t u v f g h) Q:=by
 obtain ⟨a,hm⟩|⟨a,hm⟩:=split_ite hm
 ·exact gw (ok_So_70 _ _ _ _ _ _ _ _ _ _ _ _ _ _ _ _ _ _ _ _ _ y hm Q hin hout) (u4 a<|u1 a<|wK c.length d.length f.length<|wN g.length<|wN h.length<|wO (zn (([]:LI).length))<|wP (lens (([]:LI).length) (([]:LI).length) rfl)<|z0) (by kernel_rfl)
 ·exact gw (ok_So_70 _ _ _ _ _ _ _ _ _ _ _ _ _ _ _ _ _ _ _ _ _ y hm Q hin hout) (v4 a<|v1 a<|wK c.length d.length f.length<|wN g.length<|wN h.length<|wO (zn (([]:LI).length))<|wP (lens (([]:LI).length) (([]:LI).length) rfl)<|z0) (by kernel_rfl)
theorem ok_So_64 (p0:Ze) (c:Int×Ze) (g:Int×Ze) (i j:Int) (a:Int×Ze) (k:Int×Ze) (l:Int×Ze) (m:Int×Ze) (d:LZb) (f:LI) (n o:Bool) (y) (hm:m_So_64 p0 c g i j a k l m d f n o=some y) (Q)
  (hin:∀ s,y=.inl s→EE c_So_39 K_So_39 (s_So_39 p0 c g s.1 s.2.1 s.2.2.1 s.2.2.2.1 s.2.2.2.2.1 s.2.2.2.2.2.1 s.2.2.2.2.2.2.1 s.2.2.2.2.2.2.2.1 s.2.2.2.2.2.2.2.2.1 s.2.2.2.2.2.2.2.2.2.1 s.2.2.2.2.2.2.2.2.2.2.1 s.2.2.2.2.2.2.2.2.2.2.2) Q) (hout:∀ e,y=.inr e→O_So_39 p0 c Q e):EE c_So_64 K_So_64 (s_So_64 p0 c g i j a k l m d f n o) Q:=by
 obtain ⟨h,hm⟩|⟨h,hm⟩:=split_ite hm
 ·obtain ⟨b,p,hm⟩:=bind_some hm
  exact gw (ok_So_67 _ _ _ _ _ _ _ _ _ _ _ _ _ _ _ _ _ _ _ _ y hm Q hin hout) (u1 h<|ta0 a.2.box.tracks a.2.box.packets a.2.index<|wO (.res (res_Sj b))<|wP (ok_Sj a.2 5 b p)<|ta1 b.box.tracks b.box.packets b.index<|wK d.length f.length b.box.tracks.length<|wN b.box.packets.length<|wN b.index.length<|wO (zn (([]:LI).length))<|wP (lens (([]:LI).length) (([]:LI).length) rfl)<|z0) (by kernel_rfl)
 ·exact gw (ok_So_67 _ _ _ _ _ _ _ _ _ _ _ _ _ _ _ _ _ _ _ _ y hm Q hin hout) (v1 h<|wK d.length f.length a.2.box.tracks.length<|wN a.2.box.packets.length<|wN a.2.index.length<|wO (zn (([]:LI).length))<|wP (lens (([]:LI).length) (([]:LI).length) rfl)<|z0) (by kernel_rfl)
theorem ok_So_110 (c:Int×Ze) (a:Ze) (b:LZb) (d:Int) (r:Int×LZb×Ze) (hm:m_So_110 c a b d=some r):EE c_So_110 K_So_110 (s_So_110 c a b d) (Post vf_So (res_So r)):=by
 exact ge (wR rZc b<|ta0 a.box.tracks a.box.packets a.index<|z0) (congrArg res_So (qj hm)) (by kernel_rfl)
theorem ok_So_102 (p0:Ze) (l:Int×Ze) (m:Int) (e:LI) (f g h i:Int) (j:LZb) (b:LZa) (c:LZb) (d:LZ) (r:Int×LZb×Ze) (hm:m_So_102 p0 l m e f g h i j b c d=some r):EE c_So_102 K_So_102 (s_So_102 p0 l m e f g h i j b c d) (Post vf_So (res_So r)):=by
 obtain ⟨a,n,hm⟩:=bind_some hm
 obtain ⟨k,hm⟩|⟨k,hm⟩:=split_ite hm
 ·exact gw (ok_So_110 _ _ _ _ r hm) (ta0 b c d<|wO (.res (res_Sq a))<|wP (ok_Sq (Ze.mk e f g (Zd.mk b c) h i d) p0.at_ a n)<|ta1 a.box.tracks a.box.packets a.index<|u1 k<|wK j.length a.box.tracks.length a.box.packets.length<|wN a.index.length<|z0) (by kernel_rfl)
 ·exact gw (ok_So_110 _ _ _ _ r hm) (ta0 b c d<|wO (.res (res_Sq a))<|wP (ok_Sq (Ze.mk e f g (Zd.mk b c) h i d) p0.at_ a n)<|ta1 a.box.tracks a.box.packets a.index<|v1 k<|wK j.length a.box.tracks.length a.box.packets.length<|wN a.index.length<|z0) (by kernel_rfl)
theorem ok_So_84 (p0:Ze) (j:Int×Ze) (k:Int) (v:LZb) (q:LI) (d:Int) (l:LI) (m n o p:Int) (c:LZb) (g:LZa) (h:LZb) (i:LZ) (y) (hm:m_So_84 p0 j k v q d l m n o p c g h i=some y) (Q)
  (hin:∀ s,y=.inl s→EE c_So_84 K_So_84 (s_So_84 p0 j k v q s.1 s.2.1 s.2.2.1 s.2.2.2.1 s.2.2.2.2.1 s.2.2.2.2.2.1 s.2.2.2.2.2.2.1 s.2.2.2.2.2.2.2.1 s.2.2.2.2.2.2.2.2.1 s.2.2.2.2.2.2.2.2.2) Q) (hout:∀ e,y=.inr e→O_So_84 p0 j k Q e):EE c_So_84 K_So_84 (s_So_84 p0 j k v q d l m n o p c g h i) Q:=by
 obtain ⟨r,hm⟩|⟨r,hm⟩:=split_ite hm
 ·obtain ⟨a,f,hm⟩:=bind_some hm
  obtain ⟨t,u,hm⟩:=bind_some hm
  obtain ⟨b,z,hm⟩:=bind_some hm
  obtain ⟨B,A,hm⟩:=bind_some hm
  obtain ⟨w,hm⟩|⟨w,hm⟩:=split_ite hm
  ·refine gm c_So_102 K_So_102 (s_So_102 p0 j k b.2.data b.2.at_ b.2.err b.2.due b.2.bytes (c.set (0+Int.toNat d) (Zc.mk a.track a.time a.span a.key (a.data++b.1))) b.2.box.tracks b.2.box.packets b.2.index) (u1 r<|wO (.row (rZc a))<|wP (rd_in rfl f)<|wP (at_row rZc (rd_get0 f))<|wL (rI .u8) a.data<|wO (.row ((rI .i64) t))<|wP (rd_in rfl u)<|wP (at_row (rI .i64) (rd_get0 u))<|ta0 g h i<|wO (.res (res_Sr b))<|wP (ok_Sr (Ze.mk l m n (Zd.mk g h) o p i) t b z)<|ta1 b.2.box.tracks b.2.box.packets b.2.index<|wO (.row (rZc a))<|wO (.rows (List.map (rI .u8) (a.data++b.1)))<|wO (zn ((a.data++b.1).length))<|wO (.rows (List.map (rI .u8) (a.data++b.1)))<|wO (.rows (List.map rZc (c.set (0+Int.toNat d) (Zc.mk a.track a.time a.span a.key (a.data++b.1)))))<|wO zT<|wO (zn ((c.set (0+Int.toNat d) (Zc.mk a.track a.time a.span a.key (a.data++b.1))).length))<|wO (zn b.2.box.tracks.length)<|wO (zn b.2.box.packets.length)<|wO (zn b.2.index.length)<|wP (at_row rZc (rd_get0 f))<|wP (app_ck_ro (rI .u8) a.data b.1 rfl A)<|wP (app_tell_ro (rI .u8) a.data b.1 rfl)<|wP (len_map (rI .u8) (show (a.data++b.1).length=(a.data++b.1).length from rfl))<|wP (rd_in rfl f)<|wP (all_le0 (rI .u8) (a.data++b.1) rfl)<|wP (all_t (rI .u8) (a.data++b.1) rfl)<|wP (put_hole rZc (Zc.mk a.track a.time a.span a.key (a.data++b.1)) 4 4 (.sl ((a.data++b.1).map (rI .u8))) (rd_get0 f) (by kernel_rfl) (by kernel_rfl))<|wP (noPt_of rZc (c.set (0+Int.toNat d) (Zc.mk a.track a.time a.span a.key (a.data++b.1))) 4 (fun x=>⟨_,rfl⟩))<|wP w<|wP (lens c.length ((c.set (0+Int.toNat d) (Zc.mk a.track a.time a.span a.key (a.data++b.1))).length) (set_len rfl))<|wP (ln b.2.box.tracks.length)<|wP (ln b.2.box.packets.length)<|wP (ln b.2.index.length)<|z0) ?_ (by kernel_rfl)
   exact hout (b.2.data,b.2.at_,b.2.err,b.2.due,b.2.bytes,(c.set (0+Int.toNat d) (Zc.mk a.track a.time a.span a.key (a.data++b.1))),b.2.box.tracks,b.2.box.packets,b.2.index) (qj hm).symm
  ·exact gw (hin _ (qj hm).symm) (u1 r<|wO (.row (rZc a))<|wP (rd_in rfl f)<|wP (at_row rZc (rd_get0 f))<|wL (rI .u8) a.data<|wO (.row ((rI .i64) t))<|wP (rd_in rfl u)<|wP (at_row (rI .i64) (rd_get0 u))<|ta0 g h i<|wO (.res (res_Sr b))<|wP (ok_Sr (Ze.mk l m n (Zd.mk g h) o p i) t b z)<|ta1 b.2.box.tracks b.2.box.packets b.2.index<|wO (.row (rZc a))<|wO (.rows (List.map (rI .u8) (a.data++b.1)))<|wO (zn ((a.data++b.1).length))<|wO (.rows (List.map (rI .u8) (a.data++b.1)))<|wO (.rows (List.map rZc (c.set (0+Int.toNat d) (Zc.mk a.track a.time a.span a.key (a.data++b.1)))))<|wO zF<|wO (zn ((c.set (0+Int.toNat d) (Zc.mk a.track a.time a.span a.key (a.data++b.1))).length))<|wO (zn q.length)<|wO (zn b.2.box.tracks.length)<|wO (zn b.2.box.packets.length)<|wO (zn b.2.index.length)<|wP (at_row rZc (rd_get0 f))<|wP (app_ck_ro (rI .u8) a.data b.1 rfl A)<|wP (app_tell_ro (rI .u8) a.data b.1 rfl)<|wP (len_map (rI .u8) (show (a.data++b.1).length=(a.data++b.1).length from rfl))<|wP (rd_in rfl f)<|wP (all_le0 (rI .u8) (a.data++b.1) rfl)<|wP (all_t (rI .u8) (a.data++b.1) rfl)<|wP (put_hole rZc (Zc.mk a.track a.time a.span a.key (a.data++b.1)) 4 4 (.sl ((a.data++b.1).map (rI .u8))) (rd_get0 f) (by kernel_rfl) (by kernel_rfl))<|wP (noPt_of rZc (c.set (0+Int.toNat d) (Zc.mk a.track a.time a.span a.key (a.data++b.1))) 4 (fun x=>⟨_,rfl⟩))<|wP w<|wP (lens c.length ((c.set (0+Int.toNat d) (Zc.mk a.track a.time a.span a.key (a.data++b.1))).length) (set_len rfl))<|wP (ln q.length)<|wP (ln b.2.box.tracks.length)<|wP (ln b.2.box.packets.length)<|wP (ln b.2.index.length)<|z0) (by kernel_rfl)
 ·refine gm c_So_102 K_So_102 (s_So_102 p0 j k l m n o p c g h i) (v1 r<|wK c.length g.length h.length<|wN i.length<|z0) ?_ (by kernel_rfl)
  exact hout (l,m,n,o,p,c,g,h,i) (qj hm).symm
theorem ok_So_79 (p0:Ze) (a:Int×Ze) (d:Int) (k:LI) (l m n o:Int) (f:LZb) (g:LI) (h:LZa) (i:LZb) (j:LZ) (r:Int×LZb×Ze) (hm:m_So_79 p0 a d k l m n o f g h i j=some r):EE c_So_79 K_So_79 (s_So_79 p0 a d k l m n o f g h i j) (Post vf_So (res_So r)):=by
 refine gm c_So_84 K_So_84 (s_So_84 p0 a d f g 0 k l m n o f h i j) (wK f.length g.length h.length<|wN i.length<|wN j.length<|z0) ?_ (by kernel_rfl)
 obtain ⟨e,he,hm⟩:=bind_some hm
 refine loop_rule (u:=.c c_So_84) (K:=K_So_84) (Q:=(Post vf_So (res_So r))) (b:=lp_So_84 p0 a d f g) (We:=O_So_84 p0 a d (Post vf_So (res_So r))) (stJ:=fun s=>s_So_84 p0 a d f g s.1 s.2.1 s.2.2.1 s.2.2.2.1 s.2.2.2.2.1 s.2.2.2.2.2.1 s.2.2.2.2.2.2.1 s.2.2.2.2.2.2.2.1 s.2.2.2.2.2.2.2.2.1 s.2.2.2.2.2.2.2.2.2) (s:=(0,k,l,m,n,o,f,h,i,j)) (fun s y hb hin hout=>ok_So_84 p0 a d f g s.1 s.2.1 s.2.2.1 s.2.2.2.1 s.2.2.2.2.1 s.2.2.2.2.2.1 s.2.2.2.2.2.2.1 s.2.2.2.2.2.2.2.1 s.2.2.2.2.2.2.2.2.1 s.2.2.2.2.2.2.2.2.2 y hb (Post vf_So (res_So r)) hin hout) he ?_
 show EE c_So_102 K_So_102 (s_So_102 p0 a d e.1 e.2.1 e.2.2.1 e.2.2.2.1 e.2.2.2.2.1 e.2.2.2.2.2.1 e.2.2.2.2.2.2.1 e.2.2.2.2.2.2.2.1 e.2.2.2.2.2.2.2.2) _
 exact ok_So_102 p0 a d e.1 e.2.1 e.2.2.1 e.2.2.2.1 e.2.2.2.2.1 e.2.2.2.2.2.1 e.2.2.2.2.2.2.1 e.2.2.2.2.2.2.2.1 e.2.2.2.2.2.2.2.2 r hm
theorem ok_So_39 (p0:Ze) (w:Int×Ze) (H:Int×Ze) (x J:Int) (o:LI) (p q r t:Int) (l:LZb) (m:LI) (h:LZa) (i:LZb) (j:LZ) (y) (hm:m_So_39 p0 w H x J o p q r t l m h i j=some y) (Q)
  (hin:∀ s,y=.inl s→EE c_So_39 K_So_39 (s_So_39 p0 w H s.1 s.2.1 s.2.2.1 s.2.2.2.1 s.2.2.2.2.1 s.2.2.2.2.2.1 s.2.2.2.2.2.2.1 s.2.2.2.2.2.2.2.1 s.2.2.2.2.2.2.2.2.1 s.2.2.2.2.2.2.2.2.2.1 s.2.2.2.2.2.2.2.2.2.2.1 s.2.2.2.2.2.2.2.2.2.2.2) Q) (hout:∀ e,y=.inr e→O_So_39 p0 w Q e):EE c_So_39 K_So_39 (s_So_39 p0 w H x J o p q r t l m h i j) Q:=by
 obtain ⟨k,hm⟩|⟨k,hm⟩:=split_ite hm
 ·obtain ⟨v,hm⟩|⟨v,hm⟩:=split_ite hm
  ·obtain ⟨c,A,hm⟩:=bind_some hm
   obtain ⟨a,B,hm⟩:=bind_some hm
   obtain ⟨b,C,hm⟩:=bind_some hm
   obtain ⟨d,D,hm⟩:=bind_some hm
   obtain ⟨g,E,hm⟩:=bind_some hm
   obtain ⟨f,hm⟩|⟨f,hm⟩:=split_ite hm
   ·obtain ⟨n,hm⟩|⟨n,hm⟩:=split_ite hm
    ·exact gw (ok_So_64 _ _ _ _ _ _ _ _ _ _ _ _ _ y hm Q hin hout) (u4 k<|u2 k<|u1 v<|ta0 h i j<|wO (.res (res_Sn c))<|wP (ok_Sn (Ze.mk o p q (Zd.mk h i) r t j) c A)<|ta1 c.2.box.tracks c.2.box.packets c.2.index<|ta0 c.2.box.tracks c.2.box.packets c.2.index<|wO (.res (res_Sn a))<|wP (ok_Sn c.2 a B)<|ta1 a.2.box.tracks a.2.box.packets a.2.index<|ta0 a.2.box.tracks a.2.box.packets a.2.index<|wO (.res (res_Sn b))<|wP (ok_Sn a.2 b C)<|ta1 b.2.box.tracks b.2.box.packets b.2.index<|ta0 b.2.box.tracks b.2.box.packets b.2.index<|wO (.res (res_Sn d))<|wP (ok_Sn b.2 d D)<|ta1 d.2.box.tracks d.2.box.packets d.2.index<|ta0 d.2.box.tracks d.2.box.packets d.2.index<|wO (.res (res_Sn g))<|wP (ok_Sn d.2 g E)<|ta1 g.2.box.tracks g.2.box.packets g.2.index<|u4 f<|u4 f<|u2 f<|u4 n<|u1 f<|u1 n<|u1 f<|u4 eT<|u1 f<|u1 eT<|u1 f<|u2 eT<|u1 f<|u1 eT<|u1 f<|wK l.length m.length g.2.box.tracks.length<|wN g.2.box.packets.length<|wN g.2.index.length<|wO (zn (([]:LI).length))<|wP (lens 0 (([]:LI).length) rfl)<|z0) (by kernel_rfl)
    ·obtain ⟨z,I,hm⟩:=bind_some hm
     obtain ⟨u,hm⟩|⟨u,hm⟩:=split_ite hm
     ·obtain ⟨G,K,hm⟩:=bind_some hm
      obtain ⟨F,hm⟩|⟨F,hm⟩:=split_ite hm
      ·exact gw (ok_So_64 _ _ _ _ _ _ _ _ _ _ _ _ _ y hm Q hin hout) (u4 k<|u2 k<|u1 v<|ta0 h i j<|wO (.res (res_Sn c))<|wP (ok_Sn (Ze.mk o p q (Zd.mk h i) r t j) c A)<|ta1 c.2.box.tracks c.2.box.packets c.2.index<|ta0 c.2.box.tracks c.2.box.packets c.2.index<|wO (.res (res_Sn a))<|wP (ok_Sn c.2 a B)<|ta1 a.2.box.tracks a.2.box.packets a.2.index<|ta0 a.2.box.tracks a.2.box.packets a.2.index<|wO (.res (res_Sn b))<|wP (ok_Sn a.2 b C)<|ta1 b.2.box.tracks b.2.box.packets b.2.index<|ta0 b.2.box.tracks b.2.box.packets b.2.index<|wO (.res (res_Sn d))<|wP (ok_Sn b.2 d D)<|ta1 d.2.box.tracks d.2.box.packets d.2.index<|ta0 d.2.box.tracks d.2.box.packets d.2.index<|wO (.res (res_Sn g))<|wP (ok_Sn d.2 g E)<|ta1 g.2.box.tracks g.2.box.packets g.2.index<|u4 f<|u4 f<|u2 f<|v3 n<|wO (.res (res_Su z))<|wP (ok_Su a.1 z I)<|v1 n<|u1 f<|v1 n<|u1 f<|v3 (not_f u)<|wO (.res (res_Su G))<|wP (ok_Su b.1 G K)<|v1 (not_f u)<|u1 f<|v1 (not_f u)<|u1 f<|v2 (not_f F)<|u1 f<|v1 (not_f F)<|u1 f<|wK l.length m.length g.2.box.tracks.length<|wN g.2.box.packets.length<|wN g.2.index.length<|wO (zn (([]:LI).length))<|wP (lens 0 (([]:LI).length) rfl)<|z0) (by kernel_rfl)
      ·exact gw (ok_So_64 _ _ _ _ _ _ _ _ _ _ _ _ _ y hm Q hin hout) (u4 k<|u2 k<|u1 v<|ta0 h i j<|wO (.res (res_Sn c))<|wP (ok_Sn (Ze.mk o p q (Zd.mk h i) r t j) c A)<|ta1 c.2.box.tracks c.2.box.packets c.2.index<|ta0 c.2.box.tracks c.2.box.packets c.2.index<|wO (.res (res_Sn a))<|wP (ok_Sn c.2 a B)<|ta1 a.2.box.tracks a.2.box.packets a.2.index<|ta0 a.2.box.tracks a.2.box.packets a.2.index<|wO (.res (res_Sn b))<|wP (ok_Sn a.2 b C)<|ta1 b.2.box.tracks b.2.box.packets b.2.index<|ta0 b.2.box.tracks b.2.box.packets b.2.index<|wO (.res (res_Sn d))<|wP (ok_Sn b.2 d D)<|ta1 d.2.box.tracks d.2.box.packets d.2.index<|ta0 d.2.box.tracks d.2.box.packets d.2.index<|wO (.res (res_Sn g))<|wP (ok_Sn d.2 g E)<|ta1 g.2.box.tracks g.2.box.packets g.2.index<|u4 f<|u4 f<|u2 f<|v3 n<|wO (.res (res_Su z))<|wP (ok_Su a.1 z I)<|v1 n<|u1 f<|v1 n<|u1 f<|v3 (not_f u)<|wO (.res (res_Su G))<|wP (ok_Su b.1 G K)<|v1 (not_f u)<|u1 f<|v1 (not_f u)<|u1 f<|u2 (not_t F)<|u1 f<|u1 (not_t F)<|u1 f<|wK l.length m.length g.2.box.tracks.length<|wN g.2.box.packets.length<|wN g.2.index.length<|wO (zn (([]:LI).length))<|wP (lens 0 (([]:LI).length) rfl)<|z0) (by kernel_rfl)
     ·exact gw (ok_So_64 _ _ _ _ _ _ _ _ _ _ _ _ _ y hm Q hin hout) (u4 k<|u2 k<|u1 v<|ta0 h i j<|wO (.res (res_Sn c))<|wP (ok_Sn (Ze.mk o p q (Zd.mk h i) r t j) c A)<|ta1 c.2.box.tracks c.2.box.packets c.2.index<|ta0 c.2.box.tracks c.2.box.packets c.2.index<|wO (.res (res_Sn a))<|wP (ok_Sn c.2 a B)<|ta1 a.2.box.tracks a.2.box.packets a.2.index<|ta0 a.2.box.tracks a.2.box.packets a.2.index<|wO (.res (res_Sn b))<|wP (ok_Sn a.2 b C)<|ta1 b.2.box.tracks b.2.box.packets b.2.index<|ta0 b.2.box.tracks b.2.box.packets b.2.index<|wO (.res (res_Sn d))<|wP (ok_Sn b.2 d D)<|ta1 d.2.box.tracks d.2.box.packets d.2.index<|ta0 d.2.box.tracks d.2.box.packets d.2.index<|wO (.res (res_Sn g))<|wP (ok_Sn d.2 g E)<|ta1 g.2.box.tracks g.2.box.packets g.2.index<|u4 f<|u4 f<|u2 f<|v3 n<|wO (.res (res_Su z))<|wP (ok_Su a.1 z I)<|v1 n<|u1 f<|v1 n<|u1 f<|u4 (not_t u)<|u1 f<|u1 (not_t u)<|u1 f<|u2 eT<|u1 f<|u1 eT<|u1 f<|wK l.length m.length g.2.box.tracks.length<|wN g.2.box.packets.length<|wN g.2.index.length<|wO (zn (([]:LI).length))<|wP (lens 0 (([]:LI).length) rfl)<|z0) (by kernel_rfl)
   ·exact gw (ok_So_64 _ _ _ _ _ _ _ _ _ _ _ _ _ y hm Q hin hout) (u4 k<|u2 k<|u1 v<|ta0 h i j<|wO (.res (res_Sn c))<|wP (ok_Sn (Ze.mk o p q (Zd.mk h i) r t j) c A)<|ta1 c.2.box.tracks c.2.box.packets c.2.index<|ta0 c.2.box.tracks c.2.box.packets c.2.index<|wO (.res (res_Sn a))<|wP (ok_Sn c.2 a B)<|ta1 a.2.box.tracks a.2.box.packets a.2.index<|ta0 a.2.box.tracks a.2.box.packets a.2.index<|wO (.res (res_Sn b))<|wP (ok_Sn a.2 b C)<|ta1 b.2.box.tracks b.2.box.packets b.2.index<|ta0 b.2.box.tracks b.2.box.packets b.2.index<|wO (.res (res_Sn d))<|wP (ok_Sn b.2 d D)<|ta1 d.2.box.tracks d.2.box.packets d.2.index<|ta0 d.2.box.tracks d.2.box.packets d.2.index<|wO (.res (res_Sn g))<|wP (ok_Sn d.2 g E)<|ta1 g.2.box.tracks g.2.box.packets g.2.index<|v4 f<|v4 f<|v4 f<|v4 f<|wK l.length m.length g.2.box.tracks.length<|wN g.2.box.packets.length<|wN g.2.index.length<|wO (zn (([]:LI).length))<|wP (lens 0 (([]:LI).length) rfl)<|z0) (by kernel_rfl)
  ·refine gm c_So_79 K_So_79 (s_So_79 p0 w x o p q r t l m h i j) (u4 k<|u2 k<|v1 v<|wK l.length m.length h.length<|wN i.length<|wN j.length<|z0) ?_ (by kernel_rfl)
   exact hout (x,o,p,q,r,t,l,m,h,i,j) (qj hm).symm
 ·refine gm c_So_79 K_So_79 (s_So_79 p0 w x o p q r t l m h i j) (v4 k<|v2 k<|v1 eF<|wK l.length m.length h.length<|wN i.length<|wN j.length<|z0) ?_ (by kernel_rfl)
  exact hout (x,o,p,q,r,t,l,m,h,i,j) (qj hm).symm
theorem ok_So_28 (p0:Ze) (a:Int×Ze) (d:Int×Ze) (j:LI) (k l m f:Int) (g:LZa) (h:LZb) (i:LZ) (r:Int×LZb×Ze) (hm:m_So_28 p0 a d j k l m f g h i=some r):EE c_So_28 K_So_28 (s_So_28 p0 a d j k l m f g h i) (Post vf_So (res_So r)):=by
 refine gm c_So_39 K_So_39 (s_So_39 p0 a d f 0 j k l m f ([]:LZb) ([]:LI) g h i) (wO (zn (([]:LZb).length))<|wO (zn (([]:LI).length))<|wP (lens 0 (([]:LZb).length) rfl)<|wP (lens 0 (([]:LI).length) rfl)<|wK g.length h.length i.length<|z0) ?_ (by kernel_rfl)
 obtain ⟨e,he,hm⟩:=bind_some hm
 refine loop_rule (u:=.c c_So_39) (K:=K_So_39) (Q:=(Post vf_So (res_So r))) (b:=lp_So_39 p0 a d) (We:=O_So_39 p0 a (Post vf_So (res_So r))) (stJ:=fun s=>s_So_39 p0 a d s.1 s.2.1 s.2.2.1 s.2.2.2.1 s.2.2.2.2.1 s.2.2.2.2.2.1 s.2.2.2.2.2.2.1 s.2.2.2.2.2.2.2.1 s.2.2.2.2.2.2.2.2.1 s.2.2.2.2.2.2.2.2.2.1 s.2.2.2.2.2.2.2.2.2.2.1 s.2.2.2.2.2.2.2.2.2.2.2) (s:=(f,0,j,k,l,m,f,([]:LZb),([]:LI),g,h,i)) (fun s y hb hin hout=>ok_So_39 p0 a d s.1 s.2.1 s.2.2.1 s.2.2.2.1 s.2.2.2.2.1 s.2.2.2.2.2.1 s.2.2.2.2.2.2.1 s.2.2.2.2.2.2.2.1 s.2.2.2.2.2.2.2.2.1 s.2.2.2.2.2.2.2.2.2.1 s.2.2.2.2.2.2.2.2.2.2.1 s.2.2.2.2.2.2.2.2.2.2.2 y hb (Post vf_So (res_So r)) hin hout) he ?_
 show EE c_So_79 K_So_79 (s_So_79 p0 a e.1 e.2.1 e.2.2.1 e.2.2.2.1 e.2.2.2.2.1 e.2.2.2.2.2.1 e.2.2.2.2.2.2.1 e.2.2.2.2.2.2.2.1 e.2.2.2.2.2.2.2.2.1 e.2.2.2.2.2.2.2.2.2.1 e.2.2.2.2.2.2.2.2.2.2) _
 exact ok_So_79 p0 a e.1 e.2.1 e.2.2.1 e.2.2.2.1 e.2.2.2.2.1 e.2.2.2.2.2.1 e.2.2.2.2.2.2.1 e.2.2.2.2.2.2.2.1 e.2.2.2.2.2.2.2.2.1 e.2.2.2.2.2.2.2.2.2.1 e.2.2.2.2.2.2.2.2.2.2 r hm
theorem ok_So_25 (p0:Ze) (k:Int×Ze) (l:Int×Ze) (e:LI) (f g h i:Int) (b:LZa) (c:LZb) (d:LZ) (m:Bool) (r:Int×LZb×Ze) (hm:m_So_25 p0 k l e f g h i b c d m=some r):EE c_So_25 K_So_25 (s_So_25 p0 k l e f g h i b c d m) (Post vf_So (res_So r)):=by
 obtain ⟨j,hm⟩|⟨j,hm⟩:=split_ite hm
 ·obtain ⟨a,n,hm⟩:=bind_some hm
  exact gw (ok_So_28 _ _ _ _ _ _ _ _ _ _ _ r hm) (u1 j<|ta0 b c d<|wO (.res (res_Sj a))<|wP (ok_Sj (Ze.mk e f g (Zd.mk b c) h i d) 7 a n)<|ta1 a.box.tracks a.box.packets a.index<|wK a.box.tracks.length a.box.packets.length a.index.length<|z0) (by kernel_rfl)
 ·exact gw (ok_So_28 _ _ _ _ _ _ _ _ _ _ _ r hm) (v1 j<|wK b.length c.length d.length<|z0) (by kernel_rfl)
theorem ok_So_22 (p0:Ze) (e:Int×Ze) (f:Int×Ze) (g:LI) (h i j k:Int) (b:LZa) (c:LZb) (d:LZ) (r:Int×LZb×Ze) (hm:m_So_22 p0 e f g h i j k b c d=some r):EE c_So_22 K_So_22 (s_So_22 p0 e f g h i j k b c d) (Post vf_So (res_So r)):=by
 obtain ⟨a,hm⟩|⟨a,hm⟩:=split_ite hm
 ·exact gw (ok_So_25 _ _ _ _ _ _ _ _ _ _ _ _ r hm) (u4 a<|u4 a<|u2 a<|wK b.length c.length d.length<|z0) (by kernel_rfl)
 ·exact gw (ok_So_25 _ _ _ _ _ _ _ _ _ _ _ _ r hm) (v4 a<|v4 a<|v2 a<|wK b.length c.length d.length<|z0) (by kernel_rfl)
theorem ok_So_19 (p0:Ze) (d:Int×Ze) (a:Int×Ze) (e:Bool) (r:Int×LZb×Ze) (hm:m_So_19 p0 d a e=some r):EE c_So_19 K_So_19 (s_So_19 p0 d a e) (Post vf_So (res_So r)):=by
 obtain ⟨c,hm⟩|⟨c,hm⟩:=split_ite hm
 ·obtain ⟨b,f,hm⟩:=bind_some hm
  exact gw (ok_So_22 _ _ _ _ _ _ _ _ _ _ _ r hm) (u1 c<|ta0 a.2.box.tracks a.2.box.packets a.2.index<|wO (.res (res_Sj b))<|wP (ok_Sj a.2 5 b f)<|ta1 b.box.tracks b.box.packets b.index<|wK b.box.tracks.length b.box.packets.length b.index.length<|z0) (by kernel_rfl)
 ·exact gw (ok_So_22 _ _ _ _ _ _ _ _ _ _ _ r hm) (v1 c<|wK a.2.box.tracks.length a.2.box.packets.length a.2.index.length<|z0) (by kernel_rfl)
theorem ok_So_14 (p0:Ze) (m:Int×Ze) (f:LI) (g h i j:Int) (c:LZa) (d:LZb) (e:LZ) (r:Int×LZb×Ze) (hm:m_So_14 p0 m f g h i j c d e=some r):EE c_So_14 K_So_14 (s_So_14 p0 m f g h i j c d e) (Post vf_So (res_So r)):=by
 obtain ⟨a,l,hm⟩:=bind_some hm
 obtain ⟨b,hm⟩|⟨b,hm⟩:=split_ite hm
 ·obtain ⟨k,hm⟩|⟨k,hm⟩:=split_ite hm
  ·exact gw (ok_So_19 _ _ _ _ r hm) (ta0 c d e<|wO (.res (res_Sn a))<|wP (ok_Sn (Ze.mk f g h (Zd.mk c d) i j e) a l)<|ta1 a.2.box.tracks a.2.box.packets a.2.index<|u3 b<|u2 k<|u1 b<|u1 k<|u1 b<|wK a.2.box.tracks.length a.2.box.packets.length a.2.index.length<|z0) (by kernel_rfl)
  ·exact gw (ok_So_19 _ _ _ _ r hm) (ta0 c d e<|wO (.res (res_Sn a))<|wP (ok_Sn (Ze.mk f g h (Zd.mk c d) i j e) a l)<|ta1 a.2.box.tracks a.2.box.packets a.2.index<|u3 b<|v2 k<|u1 b<|v1 k<|u1 b<|wK a.2.box.tracks.length a.2.box.packets.length a.2.index.length<|z0) (by kernel_rfl)
 ·exact gw (ok_So_19 _ _ _ _ r hm) (ta0 c d e<|wO (.res (res_Sn a))<|wP (ok_Sn (Ze.mk f g h (Zd.mk c d) i j e) a l)<|ta1 a.2.box.tracks a.2.box.packets a.2.index<|v4 b<|v1 b<|wK a.2.box.tracks.length a.2.box.packets.length a.2.index.length<|z0) (by kernel_rfl)
theorem ok_So_11 (p0:Ze) (a:Int×Ze) (d:Bool) (r:Int×LZb×Ze) (hm:m_So_11 p0 a d=some r):EE c_So_11 K_So_11 (s_So_11 p0 a d) (Post vf_So (res_So r)):=by
 obtain ⟨c,hm⟩|⟨c,hm⟩:=split_ite hm
 ·obtain ⟨b,e,hm⟩:=bind_some hm
  exact gw (ok_So_14 _ _ _ _ _ _ _ _ _ _ r hm) (u1 c<|ta0 a.2.box.tracks a.2.box.packets a.2.index<|wO (.res (res_Sj b))<|wP (ok_Sj a.2 6 b e)<|ta1 b.box.tracks b.box.packets b.index<|wK b.box.tracks.length b.box.packets.length b.index.length<|z0) (by kernel_rfl)
 ·exact gw (ok_So_14 _ _ _ _ _ _ _ _ _ _ r hm) (v1 c<|wK a.2.box.tracks.length a.2.box.packets.length a.2.index.length<|z0) (by kernel_rfl)
theorem ok_So_0 (p1:Int) (p0:Ze) (r:Int×LZb×Ze) (hm:m_So_0 p1 p0=some r):EE c_So_0 K_So_0 (s_So_0 p1 p0) (Post vf_So (res_So r)):=by
 obtain ⟨a,c,hm⟩:=bind_some hm
 obtain ⟨b,hm⟩|⟨b,hm⟩:=split_ite hm
 ·obtain ⟨d,hm⟩|⟨d,hm⟩:=split_ite hm
  ·exact gw (ok_So_11 _ _ _ r hm) (ta0 p0.box.tracks p0.box.packets p0.index<|wO (.res (res_Sn a))<|wP (ok_Sn (Ze.mk p0.data (w64 (p0.at_+8)) p0.err p0.box p0.due p0.bytes p0.index) a c)<|ta1 a.2.box.tracks a.2.box.packets a.2.index<|u3 b<|u4 d<|wK a.2.box.tracks.length a.2.box.packets.length a.2.index.length<|z0) (by kernel_rfl)
  ·exact gw (ok_So_11 _ _ _ r hm) (ta0 p0.box.tracks p0.box.packets p0.index<|wO (.res (res_Sn a))<|wP (ok_Sn (Ze.mk p0.data (w64 (p0.at_+8)) p0.err p0.box p0.due p0.bytes p0.index) a c)<|ta1 a.2.box.tracks a.2.box.packets a.2.index<|u3 b<|v4 d<|wK a.2.box.tracks.length a.2.box.packets.length a.2.index.length<|z0) (by kernel_rfl)
 ·exact gw (ok_So_11 _ _ _ r hm) (ta0 p0.box.tracks p0.box.packets p0.index<|wO (.res (res_Sn a))<|wP (ok_Sn (Ze.mk p0.data (w64 (p0.at_+8)) p0.err p0.box p0.due p0.bytes p0.index) a c)<|ta1 a.2.box.tracks a.2.box.packets a.2.index<|v3 b<|v4 eF<|wK a.2.box.tracks.length a.2.box.packets.length a.2.index.length<|z0) (by kernel_rfl)
theorem ok_So (p0:Ze) (p1:Int) (r:Int×LZb×Ze) (hm:m_So p0 p1=some r):Runs ext tbl 81 (as_So p0 p1) (res_So r):=
 runs_of (vf:=vf_So) (by kernel_rfl) rfl (st:=(enter vf_So (as_So p0 p1)).getD default) (by kernel_rfl) (go_on [zn p0.box.tracks.length,zn p0.box.packets.length,zn p0.index.length] 1000 (J (len_map rZb (rfl:p0.box.tracks.length=p0.box.tracks.length)) (J (len_map rZc (rfl:p0.box.packets.length=p0.box.packets.length)) (J (len_map rZa (rfl:p0.index.length=p0.index.length)) J0))) (ok_So_0 p1 p0 r hm) (by kernel_rfl))
def O_Sp_26 (a:Int×LZb×Ze) (Q:VX→St→Prop) (e:(Int×LZ)):Prop:=EE c_Sp_42 K_Sp_42 (s_Sp_42 a e.1 e.2) Q
def O_Sp_2 (Q:VX→St→Prop) (e:Ze):Prop:=Q=Post vf_Sp (res_Sp e)
theorem ok_Sp_42 (a:Int×LZb×Ze) (c:Int) (b:LZ) (y) (hm:m_Sp_42 a c b=some y) (Q)
  (hin:∀ s,y=.inl s→EE c_Sp_2 K_Sp_2 (s_Sp_2 s.1 s.2.1 s.2.2.1 s.2.2.2.1 s.2.2.2.2.1 s.2.2.2.2.2.1 s.2.2.2.2.2.2.1 s.2.2.2.2.2.2.2) Q) (hout:∀ e,y=.inr e→O_Sp_2 Q e):EE c_Sp_42 K_Sp_42 (s_Sp_42 a c b) Q:=by
 obtain ⟨f,d,hm⟩:=bind_some hm
 exact gw (hin _ (qj hm).symm) (wO (.rows (List.map rZc (a.2.2.box.packets++a.2.1)))<|wO (zn ((a.2.2.box.packets++a.2.1).length))<|wP (all_eq rZc a.2.1 rfl)<|wP (all_le rZc a.2.1 rfl)<|wP (app_ck_ro rZc a.2.2.box.packets a.2.1 rfl d)<|wP (app_tell_ro rZc a.2.2.box.packets a.2.1 rfl)<|wP (len_map rZc (show (a.2.2.box.packets++a.2.1).length=(a.2.2.box.packets++a.2.1).length from rfl))<|wN a.2.2.box.tracks.length<|wO (zn ((a.2.2.box.packets++a.2.1).length))<|wP (lens ((a.2.2.box.packets++a.2.1).length) ((a.2.2.box.packets++a.2.1).length) rfl)<|wN b.length<|z0) (by kernel_rfl)
theorem ok_Sp_26 (c:Bool×Ze) (b:Int×LZb×Ze) (j f:Int) (d:LZ) (y) (hm:m_Sp_26 c b j f d=some y) (Q)
  (hin:∀ s,y=.inl s→EE c_Sp_26 K_Sp_26 (s_Sp_26 c b s.1 s.2.1 s.2.2) Q) (hout:∀ e,y=.inr e→O_Sp_26 b Q e):EE c_Sp_26 K_Sp_26 (s_Sp_26 c b j f d) Q:=by
 obtain ⟨g,hm⟩|⟨g,hm⟩:=split_ite hm
 ·obtain ⟨a,h,hm⟩:=bind_some hm
  obtain ⟨i,hm⟩|⟨i,hm⟩:=split_ite hm
  ·obtain ⟨l,k,hm⟩:=bind_some hm
   exact gw (hin _ (qj hm).symm) (u1 g<|wO (.row (rZc a))<|wP (rd_in rfl h)<|wP (at_row rZc (rd_get0 h))<|wL (rI .u8) a.data<|u1 i<|wO (.rows (List.map rZa ([(Za.mk a.track a.time c.2.at_)]:LZ)))<|wO (zn 1)<|wO (.rows (List.map rZa (d++([(Za.mk a.track a.time c.2.at_)]:LZ))))<|wO (zn ((d++([(Za.mk a.track a.time c.2.at_)]:LZ)).length))<|wO (zn b.2.1.length)<|wO (zn b.2.1.length)<|wO (zn b.2.2.box.tracks.length)<|wO (zn b.2.2.box.packets.length)<|wO (zn ((d++([(Za.mk a.track a.time c.2.at_)]:LZ)).length))<|wP (Eq.refl (List.map rZa ([(Za.mk a.track a.time c.2.at_)]:LZ)))<|wP (len_map rZa (show 1=([(Za.mk a.track a.time c.2.at_)]:LZ).length from rfl))<|wP (all_le rZa ([(Za.mk a.track a.time c.2.at_)]:LZ) rfl)<|wP (app_ck rZa d ([(Za.mk a.track a.time c.2.at_)]:LZ) rfl rfl k)<|wP (app_tell rZa d ([(Za.mk a.track a.time c.2.at_)]:LZ) rfl rfl)<|wP (len_map rZa (show (d++([(Za.mk a.track a.time c.2.at_)]:LZ)).length=(d++([(Za.mk a.track a.time c.2.at_)]:LZ)).length from rfl))<|wP (ln b.2.1.length)<|wP (ln b.2.1.length)<|wP (ln b.2.2.box.tracks.length)<|wP (ln b.2.2.box.packets.length)<|wP (lens ((d++([(Za.mk a.track a.time c.2.at_)]:LZ)).length) ((d++([(Za.mk a.track a.time c.2.at_)]:LZ)).length) rfl)<|z0) (by kernel_rfl)
  ·exact gw (hin _ (qj hm).symm) (u1 g<|wO (.row (rZc a))<|wP (rd_in rfl h)<|wP (at_row rZc (rd_get0 h))<|wL (rI .u8) a.data<|v1 i<|wK b.2.1.length b.2.1.length b.2.2.box.tracks.length<|wN b.2.2.box.packets.length<|wN d.length<|z0) (by kernel_rfl)
 ·refine gm c_Sp_42 K_Sp_42 (s_Sp_42 b f d) (v1 g<|wK b.2.1.length b.2.2.box.tracks.length b.2.2.box.packets.length<|wN d.length<|z0) ?_ (by kernel_rfl)
  exact hout (f,d) (qj hm).symm
theorem ok_Sp_2 (k:LI) (l m n o:Int) (g:LZa) (h:LZb) (i:LZ) (y) (hm:m_Sp_2 k l m n o g h i=some y) (Q)
  (hin:∀ s,y=.inl s→EE c_Sp_2 K_Sp_2 (s_Sp_2 s.1 s.2.1 s.2.2.1 s.2.2.2.1 s.2.2.2.2.1 s.2.2.2.2.2.1 s.2.2.2.2.2.2.1 s.2.2.2.2.2.2.2) Q) (hout:∀ e,y=.inr e→O_Sp_2 Q e):EE c_Sp_2 K_Sp_2 (s_Sp_2 k l m n o g h i) Q:=by
 obtain ⟨j,hm⟩|⟨j,hm⟩:=split_ite hm
 ·obtain ⟨f,q,hm⟩:=bind_some hm
  obtain ⟨a,r,hm⟩:=bind_some hm
  obtain ⟨p,hm⟩|⟨p,hm⟩:=split_ite hm
  ·obtain ⟨d,v,hm⟩:=bind_some hm
   obtain ⟨t,hm⟩|⟨t,hm⟩:=split_ite hm
   ·have hQ:Q=Post vf_Sp (res_Sp d.2.2):=hout d.2.2 (qj hm).symm
    subst hQ
    exact ge (u2 j<|wO (.res (res_Sh f))<|wP (ok_Sh  f q)<|wL (rI .u8) f<|u1 j<|wO (.rows (List.map (rI .u8) f))<|wP (all_le (rI .u8) f rfl)<|wP (all_dt (rI .u8) f rfl)<|ta0 g h i<|wO (.res (res_Sm a))<|wP (ok_Sm (Ze.mk k l m (Zd.mk g h) n o i) f a r)<|ta1 a.2.box.tracks a.2.box.packets a.2.index<|u1 j<|u1 p<|ta0 a.2.box.tracks a.2.box.packets a.2.index<|wO (.res (res_So d))<|wP (ok_So a.2 a.2.due d v)<|ta1 d.2.2.box.tracks d.2.2.box.packets d.2.2.index<|wL rZc d.2.1<|u1 t<|ta0 d.2.2.box.tracks d.2.2.box.packets d.2.2.index<|z0) (rfl:res_Sp d.2.2=res_Sp d.2.2) (by kernel_rfl)
   ·refine gm c_Sp_26 K_Sp_26 (s_Sp_26 a d 0 (w64 (d.2.2.due+1)) d.2.2.index) (u2 j<|wO (.res (res_Sh f))<|wP (ok_Sh  f q)<|wL (rI .u8) f<|u1 j<|wO (.rows (List.map (rI .u8) f))<|wP (all_le (rI .u8) f rfl)<|wP (all_dt (rI .u8) f rfl)<|ta0 g h i<|wO (.res (res_Sm a))<|wP (ok_Sm (Ze.mk k l m (Zd.mk g h) n o i) f a r)<|ta1 a.2.box.tracks a.2.box.packets a.2.index<|u1 j<|u1 p<|ta0 a.2.box.tracks a.2.box.packets a.2.index<|wO (.res (res_So d))<|wP (ok_So a.2 a.2.due d v)<|ta1 d.2.2.box.tracks d.2.2.box.packets d.2.2.index<|wL rZc d.2.1<|v1 t<|wK d.2.1.length d.2.1.length d.2.2.box.tracks.length<|wN d.2.2.box.packets.length<|wN d.2.2.index.length<|z0) ?_ (by kernel_rfl)
    obtain ⟨e,he,hm⟩:=bind_some hm
    refine loop_rule (u:=.c c_Sp_26) (K:=K_Sp_26) (Q:=Q) (b:=lp_Sp_26 a d) (We:=O_Sp_26 d Q) (stJ:=fun s=>s_Sp_26 a d s.1 s.2.1 s.2.2) (s:=(0,(w64 (d.2.2.due+1)),d.2.2.index)) (fun s y hb hin hout=>ok_Sp_26 a d s.1 s.2.1 s.2.2 y hb Q hin hout) he ?_
    show EE c_Sp_42 K_Sp_42 (s_Sp_42 d e.1 e.2) _
    exact ok_Sp_42 d e.1 e.2 y hm Q hin hout
  ·have hQ:Q=Post vf_Sp (res_Sp a.2):=hout a.2 (qj hm).symm
   subst hQ
   exact ge (u2 j<|wO (.res (res_Sh f))<|wP (ok_Sh  f q)<|wL (rI .u8) f<|u1 j<|wO (.rows (List.map (rI .u8) f))<|wP (all_le (rI .u8) f rfl)<|wP (all_dt (rI .u8) f rfl)<|ta0 g h i<|wO (.res (res_Sm a))<|wP (ok_Sm (Ze.mk k l m (Zd.mk g h) n o i) f a r)<|ta1 a.2.box.tracks a.2.box.packets a.2.index<|u1 j<|v1 p<|ta0 a.2.box.tracks a.2.box.packets a.2.index<|z0) (rfl:res_Sp a.2=res_Sp a.2) (by kernel_rfl)
 ·have hQ:Q=Post vf_Sp (res_Sp (Ze.mk k l m (Zd.mk g h) n o i)):=hout (Ze.mk k l m (Zd.mk g h) n o i) (qj hm).symm
  subst hQ
  exact ge (v4 j<|v1 eF<|ta0 g h i<|z0) (rfl:res_Sp (Ze.mk k l m (Zd.mk g h) n o i)=res_Sp (Ze.mk k l m (Zd.mk g h) n o i)) (by kernel_rfl)
theorem ok_Sp_0 (p0 r:Ze) (hm:m_Sp_0 p0=some r):EE c_Sp_0 K_Sp_0 (s_Sp_0 p0) (Post vf_Sp (res_Sp r)):=by
 refine gm c_Sp_2 K_Sp_2 (s_Sp_2 p0.data p0.at_ p0.err p0.due p0.bytes p0.box.tracks p0.box.packets p0.index) (wK p0.box.tracks.length p0.box.packets.length p0.index.length<|z0) ?_ (by kernel_rfl)
 obtain ⟨e,he,hm⟩:=bind_some hm
 refine loop_rule (u:=.c c_Sp_2) (K:=K_Sp_2) (Q:=(Post vf_Sp (res_Sp r))) (b:=lp_Sp_2) (We:=O_Sp_2 (Post vf_Sp (res_Sp r))) (stJ:=fun s=>s_Sp_2 s.1 s.2.1 s.2.2.1 s.2.2.2.1 s.2.2.2.2.1 s.2.2.2.2.2.1 s.2.2.2.2.2.2.1 s.2.2.2.2.2.2.2) (s:=(p0.data,p0.at_,p0.err,p0.due,p0.bytes,p0.box.tracks,p0.box.packets,p0.index)) (fun s y hb hin hout=>ok_Sp_2 s.1 s.2.1 s.2.2.1 s.2.2.2.1 s.2.2.2.2.1 s.2.2.2.2.2.1 s.2.2.2.2.2.2.1 s.2.2.2.2.2.2.2 y hb (Post vf_Sp (res_Sp r)) hin hout) he ?_
 exact congrArg (fun r=>Post vf_Sp (res_Sp r)) (qj hm).symm
theorem ok_Sp (p0 r:Ze) (hm:m_Sp p0=some r):Runs ext tbl 43 (as_Sp p0) (res_Sp r):=
 runs_of (vf:=vf_Sp) (by kernel_rfl) rfl (st:=(enter vf_Sp (as_Sp p0)).getD default) (by kernel_rfl) (go_on [zn p0.box.tracks.length,zn p0.box.packets.length,zn p0.index.length] 1000 (J (len_map rZb (rfl:p0.box.tracks.length=p0.box.tracks.length)) (J (len_map rZc (rfl:p0.box.packets.length=p0.box.packets.length)) (J (len_map rZa (rfl:p0.index.length=p0.index.length)) J0))) (ok_Sp_0 p0 r hm) (by kernel_rfl))
theorem ok_Sg_0 (r:LI) (hm:m_Sg_0=some r):EE c_Sg_0 K_Sg_0 (s_Sg_0) (Post vf_Sg (res_Sg r)):=by
 exact ge (wO (.rows (List.map (rI .u8) ([27,73,78,68,69,88,10,0]:LI)))<|wO (zn 8)<|wO (.rows (List.map (rI .u8) ([27,73,78,68,69,88,10,0]:LI)))<|wP (Eq.refl (List.map (rI .u8) ([27,73,78,68,69,88,10,0]:LI)))<|wP (len_map (rI .u8) (show 8=([27,73,78,68,69,88,10,0]:LI).length from rfl))<|wP (all_le0 (rI .u8) ([27,73,78,68,69,88,10,0]:LI) rfl)<|wP (all_t (rI .u8) ([27,73,78,68,69,88,10,0]:LI) rfl)<|z0) (congrArg res_Sg (qj hm)) (by kernel_rfl)
theorem ok_Sg (r:LI) (hm:m_Sg=some r):Runs ext tbl 109 (as_Sg) (res_Sg r):=
 runs_of (vf:=vf_Sg) (by kernel_rfl) rfl (st:=(enter vf_Sg (as_Sg)).getD default) (by kernel_rfl) (go_on [] 1000 J0 (ok_Sg_0 r hm) (by kernel_rfl))
def O_Sw_7 (p0:LZa) (Q:VX→St→Prop) (e:(Bool)⊕((Unit))):Prop:=match e with | .inl e=>Q=Post vf_Sw (res_Sw e) | .inr e=>EE c_Sw_25 K_Sw_25 (s_Sw_25 p0) Q
theorem ok_Sw_25 (p0:LZa) (r:Bool) (hm:m_Sw_25 p0=some r):EE c_Sw_25 K_Sw_25 (s_Sw_25 p0) (Post vf_Sw (res_Sw r)):=by
 obtain ⟨a,hm⟩|⟨a,hm⟩:=split_ite hm
 ·exact ge (wL rZb p0<|u2 a<|wL rZb p0<|u2 a<|z0) (congrArg res_Sw (qj hm)) (by kernel_rfl)
 ·exact ge (wL rZb p0<|v4 a<|z0) (congrArg res_Sw (qj hm)) (by kernel_rfl)
theorem ok_Sw_7 (p0:LZa) (g:Int) (y) (hm:m_Sw_7 p0 g=some y) (Q)
  (hin:∀ s,y=.inl s→EE c_Sw_7 K_Sw_7 (s_Sw_7 p0 s) Q) (hout:∀ e,y=.inr e→O_Sw_7 p0 Q e):EE c_Sw_7 K_Sw_7 (s_Sw_7 p0 g) Q:=by
 obtain ⟨a,hm⟩|⟨a,hm⟩:=split_ite hm
 ·obtain ⟨b,c,hm⟩:=bind_some hm
  obtain ⟨d,h,hm⟩:=bind_some hm
  obtain ⟨f,hm⟩|⟨f,hm⟩:=split_ite hm
  ·exact gw (hin _ (qj hm).symm) (u1 a<|wO (.row (rZb b))<|wO (.res (res_Sv d))<|wP (rd_nn c)<|wP (at_row rZb (rd_get c))<|wP (ok_Sv b d h)<|v1 (not_f f)<|z0) (by kernel_rfl)
  ·have hQ:Q=Post vf_Sw (res_Sw false):=hout (.inl false) (qj hm).symm
   subst hQ
   exact ge (u1 a<|wO (.row (rZb b))<|wO (.res (res_Sv d))<|wP (rd_nn c)<|wP (at_row rZb (rd_get c))<|wP (ok_Sv b d h)<|u1 (not_t f)<|z0) (rfl:res_Sw false=res_Sw false) (by kernel_rfl)
 ·refine gm c_Sw_25 K_Sw_25 (s_Sw_25 p0) (v1 a<|z0) ?_ (by kernel_rfl)
  exact hout (.inr ()) (qj hm).symm
theorem ok_Sw_0 (p0:LZa) (r:Bool) (hm:m_Sw_0 p0=some r):EE c_Sw_0 K_Sw_0 (s_Sw_0 p0) (Post vf_Sw (res_Sw r)):=by
 refine gm c_Sw_7 K_Sw_7 (s_Sw_7 p0 0) (wL rZb p0<|z0) ?_ (by kernel_rfl)
 obtain ⟨e,he,hm⟩:=bind_some hm
 refine loop_rule (u:=.c c_Sw_7) (K:=K_Sw_7) (Q:=(Post vf_Sw (res_Sw r))) (b:=lp_Sw_7 p0) (We:=O_Sw_7 p0 (Post vf_Sw (res_Sw r))) (stJ:=fun s=>s_Sw_7 p0 s) (s:=0) (fun s y hb hin hout=>ok_Sw_7 p0 s y hb (Post vf_Sw (res_Sw r)) hin hout) he ?_
 rcases e with e | e
 ·exact congrArg (fun r=>Post vf_Sw (res_Sw r)) (qj hm).symm
 ·show EE c_Sw_25 K_Sw_25 (s_Sw_25 p0) _
  exact ok_Sw_25 p0 r hm
theorem ok_Sw (p0:LZa) (r:Bool) (hm:m_Sw p0=some r):Runs ext tbl 142 (as_Sw p0) (res_Sw r):=
 runs_of (vf:=vf_Sw) (by kernel_rfl) rfl (st:=(enter vf_Sw (as_Sw p0)).getD default) (by kernel_rfl) (go_on [] 1000 J0 (ok_Sw_0 p0 r hm) (by kernel_rfl))
def O_St_36 (Q:VX→St→Prop) (e:(Bool)⊕((Unit))):Prop:=match e with | .inl e=>Q=Post vf_St (res_St e) | .inr e=>EE c_St_74 K_St_74 (s_St_74) Q
def O_St_17 (p0:Zd) (Q:VX→St→Prop) (e:(LI)):Prop:=EE c_St_29 K_St_29 (s_St_29 p0 e) Q
theorem ok_St_62 (f:Int) (p0:Zd) (g:Int) (a:Zc) (b:LI) (y) (hm:m_St_62 f p0 g a b=some y) (Q)
  (hin:∀ s,y=.inl s→EE c_St_36 K_St_36 (s_St_36 p0 s.1 s.2.1 s.2.2) Q) (hout:∀ e,y=.inr e→O_St_36 Q e):EE c_St_62 K_St_62 (s_St_62 f p0 g a b) Q:=by
 obtain ⟨h,c,hm⟩:=bind_some hm
 obtain ⟨d,hm⟩|⟨d,hm⟩:=split_ite hm
 ·have hQ:Q=Post vf_St (res_St false):=hout (.inl false) (qj hm).symm
  subst hQ
  exact ge (wO (.rows (mi (b.set (0+Int.toNat a.track) a.time)))<|wP (rd_in rfl c)<|wP (put_ob (rI .i64) a.time 0 (.lit (vI a.time)) (rd_get0 c) (by kernel_rfl) (by kernel_rfl))<|wL (rI .u8) a.data<|u1 d<|z0) (rfl:res_St false=res_St false) (by kernel_rfl)
 ·exact gw (hin _ (qj hm).symm) (wO (.rows (mi (b.set (0+Int.toNat a.track) a.time)))<|wP (rd_in rfl c)<|wP (put_ob (rI .i64) a.time 0 (.lit (vI a.time)) (rd_get0 c) (by kernel_rfl) (by kernel_rfl))<|wL (rI .u8) a.data<|v1 d<|wO (zn ((b.set (0+Int.toNat a.track) a.time).length))<|wP (lens b.length ((b.set (0+Int.toNat a.track) a.time).length) (set_len rfl))<|z0) (by kernel_rfl)
theorem ok_St_74 (r:Bool) (hm:m_St_74=some r):EE c_St_74 K_St_74 (s_St_74) (Post vf_St (res_St r)):=by
 exact ge (z0) (congrArg res_St (qj hm)) (by kernel_rfl)
theorem ok_St_36 (p0:Zd) (t u:Int) (q:LI) (y) (hm:m_St_36 p0 t u q=some y) (Q)
  (hin:∀ s,y=.inl s→EE c_St_36 K_St_36 (s_St_36 p0 s.1 s.2.1 s.2.2) Q) (hout:∀ e,y=.inr e→O_St_36 Q e):EE c_St_36 K_St_36 (s_St_36 p0 t u q) Q:=by
 obtain ⟨j,hm⟩|⟨j,hm⟩:=split_ite hm
 ·obtain ⟨b,d,hm⟩:=bind_some hm
  obtain ⟨a,hm⟩|⟨a,hm⟩:=split_ite hm
  ·have hQ:Q=Post vf_St (res_St false):=hout (.inl false) (qj hm).symm
   subst hQ
   exact ge (u1 j<|wO (.row (rZc b))<|wP (rd_nn d)<|wP (at_row rZc (rd_get d))<|u4 a<|u3 a<|u4 eT<|u4 eT<|u3 eT<|z0) (rfl:res_St false=res_St false) (by kernel_rfl)
  ·obtain ⟨f,hm⟩|⟨f,hm⟩:=split_ite hm
   ·have hQ:Q=Post vf_St (res_St false):=hout (.inl false) (qj hm).symm
    subst hQ
    exact ge (u1 j<|wO (.row (rZc b))<|wP (rd_nn d)<|wP (at_row rZc (rd_get d))<|v4 a<|v1 a<|wL rZb p0.tracks<|v2 a<|u4 f<|u1 f<|u4 eT<|u2 eT<|z0) (rfl:res_St false=res_St false) (by kernel_rfl)
   ·obtain ⟨i,n,hm⟩:=bind_some hm
    obtain ⟨h,hm⟩|⟨h,hm⟩:=split_ite hm
    ·obtain ⟨k,p,hm⟩:=bind_some hm
     obtain ⟨o,hm⟩|⟨o,hm⟩:=split_ite hm
     ·obtain ⟨l,g,hm⟩:=bind_some hm
      obtain ⟨c,hm⟩|⟨c,hm⟩:=split_ite hm
      ·have hQ:Q=Post vf_St (res_St false):=hout (.inl false) (qj hm).symm
       subst hQ
       exact ge (u1 j<|wO (.row (rZc b))<|wP (rd_nn d)<|wP (at_row rZc (rd_get d))<|v4 a<|v1 a<|wL rZb p0.tracks<|v2 a<|v3 f<|wO (.res (res_Su i))<|wP (ok_Su b.time i n)<|v2 f<|v3 (not_f h)<|wO (.res (res_Su k))<|wP (ok_Su b.span k p)<|v2 (not_f h)<|v1 (not_f o)<|wO (.row ((rI .i64) l))<|wP (rd_in rfl g)<|wP (at_row (rI .i64) (rd_get0 g))<|u4 c<|u4 c<|u1 c<|u1 eT<|z0) (rfl:res_St false=res_St false) (by kernel_rfl)
      ·obtain ⟨m,hm⟩|⟨m,hm⟩:=split_ite hm
       ·obtain ⟨r,hm⟩|⟨r,hm⟩:=split_ite hm
        ·exact gw (ok_St_62 _ _ _ _ _ y hm Q hin hout) (u1 j<|wO (.row (rZc b))<|wP (rd_nn d)<|wP (at_row rZc (rd_get d))<|v4 a<|v1 a<|wL rZb p0.tracks<|v2 a<|v3 f<|wO (.res (res_Su i))<|wP (ok_Su b.time i n)<|v2 f<|v3 (not_f h)<|wO (.res (res_Su k))<|wP (ok_Su b.span k p)<|v2 (not_f h)<|v1 (not_f o)<|wO (.row ((rI .i64) l))<|wP (rd_in rfl g)<|wP (at_row (rI .i64) (rd_get0 g))<|v4 c<|wP (rd_in rfl g)<|v1 c<|wO (.row ((rI .i64) l))<|wP (at_row (rI .i64) (rd_get0 g))<|v2 c<|u3 m<|v1 c<|u1 m<|v1 c<|v1 (not_f r)<|wN q.length<|z0) (by kernel_rfl)
        ·have hQ:Q=Post vf_St (res_St false):=hout (.inl false) (qj hm).symm
         subst hQ
         exact ge (u1 j<|wO (.row (rZc b))<|wP (rd_nn d)<|wP (at_row rZc (rd_get d))<|v4 a<|v1 a<|wL rZb p0.tracks<|v2 a<|v3 f<|wO (.res (res_Su i))<|wP (ok_Su b.time i n)<|v2 f<|v3 (not_f h)<|wO (.res (res_Su k))<|wP (ok_Su b.span k p)<|v2 (not_f h)<|v1 (not_f o)<|wO (.row ((rI .i64) l))<|wP (rd_in rfl g)<|wP (at_row (rI .i64) (rd_get0 g))<|v4 c<|wP (rd_in rfl g)<|v1 c<|wO (.row ((rI .i64) l))<|wP (at_row (rI .i64) (rd_get0 g))<|v2 c<|u3 m<|v1 c<|u1 m<|v1 c<|u1 (not_t r)<|z0) (rfl:res_St false=res_St false) (by kernel_rfl)
       ·exact gw (ok_St_62 _ _ _ _ _ y hm Q hin hout) (u1 j<|wO (.row (rZc b))<|wP (rd_nn d)<|wP (at_row rZc (rd_get d))<|v4 a<|v1 a<|wL rZb p0.tracks<|v2 a<|v3 f<|wO (.res (res_Su i))<|wP (ok_Su b.time i n)<|v2 f<|v3 (not_f h)<|wO (.res (res_Su k))<|wP (ok_Su b.span k p)<|v2 (not_f h)<|v1 (not_f o)<|wO (.row ((rI .i64) l))<|wP (rd_in rfl g)<|wP (at_row (rI .i64) (rd_get0 g))<|v4 c<|wP (rd_in rfl g)<|v1 c<|wO (.row ((rI .i64) l))<|wP (at_row (rI .i64) (rd_get0 g))<|v2 c<|v3 m<|v1 c<|v1 m<|v1 c<|v1 eF<|wN q.length<|z0) (by kernel_rfl)
     ·have hQ:Q=Post vf_St (res_St false):=hout (.inl false) (qj hm).symm
      subst hQ
      exact ge (u1 j<|wO (.row (rZc b))<|wP (rd_nn d)<|wP (at_row rZc (rd_get d))<|v4 a<|v1 a<|wL rZb p0.tracks<|v2 a<|v3 f<|wO (.res (res_Su i))<|wP (ok_Su b.time i n)<|v2 f<|v3 (not_f h)<|wO (.res (res_Su k))<|wP (ok_Su b.span k p)<|v2 (not_f h)<|u1 (not_t o)<|z0) (rfl:res_St false=res_St false) (by kernel_rfl)
    ·have hQ:Q=Post vf_St (res_St false):=hout (.inl false) (qj hm).symm
     subst hQ
     exact ge (u1 j<|wO (.row (rZc b))<|wP (rd_nn d)<|wP (at_row rZc (rd_get d))<|v4 a<|v1 a<|wL rZb p0.tracks<|v2 a<|v3 f<|wO (.res (res_Su i))<|wP (ok_Su b.time i n)<|v2 f<|u4 (not_t h)<|u1 (not_t h)<|u1 eT<|z0) (rfl:res_St false=res_St false) (by kernel_rfl)
 ·refine gm c_St_74 K_St_74 (s_St_74) (v1 j<|z0) ?_ (by kernel_rfl)
  exact hout (.inr ()) (qj hm).symm
theorem ok_St_29 (p0:Zd) (a:LI) (r:Bool) (hm:m_St_29 p0 a=some r):EE c_St_29 K_St_29 (s_St_29 p0 a) (Post vf_St (res_St r)):=by
 refine gm c_St_36 K_St_36 (s_St_36 p0 0 0 a) (wL rZc p0.packets<|wN a.length<|z0) ?_ (by kernel_rfl)
 obtain ⟨e,he,hm⟩:=bind_some hm
 refine loop_rule (u:=.c c_St_36) (K:=K_St_36) (Q:=(Post vf_St (res_St r))) (b:=lp_St_36 p0) (We:=O_St_36 (Post vf_St (res_St r))) (stJ:=fun s=>s_St_36 p0 s.1 s.2.1 s.2.2) (s:=(0,0,a)) (fun s y hb hin hout=>ok_St_36 p0 s.1 s.2.1 s.2.2 y hb (Post vf_St (res_St r)) hin hout) he ?_
 rcases e with e | e
 ·exact congrArg (fun r=>Post vf_St (res_St r)) (qj hm).symm
 ·show EE c_St_74 K_St_74 (s_St_74) _
  exact ok_St_74 r hm
end Go.Proofs.V
