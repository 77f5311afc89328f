import Derived.Test.YtcppkjgbnhcikaaFnExactMakeIndexV3
import Derived.Test.YtcppkjgbnhcikaaProg
import Derived.KernelRfl
set_option linter.unusedVariables false
set_option maxRecDepth 100000
namespace Go.Proofs.V
open Go
def c_Lg_12:VC:=
 .ite (.s 11) (.skip) (.exit 0)
def c_Lg_18:VC:=
 .r 4 [M 12 4,
  {op:=.bin 13 .add (.s 12) (.k (.int .i64 1))},
  M 4 13]
def c_Lg_15:VC:=
 .seq (.blk 1 (.r 5 [M 14 3,
  M 15 4,
  M 16 0,
  M 17 4,
  oX 18 16 17 1,
  oL 19 18 1,
  oX 20 14 15 1,
  oS 20 19 1])) c_Lg_18
def c_Lg_9:VC:=
 .seq (.seq (.r 3 [M 8 4,
  M 9 0,
  {op:=.len 10 (.s 9)},
  {op:=.bin 11 .lss (.s 8) (.s 10)}]) c_Lg_12) c_Lg_15
def c_Lg_7:VC:=
 .blk 0 (.loop [0,3,4] c_Lg_9)
def c_Lg_19:VC:=
 .seq (.r 6 [M 21 3,
  M 2 21]) (.ret)
def c_Lg_4:VC:=
 .seq (.seq (.r 2 [oN 4 0]) c_Lg_7) (.kp [3] c_Lg_19)
def c_Lg_2:VC:=
 .seq (.r 1 [M 5 0,
  {op:=.len 6 (.s 5)},
  {op:=.mk 7 (.s 6) [.sc] [(.int .u8 0)] 140737488355328},
  M 3 7]) c_Lg_4
def c_Lg_0:VC:=
 .seq (.r 0 [{op:=.nil 2 [.sc]}]) c_Lg_2
def vf_Lg:VF:={ pm:=[.ro [.ro [.sc]]],rm:=[.v [.own [.sc]]],nslots:=22,res:=[2],rc:=[],code:=.kp [0] c_Lg_0 }
def c_Sg_2:VC:=
 .ite (.s 8) (.r 1 [M 9 0,
  M 10 1,
  {op:=.nck 11 (.s 9)},
  oF 12 11 2,
  oS 12 10 1]) (.skip)
def c_Sg_0:VC:=
 .seq (.r 0 [M 4 0,
  {op:=.nck 5 (.s 4)},
  oF 6 5 2,
  oL 7 6 1,
  {op:=.bin 8 .eql (.s 7) (.k (.int .i64 0))}]) c_Sg_2
def vf_Sg:VF:={ pm:=[.mb [.ro [.sc],.sc,.sc,.own q3,.own [.sc,.sc,.sc,.sc,.own [.sc]],.sc,.sc,.own q3],.ro [.sc]],rm:=[],nslots:=13,res:=[],rc:=[],code:=.kp [0,1] c_Sg_0 }
def c_Sn_5:VC:=
 .ite (.s 23) (.r 2 [M 24 0,
  {op:=.call 25 94 [(.s 24),(.k (.int .i64 2))]}]) (.skip)
def c_Sn_11:VC:=
 .ite (.s 30) (.seq (.r 4 [{op:=.nil 4 [.sc]}]) (.pre [.fz 4 0] (.ret))) (.skip)
def c_Sn_18:VC:=
 .seq (.d 6 [(0,M 39 0),
  (1,{op:=.nckv 40 (.s 39)}),
  (2,oG 41 40 0),
  (3,oV 42 41 1),
  (4,M 43 0),
  (5,{op:=.nckv 44 (.s 43)}),
  (6,oG 45 44 1),
  (7,oV 46 45 1),
  (8,M 47 1),
  (9,{op:=.bin 48 .sub (.s 46) (.s 47)}),
  (10,M 49 0),
  (11,{op:=.nckv 50 (.s 49)}),
  (12,oG 51 50 1),
  (13,oV 52 51 1),
  (14,{op:=.slc 53 (.s 42) (some (.s 48)) (some (.s 52)) 1}),
  (15,M 4 53)]) (.ret)
def c_Sn_16:VC:=
 .seq (.r 5 [M 31 0,
  {op:=.nck 32 (.s 31)},
  oF 33 32 1,
  oL 34 33 1,
  M 35 1,
  {op:=.bin 36 .add (.s 34) (.s 35)},
  {op:=.nck 37 (.s 31)},
  oF 38 37 1,
  oS 38 36 1]) c_Sn_18
def c_Sn_8:VC:=
 .seq (.seq (.r 3 [M 26 0,
  {op:=.nck 27 (.s 26)},
  oF 28 27 2,
  oL 29 28 1,
  {op:=.bin 30 .neq (.s 29) (.k (.int .i64 0))}]) c_Sn_11) c_Sn_16
def c_Sn_2:VC:=
 .seq (.seq (.d 1 [(0,M 5 0),
  (1,{op:=.nckv 6 (.s 5)}),
  (2,oG 7 6 2),
  (3,oV 8 7 1),
  (4,{op:=.bin 9 .eql (.s 8) (.k (.int .i64 0))}),
  (5,M 10 9),
  (6,⟨none,[],some (10,true),.mv 11 (.s 1)⟩),
  (7,⟨none,[],some (10,true),.mv 12 (.s 0)⟩),
  (8,⟨none,[],some (10,true),.nckv 13 (.s 12)⟩),
  (9,⟨none,[],some (10,true),.fadv 14 (.s 13) 0⟩),
  (10,⟨none,[],some (10,true),.ldv 15 (.s 14) 1 false⟩),
  (11,⟨none,[],some (10,true),.len 16 (.s 15)⟩),
  (12,⟨none,[],some (10,true),.mv 17 (.s 0)⟩),
  (13,⟨none,[],some (10,true),.nckv 18 (.s 17)⟩),
  (14,⟨none,[],some (10,true),.fadv 19 (.s 18) 1⟩),
  (15,⟨none,[],some (10,true),.ldv 20 (.s 19) 1 false⟩),
  (16,⟨none,[],some (10,true),.bin 21 .sub (.s 16) (.s 20)⟩),
  (17,⟨none,[],some (10,true),.bin 22 .gtr (.s 11) (.s 21)⟩),
  (18,{op:=.pick 23 (.s 10) (.s 22) (.k (.bool false))})]) (.kp [0,1,23] c_Sn_5)) (.kp [0,1] c_Sn_8)
def c_Sn_0:VC:=
 .seq (.r 0 [{op:=.nil 4 [.sc]}]) c_Sn_2
def vf_Sn:VF:={ pm:=[.mb [.ro [.sc],.sc,.sc,.own q3,.own [.sc,.sc,.sc,.sc,.own [.sc]],.sc,.sc,.own q3],.ro [.sc]],rm:=[.v [.ro [.sc]]],nslots:=54,res:=[4],rc:=[],code:=.kp [0,1] c_Sn_0 }
def c_Sf_7:VC:=
 .ite (.s 10) (.seq (.r 3 [oN 2 0]) (.ret)) (.skip)
def c_Sf_12:VC:=
 .seq (.r 4 [M 11 3,
  {op:=.iadr 12 (.s 11) (.k (.int .i64 0)) 1},
  oL 13 12 1,
  {op:=.conv 14 .i64 (.s 13)},
  M 2 14]) (.ret)
def c_Sf_4:VC:=
 .seq (.seq (.r 2 [M 6 0,
  {op:=.nck 7 (.s 6)},
  oF 8 7 2,
  oL 9 8 1,
  {op:=.bin 10 .neq (.s 9) (.k (.int .i64 0))}]) c_Sf_7) c_Sf_12
def c_Sf_2:VC:=
 .seq (.r 1 [M 4 0,
  {op:=.call 5 96 [(.s 4),(.k (.int .i64 1))]},
  M 3 5]) c_Sf_4
def c_Sf_0:VC:=
 .seq (.r 0 [oN 2 0]) c_Sf_2
def vf_Sf:VF:={ pm:=[.mb [.ro [.sc],.sc,.sc,.own q3,.own [.sc,.sc,.sc,.sc,.own [.sc]],.sc,.sc,.own q3]],rm:=[.v [.sc]],nslots:=15,res:=[2],rc:=[],code:=.kp [0] c_Sf_0 }
def c_Sb_5:VC:=
 .ite (.s 9) (.seq (.r 2 [{op:=.bld 10 [.k (.bool false),.k (.int .u64 0),.k (.int .i64 0)] []},
  oS 4 10 3]) (.ret)) (.skip)
def c_Sb_20:VC:=
 .ite (.s 12) (.skip) (.exit 0)
def c_Sb_28:VC:=
 .ite (.s 27) (.seq (.r 8 [{op:=.bld 28 [.k (.bool false),.k (.int .u64 0),.k (.int .i64 0)] []},
  oS 4 28 3]) (.ret)) (.skip)
def c_Sb_38:VC:=
 .ite (.s 41) (.seq (.r 11 [{op:=.bld 42 [.k (.bool false),.k (.int .u64 0),.k (.int .i64 0)] []},
  oS 4 42 3]) (.ret)) (.skip)
def c_Sb_51:VC:=
 .ite (.s 58) (.seq (.r 15 [{op:=.bld 59 [.k (.bool false),.k (.int .u64 0),.k (.int .i64 0)] []},
  oS 4 59 3]) (.ret)) (.skip)
def c_Sb_56:VC:=
 .seq (.r 16 [M 60 5,
  M 61 1,
  M 62 6,
  {op:=.bin 63 .add (.s 61) (.s 62)},
  {op:=.bin 64 .add (.s 63) (.k (.int .i64 1))},
  {op:=.bld 65 [.k (.bool false),.k (.int .u64 0),.k (.int .i64 0)] [(0,1,(.k (.bool true))),(1,1,(.s 60)),(2,1,(.s 64))]},
  oS 4 65 3]) (.ret)
def c_Sb_47:VC:=
 .ite (.s 52) (.seq (.seq (.r 14 [M 53 7,
  {op:=.bin 54 .eql (.s 53) (.k (.int .u64 0))},
  M 55 54,
  ⟨none,[],some (55,true),.mv 56 (.s 6)⟩,
  ⟨none,[],some (55,true),.bin 57 .gtr (.s 56) (.k (.int .i64 0))⟩,
  {op:=.pick 58 (.s 55) (.s 57) (.k (.bool false))}]) (.kp [1,4,5,6,58] c_Sb_51)) c_Sb_56) (.skip)
def c_Sb_45:VC:=
 .seq (.r 13 [M 51 7,
  {op:=.bin 52 .lss (.s 51) (.k (.int .u64 128))}]) c_Sb_47
def c_Sb_43:VC:=
 .seq (.r 12 [M 43 5,
  M 44 7,
  {op:=.bin 45 .rem (.s 44) (.k (.int .u64 128))},
  M 46 6,
  {op:=.bin 47 .mul (.k (.int .i64 7)) (.s 46)},
  {op:=.conv 48 .u64 (.s 47)},
  {op:=.bin 49 .shl (.s 45) (.s 48)},
  {op:=.bin 50 .or (.s 43) (.s 49)},
  M 5 50]) c_Sb_45
def c_Sb_35:VC:=
 .seq (.seq (.r 10 [M 36 6,
  {op:=.bin 37 .eql (.s 36) (.k (.int .i64 9))},
  M 38 37,
  ⟨none,[],some (38,true),.mv 39 (.s 7)⟩,
  ⟨none,[],some (38,true),.bin 40 .gtr (.s 39) (.k (.int .u64 1))⟩,
  {op:=.pick 41 (.s 38) (.s 40) (.k (.bool false))}]) (.kp [0,1,4,5,6,7,41] c_Sb_38)) c_Sb_43
def c_Sb_33:VC:=
 .seq (.r 9 [M 29 0,
  M 30 1,
  M 31 6,
  {op:=.bin 32 .add (.s 30) (.s 31)},
  oX 33 29 32 1,
  oL 34 33 1,
  {op:=.conv 35 .u64 (.s 34)},
  M 7 35]) c_Sb_35
def c_Sb_60:VC:=
 .r 6 [M 13 6,
  {op:=.bin 14 .add (.s 13) (.k (.int .i64 1))},
  M 6 14]
def c_Sb_23:VC:=
 .seq (.blk 1 (.seq (.seq (.r 7 [M 15 1,
  M 16 0,
  {op:=.len 17 (.s 16)},
  {op:=.bin 18 .geq (.s 15) (.s 17)},
  M 19 18,
  ⟨none,[],some (19,false),.mv 20 (.s 6)⟩,
  ⟨none,[],some (19,false),.mv 21 (.s 0)⟩,
  ⟨none,[],some (19,false),.len 22 (.s 21)⟩,
  ⟨none,[],some (19,false),.bin 23 .sub (.s 22) (.k (.int .i64 1))⟩,
  ⟨none,[],some (19,false),.mv 24 (.s 1)⟩,
  ⟨none,[],some (19,false),.bin 25 .sub (.s 23) (.s 24)⟩,
  ⟨none,[],some (19,false),.bin 26 .gtr (.s 20) (.s 25)⟩,
  {op:=.pick 27 (.s 19) (.k (.bool true)) (.s 26)}]) (.kp [0,1,4,5,6,27] c_Sb_28)) c_Sb_33)) c_Sb_60
def c_Sb_17:VC:=
 .seq (.seq (.r 5 [M 11 6,
  {op:=.bin 12 .lss (.s 11) (.k (.int .i64 10))}]) c_Sb_20) c_Sb_23
def c_Sb_15:VC:=
 .blk 0 (.loop [0,1,4,5,6] c_Sb_17)
def c_Sb_61:VC:=
 .seq (.r 17 [{op:=.bld 66 [.k (.bool false),.k (.int .u64 0),.k (.int .i64 0)] []},
  oS 4 66 3]) (.ret)
def c_Sb_12:VC:=
 .seq (.seq (.r 4 [oN 6 0]) c_Sb_15) (.kp [4] c_Sb_61)
def c_Sb_10:VC:=
 .seq (.r 3 [{op:=.mv 5 (.k (.int .u64 0))}]) c_Sb_12
def c_Sb_2:VC:=
 .seq (.seq (.r 1 [M 8 1,
  {op:=.bin 9 .lss (.s 8) (.k (.int .i64 0))}]) c_Sb_5) c_Sb_10
def c_Sb_0:VC:=
 .seq (.r 0 [{op:=.alloc 4 [.k (.bool false),.k (.int .u64 0),.k (.int .i64 0)]}]) c_Sb_2
def vf_Sb:VF:={ pm:=[.ro [.ro [.sc]],.ro [.sc]],rm:=[.v q3],nslots:=67,res:=[4],rc:=[some (3,true)],code:=.kp [0,1] c_Sb_0 }
def c_Sj_5:VC:=
 .ite (.s 9) (.seq (.r 2 [oN 2 0]) (.ret)) (.skip)
def c_Sj_24:VC:=
 .ite (.s 51) (.skip) (.exit 0)
def c_Sj_27:VC:=
 .blk 1 (.r 7 [M 52 4,
  {op:=.bin 53 .add (.s 52) (.k (.int .i64 1))},
  M 4 53])
def c_Sj_21:VC:=
 .seq (.seq (.r 6 [M 26 4,
  M 27 0,
  {op:=.nck 28 (.s 27)},
  oF 29 28 0,
  oL 30 29 1,
  {op:=.len 31 (.s 30)},
  {op:=.bin 32 .lss (.s 26) (.s 31)},
  M 33 32,
  ⟨none,[],some (33,true),.mv 34 (.s 4)⟩,
  ⟨none,[],some (33,true),.mv 35 (.s 0)⟩,
  ⟨none,[],some (33,true),.nck 36 (.s 35)⟩,
  ⟨none,[],some (33,true),.fadr 37 (.s 36) 1⟩,
  ⟨none,[],some (33,true),.ld 38 (.s 37) 1 false⟩,
  ⟨none,[],some (33,true),.bin 39 .add (.s 38) (.k (.int .i64 10))⟩,
  ⟨none,[],some (33,true),.bin 40 .lss (.s 34) (.s 39)⟩,
  {op:=.pick 41 (.s 33) (.s 40) (.k (.bool false))},
  M 42 41,
  ⟨none,[],some (42,true),.mv 43 (.s 0)⟩,
  ⟨none,[],some (42,true),.nck 44 (.s 43)⟩,
  ⟨none,[],some (42,true),.fadr 45 (.s 44) 0⟩,
  ⟨none,[],some (42,true),.ld 46 (.s 45) 1 false⟩,
  ⟨none,[],some (42,true),.mv 47 (.s 4)⟩,
  ⟨none,[],some (42,true),.iadr 48 (.s 46) (.s 47) 1⟩,
  ⟨none,[],some (42,true),.ld 49 (.s 48) 1 false⟩,
  ⟨none,[],some (42,true),.bin 50 .geq (.s 49) (.k (.int .u8 128))⟩,
  {op:=.pick 51 (.s 42) (.s 50) (.k (.bool false))}]) c_Sj_24) c_Sj_27
def c_Sj_32:VC:=
 .ite (.s 69) (.r 9 [M 70 0,
  {op:=.call 71 94 [(.s 70),(.k (.int .i64 2))]}]) (.r 10 [M 72 0,
  {op:=.call 73 94 [(.s 72),(.k (.int .i64 5))]}])
def c_Sj_35:VC:=
 .seq (.r 11 [oN 2 0]) (.ret)
def c_Sj_29:VC:=
 .seq (.seq (.r 8 [M 54 4,
  M 55 0,
  {op:=.nck 56 (.s 55)},
  oF 57 56 0,
  oL 58 57 1,
  {op:=.len 59 (.s 58)},
  {op:=.bin 60 .eql (.s 54) (.s 59)},
  M 61 60,
  ⟨none,[],some (61,true),.mv 62 (.s 4)⟩,
  ⟨none,[],some (61,true),.mv 63 (.s 0)⟩,
  ⟨none,[],some (61,true),.nck 64 (.s 63)⟩,
  ⟨none,[],some (61,true),.fadr 65 (.s 64) 1⟩,
  ⟨none,[],some (61,true),.ld 66 (.s 65) 1 false⟩,
  ⟨none,[],some (61,true),.bin 67 .add (.s 66) (.k (.int .i64 10))⟩,
  ⟨none,[],some (61,true),.bin 68 .lss (.s 62) (.s 67)⟩,
  {op:=.pick 69 (.s 61) (.s 68) (.k (.bool false))}]) (.kp [0,69] c_Sj_32)) c_Sj_35
def c_Sj_18:VC:=
 .seq (.blk 0 (.loop [0,4] c_Sj_21)) (.kp [0,4] c_Sj_29)
def c_Sj_15:VC:=
 .ite (.s 21) (.seq (.r 5 [M 22 0,
  {op:=.nck 23 (.s 22)},
  oF 24 23 1,
  oL 25 24 1,
  M 4 25]) c_Sj_18) (.skip)
def c_Sj_45:VC:=
 .seq (.r 14 [oN 2 0]) (.ret)
def c_Sj_42:VC:=
 .ite (.s 76) (.seq (.r 13 [M 77 0,
  {op:=.call 78 94 [(.s 77),(.k (.int .i64 5))]}]) c_Sj_45) (.skip)
def c_Sj_51:VC:=
 .seq (.r 16 [oF 84 3 1,
  oL 85 84 1,
  {op:=.conv 86 .i64 (.s 85)},
  M 2 86]) (.ret)
def c_Sj_49:VC:=
 .seq (.r 15 [M 79 0,
  oF 80 3 2,
  oL 81 80 1,
  {op:=.nck 82 (.s 79)},
  oF 83 82 1,
  oS 83 81 1]) c_Sj_51
def c_Sj_39:VC:=
 .seq (.seq (.r 12 [oF 74 3 1,
  oL 75 74 1,
  {op:=.bin 76 .gtr (.s 75) (.k (.int .u64 4611686018427387904))}]) c_Sj_42) c_Sj_49
def c_Sj_12:VC:=
 .seq (.seq (.r 4 [oF 19 3 0,
  oL 20 19 1,
  {op:=.un 21 .not (.s 20)}]) c_Sj_15) c_Sj_39
def c_Sj_10:VC:=
 .seq (.d 3 [(0,M 10 0),
  (1,{op:=.nckv 11 (.s 10)}),
  (2,oG 12 11 0),
  (3,oV 13 12 1),
  (4,M 14 0),
  (5,{op:=.nckv 15 (.s 14)}),
  (6,oG 16 15 1),
  (7,oV 17 16 1),
  (8,{op:=.call 18 138 [(.s 13),(.s 17)]}),
  (9,{op:=.alloc 3 [.k (.bool false),.k (.int .u64 0),.k (.int .i64 0)]}),
  (10,oS 3 18 3)]) c_Sj_12
def c_Sj_2:VC:=
 .seq (.seq (.r 1 [M 5 0,
  {op:=.nck 6 (.s 5)},
  oF 7 6 2,
  oL 8 7 1,
  {op:=.bin 9 .neq (.s 8) (.k (.int .i64 0))}]) c_Sj_5) c_Sj_10
def c_Sj_0:VC:=
 .seq (.r 0 [oN 2 0]) c_Sj_2
def vf_Sj:VF:={ pm:=[.mb [.ro [.sc],.sc,.sc,.own q3,.own [.sc,.sc,.sc,.sc,.own [.sc]],.sc,.sc,.own q3]],rm:=[.v [.sc]],nslots:=87,res:=[2],rc:=[],code:=.kp [0] c_Sj_0 }
def c_Sd_10:VC:=
 .ite (.s 7) (.skip) (.exit 0)
def c_Sd_17:VC:=
 .ite (.s 19) (.seq (.r 5 [oK 2 false]) (.ret)) (.skip)
def c_Sd_22:VC:=
 .r 3 [M 8 3,
  {op:=.bin 9 .add (.s 8) (.k (.int .i64 1))},
  M 3 9]
def c_Sd_13:VC:=
 .seq (.blk 1 (.seq (.r 4 [M 10 0,
  M 11 3,
  {op:=.idx 12 (.s 10) (.s 11)},
  {op:=.bin 13 .lss (.s 12) (.k (.int .u8 32))},
  M 14 13,
  ⟨none,[],some (14,false),.mv 15 (.s 0)⟩,
  ⟨none,[],some (14,false),.mv 16 (.s 3)⟩,
  ⟨none,[],some (14,false),.idx 17 (.s 15) (.s 16)⟩,
  ⟨none,[],some (14,false),.bin 18 .gtr (.s 17) (.k (.int .u8 126))⟩,
  {op:=.pick 19 (.s 14) (.k (.bool true)) (.s 18)}]) c_Sd_17)) c_Sd_22
def c_Sd_7:VC:=
 .seq (.seq (.r 2 [M 4 3,
  M 5 0,
  {op:=.slen 6 (.s 5)},
  {op:=.bin 7 .lss (.s 4) (.s 6)}]) c_Sd_10) c_Sd_13
def c_Sd_5:VC:=
 .blk 0 (.loop [0,3] c_Sd_7)
def c_Sd_23:VC:=
 .seq (.r 6 [oK 2 true]) (.ret)
def c_Sd_2:VC:=
 .seq (.seq (.r 1 [oN 3 0]) c_Sd_5) (.kp [] c_Sd_23)
def c_Sd_0:VC:=
 .seq (.r 0 [oK 2 false]) c_Sd_2
def vf_Sd:VF:={ pm:=[.ro [.sc]],rm:=[.v [.sc]],nslots:=20,res:=[2],rc:=[],code:=.kp [0] c_Sd_0 }
def c_Sp_2:VC:=
 .seq (.r 1 [oF 3 1 0,
  oL 4 3 1,
  {op:=.bin 5 .geq (.s 4) (.k (.int .i64 1))},
  M 6 5,
  ⟨none,[],some (6,true),.fadr 7 (.s 1) 0⟩,
  ⟨none,[],some (6,true),.ld 8 (.s 7) 1 false⟩,
  ⟨none,[],some (6,true),.bin 9 .leq (.s 8) (.k (.int .i64 6))⟩,
  {op:=.pick 10 (.s 6) (.s 9) (.k (.bool false))},
  M 11 10,
  ⟨none,[],some (11,true),.fadr 12 (.s 1) 1⟩,
  ⟨none,[],some (11,true),.ld 13 (.s 12) 1 false⟩,
  ⟨none,[],some (11,true),.bin 14 .geq (.s 13) (.k (.int .i64 1))⟩,
  {op:=.pick 15 (.s 11) (.s 14) (.k (.bool false))},
  M 16 15,
  ⟨none,[],some (16,true),.fadr 17 (.s 1) 1⟩,
  ⟨none,[],some (16,true),.ld 18 (.s 17) 1 false⟩,
  ⟨none,[],some (16,true),.bin 19 .leq (.s 18) (.k (.int .i64 1000000))⟩,
  {op:=.pick 20 (.s 16) (.s 19) (.k (.bool false))},
  M 21 20,
  ⟨none,[],some (21,true),.fadr 22 (.s 1) 2⟩,
  ⟨none,[],some (21,true),.ld 23 (.s 22) 1 false⟩,
  ⟨none,[],some (21,true),.slen 24 (.s 23)⟩,
  ⟨none,[],some (21,true),.bin 25 .leq (.s 24) (.k (.int .i64 40))⟩,
  {op:=.pick 26 (.s 21) (.s 25) (.k (.bool false))},
  M 27 26,
  ⟨none,[],some (27,true),.fadr 28 (.s 1) 2⟩,
  ⟨none,[],some (27,true),.ld 29 (.s 28) 1 false⟩,
  ⟨none,[],some (27,true),.call 30 139 [(.s 29)]⟩,
  {op:=.pick 31 (.s 27) (.s 30) (.k (.bool false))},
  M 2 31]) (.ret)
def c_Sp_0:VC:=
 .seq (.r 0 [{op:=.box 1 (.s 0)},
  oK 2 false]) c_Sp_2
def vf_Sp:VF:={ pm:=[.ro q3],rm:=[.v [.sc]],nslots:=32,res:=[2],rc:=[],code:=.kp [0] c_Sp_0 }
def c_Sq_19:VC:=
 .r 5 [M 12 3,
  {op:=.bin 13 .mul (.s 12) (.k (.int .i64 256))},
  M 14 5,
  {op:=.conv 15 .i64 (.s 14)},
  {op:=.bin 16 .add (.s 13) (.s 15)},
  M 3 16]
def c_Sq_20:VC:=
 .r 6 [{op:=.bin 17 .add (.s 8) (.k (.int .i64 1))},
  M 8 17]
def c_Sq_15:VC:=
 .seq (.blk 1 (.seq (.r 4 [oX 10 6 8 1,
  oL 11 10 1,
  M 5 11]) c_Sq_19)) c_Sq_20
def c_Sq_11:VC:=
 .seq (.ite (.s 9) (.skip) (.exit 0)) c_Sq_15
def c_Sq_9:VC:=
 .seq (.r 3 [{op:=.bin 9 .lss (.s 8) (.s 7)}]) c_Sq_11
def c_Sq_7:VC:=
 .blk 0 (.loop [3,6,7,8] c_Sq_9)
def c_Sq_21:VC:=
 .seq (.r 7 [M 18 3,
  M 2 18]) (.ret)
def c_Sq_4:VC:=
 .seq (.seq (.r 2 [M 6 0,
  {op:=.len 7 (.s 6)},
  oN 8 0]) c_Sq_7) (.kp [3] c_Sq_21)
def c_Sq_2:VC:=
 .seq (.r 1 [oN 3 0]) c_Sq_4
def c_Sq_0:VC:=
 .seq (.r 0 [oN 2 0]) c_Sq_2
def vf_Sq:VF:={ pm:=[.ro [.ro [.sc]]],rm:=[.v [.sc]],nslots:=19,res:=[2],rc:=[],code:=.kp [0] c_Sq_0 }
def c_Sa_28:VC:=
 .ite (.s 19) (.skip) (.exit 2)
def c_Sa_39:VC:=
 .ite (.s 27) (.r 12 [M 28 3,
  {op:=.bin 29 .xor (.s 28) (.k (.int .u32 3988292384))},
  M 3 29]) (.skip)
def c_Sa_37:VC:=
 .seq (.r 11 [M 26 7,
  {op:=.bin 27 .eql (.s 26) (.k (.int .u32 1))}]) c_Sa_39
def c_Sa_35:VC:=
 .seq (.r 10 [M 24 3,
  {op:=.bin 25 .shr (.s 24) (.k (.int .u64 1))},
  M 3 25]) c_Sa_37
def c_Sa_42:VC:=
 .r 8 [M 20 6,
  {op:=.bin 21 .add (.s 20) (.k (.int .i64 1))},
  M 6 21]
def c_Sa_31:VC:=
 .seq (.blk 3 (.seq (.r 9 [M 22 3,
  {op:=.bin 23 .and (.s 22) (.k (.int .u32 1))},
  M 7 23]) c_Sa_35)) c_Sa_42
def c_Sa_25:VC:=
 .seq (.seq (.r 7 [M 18 6,
  {op:=.bin 19 .lss (.s 18) (.k (.int .i64 8))}]) c_Sa_28) c_Sa_31
def c_Sa_23:VC:=
 .blk 2 (.loop [3,6,8,9,10] c_Sa_25)
def c_Sa_21:VC:=
 .seq (.r 6 [oN 6 0]) c_Sa_23
def c_Sa_19:VC:=
 .seq (.r 5 [M 14 3,
  M 15 5,
  {op:=.conv 16 .u32 (.s 15)},
  {op:=.bin 17 .xor (.s 14) (.s 16)},
  M 3 17]) c_Sa_21
def c_Sa_43:VC:=
 .r 13 [{op:=.bin 30 .add (.s 10) (.k (.int .i64 1))},
  M 10 30]
def c_Sa_15:VC:=
 .seq (.blk 1 (.seq (.r 4 [oX 12 8 10 1,
  oL 13 12 1,
  M 5 13]) c_Sa_19)) (.kp [3,8,9,10] c_Sa_43)
def c_Sa_11:VC:=
 .seq (.ite (.s 11) (.skip) (.exit 0)) c_Sa_15
def c_Sa_9:VC:=
 .seq (.r 3 [{op:=.bin 11 .lss (.s 10) (.s 9)}]) c_Sa_11
def c_Sa_7:VC:=
 .blk 0 (.loop [3,8,9,10] c_Sa_9)
def c_Sa_44:VC:=
 .seq (.r 14 [M 31 3,
  {op:=.un 32 .xor (.s 31)},
  M 2 32]) (.ret)
def c_Sa_4:VC:=
 .seq (.seq (.r 2 [M 8 0,
  {op:=.len 9 (.s 8)},
  oN 10 0]) c_Sa_7) (.kp [3] c_Sa_44)
def c_Sa_2:VC:=
 .seq (.r 1 [{op:=.mv 3 (.k (.int .u32 4294967295))}]) c_Sa_4
def c_Sa_0:VC:=
 .seq (.r 0 [{op:=.mv 2 (.k (.int .u32 0))}]) c_Sa_2
def vf_Sa:VF:={ pm:=[.ro [.ro [.sc]]],rm:=[.v [.sc]],nslots:=33,res:=[2],rc:=[],code:=.kp [0] c_Sa_0 }
def c_Sm_6:VC:=
 .ite (.s 30) (.r 3 [M 31 0,
  {op:=.call 32 94 [(.s 31),(.k (.int .i64 3))]}]) (.skip)
def c_Sm_4:VC:=
 .seq (.d 2 [(0,M 12 0),
  (1,{op:=.nckv 13 (.s 12)}),
  (2,oG 14 13 2),
  (3,oV 15 14 1),
  (4,{op:=.bin 16 .eql (.s 15) (.k (.int .i64 0))}),
  (5,M 17 16),
  (6,⟨none,[],some (17,true),.mv 18 (.s 5)⟩),
  (7,⟨none,[],some (17,true),.call 19 140 [(.s 18)]⟩),
  (8,⟨none,[],some (17,true),.conv 20 .u32 (.s 19)⟩),
  (9,⟨none,[],some (17,true),.mv 21 (.s 0)⟩),
  (10,⟨none,[],some (17,true),.nckv 22 (.s 21)⟩),
  (11,⟨none,[],some (17,true),.fadv 23 (.s 22) 0⟩),
  (12,⟨none,[],some (17,true),.ldv 24 (.s 23) 1 false⟩),
  (13,⟨none,[],some (17,true),.mv 25 (.s 1)⟩),
  (14,⟨none,[],some (17,true),.mv 26 (.s 4)⟩),
  (15,⟨none,[],some (17,true),.slc 27 (.s 24) (some (.s 25)) (some (.s 26)) 1⟩),
  (16,⟨none,[],some (17,true),.call 28 107 [(.s 27)]⟩),
  (17,⟨none,[],some (17,true),.bin 29 .neq (.s 20) (.s 28)⟩),
  (18,{op:=.pick 30 (.s 17) (.s 29) (.k (.bool false))})]) (.kp [0,30] c_Sm_6)
def c_Sm_2:VC:=
 .seq (.r 1 [M 10 0,
  {op:=.call 11 96 [(.s 10),(.k (.int .i64 4))]},
  M 5 11]) c_Sm_4
def c_Sm_0:VC:=
 .seq (.r 0 [M 6 0,
  {op:=.nck 7 (.s 6)},
  oF 8 7 1,
  oL 9 8 1,
  M 4 9]) c_Sm_2
def vf_Sm:VF:={ pm:=[.mb [.ro [.sc],.sc,.sc,.own q3,.own [.sc,.sc,.sc,.sc,.own [.sc]],.sc,.sc,.own q3],.ro [.sc]],rm:=[],nslots:=33,res:=[],rc:=[],code:=.kp [0,1] c_Sm_0 }
def c_Sh_19:VC:=
 .ite (.s 26) (.r 5 [M 27 0,
  {op:=.call 28 94 [(.s 27),(.k (.int .i64 4))]}]) (.skip)
def c_Sh_17:VC:=
 .seq (.r 4 [M 16 0,
  {op:=.nck 17 (.s 16)},
  oF 18 17 2,
  oL 19 18 1,
  {op:=.bin 20 .eql (.s 19) (.k (.int .i64 0))},
  M 21 20,
  ⟨none,[],some (21,true),.mv 22 (.s 4)⟩,
  ⟨none,[],some (21,true),.mv 23 (.s 3)⟩,
  ⟨none,[],some (21,true),.conv 24 .i64 (.s 23)⟩,
  ⟨none,[],some (21,true),.bin 25 .neq (.s 22) (.s 24)⟩,
  {op:=.pick 26 (.s 21) (.s 25) (.k (.bool false))}]) (.kp [0,8,9,10,26] c_Sh_19)
def c_Sh_15:VC:=
 .seq (.r 3 [M 14 0,
  {op:=.call 15 93 [(.s 14)]},
  M 4 15]) c_Sh_17
def c_Sh_22:VC:=
 .r 6 [{op:=.bin 29 .add (.s 10) (.k (.int .i64 1))},
  M 10 29]
def c_Sh_11:VC:=
 .seq (.blk 1 (.seq (.r 2 [oX 12 8 10 1,
  oL 13 12 1,
  M 3 13]) c_Sh_15)) c_Sh_22
def c_Sh_7:VC:=
 .seq (.ite (.s 11) (.skip) (.exit 0)) c_Sh_11
def c_Sh_5:VC:=
 .seq (.r 1 [{op:=.bin 11 .lss (.s 10) (.s 9)}]) c_Sh_7
def c_Sh_3:VC:=
 .blk 0 (.loop [0,8,9,10] c_Sh_5)
def c_Sh_28:VC:=
 .ite (.s 44) (.r 9 [M 45 0,
  {op:=.call 46 94 [(.s 45),(.k (.int .i64 5))]}]) (.skip)
def c_Sh_39:VC:=
 .ite (.s 56) (.skip) (.exit 2)
def c_Sh_55:VC:=
 .ite (.s 81) (.r 18 [M 82 0,
  {op:=.call 83 94 [(.s 82),(.k (.int .i64 5))]}]) (.skip)
def c_Sh_58:VC:=
 .d 19 [(0,M 84 0),
  (1,M 85 0),
  (2,{op:=.nckv 86 (.s 85)}),
  (3,oG 87 86 3),
  (4,oG 88 87 0),
  (5,oV 89 88 1),
  (6,{op:=.ldv 90 (.s 7) 3 true}),
  (7,{op:=.lits 91 q3 [(.s 90)]}),
  (8,{op:=.app 92 (.s 89) (.s 91) q3 4398046511104}),
  (9,{op:=.nckv 93 (.s 84)}),
  (10,oG 94 93 3),
  (11,oG 95 94 0),
  (12,oS 95 92 1)]
def c_Sh_52:VC:=
 .seq (.seq (.r 17 [M 72 0,
  {op:=.nck 73 (.s 72)},
  oF 74 73 2,
  oL 75 74 1,
  {op:=.bin 76 .eql (.s 75) (.k (.int .i64 0))},
  M 77 76,
  ⟨none,[],some (77,true),.ld 78 (.s 7) 3 true⟩,
  ⟨none,[],some (77,true),.call 79 97 [(.s 78)]⟩,
  ⟨none,[],some (77,true),.un 80 .not (.s 79)⟩,
  {op:=.pick 81 (.s 77) (.s 80) (.k (.bool false))}]) (.kp [0,5,6,7,81] c_Sh_55)) (.kp [0,5,6,7] c_Sh_58)
def c_Sh_50:VC:=
 .seq (.r 16 [M 66 0,
  M 67 0,
  {op:=.call 68 93 [(.s 67)]},
  {op:=.call 69 96 [(.s 66),(.s 68)]},
  {op:=.b2s 70 (.s 69)},
  oF 71 7 2,
  oS 71 70 1]) c_Sh_52
def c_Sh_48:VC:=
 .seq (.r 15 [M 63 0,
  {op:=.call 64 95 [(.s 63)]},
  oF 65 7 1,
  oS 65 64 1]) c_Sh_50
def c_Sh_46:VC:=
 .seq (.r 14 [M 60 0,
  {op:=.call 61 93 [(.s 60)]},
  oF 62 7 0,
  oS 62 61 1]) c_Sh_48
def c_Sh_59:VC:=
 .r 12 [M 57 6,
  {op:=.bin 58 .add (.s 57) (.k (.int .i64 1))},
  M 6 58]
def c_Sh_42:VC:=
 .seq (.blk 3 (.seq (.r 13 [{op:=.bld 59 [.k (.int .i64 0),.k (.int .i64 0),.k (.string (ByteArray.mk #[]))] []},
  {op:=.alloc 7 [.k (.int .i64 0),.k (.int .i64 0),.k (.string (ByteArray.mk #[]))]},
  oS 7 59 3]) c_Sh_46)) c_Sh_59
def c_Sh_36:VC:=
 .seq (.seq (.r 11 [M 47 6,
  M 48 5,
  {op:=.bin 49 .lss (.s 47) (.s 48)},
  M 50 49,
  ⟨none,[],some (50,true),.mv 51 (.s 0)⟩,
  ⟨none,[],some (50,true),.nck 52 (.s 51)⟩,
  ⟨none,[],some (50,true),.fadr 53 (.s 52) 2⟩,
  ⟨none,[],some (50,true),.ld 54 (.s 53) 1 false⟩,
  ⟨none,[],some (50,true),.bin 55 .eql (.s 54) (.k (.int .i64 0))⟩,
  {op:=.pick 56 (.s 50) (.s 55) (.k (.bool false))}]) c_Sh_39) c_Sh_42
def c_Sh_34:VC:=
 .blk 2 (.loop [0,5,6] c_Sh_36)
def c_Sh_60:VC:=
 .r 20 [M 96 0,
  {op:=.call 97 98 [(.s 96),(.k (.int .i64 0))]}]
def c_Sh_31:VC:=
 .seq (.seq (.r 10 [oN 6 0]) c_Sh_34) (.kp [0] c_Sh_60)
def c_Sh_25:VC:=
 .seq (.seq (.r 8 [M 32 0,
  {op:=.nck 33 (.s 32)},
  oF 34 33 2,
  oL 35 34 1,
  {op:=.bin 36 .eql (.s 35) (.k (.int .i64 0))},
  M 37 36,
  ⟨none,[],some (37,true),.mv 38 (.s 5)⟩,
  ⟨none,[],some (37,true),.bin 39 .lss (.s 38) (.k (.int .i64 1))⟩,
  ⟨none,[],some (37,true),.mv 40 (.s 39)⟩,
  ⟨none,[],some (40,false),.mv 41 (.s 5)⟩,
  ⟨none,[],some (40,false),.bin 42 .gtr (.s 41) (.k (.int .i64 8))⟩,
  ⟨none,[],some (37,true),.pick 43 (.s 40) (.k (.bool true)) (.s 42)⟩,
  {op:=.pick 44 (.s 37) (.s 43) (.k (.bool false))}]) (.kp [0,5,44] c_Sh_28)) (.kp [0,5] c_Sh_31)
def c_Sh_23:VC:=
 .seq (.r 7 [M 30 0,
  {op:=.call 31 93 [(.s 30)]},
  M 5 31]) c_Sh_25
def c_Sh_0:VC:=
 .seq (.seq (.r 0 [{op:=.lits 8 [.sc] [(.k (.int .u8 66)),(.k (.int .u8 79)),(.k (.int .u8 88)),(.k (.int .u8 49))]},
  {op:=.len 9 (.s 8)},
  oN 10 0]) c_Sh_3) (.kp [0] c_Sh_23)
def vf_Sh:VF:={ pm:=[.mb [.ro [.sc],.sc,.sc,.own q3,.own [.sc,.sc,.sc,.sc,.own [.sc]],.sc,.sc,.own q3]],rm:=[],nslots:=98,res:=[],rc:=[],code:=.kp [0] c_Sh_0 }
def c_Se_2:VC:=
 .seq (.r 1 [{op:=.lits 1 [.sc] [(.k (.int .u8 27)),(.k (.int .u8 80)),(.k (.int .u8 73)),(.k (.int .u8 69)),(.k (.int .u8 67)),(.k (.int .u8 69)),(.k (.int .u8 10)),(.k (.int .u8 0))]},
  M 0 1]) (.ret)
def c_Se_0:VC:=
 .seq (.r 0 [{op:=.nil 0 [.sc]}]) c_Se_2
def vf_Se:VF:={ pm:=[],rm:=[.v [.own [.sc]]],nslots:=2,res:=[0],rc:=[],code:=.kp [] c_Se_0 }
def c_Si_5:VC:=
 .ite (.s 17) (.seq (.r 2 [oK 4 false]) (.ret)) (.skip)
def c_Si_27:VC:=
 .ite (.s 38) (.seq (.r 7 [oK 4 false]) (.ret)) (.skip)
def c_Si_25:VC:=
 .seq (.d 6 [(0,M 25 0),
  (1,{op:=.nckv 26 (.s 25)}),
  (2,oG 27 26 0),
  (3,oV 28 27 1),
  (4,M 29 0),
  (5,{op:=.nckv 30 (.s 29)}),
  (6,oG 31 30 1),
  (7,oV 32 31 1),
  (8,M 33 5),
  (9,{op:=.bin 34 .add (.s 32) (.s 33)}),
  (10,oX 35 28 34 1),
  (11,oV 36 35 1),
  (12,M 37 6),
  (13,{op:=.bin 38 .neq (.s 36) (.s 37)})]) c_Si_27
def c_Si_32:VC:=
 .r 8 [{op:=.bin 39 .add (.s 20) (.k (.int .i64 1))},
  M 20 39]
def c_Si_21:VC:=
 .seq (.blk 1 (.seq (.r 5 [M 22 20,
  oX 23 18 20 1,
  oL 24 23 1,
  M 5 22,
  M 6 24]) c_Si_25)) c_Si_32
def c_Si_17:VC:=
 .seq (.ite (.s 21) (.skip) (.exit 0)) c_Si_21
def c_Si_15:VC:=
 .seq (.r 4 [{op:=.bin 21 .lss (.s 20) (.s 19)}]) c_Si_17
def c_Si_13:VC:=
 .blk 0 (.loop [0,18,19,20] c_Si_15)
def c_Si_33:VC:=
 .seq (.r 9 [oK 4 true]) (.ret)
def c_Si_10:VC:=
 .seq (.seq (.r 3 [M 18 1,
  {op:=.len 19 (.s 18)},
  oN 20 0]) c_Si_13) (.kp [0] c_Si_33)
def c_Si_2:VC:=
 .seq (.seq (.d 1 [(0,M 7 0),
  (1,{op:=.nckv 8 (.s 7)}),
  (2,oG 9 8 0),
  (3,oV 10 9 1),
  (4,{op:=.len 11 (.s 10)}),
  (5,M 12 0),
  (6,{op:=.nckv 13 (.s 12)}),
  (7,oG 14 13 1),
  (8,oV 15 14 1),
  (9,{op:=.bin 16 .sub (.s 11) (.s 15)}),
  (10,{op:=.bin 17 .lss (.s 16) (.k (.int .i64 8))})]) c_Si_5) c_Si_10
def c_Si_0:VC:=
 .seq (.r 0 [oK 4 false]) c_Si_2
def vf_Si:VF:={ pm:=[.mb [.ro [.sc],.sc,.sc,.own q3,.own [.sc,.sc,.sc,.sc,.own [.sc]],.sc,.sc,.own q3],.ro [.ro [.sc]]],rm:=[.v [.sc]],nslots:=40,res:=[4],rc:=[],code:=.kp [0,1] c_Si_0 }
def c_So_2:VC:=
 .seq (.r 1 [M 3 0,
  {op:=.bin 4 .geq (.s 3) (.k (.int .i64 0))},
  M 5 4,
  ⟨none,[],some (5,true),.mv 6 (.s 0)⟩,
  ⟨none,[],some (5,true),.bin 7 .leq (.s 6) (.k (.int .i64 1000000000))⟩,
  {op:=.pick 8 (.s 5) (.s 7) (.k (.bool false))},
  M 2 8]) (.ret)
def c_So_0:VC:=
 .seq (.r 0 [oK 2 false]) c_So_2
def vf_So:VF:={ pm:=[.ro [.sc]],rm:=[.v [.sc]],nslots:=9,res:=[2],rc:=[],code:=.kp [0] c_So_0 }
def c_Sk_11:VC:=
 .ite (.s 43) (.r 5 [M 44 0,
  {op:=.call 45 94 [(.s 44),(.k (.int .i64 6))]}]) (.skip)
def c_Sk_19:VC:=
 .ite (.s 60) (.r 8 [M 61 0,
  {op:=.call 62 94 [(.s 61),(.k (.int .i64 5))]}]) (.skip)
def c_Sk_25:VC:=
 .ite (.s 78) (.r 10 [M 79 0,
  {op:=.call 80 94 [(.s 79),(.k (.int .i64 7))]}]) (.skip)
def c_Sk_42:VC:=
 .ite (.s 94) (.skip) (.exit 0)
def c_Sk_64:VC:=
 .ite (.s 145) (.r 25 [M 146 0,
  {op:=.call 147 94 [(.s 146),(.k (.int .i64 5))]}]) (.skip)
def c_Sk_70:VC:=
 .ite (.s 158) (.r 27 [M 159 0,
  {op:=.call 160 94 [(.s 159),(.k (.int .i64 7))]}]) (.skip)
def c_Sk_77:VC:=
 .r 30 [M 168 10,
  M 169 15,
  {op:=.lits 170 [.sc] [(.s 169)]},
  {op:=.app 171 (.s 168) (.s 170) [.sc] 17592186044416},
  M 10 171]
def c_Sk_75:VC:=
 .seq (.r 29 [M 164 9,
  {op:=.ld 165 (.s 13) 5 true},
  {op:=.lits 166 [.sc,.sc,.sc,.sc,.own [.sc]] [(.s 165)]},
  {op:=.app 167 (.s 164) (.s 166) [.sc,.sc,.sc,.sc,.own [.sc]] 2513169434916},
  M 9 167]) c_Sk_77
def c_Sk_73:VC:=
 .seq (.r 28 [M 161 11,
  M 162 15,
  {op:=.bin 163 .add (.s 161) (.s 162)},
  M 11 163]) c_Sk_75
def c_Sk_67:VC:=
 .seq (.seq (.r 26 [M 148 0,
  {op:=.nck 149 (.s 148)},
  oF 150 149 2,
  oL 151 150 1,
  {op:=.bin 152 .eql (.s 151) (.k (.int .i64 0))},
  M 153 152,
  ⟨none,[],some (153,true),.mv 154 (.s 15)⟩,
  ⟨none,[],some (153,true),.mv 155 (.s 11)⟩,
  ⟨none,[],some (153,true),.bin 156 .sub (.k (.int .i64 60000)) (.s 155)⟩,
  ⟨none,[],some (153,true),.bin 157 .gtr (.s 154) (.s 156)⟩,
  {op:=.pick 158 (.s 153) (.s 157) (.k (.bool false))}]) (.kp [0,6,7,8,9,10,11,12,13,15,158] c_Sk_70)) (.kp [0,6,7,8,9,10,11,12,13,15] c_Sk_73)
def c_Sk_61:VC:=
 .seq (.seq (.d 24 [(0,M 114 0),
  (1,{op:=.nckv 115 (.s 114)}),
  (2,oG 116 115 2),
  (3,oV 117 116 1),
  (4,{op:=.bin 118 .eql (.s 117) (.k (.int .i64 0))}),
  (5,M 119 118),
  (6,⟨none,[],some (119,true),.fadv 120 (.s 13) 0⟩),
  (7,⟨none,[],some (119,true),.ldv 121 (.s 120) 1 false⟩),
  (8,⟨none,[],some (119,true),.mv 122 (.s 0)⟩),
  (9,⟨none,[],some (119,true),.nckv 123 (.s 122)⟩),
  (10,⟨none,[],some (119,true),.fadv 124 (.s 123) 3⟩),
  (11,⟨none,[],some (119,true),.fadv 125 (.s 124) 0⟩),
  (12,⟨none,[],some (119,true),.ldv 126 (.s 125) 1 false⟩),
  (13,⟨none,[],some (119,true),.len 127 (.s 126)⟩),
  (14,⟨none,[],some (119,true),.bin 128 .geq (.s 121) (.s 127)⟩),
  (15,⟨none,[],some (119,true),.mv 129 (.s 128)⟩),
  (16,⟨none,[],some (129,false),.fadv 130 (.s 13) 1⟩),
  (17,⟨none,[],some (129,false),.ldv 131 (.s 130) 1 false⟩),
  (18,⟨none,[],some (129,false),.call 132 127 [(.s 131)]⟩),
  (19,⟨none,[],some (129,false),.un 133 .not (.s 132)⟩),
  (20,⟨none,[],some (119,true),.pick 134 (.s 129) (.k (.bool true)) (.s 133)⟩),
  (21,⟨none,[],some (119,true),.mv 135 (.s 134)⟩),
  (22,⟨none,[],some (135,false),.fadv 136 (.s 13) 2⟩),
  (23,⟨none,[],some (135,false),.ldv 137 (.s 136) 1 false⟩),
  (24,⟨none,[],some (135,false),.call 138 127 [(.s 137)]⟩),
  (25,⟨none,[],some (135,false),.un 139 .not (.s 138)⟩),
  (26,⟨none,[],some (119,true),.pick 140 (.s 135) (.k (.bool true)) (.s 139)⟩),
  (27,⟨none,[],some (119,true),.mv 141 (.s 140)⟩),
  (28,⟨none,[],some (141,false),.mv 142 (.s 14)⟩),
  (29,⟨none,[],some (141,false),.bin 143 .gtr (.s 142) (.k (.int .i64 1))⟩),
  (30,⟨none,[],some (119,true),.pick 144 (.s 141) (.k (.bool true)) (.s 143)⟩),
  (31,{op:=.pick 145 (.s 119) (.s 144) (.k (.bool false))})]) (.kp [0,6,7,8,9,10,11,12,13,15,145] c_Sk_64)) (.kp [0,6,7,8,9,10,11,12,13,15] c_Sk_67)
def c_Sk_59:VC:=
 .seq (.r 23 [M 111 14,
  {op:=.bin 112 .eql (.s 111) (.k (.int .i64 1))},
  oF 113 13 3,
  oS 113 112 1]) c_Sk_61
def c_Sk_57:VC:=
 .seq (.r 22 [M 109 0,
  {op:=.call 110 95 [(.s 109)]},
  M 15 110]) c_Sk_59
def c_Sk_55:VC:=
 .seq (.r 21 [M 107 0,
  {op:=.call 108 95 [(.s 107)]},
  M 14 108]) c_Sk_57
def c_Sk_53:VC:=
 .seq (.r 20 [M 104 0,
  {op:=.call 105 95 [(.s 104)]},
  oF 106 13 2,
  oS 106 105 1]) c_Sk_55
def c_Sk_51:VC:=
 .seq (.r 19 [M 101 0,
  {op:=.call 102 95 [(.s 101)]},
  oF 103 13 1,
  oS 103 102 1]) c_Sk_53
def c_Sk_49:VC:=
 .seq (.r 18 [M 98 0,
  {op:=.call 99 95 [(.s 98)]},
  oF 100 13 0,
  oS 100 99 1]) c_Sk_51
def c_Sk_78:VC:=
 .r 16 [M 95 12,
  {op:=.bin 96 .add (.s 95) (.k (.int .i64 1))},
  M 12 96]
def c_Sk_45:VC:=
 .seq (.blk 1 (.seq (.r 17 [{op:=.bld 97 [.k (.int .i64 0),.k (.int .i64 0),.k (.int .i64 0),.k (.bool false),.o [.sc]] []},
  {op:=.alloc 13 [.k (.int .i64 0),.k (.int .i64 0),.k (.int .i64 0),.k (.bool false),.o [.sc]]},
  oS 13 97 5]) c_Sk_49)) c_Sk_78
def c_Sk_39:VC:=
 .seq (.seq (.r 15 [M 85 12,
  M 86 8,
  {op:=.bin 87 .lss (.s 85) (.s 86)},
  M 88 87,
  ⟨none,[],some (88,true),.mv 89 (.s 0)⟩,
  ⟨none,[],some (88,true),.nck 90 (.s 89)⟩,
  ⟨none,[],some (88,true),.fadr 91 (.s 90) 2⟩,
  ⟨none,[],some (88,true),.ld 92 (.s 91) 1 false⟩,
  ⟨none,[],some (88,true),.bin 93 .eql (.s 92) (.k (.int .i64 0))⟩,
  {op:=.pick 94 (.s 88) (.s 93) (.k (.bool false))}]) c_Sk_42) c_Sk_45
def c_Sk_37:VC:=
 .blk 0 (.loop [0,6,7,8,9,10,11,12] c_Sk_39)
def c_Sk_98:VC:=
 .ite (.s 197) (.exit 2) (.skip)
def c_Sk_96:VC:=
 .seq (.r 35 [M 193 0,
  {op:=.nck 194 (.s 193)},
  oF 195 194 2,
  oL 196 195 1,
  {op:=.bin 197 .neq (.s 196) (.k (.int .i64 0))}]) c_Sk_98
def c_Sk_94:VC:=
 .seq (.d 34 [(0,M 177 9),
  (1,M 178 16),
  (2,M 179 9),
  (3,M 180 16),
  (4,⟨some [9],[],none,.iadr 181 (.s 179) (.s 180) 5⟩),
  (5,⟨some [9],[],none,.fadr 182 (.s 181) 4⟩),
  (6,⟨some [9],[],none,.ld 183 (.s 182) 1 false⟩),
  (7,M 184 0),
  (8,M 185 10),
  (9,M 186 16),
  (10,oX 187 185 186 1),
  (11,oL 188 187 1),
  (12,⟨some [9],[],none,.call 189 96 [(.s 184),(.s 188)]⟩),
  (13,⟨none,[.tk 183 0],none,.app 190 (.s 183) (.s 189) [.sc] 140737488355328⟩),
  (14,oX 191 177 178 5),
  (15,oF 192 191 4),
  (16,oS 192 190 1)]) c_Sk_96
def c_Sk_101:VC:=
 .r 36 [{op:=.bin 198 .add (.s 174) (.k (.int .i64 1))},
  M 174 198]
def c_Sk_90:VC:=
 .seq (.blk 3 (.seq (.r 33 [M 176 174,
  M 16 176]) c_Sk_94)) c_Sk_101
def c_Sk_86:VC:=
 .seq (.ite (.s 175) (.skip) (.exit 2)) c_Sk_90
def c_Sk_84:VC:=
 .seq (.r 32 [{op:=.bin 175 .lss (.s 174) (.s 173)}]) c_Sk_86
def c_Sk_82:VC:=
 .blk 2 (.loop [0,6,7,9,10,11,173,174] c_Sk_84)
def c_Sk_107:VC:=
 .ite (.s 206) (.r 39 [M 207 0,
  M 208 11,
  {op:=.nck 209 (.s 207)},
  oF 210 209 6,
  oS 210 208 1]) (.skip)
def c_Sk_110:VC:=
 .seq (.r 40 [M 211 7,
  M 212 9,
  M 4 211,
  M 5 212]) (.ret)
def c_Sk_104:VC:=
 .seq (.seq (.r 38 [M 202 0,
  {op:=.nck 203 (.s 202)},
  oF 204 203 2,
  oL 205 204 1,
  {op:=.bin 206 .eql (.s 205) (.k (.int .i64 0))}]) c_Sk_107) (.kp [0,7,9] c_Sk_110)
def c_Sk_102:VC:=
 .seq (.r 37 [M 199 0,
  M 200 6,
  {op:=.call 201 98 [(.s 199),(.s 200)]}]) c_Sk_104
def c_Sk_79:VC:=
 .seq (.seq (.r 31 [M 172 9,
  {op:=.len 173 (.s 172)},
  oN 174 0]) c_Sk_82) (.kp [0,6,7,9,11] c_Sk_102)
def c_Sk_34:VC:=
 .seq (.seq (.r 14 [oN 12 0]) c_Sk_37) (.kp [0,6,7,9,10,11] c_Sk_79)
def c_Sk_32:VC:=
 .seq (.r 13 [M 81 0,
  {op:=.nck 82 (.s 81)},
  oF 83 82 6,
  oL 84 83 1,
  M 11 84]) c_Sk_34
def c_Sk_30:VC:=
 .seq (.r 12 [{op:=.nil 10 [.sc]}]) c_Sk_32
def c_Sk_28:VC:=
 .seq (.r 11 [{op:=.nil 9 [.sc,.sc,.sc,.sc,.own [.sc]]}]) c_Sk_30
def c_Sk_22:VC:=
 .seq (.seq (.r 9 [M 63 0,
  {op:=.nck 64 (.s 63)},
  oF 65 64 2,
  oL 66 65 1,
  {op:=.bin 67 .eql (.s 66) (.k (.int .i64 0))},
  M 68 67,
  ⟨none,[],some (68,true),.mv 69 (.s 0)⟩,
  ⟨none,[],some (68,true),.nck 70 (.s 69)⟩,
  ⟨none,[],some (68,true),.fadr 71 (.s 70) 3⟩,
  ⟨none,[],some (68,true),.fadr 72 (.s 71) 1⟩,
  ⟨none,[],some (68,true),.ld 73 (.s 72) 1 false⟩,
  ⟨none,[],some (68,true),.len 74 (.s 73)⟩,
  ⟨none,[],some (68,true),.mv 75 (.s 8)⟩,
  ⟨none,[],some (68,true),.bin 76 .add (.s 74) (.s 75)⟩,
  ⟨none,[],some (68,true),.bin 77 .gtr (.s 76) (.k (.int .i64 400))⟩,
  {op:=.pick 78 (.s 68) (.s 77) (.k (.bool false))}]) (.kp [0,6,7,8,78] c_Sk_25)) (.kp [0,6,7,8] c_Sk_28)
def c_Sk_16:VC:=
 .seq (.seq (.r 7 [M 48 0,
  {op:=.nck 49 (.s 48)},
  oF 50 49 2,
  oL 51 50 1,
  {op:=.bin 52 .eql (.s 51) (.k (.int .i64 0))},
  M 53 52,
  ⟨none,[],some (53,true),.mv 54 (.s 8)⟩,
  ⟨none,[],some (53,true),.bin 55 .lss (.s 54) (.k (.int .i64 1))⟩,
  ⟨none,[],some (53,true),.mv 56 (.s 55)⟩,
  ⟨none,[],some (56,false),.mv 57 (.s 8)⟩,
  ⟨none,[],some (56,false),.bin 58 .gtr (.s 57) (.k (.int .i64 100))⟩,
  ⟨none,[],some (53,true),.pick 59 (.s 56) (.k (.bool true)) (.s 58)⟩,
  {op:=.pick 60 (.s 53) (.s 59) (.k (.bool false))}]) (.kp [0,6,7,8,60] c_Sk_19)) (.kp [0,6,7,8] c_Sk_22)
def c_Sk_14:VC:=
 .seq (.r 6 [M 46 0,
  {op:=.call 47 95 [(.s 46)]},
  M 8 47]) c_Sk_16
def c_Sk_8:VC:=
 .seq (.seq (.r 4 [M 30 0,
  {op:=.nck 31 (.s 30)},
  oF 32 31 2,
  oL 33 32 1,
  {op:=.bin 34 .eql (.s 33) (.k (.int .i64 0))},
  M 35 34,
  ⟨none,[],some (35,true),.mv 36 (.s 1)⟩,
  ⟨none,[],some (35,true),.bin 37 .geq (.s 36) (.k (.int .i64 0))⟩,
  {op:=.pick 38 (.s 35) (.s 37) (.k (.bool false))},
  M 39 38,
  ⟨none,[],some (39,true),.mv 40 (.s 7)⟩,
  ⟨none,[],some (39,true),.mv 41 (.s 1)⟩,
  ⟨none,[],some (39,true),.bin 42 .neq (.s 40) (.s 41)⟩,
  {op:=.pick 43 (.s 39) (.s 42) (.k (.bool false))}]) (.kp [0,6,7,43] c_Sk_11)) (.kp [0,6,7] c_Sk_14)
def c_Sk_6:VC:=
 .seq (.r 3 [M 28 0,
  {op:=.call 29 95 [(.s 28)]},
  M 7 29]) c_Sk_8
def c_Sk_4:VC:=
 .seq (.r 2 [M 21 0,
  {op:=.nck 22 (.s 21)},
  oF 23 22 1,
  oL 24 23 1,
  {op:=.bin 25 .add (.s 24) (.k (.int .i64 8))},
  {op:=.nck 26 (.s 21)},
  oF 27 26 1,
  oS 27 25 1]) c_Sk_6
def c_Sk_2:VC:=
 .seq (.r 1 [M 17 0,
  {op:=.nck 18 (.s 17)},
  oF 19 18 1,
  oL 20 19 1,
  M 6 20]) c_Sk_4
def c_Sk_0:VC:=
 .seq (.r 0 [oN 4 0,
  {op:=.nil 5 [.sc,.sc,.sc,.sc,.own [.sc]]}]) c_Sk_2
def vf_Sk:VF:={ pm:=[.mb [.ro [.sc],.sc,.sc,.own q3,.own [.sc,.sc,.sc,.sc,.own [.sc]],.sc,.sc,.own q3],.ro [.sc]],rm:=[.v [.sc],.v [.own [.sc,.sc,.sc,.sc,.own [.sc]]]],nslots:=213,res:=[4,5],rc:=[],code:=.kp [0,1] c_Sk_0 }
def c_Sl_5:VC:=
 .ite (.s 16) (.skip) (.exit 0)
def c_Sl_16:VC:=
 .ite (.s 34) (.ret) (.skip)
def c_Sl_38:VC:=
 .ite (.s 49) (.d 9 [(0,M 50 0),
  (1,M 51 0),
  (2,{op:=.nckv 52 (.s 51)}),
  (3,oG 53 52 7),
  (4,oV 54 53 1),
  (5,oG 55 6 0),
  (6,oV 56 55 1),
  (7,oG 57 6 1),
  (8,oV 58 57 1),
  (9,M 59 2),
  (10,{op:=.bld 60 [.k (.int .i64 0),.k (.int .i64 0),.k (.int .i64 0)] [(0,1,(.s 56)),(1,1,(.s 58)),(2,1,(.s 59))]}),
  (11,{op:=.lits 61 q3 [(.s 60)]}),
  (12,{op:=.app 62 (.s 54) (.s 61) q3 5864062014805}),
  (13,{op:=.nckv 63 (.s 50)}),
  (14,oG 64 63 7),
  (15,oS 64 62 1)]) (.skip)
def c_Sl_36:VC:=
 .seq (.r 8 [oF 48 6 3,
  oL 49 48 1]) c_Sl_38
def c_Sl_41:VC:=
 .r 10 [{op:=.bin 65 .add (.s 44) (.k (.int .i64 1))},
  M 44 65]
def c_Sl_32:VC:=
 .seq (.blk 3 (.seq (.r 7 [oX 46 42 44 5,
  {op:=.ld 47 (.s 46) 5 true},
  {op:=.alloc 6 [.k (.int .i64 0),.k (.int .i64 0),.k (.int .i64 0),.k (.bool false),.o [.sc]]},
  oS 6 47 5]) c_Sl_36)) c_Sl_41
def c_Sl_28:VC:=
 .seq (.ite (.s 45) (.skip) (.exit 2)) c_Sl_32
def c_Sl_26:VC:=
 .seq (.r 6 [{op:=.bin 45 .lss (.s 44) (.s 43)}]) c_Sl_28
def c_Sl_24:VC:=
 .blk 2 (.loop [0,2,4,42,43,44] c_Sl_26)
def c_Sl_42:VC:=
 .r 11 [M 66 0,
  M 67 0,
  {op:=.nck 68 (.s 67)},
  oF 69 68 3,
  oF 70 69 1,
  oL 71 70 1,
  M 72 4,
  {op:=.app 73 (.s 71) (.s 72) [.sc,.sc,.sc,.sc,.own [.sc]] 2513169434916},
  {op:=.nck 74 (.s 66)},
  oF 75 74 3,
  oF 76 75 1,
  oS 76 73 1]
def c_Sl_21:VC:=
 .seq (.seq (.r 5 [M 42 4,
  {op:=.len 43 (.s 42)},
  oN 44 0]) c_Sl_24) (.kp [0,4] c_Sl_42)
def c_Sl_19:VC:=
 .seq (.r 4 [M 35 0,
  {op:=.nck 36 (.s 35)},
  oF 37 36 5,
  oL 38 37 1,
  {op:=.bin 39 .add (.s 38) (.k (.int .i64 1))},
  {op:=.nck 40 (.s 35)},
  oF 41 40 5,
  oS 41 39 1]) c_Sl_21
def c_Sl_13:VC:=
 .seq (.seq (.r 3 [M 30 0,
  {op:=.nck 31 (.s 30)},
  oF 32 31 2,
  oL 33 32 1,
  {op:=.bin 34 .neq (.s 33) (.k (.int .i64 0))}]) c_Sl_16) c_Sl_19
def c_Sl_11:VC:=
 .seq (.r 2 [M 22 0,
  M 23 0,
  {op:=.nck 24 (.s 23)},
  oF 25 24 5,
  oL 26 25 1,
  {op:=.call 27 81 [(.s 22),(.s 26)]},
  M 21 27,
  {op:=.ext 28 (.s 21) 0},
  {op:=.ext 29 (.s 21) 1},
  M 3 28,
  M 4 29]) c_Sl_13
def c_Sl_8:VC:=
 .blk 1 (.seq (.r 1 [M 17 0,
  {op:=.nck 18 (.s 17)},
  oF 19 18 1,
  oL 20 19 1,
  M 2 20]) c_Sl_11)
def c_Sl_2:VC:=
 .seq (.seq (.r 0 [M 7 0,
  {op:=.nck 8 (.s 7)},
  oF 9 8 2,
  oL 10 9 1,
  {op:=.bin 11 .eql (.s 10) (.k (.int .i64 0))},
  M 12 11,
  ⟨none,[],some (12,true),.mv 13 (.s 0)⟩,
  ⟨none,[],some (12,true),.call 14 80 []⟩,
  ⟨none,[.fz 14 0],some (12,true),.call 15 79 [(.s 13),(.s 14)]⟩,
  {op:=.pick 16 (.s 12) (.s 15) (.k (.bool false))}]) c_Sl_5) c_Sl_8
def c_Sl_0:VC:=
 .blk 0 (.loop [0] c_Sl_2)
def vf_Sl:VF:={ pm:=[.mb [.ro [.sc],.sc,.sc,.own q3,.own [.sc,.sc,.sc,.sc,.own [.sc]],.sc,.sc,.own q3]],rm:=[],nslots:=77,res:=[],rc:=[],code:=.kp [0] c_Sl_0 }
def c_Sc_5:VC:=
 .ite (.s 6) (.seq (.r 2 [{op:=.nil 2 q3}]) (.ret)) (.skip)
def c_Sc_17:VC:=
 .ite (.s 16) (.seq (.r 6 [{op:=.nil 2 q3}]) (.ret)) (.skip)
def c_Sc_24:VC:=
 .seq (.r 8 [M 19 3,
  {op:=.nck 20 (.s 19)},
  oF 21 20 7,
  oL 22 21 1,
  M 2 22]) (.ret)
def c_Sc_22:VC:=
 .seq (.r 7 [M 17 3,
  {op:=.call 18 43 [(.s 17)]}]) c_Sc_24
def c_Sc_14:VC:=
 .seq (.seq (.r 5 [M 12 3,
  {op:=.nck 13 (.s 12)},
  oF 14 13 2,
  oL 15 14 1,
  {op:=.bin 16 .neq (.s 15) (.k (.int .i64 0))}]) c_Sc_17) c_Sc_22
def c_Sc_12:VC:=
 .seq (.r 4 [M 10 3,
  {op:=.call 11 42 [(.s 10)]}]) c_Sc_14
def c_Sc_10:VC:=
 .seq (.r 3 [M 7 0,
  {op:=.bld 8 [.k (.slice none 0 0),.k (.int .i64 0),.k (.int .i64 0),.o q3,.o [.sc,.sc,.sc,.sc,.own [.sc]],.k (.int .i64 0),.k (.int .i64 0),.o q3] [(0,1,(.s 7))]},
  {op:=.box 9 (.s 8)},
  M 3 9]) c_Sc_12
def c_Sc_2:VC:=
 .seq (.seq (.r 1 [M 4 0,
  {op:=.len 5 (.s 4)},
  {op:=.bin 6 .gtr (.s 5) (.k (.int .i64 120000))}]) c_Sc_5) c_Sc_10
def c_Sc_0:VC:=
 .seq (.r 0 [{op:=.nil 2 q3}]) c_Sc_2
def vf_Sc:VF:={ pm:=[.ro [.ro [.sc]]],rm:=[.v [.own q3]],nslots:=23,res:=[2],rc:=[],code:=.kp [0] c_Sc_0 }
def c_Ii_2:VC:=
 .ite (.s 8) (.r 1 [M 9 0,
  M 10 1,
  {op:=.nck 11 (.s 9)},
  oF 12 11 2,
  oS 12 10 1]) (.skip)
def c_Ii_0:VC:=
 .seq (.r 0 [M 4 0,
  {op:=.nck 5 (.s 4)},
  oF 6 5 2,
  oL 7 6 1,
  {op:=.bin 8 .eql (.s 7) (.k (.int .i64 0))}]) c_Ii_2
def vf_Ii:VF:={ pm:=[.mb [.ro [.sc],.sc,.sc],.ro [.sc]],rm:=[],nslots:=13,res:=[],rc:=[],code:=.kp [0,1] c_Ii_0 }
def c_Ie_20:VC:=
 .ite (.s 14) (.seq (.r 5 [oN 4 2]) (.ret)) (.skip)
def c_Ie_27:VC:=
 .ite (.s 22) (.seq (.r 7 [oN 4 4]) (.ret)) (.skip)
def c_Ie_25:VC:=
 .seq (.d 6 [(0,M 15 0),
  (1,M 16 5),
  (2,oX 17 15 16 1),
  (3,oV 18 17 1),
  (4,M 19 1),
  (5,M 20 5),
  (6,{op:=.idx 21 (.s 19) (.s 20)}),
  (7,{op:=.bin 22 .neq (.s 18) (.s 21)})]) c_Ie_27
def c_Ie_17:VC:=
 .seq (.seq (.r 4 [M 11 5,
  M 12 0,
  {op:=.len 13 (.s 12)},
  {op:=.bin 14 .geq (.s 11) (.s 13)}]) c_Ie_20) c_Ie_25
def c_Ie_32:VC:=
 .r 8 [{op:=.bin 23 .add (.s 8) (.k (.int .i64 1))},
  M 8 23]
def c_Ie_13:VC:=
 .seq (.blk 1 (.seq (.r 3 [M 10 8,
  M 5 10]) c_Ie_17)) c_Ie_32
def c_Ie_9:VC:=
 .seq (.ite (.s 9) (.skip) (.exit 0)) c_Ie_13
def c_Ie_7:VC:=
 .seq (.r 2 [{op:=.bin 9 .lss (.s 8) (.s 7)}]) c_Ie_9
def c_Ie_5:VC:=
 .blk 0 (.loop [0,1,7,8] c_Ie_7)
def c_Ie_33:VC:=
 .seq (.r 9 [oN 4 0]) (.ret)
def c_Ie_2:VC:=
 .seq (.seq (.r 1 [M 6 1,
  {op:=.slen 7 (.s 6)},
  oN 8 0]) c_Ie_5) (.kp [] c_Ie_33)
def c_Ie_0:VC:=
 .seq (.r 0 [oN 4 0]) c_Ie_2
def vf_Ie:VF:={ pm:=[.ro [.ro [.sc]],.ro [.sc]],rm:=[.v [.sc]],nslots:=24,res:=[4],rc:=[],code:=.kp [0,1] c_Ie_0 }
def c_Ih_8:VC:=
 .seq (.r 3 [{op:=.nil 4 [.sc]}]) (.pre [.fz 4 0] (.ret))
def c_Ih_5:VC:=
 .ite (.s 24) (.seq (.r 2 [M 25 0,
  {op:=.call 26 100 [(.s 25),(.k (.int .i64 2))]}]) c_Ih_8) (.skip)
def c_Ih_16:VC:=
 .seq (.r 6 [M 50 5,
  M 4 50]) (.ret)
def c_Ih_14:VC:=
 .seq (.r 5 [M 42 0,
  {op:=.nck 43 (.s 42)},
  oF 44 43 1,
  oL 45 44 1,
  M 46 1,
  {op:=.bin 47 .add (.s 45) (.s 46)},
  {op:=.nck 48 (.s 42)},
  oF 49 48 1,
  oS 49 47 1]) c_Ih_16
def c_Ih_12:VC:=
 .seq (.d 4 [(0,M 27 0),
  (1,{op:=.nckv 28 (.s 27)}),
  (2,oG 29 28 0),
  (3,oV 30 29 1),
  (4,M 31 0),
  (5,{op:=.nckv 32 (.s 31)}),
  (6,oG 33 32 1),
  (7,oV 34 33 1),
  (8,M 35 0),
  (9,{op:=.nckv 36 (.s 35)}),
  (10,oG 37 36 1),
  (11,oV 38 37 1),
  (12,M 39 1),
  (13,{op:=.bin 40 .add (.s 38) (.s 39)}),
  (14,{op:=.slc 41 (.s 30) (some (.s 34)) (some (.s 40)) 1}),
  (15,M 5 41)]) c_Ih_14
def c_Ih_2:VC:=
 .seq (.seq (.d 1 [(0,M 6 0),
  (1,{op:=.nckv 7 (.s 6)}),
  (2,oG 8 7 2),
  (3,oV 9 8 1),
  (4,{op:=.bin 10 .neq (.s 9) (.k (.int .i64 0))}),
  (5,M 11 10),
  (6,⟨none,[],some (11,false),.mv 12 (.s 1)⟩),
  (7,⟨none,[],some (11,false),.mv 13 (.s 0)⟩),
  (8,⟨none,[],some (11,false),.nckv 14 (.s 13)⟩),
  (9,⟨none,[],some (11,false),.fadv 15 (.s 14) 0⟩),
  (10,⟨none,[],some (11,false),.ldv 16 (.s 15) 1 false⟩),
  (11,⟨none,[],some (11,false),.len 17 (.s 16)⟩),
  (12,⟨none,[],some (11,false),.mv 18 (.s 0)⟩),
  (13,⟨none,[],some (11,false),.nckv 19 (.s 18)⟩),
  (14,⟨none,[],some (11,false),.fadv 20 (.s 19) 1⟩),
  (15,⟨none,[],some (11,false),.ldv 21 (.s 20) 1 false⟩),
  (16,⟨none,[],some (11,false),.bin 22 .sub (.s 17) (.s 21)⟩),
  (17,⟨none,[],some (11,false),.bin 23 .gtr (.s 12) (.s 22)⟩),
  (18,{op:=.pick 24 (.s 11) (.k (.bool true)) (.s 23)})]) (.kp [0,1,24] c_Ih_5)) c_Ih_12
def c_Ih_0:VC:=
 .seq (.r 0 [{op:=.nil 4 [.sc]}]) c_Ih_2
def vf_Ih:VF:={ pm:=[.mb [.ro [.sc],.sc,.sc],.ro [.sc]],rm:=[.v [.ro [.sc]]],nslots:=51,res:=[4],rc:=[],code:=.kp [0,1] c_Ih_0 }
def c_Ig_7:VC:=
 .ite (.s 8) (.seq (.r 3 [M 9 3,
  {op:=.iadr 10 (.s 9) (.k (.int .i64 0)) 1},
  oL 11 10 1,
  {op:=.conv 12 .i64 (.s 11)},
  M 2 12]) (.ret)) (.skip)
def c_Ig_5:VC:=
 .seq (.r 2 [M 6 3,
  {op:=.len 7 (.s 6)},
  {op:=.bin 8 .eql (.s 7) (.k (.int .i64 1))}]) c_Ig_7
def c_Ig_12:VC:=
 .seq (.r 4 [oN 2 0]) (.ret)
def c_Ig_2:VC:=
 .seq (.seq (.r 1 [M 4 0,
  {op:=.call 5 99 [(.s 4),(.k (.int .i64 1))]},
  M 3 5]) c_Ig_5) c_Ig_12
def c_Ig_0:VC:=
 .seq (.r 0 [oN 2 0]) c_Ig_2
def vf_Ig:VF:={ pm:=[.mb [.ro [.sc],.sc,.sc]],rm:=[.v [.sc]],nslots:=13,res:=[2],rc:=[],code:=.kp [0] c_Ig_0 }
def c_Ib_5:VC:=
 .ite (.s 15) (.seq (.r 2 [{op:=.bld 16 [.k (.bool false),.k (.int .u64 0),.k (.int .i64 0)] []},
  oS 4 16 3]) (.ret)) (.skip)
def c_Ib_20:VC:=
 .ite (.s 26) (.skip) (.exit 0)
def c_Ib_30:VC:=
 .ite (.s 40) (.exit 0) (.skip)
def c_Ib_41:VC:=
 .ite (.s 56) (.exit 0) (.skip)
def c_Ib_44:VC:=
 .seq (.r 12 [M 57 5,
  M 58 1,
  M 59 6,
  {op:=.bin 60 .add (.s 58) (.s 59)},
  {op:=.bin 61 .add (.s 60) (.k (.int .i64 1))},
  {op:=.bld 62 [.k (.bool false),.k (.int .u64 0),.k (.int .i64 0)] [(0,1,(.k (.bool true))),(1,1,(.s 57)),(2,1,(.s 61))]},
  oS 4 62 3]) (.ret)
def c_Ib_37:VC:=
 .ite (.s 50) (.seq (.seq (.r 11 [M 51 7,
  {op:=.bin 52 .eql (.s 51) (.k (.int .u8 0))},
  M 53 52,
  ⟨none,[],some (53,true),.mv 54 (.s 6)⟩,
  ⟨none,[],some (53,true),.bin 55 .gtr (.s 54) (.k (.int .i64 0))⟩,
  {op:=.pick 56 (.s 53) (.s 55) (.k (.bool false))}]) c_Ib_41) (.kp [1,4,5,6] c_Ib_44)) (.skip)
def c_Ib_35:VC:=
 .seq (.r 10 [M 49 7,
  {op:=.bin 50 .lss (.s 49) (.k (.int .u8 128))}]) c_Ib_37
def c_Ib_33:VC:=
 .seq (.r 9 [M 41 5,
  M 42 7,
  {op:=.bin 43 .and (.s 42) (.k (.int .u8 127))},
  {op:=.conv 44 .u64 (.s 43)},
  M 45 6,
  {op:=.bin 46 .mul (.k (.int .i64 7)) (.s 45)},
  {op:=.bin 47 .shl (.s 44) (.s 46)},
  {op:=.bin 48 .or (.s 41) (.s 47)},
  M 5 48]) c_Ib_35
def c_Ib_27:VC:=
 .seq (.seq (.r 8 [M 35 6,
  {op:=.bin 36 .eql (.s 35) (.k (.int .i64 9))},
  M 37 36,
  ⟨none,[],some (37,true),.mv 38 (.s 7)⟩,
  ⟨none,[],some (37,true),.bin 39 .gtr (.s 38) (.k (.int .u8 1))⟩,
  {op:=.pick 40 (.s 37) (.s 39) (.k (.bool false))}]) c_Ib_30) (.kp [0,1,4,5,6,7] c_Ib_33)
def c_Ib_48:VC:=
 .r 6 [M 27 6,
  {op:=.bin 28 .add (.s 27) (.k (.int .i64 1))},
  M 6 28]
def c_Ib_23:VC:=
 .seq (.blk 1 (.seq (.r 7 [M 29 0,
  M 30 1,
  M 31 6,
  {op:=.bin 32 .add (.s 30) (.s 31)},
  oX 33 29 32 1,
  oL 34 33 1,
  M 7 34]) c_Ib_27)) c_Ib_48
def c_Ib_17:VC:=
 .seq (.seq (.r 5 [M 17 6,
  {op:=.bin 18 .lss (.s 17) (.k (.int .i64 10))},
  M 19 18,
  ⟨none,[],some (19,true),.mv 20 (.s 1)⟩,
  ⟨none,[],some (19,true),.mv 21 (.s 6)⟩,
  ⟨none,[],some (19,true),.bin 22 .add (.s 20) (.s 21)⟩,
  ⟨none,[],some (19,true),.mv 23 (.s 0)⟩,
  ⟨none,[],some (19,true),.len 24 (.s 23)⟩,
  ⟨none,[],some (19,true),.bin 25 .lss (.s 22) (.s 24)⟩,
  {op:=.pick 26 (.s 19) (.s 25) (.k (.bool false))}]) c_Ib_20) c_Ib_23
def c_Ib_15:VC:=
 .blk 0 (.loop [0,1,4,5,6] c_Ib_17)
def c_Ib_49:VC:=
 .seq (.r 13 [{op:=.bld 63 [.k (.bool false),.k (.int .u64 0),.k (.int .i64 0)] []},
  oS 4 63 3]) (.ret)
def c_Ib_12:VC:=
 .seq (.seq (.r 4 [oN 6 0]) c_Ib_15) (.kp [4] c_Ib_49)
def c_Ib_10:VC:=
 .seq (.r 3 [{op:=.mv 5 (.k (.int .u64 0))}]) c_Ib_12
def c_Ib_2:VC:=
 .seq (.seq (.r 1 [M 8 1,
  {op:=.bin 9 .lss (.s 8) (.k (.int .i64 0))},
  M 10 9,
  ⟨none,[],some (10,false),.mv 11 (.s 1)⟩,
  ⟨none,[],some (10,false),.mv 12 (.s 0)⟩,
  ⟨none,[],some (10,false),.len 13 (.s 12)⟩,
  ⟨none,[],some (10,false),.bin 14 .gtr (.s 11) (.s 13)⟩,
  {op:=.pick 15 (.s 10) (.k (.bool true)) (.s 14)}]) (.kp [0,1,4,15] c_Ib_5)) c_Ib_10
def c_Ib_0:VC:=
 .seq (.r 0 [{op:=.alloc 4 [.k (.bool false),.k (.int .u64 0),.k (.int .i64 0)]}]) c_Ib_2
def vf_Ib:VF:={ pm:=[.ro [.ro [.sc]],.ro [.sc]],rm:=[.v q3],nslots:=64,res:=[4],rc:=[some (3,true)],code:=.kp [0,1] c_Ib_0 }
def c_Ik_5:VC:=
 .ite (.s 9) (.seq (.r 2 [oN 2 0]) (.ret)) (.skip)
def c_Ik_24:VC:=
 .ite (.s 41) (.skip) (.exit 0)
def c_Ik_31:VC:=
 .ite (.s 51) (.r 9 [M 52 0,
  {op:=.call 53 100 [(.s 52),(.k (.int .i64 5))]}]) (.skip)
def c_Ik_34:VC:=
 .r 7 [M 42 4,
  {op:=.bin 43 .add (.s 42) (.k (.int .i64 1))},
  M 4 43]
def c_Ik_27:VC:=
 .seq (.blk 1 (.seq (.r 8 [M 44 0,
  {op:=.nck 45 (.s 44)},
  oF 46 45 0,
  oL 47 46 1,
  M 48 4,
  oX 49 47 48 1,
  oL 50 49 1,
  {op:=.bin 51 .lss (.s 50) (.k (.int .u8 128))}]) c_Ik_31)) c_Ik_34
def c_Ik_21:VC:=
 .seq (.seq (.r 6 [M 26 4,
  M 27 0,
  {op:=.nck 28 (.s 27)},
  oF 29 28 0,
  oL 30 29 1,
  {op:=.len 31 (.s 30)},
  {op:=.bin 32 .lss (.s 26) (.s 31)},
  M 33 32,
  ⟨none,[],some (33,true),.mv 34 (.s 4)⟩,
  ⟨none,[],some (33,true),.mv 35 (.s 0)⟩,
  ⟨none,[],some (33,true),.nck 36 (.s 35)⟩,
  ⟨none,[],some (33,true),.fadr 37 (.s 36) 1⟩,
  ⟨none,[],some (33,true),.ld 38 (.s 37) 1 false⟩,
  ⟨none,[],some (33,true),.bin 39 .add (.s 38) (.k (.int .i64 10))⟩,
  ⟨none,[],some (33,true),.bin 40 .lss (.s 34) (.s 39)⟩,
  {op:=.pick 41 (.s 33) (.s 40) (.k (.bool false))}]) c_Ik_24) c_Ik_27
def c_Ik_19:VC:=
 .blk 0 (.loop [0,4] c_Ik_21)
def c_Ik_38:VC:=
 .ite (.s 64) (.r 11 [M 65 0,
  {op:=.call 66 100 [(.s 65),(.k (.int .i64 5))]}]) (.skip)
def c_Ik_43:VC:=
 .seq (.r 13 [oN 2 0]) (.ret)
def c_Ik_41:VC:=
 .seq (.r 12 [M 67 0,
  {op:=.call 68 100 [(.s 67),(.k (.int .i64 2))]}]) c_Ik_43
def c_Ik_35:VC:=
 .seq (.seq (.d 10 [(0,M 54 0),
  (1,{op:=.nckv 55 (.s 54)}),
  (2,oG 56 55 1),
  (3,oV 57 56 1),
  (4,{op:=.bin 58 .add (.s 57) (.k (.int .i64 10))}),
  (5,M 59 0),
  (6,{op:=.nckv 60 (.s 59)}),
  (7,oG 61 60 0),
  (8,oV 62 61 1),
  (9,{op:=.len 63 (.s 62)}),
  (10,{op:=.bin 64 .leq (.s 58) (.s 63)})]) c_Ik_38) (.kp [0] c_Ik_41)
def c_Ik_15:VC:=
 .ite (.s 21) (.seq (.seq (.r 5 [M 22 0,
  {op:=.nck 23 (.s 22)},
  oF 24 23 1,
  oL 25 24 1,
  M 4 25]) c_Ik_19) (.kp [0] c_Ik_35)) (.skip)
def c_Ik_53:VC:=
 .seq (.r 16 [oN 2 0]) (.ret)
def c_Ik_50:VC:=
 .ite (.s 71) (.seq (.r 15 [M 72 0,
  {op:=.call 73 100 [(.s 72),(.k (.int .i64 5))]}]) c_Ik_53) (.skip)
def c_Ik_59:VC:=
 .seq (.r 18 [oF 79 3 1,
  oL 80 79 1,
  {op:=.conv 81 .i64 (.s 80)},
  M 2 81]) (.ret)
def c_Ik_57:VC:=
 .seq (.r 17 [M 74 0,
  oF 75 3 2,
  oL 76 75 1,
  {op:=.nck 77 (.s 74)},
  oF 78 77 1,
  oS 78 76 1]) c_Ik_59
def c_Ik_47:VC:=
 .seq (.seq (.r 14 [oF 69 3 1,
  oL 70 69 1,
  {op:=.bin 71 .gtr (.s 70) (.k (.int .u64 4611686018427387904))}]) c_Ik_50) c_Ik_57
def c_Ik_12:VC:=
 .seq (.seq (.r 4 [oF 19 3 0,
  oL 20 19 1,
  {op:=.un 21 .not (.s 20)}]) c_Ik_15) c_Ik_47
def c_Ik_10:VC:=
 .seq (.d 3 [(0,M 10 0),
  (1,{op:=.nckv 11 (.s 10)}),
  (2,oG 12 11 0),
  (3,oV 13 12 1),
  (4,M 14 0),
  (5,{op:=.nckv 15 (.s 14)}),
  (6,oG 16 15 1),
  (7,oV 17 16 1),
  (8,{op:=.call 18 145 [(.s 13),(.s 17)]}),
  (9,{op:=.alloc 3 [.k (.bool false),.k (.int .u64 0),.k (.int .i64 0)]}),
  (10,oS 3 18 3)]) c_Ik_12
def c_Ik_2:VC:=
 .seq (.seq (.r 1 [M 5 0,
  {op:=.nck 6 (.s 5)},
  oF 7 6 2,
  oL 8 7 1,
  {op:=.bin 9 .neq (.s 8) (.k (.int .i64 0))}]) c_Ik_5) c_Ik_10
def c_Ik_0:VC:=
 .seq (.r 0 [oN 2 0]) c_Ik_2
def vf_Ik:VF:={ pm:=[.mb [.ro [.sc],.sc,.sc]],rm:=[.v [.sc]],nslots:=82,res:=[2],rc:=[],code:=.kp [0] c_Ik_0 }
def c_Io_5:VC:=
 .ite (.s 27) (.seq (.r 2 [oK 2 false]) (.ret)) (.skip)
def c_Io_27:VC:=
 .ite (.s 45) (.seq (.r 7 [oK 2 false]) (.ret)) (.skip)
def c_Io_25:VC:=
 .seq (.r 6 [oF 34 1 2,
  oL 35 34 1,
  M 36 3,
  {op:=.idx 37 (.s 35) (.s 36)},
  {op:=.bin 38 .lss (.s 37) (.k (.int .u8 32))},
  M 39 38,
  ⟨none,[],some (39,false),.fadr 40 (.s 1) 2⟩,
  ⟨none,[],some (39,false),.ld 41 (.s 40) 1 false⟩,
  ⟨none,[],some (39,false),.mv 42 (.s 3)⟩,
  ⟨none,[],some (39,false),.idx 43 (.s 41) (.s 42)⟩,
  ⟨none,[],some (39,false),.bin 44 .gtr (.s 43) (.k (.int .u8 126))⟩,
  {op:=.pick 45 (.s 39) (.k (.bool true)) (.s 44)}]) c_Io_27
def c_Io_32:VC:=
 .r 8 [{op:=.bin 46 .add (.s 31) (.k (.int .i64 1))},
  M 31 46]
def c_Io_21:VC:=
 .seq (.blk 1 (.seq (.r 5 [M 33 31,
  M 3 33]) c_Io_25)) c_Io_32
def c_Io_17:VC:=
 .seq (.ite (.s 32) (.skip) (.exit 0)) c_Io_21
def c_Io_15:VC:=
 .seq (.r 4 [{op:=.bin 32 .lss (.s 31) (.s 30)}]) c_Io_17
def c_Io_13:VC:=
 .blk 0 (.loop [1,30,31] c_Io_15)
def c_Io_33:VC:=
 .seq (.r 9 [oK 2 true]) (.ret)
def c_Io_10:VC:=
 .seq (.seq (.r 3 [oF 28 1 2,
  oL 29 28 1,
  {op:=.slen 30 (.s 29)},
  oN 31 0]) c_Io_13) (.kp [] c_Io_33)
def c_Io_2:VC:=
 .seq (.seq (.r 1 [oF 4 1 0,
  oL 5 4 1,
  {op:=.bin 6 .lss (.s 5) (.k (.int .i64 1))},
  M 7 6,
  ⟨none,[],some (7,false),.fadr 8 (.s 1) 0⟩,
  ⟨none,[],some (7,false),.ld 9 (.s 8) 1 false⟩,
  ⟨none,[],some (7,false),.bin 10 .gtr (.s 9) (.k (.int .i64 6))⟩,
  {op:=.pick 11 (.s 7) (.k (.bool true)) (.s 10)},
  M 12 11,
  ⟨none,[],some (12,false),.fadr 13 (.s 1) 1⟩,
  ⟨none,[],some (12,false),.ld 14 (.s 13) 1 false⟩,
  ⟨none,[],some (12,false),.bin 15 .lss (.s 14) (.k (.int .i64 1))⟩,
  {op:=.pick 16 (.s 12) (.k (.bool true)) (.s 15)},
  M 17 16,
  ⟨none,[],some (17,false),.fadr 18 (.s 1) 1⟩,
  ⟨none,[],some (17,false),.ld 19 (.s 18) 1 false⟩,
  ⟨none,[],some (17,false),.bin 20 .gtr (.s 19) (.k (.int .i64 1000000))⟩,
  {op:=.pick 21 (.s 17) (.k (.bool true)) (.s 20)},
  M 22 21,
  ⟨none,[],some (22,false),.fadr 23 (.s 1) 2⟩,
  ⟨none,[],some (22,false),.ld 24 (.s 23) 1 false⟩,
  ⟨none,[],some (22,false),.slen 25 (.s 24)⟩,
  ⟨none,[],some (22,false),.bin 26 .gtr (.s 25) (.k (.int .i64 40))⟩,
  {op:=.pick 27 (.s 22) (.k (.bool true)) (.s 26)}]) c_Io_5) c_Io_10
def c_Io_0:VC:=
 .seq (.r 0 [{op:=.box 1 (.s 0)},
  oK 2 false]) c_Io_2
def vf_Io:VF:={ pm:=[.ro q3],rm:=[.v [.sc]],nslots:=47,res:=[2],rc:=[],code:=.kp [0] c_Io_0 }
def c_Id_2:VC:=
 .seq (.d 1 [(0,M 3 0),
  (1,{op:=.iadr 4 (.s 3) (.k (.int .i64 0)) 1}),
  (2,oV 5 4 1),
  (3,{op:=.conv 6 .i64 (.s 5)}),
  (4,{op:=.bin 7 .shl (.s 6) (.k (.int .u64 24))}),
  (5,M 8 0),
  (6,{op:=.iadr 9 (.s 8) (.k (.int .i64 1)) 1}),
  (7,oV 10 9 1),
  (8,{op:=.conv 11 .i64 (.s 10)}),
  (9,{op:=.bin 12 .shl (.s 11) (.k (.int .u64 16))}),
  (10,{op:=.bin 13 .or (.s 7) (.s 12)}),
  (11,M 14 0),
  (12,{op:=.iadr 15 (.s 14) (.k (.int .i64 2)) 1}),
  (13,oV 16 15 1),
  (14,{op:=.conv 17 .i64 (.s 16)}),
  (15,{op:=.bin 18 .shl (.s 17) (.k (.int .u64 8))}),
  (16,{op:=.bin 19 .or (.s 13) (.s 18)}),
  (17,M 20 0),
  (18,{op:=.iadr 21 (.s 20) (.k (.int .i64 3)) 1}),
  (19,oV 22 21 1),
  (20,{op:=.conv 23 .i64 (.s 22)}),
  (21,{op:=.bin 24 .or (.s 19) (.s 23)}),
  (22,M 2 24)]) (.ret)
def c_Id_0:VC:=
 .seq (.r 0 [oN 2 0]) c_Id_2
def vf_Id:VF:={ pm:=[.ro [.ro [.sc]]],rm:=[.v [.sc]],nslots:=25,res:=[2],rc:=[],code:=.kp [0] c_Id_0 }
def c_Ia_34:VC:=
 .r 9 [{op:=.bin 24 .add (.s 16) (.k (.int .i64 1))},
  M 16 24]
def c_Ia_31:VC:=
 .seq (.blk 3 (.r 8 [M 18 3,
  {op:=.bin 19 .shr (.s 18) (.k (.int .u64 1))},
  M 20 3,
  {op:=.bin 21 .and (.s 20) (.k (.int .u32 1))},
  {op:=.bin 22 .mul (.k (.int .u32 3988292384)) (.s 21)},
  {op:=.bin 23 .xor (.s 19) (.s 22)},
  M 3 23])) c_Ia_34
def c_Ia_27:VC:=
 .seq (.ite (.s 17) (.skip) (.exit 2)) c_Ia_31
def c_Ia_25:VC:=
 .seq (.r 7 [{op:=.bin 17 .lss (.s 16) (.k (.int .i64 8))}]) c_Ia_27
def c_Ia_23:VC:=
 .blk 2 (.loop [3,6,7,8,16] c_Ia_25)
def c_Ia_21:VC:=
 .seq (.r 6 [oN 16 0]) c_Ia_23
def c_Ia_19:VC:=
 .seq (.r 5 [M 12 3,
  M 13 5,
  {op:=.conv 14 .u32 (.s 13)},
  {op:=.bin 15 .xor (.s 12) (.s 14)},
  M 3 15]) c_Ia_21
def c_Ia_35:VC:=
 .r 10 [{op:=.bin 25 .add (.s 8) (.k (.int .i64 1))},
  M 8 25]
def c_Ia_15:VC:=
 .seq (.blk 1 (.seq (.r 4 [oX 10 6 8 1,
  oL 11 10 1,
  M 5 11]) c_Ia_19)) (.kp [3,6,7,8] c_Ia_35)
def c_Ia_11:VC:=
 .seq (.ite (.s 9) (.skip) (.exit 0)) c_Ia_15
def c_Ia_9:VC:=
 .seq (.r 3 [{op:=.bin 9 .lss (.s 8) (.s 7)}]) c_Ia_11
def c_Ia_7:VC:=
 .blk 0 (.loop [3,6,7,8] c_Ia_9)
def c_Ia_36:VC:=
 .seq (.r 11 [M 26 3,
  {op:=.un 27 .xor (.s 26)},
  M 2 27]) (.ret)
def c_Ia_4:VC:=
 .seq (.seq (.r 2 [M 6 0,
  {op:=.len 7 (.s 6)},
  oN 8 0]) c_Ia_7) (.kp [3] c_Ia_36)
def c_Ia_2:VC:=
 .seq (.r 1 [{op:=.mv 3 (.k (.int .u32 4294967295))}]) c_Ia_4
def c_Ia_0:VC:=
 .seq (.r 0 [{op:=.mv 2 (.k (.int .u32 0))}]) c_Ia_2
def vf_Ia:VF:={ pm:=[.ro [.ro [.sc]]],rm:=[.v [.sc]],nslots:=28,res:=[2],rc:=[],code:=.kp [0] c_Ia_0 }
def c_Im_6:VC:=
 .ite (.s 30) (.r 3 [M 31 0,
  {op:=.call 32 100 [(.s 31),(.k (.int .i64 3))]}]) (.skip)
def c_Im_4:VC:=
 .seq (.d 2 [(0,M 12 0),
  (1,{op:=.nckv 13 (.s 12)}),
  (2,oG 14 13 2),
  (3,oV 15 14 1),
  (4,{op:=.bin 16 .eql (.s 15) (.k (.int .i64 0))}),
  (5,M 17 16),
  (6,⟨none,[],some (17,true),.mv 18 (.s 5)⟩),
  (7,⟨none,[],some (17,true),.call 19 146 [(.s 18)]⟩),
  (8,⟨none,[],some (17,true),.mv 20 (.s 0)⟩),
  (9,⟨none,[],some (17,true),.nckv 21 (.s 20)⟩),
  (10,⟨none,[],some (17,true),.fadv 22 (.s 21) 0⟩),
  (11,⟨none,[],some (17,true),.ldv 23 (.s 22) 1 false⟩),
  (12,⟨none,[],some (17,true),.mv 24 (.s 1)⟩),
  (13,⟨none,[],some (17,true),.mv 25 (.s 4)⟩),
  (14,⟨none,[],some (17,true),.slc 26 (.s 23) (some (.s 24)) (some (.s 25)) 1⟩),
  (15,⟨none,[],some (17,true),.call 27 59 [(.s 26)]⟩),
  (16,⟨none,[],some (17,true),.conv 28 .i64 (.s 27)⟩),
  (17,⟨none,[],some (17,true),.bin 29 .neq (.s 19) (.s 28)⟩),
  (18,{op:=.pick 30 (.s 17) (.s 29) (.k (.bool false))})]) (.kp [0,30] c_Im_6)
def c_Im_2:VC:=
 .seq (.r 1 [M 10 0,
  {op:=.call 11 99 [(.s 10),(.k (.int .i64 4))]},
  M 5 11]) c_Im_4
def c_Im_0:VC:=
 .seq (.r 0 [M 6 0,
  {op:=.nck 7 (.s 6)},
  oF 8 7 1,
  oL 9 8 1,
  M 4 9]) c_Im_2
def vf_Im:VF:={ pm:=[.mb [.ro [.sc],.sc,.sc],.ro [.sc]],rm:=[],nslots:=33,res:=[],rc:=[],code:=.kp [0,1] c_Im_0 }
def c_Ij_8:VC:=
 .seq (.r 3 [{op:=.nil 2 q3}]) (.ret)
def c_Ij_5:VC:=
 .ite (.s 11) (.seq (.r 2 [M 12 0,
  {op:=.call 13 100 [(.s 12),(.k (.int .i64 1))]}]) c_Ij_8) (.skip)
def c_Ij_21:VC:=
 .ite (.s 30) (.r 8 [M 31 0,
  {op:=.call 32 100 [(.s 31),(.k (.int .i64 5))]}]) (.skip)
def c_Ij_42:VC:=
 .ite (.s 40) (.seq (.r 13 [{op:=.nil 2 q3}]) (.ret)) (.skip)
def c_Ij_54:VC:=
 .ite (.s 54) (.r 17 [M 55 0,
  {op:=.call 56 100 [(.s 55),(.k (.int .i64 5))]}]) (.skip)
def c_Ij_57:VC:=
 .r 18 [M 57 4,
  {op:=.ld 58 (.s 5) 3 true},
  {op:=.lits 59 q3 [(.s 58)]},
  {op:=.app 60 (.s 57) (.s 59) q3 4398046511104},
  M 4 60]
def c_Ij_51:VC:=
 .seq (.seq (.r 16 [{op:=.ld 52 (.s 5) 3 true},
  {op:=.call 53 131 [(.s 52)]},
  {op:=.un 54 .not (.s 53)}]) c_Ij_54) (.kp [0,4,5,33,34] c_Ij_57)
def c_Ij_49:VC:=
 .seq (.r 15 [M 46 0,
  M 47 0,
  {op:=.call 48 129 [(.s 47)]},
  {op:=.call 49 99 [(.s 46),(.s 48)]},
  {op:=.b2s 50 (.s 49)},
  oF 51 5 2,
  oS 51 50 1]) c_Ij_51
def c_Ij_47:VC:=
 .seq (.r 14 [M 41 0,
  {op:=.call 42 129 [(.s 41)]},
  M 43 0,
  {op:=.call 44 130 [(.s 43)]},
  {op:=.bld 45 [.k (.int .i64 0),.k (.int .i64 0),.k (.string (ByteArray.mk #[]))] [(0,1,(.s 42)),(1,1,(.s 44))]},
  {op:=.alloc 5 [.k (.int .i64 0),.k (.int .i64 0),.k (.string (ByteArray.mk #[]))]},
  oS 5 45 3]) c_Ij_49
def c_Ij_58:VC:=
 .r 19 [{op:=.bin 61 .add (.s 34) (.k (.int .i64 1))},
  M 34 61]
def c_Ij_37:VC:=
 .seq (.blk 1 (.seq (.seq (.r 12 [M 36 0,
  {op:=.nck 37 (.s 36)},
  oF 38 37 2,
  oL 39 38 1,
  {op:=.bin 40 .neq (.s 39) (.k (.int .i64 0))}]) c_Ij_42) c_Ij_47)) c_Ij_58
def c_Ij_33:VC:=
 .seq (.ite (.s 35) (.skip) (.exit 0)) c_Ij_37
def c_Ij_31:VC:=
 .seq (.r 11 [{op:=.bin 35 .lss (.s 34) (.s 33)}]) c_Ij_33
def c_Ij_29:VC:=
 .blk 0 (.loop [0,4,33,34] c_Ij_31)
def c_Ij_61:VC:=
 .seq (.r 21 [M 64 4,
  M 2 64]) (.ret)
def c_Ij_59:VC:=
 .seq (.r 20 [M 62 0,
  {op:=.call 63 132 [(.s 62),(.k (.int .i64 0))]}]) c_Ij_61
def c_Ij_26:VC:=
 .seq (.seq (.r 10 [M 33 3,
  oN 34 0]) c_Ij_29) (.kp [0,4] c_Ij_59)
def c_Ij_24:VC:=
 .seq (.r 9 [{op:=.nil 4 q3}]) c_Ij_26
def c_Ij_18:VC:=
 .seq (.seq (.r 7 [M 25 3,
  {op:=.bin 26 .lss (.s 25) (.k (.int .i64 1))},
  M 27 26,
  ⟨none,[],some (27,false),.mv 28 (.s 3)⟩,
  ⟨none,[],some (27,false),.bin 29 .gtr (.s 28) (.k (.int .i64 8))⟩,
  {op:=.pick 30 (.s 27) (.k (.bool true)) (.s 29)}]) (.kp [0,3,30] c_Ij_21)) (.kp [0,3] c_Ij_24)
def c_Ij_16:VC:=
 .seq (.r 6 [M 23 0,
  {op:=.call 24 129 [(.s 23)]},
  M 3 24]) c_Ij_18
def c_Ij_14:VC:=
 .seq (.r 5 [M 21 0,
  {op:=.call 22 99 [(.s 21),(.k (.int .i64 4))]}]) c_Ij_16
def c_Ij_12:VC:=
 .seq (.r 4 [M 14 0,
  M 15 0,
  {op:=.nck 16 (.s 15)},
  oF 17 16 0,
  oL 18 17 1,
  {op:=.call 19 128 [(.s 18),(.k (.string (ByteArray.mk #[66,79,88,49])))]},
  {op:=.call 20 100 [(.s 14),(.s 19)]}]) c_Ij_14
def c_Ij_2:VC:=
 .seq (.seq (.r 1 [M 6 0,
  {op:=.nck 7 (.s 6)},
  oF 8 7 0,
  oL 9 8 1,
  {op:=.len 10 (.s 9)},
  {op:=.bin 11 .gtr (.s 10) (.k (.int .i64 120000))}]) c_Ij_5) c_Ij_12
def c_Ij_0:VC:=
 .seq (.r 0 [{op:=.nil 2 q3}]) c_Ij_2
def vf_Ij:VF:={ pm:=[.mb [.ro [.sc],.sc,.sc]],rm:=[.v [.own q3]],nslots:=65,res:=[2],rc:=[],code:=.kp [0] c_Ij_0 }
def c_In_2:VC:=
 .seq (.r 1 [M 3 0,
  {op:=.bin 4 .geq (.s 3) (.k (.int .i64 0))},
  M 5 4,
  ⟨none,[],some (5,true),.mv 6 (.s 0)⟩,
  ⟨none,[],some (5,true),.bin 7 .leq (.s 6) (.k (.int .i64 1000000000))⟩,
  {op:=.pick 8 (.s 5) (.s 7) (.k (.bool false))},
  M 2 8]) (.ret)
def c_In_0:VC:=
 .seq (.r 0 [oK 2 false]) c_In_2
def vf_In:VF:={ pm:=[.ro [.sc]],rm:=[.v [.sc]],nslots:=9,res:=[2],rc:=[],code:=.kp [0] c_In_0 }
def c_Il_7:VC:=
 .ite (.s 30) (.r 3 [M 31 0,
  {op:=.call 32 100 [(.s 31),(.k (.int .i64 6))]}]) (.skip)
def c_Il_15:VC:=
 .ite (.s 40) (.r 6 [M 41 0,
  {op:=.call 42 100 [(.s 41),(.k (.int .i64 5))]}]) (.skip)
def c_Il_38:VC:=
 .ite (.s 50) (.seq (.r 12 [oN 12 0,
  {op:=.nil 13 [.sc,.sc,.sc,.sc,.own [.sc]]}]) (.ret)) (.skip)
def c_Il_50:VC:=
 .ite (.s 81) (.r 16 [M 82 0,
  {op:=.call 83 100 [(.s 82),(.k (.int .i64 5))]}]) (.skip)
def c_Il_62:VC:=
 .ite (.s 98) (.r 21 [M 99 0,
  {op:=.call 100 100 [(.s 99),(.k (.int .i64 7))]}]) (.skip)
def c_Il_60:VC:=
 .seq (.r 20 [M 93 4,
  {op:=.bin 94 .gtr (.s 93) (.k (.int .i64 400))},
  M 95 94,
  ⟨none,[],some (95,false),.mv 96 (.s 5)⟩,
  ⟨none,[],some (95,false),.bin 97 .lss (.s 96) (.k (.int .i64 0))⟩,
  {op:=.pick 98 (.s 95) (.k (.bool true)) (.s 97)}]) (.kp [0,1,2,4,5,14,16,17,18,20,43,44,98] c_Il_62)
def c_Il_67:VC:=
 .r 23 [M 105 17,
  M 106 20,
  {op:=.lits 107 [.sc] [(.s 106)]},
  {op:=.app 108 (.s 105) (.s 107) [.sc] 17592186044416},
  M 17 108]
def c_Il_65:VC:=
 .seq (.r 22 [M 101 16,
  {op:=.ld 102 (.s 18) 5 true},
  {op:=.lits 103 [.sc,.sc,.sc,.sc,.own [.sc]] [(.s 102)]},
  {op:=.app 104 (.s 101) (.s 103) [.sc,.sc,.sc,.sc,.own [.sc]] 2513169434916},
  M 16 104]) c_Il_67
def c_Il_57:VC:=
 .seq (.seq (.r 19 [M 91 4,
  {op:=.bin 92 .add (.s 91) (.k (.int .i64 1))},
  M 4 92]) c_Il_60) (.kp [0,1,2,4,5,14,16,17,18,20,43,44] c_Il_65)
def c_Il_55:VC:=
 .seq (.r 18 [M 87 5,
  M 88 20,
  {op:=.mn 89 (.s 88) (.k (.int .i64 1099511627776))},
  {op:=.bin 90 .sub (.s 87) (.s 89)},
  M 5 90]) c_Il_57
def c_Il_53:VC:=
 .seq (.r 17 [M 84 19,
  {op:=.bin 85 .eql (.s 84) (.k (.int .i64 1))},
  oF 86 18 3,
  oS 86 85 1]) c_Il_55
def c_Il_47:VC:=
 .seq (.seq (.r 15 [oF 62 18 0,
  oL 63 62 1,
  M 64 2,
  {op:=.bin 65 .geq (.s 63) (.s 64)},
  M 66 65,
  ⟨none,[],some (66,false),.fadr 67 (.s 18) 1⟩,
  ⟨none,[],some (66,false),.ld 68 (.s 67) 1 false⟩,
  ⟨none,[],some (66,false),.call 69 133 [(.s 68)]⟩,
  ⟨none,[],some (66,false),.un 70 .not (.s 69)⟩,
  {op:=.pick 71 (.s 66) (.k (.bool true)) (.s 70)},
  M 72 71,
  ⟨none,[],some (72,false),.fadr 73 (.s 18) 2⟩,
  ⟨none,[],some (72,false),.ld 74 (.s 73) 1 false⟩,
  ⟨none,[],some (72,false),.call 75 133 [(.s 74)]⟩,
  ⟨none,[],some (72,false),.un 76 .not (.s 75)⟩,
  {op:=.pick 77 (.s 72) (.k (.bool true)) (.s 76)},
  M 78 77,
  ⟨none,[],some (78,false),.mv 79 (.s 19)⟩,
  ⟨none,[],some (78,false),.bin 80 .gtr (.s 79) (.k (.int .i64 1))⟩,
  {op:=.pick 81 (.s 78) (.k (.bool true)) (.s 80)}]) (.kp [0,1,2,4,5,14,16,17,18,19,20,43,44,81] c_Il_50)) (.kp [0,1,2,4,5,14,16,17,18,19,20,43,44] c_Il_53)
def c_Il_45:VC:=
 .seq (.r 14 [M 58 0,
  {op:=.call 59 130 [(.s 58)]},
  M 60 0,
  {op:=.call 61 130 [(.s 60)]},
  M 19 59,
  M 20 61]) c_Il_47
def c_Il_43:VC:=
 .seq (.r 13 [M 51 0,
  {op:=.call 52 130 [(.s 51)]},
  M 53 0,
  {op:=.call 54 130 [(.s 53)]},
  M 55 0,
  {op:=.call 56 130 [(.s 55)]},
  {op:=.bld 57 [.k (.int .i64 0),.k (.int .i64 0),.k (.int .i64 0),.k (.bool false),.o [.sc]] [(0,1,(.s 52)),(1,1,(.s 54)),(2,1,(.s 56))]},
  {op:=.alloc 18 [.k (.int .i64 0),.k (.int .i64 0),.k (.int .i64 0),.k (.bool false),.o [.sc]]},
  oS 18 57 5]) c_Il_45
def c_Il_68:VC:=
 .r 24 [{op:=.bin 109 .add (.s 44) (.k (.int .i64 1))},
  M 44 109]
def c_Il_33:VC:=
 .seq (.blk 1 (.seq (.seq (.r 11 [M 46 0,
  {op:=.nck 47 (.s 46)},
  oF 48 47 2,
  oL 49 48 1,
  {op:=.bin 50 .neq (.s 49) (.k (.int .i64 0))}]) c_Il_38) c_Il_43)) c_Il_68
def c_Il_29:VC:=
 .seq (.ite (.s 45) (.skip) (.exit 0)) c_Il_33
def c_Il_27:VC:=
 .seq (.r 10 [{op:=.bin 45 .lss (.s 44) (.s 43)}]) c_Il_29
def c_Il_25:VC:=
 .blk 0 (.loop [0,1,2,4,5,14,16,17,43,44] c_Il_27)
def c_Il_84:VC:=
 .r 28 [M 115 16,
  M 116 21,
  {op:=.lits 117 [.sc] []},
  M 118 0,
  M 119 17,
  M 120 21,
  oX 121 119 120 1,
  oL 122 121 1,
  {op:=.call 123 99 [(.s 118),(.s 122)]},
  {op:=.app 124 (.s 117) (.s 123) [.sc] 140737488355328},
  oX 125 115 116 5,
  oF 126 125 4,
  oS 126 124 1]
def c_Il_85:VC:=
 .r 29 [{op:=.bin 127 .add (.s 112) (.k (.int .i64 1))},
  M 112 127]
def c_Il_80:VC:=
 .seq (.blk 3 (.seq (.r 27 [M 114 112,
  M 21 114]) c_Il_84)) c_Il_85
def c_Il_76:VC:=
 .seq (.ite (.s 113) (.skip) (.exit 2)) c_Il_80
def c_Il_74:VC:=
 .seq (.r 26 [{op:=.bin 113 .lss (.s 112) (.s 111)}]) c_Il_76
def c_Il_72:VC:=
 .blk 2 (.loop [0,1,14,16,17,111,112] c_Il_74)
def c_Il_88:VC:=
 .seq (.r 31 [M 131 14,
  M 132 16,
  M 12 131,
  M 13 132]) (.ret)
def c_Il_86:VC:=
 .seq (.r 30 [M 128 0,
  M 129 1,
  {op:=.call 130 132 [(.s 128),(.s 129)]}]) c_Il_88
def c_Il_69:VC:=
 .seq (.seq (.r 25 [M 110 16,
  {op:=.len 111 (.s 110)},
  oN 112 0]) c_Il_72) (.kp [0,1,14,16] c_Il_86)
def c_Il_22:VC:=
 .seq (.seq (.r 9 [M 43 15,
  oN 44 0]) c_Il_25) (.kp [0,1,14,16,17] c_Il_69)
def c_Il_20:VC:=
 .seq (.r 8 [{op:=.nil 17 [.sc]}]) c_Il_22
def c_Il_18:VC:=
 .seq (.r 7 [{op:=.nil 16 [.sc,.sc,.sc,.sc,.own [.sc]]}]) c_Il_20
def c_Il_12:VC:=
 .seq (.seq (.r 5 [M 35 15,
  {op:=.bin 36 .lss (.s 35) (.k (.int .i64 1))},
  M 37 36,
  ⟨none,[],some (37,false),.mv 38 (.s 15)⟩,
  ⟨none,[],some (37,false),.bin 39 .gtr (.s 38) (.k (.int .i64 100))⟩,
  {op:=.pick 40 (.s 37) (.k (.bool true)) (.s 39)}]) (.kp [0,1,2,4,5,14,15,40] c_Il_15)) (.kp [0,1,2,4,5,14,15] c_Il_18)
def c_Il_10:VC:=
 .seq (.r 4 [M 33 0,
  {op:=.call 34 130 [(.s 33)]},
  M 15 34]) c_Il_12
def c_Il_4:VC:=
 .seq (.seq (.r 2 [M 24 3,
  {op:=.bin 25 .geq (.s 24) (.k (.int .i64 0))},
  M 26 25,
  ⟨none,[],some (26,true),.mv 27 (.s 14)⟩,
  ⟨none,[],some (26,true),.mv 28 (.s 3)⟩,
  ⟨none,[],some (26,true),.bin 29 .neq (.s 27) (.s 28)⟩,
  {op:=.pick 30 (.s 26) (.s 29) (.k (.bool false))}]) (.kp [0,1,2,4,5,14,30] c_Il_7)) (.kp [0,1,2,4,5,14] c_Il_10)
def c_Il_2:VC:=
 .seq (.r 1 [M 22 0,
  {op:=.call 23 130 [(.s 22)]},
  M 14 23]) c_Il_4
def c_Il_0:VC:=
 .seq (.r 0 [oN 12 0,
  {op:=.nil 13 [.sc,.sc,.sc,.sc,.own [.sc]]}]) c_Il_2
def vf_Il:VF:={ pm:=[.mb [.ro [.sc],.sc,.sc],.ro [.sc],.ro [.sc],.ro [.sc],.ro [.sc],.ro [.sc]],rm:=[.v [.sc],.v [.own [.sc,.sc,.sc,.sc,.own [.sc]]]],nslots:=133,res:=[12,13],rc:=[],code:=.kp [0,1,2,3,4,5] c_Il_0 }
def c_If_16:VC:=
 .ite (.s 21) (.skip) (.exit 0)
def c_If_28:VC:=
 .ite (.s 39) (.seq (.r 10 [{op:=.ld 40 (.s 4) 2 true},
  M 41 5,
  oS 2 40 2,
  M 3 41]) (.ret)) (.skip)
def c_If_36:VC:=
 .ite (.s 43) (.r 12 [M 44 0,
  {op:=.call 45 100 [(.s 44),(.k (.int .i64 4))]}]) (.skip)
def c_If_44:VC:=
 .ite (.s 64) (.exit 0) (.skip)
def c_If_66:VC:=
 .ite (.s 77) (.r 20 [M 78 5,
  oF 79 13 0,
  oL 80 79 1,
  oF 81 13 1,
  oL 82 81 1,
  M 83 8,
  {op:=.bld 84 [.k (.int .i64 0),.k (.int .i64 0),.k (.int .i64 0)] [(0,1,(.s 80)),(1,1,(.s 82)),(2,1,(.s 83))]},
  {op:=.lits 85 q3 [(.s 84)]},
  {op:=.app 86 (.s 78) (.s 85) q3 5864062014805},
  M 5 86]) (.skip)
def c_If_64:VC:=
 .seq (.r 19 [oF 76 13 3,
  oL 77 76 1]) c_If_66
def c_If_62:VC:=
 .seq (.r 18 [M 71 6,
  oF 72 13 4,
  oL 73 72 1,
  {op:=.len 74 (.s 73)},
  {op:=.bin 75 .sub (.s 71) (.s 74)},
  M 6 75]) c_If_64
def c_If_69:VC:=
 .r 21 [{op:=.bin 87 .add (.s 67) (.k (.int .i64 1))},
  M 67 87]
def c_If_58:VC:=
 .seq (.blk 3 (.seq (.r 17 [oX 69 65 67 5,
  {op:=.ld 70 (.s 69) 5 true},
  {op:=.alloc 13 [.k (.int .i64 0),.k (.int .i64 0),.k (.int .i64 0),.k (.bool false),.o [.sc]]},
  oS 13 70 5]) c_If_62)) c_If_69
def c_If_54:VC:=
 .seq (.ite (.s 68) (.skip) (.exit 2)) c_If_58
def c_If_52:VC:=
 .seq (.r 16 [{op:=.bin 68 .lss (.s 67) (.s 66)}]) c_If_54
def c_If_50:VC:=
 .blk 2 (.loop [0,2,4,5,6,7,8,11,65,66,67] c_If_52)
def c_If_70:VC:=
 .r 22 [oF 88 4 1,
  oL 89 88 1,
  M 90 11,
  {op:=.app 91 (.s 89) (.s 90) [.sc,.sc,.sc,.sc,.own [.sc]] 2513169434916},
  oF 92 4 1,
  oS 92 91 1]
def c_If_47:VC:=
 .seq (.seq (.r 15 [M 65 11,
  {op:=.len 66 (.s 65)},
  oN 67 0]) c_If_50) (.kp [0,2,4,5,6,7,11] c_If_70)
def c_If_41:VC:=
 .seq (.seq (.r 14 [M 60 0,
  {op:=.nck 61 (.s 60)},
  oF 62 61 2,
  oL 63 62 1,
  {op:=.bin 64 .neq (.s 63) (.k (.int .i64 0))}]) c_If_44) c_If_47
def c_If_39:VC:=
 .seq (.r 13 [M 47 0,
  M 48 8,
  oF 49 4 0,
  oL 50 49 1,
  {op:=.len 51 (.s 50)},
  M 52 7,
  oF 53 4 1,
  oL 54 53 1,
  {op:=.len 55 (.s 54)},
  M 56 6,
  {op:=.call 57 84 [(.s 47),(.s 48),(.s 51),(.s 52),(.s 55),(.s 56)]},
  M 46 57,
  {op:=.ext 58 (.s 46) 0},
  {op:=.ext 59 (.s 46) 1},
  M 10 58,
  M 11 59]) c_If_41
def c_If_33:VC:=
 .seq (.seq (.r 11 [M 42 9,
  {op:=.bin 43 .neq (.s 42) (.k (.string (ByteArray.mk #[27,80,73,69,67,69,10,0])))}]) c_If_36) (.kp [0,2,4,5,6,7,8] c_If_39)
def c_If_25:VC:=
 .seq (.seq (.r 9 [M 31 0,
  {op:=.nck 32 (.s 31)},
  oF 33 32 2,
  oL 34 33 1,
  {op:=.bin 35 .eql (.s 34) (.k (.int .i64 0))},
  M 36 35,
  ⟨none,[],some (36,true),.mv 37 (.s 9)⟩,
  ⟨none,[],some (36,true),.bin 38 .eql (.s 37) (.k (.string (ByteArray.mk #[27,73,78,68,69,88,10,0])))⟩,
  {op:=.pick 39 (.s 36) (.s 38) (.k (.bool false))}]) (.kp [0,2,4,5,6,7,8,9,39] c_If_28)) c_If_33
def c_If_23:VC:=
 .seq (.r 8 [M 28 0,
  {op:=.call 29 99 [(.s 28),(.k (.int .i64 8))]},
  {op:=.b2s 30 (.s 29)},
  M 9 30]) c_If_25
def c_If_71:VC:=
 .r 6 [M 22 7,
  {op:=.bin 23 .add (.s 22) (.k (.int .i64 1))},
  M 7 23]
def c_If_19:VC:=
 .seq (.blk 1 (.seq (.r 7 [M 24 0,
  {op:=.nck 25 (.s 24)},
  oF 26 25 1,
  oL 27 26 1,
  M 8 27]) c_If_23)) c_If_71
def c_If_13:VC:=
 .seq (.seq (.r 5 [M 17 0,
  {op:=.nck 18 (.s 17)},
  oF 19 18 2,
  oL 20 19 1,
  {op:=.bin 21 .eql (.s 20) (.k (.int .i64 0))}]) c_If_16) c_If_19
def c_If_11:VC:=
 .blk 0 (.loop [0,2,4,5,6,7] c_If_13)
def c_If_72:VC:=
 .seq (.r 23 [{op:=.ld 93 (.s 4) 2 true},
  M 94 5,
  oS 2 93 2,
  M 3 94]) (.ret)
def c_If_8:VC:=
 .seq (.seq (.r 4 [oN 7 0]) c_If_11) (.kp [0,2,4,5] c_If_72)
def c_If_6:VC:=
 .seq (.r 3 [oN 6 60000]) c_If_8
def c_If_4:VC:=
 .seq (.r 2 [{op:=.nil 5 q3}]) c_If_6
def c_If_2:VC:=
 .seq (.r 1 [M 14 0,
  {op:=.call 15 83 [(.s 14)]},
  {op:=.bld 16 [.k (.slice none 0 0),.o [.sc,.sc,.sc,.sc,.own [.sc]]] [(0,1,(.s 15))]},
  {op:=.alloc 4 [.o q3,.o [.sc,.sc,.sc,.sc,.own [.sc]]]},
  oS 4 16 2]) c_If_4
def c_If_0:VC:=
 .seq (.r 0 [{op:=.alloc 2 [.o q3,.o [.sc,.sc,.sc,.sc,.own [.sc]]]},
  {op:=.nil 3 q3}]) c_If_2
def vf_If:VF:={ pm:=[.mb [.ro [.sc],.sc,.sc]],rm:=[.v [.own q3,.own [.sc,.sc,.sc,.sc,.own [.sc]]],.v [.own q3]],nslots:=95,res:=[2,3],rc:=[some (2,true),none],code:=.kp [0] c_If_0 }
def c_Ic_6:VC:=
 .seq (.r 3 [M 14 5,
  M 2 14]) (.ret)
def c_Ic_4:VC:=
 .seq (.r 2 [M 10 3,
  {op:=.call 11 44 [(.s 10)]},
  M 9 11,
  {op:=.ext 12 (.s 9) 0},
  {op:=.ext 13 (.s 9) 1},
  {op:=.alloc 4 [.o q3,.o [.sc,.sc,.sc,.sc,.own [.sc]]]},
  oS 4 12 2,
  M 5 13]) c_Ic_6
def c_Ic_2:VC:=
 .seq (.r 1 [M 6 0,
  {op:=.bld 7 [.k (.slice none 0 0),.k (.int .i64 0),.k (.int .i64 0)] [(0,1,(.s 6))]},
  {op:=.box 8 (.s 7)},
  M 3 8]) c_Ic_4
def c_Ic_0:VC:=
 .seq (.r 0 [{op:=.nil 2 q3}]) c_Ic_2
def vf_Ic:VF:={ pm:=[.ro [.ro [.sc]]],rm:=[.v [.own q3]],nslots:=15,res:=[2],rc:=[],code:=.kp [0] c_Ic_0 }
def c_Lb_5:VC:=
 .ite (.s 9) (.seq (.r 2 [oK 4 false]) (.ret)) (.skip)
def c_Lb_13:VC:=
 .ite (.s 14) (.seq (.r 4 [oK 4 false]) (.ret)) (.skip)
def c_Lb_21:VC:=
 .ite (.s 19) (.seq (.r 6 [oK 4 false]) (.ret)) (.skip)
def c_Lb_26:VC:=
 .seq (.r 7 [oK 4 true]) (.ret)
def c_Lb_18:VC:=
 .seq (.seq (.r 5 [oF 15 2 2,
  oL 16 15 1,
  oF 17 3 2,
  oL 18 17 1,
  {op:=.bin 19 .neq (.s 16) (.s 18)}]) c_Lb_21) c_Lb_26
def c_Lb_10:VC:=
 .seq (.seq (.r 3 [oF 10 2 1,
  oL 11 10 1,
  oF 12 3 1,
  oL 13 12 1,
  {op:=.bin 14 .neq (.s 11) (.s 13)}]) c_Lb_13) c_Lb_18
def c_Lb_2:VC:=
 .seq (.seq (.r 1 [oF 5 2 0,
  oL 6 5 1,
  oF 7 3 0,
  oL 8 7 1,
  {op:=.bin 9 .neq (.s 6) (.s 8)}]) c_Lb_5) c_Lb_10
def c_Lb_0:VC:=
 .seq (.r 0 [{op:=.box 2 (.s 0)},
  {op:=.box 3 (.s 1)},
  oK 4 false]) c_Lb_2
def vf_Lb:VF:={ pm:=[.ro q3,.ro q3],rm:=[.v [.sc]],nslots:=20,res:=[4],rc:=[],code:=.kp [0,1] c_Lb_0 }
def c_Lc_5:VC:=
 .ite (.s 10) (.seq (.r 2 [oK 4 false]) (.ret)) (.skip)
def c_Lc_18:VC:=
 .ite (.s 14) (.skip) (.exit 0)
def c_Lc_25:VC:=
 .ite (.s 26) (.seq (.r 7 [oK 4 false]) (.ret)) (.skip)
def c_Lc_30:VC:=
 .r 5 [M 15 5,
  {op:=.bin 16 .add (.s 15) (.k (.int .i64 1))},
  M 5 16]
def c_Lc_21:VC:=
 .seq (.blk 1 (.seq (.d 6 [(0,M 17 0),
  (1,M 18 5),
  (2,oX 19 17 18 3),
  (3,{op:=.ldv 20 (.s 19) 3 true}),
  (4,M 21 1),
  (5,M 22 5),
  (6,oX 23 21 22 3),
  (7,{op:=.ldv 24 (.s 23) 3 true}),
  (8,{op:=.call 25 45 [(.s 20),(.s 24)]}),
  (9,{op:=.un 26 .not (.s 25)})]) c_Lc_25)) c_Lc_30
def c_Lc_15:VC:=
 .seq (.seq (.r 4 [M 11 5,
  M 12 0,
  {op:=.len 13 (.s 12)},
  {op:=.bin 14 .lss (.s 11) (.s 13)}]) c_Lc_18) c_Lc_21
def c_Lc_13:VC:=
 .blk 0 (.loop [0,1,5] c_Lc_15)
def c_Lc_31:VC:=
 .seq (.r 8 [oK 4 true]) (.ret)
def c_Lc_10:VC:=
 .seq (.seq (.r 3 [oN 5 0]) c_Lc_13) (.kp [] c_Lc_31)
def c_Lc_2:VC:=
 .seq (.seq (.r 1 [M 6 0,
  {op:=.len 7 (.s 6)},
  M 8 1,
  {op:=.len 9 (.s 8)},
  {op:=.bin 10 .neq (.s 7) (.s 9)}]) c_Lc_5) c_Lc_10
def c_Lc_0:VC:=
 .seq (.r 0 [oK 4 false]) c_Lc_2
def vf_Lc:VF:={ pm:=[.ro [.ro q3],.ro [.ro q3]],rm:=[.v [.sc]],nslots:=27,res:=[4],rc:=[],code:=.kp [0,1] c_Lc_0 }
def c_La_5:VC:=
 .ite (.s 10) (.seq (.r 2 [oK 4 false]) (.ret)) (.skip)
def c_La_18:VC:=
 .ite (.s 14) (.skip) (.exit 0)
def c_La_25:VC:=
 .ite (.s 25) (.seq (.r 7 [oK 4 false]) (.ret)) (.skip)
def c_La_30:VC:=
 .r 5 [M 15 5,
  {op:=.bin 16 .add (.s 15) (.k (.int .i64 1))},
  M 5 16]
def c_La_21:VC:=
 .seq (.blk 1 (.seq (.d 6 [(0,M 17 0),
  (1,M 18 5),
  (2,oX 19 17 18 1),
  (3,oV 20 19 1),
  (4,M 21 1),
  (5,M 22 5),
  (6,oX 23 21 22 1),
  (7,oV 24 23 1),
  (8,{op:=.bin 25 .neq (.s 20) (.s 24)})]) c_La_25)) c_La_30
def c_La_15:VC:=
 .seq (.seq (.r 4 [M 11 5,
  M 12 0,
  {op:=.len 13 (.s 12)},
  {op:=.bin 14 .lss (.s 11) (.s 13)}]) c_La_18) c_La_21
def c_La_13:VC:=
 .blk 0 (.loop [0,1,5] c_La_15)
def c_La_31:VC:=
 .seq (.r 8 [oK 4 true]) (.ret)
def c_La_10:VC:=
 .seq (.seq (.r 3 [oN 5 0]) c_La_13) (.kp [] c_La_31)
def c_La_2:VC:=
 .seq (.seq (.r 1 [M 6 0,
  {op:=.len 7 (.s 6)},
  M 8 1,
  {op:=.len 9 (.s 8)},
  {op:=.bin 10 .neq (.s 7) (.s 9)}]) c_La_5) c_La_10
def c_La_0:VC:=
 .seq (.r 0 [oK 4 false]) c_La_2
def vf_La:VF:={ pm:=[.ro [.ro [.sc]],.ro [.ro [.sc]]],rm:=[.v [.sc]],nslots:=26,res:=[4],rc:=[],code:=.kp [0,1] c_La_0 }
def c_Le_10:VC:=
 .ite (.s 9) (.skip) (.exit 0)
def c_Le_17:VC:=
 .r 5 [M 17 1,
  {op:=.bin 18 .add (.s 17) (.k (.int .i64 1))},
  M 1 18]
def c_Le_18:VC:=
 .r 3 [M 10 5,
  {op:=.bin 11 .add (.s 10) (.k (.int .i64 1))},
  M 5 11]
def c_Le_13:VC:=
 .seq (.blk 1 (.seq (.r 4 [M 12 0,
  M 13 5,
  M 14 1,
  {op:=.conv 15 .u8 (.s 14)},
  oX 16 12 13 1,
  oS 16 15 1]) c_Le_17)) c_Le_18
def c_Le_7:VC:=
 .seq (.seq (.r 2 [M 6 5,
  M 7 0,
  {op:=.len 8 (.s 7)},
  {op:=.bin 9 .lss (.s 6) (.s 8)}]) c_Le_10) c_Le_13
def c_Le_5:VC:=
 .blk 0 (.loop [0,1,5] c_Le_7)
def c_Le_19:VC:=
 .seq (.r 6 [M 19 1,
  M 4 19]) (.ret)
def c_Le_2:VC:=
 .seq (.seq (.r 1 [oN 5 0]) c_Le_5) (.kp [0,1] c_Le_19)
def c_Le_0:VC:=
 .seq (.r 0 [oN 4 0]) c_Le_2
def vf_Le:VF:={ pm:=[.ms [.sc],.ro [.sc]],rm:=[.v [.sc]],nslots:=20,res:=[4],rc:=[],code:=.kp [0,1] c_Le_0 }
def c_Lf_10:VC:=
 .ite (.s 9) (.skip) (.exit 0)
def c_Lf_25:VC:=
 .r 9 [M 31 1,
  {op:=.bin 32 .add (.s 31) (.k (.int .i64 1))},
  M 1 32]
def c_Lf_23:VC:=
 .seq (.r 8 [M 26 0,
  M 27 5,
  M 28 1,
  oX 29 26 27 3,
  oF 30 29 2,
  oS 30 28 1]) c_Lf_25
def c_Lf_21:VC:=
 .seq (.r 7 [M 24 1,
  {op:=.bin 25 .add (.s 24) (.k (.int .i64 1))},
  M 1 25]) c_Lf_23
def c_Lf_19:VC:=
 .seq (.r 6 [M 19 0,
  M 20 5,
  M 21 1,
  oX 22 19 20 3,
  oF 23 22 1,
  oS 23 21 1]) c_Lf_21
def c_Lf_17:VC:=
 .seq (.r 5 [M 17 1,
  {op:=.bin 18 .add (.s 17) (.k (.int .i64 1))},
  M 1 18]) c_Lf_19
def c_Lf_26:VC:=
 .r 3 [M 10 5,
  {op:=.bin 11 .add (.s 10) (.k (.int .i64 1))},
  M 5 11]
def c_Lf_13:VC:=
 .seq (.blk 1 (.seq (.r 4 [M 12 0,
  M 13 5,
  M 14 1,
  oX 15 12 13 3,
  oF 16 15 0,
  oS 16 14 1]) c_Lf_17)) c_Lf_26
def c_Lf_7:VC:=
 .seq (.seq (.r 2 [M 6 5,
  M 7 0,
  {op:=.len 8 (.s 7)},
  {op:=.bin 9 .lss (.s 6) (.s 8)}]) c_Lf_10) c_Lf_13
def c_Lf_5:VC:=
 .blk 0 (.loop [0,1,5] c_Lf_7)
def c_Lf_27:VC:=
 .seq (.r 10 [M 33 1,
  M 4 33]) (.ret)
def c_Lf_2:VC:=
 .seq (.seq (.r 1 [oN 5 0]) c_Lf_5) (.kp [0,1] c_Lf_27)
def c_Lf_0:VC:=
 .seq (.r 0 [oN 4 0]) c_Lf_2
def vf_Lf:VF:={ pm:=[.ms q3,.ro [.sc]],rm:=[.v [.sc]],nslots:=34,res:=[4],rc:=[],code:=.kp [0,1] c_Lf_0 }
def c_Ld_10:VC:=
 .ite (.s 9) (.skip) (.exit 0)
def c_Ld_18:VC:=
 .ite (.s 18) (.seq (.r 5 [oN 4 (-1)]) (.ret)) (.skip)
def c_Ld_28:VC:=
 .ite (.s 27) (.seq (.r 8 [oN 4 (-1)]) (.ret)) (.skip)
def c_Ld_38:VC:=
 .ite (.s 36) (.seq (.r 11 [oN 4 (-1)]) (.ret)) (.skip)
def c_Ld_43:VC:=
 .r 12 [M 37 1,
  {op:=.bin 38 .add (.s 37) (.k (.int .i64 1))},
  M 1 38]
def c_Ld_35:VC:=
 .seq (.seq (.r 10 [M 30 0,
  M 31 5,
  oX 32 30 31 3,
  oF 33 32 2,
  oL 34 33 1,
  M 35 1,
  {op:=.bin 36 .neq (.s 34) (.s 35)}]) c_Ld_38) c_Ld_43
def c_Ld_33:VC:=
 .seq (.r 9 [M 28 1,
  {op:=.bin 29 .add (.s 28) (.k (.int .i64 1))},
  M 1 29]) c_Ld_35
def c_Ld_25:VC:=
 .seq (.seq (.r 7 [M 21 0,
  M 22 5,
  oX 23 21 22 3,
  oF 24 23 1,
  oL 25 24 1,
  M 26 1,
  {op:=.bin 27 .neq (.s 25) (.s 26)}]) c_Ld_28) c_Ld_33
def c_Ld_23:VC:=
 .seq (.r 6 [M 19 1,
  {op:=.bin 20 .add (.s 19) (.k (.int .i64 1))},
  M 1 20]) c_Ld_25
def c_Ld_44:VC:=
 .r 3 [M 10 5,
  {op:=.bin 11 .add (.s 10) (.k (.int .i64 1))},
  M 5 11]
def c_Ld_13:VC:=
 .seq (.blk 1 (.seq (.seq (.r 4 [M 12 0,
  M 13 5,
  oX 14 12 13 3,
  oF 15 14 0,
  oL 16 15 1,
  M 17 1,
  {op:=.bin 18 .neq (.s 16) (.s 17)}]) c_Ld_18) c_Ld_23)) c_Ld_44
def c_Ld_7:VC:=
 .seq (.seq (.r 2 [M 6 5,
  M 7 0,
  {op:=.len 8 (.s 7)},
  {op:=.bin 9 .lss (.s 6) (.s 8)}]) c_Ld_10) c_Ld_13
def c_Ld_5:VC:=
 .blk 0 (.loop [0,1,5] c_Ld_7)
def c_Ld_45:VC:=
 .seq (.r 13 [M 39 1,
  M 4 39]) (.ret)
def c_Ld_2:VC:=
 .seq (.seq (.r 1 [oN 5 0]) c_Ld_5) (.kp [1] c_Ld_45)
def c_Ld_0:VC:=
 .seq (.r 0 [oN 4 0]) c_Ld_2
def vf_Ld:VF:={ pm:=[.ro [.ro q3],.ro [.sc]],rm:=[.v [.sc]],nslots:=40,res:=[4],rc:=[],code:=.kp [0,1] c_Ld_0 }
def c_laws_FnExactMakeIndex_5:VC:=
 .ite (.s 12) (.seq (.r 2 [oK 2 true]) (.ret)) (.skip)
def c_laws_FnExactMakeIndex_19:VC:=
 .ite (.s 23) (.seq (.r 7 [oK 2 false]) (.ret)) (.skip)
def c_laws_FnExactMakeIndex_27:VC:=
 .ite (.s 28) (.seq (.r 9 [oK 2 false]) (.ret)) (.skip)
def c_laws_FnExactMakeIndex_39:VC:=
 .ite (.s 39) (.seq (.r 13 [oK 2 false]) (.ret)) (.skip)
def c_laws_FnExactMakeIndex_55:VC:=
 .ite (.s 47) (.seq (.r 19 [oK 2 false]) (.ret)) (.skip)
def c_laws_FnExactMakeIndex_63:VC:=
 .ite (.s 50) (.seq (.r 21 [oK 2 false]) (.ret)) (.skip)
def c_laws_FnExactMakeIndex_73:VC:=
 .ite (.s 57) (.seq (.r 24 [oK 2 false]) (.ret)) (.skip)
def c_laws_FnExactMakeIndex_85:VC:=
 .ite (.s 62) (.seq (.r 28 [oK 2 false]) (.ret)) (.skip)
def c_laws_FnExactMakeIndex_93:VC:=
 .ite (.s 65) (.seq (.r 30 [oK 2 false]) (.ret)) (.skip)
def c_laws_FnExactMakeIndex_98:VC:=
 .seq (.r 31 [oK 2 true]) (.ret)
def c_laws_FnExactMakeIndex_90:VC:=
 .seq (.seq (.r 29 [M 63 8,
  M 64 7,
  {op:=.bin 65 .neq (.s 63) (.s 64)}]) c_laws_FnExactMakeIndex_93) c_laws_FnExactMakeIndex_98
def c_laws_FnExactMakeIndex_82:VC:=
 .seq (.seq (.r 27 [M 61 8,
  {op:=.bin 62 .lss (.s 61) (.k (.int .i64 0))}]) c_laws_FnExactMakeIndex_85) c_laws_FnExactMakeIndex_90
def c_laws_FnExactMakeIndex_80:VC:=
 .seq (.r 26 [M 58 5,
  M 59 8,
  {op:=.call 60 16 [(.s 58),(.s 59)]},
  M 8 60]) c_laws_FnExactMakeIndex_82
def c_laws_FnExactMakeIndex_78:VC:=
 .seq (.r 25 [oN 8 1]) c_laws_FnExactMakeIndex_80
def c_laws_FnExactMakeIndex_70:VC:=
 .seq (.seq (.r 23 [M 54 9,
  M 55 3,
  {op:=.call 56 12 [(.s 54),(.s 55)]},
  {op:=.un 57 .not (.s 56)}]) c_laws_FnExactMakeIndex_73) c_laws_FnExactMakeIndex_78
def c_laws_FnExactMakeIndex_68:VC:=
 .seq (.r 22 [M 51 0,
  {op:=.call 52 10 [(.s 51)]},
  {op:=.call 53 11 [(.s 52)]},
  M 9 53]) c_laws_FnExactMakeIndex_70
def c_laws_FnExactMakeIndex_60:VC:=
 .seq (.seq (.r 20 [M 48 8,
  M 49 7,
  {op:=.bin 50 .neq (.s 48) (.s 49)}]) c_laws_FnExactMakeIndex_63) c_laws_FnExactMakeIndex_68
def c_laws_FnExactMakeIndex_52:VC:=
 .seq (.seq (.r 18 [M 46 8,
  {op:=.bin 47 .lss (.s 46) (.k (.int .i64 0))}]) c_laws_FnExactMakeIndex_55) c_laws_FnExactMakeIndex_60
def c_laws_FnExactMakeIndex_50:VC:=
 .seq (.r 17 [M 43 5,
  M 44 8,
  {op:=.call 45 16 [(.s 43),(.s 44)]},
  M 8 45]) c_laws_FnExactMakeIndex_52
def c_laws_FnExactMakeIndex_48:VC:=
 .seq (.r 16 [oN 8 1]) c_laws_FnExactMakeIndex_50
def c_laws_FnExactMakeIndex_46:VC:=
 .seq (.r 15 [M 40 5,
  M 41 7,
  {op:=.call 42 15 [(.s 40),(.s 41)]},
  M 7 42]) c_laws_FnExactMakeIndex_48
def c_laws_FnExactMakeIndex_44:VC:=
 .seq (.r 14 [oN 7 1]) c_laws_FnExactMakeIndex_46
def c_laws_FnExactMakeIndex_36:VC:=
 .seq (.seq (.r 12 [M 32 6,
  {op:=.bin 33 .lss (.s 32) (.k (.int .i64 0))},
  M 34 33,
  ⟨none,[],some (34,false),.mv 35 (.s 5)⟩,
  ⟨none,[],some (34,false),.mv 36 (.s 3)⟩,
  ⟨none,[],some (34,false),.call 37 12 [(.s 35),(.s 36)]⟩,
  ⟨none,[],some (34,false),.un 38 .not (.s 37)⟩,
  {op:=.pick 39 (.s 34) (.k (.bool true)) (.s 38)}]) c_laws_FnExactMakeIndex_39) c_laws_FnExactMakeIndex_44
def c_laws_FnExactMakeIndex_34:VC:=
 .seq (.r 11 [M 29 4,
  M 30 6,
  {op:=.call 31 14 [(.s 29),(.s 30)]},
  M 6 31]) c_laws_FnExactMakeIndex_36
def c_laws_FnExactMakeIndex_32:VC:=
 .seq (.r 10 [oN 6 1]) c_laws_FnExactMakeIndex_34
def c_laws_FnExactMakeIndex_24:VC:=
 .seq (.seq (.r 8 [M 24 4,
  M 25 0,
  {op:=.call 26 10 [(.s 25)]},
  {op:=.call 27 13 [(.s 24),(.s 26)]},
  {op:=.un 28 .not (.s 27)}]) c_laws_FnExactMakeIndex_27) c_laws_FnExactMakeIndex_32
def c_laws_FnExactMakeIndex_16:VC:=
 .seq (.seq (.r 6 [M 20 5,
  M 21 3,
  {op:=.call 22 12 [(.s 20),(.s 21)]},
  {op:=.un 23 .not (.s 22)}]) c_laws_FnExactMakeIndex_19) c_laws_FnExactMakeIndex_24
def c_laws_FnExactMakeIndex_14:VC:=
 .seq (.r 5 [M 18 4,
  {op:=.call 19 11 [(.s 18)]},
  M 5 19]) c_laws_FnExactMakeIndex_16
def c_laws_FnExactMakeIndex_12:VC:=
 .seq (.r 4 [M 16 0,
  {op:=.call 17 10 [(.s 16)]},
  M 4 17]) c_laws_FnExactMakeIndex_14
def c_laws_FnExactMakeIndex_10:VC:=
 .seq (.r 3 [M 13 0,
  {op:=.call 14 10 [(.s 13)]},
  {op:=.call 15 9 [(.s 14)]},
  M 3 15]) c_laws_FnExactMakeIndex_12
def c_laws_FnExactMakeIndex_2:VC:=
 .seq (.seq (.r 1 [M 10 0,
  {op:=.len 11 (.s 10)},
  {op:=.bin 12 .gtr (.s 11) (.k (.int .i64 1048576))}]) c_laws_FnExactMakeIndex_5) c_laws_FnExactMakeIndex_10
def c_laws_FnExactMakeIndex_0:VC:=
 .seq (.r 0 [oK 2 false]) c_laws_FnExactMakeIndex_2
def vf_laws_FnExactMakeIndex:VF:={ pm:=[.ro [.ro [.sc]]],rm:=[.v [.sc]],nslots:=66,res:=[2],rc:=[],code:=.kp [0] c_laws_FnExactMakeIndex_0 }
def ext:FuncId→List Arg→Option FRes:=fun f ars=>none
def tblL:List (FuncId×VF):=[(10,vf_Lg),(94,vf_Sg),(96,vf_Sn),(93,vf_Sf),(138,vf_Sb),(95,vf_Sj),(139,vf_Sd),(97,vf_Sp),(140,vf_Sq),(107,vf_Sa),(98,vf_Sm),(42,vf_Sh),(80,vf_Se),(79,vf_Si),(127,vf_So),(81,vf_Sk),(43,vf_Sl),(9,vf_Sc),(100,vf_Ii),(128,vf_Ie),(99,vf_Ih),(129,vf_Ig),(145,vf_Ib),(130,vf_Ik),(131,vf_Io),(146,vf_Id),(59,vf_Ia),(132,vf_Im),(83,vf_Ij),(133,vf_In),(84,vf_Il),(44,vf_If),(11,vf_Ic),(45,vf_Lb),(12,vf_Lc),(13,vf_La),(14,vf_Le),(15,vf_Lf),(16,vf_Ld),(3,vf_laws_FnExactMakeIndex)]
def tbl:FuncId→Option VF:=fun f=>tblL.lookup f
end Go.Proofs.V

namespace Go.Proofs.V
open Go
theorem fi_Lg:funcIs Go.Proofs.Try.prog tbl 10 vf_Lg=true:=by kernel_rfl
theorem fi_Sg:funcIs Go.Proofs.Try.prog tbl 94 vf_Sg=true:=by kernel_rfl
theorem fi_Sn:funcIs Go.Proofs.Try.prog tbl 96 vf_Sn=true:=by kernel_rfl
theorem fi_Sf:funcIs Go.Proofs.Try.prog tbl 93 vf_Sf=true:=by kernel_rfl
theorem fi_Sb:funcIs Go.Proofs.Try.prog tbl 138 vf_Sb=true:=by kernel_rfl
theorem fi_Sj:funcIs Go.Proofs.Try.prog tbl 95 vf_Sj=true:=by kernel_rfl
theorem fi_Sd:funcIs Go.Proofs.Try.prog tbl 139 vf_Sd=true:=by kernel_rfl
theorem fi_Sp:funcIs Go.Proofs.Try.prog tbl 97 vf_Sp=true:=by kernel_rfl
theorem fi_Sq:funcIs Go.Proofs.Try.prog tbl 140 vf_Sq=true:=by kernel_rfl
theorem fi_Sa:funcIs Go.Proofs.Try.prog tbl 107 vf_Sa=true:=by kernel_rfl
theorem fi_Sm:funcIs Go.Proofs.Try.prog tbl 98 vf_Sm=true:=by kernel_rfl
theorem fi_Sh:funcIs Go.Proofs.Try.prog tbl 42 vf_Sh=true:=by kernel_rfl
theorem fi_Se:funcIs Go.Proofs.Try.prog tbl 80 vf_Se=true:=by kernel_rfl
theorem fi_Si:funcIs Go.Proofs.Try.prog tbl 79 vf_Si=true:=by kernel_rfl
theorem fi_So:funcIs Go.Proofs.Try.prog tbl 127 vf_So=true:=by kernel_rfl
theorem fi_Sk:funcIs Go.Proofs.Try.prog tbl 81 vf_Sk=true:=by kernel_rfl
theorem fi_Sl:funcIs Go.Proofs.Try.prog tbl 43 vf_Sl=true:=by kernel_rfl
theorem fi_Sc:funcIs Go.Proofs.Try.prog tbl 9 vf_Sc=true:=by kernel_rfl
theorem fi_Ii:funcIs Go.Proofs.Try.prog tbl 100 vf_Ii=true:=by kernel_rfl
theorem fi_Ie:funcIs Go.Proofs.Try.prog tbl 128 vf_Ie=true:=by kernel_rfl
theorem fi_Ih:funcIs Go.Proofs.Try.prog tbl 99 vf_Ih=true:=by kernel_rfl
theorem fi_Ig:funcIs Go.Proofs.Try.prog tbl 129 vf_Ig=true:=by kernel_rfl
theorem fi_Ib:funcIs Go.Proofs.Try.prog tbl 145 vf_Ib=true:=by kernel_rfl
theorem fi_Ik:funcIs Go.Proofs.Try.prog tbl 130 vf_Ik=true:=by kernel_rfl
theorem fi_Io:funcIs Go.Proofs.Try.prog tbl 131 vf_Io=true:=by kernel_rfl
theorem fi_Id:funcIs Go.Proofs.Try.prog tbl 146 vf_Id=true:=by kernel_rfl
theorem fi_Ia:funcIs Go.Proofs.Try.prog tbl 59 vf_Ia=true:=by kernel_rfl
theorem fi_Im:funcIs Go.Proofs.Try.prog tbl 132 vf_Im=true:=by kernel_rfl
theorem fi_Ij:funcIs Go.Proofs.Try.prog tbl 83 vf_Ij=true:=by kernel_rfl
theorem fi_In:funcIs Go.Proofs.Try.prog tbl 133 vf_In=true:=by kernel_rfl
theorem fi_Il:funcIs Go.Proofs.Try.prog tbl 84 vf_Il=true:=by kernel_rfl
theorem fi_If:funcIs Go.Proofs.Try.prog tbl 44 vf_If=true:=by kernel_rfl
theorem fi_Ic:funcIs Go.Proofs.Try.prog tbl 11 vf_Ic=true:=by kernel_rfl
theorem fi_Lb:funcIs Go.Proofs.Try.prog tbl 45 vf_Lb=true:=by kernel_rfl
theorem fi_Lc:funcIs Go.Proofs.Try.prog tbl 12 vf_Lc=true:=by kernel_rfl
theorem fi_La:funcIs Go.Proofs.Try.prog tbl 13 vf_La=true:=by kernel_rfl
theorem fi_Le:funcIs Go.Proofs.Try.prog tbl 14 vf_Le=true:=by kernel_rfl
theorem fi_Lf:funcIs Go.Proofs.Try.prog tbl 15 vf_Lf=true:=by kernel_rfl
theorem fi_Ld:funcIs Go.Proofs.Try.prog tbl 16 vf_Ld=true:=by kernel_rfl
theorem fi_laws_FnExactMakeIndex:funcIs Go.Proofs.Try.prog tbl 3 vf_laws_FnExactMakeIndex=true:=by kernel_rfl
def gI:GInv:=gNone
end Go.Proofs.V

namespace Go.Proofs.V
open Go
abbrev EE (c : VC) (K : List Fr) (s : St) (Q : VX → St → Prop) : Prop := EvU ext tbl (.c c) K s Q
def as_Lg (p0:(List Int)):List Arg:=[.v false [.sl (p0.map (rI .u8))]]
def res_Lg (r:(List Int)):FRes:=⟨[.v false [.sl (r.map (rI .u8))]],[]⟩
def as_Sg (p0:S_l16R) (p1:Int):List Arg:=[.m (.pt [.sl (p0.data.map (rI .u8)),.lit (vI p0.at_),.lit (vI p0.err),.sl (p0.box.tracks.map rS_Track),.sl (p0.box.packets.map rS_Packet),.lit (vI p0.due),.lit (vI p0.bytes),.sl (p0.index.map rS_Entry)]),.v false [.lit (vI p1)]]
def res_Sg (r:S_l16R):FRes:=⟨[],[.pt [.sl (r.data.map (rI .u8)),.lit (vI r.at_),.lit (vI r.err),.sl (r.box.tracks.map rS_Track),.sl (r.box.packets.map rS_Packet),.lit (vI r.due),.lit (vI r.bytes),.sl (r.index.map rS_Entry)]]⟩
def as_Sn (p0:S_l16R) (p1:Int):List Arg:=[.m (.pt [.sl (p0.data.map (rI .u8)),.lit (vI p0.at_),.lit (vI p0.err),.sl (p0.box.tracks.map rS_Track),.sl (p0.box.packets.map rS_Packet),.lit (vI p0.due),.lit (vI p0.bytes),.sl (p0.index.map rS_Entry)]),.v false [.lit (vI p1)]]
def res_Sn (r:(List Int)×S_l16R):FRes:=⟨[.v false [.sl (r.1.map (rI .u8))]],[.pt [.sl (r.2.data.map (rI .u8)),.lit (vI r.2.at_),.lit (vI r.2.err),.sl (r.2.box.tracks.map rS_Track),.sl (r.2.box.packets.map rS_Packet),.lit (vI r.2.due),.lit (vI r.2.bytes),.sl (r.2.index.map rS_Entry)]]⟩
def as_Sf (p0:S_l16R):List Arg:=[.m (.pt [.sl (p0.data.map (rI .u8)),.lit (vI p0.at_),.lit (vI p0.err),.sl (p0.box.tracks.map rS_Track),.sl (p0.box.packets.map rS_Packet),.lit (vI p0.due),.lit (vI p0.bytes),.sl (p0.index.map rS_Entry)])]
def res_Sf (r:Int×S_l16R):FRes:=⟨[.v false [.lit (vI r.1)]],[.pt [.sl (r.2.data.map (rI .u8)),.lit (vI r.2.at_),.lit (vI r.2.err),.sl (r.2.box.tracks.map rS_Track),.sl (r.2.box.packets.map rS_Packet),.lit (vI r.2.due),.lit (vI r.2.bytes),.sl (r.2.index.map rS_Entry)]]⟩
def as_Sb (p0:(List Int)) (p1:Int):List Arg:=[.v false [.sl (p0.map (rI .u8))],.v false [.lit (vI p1)]]
def res_Sb (r:S_Number):FRes:=⟨[.v true [.lit (.bool r.ok),.lit (.int .u64 r.value),.lit (vI r.next)]],[]⟩
def as_Sj (p0:S_l16R):List Arg:=[.m (.pt [.sl (p0.data.map (rI .u8)),.lit (vI p0.at_),.lit (vI p0.err),.sl (p0.box.tracks.map rS_Track),.sl (p0.box.packets.map rS_Packet),.lit (vI p0.due),.lit (vI p0.bytes),.sl (p0.index.map rS_Entry)])]
def res_Sj (r:Int×S_l16R):FRes:=⟨[.v false [.lit (vI r.1)]],[.pt [.sl (r.2.data.map (rI .u8)),.lit (vI r.2.at_),.lit (vI r.2.err),.sl (r.2.box.tracks.map rS_Track),.sl (r.2.box.packets.map rS_Packet),.lit (vI r.2.due),.lit (vI r.2.bytes),.sl (r.2.index.map rS_Entry)]]⟩
def as_Sd (p0:ByteArray):List Arg:=[.v false [.lit (.string p0)]]
def res_Sd (r:Bool):FRes:=⟨[.v false [.lit (.bool r)]],[]⟩
def as_Sp (p0:S_Track):List Arg:=[.v true [.lit (vI p0.kind),.lit (vI p0.scale),.lit (.string p0.name)]]
def res_Sp (r:Bool):FRes:=⟨[.v false [.lit (.bool r)]],[]⟩
def as_Sq (p0:(List Int)):List Arg:=[.v false [.sl (p0.map (rI .u8))]]
def res_Sq (r:Int):FRes:=⟨[.v false [.lit (vI r)]],[]⟩
def as_Sa (p0:(List Int)):List Arg:=[.v false [.sl (p0.map (rI .u8))]]
def res_Sa (r:Int):FRes:=⟨[.v false [.lit (.int .u32 r)]],[]⟩
def as_Sm (p0:S_l16R) (p1:Int):List Arg:=[.m (.pt [.sl (p0.data.map (rI .u8)),.lit (vI p0.at_),.lit (vI p0.err),.sl (p0.box.tracks.map rS_Track),.sl (p0.box.packets.map rS_Packet),.lit (vI p0.due),.lit (vI p0.bytes),.sl (p0.index.map rS_Entry)]),.v false [.lit (vI p1)]]
def res_Sm (r:S_l16R):FRes:=⟨[],[.pt [.sl (r.data.map (rI .u8)),.lit (vI r.at_),.lit (vI r.err),.sl (r.box.tracks.map rS_Track),.sl (r.box.packets.map rS_Packet),.lit (vI r.due),.lit (vI r.bytes),.sl (r.index.map rS_Entry)]]⟩
def as_Sh (p0:S_l16R):List Arg:=[.m (.pt [.sl (p0.data.map (rI .u8)),.lit (vI p0.at_),.lit (vI p0.err),.sl (p0.box.tracks.map rS_Track),.sl (p0.box.packets.map rS_Packet),.lit (vI p0.due),.lit (vI p0.bytes),.sl (p0.index.map rS_Entry)])]
def res_Sh (r:S_l16R):FRes:=⟨[],[.pt [.sl (r.data.map (rI .u8)),.lit (vI r.at_),.lit (vI r.err),.sl (r.box.tracks.map rS_Track),.sl (r.box.packets.map rS_Packet),.lit (vI r.due),.lit (vI r.bytes),.sl (r.index.map rS_Entry)]]⟩
def as_Se:List Arg:=[]
def res_Se (r:(List Int)):FRes:=⟨[.v false [.sl (r.map (rI .u8))]],[]⟩
def as_Si (p0:S_l16R) (p1:(List Int)):List Arg:=[.m (.pt [.sl (p0.data.map (rI .u8)),.lit (vI p0.at_),.lit (vI p0.err),.sl (p0.box.tracks.map rS_Track),.sl (p0.box.packets.map rS_Packet),.lit (vI p0.due),.lit (vI p0.bytes),.sl (p0.index.map rS_Entry)]),.v false [.sl (p1.map (rI .u8))]]
def res_Si (r:Bool×S_l16R):FRes:=⟨[.v false [.lit (.bool r.1)]],[.pt [.sl (r.2.data.map (rI .u8)),.lit (vI r.2.at_),.lit (vI r.2.err),.sl (r.2.box.tracks.map rS_Track),.sl (r.2.box.packets.map rS_Packet),.lit (vI r.2.due),.lit (vI r.2.bytes),.sl (r.2.index.map rS_Entry)]]⟩
def as_So (p0:Int):List Arg:=[.v false [.lit (vI p0)]]
def res_So (r:Bool):FRes:=⟨[.v false [.lit (.bool r)]],[]⟩
def as_Sk (p0:S_l16R) (p1:Int):List Arg:=[.m (.pt [.sl (p0.data.map (rI .u8)),.lit (vI p0.at_),.lit (vI p0.err),.sl (p0.box.tracks.map rS_Track),.sl (p0.box.packets.map rS_Packet),.lit (vI p0.due),.lit (vI p0.bytes),.sl (p0.index.map rS_Entry)]),.v false [.lit (vI p1)]]
def res_Sk (r:Int×(List S_Packet)×S_l16R):FRes:=⟨[.v false [.lit (vI r.1)],.v false [.sl (r.2.1.map rS_Packet)]],[.pt [.sl (r.2.2.data.map (rI .u8)),.lit (vI r.2.2.at_),.lit (vI r.2.2.err),.sl (r.2.2.box.tracks.map rS_Track),.sl (r.2.2.box.packets.map rS_Packet),.lit (vI r.2.2.due),.lit (vI r.2.2.bytes),.sl (r.2.2.index.map rS_Entry)]]⟩
def as_Sl (p0:S_l16R):List Arg:=[.m (.pt [.sl (p0.data.map (rI .u8)),.lit (vI p0.at_),.lit (vI p0.err),.sl (p0.box.tracks.map rS_Track),.sl (p0.box.packets.map rS_Packet),.lit (vI p0.due),.lit (vI p0.bytes),.sl (p0.index.map rS_Entry)])]
def res_Sl (r:S_l16R):FRes:=⟨[],[.pt [.sl (r.data.map (rI .u8)),.lit (vI r.at_),.lit (vI r.err),.sl (r.box.tracks.map rS_Track),.sl (r.box.packets.map rS_Packet),.lit (vI r.due),.lit (vI r.bytes),.sl (r.index.map rS_Entry)]]⟩
def as_Sc (p0:(List Int)):List Arg:=[.v false [.sl (p0.map (rI .u8))]]
def res_Sc (r:(List S_Entry)):FRes:=⟨[.v false [.sl (r.map rS_Entry)]],[]⟩
def as_Ii (p0:S_zreader) (p1:Int):List Arg:=[.m (.pt [.sl (p0.b.map (rI .u8)),.lit (vI p0.at_),.lit (vI p0.err)]),.v false [.lit (vI p1)]]
def res_Ii (r:S_zreader):FRes:=⟨[],[.pt [.sl (r.b.map (rI .u8)),.lit (vI r.at_),.lit (vI r.err)]]⟩
def as_Ie (p0:(List Int)) (p1:ByteArray):List Arg:=[.v false [.sl (p0.map (rI .u8))],.v false [.lit (.string p1)]]
def res_Ie (r:Int):FRes:=⟨[.v false [.lit (vI r)]],[]⟩
def as_Ih (p0:S_zreader) (p1:Int):List Arg:=[.m (.pt [.sl (p0.b.map (rI .u8)),.lit (vI p0.at_),.lit (vI p0.err)]),.v false [.lit (vI p1)]]
def res_Ih (r:(List Int)×S_zreader):FRes:=⟨[.v false [.sl (r.1.map (rI .u8))]],[.pt [.sl (r.2.b.map (rI .u8)),.lit (vI r.2.at_),.lit (vI r.2.err)]]⟩
def as_Ig (p0:S_zreader):List Arg:=[.m (.pt [.sl (p0.b.map (rI .u8)),.lit (vI p0.at_),.lit (vI p0.err)])]
def res_Ig (r:Int×S_zreader):FRes:=⟨[.v false [.lit (vI r.1)]],[.pt [.sl (r.2.b.map (rI .u8)),.lit (vI r.2.at_),.lit (vI r.2.err)]]⟩
def as_Ib (p0:(List Int)) (p1:Int):List Arg:=[.v false [.sl (p0.map (rI .u8))],.v false [.lit (vI p1)]]
def res_Ib (r:S_Number):FRes:=⟨[.v true [.lit (.bool r.ok),.lit (.int .u64 r.value),.lit (vI r.next)]],[]⟩
def as_Ik (p0:S_zreader):List Arg:=[.m (.pt [.sl (p0.b.map (rI .u8)),.lit (vI p0.at_),.lit (vI p0.err)])]
def res_Ik (r:Int×S_zreader):FRes:=⟨[.v false [.lit (vI r.1)]],[.pt [.sl (r.2.b.map (rI .u8)),.lit (vI r.2.at_),.lit (vI r.2.err)]]⟩
def as_Io (p0:S_Track):List Arg:=[.v true [.lit (vI p0.kind),.lit (vI p0.scale),.lit (.string p0.name)]]
def res_Io (r:Bool):FRes:=⟨[.v false [.lit (.bool r)]],[]⟩
def as_Id (p0:(List Int)):List Arg:=[.v false [.sl (p0.map (rI .u8))]]
def res_Id (r:Int):FRes:=⟨[.v false [.lit (vI r)]],[]⟩
def as_Ia (p0:(List Int)):List Arg:=[.v false [.sl (p0.map (rI .u8))]]
def res_Ia (r:Int):FRes:=⟨[.v false [.lit (.int .u32 r)]],[]⟩
def as_Im (p0:S_zreader) (p1:Int):List Arg:=[.m (.pt [.sl (p0.b.map (rI .u8)),.lit (vI p0.at_),.lit (vI p0.err)]),.v false [.lit (vI p1)]]
def res_Im (r:S_zreader):FRes:=⟨[],[.pt [.sl (r.b.map (rI .u8)),.lit (vI r.at_),.lit (vI r.err)]]⟩
def as_Ij (p0:S_zreader):List Arg:=[.m (.pt [.sl (p0.b.map (rI .u8)),.lit (vI p0.at_),.lit (vI p0.err)])]
def res_Ij (r:(List S_Track)×S_zreader):FRes:=⟨[.v false [.sl (r.1.map rS_Track)]],[.pt [.sl (r.2.b.map (rI .u8)),.lit (vI r.2.at_),.lit (vI r.2.err)]]⟩
def as_In (p0:Int):List Arg:=[.v false [.lit (vI p0)]]
def res_In (r:Bool):FRes:=⟨[.v false [.lit (.bool r)]],[]⟩
def as_Il (p0:S_zreader) (p1 p2 p3 p4 p5:Int):List Arg:=[.m (.pt [.sl (p0.b.map (rI .u8)),.lit (vI p0.at_),.lit (vI p0.err)]),.v false [.lit (vI p1)],.v false [.lit (vI p2)],.v false [.lit (vI p3)],.v false [.lit (vI p4)],.v false [.lit (vI p5)]]
def res_Il (r:Int×(List S_Packet)×S_zreader):FRes:=⟨[.v false [.lit (vI r.1)],.v false [.sl (r.2.1.map rS_Packet)]],[.pt [.sl (r.2.2.b.map (rI .u8)),.lit (vI r.2.2.at_),.lit (vI r.2.2.err)]]⟩
def as_If (p0:S_zreader):List Arg:=[.m (.pt [.sl (p0.b.map (rI .u8)),.lit (vI p0.at_),.lit (vI p0.err)])]
def res_If (r:S_Box×(List S_Entry)×S_zreader):FRes:=⟨[.v true [.sl (r.1.tracks.map rS_Track),.sl (r.1.packets.map rS_Packet)],.v false [.sl (r.2.1.map rS_Entry)]],[.pt [.sl (r.2.2.b.map (rI .u8)),.lit (vI r.2.2.at_),.lit (vI r.2.2.err)]]⟩
def as_Ic (p0:(List Int)):List Arg:=[.v false [.sl (p0.map (rI .u8))]]
def res_Ic (r:(List S_Entry)):FRes:=⟨[.v false [.sl (r.map rS_Entry)]],[]⟩
def as_Lb (p0 p1:S_Entry):List Arg:=[.v true [.lit (vI p0.track),.lit (vI p0.time),.lit (vI p0.at_)],.v true [.lit (vI p1.track),.lit (vI p1.time),.lit (vI p1.at_)]]
def res_Lb (r:Bool):FRes:=⟨[.v false [.lit (.bool r)]],[]⟩
def as_Lc (p0 p1:(List S_Entry)):List Arg:=[.v false [.sl (p0.map rS_Entry)],.v false [.sl (p1.map rS_Entry)]]
def res_Lc (r:Bool):FRes:=⟨[.v false [.lit (.bool r)]],[]⟩
def as_La (p0 p1:(List Int)):List Arg:=[.v false [.sl (p0.map (rI .u8))],.v false [.sl (p1.map (rI .u8))]]
def res_La (r:Bool):FRes:=⟨[.v false [.lit (.bool r)]],[]⟩
def as_Le (p0:(List Int)) (p1:Int):List Arg:=[.m (.sl (p0.map (rI .u8))),.v false [.lit (vI p1)]]
def res_Le (r:Int×(List Int)):FRes:=⟨[.v false [.lit (vI r.1)]],[.sl (r.2.map (rI .u8))]⟩
def as_Lf (p0:(List S_Entry)) (p1:Int):List Arg:=[.m (.sl (p0.map rS_Entry)),.v false [.lit (vI p1)]]
def res_Lf (r:Int×(List S_Entry)):FRes:=⟨[.v false [.lit (vI r.1)]],[.sl (r.2.map rS_Entry)]⟩
def as_Ld (p0:(List S_Entry)) (p1:Int):List Arg:=[.v false [.sl (p0.map rS_Entry)],.v false [.lit (vI p1)]]
def res_Ld (r:Int):FRes:=⟨[.v false [.lit (vI r)]],[]⟩
def as_laws_FnExactMakeIndex (p0:(List Int)):List Arg:=[.v false [.sl (p0.map (rI .u8))]]
def res_laws_FnExactMakeIndex (r:Bool):FRes:=⟨[.v false [.lit (.bool r)]],[]⟩
def K_Lg_19:List Fr:=[]
def s_Lg_19 (l19_0:(List Int)):St:=
 ⟨mkSl 22 [(3,.v false [cR 0 l19_0])],[some ⟨[.sc],(List.map (rI .u8) l19_0)⟩],[]⟩
def K_Lg_9:List Fr:=[.lp [0,3,4] c_Lg_9,.bk 0,.sq (.kp [3] c_Lg_19)]
def s_Lg_9 (p0:(List Int)) (i9_0:Int) (l9_1:(List Int)):St:=
 ⟨mkSl 22 [(0,.v false [.ro [.sc] (p0.map (rI .u8))]),(3,.v false [cR 0 l9_1]),(4,sI i9_0)],[some ⟨[.sc],(List.map (rI .u8) l9_1)⟩],[]⟩
def K_Lg_0:List Fr:=[]
def s_Lg_0 (p0:(List Int)):St:=
 ⟨mkSl 22 [(0,.v false [.ro [.sc] (p0.map (rI .u8))])],[],[]⟩
def K_Sg_0:List Fr:=[]
def s_Sg_0 (p1:Int) (p0:S_l16R):St:=
 ⟨mkSl 13 [(0,sP 0 0),(1,sI p1)],[some ⟨q3,(List.map rS_Track p0.box.tracks)⟩,some ⟨[.sc,.sc,.sc,.sc,.own [.sc]],(List.map rS_Packet p0.box.packets)⟩,some ⟨q3,(List.map rS_Entry p0.index)⟩],[some [.ro [.sc] (p0.data.map (rI .u8)),cI p0.at_,cI p0.err,cR 0 p0.box.tracks,cR 1 p0.box.packets,cI p0.due,cI p0.bytes,cR 2 p0.index]]⟩
def K_Sn_8:List Fr:=[]
def s_Sn_8 (p1:Int) (l8_0:(List Int)) (i8_1 i8_2 i8_3 i8_4:Int) (l8_5:(List S_Track)) (l8_6:(List S_Packet)) (l8_7:(List S_Entry)):St:=
 ⟨mkSl 54 [(0,sP 0 0),(1,sI p1)],[some ⟨q3,(List.map rS_Track l8_5)⟩,some ⟨[.sc,.sc,.sc,.sc,.own [.sc]],(List.map rS_Packet l8_6)⟩,some ⟨q3,(List.map rS_Entry l8_7)⟩],[some [.ro [.sc] (l8_0.map (rI .u8)),cI i8_1,cI i8_2,cR 0 l8_5,cR 1 l8_6,cI i8_3,cI i8_4,cR 2 l8_7]]⟩
def K_Sn_5:List Fr:=[.sq (.kp [0,1] c_Sn_8)]
def s_Sn_5 (p1:Int) (p0:S_l16R) (b5_0:Bool):St:=
 ⟨mkSl 54 [(0,sP 0 0),(1,sI p1),(23,sB b5_0)],[some ⟨q3,(List.map rS_Track p0.box.tracks)⟩,some ⟨[.sc,.sc,.sc,.sc,.own [.sc]],(List.map rS_Packet p0.box.packets)⟩,some ⟨q3,(List.map rS_Entry p0.index)⟩],[some [.ro [.sc] (p0.data.map (rI .u8)),cI p0.at_,cI p0.err,cR 0 p0.box.tracks,cR 1 p0.box.packets,cI p0.due,cI p0.bytes,cR 2 p0.index]]⟩
def K_Sn_0:List Fr:=[]
def s_Sn_0 (p1:Int) (p0:S_l16R):St:=
 ⟨mkSl 54 [(0,sP 0 0),(1,sI p1)],[some ⟨q3,(List.map rS_Track p0.box.tracks)⟩,some ⟨[.sc,.sc,.sc,.sc,.own [.sc]],(List.map rS_Packet p0.box.packets)⟩,some ⟨q3,(List.map rS_Entry p0.index)⟩],[some [.ro [.sc] (p0.data.map (rI .u8)),cI p0.at_,cI p0.err,cR 0 p0.box.tracks,cR 1 p0.box.packets,cI p0.due,cI p0.bytes,cR 2 p0.index]]⟩
def K_Sf_0:List Fr:=[]
def s_Sf_0 (p0:S_l16R):St:=
 ⟨mkSl 15 [(0,sP 0 0)],[some ⟨q3,(List.map rS_Track p0.box.tracks)⟩,some ⟨[.sc,.sc,.sc,.sc,.own [.sc]],(List.map rS_Packet p0.box.packets)⟩,some ⟨q3,(List.map rS_Entry p0.index)⟩],[some [.ro [.sc] (p0.data.map (rI .u8)),cI p0.at_,cI p0.err,cR 0 p0.box.tracks,cR 1 p0.box.packets,cI p0.due,cI p0.bytes,cR 2 p0.index]]⟩
def K_Sb_51:List Fr:=[.sq c_Sb_56,.bk 1,.sq c_Sb_60,.lp [0,1,4,5,6] c_Sb_17,.bk 0,.sq (.kp [4] c_Sb_61)]
def s_Sb_51 (p1 i17_1 i51_0:Int) (b51_1:Bool):St:=
 ⟨mkSl 67 [(1,sI p1),(4,sP 0 0),(5,.v false [.lit (.int .u64 i51_0)]),(6,sI i17_1),(58,sB b51_1)],[],[some [cB false,.lit (.int .u64 0),cI 0]]⟩
def K_Sb_38:List Fr:=[.sq c_Sb_43,.bk 1,.sq c_Sb_60,.lp [0,1,4,5,6] c_Sb_17,.bk 0,.sq (.kp [4] c_Sb_61)]
def s_Sb_38 (p0:(List Int)) (p1 i17_0 i17_1 i38_0:Int) (b38_1:Bool):St:=
 ⟨mkSl 67 [(0,.v false [.ro [.sc] (p0.map (rI .u8))]),(1,sI p1),(4,sP 0 0),(5,.v false [.lit (.int .u64 i17_0)]),(6,sI i17_1),(7,.v false [.lit (.int .u64 i38_0)]),(41,sB b38_1)],[],[some [cB false,.lit (.int .u64 0),cI 0]]⟩
def K_Sb_28:List Fr:=[.sq c_Sb_33,.bk 1,.sq c_Sb_60,.lp [0,1,4,5,6] c_Sb_17,.bk 0,.sq (.kp [4] c_Sb_61)]
def s_Sb_28 (p0:(List Int)) (p1 i17_0 i17_1:Int) (b28_0:Bool):St:=
 ⟨mkSl 67 [(0,.v false [.ro [.sc] (p0.map (rI .u8))]),(1,sI p1),(4,sP 0 0),(5,.v false [.lit (.int .u64 i17_0)]),(6,sI i17_1),(27,sB b28_0)],[],[some [cB false,.lit (.int .u64 0),cI 0]]⟩
def K_Sb_61:List Fr:=[]
def s_Sb_61:St:=
 ⟨mkSl 67 [(4,sP 0 0)],[],[some [cB false,.lit (.int .u64 0),cI 0]]⟩
def K_Sb_17:List Fr:=[.lp [0,1,4,5,6] c_Sb_17,.bk 0,.sq (.kp [4] c_Sb_61)]
def s_Sb_17 (p0:(List Int)) (p1 i17_0 i17_1:Int):St:=
 ⟨mkSl 67 [(0,.v false [.ro [.sc] (p0.map (rI .u8))]),(1,sI p1),(4,sP 0 0),(5,.v false [.lit (.int .u64 i17_0)]),(6,sI i17_1)],[],[some [cB false,.lit (.int .u64 0),cI 0]]⟩
def K_Sb_0:List Fr:=[]
def s_Sb_0 (p0:(List Int)) (p1:Int):St:=
 ⟨mkSl 67 [(0,.v false [.ro [.sc] (p0.map (rI .u8))]),(1,sI p1)],[],[]⟩
def K_Sj_32:List Fr:=[.sq c_Sj_35,.sq c_Sj_39]
def s_Sj_32 (p0:S_l16R) (b32_0:Bool):St:=
 ⟨mkSl 87 [(0,sP 0 0),(69,sB b32_0)],[some ⟨q3,(List.map rS_Track p0.box.tracks)⟩,some ⟨[.sc,.sc,.sc,.sc,.own [.sc]],(List.map rS_Packet p0.box.packets)⟩,some ⟨q3,(List.map rS_Entry p0.index)⟩],[some [.ro [.sc] (p0.data.map (rI .u8)),cI p0.at_,cI p0.err,cR 0 p0.box.tracks,cR 1 p0.box.packets,cI p0.due,cI p0.bytes,cR 2 p0.index]]⟩
def K_Sj_29:List Fr:=[.sq c_Sj_39]
def s_Sj_29 (p0:S_l16R) (i29_0:Int):St:=
 ⟨mkSl 87 [(0,sP 0 0),(4,sI i29_0)],[some ⟨q3,(List.map rS_Track p0.box.tracks)⟩,some ⟨[.sc,.sc,.sc,.sc,.own [.sc]],(List.map rS_Packet p0.box.packets)⟩,some ⟨q3,(List.map rS_Entry p0.index)⟩],[some [.ro [.sc] (p0.data.map (rI .u8)),cI p0.at_,cI p0.err,cR 0 p0.box.tracks,cR 1 p0.box.packets,cI p0.due,cI p0.bytes,cR 2 p0.index]]⟩
def K_Sj_21:List Fr:=[.lp [0,4] c_Sj_21,.bk 0,.sq (.kp [0,4] c_Sj_29),.sq c_Sj_39]
def s_Sj_21 (p0:S_l16R) (i21_0:Int):St:=
 ⟨mkSl 87 [(0,sP 0 0),(4,sI i21_0)],[some ⟨q3,(List.map rS_Track p0.box.tracks)⟩,some ⟨[.sc,.sc,.sc,.sc,.own [.sc]],(List.map rS_Packet p0.box.packets)⟩,some ⟨q3,(List.map rS_Entry p0.index)⟩],[some [.ro [.sc] (p0.data.map (rI .u8)),cI p0.at_,cI p0.err,cR 0 p0.box.tracks,cR 1 p0.box.packets,cI p0.due,cI p0.bytes,cR 2 p0.index]]⟩
def K_Sj_0:List Fr:=[]
def s_Sj_0 (p0:S_l16R):St:=
 ⟨mkSl 87 [(0,sP 0 0)],[some ⟨q3,(List.map rS_Track p0.box.tracks)⟩,some ⟨[.sc,.sc,.sc,.sc,.own [.sc]],(List.map rS_Packet p0.box.packets)⟩,some ⟨q3,(List.map rS_Entry p0.index)⟩],[some [.ro [.sc] (p0.data.map (rI .u8)),cI p0.at_,cI p0.err,cR 0 p0.box.tracks,cR 1 p0.box.packets,cI p0.due,cI p0.bytes,cR 2 p0.index]]⟩
def K_Sd_23:List Fr:=[]
def s_Sd_23:St:=
 ⟨mkSl 20 [],[],[]⟩
def K_Sd_7:List Fr:=[.lp [0,3] c_Sd_7,.bk 0,.sq (.kp [] c_Sd_23)]
def s_Sd_7 (p0:ByteArray) (i7_0:Int):St:=
 ⟨mkSl 20 [(0,.v false [.lit (.string p0)]),(3,sI i7_0)],[],[]⟩
def K_Sd_0:List Fr:=[]
def s_Sd_0 (p0:ByteArray):St:=
 ⟨mkSl 20 [(0,.v false [.lit (.string p0)])],[],[]⟩
def K_Sp_0:List Fr:=[]
def s_Sp_0 (p0:S_Track):St:=
 ⟨mkSl 32 [(0,.v true [cI p0.kind,cI p0.scale,.lit (.string p0.name)])],[],[]⟩
def K_Sq_21:List Fr:=[]
def s_Sq_21 (i21_0:Int):St:=
 ⟨mkSl 19 [(3,sI i21_0)],[],[]⟩
def K_Sq_9:List Fr:=[.lp [3,6,7,8] c_Sq_9,.bk 0,.sq (.kp [3] c_Sq_21)]
def s_Sq_9 (p0:(List Int)) (i9_0 i9_1:Int):St:=
 ⟨mkSl 19 [(3,sI i9_0),(6,.v false [.ro [.sc] (p0.map (rI .u8))]),(7,sI (p0.length:Int)),(8,sI i9_1)],[],[]⟩
def K_Sq_0:List Fr:=[]
def s_Sq_0 (p0:(List Int)):St:=
 ⟨mkSl 19 [(0,.v false [.ro [.sc] (p0.map (rI .u8))])],[],[]⟩
def K_Sa_43:List Fr:=[.lp [3,8,9,10] c_Sa_9,.bk 0,.sq (.kp [3] c_Sa_44)]
def s_Sa_43 (p0:(List Int)) (i9_1 i43_0:Int):St:=
 ⟨mkSl 33 [(3,.v false [.lit (.int .u32 i43_0)]),(8,.v false [.ro [.sc] (p0.map (rI .u8))]),(9,sI (p0.length:Int)),(10,sI i9_1)],[],[]⟩
def K_Sa_25:List Fr:=[.lp [3,6,8,9,10] c_Sa_25,.bk 2,.bk 1,.sq (.kp [3,8,9,10] c_Sa_43),.lp [3,8,9,10] c_Sa_9,.bk 0,.sq (.kp [3] c_Sa_44)]
def s_Sa_25 (p0:(List Int)) (i9_1 i25_0 i25_1:Int):St:=
 ⟨mkSl 33 [(3,.v false [.lit (.int .u32 i25_0)]),(6,sI i25_1),(8,.v false [.ro [.sc] (p0.map (rI .u8))]),(9,sI (p0.length:Int)),(10,sI i9_1)],[],[]⟩
def K_Sa_44:List Fr:=[]
def s_Sa_44 (i44_0:Int):St:=
 ⟨mkSl 33 [(3,.v false [.lit (.int .u32 i44_0)])],[],[]⟩
def K_Sa_9:List Fr:=[.lp [3,8,9,10] c_Sa_9,.bk 0,.sq (.kp [3] c_Sa_44)]
def s_Sa_9 (p0:(List Int)) (i9_0 i9_1:Int):St:=
 ⟨mkSl 33 [(3,.v false [.lit (.int .u32 i9_0)]),(8,.v false [.ro [.sc] (p0.map (rI .u8))]),(9,sI (p0.length:Int)),(10,sI i9_1)],[],[]⟩
def K_Sa_0:List Fr:=[]
def s_Sa_0 (p0:(List Int)):St:=
 ⟨mkSl 33 [(0,.v false [.ro [.sc] (p0.map (rI .u8))])],[],[]⟩
def K_Sm_6:List Fr:=[]
def s_Sm_6 (x0_0:(List Int)×S_l16R) (b6_0:Bool):St:=
 ⟨mkSl 33 [(0,sP 0 0),(30,sB b6_0)],[some ⟨q3,(List.map rS_Track x0_0.2.box.tracks)⟩,some ⟨[.sc,.sc,.sc,.sc,.own [.sc]],(List.map rS_Packet x0_0.2.box.packets)⟩,some ⟨q3,(List.map rS_Entry x0_0.2.index)⟩],[some [.ro [.sc] (x0_0.2.data.map (rI .u8)),cI x0_0.2.at_,cI x0_0.2.err,cR 0 x0_0.2.box.tracks,cR 1 x0_0.2.box.packets,cI x0_0.2.due,cI x0_0.2.bytes,cR 2 x0_0.2.index]]⟩
def K_Sm_0:List Fr:=[]
def s_Sm_0 (p1:Int) (p0:S_l16R):St:=
 ⟨mkSl 33 [(0,sP 0 0),(1,sI p1)],[some ⟨q3,(List.map rS_Track p0.box.tracks)⟩,some ⟨[.sc,.sc,.sc,.sc,.own [.sc]],(List.map rS_Packet p0.box.packets)⟩,some ⟨q3,(List.map rS_Entry p0.index)⟩],[some [.ro [.sc] (p0.data.map (rI .u8)),cI p0.at_,cI p0.err,cR 0 p0.box.tracks,cR 1 p0.box.packets,cI p0.due,cI p0.bytes,cR 2 p0.index]]⟩
def K_Sh_19:List Fr:=[.bk 1,.sq c_Sh_22,.lp [0,8,9,10] c_Sh_5,.bk 0,.sq (.kp [0] c_Sh_23)]
def s_Sh_19 (i5_0:Int) (x5_2:Int×S_l16R) (l5_6:(List Int)) (b19_0:Bool):St:=
 ⟨mkSl 98 [(0,sP 0 0),(8,.v false [cR 0 l5_6]),(9,sI 4),(10,sI i5_0),(26,sB b19_0)],[some ⟨[.sc],(List.map (rI .u8) l5_6)⟩,some ⟨q3,(List.map rS_Track x5_2.2.box.tracks)⟩,some ⟨[.sc,.sc,.sc,.sc,.own [.sc]],(List.map rS_Packet x5_2.2.box.packets)⟩,some ⟨q3,(List.map rS_Entry x5_2.2.index)⟩],[some [.ro [.sc] (x5_2.2.data.map (rI .u8)),cI x5_2.2.at_,cI x5_2.2.err,cR 1 x5_2.2.box.tracks,cR 2 x5_2.2.box.packets,cI x5_2.2.due,cI x5_2.2.bytes,cR 3 x5_2.2.index]]⟩
def K_Sh_58:List Fr:=[.bk 3,.sq c_Sh_59,.lp [0,5,6] c_Sh_36,.bk 2,.sq (.kp [0] c_Sh_60)]
def s_Sh_58 (x23_0:Int×S_l16R) (i36_0:Int) (x36_2:Int×S_l16R) (x36_3:Int×S_l16R) (x36_6:ByteArray) (l58_0:(List Int)) (i58_1 i58_2 i58_3 i58_4:Int) (l58_5:(List S_Track)) (l58_6:(List S_Packet)) (l58_7:(List S_Entry)):St:=
 ⟨mkSl 98 [(0,sP 0 0),(5,sI x23_0.1),(6,sI i36_0),(7,sP 1 0)],[some ⟨q3,(List.map rS_Track l58_5)⟩,some ⟨[.sc,.sc,.sc,.sc,.own [.sc]],(List.map rS_Packet l58_6)⟩,some ⟨q3,(List.map rS_Entry l58_7)⟩],[some [.ro [.sc] (l58_0.map (rI .u8)),cI i58_1,cI i58_2,cR 0 l58_5,cR 1 l58_6,cI i58_3,cI i58_4,cR 2 l58_7],some [cI x36_2.1,cI x36_3.1,.lit (.string x36_6)]]⟩
def K_Sh_55:List Fr:=[.sq (.kp [0,5,6,7] c_Sh_58),.bk 3,.sq c_Sh_59,.lp [0,5,6] c_Sh_36,.bk 2,.sq (.kp [0] c_Sh_60)]
def s_Sh_55 (x23_0:Int×S_l16R) (i36_0:Int) (x36_5:(List Int)×S_l16R) (x36_2:Int×S_l16R) (x36_3:Int×S_l16R) (x36_6:ByteArray) (b55_0:Bool):St:=
 ⟨mkSl 98 [(0,sP 0 0),(5,sI x23_0.1),(6,sI i36_0),(7,sP 1 0),(81,sB b55_0)],[some ⟨q3,(List.map rS_Track x36_5.2.box.tracks)⟩,some ⟨[.sc,.sc,.sc,.sc,.own [.sc]],(List.map rS_Packet x36_5.2.box.packets)⟩,some ⟨q3,(List.map rS_Entry x36_5.2.index)⟩],[some [.ro [.sc] (x36_5.2.data.map (rI .u8)),cI x36_5.2.at_,cI x36_5.2.err,cR 0 x36_5.2.box.tracks,cR 1 x36_5.2.box.packets,cI x36_5.2.due,cI x36_5.2.bytes,cR 2 x36_5.2.index],some [cI x36_2.1,cI x36_3.1,.lit (.string x36_6)]]⟩
def K_Sh_60:List Fr:=[]
def s_Sh_60 (l60_0:(List Int)) (i60_1 i60_2 i60_3 i60_4:Int) (l60_5:(List S_Track)) (l60_6:(List S_Packet)) (l60_7:(List S_Entry)):St:=
 ⟨mkSl 98 [(0,sP 0 0)],[some ⟨q3,(List.map rS_Track l60_5)⟩,some ⟨[.sc,.sc,.sc,.sc,.own [.sc]],(List.map rS_Packet l60_6)⟩,some ⟨q3,(List.map rS_Entry l60_7)⟩],[some [.ro [.sc] (l60_0.map (rI .u8)),cI i60_1,cI i60_2,cR 0 l60_5,cR 1 l60_6,cI i60_3,cI i60_4,cR 2 l60_7]]⟩
def K_Sh_36:List Fr:=[.lp [0,5,6] c_Sh_36,.bk 2,.sq (.kp [0] c_Sh_60)]
def s_Sh_36 (x23_0:Int×S_l16R) (i36_0:Int) (l36_1:(List Int)) (i36_2 i36_3 i36_4 i36_5:Int) (l36_6:(List S_Track)) (l36_7:(List S_Packet)) (l36_8:(List S_Entry)):St:=
 ⟨mkSl 98 [(0,sP 0 0),(5,sI x23_0.1),(6,sI i36_0)],[some ⟨q3,(List.map rS_Track l36_6)⟩,some ⟨[.sc,.sc,.sc,.sc,.own [.sc]],(List.map rS_Packet l36_7)⟩,some ⟨q3,(List.map rS_Entry l36_8)⟩],[some [.ro [.sc] (l36_1.map (rI .u8)),cI i36_2,cI i36_3,cR 0 l36_6,cR 1 l36_7,cI i36_4,cI i36_5,cR 2 l36_8]]⟩
def K_Sh_31:List Fr:=[]
def s_Sh_31 (x23_0:Int×S_l16R) (l31_0:(List Int)) (i31_1 i31_2 i31_3 i31_4:Int) (l31_5:(List S_Track)) (l31_6:(List S_Packet)) (l31_7:(List S_Entry)):St:=
 ⟨mkSl 98 [(0,sP 0 0),(5,sI x23_0.1)],[some ⟨q3,(List.map rS_Track l31_5)⟩,some ⟨[.sc,.sc,.sc,.sc,.own [.sc]],(List.map rS_Packet l31_6)⟩,some ⟨q3,(List.map rS_Entry l31_7)⟩],[some [.ro [.sc] (l31_0.map (rI .u8)),cI i31_1,cI i31_2,cR 0 l31_5,cR 1 l31_6,cI i31_3,cI i31_4,cR 2 l31_7]]⟩
def K_Sh_28:List Fr:=[.sq (.kp [0,5] c_Sh_31)]
def s_Sh_28 (x23_0:Int×S_l16R) (b28_0:Bool):St:=
 ⟨mkSl 98 [(0,sP 0 0),(5,sI x23_0.1),(44,sB b28_0)],[some ⟨q3,(List.map rS_Track x23_0.2.box.tracks)⟩,some ⟨[.sc,.sc,.sc,.sc,.own [.sc]],(List.map rS_Packet x23_0.2.box.packets)⟩,some ⟨q3,(List.map rS_Entry x23_0.2.index)⟩],[some [.ro [.sc] (x23_0.2.data.map (rI .u8)),cI x23_0.2.at_,cI x23_0.2.err,cR 0 x23_0.2.box.tracks,cR 1 x23_0.2.box.packets,cI x23_0.2.due,cI x23_0.2.bytes,cR 2 x23_0.2.index]]⟩
def K_Sh_23:List Fr:=[]
def s_Sh_23 (l23_0:(List Int)) (i23_1 i23_2 i23_3 i23_4:Int) (l23_5:(List S_Track)) (l23_6:(List S_Packet)) (l23_7:(List S_Entry)):St:=
 ⟨mkSl 98 [(0,sP 0 0)],[some ⟨q3,(List.map rS_Track l23_5)⟩,some ⟨[.sc,.sc,.sc,.sc,.own [.sc]],(List.map rS_Packet l23_6)⟩,some ⟨q3,(List.map rS_Entry l23_7)⟩],[some [.ro [.sc] (l23_0.map (rI .u8)),cI i23_1,cI i23_2,cR 0 l23_5,cR 1 l23_6,cI i23_3,cI i23_4,cR 2 l23_7]]⟩
def K_Sh_5:List Fr:=[.lp [0,8,9,10] c_Sh_5,.bk 0,.sq (.kp [0] c_Sh_23)]
def s_Sh_5 (i5_0:Int) (l5_1:(List Int)) (i5_2 i5_3 i5_4 i5_5:Int) (l5_6:(List Int)) (l5_7:(List S_Track)) (l5_8:(List S_Packet)) (l5_9:(List S_Entry)):St:=
 ⟨mkSl 98 [(0,sP 0 0),(8,.v false [cR 0 l5_6]),(9,sI 4),(10,sI i5_0)],[some ⟨[.sc],(List.map (rI .u8) l5_6)⟩,some ⟨q3,(List.map rS_Track l5_7)⟩,some ⟨[.sc,.sc,.sc,.sc,.own [.sc]],(List.map rS_Packet l5_8)⟩,some ⟨q3,(List.map rS_Entry l5_9)⟩],[some [.ro [.sc] (l5_1.map (rI .u8)),cI i5_2,cI i5_3,cR 1 l5_7,cR 2 l5_8,cI i5_4,cI i5_5,cR 3 l5_9]]⟩
def K_Sh_0:List Fr:=[]
def s_Sh_0 (p0:S_l16R):St:=
 ⟨mkSl 98 [(0,sP 0 0)],[some ⟨q3,(List.map rS_Track p0.box.tracks)⟩,some ⟨[.sc,.sc,.sc,.sc,.own [.sc]],(List.map rS_Packet p0.box.packets)⟩,some ⟨q3,(List.map rS_Entry p0.index)⟩],[some [.ro [.sc] (p0.data.map (rI .u8)),cI p0.at_,cI p0.err,cR 0 p0.box.tracks,cR 1 p0.box.packets,cI p0.due,cI p0.bytes,cR 2 p0.index]]⟩
def K_Se_0:List Fr:=[]
def s_Se_0:St:=
 ⟨mkSl 2 [],[],[]⟩
def K_Si_33:List Fr:=[]
def s_Si_33 (p0:S_l16R):St:=
 ⟨mkSl 40 [(0,sP 0 0)],[some ⟨q3,(List.map rS_Track p0.box.tracks)⟩,some ⟨[.sc,.sc,.sc,.sc,.own [.sc]],(List.map rS_Packet p0.box.packets)⟩,some ⟨q3,(List.map rS_Entry p0.index)⟩],[some [.ro [.sc] (p0.data.map (rI .u8)),cI p0.at_,cI p0.err,cR 0 p0.box.tracks,cR 1 p0.box.packets,cI p0.due,cI p0.bytes,cR 2 p0.index]]⟩
def K_Si_15:List Fr:=[.lp [0,18,19,20] c_Si_15,.bk 0,.sq (.kp [0] c_Si_33)]
def s_Si_15 (p1:(List Int)) (p0:S_l16R) (i15_0:Int):St:=
 ⟨mkSl 40 [(0,sP 0 0),(18,.v false [.ro [.sc] (p1.map (rI .u8))]),(19,sI (p1.length:Int)),(20,sI i15_0)],[some ⟨q3,(List.map rS_Track p0.box.tracks)⟩,some ⟨[.sc,.sc,.sc,.sc,.own [.sc]],(List.map rS_Packet p0.box.packets)⟩,some ⟨q3,(List.map rS_Entry p0.index)⟩],[some [.ro [.sc] (p0.data.map (rI .u8)),cI p0.at_,cI p0.err,cR 0 p0.box.tracks,cR 1 p0.box.packets,cI p0.due,cI p0.bytes,cR 2 p0.index]]⟩
def K_Si_0:List Fr:=[]
def s_Si_0 (p1:(List Int)) (p0:S_l16R):St:=
 ⟨mkSl 40 [(0,sP 0 0),(1,.v false [.ro [.sc] (p1.map (rI .u8))])],[some ⟨q3,(List.map rS_Track p0.box.tracks)⟩,some ⟨[.sc,.sc,.sc,.sc,.own [.sc]],(List.map rS_Packet p0.box.packets)⟩,some ⟨q3,(List.map rS_Entry p0.index)⟩],[some [.ro [.sc] (p0.data.map (rI .u8)),cI p0.at_,cI p0.err,cR 0 p0.box.tracks,cR 1 p0.box.packets,cI p0.due,cI p0.bytes,cR 2 p0.index]]⟩
def K_So_0:List Fr:=[]
def s_So_0 (p0:Int):St:=
 ⟨mkSl 9 [(0,sI p0)],[],[]⟩
def K_Sk_73:List Fr:=[.bk 1,.sq c_Sk_78,.lp [0,6,7,8,9,10,11,12] c_Sk_39,.bk 0,.sq (.kp [0,6,7,9,10,11] c_Sk_79)]
def s_Sk_73 (p0:S_l16R) (x0_0:Int×S_l16R) (x14_0:Int×S_l16R) (i39_0 i39_1:Int) (x39_6:Int×S_l16R) (x39_2:Int×S_l16R) (x39_3:Int×S_l16R) (x39_4:Int×S_l16R) (b64_1:Bool) (l39_7:(List S_Packet)) (l39_8 l73_0:(List Int)) (i73_1 i73_2 i73_3 i73_4:Int) (l73_5:(List S_Track)) (l73_6:(List S_Packet)) (l73_7:(List S_Entry)):St:=
 ⟨mkSl 213 [(0,sP 0 0),(6,sI p0.at_),(7,sI x0_0.1),(8,sI x14_0.1),(9,.v false [cR 0 l39_7]),(10,.v false [cR 1 l39_8]),(11,sI i39_0),(12,sI i39_1),(13,sP 1 0),(15,sI x39_6.1)],[some ⟨[.sc,.sc,.sc,.sc,.own [.sc]],(List.map rS_Packet l39_7)⟩,jI l39_8,some ⟨q3,(List.map rS_Track l73_5)⟩,some ⟨[.sc,.sc,.sc,.sc,.own [.sc]],(List.map rS_Packet l73_6)⟩,some ⟨q3,(List.map rS_Entry l73_7)⟩,some ⟨[.sc],(List.map (rI .u8) ([]:List Int))⟩],[some [.ro [.sc] (l73_0.map (rI .u8)),cI i73_1,cI i73_2,cR 2 l73_5,cR 3 l73_6,cI i73_3,cI i73_4,cR 4 l73_7],some [cI x39_2.1,cI x39_3.1,cI x39_4.1,cB b64_1,.ref 5 [] 0 (([]:List Int).length)]]⟩
def K_Sk_70:List Fr:=[.sq (.kp [0,6,7,8,9,10,11,12,13,15] c_Sk_73),.bk 1,.sq c_Sk_78,.lp [0,6,7,8,9,10,11,12] c_Sk_39,.bk 0,.sq (.kp [0,6,7,9,10,11] c_Sk_79)]
def s_Sk_70 (p0:S_l16R) (x0_0:Int×S_l16R) (x14_0:Int×S_l16R) (i39_0 i39_1:Int) (x39_6:Int×S_l16R) (l67_0:(List Int)) (i67_1 i67_2 i67_3 i67_4:Int) (x39_2:Int×S_l16R) (x39_3:Int×S_l16R) (x39_4:Int×S_l16R) (b64_1:Bool) (l39_7:(List S_Packet)) (l39_8:(List Int)) (l67_5:(List S_Track)) (l67_6:(List S_Packet)) (l67_7:(List S_Entry)) (b70_0:Bool):St:=
 ⟨mkSl 213 [(0,sP 0 0),(6,sI p0.at_),(7,sI x0_0.1),(8,sI x14_0.1),(9,.v false [cR 0 l39_7]),(10,.v false [cR 1 l39_8]),(11,sI i39_0),(12,sI i39_1),(13,sP 1 0),(15,sI x39_6.1),(158,sB b70_0)],[some ⟨[.sc,.sc,.sc,.sc,.own [.sc]],(List.map rS_Packet l39_7)⟩,jI l39_8,some ⟨q3,(List.map rS_Track l67_5)⟩,some ⟨[.sc,.sc,.sc,.sc,.own [.sc]],(List.map rS_Packet l67_6)⟩,some ⟨q3,(List.map rS_Entry l67_7)⟩,some ⟨[.sc],(List.map (rI .u8) ([]:List Int))⟩],[some [.ro [.sc] (l67_0.map (rI .u8)),cI i67_1,cI i67_2,cR 2 l67_5,cR 3 l67_6,cI i67_3,cI i67_4,cR 4 l67_7],some [cI x39_2.1,cI x39_3.1,cI x39_4.1,cB b64_1,.ref 5 [] 0 (([]:List Int).length)]]⟩
def K_Sk_67:List Fr:=[.bk 1,.sq c_Sk_78,.lp [0,6,7,8,9,10,11,12] c_Sk_39,.bk 0,.sq (.kp [0,6,7,9,10,11] c_Sk_79)]
def s_Sk_67 (p0:S_l16R) (x0_0:Int×S_l16R) (x14_0:Int×S_l16R) (i39_0 i39_1:Int) (x39_6:Int×S_l16R) (x39_2:Int×S_l16R) (x39_3:Int×S_l16R) (x39_4:Int×S_l16R) (b64_1:Bool) (l39_7:(List S_Packet)) (l39_8 l67_0:(List Int)) (i67_1 i67_2 i67_3 i67_4:Int) (l67_5:(List S_Track)) (l67_6:(List S_Packet)) (l67_7:(List S_Entry)):St:=
 ⟨mkSl 213 [(0,sP 0 0),(6,sI p0.at_),(7,sI x0_0.1),(8,sI x14_0.1),(9,.v false [cR 0 l39_7]),(10,.v false [cR 1 l39_8]),(11,sI i39_0),(12,sI i39_1),(13,sP 1 0),(15,sI x39_6.1)],[some ⟨[.sc,.sc,.sc,.sc,.own [.sc]],(List.map rS_Packet l39_7)⟩,jI l39_8,some ⟨q3,(List.map rS_Track l67_5)⟩,some ⟨[.sc,.sc,.sc,.sc,.own [.sc]],(List.map rS_Packet l67_6)⟩,some ⟨q3,(List.map rS_Entry l67_7)⟩,some ⟨[.sc],(List.map (rI .u8) ([]:List Int))⟩],[some [.ro [.sc] (l67_0.map (rI .u8)),cI i67_1,cI i67_2,cR 2 l67_5,cR 3 l67_6,cI i67_3,cI i67_4,cR 4 l67_7],some [cI x39_2.1,cI x39_3.1,cI x39_4.1,cB b64_1,.ref 5 [] 0 (([]:List Int).length)]]⟩
def K_Sk_64:List Fr:=[.sq (.kp [0,6,7,8,9,10,11,12,13,15] c_Sk_67),.bk 1,.sq c_Sk_78,.lp [0,6,7,8,9,10,11,12] c_Sk_39,.bk 0,.sq (.kp [0,6,7,9,10,11] c_Sk_79)]
def s_Sk_64 (p0:S_l16R) (x0_0:Int×S_l16R) (x14_0:Int×S_l16R) (i39_0 i39_1:Int) (x39_6:Int×S_l16R) (x39_2:Int×S_l16R) (x39_3:Int×S_l16R) (x39_4:Int×S_l16R) (l39_7:(List S_Packet)) (l39_8:(List Int)) (b64_0 b64_1:Bool):St:=
 ⟨mkSl 213 [(0,sP 0 0),(6,sI p0.at_),(7,sI x0_0.1),(8,sI x14_0.1),(9,.v false [cR 0 l39_7]),(10,.v false [cR 1 l39_8]),(11,sI i39_0),(12,sI i39_1),(13,sP 1 0),(15,sI x39_6.1),(145,sB b64_0)],[some ⟨[.sc,.sc,.sc,.sc,.own [.sc]],(List.map rS_Packet l39_7)⟩,jI l39_8,some ⟨q3,(List.map rS_Track x39_6.2.box.tracks)⟩,some ⟨[.sc,.sc,.sc,.sc,.own [.sc]],(List.map rS_Packet x39_6.2.box.packets)⟩,some ⟨q3,(List.map rS_Entry x39_6.2.index)⟩,some ⟨[.sc],(List.map (rI .u8) ([]:List Int))⟩],[some [.ro [.sc] (x39_6.2.data.map (rI .u8)),cI x39_6.2.at_,cI x39_6.2.err,cR 2 x39_6.2.box.tracks,cR 3 x39_6.2.box.packets,cI x39_6.2.due,cI x39_6.2.bytes,cR 4 x39_6.2.index],some [cI x39_2.1,cI x39_3.1,cI x39_4.1,cB b64_1,.ref 5 [] 0 (([]:List Int).length)]]⟩
def K_Sk_110:List Fr:=[]
def s_Sk_110 (x0_0:Int×S_l16R) (x102_0:S_l16R) (l102_5:(List S_Packet)) (i110_0:Int):St:=
 ⟨mkSl 213 [(0,sP 0 0),(7,sI x0_0.1),(9,.v false [cR 0 l102_5])],[some ⟨[.sc,.sc,.sc,.sc,.own [.sc]],(List.map rS_Packet l102_5)⟩,some ⟨q3,(List.map rS_Track x102_0.box.tracks)⟩,some ⟨[.sc,.sc,.sc,.sc,.own [.sc]],(List.map rS_Packet x102_0.box.packets)⟩,some ⟨q3,(List.map rS_Entry x102_0.index)⟩],[some [.ro [.sc] (x102_0.data.map (rI .u8)),cI x102_0.at_,cI x102_0.err,cR 1 x102_0.box.tracks,cR 2 x102_0.box.packets,cI x102_0.due,cI i110_0,cR 3 x102_0.index]]⟩
def K_Sk_102:List Fr:=[]
def s_Sk_102 (p0:S_l16R) (x0_0:Int×S_l16R) (i79_0:Int) (l102_0:(List Int)) (i102_1 i102_2 i102_3 i102_4:Int) (l102_5:(List S_Packet)) (l102_6:(List S_Track)) (l102_7:(List S_Packet)) (l102_8:(List S_Entry)):St:=
 ⟨mkSl 213 [(0,sP 0 0),(6,sI p0.at_),(7,sI x0_0.1),(9,.v false [cR 0 l102_5]),(11,sI i79_0)],[some ⟨[.sc,.sc,.sc,.sc,.own [.sc]],(List.map rS_Packet l102_5)⟩,some ⟨q3,(List.map rS_Track l102_6)⟩,some ⟨[.sc,.sc,.sc,.sc,.own [.sc]],(List.map rS_Packet l102_7)⟩,some ⟨q3,(List.map rS_Entry l102_8)⟩],[some [.ro [.sc] (l102_0.map (rI .u8)),cI i102_1,cI i102_2,cR 1 l102_6,cR 2 l102_7,cI i102_3,cI i102_4,cR 3 l102_8]]⟩
def K_Sk_84:List Fr:=[.lp [0,6,7,9,10,11,173,174] c_Sk_84,.bk 2,.sq (.kp [0,6,7,9,11] c_Sk_102)]
def s_Sk_84 (p0:S_l16R) (x0_0:Int×S_l16R) (i79_0:Int) (l79_6:(List S_Packet)) (l79_7:(List Int)) (i84_0:Int) (l84_1:(List Int)) (i84_2 i84_3 i84_4 i84_5:Int) (l84_6:(List S_Packet)) (l84_7:(List S_Track)) (l84_8:(List S_Packet)) (l84_9:(List S_Entry)):St:=
 ⟨mkSl 213 [(0,sP 0 0),(6,sI p0.at_),(7,sI x0_0.1),(9,.v false [cR 0 l84_6]),(10,.v false [cR 1 l79_7]),(11,sI i79_0),(173,sI (l79_6.length:Int)),(174,sI i84_0)],[some ⟨[.sc,.sc,.sc,.sc,.own [.sc]],(List.map rS_Packet l84_6)⟩,jI l79_7,some ⟨q3,(List.map rS_Track l84_7)⟩,some ⟨[.sc,.sc,.sc,.sc,.own [.sc]],(List.map rS_Packet l84_8)⟩,some ⟨q3,(List.map rS_Entry l84_9)⟩],[some [.ro [.sc] (l84_1.map (rI .u8)),cI i84_2,cI i84_3,cR 2 l84_7,cR 3 l84_8,cI i84_4,cI i84_5,cR 4 l84_9]]⟩
def K_Sk_79:List Fr:=[]
def s_Sk_79 (p0:S_l16R) (x0_0:Int×S_l16R) (i79_0:Int) (l79_1:(List Int)) (i79_2 i79_3 i79_4 i79_5:Int) (l79_6:(List S_Packet)) (l79_7:(List Int)) (l79_8:(List S_Track)) (l79_9:(List S_Packet)) (l79_10:(List S_Entry)):St:=
 ⟨mkSl 213 [(0,sP 0 0),(6,sI p0.at_),(7,sI x0_0.1),(9,.v false [cR 0 l79_6]),(10,.v false [cR 1 l79_7]),(11,sI i79_0)],[some ⟨[.sc,.sc,.sc,.sc,.own [.sc]],(List.map rS_Packet l79_6)⟩,jI l79_7,some ⟨q3,(List.map rS_Track l79_8)⟩,some ⟨[.sc,.sc,.sc,.sc,.own [.sc]],(List.map rS_Packet l79_9)⟩,some ⟨q3,(List.map rS_Entry l79_10)⟩],[some [.ro [.sc] (l79_1.map (rI .u8)),cI i79_2,cI i79_3,cR 2 l79_8,cR 3 l79_9,cI i79_4,cI i79_5,cR 4 l79_10]]⟩
def K_Sk_39:List Fr:=[.lp [0,6,7,8,9,10,11,12] c_Sk_39,.bk 0,.sq (.kp [0,6,7,9,10,11] c_Sk_79)]
def s_Sk_39 (p0:S_l16R) (x0_0:Int×S_l16R) (x14_0:Int×S_l16R) (i39_0 i39_1:Int) (l39_2:(List Int)) (i39_3 i39_4 i39_5 i39_6:Int) (l39_7:(List S_Packet)) (l39_8:(List Int)) (l39_9:(List S_Track)) (l39_10:(List S_Packet)) (l39_11:(List S_Entry)):St:=
 ⟨mkSl 213 [(0,sP 0 0),(6,sI p0.at_),(7,sI x0_0.1),(8,sI x14_0.1),(9,.v false [cR 0 l39_7]),(10,.v false [cR 1 l39_8]),(11,sI i39_0),(12,sI i39_1)],[some ⟨[.sc,.sc,.sc,.sc,.own [.sc]],(List.map rS_Packet l39_7)⟩,jI l39_8,some ⟨q3,(List.map rS_Track l39_9)⟩,some ⟨[.sc,.sc,.sc,.sc,.own [.sc]],(List.map rS_Packet l39_10)⟩,some ⟨q3,(List.map rS_Entry l39_11)⟩],[some [.ro [.sc] (l39_2.map (rI .u8)),cI i39_3,cI i39_4,cR 2 l39_9,cR 3 l39_10,cI i39_5,cI i39_6,cR 4 l39_11]]⟩
def K_Sk_28:List Fr:=[]
def s_Sk_28 (p0:S_l16R) (x0_0:Int×S_l16R) (x14_0:Int×S_l16R) (l28_0:(List Int)) (i28_1 i28_2 i28_3 i28_4:Int) (l28_5:(List S_Track)) (l28_6:(List S_Packet)) (l28_7:(List S_Entry)):St:=
 ⟨mkSl 213 [(0,sP 0 0),(6,sI p0.at_),(7,sI x0_0.1),(8,sI x14_0.1)],[some ⟨q3,(List.map rS_Track l28_5)⟩,some ⟨[.sc,.sc,.sc,.sc,.own [.sc]],(List.map rS_Packet l28_6)⟩,some ⟨q3,(List.map rS_Entry l28_7)⟩],[some [.ro [.sc] (l28_0.map (rI .u8)),cI i28_1,cI i28_2,cR 0 l28_5,cR 1 l28_6,cI i28_3,cI i28_4,cR 2 l28_7]]⟩
def K_Sk_25:List Fr:=[.sq (.kp [0,6,7,8] c_Sk_28)]
def s_Sk_25 (p0:S_l16R) (x0_0:Int×S_l16R) (x14_0:Int×S_l16R) (l22_0:(List Int)) (i22_1 i22_2 i22_3 i22_4:Int) (l22_5:(List S_Track)) (l22_6:(List S_Packet)) (l22_7:(List S_Entry)) (b25_0:Bool):St:=
 ⟨mkSl 213 [(0,sP 0 0),(6,sI p0.at_),(7,sI x0_0.1),(8,sI x14_0.1),(78,sB b25_0)],[some ⟨q3,(List.map rS_Track l22_5)⟩,some ⟨[.sc,.sc,.sc,.sc,.own [.sc]],(List.map rS_Packet l22_6)⟩,some ⟨q3,(List.map rS_Entry l22_7)⟩],[some [.ro [.sc] (l22_0.map (rI .u8)),cI i22_1,cI i22_2,cR 0 l22_5,cR 1 l22_6,cI i22_3,cI i22_4,cR 2 l22_7]]⟩
def K_Sk_22:List Fr:=[]
def s_Sk_22 (p0:S_l16R) (x0_0:Int×S_l16R) (x14_0:Int×S_l16R) (l22_0:(List Int)) (i22_1 i22_2 i22_3 i22_4:Int) (l22_5:(List S_Track)) (l22_6:(List S_Packet)) (l22_7:(List S_Entry)):St:=
 ⟨mkSl 213 [(0,sP 0 0),(6,sI p0.at_),(7,sI x0_0.1),(8,sI x14_0.1)],[some ⟨q3,(List.map rS_Track l22_5)⟩,some ⟨[.sc,.sc,.sc,.sc,.own [.sc]],(List.map rS_Packet l22_6)⟩,some ⟨q3,(List.map rS_Entry l22_7)⟩],[some [.ro [.sc] (l22_0.map (rI .u8)),cI i22_1,cI i22_2,cR 0 l22_5,cR 1 l22_6,cI i22_3,cI i22_4,cR 2 l22_7]]⟩
def K_Sk_19:List Fr:=[.sq (.kp [0,6,7,8] c_Sk_22)]
def s_Sk_19 (p0:S_l16R) (x0_0:Int×S_l16R) (x14_0:Int×S_l16R) (b19_0:Bool):St:=
 ⟨mkSl 213 [(0,sP 0 0),(6,sI p0.at_),(7,sI x0_0.1),(8,sI x14_0.1),(60,sB b19_0)],[some ⟨q3,(List.map rS_Track x14_0.2.box.tracks)⟩,some ⟨[.sc,.sc,.sc,.sc,.own [.sc]],(List.map rS_Packet x14_0.2.box.packets)⟩,some ⟨q3,(List.map rS_Entry x14_0.2.index)⟩],[some [.ro [.sc] (x14_0.2.data.map (rI .u8)),cI x14_0.2.at_,cI x14_0.2.err,cR 0 x14_0.2.box.tracks,cR 1 x14_0.2.box.packets,cI x14_0.2.due,cI x14_0.2.bytes,cR 2 x14_0.2.index]]⟩
def K_Sk_14:List Fr:=[]
def s_Sk_14 (p0:S_l16R) (x0_0:Int×S_l16R) (l14_0:(List Int)) (i14_1 i14_2 i14_3 i14_4:Int) (l14_5:(List S_Track)) (l14_6:(List S_Packet)) (l14_7:(List S_Entry)):St:=
 ⟨mkSl 213 [(0,sP 0 0),(6,sI p0.at_),(7,sI x0_0.1)],[some ⟨q3,(List.map rS_Track l14_5)⟩,some ⟨[.sc,.sc,.sc,.sc,.own [.sc]],(List.map rS_Packet l14_6)⟩,some ⟨q3,(List.map rS_Entry l14_7)⟩],[some [.ro [.sc] (l14_0.map (rI .u8)),cI i14_1,cI i14_2,cR 0 l14_5,cR 1 l14_6,cI i14_3,cI i14_4,cR 2 l14_7]]⟩
def K_Sk_11:List Fr:=[.sq (.kp [0,6,7] c_Sk_14)]
def s_Sk_11 (p0:S_l16R) (x0_0:Int×S_l16R) (b11_0:Bool):St:=
 ⟨mkSl 213 [(0,sP 0 0),(6,sI p0.at_),(7,sI x0_0.1),(43,sB b11_0)],[some ⟨q3,(List.map rS_Track x0_0.2.box.tracks)⟩,some ⟨[.sc,.sc,.sc,.sc,.own [.sc]],(List.map rS_Packet x0_0.2.box.packets)⟩,some ⟨q3,(List.map rS_Entry x0_0.2.index)⟩],[some [.ro [.sc] (x0_0.2.data.map (rI .u8)),cI x0_0.2.at_,cI x0_0.2.err,cR 0 x0_0.2.box.tracks,cR 1 x0_0.2.box.packets,cI x0_0.2.due,cI x0_0.2.bytes,cR 2 x0_0.2.index]]⟩
def K_Sk_0:List Fr:=[]
def s_Sk_0 (p1:Int) (p0:S_l16R):St:=
 ⟨mkSl 213 [(0,sP 0 0),(1,sI p1)],[some ⟨q3,(List.map rS_Track p0.box.tracks)⟩,some ⟨[.sc,.sc,.sc,.sc,.own [.sc]],(List.map rS_Packet p0.box.packets)⟩,some ⟨q3,(List.map rS_Entry p0.index)⟩],[some [.ro [.sc] (p0.data.map (rI .u8)),cI p0.at_,cI p0.err,cR 0 p0.box.tracks,cR 1 p0.box.packets,cI p0.due,cI p0.bytes,cR 2 p0.index]]⟩
def K_Sl_42:List Fr:=[.bk 1,.lp [0] c_Sl_2,.bk 0]
def s_Sl_42 (x2_4:Int×(List S_Packet)×S_l16R) (i42_0:Int) (l42_1:(List S_Entry)):St:=
 ⟨mkSl 77 [(0,sP 0 0),(4,.v false [cR 0 x2_4.2.1])],[some ⟨[.sc,.sc,.sc,.sc,.own [.sc]],(List.map rS_Packet x2_4.2.1)⟩,some ⟨q3,(List.map rS_Track x2_4.2.2.box.tracks)⟩,some ⟨[.sc,.sc,.sc,.sc,.own [.sc]],(List.map rS_Packet x2_4.2.2.box.packets)⟩,some ⟨q3,(List.map rS_Entry l42_1)⟩],[some [.ro [.sc] (x2_4.2.2.data.map (rI .u8)),cI x2_4.2.2.at_,cI x2_4.2.2.err,cR 1 x2_4.2.2.box.tracks,cR 2 x2_4.2.2.box.packets,cI i42_0,cI x2_4.2.2.bytes,cR 3 l42_1]]⟩
def K_Sl_26:List Fr:=[.lp [0,2,4,42,43,44] c_Sl_26,.bk 2,.sq (.kp [0,4] c_Sl_42),.bk 1,.lp [0] c_Sl_2,.bk 0]
def s_Sl_26 (x2_2:Bool×S_l16R) (x2_4:Int×(List S_Packet)×S_l16R) (i26_0 i26_1:Int) (l26_2:(List S_Entry)):St:=
 ⟨mkSl 77 [(0,sP 0 0),(2,sI x2_2.2.at_),(4,.v false [cR 0 x2_4.2.1]),(42,.v false [cR 0 x2_4.2.1]),(43,sI (x2_4.2.1.length:Int)),(44,sI i26_0)],[some ⟨[.sc,.sc,.sc,.sc,.own [.sc]],(List.map rS_Packet x2_4.2.1)⟩,some ⟨q3,(List.map rS_Track x2_4.2.2.box.tracks)⟩,some ⟨[.sc,.sc,.sc,.sc,.own [.sc]],(List.map rS_Packet x2_4.2.2.box.packets)⟩,some ⟨q3,(List.map rS_Entry l26_2)⟩],[some [.ro [.sc] (x2_4.2.2.data.map (rI .u8)),cI x2_4.2.2.at_,cI x2_4.2.2.err,cR 1 x2_4.2.2.box.tracks,cR 2 x2_4.2.2.box.packets,cI i26_1,cI x2_4.2.2.bytes,cR 3 l26_2]]⟩
def K_Sl_2:List Fr:=[.lp [0] c_Sl_2,.bk 0]
def s_Sl_2 (l2_0:(List Int)) (i2_1 i2_2 i2_3 i2_4:Int) (l2_5:(List S_Track)) (l2_6:(List S_Packet)) (l2_7:(List S_Entry)):St:=
 ⟨mkSl 77 [(0,sP 0 0)],[some ⟨q3,(List.map rS_Track l2_5)⟩,some ⟨[.sc,.sc,.sc,.sc,.own [.sc]],(List.map rS_Packet l2_6)⟩,some ⟨q3,(List.map rS_Entry l2_7)⟩],[some [.ro [.sc] (l2_0.map (rI .u8)),cI i2_1,cI i2_2,cR 0 l2_5,cR 1 l2_6,cI i2_3,cI i2_4,cR 2 l2_7]]⟩
def K_Sl_0:List Fr:=[]
def s_Sl_0 (p0:S_l16R):St:=
 ⟨mkSl 77 [(0,sP 0 0)],[some ⟨q3,(List.map rS_Track p0.box.tracks)⟩,some ⟨[.sc,.sc,.sc,.sc,.own [.sc]],(List.map rS_Packet p0.box.packets)⟩,some ⟨q3,(List.map rS_Entry p0.index)⟩],[some [.ro [.sc] (p0.data.map (rI .u8)),cI p0.at_,cI p0.err,cR 0 p0.box.tracks,cR 1 p0.box.packets,cI p0.due,cI p0.bytes,cR 2 p0.index]]⟩
def K_Sc_0:List Fr:=[]
def s_Sc_0 (p0:(List Int)):St:=
 ⟨mkSl 23 [(0,.v false [.ro [.sc] (p0.map (rI .u8))])],[],[]⟩
def K_Ii_0:List Fr:=[]
def s_Ii_0 (p1:Int) (p0:S_zreader):St:=
 ⟨mkSl 13 [(0,sP 0 0),(1,sI p1)],[],[some [.ro [.sc] (p0.b.map (rI .u8)),cI p0.at_,cI p0.err]]⟩
def K_Ie_33:List Fr:=[]
def s_Ie_33:St:=
 ⟨mkSl 24 [],[],[]⟩
def K_Ie_7:List Fr:=[.lp [0,1,7,8] c_Ie_7,.bk 0,.sq (.kp [] c_Ie_33)]
def s_Ie_7 (p0:(List Int)) (p1:ByteArray) (i7_0:Int):St:=
 ⟨mkSl 24 [(0,.v false [.ro [.sc] (p0.map (rI .u8))]),(1,.v false [.lit (.string p1)]),(7,sI (p1.size:Int)),(8,sI i7_0)],[],[]⟩
def K_Ie_0:List Fr:=[]
def s_Ie_0 (p0:(List Int)) (p1:ByteArray):St:=
 ⟨mkSl 24 [(0,.v false [.ro [.sc] (p0.map (rI .u8))]),(1,.v false [.lit (.string p1)])],[],[]⟩
def K_Ih_5:List Fr:=[.sq c_Ih_12]
def s_Ih_5 (p1:Int) (p0:S_zreader) (b5_0:Bool):St:=
 ⟨mkSl 51 [(0,sP 0 0),(1,sI p1),(24,sB b5_0)],[],[some [.ro [.sc] (p0.b.map (rI .u8)),cI p0.at_,cI p0.err]]⟩
def K_Ih_0:List Fr:=[]
def s_Ih_0 (p1:Int) (p0:S_zreader):St:=
 ⟨mkSl 51 [(0,sP 0 0),(1,sI p1)],[],[some [.ro [.sc] (p0.b.map (rI .u8)),cI p0.at_,cI p0.err]]⟩
def K_Ig_0:List Fr:=[]
def s_Ig_0 (p0:S_zreader):St:=
 ⟨mkSl 13 [(0,sP 0 0)],[],[some [.ro [.sc] (p0.b.map (rI .u8)),cI p0.at_,cI p0.err]]⟩
def K_Ib_49:List Fr:=[]
def s_Ib_49:St:=
 ⟨mkSl 64 [(4,sP 0 0)],[],[some [cB false,.lit (.int .u64 0),cI 0]]⟩
def K_Ib_44:List Fr:=[.bk 1,.sq c_Ib_48,.lp [0,1,4,5,6] c_Ib_17,.bk 0,.sq (.kp [4] c_Ib_49)]
def s_Ib_44 (p1 i17_1 i44_0:Int):St:=
 ⟨mkSl 64 [(1,sI p1),(4,sP 0 0),(5,.v false [.lit (.int .u64 i44_0)]),(6,sI i17_1)],[],[some [cB false,.lit (.int .u64 0),cI 0]]⟩
def K_Ib_33:List Fr:=[.bk 1,.sq c_Ib_48,.lp [0,1,4,5,6] c_Ib_17,.bk 0,.sq (.kp [4] c_Ib_49)]
def s_Ib_33 (p0:(List Int)) (p1 i17_0 i17_1 x17_2:Int):St:=
 ⟨mkSl 64 [(0,.v false [.ro [.sc] (p0.map (rI .u8))]),(1,sI p1),(4,sP 0 0),(5,.v false [.lit (.int .u64 i17_0)]),(6,sI i17_1),(7,.v false [.lit (.int .u8 x17_2)])],[],[some [cB false,.lit (.int .u64 0),cI 0]]⟩
def K_Ib_17:List Fr:=[.lp [0,1,4,5,6] c_Ib_17,.bk 0,.sq (.kp [4] c_Ib_49)]
def s_Ib_17 (p0:(List Int)) (p1 i17_0 i17_1:Int):St:=
 ⟨mkSl 64 [(0,.v false [.ro [.sc] (p0.map (rI .u8))]),(1,sI p1),(4,sP 0 0),(5,.v false [.lit (.int .u64 i17_0)]),(6,sI i17_1)],[],[some [cB false,.lit (.int .u64 0),cI 0]]⟩
def K_Ib_5:List Fr:=[.sq c_Ib_10]
def s_Ib_5 (p0:(List Int)) (p1:Int) (b5_0:Bool):St:=
 ⟨mkSl 64 [(0,.v false [.ro [.sc] (p0.map (rI .u8))]),(1,sI p1),(4,sP 0 0),(15,sB b5_0)],[],[some [cB false,.lit (.int .u64 0),cI 0]]⟩
def K_Ib_0:List Fr:=[]
def s_Ib_0 (p0:(List Int)) (p1:Int):St:=
 ⟨mkSl 64 [(0,.v false [.ro [.sc] (p0.map (rI .u8))]),(1,sI p1)],[],[]⟩
def K_Ik_41:List Fr:=[.sq c_Ik_47]
def s_Ik_41 (l41_0:(List Int)) (i41_1 i41_2:Int):St:=
 ⟨mkSl 82 [(0,sP 0 0)],[],[some [.ro [.sc] (l41_0.map (rI .u8)),cI i41_1,cI i41_2]]⟩
def K_Ik_35:List Fr:=[.sq c_Ik_47]
def s_Ik_35 (l35_0:(List Int)) (i35_1 i35_2:Int):St:=
 ⟨mkSl 82 [(0,sP 0 0)],[],[some [.ro [.sc] (l35_0.map (rI .u8)),cI i35_1,cI i35_2]]⟩
def K_Ik_21:List Fr:=[.lp [0,4] c_Ik_21,.bk 0,.sq (.kp [0] c_Ik_35),.sq c_Ik_47]
def s_Ik_21 (i21_0:Int) (l21_1:(List Int)) (i21_2 i21_3:Int):St:=
 ⟨mkSl 82 [(0,sP 0 0),(4,sI i21_0)],[],[some [.ro [.sc] (l21_1.map (rI .u8)),cI i21_2,cI i21_3]]⟩
def K_Ik_0:List Fr:=[]
def s_Ik_0 (p0:S_zreader):St:=
 ⟨mkSl 82 [(0,sP 0 0)],[],[some [.ro [.sc] (p0.b.map (rI .u8)),cI p0.at_,cI p0.err]]⟩
def K_Io_33:List Fr:=[]
def s_Io_33:St:=
 ⟨mkSl 47 [],[],[]⟩
def K_Io_15:List Fr:=[.lp [1,30,31] c_Io_15,.bk 0,.sq (.kp [] c_Io_33)]
def s_Io_15 (p0:S_Track) (i15_0:Int):St:=
 ⟨mkSl 47 [(1,sP 0 0),(30,sI (p0.name.size:Int)),(31,sI i15_0)],[],[some [cI p0.kind,cI p0.scale,.lit (.string p0.name)]]⟩
def K_Io_0:List Fr:=[]
def s_Io_0 (p0:S_Track):St:=
 ⟨mkSl 47 [(0,.v true [cI p0.kind,cI p0.scale,.lit (.string p0.name)])],[],[]⟩
def K_Id_0:List Fr:=[]
def s_Id_0 (p0:(List Int)):St:=
 ⟨mkSl 25 [(0,.v false [.ro [.sc] (p0.map (rI .u8))])],[],[]⟩
def K_Ia_35:List Fr:=[.lp [3,6,7,8] c_Ia_9,.bk 0,.sq (.kp [3] c_Ia_36)]
def s_Ia_35 (p0:(List Int)) (i9_1 i35_0:Int):St:=
 ⟨mkSl 28 [(3,.v false [.lit (.int .u32 i35_0)]),(6,.v false [.ro [.sc] (p0.map (rI .u8))]),(7,sI (p0.length:Int)),(8,sI i9_1)],[],[]⟩
def K_Ia_25:List Fr:=[.lp [3,6,7,8,16] c_Ia_25,.bk 2,.bk 1,.sq (.kp [3,6,7,8] c_Ia_35),.lp [3,6,7,8] c_Ia_9,.bk 0,.sq (.kp [3] c_Ia_36)]
def s_Ia_25 (p0:(List Int)) (i9_1 i25_0 i25_1:Int):St:=
 ⟨mkSl 28 [(3,.v false [.lit (.int .u32 i25_0)]),(6,.v false [.ro [.sc] (p0.map (rI .u8))]),(7,sI (p0.length:Int)),(8,sI i9_1),(16,sI i25_1)],[],[]⟩
def K_Ia_36:List Fr:=[]
def s_Ia_36 (i36_0:Int):St:=
 ⟨mkSl 28 [(3,.v false [.lit (.int .u32 i36_0)])],[],[]⟩
def K_Ia_9:List Fr:=[.lp [3,6,7,8] c_Ia_9,.bk 0,.sq (.kp [3] c_Ia_36)]
def s_Ia_9 (p0:(List Int)) (i9_0 i9_1:Int):St:=
 ⟨mkSl 28 [(3,.v false [.lit (.int .u32 i9_0)]),(6,.v false [.ro [.sc] (p0.map (rI .u8))]),(7,sI (p0.length:Int)),(8,sI i9_1)],[],[]⟩
def K_Ia_0:List Fr:=[]
def s_Ia_0 (p0:(List Int)):St:=
 ⟨mkSl 28 [(0,.v false [.ro [.sc] (p0.map (rI .u8))])],[],[]⟩
def K_Im_6:List Fr:=[]
def s_Im_6 (x0_0:(List Int)×S_zreader) (b6_0:Bool):St:=
 ⟨mkSl 33 [(0,sP 0 0),(30,sB b6_0)],[],[some [.ro [.sc] (x0_0.2.b.map (rI .u8)),cI x0_0.2.at_,cI x0_0.2.err]]⟩
def K_Im_0:List Fr:=[]
def s_Im_0 (p1:Int) (p0:S_zreader):St:=
 ⟨mkSl 33 [(0,sP 0 0),(1,sI p1)],[],[some [.ro [.sc] (p0.b.map (rI .u8)),cI p0.at_,cI p0.err]]⟩
def K_Ij_57:List Fr:=[.bk 1,.sq c_Ij_58,.lp [0,4,33,34] c_Ij_31,.bk 0,.sq (.kp [0,4] c_Ij_59)]
def s_Ij_57 (x0_4:Int×S_zreader) (i31_0:Int) (x31_2:Int×S_zreader) (x31_3:Int×S_zreader) (x31_6:ByteArray) (l31_4:(List S_Track)) (l57_0:(List Int)) (i57_1 i57_2:Int):St:=
 ⟨mkSl 65 [(0,sP 0 0),(4,.v false [cR 0 l31_4]),(5,sP 1 0),(33,sI x0_4.1),(34,sI i31_0)],[some ⟨q3,(List.map rS_Track l31_4)⟩],[some [.ro [.sc] (l57_0.map (rI .u8)),cI i57_1,cI i57_2],some [cI x31_2.1,cI x31_3.1,.lit (.string x31_6)]]⟩
def K_Ij_59:List Fr:=[]
def s_Ij_59 (l59_0:(List Int)) (i59_1 i59_2:Int) (l59_3:(List S_Track)):St:=
 ⟨mkSl 65 [(0,sP 0 0),(4,.v false [cR 0 l59_3])],[some ⟨q3,(List.map rS_Track l59_3)⟩],[some [.ro [.sc] (l59_0.map (rI .u8)),cI i59_1,cI i59_2]]⟩
def K_Ij_31:List Fr:=[.lp [0,4,33,34] c_Ij_31,.bk 0,.sq (.kp [0,4] c_Ij_59)]
def s_Ij_31 (x0_4:Int×S_zreader) (i31_0:Int) (l31_1:(List Int)) (i31_2 i31_3:Int) (l31_4:(List S_Track)):St:=
 ⟨mkSl 65 [(0,sP 0 0),(4,.v false [cR 0 l31_4]),(33,sI x0_4.1),(34,sI i31_0)],[some ⟨q3,(List.map rS_Track l31_4)⟩],[some [.ro [.sc] (l31_1.map (rI .u8)),cI i31_2,cI i31_3]]⟩
def K_Ij_24:List Fr:=[]
def s_Ij_24 (x0_4:Int×S_zreader) (l24_0:(List Int)) (i24_1 i24_2:Int):St:=
 ⟨mkSl 65 [(0,sP 0 0),(3,sI x0_4.1)],[],[some [.ro [.sc] (l24_0.map (rI .u8)),cI i24_1,cI i24_2]]⟩
def K_Ij_21:List Fr:=[.sq (.kp [0,3] c_Ij_24)]
def s_Ij_21 (x0_4:Int×S_zreader) (b21_0:Bool):St:=
 ⟨mkSl 65 [(0,sP 0 0),(3,sI x0_4.1),(30,sB b21_0)],[],[some [.ro [.sc] (x0_4.2.b.map (rI .u8)),cI x0_4.2.at_,cI x0_4.2.err]]⟩
def K_Ij_0:List Fr:=[]
def s_Ij_0 (p0:S_zreader):St:=
 ⟨mkSl 65 [(0,sP 0 0)],[],[some [.ro [.sc] (p0.b.map (rI .u8)),cI p0.at_,cI p0.err]]⟩
def K_In_0:List Fr:=[]
def s_In_0 (p0:Int):St:=
 ⟨mkSl 9 [(0,sI p0)],[],[]⟩
def K_Il_65:List Fr:=[.bk 1,.sq c_Il_68,.lp [0,1,2,4,5,14,16,17,43,44] c_Il_27,.bk 0,.sq (.kp [0,1,14,16,17] c_Il_69)]
def s_Il_65 (p1 p2 i62_0 i62_1:Int) (x0_0:Int×S_zreader) (x27_6:Int×S_zreader) (x10_0:Int×S_zreader) (i27_2:Int) (x27_2:Int×S_zreader) (x27_3:Int×S_zreader) (x27_4:Int×S_zreader) (b62_3:Bool) (l27_6:(List S_Packet)) (l27_7 l65_0:(List Int)) (i65_1 i65_2:Int):St:=
 ⟨mkSl 133 [(0,sP 0 0),(1,sI p1),(2,sI p2),(4,sI i62_0),(5,sI i62_1),(14,sI x0_0.1),(16,.v false [cR 0 l27_6]),(17,.v false [cR 1 l27_7]),(18,sP 1 0),(20,sI x27_6.1),(43,sI x10_0.1),(44,sI i27_2)],[some ⟨[.sc,.sc,.sc,.sc,.own [.sc]],(List.map rS_Packet l27_6)⟩,jI l27_7,some ⟨[.sc],(List.map (rI .u8) ([]:List Int))⟩],[some [.ro [.sc] (l65_0.map (rI .u8)),cI i65_1,cI i65_2],some [cI x27_2.1,cI x27_3.1,cI x27_4.1,cB b62_3,.ref 2 [] 0 (([]:List Int).length)]]⟩
def K_Il_62:List Fr:=[.sq (.kp [0,1,2,4,5,14,16,17,18,20,43,44] c_Il_65),.bk 1,.sq c_Il_68,.lp [0,1,2,4,5,14,16,17,43,44] c_Il_27,.bk 0,.sq (.kp [0,1,14,16,17] c_Il_69)]
def s_Il_62 (p1 p2:Int) (x0_0:Int×S_zreader) (x27_6:Int×S_zreader) (x10_0:Int×S_zreader) (i27_2:Int) (l53_0:(List Int)) (i53_1 i53_2:Int) (x27_2:Int×S_zreader) (x27_3:Int×S_zreader) (x27_4:Int×S_zreader) (l27_6:(List S_Packet)) (l27_7:(List Int)) (i62_0 i62_1:Int) (b62_2 b62_3:Bool):St:=
 ⟨mkSl 133 [(0,sP 0 0),(1,sI p1),(2,sI p2),(4,sI i62_0),(5,sI i62_1),(14,sI x0_0.1),(16,.v false [cR 0 l27_6]),(17,.v false [cR 1 l27_7]),(18,sP 1 0),(20,sI x27_6.1),(43,sI x10_0.1),(44,sI i27_2),(98,sB b62_2)],[some ⟨[.sc,.sc,.sc,.sc,.own [.sc]],(List.map rS_Packet l27_6)⟩,jI l27_7,some ⟨[.sc],(List.map (rI .u8) ([]:List Int))⟩],[some [.ro [.sc] (l53_0.map (rI .u8)),cI i53_1,cI i53_2],some [cI x27_2.1,cI x27_3.1,cI x27_4.1,cB b62_3,.ref 2 [] 0 (([]:List Int).length)]]⟩
def K_Il_53:List Fr:=[.bk 1,.sq c_Il_68,.lp [0,1,2,4,5,14,16,17,43,44] c_Il_27,.bk 0,.sq (.kp [0,1,14,16,17] c_Il_69)]
def s_Il_53 (p1 p2 i27_0 i27_1:Int) (x0_0:Int×S_zreader) (x27_5:Int×S_zreader) (x27_6:Int×S_zreader) (x10_0:Int×S_zreader) (i27_2:Int) (x27_2:Int×S_zreader) (x27_3:Int×S_zreader) (x27_4:Int×S_zreader) (l27_6:(List S_Packet)) (l27_7 l53_0:(List Int)) (i53_1 i53_2:Int):St:=
 ⟨mkSl 133 [(0,sP 0 0),(1,sI p1),(2,sI p2),(4,sI i27_0),(5,sI i27_1),(14,sI x0_0.1),(16,.v false [cR 0 l27_6]),(17,.v false [cR 1 l27_7]),(18,sP 1 0),(19,sI x27_5.1),(20,sI x27_6.1),(43,sI x10_0.1),(44,sI i27_2)],[some ⟨[.sc,.sc,.sc,.sc,.own [.sc]],(List.map rS_Packet l27_6)⟩,jI l27_7,some ⟨[.sc],(List.map (rI .u8) ([]:List Int))⟩],[some [.ro [.sc] (l53_0.map (rI .u8)),cI i53_1,cI i53_2],some [cI x27_2.1,cI x27_3.1,cI x27_4.1,cB false,.ref 2 [] 0 (([]:List Int).length)]]⟩
def K_Il_50:List Fr:=[.sq (.kp [0,1,2,4,5,14,16,17,18,19,20,43,44] c_Il_53),.bk 1,.sq c_Il_68,.lp [0,1,2,4,5,14,16,17,43,44] c_Il_27,.bk 0,.sq (.kp [0,1,14,16,17] c_Il_69)]
def s_Il_50 (p1 p2 i27_0 i27_1:Int) (x0_0:Int×S_zreader) (x27_5:Int×S_zreader) (x27_6:Int×S_zreader) (x10_0:Int×S_zreader) (i27_2:Int) (x27_2:Int×S_zreader) (x27_3:Int×S_zreader) (x27_4:Int×S_zreader) (l27_6:(List S_Packet)) (l27_7:(List Int)) (b50_0:Bool):St:=
 ⟨mkSl 133 [(0,sP 0 0),(1,sI p1),(2,sI p2),(4,sI i27_0),(5,sI i27_1),(14,sI x0_0.1),(16,.v false [cR 0 l27_6]),(17,.v false [cR 1 l27_7]),(18,sP 1 0),(19,sI x27_5.1),(20,sI x27_6.1),(43,sI x10_0.1),(44,sI i27_2),(81,sB b50_0)],[some ⟨[.sc,.sc,.sc,.sc,.own [.sc]],(List.map rS_Packet l27_6)⟩,jI l27_7,some ⟨[.sc],(List.map (rI .u8) ([]:List Int))⟩],[some [.ro [.sc] (x27_6.2.b.map (rI .u8)),cI x27_6.2.at_,cI x27_6.2.err],some [cI x27_2.1,cI x27_3.1,cI x27_4.1,cB false,.ref 2 [] 0 (([]:List Int).length)]]⟩
def K_Il_86:List Fr:=[]
def s_Il_86 (p1:Int) (x0_0:Int×S_zreader) (l86_0:(List Int)) (i86_1 i86_2:Int) (l86_3:(List S_Packet)):St:=
 ⟨mkSl 133 [(0,sP 0 0),(1,sI p1),(14,sI x0_0.1),(16,.v false [cR 0 l86_3])],[some ⟨[.sc,.sc,.sc,.sc,.own [.sc]],(List.map rS_Packet l86_3)⟩],[some [.ro [.sc] (l86_0.map (rI .u8)),cI i86_1,cI i86_2]]⟩
def K_Il_74:List Fr:=[.lp [0,1,14,16,17,111,112] c_Il_74,.bk 2,.sq (.kp [0,1,14,16] c_Il_86)]
def s_Il_74 (p1:Int) (x0_0:Int×S_zreader) (l69_3:(List S_Packet)) (l69_4:(List Int)) (i74_0:Int) (l74_1:(List Int)) (i74_2 i74_3:Int) (l74_4:(List S_Packet)):St:=
 ⟨mkSl 133 [(0,sP 0 0),(1,sI p1),(14,sI x0_0.1),(16,.v false [cR 0 l74_4]),(17,.v false [cR 1 l69_4]),(111,sI (l69_3.length:Int)),(112,sI i74_0)],[some ⟨[.sc,.sc,.sc,.sc,.own [.sc]],(List.map rS_Packet l74_4)⟩,jI l69_4],[some [.ro [.sc] (l74_1.map (rI .u8)),cI i74_2,cI i74_3]]⟩
def K_Il_69:List Fr:=[]
def s_Il_69 (p1:Int) (x0_0:Int×S_zreader) (l69_0:(List Int)) (i69_1 i69_2:Int) (l69_3:(List S_Packet)) (l69_4:(List Int)):St:=
 ⟨mkSl 133 [(0,sP 0 0),(1,sI p1),(14,sI x0_0.1),(16,.v false [cR 0 l69_3]),(17,.v false [cR 1 l69_4])],[some ⟨[.sc,.sc,.sc,.sc,.own [.sc]],(List.map rS_Packet l69_3)⟩,jI l69_4],[some [.ro [.sc] (l69_0.map (rI .u8)),cI i69_1,cI i69_2]]⟩
def K_Il_27:List Fr:=[.lp [0,1,2,4,5,14,16,17,43,44] c_Il_27,.bk 0,.sq (.kp [0,1,14,16,17] c_Il_69)]
def s_Il_27 (p1 p2:Int) (x0_0:Int×S_zreader) (x10_0:Int×S_zreader) (i27_0 i27_1 i27_2:Int) (l27_3:(List Int)) (i27_4 i27_5:Int) (l27_6:(List S_Packet)) (l27_7:(List Int)):St:=
 ⟨mkSl 133 [(0,sP 0 0),(1,sI p1),(2,sI p2),(4,sI i27_0),(5,sI i27_1),(14,sI x0_0.1),(16,.v false [cR 0 l27_6]),(17,.v false [cR 1 l27_7]),(43,sI x10_0.1),(44,sI i27_2)],[some ⟨[.sc,.sc,.sc,.sc,.own [.sc]],(List.map rS_Packet l27_6)⟩,jI l27_7],[some [.ro [.sc] (l27_3.map (rI .u8)),cI i27_4,cI i27_5]]⟩
def K_Il_18:List Fr:=[]
def s_Il_18 (p1 p2 p4 p5:Int) (x0_0:Int×S_zreader) (x10_0:Int×S_zreader) (l18_0:(List Int)) (i18_1 i18_2:Int):St:=
 ⟨mkSl 133 [(0,sP 0 0),(1,sI p1),(2,sI p2),(4,sI p4),(5,sI p5),(14,sI x0_0.1),(15,sI x10_0.1)],[],[some [.ro [.sc] (l18_0.map (rI .u8)),cI i18_1,cI i18_2]]⟩
def K_Il_15:List Fr:=[.sq (.kp [0,1,2,4,5,14,15] c_Il_18)]
def s_Il_15 (p1 p2 p4 p5:Int) (x0_0:Int×S_zreader) (x10_0:Int×S_zreader) (b15_0:Bool):St:=
 ⟨mkSl 133 [(0,sP 0 0),(1,sI p1),(2,sI p2),(4,sI p4),(5,sI p5),(14,sI x0_0.1),(15,sI x10_0.1),(40,sB b15_0)],[],[some [.ro [.sc] (x10_0.2.b.map (rI .u8)),cI x10_0.2.at_,cI x10_0.2.err]]⟩
def K_Il_10:List Fr:=[]
def s_Il_10 (p1 p2 p4 p5:Int) (x0_0:Int×S_zreader) (l10_0:(List Int)) (i10_1 i10_2:Int):St:=
 ⟨mkSl 133 [(0,sP 0 0),(1,sI p1),(2,sI p2),(4,sI p4),(5,sI p5),(14,sI x0_0.1)],[],[some [.ro [.sc] (l10_0.map (rI .u8)),cI i10_1,cI i10_2]]⟩
def K_Il_7:List Fr:=[.sq (.kp [0,1,2,4,5,14] c_Il_10)]
def s_Il_7 (p1 p2 p4 p5:Int) (x0_0:Int×S_zreader) (b7_0:Bool):St:=
 ⟨mkSl 133 [(0,sP 0 0),(1,sI p1),(2,sI p2),(4,sI p4),(5,sI p5),(14,sI x0_0.1),(30,sB b7_0)],[],[some [.ro [.sc] (x0_0.2.b.map (rI .u8)),cI x0_0.2.at_,cI x0_0.2.err]]⟩
def K_Il_0:List Fr:=[]
def s_Il_0 (p1 p2 p3 p4 p5:Int) (p0:S_zreader):St:=
 ⟨mkSl 133 [(0,sP 0 0),(1,sI p1),(2,sI p2),(3,sI p3),(4,sI p4),(5,sI p5)],[],[some [.ro [.sc] (p0.b.map (rI .u8)),cI p0.at_,cI p0.err]]⟩
def K_If_72:List Fr:=[]
def s_If_72 (x0_0:(List S_Track)×S_zreader) (l72_0:(List Int)) (i72_1 i72_2:Int) (l72_3:(List S_Entry)) (l72_4:(List S_Packet)):St:=
 ⟨mkSl 95 [(0,sP 0 0),(2,sP 1 0),(4,sP 2 0),(5,.v false [cR 0 l72_3])],[some ⟨q3,(List.map rS_Entry l72_3)⟩,some ⟨q3,(List.map rS_Track ([]:List S_Track))⟩,some ⟨[.sc,.sc,.sc,.sc,.own [.sc]],(List.map rS_Packet ([]:List S_Packet))⟩,some ⟨q3,(List.map rS_Track x0_0.1)⟩,some ⟨[.sc,.sc,.sc,.sc,.own [.sc]],(List.map rS_Packet l72_4)⟩],[some [.ro [.sc] (l72_0.map (rI .u8)),cI i72_1,cI i72_2],some [.ref 1 [] 0 (([]:List S_Track).length),.ref 2 [] 0 (([]:List S_Packet).length)],some [cR 3 x0_0.1,cR 4 l72_4]]⟩
def K_If_70:List Fr:=[.bk 1,.sq c_If_71,.lp [0,2,4,5,6,7] c_If_13,.bk 0,.sq (.kp [0,2,4,5] c_If_72)]
def s_If_70 (i13_1:Int) (x39_0:Int×(List S_Packet)×S_zreader) (x0_0:(List S_Track)×S_zreader) (l13_6:(List S_Packet)) (i70_0:Int) (l70_1:(List S_Entry)):St:=
 ⟨mkSl 95 [(0,sP 0 0),(2,sP 1 0),(4,sP 2 0),(5,.v false [cR 0 l70_1]),(6,sI i70_0),(7,sI i13_1),(11,.v false [cR 1 x39_0.2.1])],[some ⟨q3,(List.map rS_Entry l70_1)⟩,some ⟨[.sc,.sc,.sc,.sc,.own [.sc]],(List.map rS_Packet x39_0.2.1)⟩,some ⟨q3,(List.map rS_Track ([]:List S_Track))⟩,some ⟨[.sc,.sc,.sc,.sc,.own [.sc]],(List.map rS_Packet ([]:List S_Packet))⟩,some ⟨q3,(List.map rS_Track x0_0.1)⟩,some ⟨[.sc,.sc,.sc,.sc,.own [.sc]],(List.map rS_Packet l13_6)⟩],[some [.ro [.sc] (x39_0.2.2.b.map (rI .u8)),cI x39_0.2.2.at_,cI x39_0.2.2.err],some [.ref 2 [] 0 (([]:List S_Track).length),.ref 3 [] 0 (([]:List S_Packet).length)],some [cR 4 x0_0.1,cR 5 l13_6]]⟩
def K_If_52:List Fr:=[.lp [0,2,4,5,6,7,8,11,65,66,67] c_If_52,.bk 2,.sq (.kp [0,2,4,5,6,7,11] c_If_70),.bk 1,.sq c_If_71,.lp [0,2,4,5,6,7] c_If_13,.bk 0,.sq (.kp [0,2,4,5] c_If_72)]
def s_If_52 (i13_1 i13_3:Int) (x39_0:Int×(List S_Packet)×S_zreader) (x0_0:(List S_Track)×S_zreader) (l13_6:(List S_Packet)) (i52_0 i52_1:Int) (l52_2:(List S_Entry)):St:=
 ⟨mkSl 95 [(0,sP 0 0),(2,sP 1 0),(4,sP 2 0),(5,.v false [cR 0 l52_2]),(6,sI i52_0),(7,sI i13_1),(8,sI i13_3),(11,.v false [cR 1 x39_0.2.1]),(65,.v false [cR 1 x39_0.2.1]),(66,sI (x39_0.2.1.length:Int)),(67,sI i52_1)],[some ⟨q3,(List.map rS_Entry l52_2)⟩,some ⟨[.sc,.sc,.sc,.sc,.own [.sc]],(List.map rS_Packet x39_0.2.1)⟩,some ⟨q3,(List.map rS_Track ([]:List S_Track))⟩,some ⟨[.sc,.sc,.sc,.sc,.own [.sc]],(List.map rS_Packet ([]:List S_Packet))⟩,some ⟨q3,(List.map rS_Track x0_0.1)⟩,some ⟨[.sc,.sc,.sc,.sc,.own [.sc]],(List.map rS_Packet l13_6)⟩],[some [.ro [.sc] (x39_0.2.2.b.map (rI .u8)),cI x39_0.2.2.at_,cI x39_0.2.2.err],some [.ref 2 [] 0 (([]:List S_Track).length),.ref 3 [] 0 (([]:List S_Packet).length)],some [cR 4 x0_0.1,cR 5 l13_6]]⟩
def K_If_39:List Fr:=[.bk 1,.sq c_If_71,.lp [0,2,4,5,6,7] c_If_13,.bk 0,.sq (.kp [0,2,4,5] c_If_72)]
def s_If_39 (i13_0 i13_1 i13_3:Int) (l13_5:(List S_Entry)) (x0_0:(List S_Track)×S_zreader) (l13_6:(List S_Packet)) (l39_0:(List Int)) (i39_1 i39_2:Int):St:=
 ⟨mkSl 95 [(0,sP 0 0),(2,sP 1 0),(4,sP 2 0),(5,.v false [cR 0 l13_5]),(6,sI i13_0),(7,sI i13_1),(8,sI i13_3)],[some ⟨q3,(List.map rS_Entry l13_5)⟩,some ⟨q3,(List.map rS_Track ([]:List S_Track))⟩,some ⟨[.sc,.sc,.sc,.sc,.own [.sc]],(List.map rS_Packet ([]:List S_Packet))⟩,some ⟨q3,(List.map rS_Track x0_0.1)⟩,some ⟨[.sc,.sc,.sc,.sc,.own [.sc]],(List.map rS_Packet l13_6)⟩],[some [.ro [.sc] (l39_0.map (rI .u8)),cI i39_1,cI i39_2],some [.ref 1 [] 0 (([]:List S_Track).length),.ref 2 [] 0 (([]:List S_Packet).length)],some [cR 3 x0_0.1,cR 4 l13_6]]⟩
def K_If_28:List Fr:=[.sq c_If_33,.bk 1,.sq c_If_71,.lp [0,2,4,5,6,7] c_If_13,.bk 0,.sq (.kp [0,2,4,5] c_If_72)]
def s_If_28 (i13_0 i13_1 i13_3:Int) (x13_2:ByteArray) (x13_1:(List Int)×S_zreader) (l13_5:(List S_Entry)) (x0_0:(List S_Track)×S_zreader) (l13_6:(List S_Packet)) (b28_0:Bool):St:=
 ⟨mkSl 95 [(0,sP 0 0),(2,sP 1 0),(4,sP 2 0),(5,.v false [cR 0 l13_5]),(6,sI i13_0),(7,sI i13_1),(8,sI i13_3),(9,.v false [.lit (.string x13_2)]),(39,sB b28_0)],[some ⟨q3,(List.map rS_Entry l13_5)⟩,some ⟨q3,(List.map rS_Track ([]:List S_Track))⟩,some ⟨[.sc,.sc,.sc,.sc,.own [.sc]],(List.map rS_Packet ([]:List S_Packet))⟩,some ⟨q3,(List.map rS_Track x0_0.1)⟩,some ⟨[.sc,.sc,.sc,.sc,.own [.sc]],(List.map rS_Packet l13_6)⟩],[some [.ro [.sc] (x13_1.2.b.map (rI .u8)),cI x13_1.2.at_,cI x13_1.2.err],some [.ref 1 [] 0 (([]:List S_Track).length),.ref 2 [] 0 (([]:List S_Packet).length)],some [cR 3 x0_0.1,cR 4 l13_6]]⟩
def K_If_13:List Fr:=[.lp [0,2,4,5,6,7] c_If_13,.bk 0,.sq (.kp [0,2,4,5] c_If_72)]
def s_If_13 (x0_0:(List S_Track)×S_zreader) (i13_0 i13_1:Int) (l13_2:(List Int)) (i13_3 i13_4:Int) (l13_5:(List S_Entry)) (l13_6:(List S_Packet)):St:=
 ⟨mkSl 95 [(0,sP 0 0),(2,sP 1 0),(4,sP 2 0),(5,.v false [cR 0 l13_5]),(6,sI i13_0),(7,sI i13_1)],[some ⟨q3,(List.map rS_Entry l13_5)⟩,some ⟨q3,(List.map rS_Track ([]:List S_Track))⟩,some ⟨[.sc,.sc,.sc,.sc,.own [.sc]],(List.map rS_Packet ([]:List S_Packet))⟩,some ⟨q3,(List.map rS_Track x0_0.1)⟩,some ⟨[.sc,.sc,.sc,.sc,.own [.sc]],(List.map rS_Packet l13_6)⟩],[some [.ro [.sc] (l13_2.map (rI .u8)),cI i13_3,cI i13_4],some [.ref 1 [] 0 (([]:List S_Track).length),.ref 2 [] 0 (([]:List S_Packet).length)],some [cR 3 x0_0.1,cR 4 l13_6]]⟩
def K_If_0:List Fr:=[]
def s_If_0 (p0:S_zreader):St:=
 ⟨mkSl 95 [(0,sP 0 0)],[],[some [.ro [.sc] (p0.b.map (rI .u8)),cI p0.at_,cI p0.err]]⟩
def K_Ic_0:List Fr:=[]
def s_Ic_0 (p0:(List Int)):St:=
 ⟨mkSl 15 [(0,.v false [.ro [.sc] (p0.map (rI .u8))])],[],[]⟩
def K_Lb_0:List Fr:=[]
def s_Lb_0 (p0 p1:S_Entry):St:=
 ⟨mkSl 20 [(0,.v true [cI p0.track,cI p0.time,cI p0.at_]),(1,.v true [cI p1.track,cI p1.time,cI p1.at_])],[],[]⟩
def K_Lc_31:List Fr:=[]
def s_Lc_31:St:=
 ⟨mkSl 27 [],[],[]⟩
def K_Lc_15:List Fr:=[.lp [0,1,5] c_Lc_15,.bk 0,.sq (.kp [] c_Lc_31)]
def s_Lc_15 (p0 p1:(List S_Entry)) (i15_0:Int):St:=
 ⟨mkSl 27 [(0,.v false [.ro q3 (p0.map rS_Entry)]),(1,.v false [.ro q3 (p1.map rS_Entry)]),(5,sI i15_0)],[],[]⟩
def K_Lc_0:List Fr:=[]
def s_Lc_0 (p0 p1:(List S_Entry)):St:=
 ⟨mkSl 27 [(0,.v false [.ro q3 (p0.map rS_Entry)]),(1,.v false [.ro q3 (p1.map rS_Entry)])],[],[]⟩
def K_La_31:List Fr:=[]
def s_La_31:St:=
 ⟨mkSl 26 [],[],[]⟩
def K_La_15:List Fr:=[.lp [0,1,5] c_La_15,.bk 0,.sq (.kp [] c_La_31)]
def s_La_15 (p0 p1:(List Int)) (i15_0:Int):St:=
 ⟨mkSl 26 [(0,.v false [.ro [.sc] (p0.map (rI .u8))]),(1,.v false [.ro [.sc] (p1.map (rI .u8))]),(5,sI i15_0)],[],[]⟩
def K_La_0:List Fr:=[]
def s_La_0 (p0 p1:(List Int)):St:=
 ⟨mkSl 26 [(0,.v false [.ro [.sc] (p0.map (rI .u8))]),(1,.v false [.ro [.sc] (p1.map (rI .u8))])],[],[]⟩
def K_Le_19:List Fr:=[]
def s_Le_19 (i19_0:Int) (l19_1:(List Int)):St:=
 ⟨mkSl 20 [(0,.v false [cR 0 l19_1]),(1,sI i19_0)],[some ⟨[.sc],(List.map (rI .u8) l19_1)⟩],[]⟩
def K_Le_7:List Fr:=[.lp [0,1,5] c_Le_7,.bk 0,.sq (.kp [0,1] c_Le_19)]
def s_Le_7 (i7_0 i7_1:Int) (l7_2:(List Int)):St:=
 ⟨mkSl 20 [(0,.v false [cR 0 l7_2]),(1,sI i7_0),(5,sI i7_1)],[some ⟨[.sc],(List.map (rI .u8) l7_2)⟩],[]⟩
def K_Le_0:List Fr:=[]
def s_Le_0 (p1:Int) (p0:(List Int)):St:=
 ⟨mkSl 20 [(0,.v false [cR 0 p0]),(1,sI p1)],[some ⟨[.sc],(List.map (rI .u8) p0)⟩],[]⟩
def K_Lf_27:List Fr:=[]
def s_Lf_27 (i27_0:Int) (l27_1:(List S_Entry)):St:=
 ⟨mkSl 34 [(0,.v false [cR 0 l27_1]),(1,sI i27_0)],[some ⟨q3,(List.map rS_Entry l27_1)⟩],[]⟩
def K_Lf_7:List Fr:=[.lp [0,1,5] c_Lf_7,.bk 0,.sq (.kp [0,1] c_Lf_27)]
def s_Lf_7 (i7_0 i7_1:Int) (l7_2:(List S_Entry)):St:=
 ⟨mkSl 34 [(0,.v false [cR 0 l7_2]),(1,sI i7_0),(5,sI i7_1)],[some ⟨q3,(List.map rS_Entry l7_2)⟩],[]⟩
def K_Lf_0:List Fr:=[]
def s_Lf_0 (p1:Int) (p0:(List S_Entry)):St:=
 ⟨mkSl 34 [(0,.v false [cR 0 p0]),(1,sI p1)],[some ⟨q3,(List.map rS_Entry p0)⟩],[]⟩
def K_Ld_45:List Fr:=[]
def s_Ld_45 (i45_0:Int):St:=
 ⟨mkSl 40 [(1,sI i45_0)],[],[]⟩
def K_Ld_7:List Fr:=[.lp [0,1,5] c_Ld_7,.bk 0,.sq (.kp [1] c_Ld_45)]
def s_Ld_7 (p0:(List S_Entry)) (i7_0 i7_1:Int):St:=
 ⟨mkSl 40 [(0,.v false [.ro q3 (p0.map rS_Entry)]),(1,sI i7_0),(5,sI i7_1)],[],[]⟩
def K_Ld_0:List Fr:=[]
def s_Ld_0 (p0:(List S_Entry)) (p1:Int):St:=
 ⟨mkSl 40 [(0,.v false [.ro q3 (p0.map rS_Entry)]),(1,sI p1)],[],[]⟩
def K_laws_FnExactMakeIndex_0:List Fr:=[]
def s_laws_FnExactMakeIndex_0 (p0:(List Int)):St:=
 ⟨mkSl 66 [(0,.v false [.ro [.sc] (p0.map (rI .u8))])],[],[]⟩
def O_Lg_9 (Q:VX→St→Prop) (e:((List Int))):Prop:=EE c_Lg_19 K_Lg_19 (s_Lg_19 e) Q
theorem ok_Lg_19 (l19_0 r:(List Int)) (hm:m_Lg_19 l19_0=some r):EE c_Lg_19 K_Lg_19 (s_Lg_19 l19_0) (Post vf_Lg (res_Lg r)):=by
 exact go_end [.rows (List.map (rI .u8) l19_0)] 1000 (Ja (rI .u8) l19_0 J0) (congrArg res_Lg (qj hm)) (by kernel_rfl)
theorem ok_Lg_9 (p0:(List Int)) (i9_0:Int) (l9_1:(List Int)) (y) (hm:m_Lg_9 p0 i9_0 l9_1=some y) (Q)
  (hin:∀ s,y=.inl s→EE c_Lg_9 K_Lg_9 (s_Lg_9 p0 s.1 s.2) Q) (hout:∀ e,y=.inr e→O_Lg_9 Q e):EE c_Lg_9 K_Lg_9 (s_Lg_9 p0 i9_0 l9_1) Q:=by
 obtain ⟨h9_0,hm⟩|⟨h9_0,hm⟩:=split_ite hm
 ·obtain ⟨x9_1,h9_1,hm⟩:=bind_some hm
  obtain ⟨x9_2,h9_2,hm⟩:=bind_some hm
  exact gh (hin _ (qj hm).symm) [zn p0.length,zT,.row ((rI .u8) x9_1),.rows (List.map (rI .u8) (l9_1.set (0+Int.toNat i9_0) x9_1)),zn ((l9_1.set (0+Int.toNat i9_0) x9_1).length)] (J (lm (rI .u8) p0) (J h9_0 (J (rd_nn h9_1) (J (at_row (rI .u8) (rd_get h9_1)) (J (rd_in rfl h9_2) (J (put_ob (rI .u8) x9_1 0 (.lit (.int .u8 x9_1)) (rd_get0 h9_2) (by kernel_rfl) (by kernel_rfl)) (J (lens l9_1.length ((l9_1.set (0+Int.toNat i9_0) x9_1).length) (set_len rfl)) J0))))))) (by kernel_rfl)
 ·refine gn c_Lg_19 K_Lg_19 (s_Lg_19 l9_1) [zn p0.length,zF,zn l9_1.length] (J (lm (rI .u8) p0) (J h9_0 (J (ln l9_1.length) J0))) ?_ (by kernel_rfl)
  exact hout l9_1 (qj hm).symm
theorem ok_Lg_0 (p0 r:(List Int)) (hm:m_Lg_0 p0=some r):EE c_Lg_0 K_Lg_0 (s_Lg_0 p0) (Post vf_Lg (res_Lg r)):=by
 obtain ⟨x0_0,h0_0,hm⟩:=bind_some hm
 refine gn c_Lg_9 K_Lg_9 (s_Lg_9 p0 0 (List.replicate (Int.toNat (p0.length:Int)) (0:Int))) [zn p0.length,.rows (List.map (rI .u8) (List.replicate (Int.toNat (p0.length:Int)) (0:Int))),zn (Int.toNat (p0.length:Int)),zn ((List.replicate (Int.toNat (p0.length:Int)) (0:Int)).length)] (J (lm (rI .u8) p0) (J (ck_p h0_0) (J (rep_ob (rI .u8) (Int.toNat (p0.length:Int)) (0:Int) [.lit (.int .u8 0)] (by kernel_rfl)) (J (len_map (rI .u8) (show (Int.toNat (p0.length:Int))=(List.replicate (Int.toNat (p0.length:Int)) (0:Int)).length from (rep_len (Int.toNat (p0.length:Int)) (0:Int)))) (J (lens (Int.toNat (p0.length:Int)) ((List.replicate (Int.toNat (p0.length:Int)) (0:Int)).length) (rep_len (Int.toNat (p0.length:Int)) (0:Int))) J0))))) ?_ (by kernel_rfl)
 obtain ⟨e,he,hm⟩:=bind_some hm
 refine loop_rule (u:=.c c_Lg_9) (K:=K_Lg_9) (Q:=(Post vf_Lg (res_Lg r))) (b:=lp_Lg_9 p0) (We:=O_Lg_9 (Post vf_Lg (res_Lg r))) (stJ:=fun s=>s_Lg_9 p0 s.1 s.2) (s:=(0,(List.replicate (Int.toNat (p0.length:Int)) (0:Int)))) (fun s y hb hin hout=>ok_Lg_9 p0 s.1 s.2 y hb (Post vf_Lg (res_Lg r)) hin hout) he ?_
 show EE c_Lg_19 K_Lg_19 (s_Lg_19 e) _
 exact ok_Lg_19 e r hm
theorem ok_Lg (p0 r:(List Int)) (hm:m_Lg p0=some r):Runs ext tbl 10 (as_Lg p0) (res_Lg r):=
 runs_of (vf:=vf_Lg) (by kernel_rfl) rfl (st:=(enter vf_Lg (as_Lg p0)).getD default) (by kernel_rfl) (go_on [] 1000 J0 (ok_Lg_0 p0 r hm) (by kernel_rfl))
theorem ok_Sg_0 (p1:Int) (p0 r:S_l16R) (hm:m_Sg_0 p1 p0=some r):EE c_Sg_0 K_Sg_0 (s_Sg_0 p1 p0) (Post vf_Sg (res_Sg r)):=by
 obtain ⟨h0_0,hm⟩|⟨h0_0,hm⟩:=split_ite hm
 ·exact go_end [zT,.rows (List.map rS_Track p0.box.tracks),.rows (List.map rS_Packet p0.box.packets),.rows (List.map rS_Entry p0.index)] 1000 (J h0_0 (Ja rS_Track p0.box.tracks (Ja rS_Packet p0.box.packets (Ja rS_Entry p0.index J0)))) (congrArg res_Sg (qj hm)) (by kernel_rfl)
 ·exact go_end [zF,.rows (List.map rS_Track p0.box.tracks),.rows (List.map rS_Packet p0.box.packets),.rows (List.map rS_Entry p0.index)] 1000 (J h0_0 (Ja rS_Track p0.box.tracks (Ja rS_Packet p0.box.packets (Ja rS_Entry p0.index J0)))) (congrArg res_Sg (qj hm)) (by kernel_rfl)
theorem ok_Sg (p0:S_l16R) (p1:Int) (r:S_l16R) (hm:m_Sg p0 p1=some r):Runs ext tbl 94 (as_Sg p0 p1) (res_Sg r):=
 runs_of (vf:=vf_Sg) (by kernel_rfl) rfl (st:=(enter vf_Sg (as_Sg p0 p1)).getD default) (by kernel_rfl) (go_on [zn p0.box.tracks.length,zn p0.box.packets.length,zn p0.index.length] 1000 (J (len_map rS_Track (rfl:p0.box.tracks.length=p0.box.tracks.length)) (J (len_map rS_Packet (rfl:p0.box.packets.length=p0.box.packets.length)) (J (len_map rS_Entry (rfl:p0.index.length=p0.index.length)) J0))) (ok_Sg_0 p1 p0 r hm) (by kernel_rfl))
theorem ok_Sn_8 (p1:Int) (l8_0:(List Int)) (i8_1 i8_2 i8_3 i8_4:Int) (l8_5:(List S_Track)) (l8_6:(List S_Packet)) (l8_7:(List S_Entry)) (r:(List Int)×S_l16R) (hm:m_Sn_8 p1 l8_0 i8_1 i8_2 i8_3 i8_4 l8_5 l8_6 l8_7=some r):EE c_Sn_8 K_Sn_8 (s_Sn_8 p1 l8_0 i8_1 i8_2 i8_3 i8_4 l8_5 l8_6 l8_7) (Post vf_Sn (res_Sn r)):=by
 obtain ⟨h8_0,hm⟩|⟨h8_0,hm⟩:=split_ite hm
 ·exact go_end [zT,.rows (List.map (rI .u8) ([]:List Int)),.rows (List.map rS_Track l8_5),.rows (List.map rS_Packet l8_6),.rows (List.map rS_Entry l8_7)] 1000 (J h8_0 (J (all_le (rI .u8) ([]:List Int) rfl) (J (all_dt (rI .u8) ([]:List Int) rfl) (Ja rS_Track l8_5 (Ja rS_Packet l8_6 (Ja rS_Entry l8_7 J0)))))) (congrArg res_Sn (qj hm)) (by kernel_rfl)
 ·obtain ⟨x8_1,h8_1,hm⟩:=bind_some hm
  obtain ⟨x8_2,h8_2,hm⟩:=bind_some hm
  exact go_end [zF,.rows (List.map (rI .u8) ((l8_0.take (Int.toNat (w64 (i8_1+p1)))).drop (Int.toNat (w64 ((w64 (i8_1+p1)) - p1))))),.rows (List.map rS_Track l8_5),.rows (List.map rS_Packet l8_6),.rows (List.map rS_Entry l8_7)] 1000 (J h8_0 (J (slc_hi (rI .u8) l8_0 (ck_p h8_1)) (J (ck_p h8_2) (J (slc_tell (rI .u8) l8_0 (Int.toNat (w64 ((w64 (i8_1+p1)) - p1))) (Int.toNat (w64 (i8_1+p1)))) (Ja rS_Track l8_5 (Ja rS_Packet l8_6 (Ja rS_Entry l8_7 J0))))))) (congrArg res_Sn (qj hm)) (by kernel_rfl)
theorem ok_Sn_5 (p1:Int) (p0:S_l16R) (b5_0:Bool) (r:(List Int)×S_l16R) (hm:m_Sn_5 p1 p0 b5_0=some r):EE c_Sn_5 K_Sn_5 (s_Sn_5 p1 p0 b5_0) (Post vf_Sn (res_Sn r)):=by
 obtain ⟨h5_0,hm⟩|⟨h5_0,hm⟩:=split_ite hm
 ·obtain ⟨x5_1,h5_1,hm⟩:=bind_some hm
  exact gh (ok_Sn_8 _ _ _ _ _ _ _ _ _ r hm) [zT,.rows (List.map rS_Track p0.box.tracks),.rows (List.map rS_Packet p0.box.packets),.rows (List.map rS_Entry p0.index),.res (res_Sg x5_1),zn x5_1.box.tracks.length,zn x5_1.box.packets.length,zn x5_1.index.length,zn x5_1.box.tracks.length,zn x5_1.box.packets.length,zn x5_1.index.length] (J h5_0 (Ja rS_Track p0.box.tracks (Ja rS_Packet p0.box.packets (Ja rS_Entry p0.index (J (ok_Sg p0 2 x5_1 h5_1) (J (lm rS_Track x5_1.box.tracks) (J (lm rS_Packet x5_1.box.packets) (J (lm rS_Entry x5_1.index) (J (ln x5_1.box.tracks.length) (J (ln x5_1.box.packets.length) (J (ln x5_1.index.length) J0))))))))))) (by kernel_rfl)
 ·exact gh (ok_Sn_8 _ _ _ _ _ _ _ _ _ r hm) [zF,zn p0.box.tracks.length,zn p0.box.packets.length,zn p0.index.length] (J h5_0 (J (ln p0.box.tracks.length) (J (ln p0.box.packets.length) (J (ln p0.index.length) J0)))) (by kernel_rfl)
theorem ok_Sn_0 (p1:Int) (p0:S_l16R) (r:(List Int)×S_l16R) (hm:m_Sn_0 p1 p0=some r):EE c_Sn_0 K_Sn_0 (s_Sn_0 p1 p0) (Post vf_Sn (res_Sn r)):=by
 obtain ⟨h0_0,hm⟩|⟨h0_0,hm⟩:=split_ite hm
 ·exact gh (ok_Sn_5 _ _ _ r hm) [zT,zT,zT,zT,zT,zT,zn p0.data.length,zT,zT,zT,zT,zT,zT,zT,zn p0.box.tracks.length,zn p0.box.packets.length,zn p0.index.length] (J4 h0_0 (J h0_0 (J h0_0 (J (lm (rI .u8) p0.data) (J4 h0_0 (J h0_0 (J h0_0 (J h0_0 (J (ln p0.box.tracks.length) (J (ln p0.box.packets.length) (J (ln p0.index.length) J0))))))))))) (by kernel_rfl)
 ·exact gh (ok_Sn_5 _ _ _ r hm) [zF,zF,zF,zF,zF,zF,zF,zF,zF,zF,zF,zF,zF,zn p0.box.tracks.length,zn p0.box.packets.length,zn p0.index.length] (J4 h0_0 (J4 h0_0 (J4 h0_0 (J h0_0 (J (ln p0.box.tracks.length) (J (ln p0.box.packets.length) (J (ln p0.index.length) J0))))))) (by kernel_rfl)
theorem ok_Sn (p0:S_l16R) (p1:Int) (r:(List Int)×S_l16R) (hm:m_Sn p0 p1=some r):Runs ext tbl 96 (as_Sn p0 p1) (res_Sn r):=
 runs_of (vf:=vf_Sn) (by kernel_rfl) rfl (st:=(enter vf_Sn (as_Sn p0 p1)).getD default) (by kernel_rfl) (go_on [zn p0.box.tracks.length,zn p0.box.packets.length,zn p0.index.length] 1000 (J (len_map rS_Track (rfl:p0.box.tracks.length=p0.box.tracks.length)) (J (len_map rS_Packet (rfl:p0.box.packets.length=p0.box.packets.length)) (J (len_map rS_Entry (rfl:p0.index.length=p0.index.length)) J0))) (ok_Sn_0 p1 p0 r hm) (by kernel_rfl))
theorem ok_Sf_0 (p0:S_l16R) (r:Int×S_l16R) (hm:m_Sf_0 p0=some r):EE c_Sf_0 K_Sf_0 (s_Sf_0 p0) (Post vf_Sf (res_Sf r)):=by
 obtain ⟨x0_0,h0_0,hm⟩:=bind_some hm
 obtain ⟨h0_1,hm⟩|⟨h0_1,hm⟩:=split_ite hm
 ·exact go_end [.rows (List.map rS_Track p0.box.tracks),.rows (List.map rS_Packet p0.box.packets),.rows (List.map rS_Entry p0.index),.res (res_Sn x0_0),zn x0_0.2.box.tracks.length,zn x0_0.2.box.packets.length,zn x0_0.2.index.length,zT,.rows (List.map rS_Track x0_0.2.box.tracks),.rows (List.map rS_Packet x0_0.2.box.packets),.rows (List.map rS_Entry x0_0.2.index)] 1000 (Ja rS_Track p0.box.tracks (Ja rS_Packet p0.box.packets (Ja rS_Entry p0.index (J (ok_Sn p0 1 x0_0 h0_0) (J (lm rS_Track x0_0.2.box.tracks) (J (lm rS_Packet x0_0.2.box.packets) (J (lm rS_Entry x0_0.2.index) (J h0_1 (Ja rS_Track x0_0.2.box.tracks (Ja rS_Packet x0_0.2.box.packets (Ja rS_Entry x0_0.2.index J0))))))))))) (congrArg res_Sf (qj hm)) (by kernel_rfl)
 ·obtain ⟨x0_2,h0_2,hm⟩:=bind_some hm
  exact go_end [.rows (List.map rS_Track p0.box.tracks),.rows (List.map rS_Packet p0.box.packets),.rows (List.map rS_Entry p0.index),.res (res_Sn x0_0),zn x0_0.2.box.tracks.length,zn x0_0.2.box.packets.length,zn x0_0.2.index.length,zF,.row ((rI .u8) x0_2),.rows (List.map rS_Track x0_0.2.box.tracks),.rows (List.map rS_Packet x0_0.2.box.packets),.rows (List.map rS_Entry x0_0.2.index)] 1000 (Ja rS_Track p0.box.tracks (Ja rS_Packet p0.box.packets (Ja rS_Entry p0.index (J (ok_Sn p0 1 x0_0 h0_0) (J (lm rS_Track x0_0.2.box.tracks) (J (lm rS_Packet x0_0.2.box.packets) (J (lm rS_Entry x0_0.2.index) (J h0_1 (J (rd_nn h0_2) (J (at_row (rI .u8) (rd_get h0_2)) (Ja rS_Track x0_0.2.box.tracks (Ja rS_Packet x0_0.2.box.packets (Ja rS_Entry x0_0.2.index J0))))))))))))) (congrArg res_Sf (qj hm)) (by kernel_rfl)
theorem ok_Sf (p0:S_l16R) (r:Int×S_l16R) (hm:m_Sf p0=some r):Runs ext tbl 93 (as_Sf p0) (res_Sf r):=
 runs_of (vf:=vf_Sf) (by kernel_rfl) rfl (st:=(enter vf_Sf (as_Sf p0)).getD default) (by kernel_rfl) (go_on [zn p0.box.tracks.length,zn p0.box.packets.length,zn p0.index.length] 1000 (J (len_map rS_Track (rfl:p0.box.tracks.length=p0.box.tracks.length)) (J (len_map rS_Packet (rfl:p0.box.packets.length=p0.box.packets.length)) (J (len_map rS_Entry (rfl:p0.index.length=p0.index.length)) J0))) (ok_Sf_0 p0 r hm) (by kernel_rfl))
def O_Sb_17 (Q:VX→St→Prop) (e:((Unit))⊕(S_Number)):Prop:=match e with | .inl e=>EE c_Sb_61 K_Sb_61 (s_Sb_61) Q | .inr e=>Q=Post vf_Sb (res_Sb e)
theorem ok_Sb_51 (p1 i17_1 i51_0:Int) (b51_1:Bool) (p0:(List Int)) (y) (hm:m_Sb_51 p1 i17_1 i51_0 b51_1=some y) (Q)
  (hin:∀ s,y=.inl s→EE c_Sb_17 K_Sb_17 (s_Sb_17 p0 p1 s.1 s.2) Q) (hout:∀ e,y=.inr e→O_Sb_17 Q e):EE c_Sb_51 K_Sb_51 (s_Sb_51 p1 i17_1 i51_0 b51_1) Q:=by
 obtain ⟨h51_0,hm⟩|⟨h51_0,hm⟩:=split_ite hm
 ·have hQ:Q=Post vf_Sb (res_Sb (S_Number.mk false 0 0)):=hout (.inr (S_Number.mk false 0 0)) (qj hm).symm
  subst hQ
  exact go_end [zT] 1000 (J h51_0 J0) (rfl:res_Sb (S_Number.mk false 0 0)=res_Sb (S_Number.mk false 0 0)) (by kernel_rfl)
 ·have hQ:Q=Post vf_Sb (res_Sb (S_Number.mk true i51_0 (w64 ((w64 (p1+i17_1))+1)))):=hout (.inr (S_Number.mk true i51_0 (w64 ((w64 (p1+i17_1))+1)))) (qj hm).symm
  subst hQ
  exact go_end [zF] 1000 (J h51_0 J0) (rfl:res_Sb (S_Number.mk true i51_0 (w64 ((w64 (p1+i17_1))+1)))=res_Sb (S_Number.mk true i51_0 (w64 ((w64 (p1+i17_1))+1)))) (by kernel_rfl)
theorem ok_Sb_38 (p0:(List Int)) (p1 i17_0 i17_1 i38_0:Int) (b38_1:Bool) (y) (hm:m_Sb_38 p0 p1 i17_0 i17_1 i38_0 b38_1=some y) (Q)
  (hin:∀ s,y=.inl s→EE c_Sb_17 K_Sb_17 (s_Sb_17 p0 p1 s.1 s.2) Q) (hout:∀ e,y=.inr e→O_Sb_17 Q e):EE c_Sb_38 K_Sb_38 (s_Sb_38 p0 p1 i17_0 i17_1 i38_0 b38_1) Q:=by
 obtain ⟨h38_0,hm⟩|⟨h38_0,hm⟩:=split_ite hm
 ·have hQ:Q=Post vf_Sb (res_Sb (S_Number.mk false 0 0)):=hout (.inr (S_Number.mk false 0 0)) (qj hm).symm
  subst hQ
  exact go_end [zT] 1000 (J h38_0 J0) (rfl:res_Sb (S_Number.mk false 0 0)=res_Sb (S_Number.mk false 0 0)) (by kernel_rfl)
 ·obtain ⟨x38_1,h38_1,hm⟩:=bind_some hm
  obtain ⟨h38_2,hm⟩|⟨h38_2,hm⟩:=split_ite hm
  ·obtain ⟨h38_3,hm⟩|⟨h38_3,hm⟩:=split_ite hm
   ·exact gh (ok_Sb_51 _ _ _ _ _ y hm Q hin hout) [zF,zT,zT,zT,zT] (J h38_0 (J (by decide:(128:Int)≠0) (J (ck_p h38_1) (J h38_2 (J h38_3 (J h38_3 (J h38_3 J0))))))) (by kernel_rfl)
   ·exact gh (ok_Sb_51 _ _ _ _ _ y hm Q hin hout) [zF,zT,zF,zF,zF] (J h38_0 (J (by decide:(128:Int)≠0) (J (ck_p h38_1) (J h38_2 (J h38_3 (J h38_3 (J h38_3 J0))))))) (by kernel_rfl)
  ·exact gh (hin _ (qj hm).symm) [zF,zF] (J h38_0 (J (by decide:(128:Int)≠0) (J (ck_p h38_1) (J h38_2 J0)))) (by kernel_rfl)
theorem ok_Sb_28 (p0:(List Int)) (p1 i17_0 i17_1:Int) (b28_0:Bool) (y) (hm:m_Sb_28 p0 p1 i17_0 i17_1 b28_0=some y) (Q)
  (hin:∀ s,y=.inl s→EE c_Sb_17 K_Sb_17 (s_Sb_17 p0 p1 s.1 s.2) Q) (hout:∀ e,y=.inr e→O_Sb_17 Q e):EE c_Sb_28 K_Sb_28 (s_Sb_28 p0 p1 i17_0 i17_1 b28_0) Q:=by
 obtain ⟨h28_0,hm⟩|⟨h28_0,hm⟩:=split_ite hm
 ·have hQ:Q=Post vf_Sb (res_Sb (S_Number.mk false 0 0)):=hout (.inr (S_Number.mk false 0 0)) (qj hm).symm
  subst hQ
  exact go_end [zT] 1000 (J h28_0 J0) (rfl:res_Sb (S_Number.mk false 0 0)=res_Sb (S_Number.mk false 0 0)) (by kernel_rfl)
 ·obtain ⟨x28_1,h28_1,hm⟩:=bind_some hm
  obtain ⟨h28_2,hm⟩|⟨h28_2,hm⟩:=split_ite hm
  ·exact gh (ok_Sb_38 _ _ _ _ _ _ y hm Q hin hout) [zF,.row ((rI .u8) x28_1),zT,zT,zT] (J h28_0 (J (rd_nn h28_1) (J (at_row (rI .u8) (rd_get h28_1)) (J h28_2 (J h28_2 (J h28_2 J0)))))) (by kernel_rfl)
  ·exact gh (ok_Sb_38 _ _ _ _ _ _ y hm Q hin hout) [zF,.row ((rI .u8) x28_1),zF,zF,zF] (J h28_0 (J (rd_nn h28_1) (J (at_row (rI .u8) (rd_get h28_1)) (J h28_2 (J h28_2 (J h28_2 J0)))))) (by kernel_rfl)
theorem ok_Sb_61 (r:S_Number) (hm:m_Sb_61=some r):EE c_Sb_61 K_Sb_61 (s_Sb_61) (Post vf_Sb (res_Sb r)):=by
 exact go_end [] 1000 J0 (congrArg res_Sb (qj hm)) (by kernel_rfl)
theorem ok_Sb_17 (p0:(List Int)) (p1 i17_0 i17_1:Int) (y) (hm:m_Sb_17 p0 p1 i17_0 i17_1=some y) (Q)
  (hin:∀ s,y=.inl s→EE c_Sb_17 K_Sb_17 (s_Sb_17 p0 p1 s.1 s.2) Q) (hout:∀ e,y=.inr e→O_Sb_17 Q e):EE c_Sb_17 K_Sb_17 (s_Sb_17 p0 p1 i17_0 i17_1) Q:=by
 obtain ⟨h17_0,hm⟩|⟨h17_0,hm⟩:=split_ite hm
 ·obtain ⟨h17_1,hm⟩|⟨h17_1,hm⟩:=split_ite hm
  ·exact gh (ok_Sb_28 _ _ _ _ _ y hm Q hin hout) [zT,zn p0.length,zT,zT,zT,zT,zT,zT,zT,zT] (J h17_0 (J (lm (rI .u8) p0) (J4 h17_1 (J h17_1 (J h17_1 (J h17_1 (J h17_1 J0))))))) (by kernel_rfl)
  ·exact gh (ok_Sb_28 _ _ _ _ _ y hm Q hin hout) [zT,zn p0.length,zF,zF,zF,zn p0.length,zF,zF,zF,zF,zF] (J h17_0 (J (lm (rI .u8) p0) (J h17_1 (J h17_1 (J h17_1 (J (lm (rI .u8) p0) (J4 h17_1 (J h17_1 J0)))))))) (by kernel_rfl)
 ·refine gn c_Sb_61 K_Sb_61 (s_Sb_61) [zF] (J h17_0 J0) ?_ (by kernel_rfl)
  exact hout (.inl ()) (qj hm).symm
theorem ok_Sb_0 (p0:(List Int)) (p1:Int) (r:S_Number) (hm:m_Sb_0 p0 p1=some r):EE c_Sb_0 K_Sb_0 (s_Sb_0 p0 p1) (Post vf_Sb (res_Sb r)):=by
 obtain ⟨h0_0,hm⟩|⟨h0_0,hm⟩:=split_ite hm
 ·exact go_end [zT] 1000 (J h0_0 J0) (congrArg res_Sb (qj hm)) (by kernel_rfl)
 ·refine gn c_Sb_17 K_Sb_17 (s_Sb_17 p0 p1 0 0) [zF] (J h0_0 J0) ?_ (by kernel_rfl)
  obtain ⟨e,he,hm⟩:=bind_some hm
  refine loop_rule (u:=.c c_Sb_17) (K:=K_Sb_17) (Q:=(Post vf_Sb (res_Sb r))) (b:=lp_Sb_17 p0 p1) (We:=O_Sb_17 (Post vf_Sb (res_Sb r))) (stJ:=fun s=>s_Sb_17 p0 p1 s.1 s.2) (s:=(0,0)) (fun s y hb hin hout=>ok_Sb_17 p0 p1 s.1 s.2 y hb (Post vf_Sb (res_Sb r)) hin hout) he ?_
  rcases e with e | e
  ·show EE c_Sb_61 K_Sb_61 (s_Sb_61) _
   exact ok_Sb_61 r hm
  ·exact congrArg (fun r=>Post vf_Sb (res_Sb r)) (qj hm).symm
theorem ok_Sb (p0:(List Int)) (p1:Int) (r:S_Number) (hm:m_Sb p0 p1=some r):Runs ext tbl 138 (as_Sb p0 p1) (res_Sb r):=
 runs_of (vf:=vf_Sb) (by kernel_rfl) rfl (st:=(enter vf_Sb (as_Sb p0 p1)).getD default) (by kernel_rfl) (go_on [] 1000 J0 (ok_Sb_0 p0 p1 r hm) (by kernel_rfl))
def O_Sj_21 (p0:S_l16R) (Q:VX→St→Prop) (e:(Int)):Prop:=EE c_Sj_29 K_Sj_29 (s_Sj_29 p0 e) Q
theorem ok_Sj_32 (p0:S_l16R) (b32_0:Bool) (r:Int×S_l16R) (hm:m_Sj_32 p0 b32_0=some r):EE c_Sj_32 K_Sj_32 (s_Sj_32 p0 b32_0) (Post vf_Sj (res_Sj r)):=by
 obtain ⟨h32_0,hm⟩|⟨h32_0,hm⟩:=split_ite hm
 ·obtain ⟨x32_1,h32_1,hm⟩:=bind_some hm
  exact go_end [zT,.rows (List.map rS_Track p0.box.tracks),.rows (List.map rS_Packet p0.box.packets),.rows (List.map rS_Entry p0.index),.res (res_Sg x32_1),zn x32_1.box.tracks.length,zn x32_1.box.packets.length,zn x32_1.index.length,.rows (List.map rS_Track x32_1.box.tracks),.rows (List.map rS_Packet x32_1.box.packets),.rows (List.map rS_Entry x32_1.index)] 1000 (J h32_0 (Ja rS_Track p0.box.tracks (Ja rS_Packet p0.box.packets (Ja rS_Entry p0.index (J (ok_Sg p0 2 x32_1 h32_1) (J (lm rS_Track x32_1.box.tracks) (J (lm rS_Packet x32_1.box.packets) (J (lm rS_Entry x32_1.index) (Ja rS_Track x32_1.box.tracks (Ja rS_Packet x32_1.box.packets (Ja rS_Entry x32_1.index J0))))))))))) (congrArg res_Sj (qj hm)) (by kernel_rfl)
 ·obtain ⟨x32_1,h32_1,hm⟩:=bind_some hm
  exact go_end [zF,.rows (List.map rS_Track p0.box.tracks),.rows (List.map rS_Packet p0.box.packets),.rows (List.map rS_Entry p0.index),.res (res_Sg x32_1),zn x32_1.box.tracks.length,zn x32_1.box.packets.length,zn x32_1.index.length,.rows (List.map rS_Track x32_1.box.tracks),.rows (List.map rS_Packet x32_1.box.packets),.rows (List.map rS_Entry x32_1.index)] 1000 (J h32_0 (Ja rS_Track p0.box.tracks (Ja rS_Packet p0.box.packets (Ja rS_Entry p0.index (J (ok_Sg p0 5 x32_1 h32_1) (J (lm rS_Track x32_1.box.tracks) (J (lm rS_Packet x32_1.box.packets) (J (lm rS_Entry x32_1.index) (Ja rS_Track x32_1.box.tracks (Ja rS_Packet x32_1.box.packets (Ja rS_Entry x32_1.index J0))))))))))) (congrArg res_Sj (qj hm)) (by kernel_rfl)
theorem ok_Sj_29 (p0:S_l16R) (i29_0:Int) (r:Int×S_l16R) (hm:m_Sj_29 p0 i29_0=some r):EE c_Sj_29 K_Sj_29 (s_Sj_29 p0 i29_0) (Post vf_Sj (res_Sj r)):=by
 obtain ⟨h29_0,hm⟩|⟨h29_0,hm⟩:=split_ite hm
 ·exact gh (ok_Sj_32 _ _ r hm) [zn p0.data.length,zT,zT,zT,zT,zT,zT,zT,zT,zn p0.box.tracks.length,zn p0.box.packets.length,zn p0.index.length] (J (lm (rI .u8) p0.data) (J4 h29_0 (J4 h29_0 (J (ln p0.box.tracks.length) (J (ln p0.box.packets.length) (J (ln p0.index.length) J0)))))) (by kernel_rfl)
 ·exact gh (ok_Sj_32 _ _ r hm) [zn p0.data.length,zF,zF,zF,zF,zF,zF,zF,zF,zn p0.box.tracks.length,zn p0.box.packets.length,zn p0.index.length] (J (lm (rI .u8) p0.data) (J4 h29_0 (J4 h29_0 (J (ln p0.box.tracks.length) (J (ln p0.box.packets.length) (J (ln p0.index.length) J0)))))) (by kernel_rfl)
theorem ok_Sj_21 (p0:S_l16R) (i21_0:Int) (y) (hm:m_Sj_21 p0 i21_0=some y) (Q)
  (hin:∀ s,y=.inl s→EE c_Sj_21 K_Sj_21 (s_Sj_21 p0 s) Q) (hout:∀ e,y=.inr e→O_Sj_21 p0 Q e):EE c_Sj_21 K_Sj_21 (s_Sj_21 p0 i21_0) Q:=by
 obtain ⟨h21_0,hm⟩|⟨h21_0,hm⟩:=split_ite hm
 ·obtain ⟨h21_1,hm⟩|⟨h21_1,hm⟩:=split_ite hm
  ·obtain ⟨x21_2,h21_2,hm⟩:=bind_some hm
   obtain ⟨h21_3,hm⟩|⟨h21_3,hm⟩:=split_ite hm
   ·exact gh (hin _ (qj hm).symm) [zn p0.data.length,zT,zT,zT,zT,zT,zT,zT,zT,zT,zT,zT,zT,zT,zT,.row ((rI .u8) x21_2),zT,zT,zT,zT,zn p0.box.tracks.length,zn p0.box.packets.length,zn p0.index.length] (J (lm (rI .u8) p0.data) (J4 h21_0 (J4 h21_0 (J4 h21_1 (J h21_1 (J h21_1 (J (rd_nn h21_2) (J (at_row (rI .u8) (rd_get h21_2)) (J h21_1 (J h21_1 (J h21_1 (J h21_3 (J (ln p0.box.tracks.length) (J (ln p0.box.packets.length) (J (ln p0.index.length) J0))))))))))))))) (by kernel_rfl)
   ·refine gn c_Sj_29 K_Sj_29 (s_Sj_29 p0 i21_0) [zn p0.data.length,zT,zT,zT,zT,zT,zT,zT,zT,zT,zT,zT,zT,zT,zT,.row ((rI .u8) x21_2),zT,zT,zT,zF,zn p0.box.tracks.length,zn p0.box.packets.length,zn p0.index.length] (J (lm (rI .u8) p0.data) (J4 h21_0 (J4 h21_0 (J4 h21_1 (J h21_1 (J h21_1 (J (rd_nn h21_2) (J (at_row (rI .u8) (rd_get h21_2)) (J h21_1 (J h21_1 (J h21_1 (J h21_3 (J (ln p0.box.tracks.length) (J (ln p0.box.packets.length) (J (ln p0.index.length) J0))))))))))))))) ?_ (by kernel_rfl)
    exact hout i21_0 (qj hm).symm
  ·refine gn c_Sj_29 K_Sj_29 (s_Sj_29 p0 i21_0) [zn p0.data.length,zT,zT,zT,zT,zT,zT,zT,zT,zF,zF,zF,zF,zF,zF,zF,zF,zF,zF,zn p0.box.tracks.length,zn p0.box.packets.length,zn p0.index.length] (J (lm (rI .u8) p0.data) (J4 h21_0 (J4 h21_0 (J4 h21_1 (J4 h21_1 (J h21_1 (J eF (J (ln p0.box.tracks.length) (J (ln p0.box.packets.length) (J (ln p0.index.length) J0)))))))))) ?_ (by kernel_rfl)
   exact hout i21_0 (qj hm).symm
 ·refine gn c_Sj_29 K_Sj_29 (s_Sj_29 p0 i21_0) [zn p0.data.length,zF,zF,zF,zF,zF,zF,zF,zF,zF,zF,zF,zF,zF,zF,zF,zF,zF,zF,zn p0.box.tracks.length,zn p0.box.packets.length,zn p0.index.length] (J (lm (rI .u8) p0.data) (J4 h21_0 (J4 h21_0 (J4 eF (J4 eF (J eF (J eF (J (ln p0.box.tracks.length) (J (ln p0.box.packets.length) (J (ln p0.index.length) J0)))))))))) ?_ (by kernel_rfl)
  exact hout i21_0 (qj hm).symm
theorem ok_Sj_0 (p0:S_l16R) (r:Int×S_l16R) (hm:m_Sj_0 p0=some r):EE c_Sj_0 K_Sj_0 (s_Sj_0 p0) (Post vf_Sj (res_Sj r)):=by
 obtain ⟨h0_0,hm⟩|⟨h0_0,hm⟩:=split_ite hm
 ·exact go_end [zT,.rows (List.map rS_Track p0.box.tracks),.rows (List.map rS_Packet p0.box.packets),.rows (List.map rS_Entry p0.index)] 1000 (J h0_0 (Ja rS_Track p0.box.tracks (Ja rS_Packet p0.box.packets (Ja rS_Entry p0.index J0)))) (congrArg res_Sj (qj hm)) (by kernel_rfl)
 ·obtain ⟨x0_1,h0_1,hm⟩:=bind_some hm
  obtain ⟨h0_2,hm⟩|⟨h0_2,hm⟩:=split_ite hm
  ·obtain ⟨h0_3,hm⟩|⟨h0_3,hm⟩:=split_ite hm
   ·obtain ⟨x0_4,h0_4,hm⟩:=bind_some hm
    exact go_end [zF,.res (res_Sb x0_1),zF,zT,.rows (List.map rS_Track p0.box.tracks),.rows (List.map rS_Packet p0.box.packets),.rows (List.map rS_Entry p0.index),.res (res_Sg x0_4),zn x0_4.box.tracks.length,zn x0_4.box.packets.length,zn x0_4.index.length,.rows (List.map rS_Track x0_4.box.tracks),.rows (List.map rS_Packet x0_4.box.packets),.rows (List.map rS_Entry x0_4.index)] 1000 (J h0_0 (J (ok_Sb p0.data p0.at_ x0_1 h0_1) (J (not_f h0_2) (J h0_3 (Ja rS_Track p0.box.tracks (Ja rS_Packet p0.box.packets (Ja rS_Entry p0.index (J (ok_Sg p0 5 x0_4 h0_4) (J (lm rS_Track x0_4.box.tracks) (J (lm rS_Packet x0_4.box.packets) (J (lm rS_Entry x0_4.index) (Ja rS_Track x0_4.box.tracks (Ja rS_Packet x0_4.box.packets (Ja rS_Entry x0_4.index J0)))))))))))))) (congrArg res_Sj (qj hm)) (by kernel_rfl)
   ·exact go_end [zF,.res (res_Sb x0_1),zF,zF,.rows (List.map rS_Track p0.box.tracks),.rows (List.map rS_Packet p0.box.packets),.rows (List.map rS_Entry p0.index)] 1000 (J h0_0 (J (ok_Sb p0.data p0.at_ x0_1 h0_1) (J (not_f h0_2) (J h0_3 (Ja rS_Track p0.box.tracks (Ja rS_Packet p0.box.packets (Ja rS_Entry p0.index J0))))))) (congrArg res_Sj (qj hm)) (by kernel_rfl)
  ·refine gn c_Sj_21 K_Sj_21 (s_Sj_21 p0 p0.at_) [zF,.res (res_Sb x0_1),zT,zn p0.box.tracks.length,zn p0.box.packets.length,zn p0.index.length] (J h0_0 (J (ok_Sb p0.data p0.at_ x0_1 h0_1) (J (not_t h0_2) (J (ln p0.box.tracks.length) (J (ln p0.box.packets.length) (J (ln p0.index.length) J0)))))) ?_ (by kernel_rfl)
   obtain ⟨e,he,hm⟩:=bind_some hm
   refine loop_rule (u:=.c c_Sj_21) (K:=K_Sj_21) (Q:=(Post vf_Sj (res_Sj r))) (b:=lp_Sj_21 p0) (We:=O_Sj_21 p0 (Post vf_Sj (res_Sj r))) (stJ:=fun s=>s_Sj_21 p0 s) (s:=p0.at_) (fun s y hb hin hout=>ok_Sj_21 p0 s y hb (Post vf_Sj (res_Sj r)) hin hout) he ?_
   show EE c_Sj_29 K_Sj_29 (s_Sj_29 p0 e) _
   exact ok_Sj_29 p0 e r hm
theorem ok_Sj (p0:S_l16R) (r:Int×S_l16R) (hm:m_Sj p0=some r):Runs ext tbl 95 (as_Sj p0) (res_Sj r):=
 runs_of (vf:=vf_Sj) (by kernel_rfl) rfl (st:=(enter vf_Sj (as_Sj p0)).getD default) (by kernel_rfl) (go_on [zn p0.box.tracks.length,zn p0.box.packets.length,zn p0.index.length] 1000 (J (len_map rS_Track (rfl:p0.box.tracks.length=p0.box.tracks.length)) (J (len_map rS_Packet (rfl:p0.box.packets.length=p0.box.packets.length)) (J (len_map rS_Entry (rfl:p0.index.length=p0.index.length)) J0))) (ok_Sj_0 p0 r hm) (by kernel_rfl))
def O_Sd_7 (Q:VX→St→Prop) (e:(Bool)⊕((Unit))):Prop:=match e with | .inl e=>Q=Post vf_Sd (res_Sd e) | .inr e=>EE c_Sd_23 K_Sd_23 (s_Sd_23) Q
theorem ok_Sd_23 (r:Bool) (hm:m_Sd_23=some r):EE c_Sd_23 K_Sd_23 (s_Sd_23) (Post vf_Sd (res_Sd r)):=by
 exact go_end [] 1000 J0 (congrArg res_Sd (qj hm)) (by kernel_rfl)
theorem ok_Sd_7 (p0:ByteArray) (i7_0:Int) (y) (hm:m_Sd_7 p0 i7_0=some y) (Q)
  (hin:∀ s,y=.inl s→EE c_Sd_7 K_Sd_7 (s_Sd_7 p0 s) Q) (hout:∀ e,y=.inr e→O_Sd_7 Q e):EE c_Sd_7 K_Sd_7 (s_Sd_7 p0 i7_0) Q:=by
 obtain ⟨h7_0,hm⟩|⟨h7_0,hm⟩:=split_ite hm
 ·obtain ⟨x7_1,h7_1,hm⟩:=bind_some hm
  obtain ⟨h7_2,hm⟩|⟨h7_2,hm⟩:=split_ite hm
  ·have hQ:Q=Post vf_Sd (res_Sd false):=hout (.inl false) (qj hm).symm
   subst hQ
   exact go_end [zT,.int x7_1,zT,zT,zT,zT,zT,zT] 1000 (J h7_0 (J (sat_nn h7_1) (J (sat_at h7_1) (J4 h7_2 (J h7_2 (J eT J0)))))) (rfl:res_Sd false=res_Sd false) (by kernel_rfl)
  ·obtain ⟨h7_3,hm⟩|⟨h7_3,hm⟩:=split_ite hm
   ·have hQ:Q=Post vf_Sd (res_Sd false):=hout (.inl false) (qj hm).symm
    subst hQ
    exact go_end [zT,.int x7_1,zF,zF,zF,.int x7_1,zF,zF,zT] 1000 (J h7_0 (J (sat_nn h7_1) (J (sat_at h7_1) (J h7_2 (J h7_2 (J h7_2 (J (sat_nn h7_1) (J (sat_at h7_1) (J h7_2 (J h7_2 (J h7_3 J0))))))))))) (rfl:res_Sd false=res_Sd false) (by kernel_rfl)
   ·exact gh (hin _ (qj hm).symm) [zT,.int x7_1,zF,zF,zF,.int x7_1,zF,zF,zF] (J h7_0 (J (sat_nn h7_1) (J (sat_at h7_1) (J h7_2 (J h7_2 (J h7_2 (J (sat_nn h7_1) (J (sat_at h7_1) (J h7_2 (J h7_2 (J h7_3 J0))))))))))) (by kernel_rfl)
 ·refine gn c_Sd_23 K_Sd_23 (s_Sd_23) [zF] (J h7_0 J0) ?_ (by kernel_rfl)
  exact hout (.inr ()) (qj hm).symm
theorem ok_Sd_0 (p0:ByteArray) (r:Bool) (hm:m_Sd_0 p0=some r):EE c_Sd_0 K_Sd_0 (s_Sd_0 p0) (Post vf_Sd (res_Sd r)):=by
 refine gn c_Sd_7 K_Sd_7 (s_Sd_7 p0 0) [] J0 ?_ (by kernel_rfl)
 obtain ⟨e,he,hm⟩:=bind_some hm
 refine loop_rule (u:=.c c_Sd_7) (K:=K_Sd_7) (Q:=(Post vf_Sd (res_Sd r))) (b:=lp_Sd_7 p0) (We:=O_Sd_7 (Post vf_Sd (res_Sd r))) (stJ:=fun s=>s_Sd_7 p0 s) (s:=0) (fun s y hb hin hout=>ok_Sd_7 p0 s y hb (Post vf_Sd (res_Sd r)) hin hout) he ?_
 rcases e with e | e
 ·exact congrArg (fun r=>Post vf_Sd (res_Sd r)) (qj hm).symm
 ·show EE c_Sd_23 K_Sd_23 (s_Sd_23) _
  exact ok_Sd_23 r hm
theorem ok_Sd (p0:ByteArray) (r:Bool) (hm:m_Sd p0=some r):Runs ext tbl 139 (as_Sd p0) (res_Sd r):=
 runs_of (vf:=vf_Sd) (by kernel_rfl) rfl (st:=(enter vf_Sd (as_Sd p0)).getD default) (by kernel_rfl) (go_on [] 1000 J0 (ok_Sd_0 p0 r hm) (by kernel_rfl))
theorem ok_Sp_0 (p0:S_Track) (r:Bool) (hm:m_Sp_0 p0=some r):EE c_Sp_0 K_Sp_0 (s_Sp_0 p0) (Post vf_Sp (res_Sp r)):=by
 obtain ⟨h0_0,hm⟩|⟨h0_0,hm⟩:=split_ite hm
 ·obtain ⟨h0_1,hm⟩|⟨h0_1,hm⟩:=split_ite hm
  ·obtain ⟨h0_2,hm⟩|⟨h0_2,hm⟩:=split_ite hm
   ·obtain ⟨h0_3,hm⟩|⟨h0_3,hm⟩:=split_ite hm
    ·obtain ⟨h0_4,hm⟩|⟨h0_4,hm⟩:=split_ite hm
     ·obtain ⟨x0_5,h0_5,hm⟩:=bind_some hm
      exact go_end [zT,zT,zT,zT,zT,zT,zT,zT,zT,zT,zT,zT,zT,zT,zT,zT,zT,zT,zT,zT,.res (res_Sd x0_5),zT] 1000 (J4 h0_0 (J4 h0_1 (J4 h0_2 (J4 h0_3 (J h0_3 (J h0_4 (J h0_4 (J h0_4 (J (ok_Sd p0.name x0_5 h0_5) (J h0_4 J0)))))))))) (congrArg res_Sp (qj hm)) (by kernel_rfl)
     ·exact go_end [zT,zT,zT,zT,zT,zT,zT,zT,zT,zT,zT,zT,zT,zT,zT,zT,zT,zF,zF,zF,zF] 1000 (J4 h0_0 (J4 h0_1 (J4 h0_2 (J4 h0_3 (J h0_3 (J h0_4 (J h0_4 (J h0_4 (J h0_4 J0))))))))) (congrArg res_Sp (qj hm)) (by kernel_rfl)
    ·exact go_end [zT,zT,zT,zT,zT,zT,zT,zT,zT,zT,zT,zT,zF,zF,zF,zF,zF,zF,zF,zF,zF] 1000 (J4 h0_0 (J4 h0_1 (J4 h0_2 (J4 h0_3 (J h0_3 (J eF (J eF (J eF (J eF J0))))))))) (congrArg res_Sp (qj hm)) (by kernel_rfl)
   ·exact go_end [zT,zT,zT,zT,zT,zT,zT,zT,zF,zF,zF,zF,zF,zF,zF,zF,zF,zF,zF,zF,zF] 1000 (J4 h0_0 (J4 h0_1 (J4 h0_2 (J4 eF (J4 eF (J eF J0)))))) (congrArg res_Sp (qj hm)) (by kernel_rfl)
  ·exact go_end [zT,zT,zT,zT,zF,zF,zF,zF,zF,zF,zF,zF,zF,zF,zF,zF,zF,zF,zF,zF,zF] 1000 (J4 h0_0 (J4 h0_1 (J4 eF (J4 eF (J4 eF (J eF J0)))))) (congrArg res_Sp (qj hm)) (by kernel_rfl)
 ·exact go_end [zF,zF,zF,zF,zF,zF,zF,zF,zF,zF,zF,zF,zF,zF,zF,zF,zF,zF,zF,zF,zF] 1000 (J4 h0_0 (J4 eF (J4 eF (J4 eF (J4 eF (J eF J0)))))) (congrArg res_Sp (qj hm)) (by kernel_rfl)
theorem ok_Sp (p0:S_Track) (r:Bool) (hm:m_Sp p0=some r):Runs ext tbl 97 (as_Sp p0) (res_Sp r):=
 runs_of (vf:=vf_Sp) (by kernel_rfl) rfl (st:=(enter vf_Sp (as_Sp p0)).getD default) (by kernel_rfl) (go_on [] 1000 J0 (ok_Sp_0 p0 r hm) (by kernel_rfl))
def O_Sq_9 (Q:VX→St→Prop) (e:(Int)):Prop:=EE c_Sq_21 K_Sq_21 (s_Sq_21 e) Q
theorem ok_Sq_21 (i21_0 r:Int) (hm:m_Sq_21 i21_0=some r):EE c_Sq_21 K_Sq_21 (s_Sq_21 i21_0) (Post vf_Sq (res_Sq r)):=by
 exact go_end [] 1000 J0 (congrArg res_Sq (qj hm)) (by kernel_rfl)
theorem ok_Sq_9 (p0:(List Int)) (i9_0 i9_1:Int) (y) (hm:m_Sq_9 p0 i9_0 i9_1=some y) (Q)
  (hin:∀ s,y=.inl s→EE c_Sq_9 K_Sq_9 (s_Sq_9 p0 s.1 s.2) Q) (hout:∀ e,y=.inr e→O_Sq_9 Q e):EE c_Sq_9 K_Sq_9 (s_Sq_9 p0 i9_0 i9_1) Q:=by
 obtain ⟨h9_0,hm⟩|⟨h9_0,hm⟩:=split_ite hm
 ·obtain ⟨x9_1,h9_1,hm⟩:=bind_some hm
  exact gh (hin _ (qj hm).symm) [zT,.row ((rI .u8) x9_1)] (J h9_0 (J (rd_nn h9_1) (J (at_row (rI .u8) (rd_get h9_1)) J0))) (by kernel_rfl)
 ·refine gn c_Sq_21 K_Sq_21 (s_Sq_21 i9_0) [zF] (J h9_0 J0) ?_ (by kernel_rfl)
  exact hout i9_0 (qj hm).symm
theorem ok_Sq_0 (p0:(List Int)) (r:Int) (hm:m_Sq_0 p0=some r):EE c_Sq_0 K_Sq_0 (s_Sq_0 p0) (Post vf_Sq (res_Sq r)):=by
 refine gn c_Sq_9 K_Sq_9 (s_Sq_9 p0 0 0) [zn p0.length] (J (lm (rI .u8) p0) J0) ?_ (by kernel_rfl)
 obtain ⟨e,he,hm⟩:=bind_some hm
 refine loop_rule (u:=.c c_Sq_9) (K:=K_Sq_9) (Q:=(Post vf_Sq (res_Sq r))) (b:=lp_Sq_9 p0) (We:=O_Sq_9 (Post vf_Sq (res_Sq r))) (stJ:=fun s=>s_Sq_9 p0 s.1 s.2) (s:=(0,0)) (fun s y hb hin hout=>ok_Sq_9 p0 s.1 s.2 y hb (Post vf_Sq (res_Sq r)) hin hout) he ?_
 show EE c_Sq_21 K_Sq_21 (s_Sq_21 e) _
 exact ok_Sq_21 e r hm
theorem ok_Sq (p0:(List Int)) (r:Int) (hm:m_Sq p0=some r):Runs ext tbl 140 (as_Sq p0) (res_Sq r):=
 runs_of (vf:=vf_Sq) (by kernel_rfl) rfl (st:=(enter vf_Sq (as_Sq p0)).getD default) (by kernel_rfl) (go_on [] 1000 J0 (ok_Sq_0 p0 r hm) (by kernel_rfl))
def O_Sa_25 (p0:(List Int)) (i9_1:Int) (Q:VX→St→Prop) (e:(Int)):Prop:=EE c_Sa_43 K_Sa_43 (s_Sa_43 p0 i9_1 e) Q
def O_Sa_9 (Q:VX→St→Prop) (e:(Int)):Prop:=EE c_Sa_44 K_Sa_44 (s_Sa_44 e) Q
theorem ok_Sa_43 (p0:(List Int)) (i9_1 i43_0:Int) (y) (hm:m_Sa_43 p0 i9_1 i43_0=some y) (Q)
  (hin:∀ s,y=.inl s→EE c_Sa_9 K_Sa_9 (s_Sa_9 p0 s.1 s.2) Q) (hout:∀ e,y=.inr e→O_Sa_9 Q e):EE c_Sa_43 K_Sa_43 (s_Sa_43 p0 i9_1 i43_0) Q:=by
 exact gh (hin _ (qj hm).symm) [] J0 (by kernel_rfl)
theorem ok_Sa_25 (p0:(List Int)) (i9_1 i25_0 i25_1:Int) (y) (hm:m_Sa_25 p0 i9_1 i25_0 i25_1=some y) (Q)
  (hin:∀ s,y=.inl s→EE c_Sa_25 K_Sa_25 (s_Sa_25 p0 i9_1 s.1 s.2) Q) (hout:∀ e,y=.inr e→O_Sa_25 p0 i9_1 Q e):EE c_Sa_25 K_Sa_25 (s_Sa_25 p0 i9_1 i25_0 i25_1) Q:=by
 obtain ⟨h25_0,hm⟩|⟨h25_0,hm⟩:=split_ite hm
 ·obtain ⟨h25_1,hm⟩|⟨h25_1,hm⟩:=split_ite hm
  ·exact gh (hin _ (qj hm).symm) [zT,zT] (J h25_0 (J (by decide:(0:Int)≤1) (J h25_1 J0))) (by kernel_rfl)
  ·exact gh (hin _ (qj hm).symm) [zT,zF] (J h25_0 (J (by decide:(0:Int)≤1) (J h25_1 J0))) (by kernel_rfl)
 ·refine gn c_Sa_43 K_Sa_43 (s_Sa_43 p0 i9_1 i25_0) [zF] (J h25_0 J0) ?_ (by kernel_rfl)
  exact hout i25_0 (qj hm).symm
theorem ok_Sa_44 (i44_0 r:Int) (hm:m_Sa_44 i44_0=some r):EE c_Sa_44 K_Sa_44 (s_Sa_44 i44_0) (Post vf_Sa (res_Sa r)):=by
 exact go_end [] 1000 J0 (congrArg res_Sa (qj hm)) (by kernel_rfl)
theorem ok_Sa_9 (p0:(List Int)) (i9_0 i9_1:Int) (y) (hm:m_Sa_9 p0 i9_0 i9_1=some y) (Q)
  (hin:∀ s,y=.inl s→EE c_Sa_9 K_Sa_9 (s_Sa_9 p0 s.1 s.2) Q) (hout:∀ e,y=.inr e→O_Sa_9 Q e):EE c_Sa_9 K_Sa_9 (s_Sa_9 p0 i9_0 i9_1) Q:=by
 obtain ⟨h9_0,hm⟩|⟨h9_0,hm⟩:=split_ite hm
 ·obtain ⟨x9_1,h9_1,hm⟩:=bind_some hm
  refine gn c_Sa_25 K_Sa_25 (s_Sa_25 p0 i9_1 (xorI .u32 i9_0 (wr .u32 x9_1)) 0) [zT,.row ((rI .u8) x9_1)] (J h9_0 (J (rd_nn h9_1) (J (at_row (rI .u8) (rd_get h9_1)) J0))) ?_ (by kernel_rfl)
  obtain ⟨e,he,hm⟩:=bind_some hm
  refine loop_rule (u:=.c c_Sa_25) (K:=K_Sa_25) (Q:=Q) (b:=lp_Sa_25 p0 i9_1) (We:=O_Sa_25 p0 i9_1 Q) (stJ:=fun s=>s_Sa_25 p0 i9_1 s.1 s.2) (s:=((xorI .u32 i9_0 (wr .u32 x9_1)),0)) (fun s y hb hin hout=>ok_Sa_25 p0 i9_1 s.1 s.2 y hb Q hin hout) he ?_
  show EE c_Sa_43 K_Sa_43 (s_Sa_43 p0 i9_1 e) _
  exact ok_Sa_43 p0 i9_1 e y hm Q hin hout
 ·refine gn c_Sa_44 K_Sa_44 (s_Sa_44 i9_0) [zF] (J h9_0 J0) ?_ (by kernel_rfl)
  exact hout i9_0 (qj hm).symm
theorem ok_Sa_0 (p0:(List Int)) (r:Int) (hm:m_Sa_0 p0=some r):EE c_Sa_0 K_Sa_0 (s_Sa_0 p0) (Post vf_Sa (res_Sa r)):=by
 refine gn c_Sa_9 K_Sa_9 (s_Sa_9 p0 4294967295 0) [zn p0.length] (J (lm (rI .u8) p0) J0) ?_ (by kernel_rfl)
 obtain ⟨e,he,hm⟩:=bind_some hm
 refine loop_rule (u:=.c c_Sa_9) (K:=K_Sa_9) (Q:=(Post vf_Sa (res_Sa r))) (b:=lp_Sa_9 p0) (We:=O_Sa_9 (Post vf_Sa (res_Sa r))) (stJ:=fun s=>s_Sa_9 p0 s.1 s.2) (s:=(4294967295,0)) (fun s y hb hin hout=>ok_Sa_9 p0 s.1 s.2 y hb (Post vf_Sa (res_Sa r)) hin hout) he ?_
 show EE c_Sa_44 K_Sa_44 (s_Sa_44 e) _
 exact ok_Sa_44 e r hm
theorem ok_Sa (p0:(List Int)) (r:Int) (hm:m_Sa p0=some r):Runs ext tbl 107 (as_Sa p0) (res_Sa r):=
 runs_of (vf:=vf_Sa) (by kernel_rfl) rfl (st:=(enter vf_Sa (as_Sa p0)).getD default) (by kernel_rfl) (go_on [] 1000 J0 (ok_Sa_0 p0 r hm) (by kernel_rfl))
theorem ok_Sm_6 (x0_0:(List Int)×S_l16R) (b6_0:Bool) (r:S_l16R) (hm:m_Sm_6 x0_0 b6_0=some r):EE c_Sm_6 K_Sm_6 (s_Sm_6 x0_0 b6_0) (Post vf_Sm (res_Sm r)):=by
 obtain ⟨h6_0,hm⟩|⟨h6_0,hm⟩:=split_ite hm
 ·obtain ⟨x6_1,h6_1,hm⟩:=bind_some hm
  exact go_end [zT,.rows (List.map rS_Track x0_0.2.box.tracks),.rows (List.map rS_Packet x0_0.2.box.packets),.rows (List.map rS_Entry x0_0.2.index),.res (res_Sg x6_1),zn x6_1.box.tracks.length,zn x6_1.box.packets.length,zn x6_1.index.length,.rows (List.map rS_Track x6_1.box.tracks),.rows (List.map rS_Packet x6_1.box.packets),.rows (List.map rS_Entry x6_1.index)] 1000 (J h6_0 (Ja rS_Track x0_0.2.box.tracks (Ja rS_Packet x0_0.2.box.packets (Ja rS_Entry x0_0.2.index (J (ok_Sg x0_0.2 3 x6_1 h6_1) (J (lm rS_Track x6_1.box.tracks) (J (lm rS_Packet x6_1.box.packets) (J (lm rS_Entry x6_1.index) (Ja rS_Track x6_1.box.tracks (Ja rS_Packet x6_1.box.packets (Ja rS_Entry x6_1.index J0))))))))))) (congrArg res_Sm (qj hm)) (by kernel_rfl)
 ·exact go_end [zF,.rows (List.map rS_Track x0_0.2.box.tracks),.rows (List.map rS_Packet x0_0.2.box.packets),.rows (List.map rS_Entry x0_0.2.index)] 1000 (J h6_0 (Ja rS_Track x0_0.2.box.tracks (Ja rS_Packet x0_0.2.box.packets (Ja rS_Entry x0_0.2.index J0)))) (congrArg res_Sm (qj hm)) (by kernel_rfl)
theorem ok_Sm_0 (p1:Int) (p0 r:S_l16R) (hm:m_Sm_0 p1 p0=some r):EE c_Sm_0 K_Sm_0 (s_Sm_0 p1 p0) (Post vf_Sm (res_Sm r)):=by
 obtain ⟨x0_0,h0_0,hm⟩:=bind_some hm
 obtain ⟨h0_1,hm⟩|⟨h0_1,hm⟩:=split_ite hm
 ·obtain ⟨x0_2,h0_2,hm⟩:=bind_some hm
  obtain ⟨x0_3,h0_3,hm⟩:=bind_some hm
  obtain ⟨x0_4,h0_4,hm⟩:=bind_some hm
  obtain ⟨x0_5,h0_5,hm⟩:=bind_some hm
  exact gh (ok_Sm_6 _ _ r hm) [.rows (List.map rS_Track p0.box.tracks),.rows (List.map rS_Packet p0.box.packets),.rows (List.map rS_Entry p0.index),.res (res_Sn x0_0),zn x0_0.2.box.tracks.length,zn x0_0.2.box.packets.length,zn x0_0.2.index.length,zT,zT,.res (res_Sq x0_2),zT,zT,zT,zT,zT,zT,zT,zT,.rows (List.map (rI .u8) ((x0_0.2.data.take (Int.toNat p0.at_)).drop (Int.toNat p1))),zT,.res (res_Sa x0_5),zT,zT,zn x0_0.2.box.tracks.length,zn x0_0.2.box.packets.length,zn x0_0.2.index.length] (Ja rS_Track p0.box.tracks (Ja rS_Packet p0.box.packets (Ja rS_Entry p0.index (J (ok_Sn p0 4 x0_0 h0_0) (J (lm rS_Track x0_0.2.box.tracks) (J (lm rS_Packet x0_0.2.box.packets) (J (lm rS_Entry x0_0.2.index) (J h0_1 (J h0_1 (J (ok_Sq x0_0.1 x0_2 h0_2) (J4 h0_1 (J4 h0_1 (J (slc_hi (rI .u8) x0_0.2.data (ck_p h0_3)) (J (ck_p h0_4) (J (slc_tell (rI .u8) x0_0.2.data (Int.toNat p1) (Int.toNat p0.at_)) (J h0_1 (J (ok_Sa ((x0_0.2.data.take (Int.toNat p0.at_)).drop (Int.toNat p1)) x0_5 h0_5) (J h0_1 (J h0_1 (J (ln x0_0.2.box.tracks.length) (J (ln x0_0.2.box.packets.length) (J (ln x0_0.2.index.length) J0)))))))))))))))))))))) (by kernel_rfl)
 ·exact gh (ok_Sm_6 _ _ r hm) [.rows (List.map rS_Track p0.box.tracks),.rows (List.map rS_Packet p0.box.packets),.rows (List.map rS_Entry p0.index),.res (res_Sn x0_0),zn x0_0.2.box.tracks.length,zn x0_0.2.box.packets.length,zn x0_0.2.index.length,zF,zF,zF,zF,zF,zF,zF,zF,zF,zF,zF,zF,zF,zn x0_0.2.box.tracks.length,zn x0_0.2.box.packets.length,zn x0_0.2.index.length] (Ja rS_Track p0.box.tracks (Ja rS_Packet p0.box.packets (Ja rS_Entry p0.index (J (ok_Sn p0 4 x0_0 h0_0) (J (lm rS_Track x0_0.2.box.tracks) (J (lm rS_Packet x0_0.2.box.packets) (J (lm rS_Entry x0_0.2.index) (J4 h0_1 (J4 h0_1 (J4 h0_1 (J h0_1 (J (ln x0_0.2.box.tracks.length) (J (ln x0_0.2.box.packets.length) (J (ln x0_0.2.index.length) J0)))))))))))))) (by kernel_rfl)
theorem ok_Sm (p0:S_l16R) (p1:Int) (r:S_l16R) (hm:m_Sm p0 p1=some r):Runs ext tbl 98 (as_Sm p0 p1) (res_Sm r):=
 runs_of (vf:=vf_Sm) (by kernel_rfl) rfl (st:=(enter vf_Sm (as_Sm p0 p1)).getD default) (by kernel_rfl) (go_on [zn p0.box.tracks.length,zn p0.box.packets.length,zn p0.index.length] 1000 (J (len_map rS_Track (rfl:p0.box.tracks.length=p0.box.tracks.length)) (J (len_map rS_Packet (rfl:p0.box.packets.length=p0.box.packets.length)) (J (len_map rS_Entry (rfl:p0.index.length=p0.index.length)) J0))) (ok_Sm_0 p1 p0 r hm) (by kernel_rfl))
def O_Sh_36 (Q:VX→St→Prop) (e:((List Int)×Int×Int×Int×Int×(List S_Track)×(List S_Packet)×(List S_Entry))):Prop:=EE c_Sh_60 K_Sh_60 (s_Sh_60 e.1 e.2.1 e.2.2.1 e.2.2.2.1 e.2.2.2.2.1 e.2.2.2.2.2.1 e.2.2.2.2.2.2.1 e.2.2.2.2.2.2.2) Q
def O_Sh_5 (Q:VX→St→Prop) (e:((List Int)×Int×Int×Int×Int×(List S_Track)×(List S_Packet)×(List S_Entry))):Prop:=EE c_Sh_23 K_Sh_23 (s_Sh_23 e.1 e.2.1 e.2.2.1 e.2.2.2.1 e.2.2.2.2.1 e.2.2.2.2.2.1 e.2.2.2.2.2.2.1 e.2.2.2.2.2.2.2) Q
theorem ok_Sh_19 (i5_0:Int) (x5_2:Int×S_l16R) (l5_6:(List Int)) (b19_0:Bool) (y) (hm:m_Sh_19 i5_0 x5_2 l5_6 b19_0=some y) (Q)
  (hin:∀ s,y=.inl s→EE c_Sh_5 K_Sh_5 (s_Sh_5 s.1 s.2.1 s.2.2.1 s.2.2.2.1 s.2.2.2.2.1 s.2.2.2.2.2.1 s.2.2.2.2.2.2.1 s.2.2.2.2.2.2.2.1 s.2.2.2.2.2.2.2.2.1 s.2.2.2.2.2.2.2.2.2) Q) (hout:∀ e,y=.inr e→O_Sh_5 Q e):EE c_Sh_19 K_Sh_19 (s_Sh_19 i5_0 x5_2 l5_6 b19_0) Q:=by
 obtain ⟨h19_0,hm⟩|⟨h19_0,hm⟩:=split_ite hm
 ·obtain ⟨x19_1,h19_1,hm⟩:=bind_some hm
  exact gh (hin _ (qj hm).symm) [zT,.rows (List.map rS_Track x5_2.2.box.tracks),.rows (List.map rS_Packet x5_2.2.box.packets),.rows (List.map rS_Entry x5_2.2.index),.res (res_Sg x19_1),zn x19_1.box.tracks.length,zn x19_1.box.packets.length,zn x19_1.index.length,zn l5_6.length,zn x19_1.box.tracks.length,zn x19_1.box.packets.length,zn x19_1.index.length] (J h19_0 (Ja rS_Track x5_2.2.box.tracks (Ja rS_Packet x5_2.2.box.packets (Ja rS_Entry x5_2.2.index (J (ok_Sg x5_2.2 4 x19_1 h19_1) (J (lm rS_Track x19_1.box.tracks) (J (lm rS_Packet x19_1.box.packets) (J (lm rS_Entry x19_1.index) (J (ln l5_6.length) (J (ln x19_1.box.tracks.length) (J (ln x19_1.box.packets.length) (J (ln x19_1.index.length) J0)))))))))))) (by kernel_rfl)
 ·exact gh (hin _ (qj hm).symm) [zF,zn l5_6.length,zn x5_2.2.box.tracks.length,zn x5_2.2.box.packets.length,zn x5_2.2.index.length] (J h19_0 (J (ln l5_6.length) (J (ln x5_2.2.box.tracks.length) (J (ln x5_2.2.box.packets.length) (J (ln x5_2.2.index.length) J0))))) (by kernel_rfl)
theorem ok_Sh_58 (x23_0:Int×S_l16R) (i36_0:Int) (x36_2:Int×S_l16R) (x36_3:Int×S_l16R) (x36_6:ByteArray) (l58_0:(List Int)) (i58_1 i58_2 i58_3 i58_4:Int) (l58_5:(List S_Track)) (l58_6:(List S_Packet)) (l58_7:(List S_Entry)) (y) (hm:m_Sh_58 x23_0 i36_0 x36_2 x36_3 x36_6 l58_0 i58_1 i58_2 i58_3 i58_4 l58_5 l58_6 l58_7=some y) (Q)
  (hin:∀ s,y=.inl s→EE c_Sh_36 K_Sh_36 (s_Sh_36 x23_0 s.1 s.2.1 s.2.2.1 s.2.2.2.1 s.2.2.2.2.1 s.2.2.2.2.2.1 s.2.2.2.2.2.2.1 s.2.2.2.2.2.2.2.1 s.2.2.2.2.2.2.2.2) Q) (hout:∀ e,y=.inr e→O_Sh_36 Q e):EE c_Sh_58 K_Sh_58 (s_Sh_58 x23_0 i36_0 x36_2 x36_3 x36_6 l58_0 i58_1 i58_2 i58_3 i58_4 l58_5 l58_6 l58_7) Q:=by
 obtain ⟨x58_0,h58_0,hm⟩:=bind_some hm
 exact gh (hin _ (qj hm).symm) [.rows (List.map rS_Track ([(S_Track.mk x36_2.1 x36_3.1 x36_6)]:List S_Track)),zn 1,.rows (List.map rS_Track (l58_5++([(S_Track.mk x36_2.1 x36_3.1 x36_6)]:List S_Track))),zn ((l58_5++([(S_Track.mk x36_2.1 x36_3.1 x36_6)]:List S_Track)).length),zn ((l58_5++([(S_Track.mk x36_2.1 x36_3.1 x36_6)]:List S_Track)).length),zn l58_6.length,zn l58_7.length] (J (Eq.refl (List.map rS_Track ([(S_Track.mk x36_2.1 x36_3.1 x36_6)]:List S_Track))) (J (len_map rS_Track (show 1=([(S_Track.mk x36_2.1 x36_3.1 x36_6)]:List S_Track).length from rfl)) (J (all_le rS_Track ([(S_Track.mk x36_2.1 x36_3.1 x36_6)]:List S_Track) rfl) (J (app_ck rS_Track l58_5 ([(S_Track.mk x36_2.1 x36_3.1 x36_6)]:List S_Track) rfl rfl h58_0) (J (app_tell rS_Track l58_5 ([(S_Track.mk x36_2.1 x36_3.1 x36_6)]:List S_Track) rfl rfl) (J (len_map rS_Track (show (l58_5++([(S_Track.mk x36_2.1 x36_3.1 x36_6)]:List S_Track)).length=(l58_5++([(S_Track.mk x36_2.1 x36_3.1 x36_6)]:List S_Track)).length from rfl)) (J (lens ((l58_5++([(S_Track.mk x36_2.1 x36_3.1 x36_6)]:List S_Track)).length) ((l58_5++([(S_Track.mk x36_2.1 x36_3.1 x36_6)]:List S_Track)).length) rfl) (J (ln l58_6.length) (J (ln l58_7.length) J0))))))))) (by kernel_rfl)
theorem ok_Sh_55 (x23_0:Int×S_l16R) (i36_0:Int) (x36_5:(List Int)×S_l16R) (x36_2:Int×S_l16R) (x36_3:Int×S_l16R) (x36_6:ByteArray) (b55_0:Bool) (y) (hm:m_Sh_55 x23_0 i36_0 x36_5 x36_2 x36_3 x36_6 b55_0=some y) (Q)
  (hin:∀ s,y=.inl s→EE c_Sh_36 K_Sh_36 (s_Sh_36 x23_0 s.1 s.2.1 s.2.2.1 s.2.2.2.1 s.2.2.2.2.1 s.2.2.2.2.2.1 s.2.2.2.2.2.2.1 s.2.2.2.2.2.2.2.1 s.2.2.2.2.2.2.2.2) Q) (hout:∀ e,y=.inr e→O_Sh_36 Q e):EE c_Sh_55 K_Sh_55 (s_Sh_55 x23_0 i36_0 x36_5 x36_2 x36_3 x36_6 b55_0) Q:=by
 obtain ⟨h55_0,hm⟩|⟨h55_0,hm⟩:=split_ite hm
 ·obtain ⟨x55_1,h55_1,hm⟩:=bind_some hm
  exact gh (ok_Sh_58 _ _ _ _ _ _ _ _ _ _ _ _ _ y hm Q hin hout) [zT,.rows (List.map rS_Track x36_5.2.box.tracks),.rows (List.map rS_Packet x36_5.2.box.packets),.rows (List.map rS_Entry x36_5.2.index),.res (res_Sg x55_1),zn x55_1.box.tracks.length,zn x55_1.box.packets.length,zn x55_1.index.length,zn x55_1.box.tracks.length,zn x55_1.box.packets.length,zn x55_1.index.length] (J h55_0 (Ja rS_Track x36_5.2.box.tracks (Ja rS_Packet x36_5.2.box.packets (Ja rS_Entry x36_5.2.index (J (ok_Sg x36_5.2 5 x55_1 h55_1) (J (lm rS_Track x55_1.box.tracks) (J (lm rS_Packet x55_1.box.packets) (J (lm rS_Entry x55_1.index) (J (ln x55_1.box.tracks.length) (J (ln x55_1.box.packets.length) (J (ln x55_1.index.length) J0))))))))))) (by kernel_rfl)
 ·exact gh (ok_Sh_58 _ _ _ _ _ _ _ _ _ _ _ _ _ y hm Q hin hout) [zF,zn x36_5.2.box.tracks.length,zn x36_5.2.box.packets.length,zn x36_5.2.index.length] (J h55_0 (J (ln x36_5.2.box.tracks.length) (J (ln x36_5.2.box.packets.length) (J (ln x36_5.2.index.length) J0)))) (by kernel_rfl)
theorem ok_Sh_60 (l60_0:(List Int)) (i60_1 i60_2 i60_3 i60_4:Int) (l60_5:(List S_Track)) (l60_6:(List S_Packet)) (l60_7:(List S_Entry)) (r:S_l16R) (hm:m_Sh_60 l60_0 i60_1 i60_2 i60_3 i60_4 l60_5 l60_6 l60_7=some r):EE c_Sh_60 K_Sh_60 (s_Sh_60 l60_0 i60_1 i60_2 i60_3 i60_4 l60_5 l60_6 l60_7) (Post vf_Sh (res_Sh r)):=by
 obtain ⟨x60_0,h60_0,hm⟩:=bind_some hm
 exact go_end [.rows (List.map rS_Track l60_5),.rows (List.map rS_Packet l60_6),.rows (List.map rS_Entry l60_7),.res (res_Sm x60_0),zn x60_0.box.tracks.length,zn x60_0.box.packets.length,zn x60_0.index.length,.rows (List.map rS_Track x60_0.box.tracks),.rows (List.map rS_Packet x60_0.box.packets),.rows (List.map rS_Entry x60_0.index)] 1000 (Ja rS_Track l60_5 (Ja rS_Packet l60_6 (Ja rS_Entry l60_7 (J (ok_Sm (S_l16R.mk l60_0 i60_1 i60_2 (S_Box.mk l60_5 l60_6) i60_3 i60_4 l60_7) 0 x60_0 h60_0) (J (lm rS_Track x60_0.box.tracks) (J (lm rS_Packet x60_0.box.packets) (J (lm rS_Entry x60_0.index) (Ja rS_Track x60_0.box.tracks (Ja rS_Packet x60_0.box.packets (Ja rS_Entry x60_0.index J0)))))))))) (congrArg res_Sh (qj hm)) (by kernel_rfl)
theorem ok_Sh_36 (x23_0:Int×S_l16R) (i36_0:Int) (l36_1:(List Int)) (i36_2 i36_3 i36_4 i36_5:Int) (l36_6:(List S_Track)) (l36_7:(List S_Packet)) (l36_8:(List S_Entry)) (y) (hm:m_Sh_36 x23_0 i36_0 l36_1 i36_2 i36_3 i36_4 i36_5 l36_6 l36_7 l36_8=some y) (Q)
  (hin:∀ s,y=.inl s→EE c_Sh_36 K_Sh_36 (s_Sh_36 x23_0 s.1 s.2.1 s.2.2.1 s.2.2.2.1 s.2.2.2.2.1 s.2.2.2.2.2.1 s.2.2.2.2.2.2.1 s.2.2.2.2.2.2.2.1 s.2.2.2.2.2.2.2.2) Q) (hout:∀ e,y=.inr e→O_Sh_36 Q e):EE c_Sh_36 K_Sh_36 (s_Sh_36 x23_0 i36_0 l36_1 i36_2 i36_3 i36_4 i36_5 l36_6 l36_7 l36_8) Q:=by
 obtain ⟨h36_0,hm⟩|⟨h36_0,hm⟩:=split_ite hm
 ·obtain ⟨h36_1,hm⟩|⟨h36_1,hm⟩:=split_ite hm
  ·obtain ⟨x36_2,h36_2,hm⟩:=bind_some hm
   obtain ⟨x36_3,h36_3,hm⟩:=bind_some hm
   obtain ⟨x36_4,h36_4,hm⟩:=bind_some hm
   obtain ⟨x36_5,h36_5,hm⟩:=bind_some hm
   obtain ⟨x36_6,h36_6,hm⟩:=bind_some hm
   obtain ⟨h36_7,hm⟩|⟨h36_7,hm⟩:=split_ite hm
   ·obtain ⟨x36_8,h36_8,hm⟩:=bind_some hm
    exact gh (ok_Sh_55 _ _ _ _ _ _ _ y hm Q hin hout) [zT,zT,zT,zT,zT,zT,zT,.rows (List.map rS_Track l36_6),.rows (List.map rS_Packet l36_7),.rows (List.map rS_Entry l36_8),.res (res_Sf x36_2),zn x36_2.2.box.tracks.length,zn x36_2.2.box.packets.length,zn x36_2.2.index.length,.rows (List.map rS_Track x36_2.2.box.tracks),.rows (List.map rS_Packet x36_2.2.box.packets),.rows (List.map rS_Entry x36_2.2.index),.res (res_Sj x36_3),zn x36_3.2.box.tracks.length,zn x36_3.2.box.packets.length,zn x36_3.2.index.length,.rows (List.map rS_Track x36_3.2.box.tracks),.rows (List.map rS_Packet x36_3.2.box.packets),.rows (List.map rS_Entry x36_3.2.index),.res (res_Sf x36_4),zn x36_4.2.box.tracks.length,zn x36_4.2.box.packets.length,zn x36_4.2.index.length,.rows (List.map rS_Track x36_4.2.box.tracks),.rows (List.map rS_Packet x36_4.2.box.packets),.rows (List.map rS_Entry x36_4.2.index),.res (res_Sn x36_5),zn x36_5.2.box.tracks.length,zn x36_5.2.box.packets.length,zn x36_5.2.index.length,.str x36_6,zT,zT,.res (res_Sp x36_8),zT,zT,zn x36_5.2.box.tracks.length,zn x36_5.2.box.packets.length,zn x36_5.2.index.length] (J4 h36_0 (J h36_0 (J h36_0 (J h36_1 (Ja rS_Track l36_6 (Ja rS_Packet l36_7 (Ja rS_Entry l36_8 (J (ok_Sf (S_l16R.mk l36_1 i36_2 i36_3 (S_Box.mk l36_6 l36_7) i36_4 i36_5 l36_8) x36_2 h36_2) (J (lm rS_Track x36_2.2.box.tracks) (J (lm rS_Packet x36_2.2.box.packets) (J (lm rS_Entry x36_2.2.index) (Ja rS_Track x36_2.2.box.tracks (Ja rS_Packet x36_2.2.box.packets (Ja rS_Entry x36_2.2.index (J (ok_Sj x36_2.2 x36_3 h36_3) (J (lm rS_Track x36_3.2.box.tracks) (J (lm rS_Packet x36_3.2.box.packets) (J (lm rS_Entry x36_3.2.index) (Ja rS_Track x36_3.2.box.tracks (Ja rS_Packet x36_3.2.box.packets (Ja rS_Entry x36_3.2.index (J (ok_Sf x36_3.2 x36_4 h36_4) (J (lm rS_Track x36_4.2.box.tracks) (J (lm rS_Packet x36_4.2.box.packets) (J (lm rS_Entry x36_4.2.index) (Ja rS_Track x36_4.2.box.tracks (Ja rS_Packet x36_4.2.box.packets (Ja rS_Entry x36_4.2.index (J (ok_Sn x36_4.2 x36_4.1 x36_5 h36_5) (J (lm rS_Track x36_5.2.box.tracks) (J (lm rS_Packet x36_5.2.box.packets) (J (lm rS_Entry x36_5.2.index) (J (bstr_t h36_6) (J h36_7 (J h36_7 (J (ok_Sp (S_Track.mk x36_2.1 x36_3.1 x36_6) x36_8 h36_8) (J h36_7 (J h36_7 (J (ln x36_5.2.box.tracks.length) (J (ln x36_5.2.box.packets.length) (J (ln x36_5.2.index.length) J0))))))))))))))))))))))))))))))))))))))))) (by kernel_rfl)
   ·exact gh (ok_Sh_55 _ _ _ _ _ _ _ y hm Q hin hout) [zT,zT,zT,zT,zT,zT,zT,.rows (List.map rS_Track l36_6),.rows (List.map rS_Packet l36_7),.rows (List.map rS_Entry l36_8),.res (res_Sf x36_2),zn x36_2.2.box.tracks.length,zn x36_2.2.box.packets.length,zn x36_2.2.index.length,.rows (List.map rS_Track x36_2.2.box.tracks),.rows (List.map rS_Packet x36_2.2.box.packets),.rows (List.map rS_Entry x36_2.2.index),.res (res_Sj x36_3),zn x36_3.2.box.tracks.length,zn x36_3.2.box.packets.length,zn x36_3.2.index.length,.rows (List.map rS_Track x36_3.2.box.tracks),.rows (List.map rS_Packet x36_3.2.box.packets),.rows (List.map rS_Entry x36_3.2.index),.res (res_Sf x36_4),zn x36_4.2.box.tracks.length,zn x36_4.2.box.packets.length,zn x36_4.2.index.length,.rows (List.map rS_Track x36_4.2.box.tracks),.rows (List.map rS_Packet x36_4.2.box.packets),.rows (List.map rS_Entry x36_4.2.index),.res (res_Sn x36_5),zn x36_5.2.box.tracks.length,zn x36_5.2.box.packets.length,zn x36_5.2.index.length,.str x36_6,zF,zF,zF,zF,zn x36_5.2.box.tracks.length,zn x36_5.2.box.packets.length,zn x36_5.2.index.length] (J4 h36_0 (J h36_0 (J h36_0 (J h36_1 (Ja rS_Track l36_6 (Ja rS_Packet l36_7 (Ja rS_Entry l36_8 (J (ok_Sf (S_l16R.mk l36_1 i36_2 i36_3 (S_Box.mk l36_6 l36_7) i36_4 i36_5 l36_8) x36_2 h36_2) (J (lm rS_Track x36_2.2.box.tracks) (J (lm rS_Packet x36_2.2.box.packets) (J (lm rS_Entry x36_2.2.index) (Ja rS_Track x36_2.2.box.tracks (Ja rS_Packet x36_2.2.box.packets (Ja rS_Entry x36_2.2.index (J (ok_Sj x36_2.2 x36_3 h36_3) (J (lm rS_Track x36_3.2.box.tracks) (J (lm rS_Packet x36_3.2.box.packets) (J (lm rS_Entry x36_3.2.index) (Ja rS_Track x36_3.2.box.tracks (Ja rS_Packet x36_3.2.box.packets (Ja rS_Entry x36_3.2.index (J (ok_Sf x36_3.2 x36_4 h36_4) (J (lm rS_Track x36_4.2.box.tracks) (J (lm rS_Packet x36_4.2.box.packets) (J (lm rS_Entry x36_4.2.index) (Ja rS_Track x36_4.2.box.tracks (Ja rS_Packet x36_4.2.box.packets (Ja rS_Entry x36_4.2.index (J (ok_Sn x36_4.2 x36_4.1 x36_5 h36_5) (J (lm rS_Track x36_5.2.box.tracks) (J (lm rS_Packet x36_5.2.box.packets) (J (lm rS_Entry x36_5.2.index) (J (bstr_t h36_6) (J4 h36_7 (J (ln x36_5.2.box.tracks.length) (J (ln x36_5.2.box.packets.length) (J (ln x36_5.2.index.length) J0))))))))))))))))))))))))))))))))))))) (by kernel_rfl)
  ·refine gn c_Sh_60 K_Sh_60 (s_Sh_60 l36_1 i36_2 i36_3 i36_4 i36_5 l36_6 l36_7 l36_8) [zT,zT,zT,zT,zT,zT,zF,zn l36_6.length,zn l36_7.length,zn l36_8.length] (J4 h36_0 (J h36_0 (J h36_0 (J h36_1 (J (ln l36_6.length) (J (ln l36_7.length) (J (ln l36_8.length) J0))))))) ?_ (by kernel_rfl)
   exact hout (l36_1,i36_2,i36_3,i36_4,i36_5,l36_6,l36_7,l36_8) (qj hm).symm
 ·refine gn c_Sh_60 K_Sh_60 (s_Sh_60 l36_1 i36_2 i36_3 i36_4 i36_5 l36_6 l36_7 l36_8) [zF,zF,zF,zF,zF,zF,zF,zn l36_6.length,zn l36_7.length,zn l36_8.length] (J4 h36_0 (J h36_0 (J h36_0 (J eF (J (ln l36_6.length) (J (ln l36_7.length) (J (ln l36_8.length) J0))))))) ?_ (by kernel_rfl)
  exact hout (l36_1,i36_2,i36_3,i36_4,i36_5,l36_6,l36_7,l36_8) (qj hm).symm
theorem ok_Sh_31 (x23_0:Int×S_l16R) (l31_0:(List Int)) (i31_1 i31_2 i31_3 i31_4:Int) (l31_5:(List S_Track)) (l31_6:(List S_Packet)) (l31_7:(List S_Entry)) (r:S_l16R) (hm:m_Sh_31 x23_0 l31_0 i31_1 i31_2 i31_3 i31_4 l31_5 l31_6 l31_7=some r):EE c_Sh_31 K_Sh_31 (s_Sh_31 x23_0 l31_0 i31_1 i31_2 i31_3 i31_4 l31_5 l31_6 l31_7) (Post vf_Sh (res_Sh r)):=by
 refine gn c_Sh_36 K_Sh_36 (s_Sh_36 x23_0 0 l31_0 i31_1 i31_2 i31_3 i31_4 l31_5 l31_6 l31_7) [zn l31_5.length,zn l31_6.length,zn l31_7.length] (J (ln l31_5.length) (J (ln l31_6.length) (J (ln l31_7.length) J0))) ?_ (by kernel_rfl)
 obtain ⟨e,he,hm⟩:=bind_some hm
 refine loop_rule (u:=.c c_Sh_36) (K:=K_Sh_36) (Q:=(Post vf_Sh (res_Sh r))) (b:=lp_Sh_36 x23_0) (We:=O_Sh_36 (Post vf_Sh (res_Sh r))) (stJ:=fun s=>s_Sh_36 x23_0 s.1 s.2.1 s.2.2.1 s.2.2.2.1 s.2.2.2.2.1 s.2.2.2.2.2.1 s.2.2.2.2.2.2.1 s.2.2.2.2.2.2.2.1 s.2.2.2.2.2.2.2.2) (s:=(0,l31_0,i31_1,i31_2,i31_3,i31_4,l31_5,l31_6,l31_7)) (fun s y hb hin hout=>ok_Sh_36 x23_0 s.1 s.2.1 s.2.2.1 s.2.2.2.1 s.2.2.2.2.1 s.2.2.2.2.2.1 s.2.2.2.2.2.2.1 s.2.2.2.2.2.2.2.1 s.2.2.2.2.2.2.2.2 y hb (Post vf_Sh (res_Sh r)) hin hout) he ?_
 show EE c_Sh_60 K_Sh_60 (s_Sh_60 e.1 e.2.1 e.2.2.1 e.2.2.2.1 e.2.2.2.2.1 e.2.2.2.2.2.1 e.2.2.2.2.2.2.1 e.2.2.2.2.2.2.2) _
 exact ok_Sh_60 e.1 e.2.1 e.2.2.1 e.2.2.2.1 e.2.2.2.2.1 e.2.2.2.2.2.1 e.2.2.2.2.2.2.1 e.2.2.2.2.2.2.2 r hm
theorem ok_Sh_28 (x23_0:Int×S_l16R) (b28_0:Bool) (r:S_l16R) (hm:m_Sh_28 x23_0 b28_0=some r):EE c_Sh_28 K_Sh_28 (s_Sh_28 x23_0 b28_0) (Post vf_Sh (res_Sh r)):=by
 obtain ⟨h28_0,hm⟩|⟨h28_0,hm⟩:=split_ite hm
 ·obtain ⟨x28_1,h28_1,hm⟩:=bind_some hm
  exact gh (ok_Sh_31 _ _ _ _ _ _ _ _ _ r hm) [zT,.rows (List.map rS_Track x23_0.2.box.tracks),.rows (List.map rS_Packet x23_0.2.box.packets),.rows (List.map rS_Entry x23_0.2.index),.res (res_Sg x28_1),zn x28_1.box.tracks.length,zn x28_1.box.packets.length,zn x28_1.index.length,zn x28_1.box.tracks.length,zn x28_1.box.packets.length,zn x28_1.index.length] (J h28_0 (Ja rS_Track x23_0.2.box.tracks (Ja rS_Packet x23_0.2.box.packets (Ja rS_Entry x23_0.2.index (J (ok_Sg x23_0.2 5 x28_1 h28_1) (J (lm rS_Track x28_1.box.tracks) (J (lm rS_Packet x28_1.box.packets) (J (lm rS_Entry x28_1.index) (J (ln x28_1.box.tracks.length) (J (ln x28_1.box.packets.length) (J (ln x28_1.index.length) J0))))))))))) (by kernel_rfl)
 ·exact gh (ok_Sh_31 _ _ _ _ _ _ _ _ _ r hm) [zF,zn x23_0.2.box.tracks.length,zn x23_0.2.box.packets.length,zn x23_0.2.index.length] (J h28_0 (J (ln x23_0.2.box.tracks.length) (J (ln x23_0.2.box.packets.length) (J (ln x23_0.2.index.length) J0)))) (by kernel_rfl)
end Go.Proofs.V
