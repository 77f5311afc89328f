import Derived.Test.YtamifoopbmjhmaaFnExactDecodeSoundV3
import Derived.Test.YtamifoopbmjhmaaProg
import Derived.KernelRfl
set_option linter.unusedVariables false
set_option maxRecDepth 100000
namespace Go.Proofs.V
open Go
def c_Lo_12:VC:=
 .ite (.s 11) (.skip) (.exit 0)
def c_Lo_18:VC:=
 .r 4 [M 12 4,
  {op:=.bin 13 .add (.s 12) (.k (.int .i64 1))},
  M 4 13]
def c_Lo_15:VC:=
 .seq (.blk 1 (.r 5 [M 14 3,
  M 15 4,
  M 16 0,
  M 17 4,
  oX 18 16 17 1,
  oL 19 18 1,
  oX 20 14 15 1,
  oS 20 19 1])) c_Lo_18
def c_Lo_9:VC:=
 .seq (.seq (.r 3 [M 8 4,
  M 9 0,
  {op:=.len 10 (.s 9)},
  {op:=.bin 11 .lss (.s 8) (.s 10)}]) c_Lo_12) c_Lo_15
def c_Lo_7:VC:=
 .blk 0 (.loop [0,3,4] c_Lo_9)
def c_Lo_19:VC:=
 .seq (.r 6 [M 21 3,
  M 2 21]) (.ret)
def c_Lo_4:VC:=
 .seq (.seq (.r 2 [oN 4 0]) c_Lo_7) (.kp [3] c_Lo_19)
def c_Lo_2:VC:=
 .seq (.r 1 [M 5 0,
  {op:=.len 6 (.s 5)},
  {op:=.mk 7 (.s 6) [.sc] [(.int .u8 0)] 140737488355328},
  M 3 7]) c_Lo_4
def c_Lo_0:VC:=
 .seq (.r 0 [{op:=.nil 2 [.sc]}]) c_Lo_2
def vf_Lo:VF:={ pm:=[.ro [.ro [.sc]]],rm:=[.v [.own [.sc]]],nslots:=22,res:=[2],rc:=[],code:=.kp [0] c_Lo_0 }
def c_Ss_5:VC:=
 .ite (.s 7) (.seq (.r 2 [M 8 0,
  M 9 1,
  {op:=.bin 10 .quo (.s 9) (.k (.int .i64 8))},
  oX 11 8 10 1,
  oL 12 11 1,
  M 13 1,
  {op:=.bin 14 .rem (.s 13) (.k (.int .i64 8))},
  {op:=.bin 15 .sub (.k (.int .i64 7)) (.s 14)},
  {op:=.conv 16 .u64 (.s 15)},
  {op:=.bin 17 .shr (.s 12) (.s 16)},
  {op:=.conv 18 .u64 (.s 17)},
  {op:=.bin 19 .and (.s 18) (.k (.int .u64 1))},
  M 6 19]) (.ret)) (.skip)
def c_Ss_10:VC:=
 .seq (.r 3 [M 20 0,
  M 21 1,
  {op:=.bin 22 .quo (.s 21) (.k (.int .i64 8))},
  oX 23 20 22 1,
  oL 24 23 1,
  M 25 1,
  {op:=.bin 26 .rem (.s 25) (.k (.int .i64 8))},
  {op:=.conv 27 .u64 (.s 26)},
  {op:=.bin 28 .shr (.s 24) (.s 27)},
  {op:=.conv 29 .u64 (.s 28)},
  {op:=.bin 30 .and (.s 29) (.k (.int .u64 1))},
  M 6 30]) (.ret)
def c_Ss_2:VC:=
 .seq (.seq (.r 1 [M 7 2]) c_Ss_5) c_Ss_10
def c_Ss_0:VC:=
 .seq (.r 0 [{op:=.mv 6 (.k (.int .u64 0))}]) c_Ss_2
def vf_Ss:VF:={ pm:=[.ro [.ro [.sc]],.ro [.sc],.ro [.sc]],rm:=[.v [.sc]],nslots:=31,res:=[6],rc:=[],code:=.kp [0,1,2] c_Ss_0 }
def c_St_5:VC:=
 .ite (.s 37) (.seq (.r 2 [{op:=.bld 38 [.k (.bool false),.k (.int .u64 0),.k (.int .i64 0)] []},
  oS 8 38 3]) (.ret)) (.skip)
def c_St_20:VC:=
 .ite (.s 41) (.skip) (.exit 0)
def c_St_29:VC:=
 .ite (.s 50) (.r 9 [M 51 9,
  {op:=.bin 52 .mul (.s 51) (.k (.int .u64 2))},
  M 53 11,
  {op:=.bin 54 .add (.s 52) (.s 53)},
  M 9 54]) (.r 10 [M 55 9,
  M 56 11,
  M 57 10,
  {op:=.conv 58 .u64 (.s 57)},
  {op:=.bin 59 .shl (.s 56) (.s 58)},
  {op:=.bin 60 .or (.s 55) (.s 59)},
  M 9 60])
def c_St_27:VC:=
 .seq (.r 8 [M 50 3]) c_St_29
def c_St_32:VC:=
 .r 6 [M 42 10,
  {op:=.bin 43 .add (.s 42) (.k (.int .i64 1))},
  M 10 43]
def c_St_23:VC:=
 .seq (.blk 1 (.seq (.r 7 [M 44 0,
  M 45 1,
  M 46 10,
  {op:=.bin 47 .add (.s 45) (.s 46)},
  M 48 3,
  {op:=.call 49 92 [(.s 44),(.s 47),(.s 48)]},
  M 11 49]) c_St_27)) c_St_32
def c_St_17:VC:=
 .seq (.seq (.r 5 [M 39 10,
  M 40 2,
  {op:=.bin 41 .lss (.s 39) (.s 40)}]) c_St_20) c_St_23
def c_St_15:VC:=
 .blk 0 (.loop [0,1,2,3,8,9,10] c_St_17)
def c_St_33:VC:=
 .seq (.r 11 [M 61 9,
  M 62 1,
  M 63 2,
  {op:=.bin 64 .add (.s 62) (.s 63)},
  {op:=.bld 65 [.k (.bool false),.k (.int .u64 0),.k (.int .i64 0)] [(0,1,(.k (.bool true))),(1,1,(.s 61)),(2,1,(.s 64))]},
  oS 8 65 3]) (.ret)
def c_St_12:VC:=
 .seq (.seq (.r 4 [oN 10 0]) c_St_15) (.kp [1,2,8,9] c_St_33)
def c_St_10:VC:=
 .seq (.r 3 [{op:=.mv 9 (.k (.int .u64 0))}]) c_St_12
def c_St_2:VC:=
 .seq (.seq (.r 1 [M 12 2,
  {op:=.bin 13 .lss (.s 12) (.k (.int .i64 0))},
  M 14 13,
  ⟨none,[],some (14,false),.mv 15 (.s 2)⟩,
  ⟨none,[],some (14,false),.bin 16 .gtr (.s 15) (.k (.int .i64 64))⟩,
  {op:=.pick 17 (.s 14) (.k (.bool true)) (.s 16)},
  M 18 17,
  ⟨none,[],some (18,false),.mv 19 (.s 1)⟩,
  ⟨none,[],some (18,false),.bin 20 .lss (.s 19) (.k (.int .i64 0))⟩,
  {op:=.pick 21 (.s 18) (.k (.bool true)) (.s 20)},
  M 22 21,
  ⟨none,[],some (22,false),.mv 23 (.s 1)⟩,
  ⟨none,[],some (22,false),.mv 24 (.s 0)⟩,
  ⟨none,[],some (22,false),.len 25 (.s 24)⟩,
  ⟨none,[],some (22,false),.bin 26 .mul (.k (.int .i64 8)) (.s 25)⟩,
  ⟨none,[],some (22,false),.bin 27 .gtr (.s 23) (.s 26)⟩,
  {op:=.pick 28 (.s 22) (.k (.bool true)) (.s 27)},
  M 29 28,
  ⟨none,[],some (29,false),.mv 30 (.s 2)⟩,
  ⟨none,[],some (29,false),.mv 31 (.s 0)⟩,
  ⟨none,[],some (29,false),.len 32 (.s 31)⟩,
  ⟨none,[],some (29,false),.bin 33 .mul (.k (.int .i64 8)) (.s 32)⟩,
  ⟨none,[],some (29,false),.mv 34 (.s 1)⟩,
  ⟨none,[],some (29,false),.bin 35 .sub (.s 33) (.s 34)⟩,
  ⟨none,[],some (29,false),.bin 36 .gtr (.s 30) (.s 35)⟩,
  {op:=.pick 37 (.s 29) (.k (.bool true)) (.s 36)}]) (.kp [0,1,2,3,8,37] c_St_5)) c_St_10
def c_St_0:VC:=
 .seq (.r 0 [{op:=.alloc 8 [.k (.bool false),.k (.int .u64 0),.k (.int .i64 0)]}]) c_St_2
def vf_St:VF:={ pm:=[.ro [.ro [.sc]],.ro [.sc],.ro [.sc],.ro [.sc]],rm:=[.v q3],nslots:=66,res:=[8],rc:=[some (3,true)],code:=.kp [0,1,2,3] c_St_0 }
def c_Sj_2:VC:=
 .ite (.s 8) (.r 1 [M 9 0,
  M 10 1,
  {op:=.nck 11 (.s 9)},
  oF 12 11 2,
  oS 12 10 1]) (.skip)
def c_Sj_0:VC:=
 .seq (.r 0 [M 4 0,
  {op:=.nck 5 (.s 4)},
  oF 6 5 2,
  oL 7 6 1,
  {op:=.bin 8 .eql (.s 7) (.k (.int .i64 0))}]) c_Sj_2
def vf_Sj:VF:={ pm:=[.mb [.ro [.sc],.sc,.sc],.ro [.sc]],rm:=[],nslots:=13,res:=[],rc:=[],code:=.kp [0,1] c_Sj_0 }
def c_Sq_7:VC:=
 .ite (.s 18) (.r 3 [M 19 0,
  {op:=.call 20 43 [(.s 19),(.k (.int .i64 2))]}]) (.skip)
def c_Sq_13:VC:=
 .ite (.s 25) (.seq (.r 5 [oN 4 0]) (.ret)) (.skip)
def c_Sq_20:VC:=
 .seq (.r 7 [oF 31 5 1,
  oL 32 31 1,
  {op:=.conv 33 .i64 (.s 32)},
  M 4 33]) (.ret)
def c_Sq_18:VC:=
 .seq (.r 6 [M 26 0,
  oF 27 5 2,
  oL 28 27 1,
  {op:=.nck 29 (.s 26)},
  oF 30 29 1,
  oS 30 28 1]) c_Sq_20
def c_Sq_10:VC:=
 .seq (.seq (.r 4 [M 21 0,
  {op:=.nck 22 (.s 21)},
  oF 23 22 2,
  oL 24 23 1,
  {op:=.bin 25 .neq (.s 24) (.k (.int .i64 0))}]) c_Sq_13) c_Sq_18
def c_Sq_4:VC:=
 .seq (.seq (.r 2 [oF 16 5 0,
  oL 17 16 1,
  {op:=.un 18 .not (.s 17)}]) c_Sq_7) (.kp [0,5] c_Sq_10)
def c_Sq_2:VC:=
 .seq (.d 1 [(0,M 6 0),
  (1,{op:=.nckv 7 (.s 6)}),
  (2,oG 8 7 0),
  (3,oV 9 8 1),
  (4,M 10 0),
  (5,{op:=.nckv 11 (.s 10)}),
  (6,oG 12 11 1),
  (7,oV 13 12 1),
  (8,M 14 1),
  (9,{op:=.call 15 76 [(.s 9),(.s 13),(.s 14),(.k (.bool true))]}),
  (10,{op:=.alloc 5 [.k (.bool false),.k (.int .u64 0),.k (.int .i64 0)]}),
  (11,oS 5 15 3)]) c_Sq_4
def c_Sq_0:VC:=
 .seq (.r 0 [oN 4 0]) c_Sq_2
def vf_Sq:VF:={ pm:=[.mb [.ro [.sc],.sc,.sc],.ro [.sc]],rm:=[.v [.sc]],nslots:=34,res:=[4],rc:=[],code:=.kp [0,1] c_Sq_0 }
def c_Sn_18:VC:=
 .ite (.s 25) (.r 5 [M 26 0,
  {op:=.call 27 43 [(.s 26),(.k (.int .i64 4))]}]) (.skip)
def c_Sn_16:VC:=
 .seq (.r 4 [M 15 0,
  {op:=.nck 16 (.s 15)},
  oF 17 16 2,
  oL 18 17 1,
  {op:=.bin 19 .eql (.s 18) (.k (.int .i64 0))},
  M 20 19,
  ⟨none,[],some (20,true),.mv 21 (.s 6)⟩,
  ⟨none,[],some (20,true),.mv 22 (.s 5)⟩,
  ⟨none,[],some (20,true),.conv 23 .i64 (.s 22)⟩,
  ⟨none,[],some (20,true),.bin 24 .neq (.s 21) (.s 23)⟩,
  {op:=.pick 25 (.s 20) (.s 24) (.k (.bool false))}]) (.kp [0,7,8,9,25] c_Sn_18)
def c_Sn_14:VC:=
 .seq (.r 3 [M 13 0,
  {op:=.call 14 41 [(.s 13),(.k (.int .i64 8))]},
  M 6 14]) c_Sn_16
def c_Sn_21:VC:=
 .r 6 [{op:=.bin 28 .add (.s 9) (.k (.int .i64 1))},
  M 9 28]
def c_Sn_10:VC:=
 .seq (.blk 1 (.seq (.r 2 [oX 11 7 9 1,
  oL 12 11 1,
  M 5 12]) c_Sn_14)) c_Sn_21
def c_Sn_6:VC:=
 .seq (.ite (.s 10) (.skip) (.exit 0)) c_Sn_10
def c_Sn_4:VC:=
 .seq (.r 1 [{op:=.bin 10 .lss (.s 9) (.s 8)}]) c_Sn_6
def c_Sn_2:VC:=
 .blk 0 (.loop [0,7,8,9] c_Sn_4)
def c_Sn_0:VC:=
 .seq (.r 0 [M 7 1,
  {op:=.len 8 (.s 7)},
  oN 9 0]) c_Sn_2
def vf_Sn:VF:={ pm:=[.mb [.ro [.sc],.sc,.sc],.ro [.ro [.sc]]],rm:=[],nslots:=29,res:=[],rc:=[],code:=.kp [0,1] c_Sn_0 }
def c_Sf_5:VC:=
 .ite (.s 34) (.seq (.r 2 [oK 6 false]) (.ret)) (.skip)
def c_Sf_10:VC:=
 .seq (.r 3 [M 35 1,
  {op:=.bin 36 .geq (.s 35) (.k (.int .i64 1))},
  M 37 36,
  ⟨none,[],some (37,true),.mv 38 (.s 1)⟩,
  ⟨none,[],some (37,true),.bin 39 .leq (.s 38) (.k (.int .i64 2))⟩,
  {op:=.pick 40 (.s 37) (.s 39) (.k (.bool false))},
  M 41 40,
  ⟨none,[],some (41,true),.mv 42 (.s 2)⟩,
  ⟨none,[],some (41,true),.bin 43 .leq (.s 42) (.k (.int .i64 4000))⟩,
  {op:=.pick 44 (.s 41) (.s 43) (.k (.bool false))},
  M 6 44]) (.ret)
def c_Sf_2:VC:=
 .seq (.seq (.r 1 [oF 7 3 0,
  oL 8 7 1,
  {op:=.bin 9 .lss (.s 8) (.k (.int .i64 1))},
  M 10 9,
  ⟨none,[],some (10,false),.fadr 11 (.s 3) 0⟩,
  ⟨none,[],some (10,false),.ld 12 (.s 11) 1 false⟩,
  ⟨none,[],some (10,false),.bin 13 .gtr (.s 12) (.k (.int .i64 1000000))⟩,
  {op:=.pick 14 (.s 10) (.k (.bool true)) (.s 13)},
  M 15 14,
  ⟨none,[],some (15,false),.fadr 16 (.s 3) 1⟩,
  ⟨none,[],some (15,false),.ld 17 (.s 16) 1 false⟩,
  ⟨none,[],some (15,false),.bin 18 .lss (.s 17) (.k (.int .i64 2))⟩,
  {op:=.pick 19 (.s 15) (.k (.bool true)) (.s 18)},
  M 20 19,
  ⟨none,[],some (20,false),.fadr 21 (.s 3) 1⟩,
  ⟨none,[],some (20,false),.ld 22 (.s 21) 1 false⟩,
  ⟨none,[],some (20,false),.bin 23 .gtr (.s 22) (.k (.int .i64 24))⟩,
  {op:=.pick 24 (.s 20) (.k (.bool true)) (.s 23)},
  M 25 24,
  ⟨none,[],some (25,false),.fadr 26 (.s 3) 2⟩,
  ⟨none,[],some (25,false),.ld 27 (.s 26) 1 false⟩,
  ⟨none,[],some (25,false),.bin 28 .lss (.s 27) (.k (.int .i64 1))⟩,
  {op:=.pick 29 (.s 25) (.k (.bool true)) (.s 28)},
  M 30 29,
  ⟨none,[],some (30,false),.fadr 31 (.s 3) 2⟩,
  ⟨none,[],some (30,false),.ld 32 (.s 31) 1 false⟩,
  ⟨none,[],some (30,false),.bin 33 .gtr (.s 32) (.k (.int .i64 512))⟩,
  {op:=.pick 34 (.s 30) (.k (.bool true)) (.s 33)}]) c_Sf_5) c_Sf_10
def c_Sf_0:VC:=
 .seq (.r 0 [{op:=.box 3 (.s 0)},
  oK 6 false]) c_Sf_2
def vf_Sf:VF:={ pm:=[.ro [.sc,.sc,.sc,.ro [.ro [.sc]]],.ro [.sc],.ro [.sc]],rm:=[.v [.sc]],nslots:=45,res:=[6],rc:=[],code:=.kp [0,1,2] c_Sf_0 }
def c_Sp_7:VC:=
 .ite (.s 14) (.r 3 [M 15 5,
  M 16 1,
  {op:=.conv 17 .u64 (.s 16)},
  {op:=.bin 18 .shl (.k (.int .i64 1)) (.s 17)},
  {op:=.bin 19 .sub (.s 15) (.s 18)},
  M 5 19]) (.skip)
def c_Sp_10:VC:=
 .seq (.r 4 [M 20 5,
  M 4 20]) (.ret)
def c_Sp_4:VC:=
 .seq (.seq (.r 2 [M 9 5,
  M 10 1,
  {op:=.bin 11 .sub (.s 10) (.k (.int .i64 1))},
  {op:=.conv 12 .u64 (.s 11)},
  {op:=.bin 13 .shl (.k (.int .i64 1)) (.s 12)},
  {op:=.bin 14 .geq (.s 9) (.s 13)}]) c_Sp_7) c_Sp_10
def c_Sp_2:VC:=
 .seq (.r 1 [M 6 0,
  M 7 1,
  {op:=.call 8 41 [(.s 6),(.s 7)]},
  M 5 8]) c_Sp_4
def c_Sp_0:VC:=
 .seq (.r 0 [oN 4 0]) c_Sp_2
def vf_Sp:VF:={ pm:=[.mb [.ro [.sc],.sc,.sc],.ro [.sc]],rm:=[.v [.sc]],nslots:=21,res:=[4],rc:=[],code:=.kp [0,1] c_Sp_0 }
def c_Si_5:VC:=
 .ite (.s 25) (.seq (.r 2 [oK 6 false]) (.ret)) (.skip)
def c_Si_10:VC:=
 .seq (.r 3 [M 26 2,
  M 27 1,
  {op:=.conv 28 .u64 (.s 27)},
  {op:=.bin 29 .shl (.k (.int .i64 1)) (.s 28)},
  {op:=.bin 30 .rem (.s 26) (.s 29)},
  {op:=.bin 31 .eql (.s 30) (.k (.int .i64 0))},
  M 32 31,
  ⟨none,[],some (32,true),.mv 33 (.s 2)⟩,
  ⟨none,[],some (32,true),.mv 34 (.s 1)⟩,
  ⟨none,[],some (32,true),.conv 35 .u64 (.s 34)⟩,
  ⟨none,[],some (32,true),.bin 36 .shr (.s 33) (.s 35)⟩,
  ⟨none,[],some (32,true),.mv 37 (.s 0)⟩,
  ⟨none,[],some (32,true),.bin 38 .geq (.s 36) (.s 37)⟩,
  {op:=.pick 39 (.s 32) (.s 38) (.k (.bool false))},
  M 6 39]) (.ret)
def c_Si_2:VC:=
 .seq (.seq (.r 1 [M 7 0,
  {op:=.bin 8 .lss (.s 7) (.k (.int .i64 0))},
  M 9 8,
  ⟨none,[],some (9,false),.mv 10 (.s 0)⟩,
  ⟨none,[],some (9,false),.bin 11 .gtr (.s 10) (.k (.int .i64 4))⟩,
  {op:=.pick 12 (.s 9) (.k (.bool true)) (.s 11)},
  M 13 12,
  ⟨none,[],some (13,false),.mv 14 (.s 0)⟩,
  ⟨none,[],some (13,false),.mv 15 (.s 2)⟩,
  ⟨none,[],some (13,false),.bin 16 .gtr (.s 14) (.s 15)⟩,
  {op:=.pick 17 (.s 13) (.k (.bool true)) (.s 16)},
  M 18 17,
  ⟨none,[],some (18,false),.mv 19 (.s 1)⟩,
  ⟨none,[],some (18,false),.bin 20 .lss (.s 19) (.k (.int .i64 0))⟩,
  {op:=.pick 21 (.s 18) (.k (.bool true)) (.s 20)},
  M 22 21,
  ⟨none,[],some (22,false),.mv 23 (.s 1)⟩,
  ⟨none,[],some (22,false),.bin 24 .gtr (.s 23) (.k (.int .i64 4))⟩,
  {op:=.pick 25 (.s 22) (.k (.bool true)) (.s 24)}]) c_Si_5) c_Si_10
def c_Si_0:VC:=
 .seq (.r 0 [oK 6 false]) c_Si_2
def vf_Si:VF:={ pm:=[.ro [.sc],.ro [.sc],.ro [.sc]],rm:=[.v [.sc]],nslots:=40,res:=[6],rc:=[],code:=.kp [0,1,2] c_Si_0 }
def c_Sd_5:VC:=
 .ite (.s 5) (.seq (.r 2 [M 6 0,
  {op:=.bin 7 .quo (.s 6) (.k (.int .u64 2))},
  {op:=.conv 8 .i64 (.s 7)},
  {op:=.un 9 .neg (.s 8)},
  {op:=.bin 10 .sub (.s 9) (.k (.int .i64 1))},
  M 2 10]) (.ret)) (.skip)
def c_Sd_10:VC:=
 .seq (.r 3 [M 11 0,
  {op:=.bin 12 .quo (.s 11) (.k (.int .u64 2))},
  {op:=.conv 13 .i64 (.s 12)},
  M 2 13]) (.ret)
def c_Sd_2:VC:=
 .seq (.seq (.r 1 [M 3 0,
  {op:=.bin 4 .rem (.s 3) (.k (.int .u64 2))},
  {op:=.bin 5 .eql (.s 4) (.k (.int .u64 1))}]) c_Sd_5) c_Sd_10
def c_Sd_0:VC:=
 .seq (.r 0 [oN 2 0]) c_Sd_2
def vf_Sd:VF:={ pm:=[.ro [.sc]],rm:=[.v [.sc]],nslots:=14,res:=[2],rc:=[],code:=.kp [0] c_Sd_0 }
def c_So_5:VC:=
 .ite (.s 7) (.seq (.r 2 [M 8 0,
  {op:=.call 9 93 [(.s 8),(.k (.int .i64 32))]},
  M 4 9]) (.ret)) (.skip)
def c_So_18:VC:=
 .ite (.s 19) (.skip) (.exit 0)
def c_So_21:VC:=
 .blk 1 (.r 5 [M 20 5,
  {op:=.bin 21 .add (.s 20) (.k (.int .i64 1))},
  M 5 21])
def c_So_15:VC:=
 .seq (.seq (.r 4 [M 10 0,
  {op:=.nck 11 (.s 10)},
  oF 12 11 2,
  oL 13 12 1,
  {op:=.bin 14 .eql (.s 13) (.k (.int .i64 0))},
  M 15 14,
  ⟨none,[],some (15,true),.mv 16 (.s 0)⟩,
  ⟨none,[],some (15,true),.call 17 41 [(.s 16),(.k (.int .i64 1))]⟩,
  ⟨none,[],some (15,true),.bin 18 .eql (.s 17) (.k (.int .i64 0))⟩,
  {op:=.pick 19 (.s 15) (.s 18) (.k (.bool false))}]) c_So_18) c_So_21
def c_So_23:VC:=
 .seq (.r 6 [M 22 5,
  {op:=.conv 23 .u64 (.s 22)},
  M 24 1,
  {op:=.conv 25 .u64 (.s 24)},
  {op:=.bin 26 .shl (.s 23) (.s 25)},
  M 27 0,
  M 28 1,
  {op:=.call 29 41 [(.s 27),(.s 28)]},
  {op:=.conv 30 .u64 (.s 29)},
  {op:=.bin 31 .or (.s 26) (.s 30)},
  {op:=.call 32 100 [(.s 31)]},
  M 4 32]) (.ret)
def c_So_12:VC:=
 .seq (.blk 0 (.loop [0,1,5] c_So_15)) (.kp [0,1,5] c_So_23)
def c_So_10:VC:=
 .seq (.r 3 [oN 5 0]) c_So_12
def c_So_2:VC:=
 .seq (.seq (.r 1 [M 6 1,
  {op:=.bin 7 .eql (.s 6) (.k (.int .i64 25))}]) c_So_5) c_So_10
def c_So_0:VC:=
 .seq (.r 0 [oN 4 0]) c_So_2
def vf_So:VF:={ pm:=[.mb [.ro [.sc],.sc,.sc],.ro [.sc]],rm:=[.v [.sc]],nslots:=33,res:=[4],rc:=[],code:=.kp [0,1] c_So_0 }
def c_Sm_7:VC:=
 .ite (.s 29) (.r 3 [M 30 0,
  {op:=.call 31 43 [(.s 30),(.k (.int .i64 5))]}]) (.skip)
def c_Sm_20:VC:=
 .ite (.s 41) (.skip) (.exit 0)
def c_Sm_26:VC:=
 .r 7 [M 42 8,
  {op:=.bin 43 .add (.s 42) (.k (.int .i64 1))},
  M 8 43]
def c_Sm_23:VC:=
 .seq (.blk 1 (.r 8 [M 44 7,
  M 45 0,
  {op:=.call 46 93 [(.s 45),(.k (.int .i64 26))]},
  {op:=.lits 47 [.sc] [(.s 46)]},
  {op:=.app 48 (.s 44) (.s 47) [.sc] 17592186044416},
  M 7 48])) c_Sm_26
def c_Sm_17:VC:=
 .seq (.seq (.r 6 [M 32 8,
  M 33 6,
  {op:=.bin 34 .lss (.s 32) (.s 33)},
  M 35 34,
  ⟨none,[],some (35,true),.mv 36 (.s 0)⟩,
  ⟨none,[],some (35,true),.nck 37 (.s 36)⟩,
  ⟨none,[],some (35,true),.fadr 38 (.s 37) 2⟩,
  ⟨none,[],some (35,true),.ld 39 (.s 38) 1 false⟩,
  ⟨none,[],some (35,true),.bin 40 .eql (.s 39) (.k (.int .i64 0))⟩,
  {op:=.pick 41 (.s 35) (.s 40) (.k (.bool false))}]) c_Sm_20) c_Sm_23
def c_Sm_15:VC:=
 .blk 0 (.loop [0,1,6,7,8] c_Sm_17)
def c_Sm_32:VC:=
 .ite (.s 62) (.r 11 [M 63 0,
  {op:=.call 64 43 [(.s 63),(.k (.int .i64 5))]}]) (.skip)
def c_Sm_43:VC:=
 .ite (.s 76) (.skip) (.exit 2)
def c_Sm_53:VC:=
 .ite (.s 89) (.r 17 [M 90 0,
  {op:=.call 91 43 [(.s 90),(.k (.int .i64 5))]}]) (.skip)
def c_Sm_61:VC:=
 .ite (.s 97) (.r 20 [M 98 12,
  M 99 6,
  {op:=.bin 100 .sub (.s 98) (.s 99)},
  M 12 100]) (.skip)
def c_Sm_71:VC:=
 .ite (.s 110) (.skip) (.exit 4)
def c_Sm_77:VC:=
 .r 23 [M 111 13,
  {op:=.bin 112 .add (.s 111) (.k (.int .i64 1))},
  M 13 112]
def c_Sm_74:VC:=
 .seq (.blk 5 (.r 24 [M 113 7,
  M 114 0,
  M 115 11,
  {op:=.call 116 94 [(.s 114),(.s 115)]},
  {op:=.lits 117 [.sc] [(.s 116)]},
  {op:=.app 118 (.s 113) (.s 117) [.sc] 17592186044416},
  M 7 118])) c_Sm_77
def c_Sm_68:VC:=
 .seq (.seq (.r 22 [M 101 13,
  M 102 12,
  {op:=.bin 103 .lss (.s 101) (.s 102)},
  M 104 103,
  ⟨none,[],some (104,true),.mv 105 (.s 0)⟩,
  ⟨none,[],some (104,true),.nck 106 (.s 105)⟩,
  ⟨none,[],some (104,true),.fadr 107 (.s 106) 2⟩,
  ⟨none,[],some (104,true),.ld 108 (.s 107) 1 false⟩,
  ⟨none,[],some (104,true),.bin 109 .eql (.s 108) (.k (.int .i64 0))⟩,
  {op:=.pick 110 (.s 104) (.s 109) (.k (.bool false))}]) c_Sm_71) c_Sm_74
def c_Sm_66:VC:=
 .blk 4 (.loop [0,1,6,7,9,10,11,12,13] c_Sm_68)
def c_Sm_64:VC:=
 .seq (.r 21 [oN 13 0]) c_Sm_66
def c_Sm_58:VC:=
 .seq (.seq (.r 19 [M 96 10,
  {op:=.bin 97 .eql (.s 96) (.k (.int .i64 0))}]) c_Sm_61) (.kp [0,1,6,7,9,10,11,12] c_Sm_64)
def c_Sm_56:VC:=
 .seq (.r 18 [M 92 1,
  M 93 9,
  {op:=.conv 94 .u64 (.s 93)},
  {op:=.bin 95 .shr (.s 92) (.s 94)},
  M 12 95]) c_Sm_58
def c_Sm_50:VC:=
 .seq (.seq (.r 16 [M 81 0,
  {op:=.nck 82 (.s 81)},
  oF 83 82 2,
  oL 84 83 1,
  {op:=.bin 85 .eql (.s 84) (.k (.int .i64 0))},
  M 86 85,
  ⟨none,[],some (86,true),.mv 87 (.s 11)⟩,
  ⟨none,[],some (86,true),.bin 88 .gtr (.s 87) (.k (.int .i64 25))⟩,
  {op:=.pick 89 (.s 86) (.s 88) (.k (.bool false))}]) (.kp [0,1,6,7,9,10,11,89] c_Sm_53)) (.kp [0,1,6,7,9,10,11] c_Sm_56)
def c_Sm_78:VC:=
 .r 14 [M 77 10,
  {op:=.bin 78 .add (.s 77) (.k (.int .i64 1))},
  M 10 78]
def c_Sm_46:VC:=
 .seq (.blk 3 (.seq (.r 15 [M 79 0,
  {op:=.call 80 41 [(.s 79),(.k (.int .i64 5))]},
  M 11 80]) c_Sm_50)) (.kp [0,1,6,7,9,10] c_Sm_78)
def c_Sm_40:VC:=
 .seq (.seq (.r 13 [M 65 10,
  M 66 9,
  {op:=.conv 67 .u64 (.s 66)},
  {op:=.bin 68 .shl (.k (.int .i64 1)) (.s 67)},
  {op:=.bin 69 .lss (.s 65) (.s 68)},
  M 70 69,
  ⟨none,[],some (70,true),.mv 71 (.s 0)⟩,
  ⟨none,[],some (70,true),.nck 72 (.s 71)⟩,
  ⟨none,[],some (70,true),.fadr 73 (.s 72) 2⟩,
  ⟨none,[],some (70,true),.ld 74 (.s 73) 1 false⟩,
  ⟨none,[],some (70,true),.bin 75 .eql (.s 74) (.k (.int .i64 0))⟩,
  {op:=.pick 76 (.s 70) (.s 75) (.k (.bool false))}]) c_Sm_43) c_Sm_46
def c_Sm_38:VC:=
 .blk 2 (.loop [0,1,6,7,9,10] c_Sm_40)
def c_Sm_79:VC:=
 .seq (.r 25 [M 119 6,
  M 120 7,
  M 4 119,
  M 5 120]) (.ret)
def c_Sm_35:VC:=
 .seq (.seq (.r 12 [oN 10 0]) c_Sm_38) (.kp [0,6,7] c_Sm_79)
def c_Sm_29:VC:=
 .seq (.seq (.r 10 [M 51 0,
  {op:=.nck 52 (.s 51)},
  oF 53 52 2,
  oL 54 53 1,
  {op:=.bin 55 .eql (.s 54) (.k (.int .i64 0))},
  M 56 55,
  ⟨none,[],some (56,true),.mv 57 (.s 6)⟩,
  ⟨none,[],some (56,true),.mv 58 (.s 9)⟩,
  ⟨none,[],some (56,true),.mv 59 (.s 1)⟩,
  ⟨none,[],some (56,true),.call 60 87 [(.s 57),(.s 58),(.s 59)]⟩,
  ⟨none,[],some (56,true),.un 61 .not (.s 60)⟩,
  {op:=.pick 62 (.s 56) (.s 61) (.k (.bool false))}]) (.kp [0,1,6,7,9,62] c_Sm_32)) (.kp [0,1,6,7,9] c_Sm_35)
def c_Sm_27:VC:=
 .seq (.r 9 [M 49 0,
  {op:=.call 50 41 [(.s 49),(.k (.int .i64 3))]},
  M 9 50]) c_Sm_29
def c_Sm_12:VC:=
 .seq (.seq (.r 5 [oN 8 0]) c_Sm_15) (.kp [0,1,6,7] c_Sm_27)
def c_Sm_10:VC:=
 .seq (.r 4 [{op:=.nil 7 [.sc]}]) c_Sm_12
def c_Sm_4:VC:=
 .seq (.seq (.r 2 [M 16 0,
  {op:=.nck 17 (.s 16)},
  oF 18 17 2,
  oL 19 18 1,
  {op:=.bin 20 .eql (.s 19) (.k (.int .i64 0))},
  M 21 20,
  ⟨none,[],some (21,true),.mv 22 (.s 6)⟩,
  ⟨none,[],some (21,true),.bin 23 .gtr (.s 22) (.k (.int .i64 4))⟩,
  ⟨none,[],some (21,true),.mv 24 (.s 23)⟩,
  ⟨none,[],some (24,false),.mv 25 (.s 6)⟩,
  ⟨none,[],some (24,false),.mv 26 (.s 1)⟩,
  ⟨none,[],some (24,false),.bin 27 .gtr (.s 25) (.s 26)⟩,
  ⟨none,[],some (21,true),.pick 28 (.s 24) (.k (.bool true)) (.s 27)⟩,
  {op:=.pick 29 (.s 21) (.s 28) (.k (.bool false))}]) (.kp [0,1,6,29] c_Sm_7)) (.kp [0,1,6] c_Sm_10)
def c_Sm_2:VC:=
 .seq (.r 1 [M 14 0,
  {op:=.call 15 41 [(.s 14),(.k (.int .i64 3))]},
  M 6 15]) c_Sm_4
def c_Sm_0:VC:=
 .seq (.r 0 [oN 4 0,
  {op:=.nil 5 [.sc]}]) c_Sm_2
def vf_Sm:VF:={ pm:=[.mb [.ro [.sc],.sc,.sc],.ro [.sc]],rm:=[.v [.sc],.v [.own [.sc]]],nslots:=121,res:=[4,5],rc:=[],code:=.kp [0,1] c_Sm_0 }
def c_Sk_5:VC:=
 .ite (.s 14) (.skip) (.exit 0)
def c_Sk_11:VC:=
 .ite (.s 17) (.r 2 [M 18 0,
  {op:=.call 19 43 [(.s 18),(.k (.int .i64 4))]}]) (.skip)
def c_Sk_8:VC:=
 .blk 1 (.seq (.r 1 [M 15 0,
  {op:=.call 16 41 [(.s 15),(.k (.int .i64 1))]},
  {op:=.bin 17 .eql (.s 16) (.k (.int .i64 1))}]) c_Sk_11)
def c_Sk_2:VC:=
 .seq (.seq (.r 0 [M 2 0,
  {op:=.nck 3 (.s 2)},
  oF 4 3 1,
  oL 5 4 1,
  {op:=.bin 6 .rem (.s 5) (.k (.int .i64 8))},
  {op:=.bin 7 .neq (.s 6) (.k (.int .i64 0))},
  M 8 7,
  ⟨none,[],some (8,true),.mv 9 (.s 0)⟩,
  ⟨none,[],some (8,true),.nck 10 (.s 9)⟩,
  ⟨none,[],some (8,true),.fadr 11 (.s 10) 2⟩,
  ⟨none,[],some (8,true),.ld 12 (.s 11) 1 false⟩,
  ⟨none,[],some (8,true),.bin 13 .eql (.s 12) (.k (.int .i64 0))⟩,
  {op:=.pick 14 (.s 8) (.s 13) (.k (.bool false))}]) c_Sk_5) c_Sk_8
def c_Sk_0:VC:=
 .blk 0 (.loop [0] c_Sk_2)
def vf_Sk:VF:={ pm:=[.mb [.ro [.sc],.sc,.sc]],rm:=[],nslots:=20,res:=[],rc:=[],code:=.kp [0] c_Sk_0 }
def c_Sa_28:VC:=
 .ite (.s 19) (.skip) (.exit 2)
def c_Sa_39:VC:=
 .ite (.s 27) (.r 12 [M 28 3,
  {op:=.bin 29 .xor (.s 28) (.k (.int .u32 3988292384))},
  M 3 29]) (.skip)
def c_Sa_37:VC:=
 .seq (.r 11 [M 26 7,
  {op:=.bin 27 .eql (.s 26) (.k (.int .u32 1))}]) c_Sa_39
def c_Sa_35:VC:=
 .seq (.r 10 [M 24 3,
  {op:=.bin 25 .shr (.s 24) (.k (.int .u64 1))},
  M 3 25]) c_Sa_37
def c_Sa_42:VC:=
 .r 8 [M 20 6,
  {op:=.bin 21 .add (.s 20) (.k (.int .i64 1))},
  M 6 21]
def c_Sa_31:VC:=
 .seq (.blk 3 (.seq (.r 9 [M 22 3,
  {op:=.bin 23 .and (.s 22) (.k (.int .u32 1))},
  M 7 23]) c_Sa_35)) c_Sa_42
def c_Sa_25:VC:=
 .seq (.seq (.r 7 [M 18 6,
  {op:=.bin 19 .lss (.s 18) (.k (.int .i64 8))}]) c_Sa_28) c_Sa_31
def c_Sa_23:VC:=
 .blk 2 (.loop [3,6,8,9,10] c_Sa_25)
def c_Sa_21:VC:=
 .seq (.r 6 [oN 6 0]) c_Sa_23
def c_Sa_19:VC:=
 .seq (.r 5 [M 14 3,
  M 15 5,
  {op:=.conv 16 .u32 (.s 15)},
  {op:=.bin 17 .xor (.s 14) (.s 16)},
  M 3 17]) c_Sa_21
def c_Sa_43:VC:=
 .r 13 [{op:=.bin 30 .add (.s 10) (.k (.int .i64 1))},
  M 10 30]
def c_Sa_15:VC:=
 .seq (.blk 1 (.seq (.r 4 [oX 12 8 10 1,
  oL 13 12 1,
  M 5 13]) c_Sa_19)) (.kp [3,8,9,10] c_Sa_43)
def c_Sa_11:VC:=
 .seq (.ite (.s 11) (.skip) (.exit 0)) c_Sa_15
def c_Sa_9:VC:=
 .seq (.r 3 [{op:=.bin 11 .lss (.s 10) (.s 9)}]) c_Sa_11
def c_Sa_7:VC:=
 .blk 0 (.loop [3,8,9,10] c_Sa_9)
def c_Sa_44:VC:=
 .seq (.r 14 [M 31 3,
  {op:=.un 32 .xor (.s 31)},
  M 2 32]) (.ret)
def c_Sa_4:VC:=
 .seq (.seq (.r 2 [M 8 0,
  {op:=.len 9 (.s 8)},
  oN 10 0]) c_Sa_7) (.kp [3] c_Sa_44)
def c_Sa_2:VC:=
 .seq (.r 1 [{op:=.mv 3 (.k (.int .u32 4294967295))}]) c_Sa_4
def c_Sa_0:VC:=
 .seq (.r 0 [{op:=.mv 2 (.k (.int .u32 0))}]) c_Sa_2
def vf_Sa:VF:={ pm:=[.ro [.ro [.sc]]],rm:=[.v [.sc]],nslots:=33,res:=[2],rc:=[],code:=.kp [0] c_Sa_0 }
def c_Se_26:VC:=
 .ite (.s 50) (.seq (.d 9 [(0,M 52 1),
  (1,M 53 2),
  (2,{op:=.bin 54 .sub (.s 53) (.k (.int .i64 1))}),
  (3,oX 55 52 54 1),
  (4,oV 56 55 1),
  (5,{op:=.bin 57 .mul (.k (.int .i64 4)) (.s 56)}),
  (6,M 58 1),
  (7,M 59 2),
  (8,{op:=.bin 60 .sub (.s 59) (.k (.int .i64 2))}),
  (9,oX 61 58 60 1),
  (10,oV 62 61 1),
  (11,{op:=.bin 63 .mul (.k (.int .i64 6)) (.s 62)}),
  (12,{op:=.bin 64 .sub (.s 57) (.s 63)}),
  (13,M 65 1),
  (14,M 66 2),
  (15,{op:=.bin 67 .sub (.s 66) (.k (.int .i64 3))}),
  (16,oX 68 65 67 1),
  (17,oV 69 68 1),
  (18,{op:=.bin 70 .mul (.k (.int .i64 4)) (.s 69)}),
  (19,{op:=.bin 71 .add (.s 64) (.s 70)}),
  (20,M 72 1),
  (21,M 73 2),
  (22,{op:=.bin 74 .sub (.s 73) (.k (.int .i64 4))}),
  (23,oX 75 72 74 1),
  (24,oV 76 75 1),
  (25,{op:=.bin 77 .sub (.s 71) (.s 76)}),
  (26,M 6 77)]) (.ret)) (.skip)
def c_Se_20:VC:=
 .ite (.s 29) (.seq (.d 7 [(0,M 31 1),
  (1,M 32 2),
  (2,{op:=.bin 33 .sub (.s 32) (.k (.int .i64 1))}),
  (3,oX 34 31 33 1),
  (4,oV 35 34 1),
  (5,{op:=.bin 36 .mul (.k (.int .i64 3)) (.s 35)}),
  (6,M 37 1),
  (7,M 38 2),
  (8,{op:=.bin 39 .sub (.s 38) (.k (.int .i64 2))}),
  (9,oX 40 37 39 1),
  (10,oV 41 40 1),
  (11,{op:=.bin 42 .mul (.k (.int .i64 3)) (.s 41)}),
  (12,{op:=.bin 43 .sub (.s 36) (.s 42)}),
  (13,M 44 1),
  (14,M 45 2),
  (15,{op:=.bin 46 .sub (.s 45) (.k (.int .i64 3))}),
  (16,oX 47 44 46 1),
  (17,oV 48 47 1),
  (18,{op:=.bin 49 .add (.s 43) (.s 48)}),
  (19,M 6 49)]) (.ret)) (.seq (.r 8 [{op:=.bin 51 .eql (.s 7) (.k (.int .i64 4))},
  M 50 51]) c_Se_26)
def c_Se_14:VC:=
 .ite (.s 15) (.seq (.d 5 [(0,M 17 1),
  (1,M 18 2),
  (2,{op:=.bin 19 .sub (.s 18) (.k (.int .i64 1))}),
  (3,oX 20 17 19 1),
  (4,oV 21 20 1),
  (5,{op:=.bin 22 .mul (.k (.int .i64 2)) (.s 21)}),
  (6,M 23 1),
  (7,M 24 2),
  (8,{op:=.bin 25 .sub (.s 24) (.k (.int .i64 2))}),
  (9,oX 26 23 25 1),
  (10,oV 27 26 1),
  (11,{op:=.bin 28 .sub (.s 22) (.s 27)}),
  (12,M 6 28)]) (.ret)) (.seq (.r 6 [{op:=.bin 30 .eql (.s 7) (.k (.int .i64 3))},
  M 29 30]) c_Se_20)
def c_Se_8:VC:=
 .ite (.s 8) (.seq (.r 3 [M 10 1,
  M 11 2,
  {op:=.bin 12 .sub (.s 11) (.k (.int .i64 1))},
  oX 13 10 12 1,
  oL 14 13 1,
  M 6 14]) (.ret)) (.seq (.r 4 [{op:=.bin 16 .eql (.s 7) (.k (.int .i64 2))},
  M 15 16]) c_Se_14)
def c_Se_5:VC:=
 .blk 0 (.seq (.r 2 [{op:=.bin 9 .eql (.s 7) (.k (.int .i64 1))},
  M 8 9]) c_Se_8)
def c_Se_31:VC:=
 .seq (.r 10 [oN 6 0]) (.ret)
def c_Se_2:VC:=
 .seq (.seq (.r 1 [M 7 0]) c_Se_5) c_Se_31
def c_Se_0:VC:=
 .seq (.r 0 [oN 6 0]) c_Se_2
def vf_Se:VF:={ pm:=[.ro [.sc],.ro [.ro [.sc]],.ro [.sc]],rm:=[.v [.sc]],nslots:=78,res:=[6],rc:=[],code:=.kp [0,1,2] c_Se_0 }
def c_Sc_5:VC:=
 .ite (.s 19) (.seq (.r 2 [{op:=.nil 4 [.sc]}]) (.ret)) (.skip)
def c_Sc_27:VC:=
 .ite (.s 31) (.seq (.r 7 [{op:=.nil 4 [.sc]}]) (.ret)) (.skip)
def c_Sc_25:VC:=
 .seq (.r 6 [M 26 6,
  {op:=.bin 27 .lss (.s 26) (.k (.int .i64 (-2147483648)))},
  M 28 27,
  ⟨none,[],some (28,false),.mv 29 (.s 6)⟩,
  ⟨none,[],some (28,false),.bin 30 .gtr (.s 29) (.k (.int .i64 2147483647))⟩,
  {op:=.pick 31 (.s 28) (.k (.bool true)) (.s 30)}]) c_Sc_27
def c_Sc_32:VC:=
 .r 8 [{op:=.bin 32 .add (.s 22) (.k (.int .i64 1))},
  M 22 32]
def c_Sc_21:VC:=
 .seq (.blk 1 (.seq (.r 5 [oX 24 20 22 1,
  oL 25 24 1,
  M 6 25]) c_Sc_25)) c_Sc_32
def c_Sc_17:VC:=
 .seq (.ite (.s 23) (.skip) (.exit 0)) c_Sc_21
def c_Sc_15:VC:=
 .seq (.r 4 [{op:=.bin 23 .lss (.s 22) (.s 21)}]) c_Sc_17
def c_Sc_13:VC:=
 .blk 0 (.loop [0,1,20,21,22] c_Sc_15)
def c_Sc_55:VC:=
 .ite (.s 50) (.d 15 [(0,M 51 7),
  (1,M 52 8),
  (2,oX 53 51 52 1),
  (3,oL 54 53 1),
  (4,M 55 0),
  (5,M 56 7),
  (6,M 57 8),
  (7,{op:=.call 58 95 [(.s 55),(.s 56),(.s 57)]}),
  (8,{op:=.bin 59 .add (.s 54) (.s 58)}),
  (9,oX 60 51 52 1),
  (10,oS 60 59 1)]) (.skip)
def c_Sc_60:VC:=
 .ite (.s 72) (.seq (.r 17 [{op:=.nil 4 [.sc]}]) (.ret)) (.skip)
def c_Sc_58:VC:=
 .seq (.r 16 [M 61 7,
  M 62 8,
  oX 63 61 62 1,
  oL 64 63 1,
  {op:=.bin 65 .lss (.s 64) (.k (.int .i64 (-67108864)))},
  M 66 65,
  ⟨none,[],some (66,false),.mv 67 (.s 7)⟩,
  ⟨none,[],some (66,false),.mv 68 (.s 8)⟩,
  ⟨none,[],some (66,false),.iadr 69 (.s 67) (.s 68) 1⟩,
  ⟨none,[],some (66,false),.ld 70 (.s 69) 1 false⟩,
  ⟨none,[],some (66,false),.bin 71 .gtr (.s 70) (.k (.int .i64 67108863))⟩,
  {op:=.pick 72 (.s 66) (.k (.bool true)) (.s 71)}]) c_Sc_60
def c_Sc_52:VC:=
 .seq (.seq (.r 14 [M 48 8,
  M 49 0,
  {op:=.bin 50 .geq (.s 48) (.s 49)}]) c_Sc_55) (.kp [0,1,7,8,37,38] c_Sc_58)
def c_Sc_50:VC:=
 .seq (.r 13 [M 41 7,
  M 42 8,
  M 43 1,
  M 44 8,
  oX 45 43 44 1,
  oL 46 45 1,
  oX 47 41 42 1,
  oS 47 46 1]) c_Sc_52
def c_Sc_65:VC:=
 .r 18 [{op:=.bin 73 .add (.s 38) (.k (.int .i64 1))},
  M 38 73]
def c_Sc_46:VC:=
 .seq (.blk 3 (.seq (.r 12 [M 40 38,
  M 8 40]) c_Sc_50)) c_Sc_65
def c_Sc_42:VC:=
 .seq (.ite (.s 39) (.skip) (.exit 2)) c_Sc_46
def c_Sc_40:VC:=
 .seq (.r 11 [{op:=.bin 39 .lss (.s 38) (.s 37)}]) c_Sc_42
def c_Sc_38:VC:=
 .blk 2 (.loop [0,1,7,37,38] c_Sc_40)
def c_Sc_66:VC:=
 .seq (.r 19 [M 74 7,
  M 4 74]) (.ret)
def c_Sc_35:VC:=
 .seq (.seq (.r 10 [M 36 1,
  {op:=.len 37 (.s 36)},
  oN 38 0]) c_Sc_38) (.kp [7] c_Sc_66)
def c_Sc_33:VC:=
 .seq (.r 9 [M 33 1,
  {op:=.len 34 (.s 33)},
  {op:=.mk 35 (.s 34) [.sc] [(.int .i64 0)] 17592186044416},
  M 7 35]) c_Sc_35
def c_Sc_10:VC:=
 .seq (.seq (.r 3 [M 20 1,
  {op:=.len 21 (.s 20)},
  oN 22 0]) c_Sc_13) (.kp [0,1] c_Sc_33)
def c_Sc_2:VC:=
 .seq (.seq (.r 1 [M 9 0,
  {op:=.bin 10 .lss (.s 9) (.k (.int .i64 0))},
  M 11 10,
  ⟨none,[],some (11,false),.mv 12 (.s 0)⟩,
  ⟨none,[],some (11,false),.bin 13 .gtr (.s 12) (.k (.int .i64 4))⟩,
  {op:=.pick 14 (.s 11) (.k (.bool true)) (.s 13)},
  M 15 14,
  ⟨none,[],some (15,false),.mv 16 (.s 1)⟩,
  ⟨none,[],some (15,false),.len 17 (.s 16)⟩,
  ⟨none,[],some (15,false),.bin 18 .gtr (.s 17) (.k (.int .i64 4000))⟩,
  {op:=.pick 19 (.s 15) (.k (.bool true)) (.s 18)}]) c_Sc_5) c_Sc_10
def c_Sc_0:VC:=
 .seq (.r 0 [{op:=.nil 4 [.sc]}]) c_Sc_2
def vf_Sc:VF:={ pm:=[.ro [.sc],.ro [.ro [.sc]]],rm:=[.v [.own [.sc]]],nslots:=75,res:=[4],rc:=[],code:=.kp [0,1] c_Sc_0 }
def c_Sh_19:VC:=
 .ite (.s 16) (.seq (.r 5 [oK 2 false]) (.ret)) (.skip)
def c_Sh_17:VC:=
 .seq (.r 4 [M 11 4,
  {op:=.bin 12 .lss (.s 11) (.k (.int .i64 (-67108864)))},
  M 13 12,
  ⟨none,[],some (13,false),.mv 14 (.s 4)⟩,
  ⟨none,[],some (13,false),.bin 15 .gtr (.s 14) (.k (.int .i64 67108863))⟩,
  {op:=.pick 16 (.s 13) (.k (.bool true)) (.s 15)}]) c_Sh_19
def c_Sh_24:VC:=
 .r 6 [{op:=.bin 17 .add (.s 7) (.k (.int .i64 1))},
  M 7 17]
def c_Sh_13:VC:=
 .seq (.blk 1 (.seq (.r 3 [oX 9 5 7 1,
  oL 10 9 1,
  M 4 10]) c_Sh_17)) c_Sh_24
def c_Sh_9:VC:=
 .seq (.ite (.s 8) (.skip) (.exit 0)) c_Sh_13
def c_Sh_7:VC:=
 .seq (.r 2 [{op:=.bin 8 .lss (.s 7) (.s 6)}]) c_Sh_9
def c_Sh_5:VC:=
 .blk 0 (.loop [0,5,6,7] c_Sh_7)
def c_Sh_25:VC:=
 .seq (.r 7 [M 18 0,
  {op:=.len 19 (.s 18)},
  {op:=.bin 20 .leq (.s 19) (.k (.int .i64 4000))},
  M 2 20]) (.ret)
def c_Sh_2:VC:=
 .seq (.seq (.r 1 [M 5 0,
  {op:=.len 6 (.s 5)},
  oN 7 0]) c_Sh_5) (.kp [0] c_Sh_25)
def c_Sh_0:VC:=
 .seq (.r 0 [oK 2 false]) c_Sh_2
def vf_Sh:VF:={ pm:=[.ro [.ro [.sc]]],rm:=[.v [.sc]],nslots:=21,res:=[2],rc:=[],code:=.kp [0] c_Sh_0 }
def c_Sr_24:VC:=
 .ite (.s 47) (.seq (.r 7 [{op:=.nil 6 [.sc]},
  {op:=.nil 7 [.sc]}]) (.ret)) (.skip)
def c_Sr_36:VC:=
 .ite (.s 63) (.d 11 [(0,M 64 9),
  (1,M 65 10),
  (2,M 66 1),
  (3,M 67 10),
  (4,oX 68 66 67 1),
  (5,oV 69 68 1),
  (6,M 70 2),
  (7,M 71 10),
  (8,oX 72 70 71 1),
  (9,oV 73 72 1),
  (10,{op:=.bin 74 .sub (.s 69) (.s 73)}),
  (11,oX 75 64 65 1),
  (12,oS 75 74 1)]) (.skip)
def c_Sr_44:VC:=
 .d 14 [(0,M 98 9),
  (1,M 99 10),
  (2,M 100 8),
  (3,M 101 10),
  (4,oX 102 100 101 1),
  (5,oL 103 102 1),
  (6,M 104 2),
  (7,M 105 10),
  (8,oX 106 104 105 1),
  (9,oV 107 106 1),
  (10,{op:=.bin 108 .sub (.s 103) (.s 107)}),
  (11,oX 109 98 99 1),
  (12,oS 109 108 1)]
def c_Sr_41:VC:=
 .ite (.s 77) (.seq (.d 13 [(0,M 78 8),
  (1,M 79 10),
  (2,M 80 1),
  (3,M 81 10),
  (4,oX 82 80 81 1),
  (5,oV 83 82 1),
  (6,{op:=.bin 84 .mul (.k (.int .i64 2)) (.s 83)}),
  (7,M 85 2),
  (8,M 86 10),
  (9,oX 87 85 86 1),
  (10,oV 88 87 1),
  (11,{op:=.bin 89 .and (.s 88) (.k (.int .i64 1))}),
  (12,{op:=.bin 90 .add (.s 84) (.s 89)}),
  (13,M 91 2),
  (14,M 92 10),
  (15,oX 93 91 92 1),
  (16,oV 94 93 1),
  (17,{op:=.bin 95 .add (.s 90) (.s 94)}),
  (18,{op:=.bin 96 .quo (.s 95) (.k (.int .i64 2))}),
  (19,oX 97 78 79 1),
  (20,oS 97 96 1)]) c_Sr_44) (.skip)
def c_Sr_39:VC:=
 .seq (.r 12 [M 76 0,
  {op:=.bin 77 .eql (.s 76) (.k (.int .i64 2))}]) c_Sr_41
def c_Sr_33:VC:=
 .seq (.seq (.r 10 [M 62 0,
  {op:=.bin 63 .eql (.s 62) (.k (.int .i64 1))}]) c_Sr_36) (.kp [0,1,2,8,9,10,18,19] c_Sr_39)
def c_Sr_31:VC:=
 .seq (.r 9 [M 55 9,
  M 56 10,
  M 57 2,
  M 58 10,
  oX 59 57 58 1,
  oL 60 59 1,
  oX 61 55 56 1,
  oS 61 60 1]) c_Sr_33
def c_Sr_29:VC:=
 .seq (.r 8 [M 48 8,
  M 49 10,
  M 50 1,
  M 51 10,
  oX 52 50 51 1,
  oL 53 52 1,
  oX 54 48 49 1,
  oS 54 53 1]) c_Sr_31
def c_Sr_21:VC:=
 .seq (.seq (.r 6 [M 22 1,
  M 23 10,
  oX 24 22 23 1,
  oL 25 24 1,
  {op:=.bin 26 .lss (.s 25) (.k (.int .i64 (-268435456)))},
  M 27 26,
  ⟨none,[],some (27,false),.mv 28 (.s 1)⟩,
  ⟨none,[],some (27,false),.mv 29 (.s 10)⟩,
  ⟨none,[],some (27,false),.iadr 30 (.s 28) (.s 29) 1⟩,
  ⟨none,[],some (27,false),.ld 31 (.s 30) 1 false⟩,
  ⟨none,[],some (27,false),.bin 32 .gtr (.s 31) (.k (.int .i64 268435455))⟩,
  {op:=.pick 33 (.s 27) (.k (.bool true)) (.s 32)},
  M 34 33,
  ⟨none,[],some (34,false),.mv 35 (.s 2)⟩,
  ⟨none,[],some (34,false),.mv 36 (.s 10)⟩,
  ⟨none,[],some (34,false),.iadr 37 (.s 35) (.s 36) 1⟩,
  ⟨none,[],some (34,false),.ld 38 (.s 37) 1 false⟩,
  ⟨none,[],some (34,false),.bin 39 .lss (.s 38) (.k (.int .i64 (-268435456)))⟩,
  {op:=.pick 40 (.s 34) (.k (.bool true)) (.s 39)},
  M 41 40,
  ⟨none,[],some (41,false),.mv 42 (.s 2)⟩,
  ⟨none,[],some (41,false),.mv 43 (.s 10)⟩,
  ⟨none,[],some (41,false),.iadr 44 (.s 42) (.s 43) 1⟩,
  ⟨none,[],some (41,false),.ld 45 (.s 44) 1 false⟩,
  ⟨none,[],some (41,false),.bin 46 .gtr (.s 45) (.k (.int .i64 268435455))⟩,
  {op:=.pick 47 (.s 41) (.k (.bool true)) (.s 46)}]) (.kp [0,1,2,8,9,10,18,19,47] c_Sr_24)) c_Sr_29
def c_Sr_46:VC:=
 .r 15 [{op:=.bin 110 .add (.s 19) (.k (.int .i64 1))},
  M 19 110]
def c_Sr_17:VC:=
 .seq (.blk 1 (.seq (.r 5 [M 21 19,
  M 10 21]) c_Sr_21)) c_Sr_46
def c_Sr_13:VC:=
 .seq (.ite (.s 20) (.skip) (.exit 0)) c_Sr_17
def c_Sr_11:VC:=
 .seq (.r 4 [{op:=.bin 20 .lss (.s 19) (.s 18)}]) c_Sr_13
def c_Sr_9:VC:=
 .blk 0 (.loop [0,1,2,8,9,18,19] c_Sr_11)
def c_Sr_50:VC:=
 .ite (.s 118) (.seq (.r 17 [{op:=.nil 6 [.sc]},
  {op:=.nil 7 [.sc]}]) (.ret)) (.skip)
def c_Sr_55:VC:=
 .seq (.r 18 [M 119 8,
  M 120 9,
  M 6 119,
  M 7 120]) (.ret)
def c_Sr_47:VC:=
 .seq (.seq (.r 16 [M 111 8,
  {op:=.call 112 96 [(.s 111)]},
  {op:=.un 113 .not (.s 112)},
  M 114 113,
  ⟨none,[],some (114,false),.mv 115 (.s 9)⟩,
  ⟨none,[],some (114,false),.call 116 96 [(.s 115)]⟩,
  ⟨none,[],some (114,false),.un 117 .not (.s 116)⟩,
  {op:=.pick 118 (.s 114) (.k (.bool true)) (.s 117)}]) (.kp [8,9,118] c_Sr_50)) c_Sr_55
def c_Sr_6:VC:=
 .seq (.seq (.r 3 [M 17 1,
  {op:=.len 18 (.s 17)},
  oN 19 0]) c_Sr_9) (.kp [8,9] c_Sr_47)
def c_Sr_4:VC:=
 .seq (.r 2 [M 14 1,
  {op:=.len 15 (.s 14)},
  {op:=.mk 16 (.s 15) [.sc] [(.int .i64 0)] 17592186044416},
  M 9 16]) c_Sr_6
def c_Sr_2:VC:=
 .seq (.r 1 [M 11 1,
  {op:=.len 12 (.s 11)},
  {op:=.mk 13 (.s 12) [.sc] [(.int .i64 0)] 17592186044416},
  M 8 13]) c_Sr_4
def c_Sr_0:VC:=
 .seq (.r 0 [{op:=.nil 6 [.sc]},
  {op:=.nil 7 [.sc]}]) c_Sr_2
def vf_Sr:VF:={ pm:=[.ro [.sc],.ro [.ro [.sc]],.ro [.ro [.sc]]],rm:=[.v [.own [.sc]],.v [.own [.sc]]],nslots:=121,res:=[6,7],rc:=[],code:=.kp [0,1,2] c_Sr_0 }
def c_Sg_21:VC:=
 .ite (.s 26) (.seq (.r 6 [oK 4 false]) (.ret)) (.skip)
def c_Sg_19:VC:=
 .seq (.r 5 [M 18 7,
  M 19 5,
  {op:=.un 20 .neg (.s 19)},
  {op:=.bin 21 .lss (.s 18) (.s 20)},
  M 22 21,
  ⟨none,[],some (22,false),.mv 23 (.s 7)⟩,
  ⟨none,[],some (22,false),.mv 24 (.s 5)⟩,
  ⟨none,[],some (22,false),.bin 25 .geq (.s 23) (.s 24)⟩,
  {op:=.pick 26 (.s 22) (.k (.bool true)) (.s 25)}]) c_Sg_21
def c_Sg_26:VC:=
 .r 7 [{op:=.bin 27 .add (.s 14) (.k (.int .i64 1))},
  M 14 27]
def c_Sg_15:VC:=
 .seq (.blk 1 (.seq (.r 4 [oX 16 12 14 1,
  oL 17 16 1,
  M 7 17]) c_Sg_19)) c_Sg_26
def c_Sg_11:VC:=
 .seq (.ite (.s 15) (.skip) (.exit 0)) c_Sg_15
def c_Sg_9:VC:=
 .seq (.r 3 [{op:=.bin 15 .lss (.s 14) (.s 13)}]) c_Sg_11
def c_Sg_7:VC:=
 .blk 0 (.loop [5,12,13,14] c_Sg_9)
def c_Sg_27:VC:=
 .seq (.r 8 [oK 4 true]) (.ret)
def c_Sg_4:VC:=
 .seq (.seq (.r 2 [M 12 1,
  {op:=.len 13 (.s 12)},
  oN 14 0]) c_Sg_7) (.kp [] c_Sg_27)
def c_Sg_2:VC:=
 .seq (.r 1 [M 8 0,
  {op:=.bin 9 .sub (.s 8) (.k (.int .i64 1))},
  {op:=.conv 10 .u64 (.s 9)},
  {op:=.bin 11 .shl (.k (.int .i64 1)) (.s 10)},
  M 5 11]) c_Sg_4
def c_Sg_0:VC:=
 .seq (.r 0 [oK 4 false]) c_Sg_2
def vf_Sg:VF:={ pm:=[.ro [.sc],.ro [.ro [.sc]]],rm:=[.v [.sc]],nslots:=28,res:=[4],rc:=[],code:=.kp [0,1] c_Sg_0 }
def c_Sl_9:VC:=
 .ite (.s 46) (.r 4 [M 47 0,
  {op:=.call 48 43 [(.s 47),(.k (.int .i64 5))]}]) (.skip)
def c_Sl_24:VC:=
 .ite (.s 58) (.skip) (.exit 0)
def c_Sl_33:VC:=
 .r 12 [M 71 12,
  M 72 15,
  {op:=.lits 73 [.own [.sc]] [(.s 72)]},
  {op:=.app 74 (.s 71) (.s 73) [.own [.sc]] 5864062014805},
  M 12 74]
def c_Sl_31:VC:=
 .seq (.r 11 [M 67 11,
  M 68 14,
  {op:=.lits 69 [.sc] [(.s 68)]},
  {op:=.app 70 (.s 67) (.s 69) [.sc] 17592186044416},
  M 11 70]) c_Sl_33
def c_Sl_34:VC:=
 .r 9 [M 59 13,
  {op:=.bin 60 .add (.s 59) (.k (.int .i64 1))},
  M 13 60]
def c_Sl_27:VC:=
 .seq (.blk 1 (.seq (.r 10 [M 62 0,
  M 63 3,
  {op:=.call 64 77 [(.s 62),(.s 63)]},
  M 61 64,
  {op:=.ext 65 (.s 61) 0},
  {op:=.ext 66 (.s 61) 1},
  M 14 65,
  M 15 66]) c_Sl_31)) c_Sl_34
def c_Sl_21:VC:=
 .seq (.seq (.r 8 [M 49 13,
  M 50 2,
  {op:=.bin 51 .lss (.s 49) (.s 50)},
  M 52 51,
  ⟨none,[],some (52,true),.mv 53 (.s 0)⟩,
  ⟨none,[],some (52,true),.nck 54 (.s 53)⟩,
  ⟨none,[],some (52,true),.fadr 55 (.s 54) 2⟩,
  ⟨none,[],some (52,true),.ld 56 (.s 55) 1 false⟩,
  ⟨none,[],some (52,true),.bin 57 .eql (.s 56) (.k (.int .i64 0))⟩,
  {op:=.pick 58 (.s 52) (.s 57) (.k (.bool false))}]) c_Sl_24) c_Sl_27
def c_Sl_19:VC:=
 .blk 0 (.loop [0,1,2,3,5,9,10,11,12,13] c_Sl_21)
def c_Sl_40:VC:=
 .ite (.s 81) (.seq (.r 15 [{op:=.nil 8 [.own [.sc]]}]) (.ret)) (.skip)
def c_Sl_52:VC:=
 .ite (.s 107) (.r 19 [M 108 0,
  {op:=.call 109 43 [(.s 108),(.k (.int .i64 3))]}]) (.skip)
def c_Sl_50:VC:=
 .seq (.r 18 [M 97 0,
  {op:=.nck 98 (.s 97)},
  oF 99 98 2,
  oL 100 99 1,
  {op:=.bin 101 .eql (.s 100) (.k (.int .i64 0))},
  M 102 101,
  ⟨none,[],some (102,true),.mv 103 (.s 17)⟩,
  ⟨none,[],some (102,true),.mv 104 (.s 16)⟩,
  ⟨none,[],some (102,true),.conv 105 .i64 (.s 104)⟩,
  ⟨none,[],some (102,true),.bin 106 .neq (.s 103) (.s 105)⟩,
  {op:=.pick 107 (.s 102) (.s 106) (.k (.bool false))}]) (.kp [0,1,2,3,5,10,11,12,107] c_Sl_52)
def c_Sl_58:VC:=
 .ite (.s 114) (.seq (.r 21 [{op:=.nil 8 [.own [.sc]]}]) (.ret)) (.skip)
def c_Sl_85:VC:=
 .seq (.r 28 [{op:=.nil 8 [.own [.sc]]}]) (.ret)
def c_Sl_82:VC:=
 .ite (.s 138) (.seq (.r 27 [M 139 0,
  {op:=.call 140 43 [(.s 139),(.k (.int .i64 5))]}]) c_Sl_85) (.skip)
def c_Sl_80:VC:=
 .seq (.r 26 [M 132 12,
  M 133 18,
  oX 134 132 133 1,
  oL 135 134 1,
  {op:=.len 136 (.s 135)},
  M 137 3,
  {op:=.bin 138 .neq (.s 136) (.s 137)}]) c_Sl_82
def c_Sl_78:VC:=
 .seq (.d 25 [(0,M 120 12),
  (1,M 121 18),
  (2,M 122 11),
  (3,M 123 18),
  (4,oX 124 122 123 1),
  (5,oL 125 124 1),
  (6,M 126 12),
  (7,M 127 18),
  (8,oX 128 126 127 1),
  (9,oL 129 128 1),
  (10,{op:=.call 130 79 [(.s 125),(.s 129)]}),
  (11,oX 131 120 121 1),
  (12,oS 131 130 1)]) c_Sl_80
def c_Sl_89:VC:=
 .r 29 [{op:=.bin 141 .add (.s 117) (.k (.int .i64 1))},
  M 117 141]
def c_Sl_74:VC:=
 .seq (.blk 3 (.seq (.r 24 [M 119 117,
  M 18 119]) c_Sl_78)) c_Sl_89
def c_Sl_70:VC:=
 .seq (.ite (.s 118) (.skip) (.exit 2)) c_Sl_74
def c_Sl_68:VC:=
 .seq (.r 23 [{op:=.bin 118 .lss (.s 117) (.s 116)}]) c_Sl_70
def c_Sl_66:VC:=
 .blk 2 (.loop [0,1,2,3,5,10,11,12,116,117] c_Sl_68)
def c_Sl_96:VC:=
 .r 32 [M 155 19,
  M 156 20,
  {op:=.lits 157 [.own [.sc]] [(.s 155),(.s 156)]},
  M 12 157]
def c_Sl_93:VC:=
 .ite (.s 143) (.seq (.d 31 [(0,M 145 10),
  (1,M 146 12),
  (2,{op:=.iadr 147 (.s 146) (.k (.int .i64 0)) 1}),
  (3,oL 148 147 1),
  (4,M 149 12),
  (5,{op:=.iadr 150 (.s 149) (.k (.int .i64 1)) 1}),
  (6,oL 151 150 1),
  (7,{op:=.call 152 80 [(.s 145),(.s 148),(.s 151)]}),
  (8,M 144 152),
  (9,{op:=.ext 153 (.s 144) 0}),
  (10,{op:=.ext 154 (.s 144) 1}),
  (11,M 19 153),
  (12,M 20 154)]) c_Sl_96) (.skip)
def c_Sl_115:VC:=
 .ite (.s 174) (.r 37 [M 175 0,
  {op:=.call 176 43 [(.s 175),(.k (.int .i64 5))]}]) (.skip)
def c_Sl_113:VC:=
 .seq (.r 36 [M 164 22,
  {op:=.len 165 (.s 164)},
  M 166 3,
  {op:=.bin 167 .neq (.s 165) (.s 166)},
  M 168 167,
  ⟨none,[],some (168,false),.fadr 169 (.s 5) 1⟩,
  ⟨none,[],some (168,false),.ld 170 (.s 169) 1 false⟩,
  ⟨none,[],some (168,false),.mv 171 (.s 22)⟩,
  ⟨none,[],some (168,false),.call 172 60 [(.s 170),(.s 171)]⟩,
  ⟨none,[],some (168,false),.un 173 .not (.s 172)⟩,
  {op:=.pick 174 (.s 168) (.k (.bool true)) (.s 173)}]) (.kp [0,1,3,5,12,158,159,160,174] c_Sl_115)
def c_Sl_118:VC:=
 .r 38 [{op:=.bin 177 .add (.s 160) (.k (.int .i64 1))},
  M 160 177]
def c_Sl_109:VC:=
 .seq (.blk 5 (.seq (.r 35 [oX 162 158 160 1,
  oL 163 162 1,
  M 22 163]) c_Sl_113)) c_Sl_118
def c_Sl_105:VC:=
 .seq (.ite (.s 161) (.skip) (.exit 4)) c_Sl_109
def c_Sl_103:VC:=
 .seq (.r 34 [{op:=.bin 161 .lss (.s 160) (.s 159)}]) c_Sl_105
def c_Sl_101:VC:=
 .blk 4 (.loop [0,1,3,5,12,158,159,160] c_Sl_103)
def c_Sl_119:VC:=
 .seq (.r 39 [M 178 12,
  M 8 178]) (.ret)
def c_Sl_98:VC:=
 .seq (.seq (.r 33 [M 158 12,
  {op:=.len 159 (.s 158)},
  oN 160 0]) c_Sl_101) (.kp [0,1,12] c_Sl_119)
def c_Sl_90:VC:=
 .seq (.seq (.r 30 [M 142 2,
  {op:=.bin 143 .eql (.s 142) (.k (.int .i64 2))}]) c_Sl_93) (.kp [0,1,3,5,12] c_Sl_98)
def c_Sl_63:VC:=
 .seq (.seq (.r 22 [M 115 12,
  {op:=.len 116 (.s 115)},
  oN 117 0]) c_Sl_66) (.kp [0,1,2,3,5,10,12] c_Sl_90)
def c_Sl_55:VC:=
 .seq (.seq (.r 20 [M 110 0,
  {op:=.nck 111 (.s 110)},
  oF 112 111 2,
  oL 113 112 1,
  {op:=.bin 114 .neq (.s 113) (.k (.int .i64 0))}]) c_Sl_58) c_Sl_63
def c_Sl_47:VC:=
 .seq (.seq (.r 17 [M 95 0,
  {op:=.call 96 41 [(.s 95),(.k (.int .i64 16))]},
  M 17 96]) c_Sl_50) (.kp [0,1,2,3,5,10,11,12] c_Sl_55)
def c_Sl_45:VC:=
 .seq (.d 16 [(0,M 82 0),
  (1,{op:=.nckv 83 (.s 82)}),
  (2,oG 84 83 0),
  (3,oV 85 84 1),
  (4,M 86 9),
  (5,M 87 0),
  (6,{op:=.nckv 88 (.s 87)}),
  (7,oG 89 88 1),
  (8,oV 90 89 1),
  (9,{op:=.bin 91 .quo (.s 90) (.k (.int .i64 8))}),
  (10,{op:=.slc 92 (.s 85) (some (.s 86)) (some (.s 91)) 1}),
  (11,{op:=.call 93 66 [(.s 92)]}),
  (12,{op:=.bin 94 .and (.s 93) (.k (.int .u32 65535))}),
  (13,M 16 94)]) c_Sl_47
def c_Sl_37:VC:=
 .seq (.seq (.r 14 [M 77 0,
  {op:=.nck 78 (.s 77)},
  oF 79 78 2,
  oL 80 79 1,
  {op:=.bin 81 .neq (.s 80) (.k (.int .i64 0))}]) c_Sl_40) c_Sl_45
def c_Sl_35:VC:=
 .seq (.r 13 [M 75 0,
  {op:=.call 76 78 [(.s 75)]}]) c_Sl_37
def c_Sl_16:VC:=
 .seq (.seq (.r 7 [oN 13 0]) c_Sl_19) (.kp [0,1,2,3,5,9,10,11,12] c_Sl_35)
def c_Sl_14:VC:=
 .seq (.r 6 [{op:=.nil 12 [.own [.sc]]}]) c_Sl_16
def c_Sl_12:VC:=
 .seq (.r 5 [{op:=.nil 11 [.sc]}]) c_Sl_14
def c_Sl_6:VC:=
 .seq (.seq (.r 3 [M 30 0,
  {op:=.nck 31 (.s 30)},
  oF 32 31 2,
  oL 33 32 1,
  {op:=.bin 34 .eql (.s 33) (.k (.int .i64 0))},
  M 35 34,
  ⟨none,[],some (35,true),.mv 36 (.s 10)⟩,
  ⟨none,[],some (35,true),.bin 37 .eql (.s 36) (.k (.int .i64 3))⟩,
  ⟨none,[],some (35,true),.mv 38 (.s 37)⟩,
  ⟨none,[],some (38,false),.mv 39 (.s 2)⟩,
  ⟨none,[],some (38,false),.bin 40 .eql (.s 39) (.k (.int .i64 1))⟩,
  ⟨none,[],some (38,false),.mv 41 (.s 40)⟩,
  ⟨none,[],some (41,true),.mv 42 (.s 10)⟩,
  ⟨none,[],some (41,true),.bin 43 .neq (.s 42) (.k (.int .i64 0))⟩,
  ⟨none,[],some (38,false),.pick 44 (.s 41) (.s 43) (.k (.bool false))⟩,
  ⟨none,[],some (35,true),.pick 45 (.s 38) (.k (.bool true)) (.s 44)⟩,
  {op:=.pick 46 (.s 35) (.s 45) (.k (.bool false))}]) (.kp [0,1,2,3,5,9,10,46] c_Sl_9)) (.kp [0,1,2,3,5,9,10] c_Sl_12)
def c_Sl_4:VC:=
 .seq (.r 2 [M 28 0,
  {op:=.call 29 41 [(.s 28),(.k (.int .i64 2))]},
  M 10 29]) c_Sl_6
def c_Sl_2:VC:=
 .seq (.r 1 [M 23 0,
  {op:=.nck 24 (.s 23)},
  oF 25 24 1,
  oL 26 25 1,
  {op:=.bin 27 .quo (.s 26) (.k (.int .i64 8))},
  M 9 27]) c_Sl_4
def c_Sl_0:VC:=
 .seq (.r 0 [{op:=.box 5 (.s 1)},
  {op:=.nil 8 [.own [.sc]]}]) c_Sl_2
def vf_Sl:VF:={ pm:=[.mb [.ro [.sc],.sc,.sc],.mg [.sc,.sc,.sc,.own [.own [.sc]]],.ro [.sc],.ro [.sc]],rm:=[.v [.own [.own [.sc]]]],nslots:=179,res:=[8],rc:=[],code:=.kp [0,1,2,3] c_Sl_0 }
def c_Sb_5:VC:=
 .ite (.s 13) (.seq (.r 2 [{op:=.bld 14 [.k (.int .i64 0),.k (.int .i64 0),.k (.int .i64 0),.k (.int .i64 0),.o [.own [.sc]]] [(0,1,(.k (.int .i64 1)))]},
  oS 2 14 5]) (.ret)) (.skip)
def c_Sb_29:VC:=
 .ite (.s 47) (.r 12 [M 48 3,
  {op:=.call 49 43 [(.s 48),(.k (.int .i64 5))]}]) (.skip)
def c_Sb_35:VC:=
 .ite (.s 54) (.seq (.r 14 [M 55 3,
  {op:=.nck 56 (.s 55)},
  oF 57 56 2,
  oL 58 57 1,
  {op:=.bld 59 [.k (.int .i64 0),.k (.int .i64 0),.k (.int .i64 0),.k (.int .i64 0),.o [.own [.sc]]] [(0,1,(.s 58))]},
  oS 2 59 5]) (.ret)) (.skip)
def c_Sb_50:VC:=
 .ite (.s 72) (.skip) (.exit 0)
def c_Sb_60:VC:=
 .ite (.s 83) (.r 21 [M 84 6,
  M 85 7,
  {op:=.bin 86 .sub (.s 84) (.s 85)},
  M 8 86]) (.skip)
def c_Sb_77:VC:=
 .d 25 [(0,oG 98 4 3),
  (1,oV 99 98 1),
  (2,M 100 9),
  (3,oG 101 4 3),
  (4,oV 102 101 1),
  (5,M 103 9),
  (6,oX 104 102 103 1),
  (7,oL 105 104 1),
  (8,M 106 10),
  (9,⟨none,[.tk 105 0],none,.app 107 (.s 105) (.s 106) [.sc] 17592186044416⟩),
  (10,oX 108 99 100 1),
  (11,oS 108 107 1)]
def c_Sb_78:VC:=
 .r 26 [{op:=.bin 109 .add (.s 93) (.k (.int .i64 1))},
  M 93 109]
def c_Sb_73:VC:=
 .seq (.blk 3 (.seq (.r 24 [M 95 93,
  oX 96 91 93 1,
  oL 97 96 1,
  M 9 95,
  M 10 97]) c_Sb_77)) c_Sb_78
def c_Sb_69:VC:=
 .seq (.ite (.s 94) (.skip) (.exit 2)) c_Sb_73
def c_Sb_67:VC:=
 .seq (.r 23 [{op:=.bin 94 .lss (.s 93) (.s 92)}]) c_Sb_69
def c_Sb_65:VC:=
 .blk 2 (.loop [0,2,3,4,5,6,7,91,92,93] c_Sb_67)
def c_Sb_63:VC:=
 .seq (.r 22 [M 87 3,
  {op:=.ld 88 (.s 4) 4 true},
  M 89 5,
  M 90 8,
  {op:=.call 91 44 [(.s 87),(.s 88),(.s 89),(.s 90)]},
  {op:=.len 92 (.s 91)},
  oN 93 0]) c_Sb_65
def c_Sb_57:VC:=
 .seq (.seq (.r 20 [M 79 8,
  M 80 6,
  M 81 7,
  {op:=.bin 82 .sub (.s 80) (.s 81)},
  {op:=.bin 83 .gtr (.s 79) (.s 82)}]) c_Sb_60) (.kp [0,2,3,4,5,6,7,8] c_Sb_63)
def c_Sb_79:VC:=
 .r 18 [M 73 7,
  oF 74 4 2,
  oL 75 74 1,
  {op:=.bin 76 .add (.s 73) (.s 75)},
  M 7 76]
def c_Sb_53:VC:=
 .seq (.blk 1 (.seq (.r 19 [oF 77 4 2,
  oL 78 77 1,
  M 8 78]) c_Sb_57)) (.kp [0,2,3,4,5,6,7] c_Sb_79)
def c_Sb_47:VC:=
 .seq (.seq (.r 17 [M 63 7,
  M 64 6,
  {op:=.bin 65 .lss (.s 63) (.s 64)},
  M 66 65,
  ⟨none,[],some (66,true),.mv 67 (.s 3)⟩,
  ⟨none,[],some (66,true),.nck 68 (.s 67)⟩,
  ⟨none,[],some (66,true),.fadr 69 (.s 68) 2⟩,
  ⟨none,[],some (66,true),.ld 70 (.s 69) 1 false⟩,
  ⟨none,[],some (66,true),.bin 71 .eql (.s 70) (.k (.int .i64 0))⟩,
  {op:=.pick 72 (.s 66) (.s 71) (.k (.bool false))}]) c_Sb_50) c_Sb_53
def c_Sb_45:VC:=
 .blk 0 (.loop [0,2,3,4,5,6,7] c_Sb_47)
def c_Sb_83:VC:=
 .ite (.s 124) (.r 28 [M 125 3,
  {op:=.call 126 43 [(.s 125),(.k (.int .i64 8))]}]) (.skip)
def c_Sb_89:VC:=
 .ite (.s 131) (.seq (.r 30 [M 132 3,
  {op:=.nck 133 (.s 132)},
  oF 134 133 2,
  oL 135 134 1,
  {op:=.bld 136 [.k (.int .i64 0),.k (.int .i64 0),.k (.int .i64 0),.k (.int .i64 0),.o [.own [.sc]]] [(0,1,(.s 135))]},
  oS 2 136 5]) (.ret)) (.skip)
def c_Sb_94:VC:=
 .seq (.r 31 [{op:=.ld 137 (.s 4) 4 true},
  {op:=.bld 138 [.k (.int .i64 0),.k (.int .i64 0),.k (.int .i64 0),.k (.int .i64 0),.k (.slice none 0 0)] [(1,4,(.s 137))]},
  oS 2 138 5]) (.ret)
def c_Sb_86:VC:=
 .seq (.seq (.r 29 [M 127 3,
  {op:=.nck 128 (.s 127)},
  oF 129 128 2,
  oL 130 129 1,
  {op:=.bin 131 .neq (.s 130) (.k (.int .i64 0))}]) c_Sb_89) c_Sb_94
def c_Sb_80:VC:=
 .seq (.seq (.r 27 [M 110 3,
  {op:=.nck 111 (.s 110)},
  oF 112 111 2,
  oL 113 112 1,
  {op:=.bin 114 .eql (.s 113) (.k (.int .i64 0))},
  M 115 114,
  ⟨none,[],some (115,true),.mv 116 (.s 3)⟩,
  ⟨none,[],some (115,true),.nck 117 (.s 116)⟩,
  ⟨none,[],some (115,true),.fadr 118 (.s 117) 1⟩,
  ⟨none,[],some (115,true),.ld 119 (.s 118) 1 false⟩,
  ⟨none,[],some (115,true),.mv 120 (.s 0)⟩,
  ⟨none,[],some (115,true),.len 121 (.s 120)⟩,
  ⟨none,[],some (115,true),.bin 122 .mul (.k (.int .i64 8)) (.s 121)⟩,
  ⟨none,[],some (115,true),.bin 123 .lss (.s 119) (.s 122)⟩,
  {op:=.pick 124 (.s 115) (.s 123) (.k (.bool false))}]) (.kp [2,3,4,124] c_Sb_83)) (.kp [2,3,4] c_Sb_86)
def c_Sb_42:VC:=
 .seq (.seq (.r 16 [oN 7 0]) c_Sb_45) (.kp [0,2,3,4] c_Sb_80)
def c_Sb_40:VC:=
 .seq (.r 15 [M 60 5,
  {op:=.mk 61 (.s 60) [.own [.sc]] [(.slice none 0 0)] 5864062014805},
  oF 62 4 3,
  oS 62 61 1]) c_Sb_42
def c_Sb_32:VC:=
 .seq (.seq (.r 13 [M 50 3,
  {op:=.nck 51 (.s 50)},
  oF 52 51 2,
  oL 53 52 1,
  {op:=.bin 54 .neq (.s 53) (.k (.int .i64 0))}]) c_Sb_35) c_Sb_40
def c_Sb_26:VC:=
 .seq (.seq (.r 11 [M 36 3,
  {op:=.nck 37 (.s 36)},
  oF 38 37 2,
  oL 39 38 1,
  {op:=.bin 40 .eql (.s 39) (.k (.int .i64 0))},
  M 41 40,
  ⟨none,[],some (41,true),.ld 42 (.s 4) 4 true⟩,
  ⟨none,[],some (41,true),.mv 43 (.s 5)⟩,
  ⟨none,[],some (41,true),.mv 44 (.s 6)⟩,
  ⟨none,[],some (41,true),.call 45 42 [(.s 42),(.s 43),(.s 44)]⟩,
  ⟨none,[],some (41,true),.un 46 .not (.s 45)⟩,
  {op:=.pick 47 (.s 41) (.s 46) (.k (.bool false))}]) (.kp [0,2,3,4,5,6,47] c_Sb_29)) (.kp [0,2,3,4,5,6] c_Sb_32)
def c_Sb_24:VC:=
 .seq (.r 10 [M 34 3,
  {op:=.call 35 41 [(.s 34),(.k (.int .i64 12))]},
  M 6 35]) c_Sb_26
def c_Sb_22:VC:=
 .seq (.r 9 [M 31 3,
  {op:=.call 32 41 [(.s 31),(.k (.int .i64 1))]},
  {op:=.bin 33 .add (.s 32) (.k (.int .i64 1))},
  M 5 33]) c_Sb_24
def c_Sb_20:VC:=
 .seq (.r 8 [M 28 3,
  {op:=.call 29 41 [(.s 28),(.k (.int .i64 10))]},
  oF 30 4 2,
  oS 30 29 1]) c_Sb_22
def c_Sb_18:VC:=
 .seq (.r 7 [M 25 3,
  {op:=.call 26 41 [(.s 25),(.k (.int .i64 5))]},
  oF 27 4 1,
  oS 27 26 1]) c_Sb_20
def c_Sb_16:VC:=
 .seq (.r 6 [M 22 3,
  {op:=.call 23 41 [(.s 22),(.k (.int .i64 20))]},
  oF 24 4 0,
  oS 24 23 1]) c_Sb_18
def c_Sb_14:VC:=
 .seq (.r 5 [{op:=.bld 21 [.k (.int .i64 0),.k (.int .i64 0),.k (.int .i64 0),.o [.own [.sc]]] []},
  {op:=.alloc 4 [.k (.int .i64 0),.k (.int .i64 0),.k (.int .i64 0),.o [.own [.sc]]]},
  oS 4 21 4]) c_Sb_16
def c_Sb_12:VC:=
 .seq (.r 4 [M 18 3,
  {op:=.lits 19 [.sc] [(.k (.int .u8 83)),(.k (.int .u8 78)),(.k (.int .u8 68)),(.k (.int .u8 49))]},
  ⟨none,[.fz 19 0],none,.call 20 40 [(.s 18),(.s 19)]⟩]) c_Sb_14
def c_Sb_10:VC:=
 .seq (.r 3 [M 15 0,
  {op:=.bld 16 [.k (.slice none 0 0),.k (.int .i64 0),.k (.int .i64 0)] [(0,1,(.s 15))]},
  {op:=.box 17 (.s 16)},
  M 3 17]) c_Sb_12
def c_Sb_2:VC:=
 .seq (.seq (.r 1 [M 11 0,
  {op:=.len 12 (.s 11)},
  {op:=.bin 13 .gtr (.s 12) (.k (.int .i64 60000))}]) c_Sb_5) c_Sb_10
def c_Sb_0:VC:=
 .seq (.r 0 [{op:=.alloc 2 [.k (.int .i64 0),.k (.int .i64 0),.k (.int .i64 0),.k (.int .i64 0),.o [.own [.sc]]]}]) c_Sb_2
def vf_Sb:VF:={ pm:=[.ro [.ro [.sc]]],rm:=[.v [.sc,.sc,.sc,.sc,.own [.own [.sc]]]],nslots:=139,res:=[2],rc:=[some (5,true)],code:=.kp [0] c_Sb_0 }
def c_Ic_2:VC:=
 .seq (.r 1 [M 3 0,
  {op:=.bld 4 [.k (.int .i64 0),.k (.int .i64 0),.k (.int .i64 0),.k (.int .i64 0),.o [.own [.sc]]] [(0,1,(.s 3))]},
  oS 2 4 5]) (.ret)
def c_Ic_0:VC:=
 .seq (.r 0 [{op:=.alloc 2 [.k (.int .i64 0),.k (.int .i64 0),.k (.int .i64 0),.k (.int .i64 0),.o [.own [.sc]]]}]) c_Ic_2
def vf_Ic:VF:={ pm:=[.ro [.sc]],rm:=[.v [.sc,.sc,.sc,.sc,.own [.own [.sc]]]],nslots:=5,res:=[2],rc:=[some (5,true)],code:=.kp [0] c_Ic_0 }
def c_Il_20:VC:=
 .ite (.s 14) (.seq (.r 5 [oN 4 2]) (.ret)) (.skip)
def c_Il_27:VC:=
 .ite (.s 22) (.seq (.r 7 [oN 4 4]) (.ret)) (.skip)
def c_Il_25:VC:=
 .seq (.d 6 [(0,M 15 0),
  (1,M 16 5),
  (2,oX 17 15 16 1),
  (3,oV 18 17 1),
  (4,M 19 1),
  (5,M 20 5),
  (6,{op:=.idx 21 (.s 19) (.s 20)}),
  (7,{op:=.bin 22 .neq (.s 18) (.s 21)})]) c_Il_27
def c_Il_17:VC:=
 .seq (.seq (.r 4 [M 11 5,
  M 12 0,
  {op:=.len 13 (.s 12)},
  {op:=.bin 14 .geq (.s 11) (.s 13)}]) c_Il_20) c_Il_25
def c_Il_32:VC:=
 .r 8 [{op:=.bin 23 .add (.s 8) (.k (.int .i64 1))},
  M 8 23]
def c_Il_13:VC:=
 .seq (.blk 1 (.seq (.r 3 [M 10 8,
  M 5 10]) c_Il_17)) c_Il_32
def c_Il_9:VC:=
 .seq (.ite (.s 9) (.skip) (.exit 0)) c_Il_13
def c_Il_7:VC:=
 .seq (.r 2 [{op:=.bin 9 .lss (.s 8) (.s 7)}]) c_Il_9
def c_Il_5:VC:=
 .blk 0 (.loop [0,1,7,8] c_Il_7)
def c_Il_33:VC:=
 .seq (.r 9 [oN 4 0]) (.ret)
def c_Il_2:VC:=
 .seq (.seq (.r 1 [M 6 1,
  {op:=.slen 7 (.s 6)},
  oN 8 0]) c_Il_5) (.kp [] c_Il_33)
def c_Il_0:VC:=
 .seq (.r 0 [oN 4 0]) c_Il_2
def vf_Il:VF:={ pm:=[.ro [.ro [.sc]],.ro [.sc]],rm:=[.v [.sc]],nslots:=24,res:=[4],rc:=[],code:=.kp [0,1] c_Il_0 }
def c_Io_8:VC:=
 .seq (.r 3 [oN 2 0]) (.ret)
def c_Io_5:VC:=
 .ite (.s 14) (.seq (.r 2 [M 15 0,
  {op:=.nck 16 (.s 15)},
  oF 17 16 2,
  {op:=.st (.s 17) (.k (.bool true)) 1}]) c_Io_8) (.skip)
def c_Io_16:VC:=
 .seq (.r 6 [M 45 3,
  M 2 45]) (.ret)
def c_Io_14:VC:=
 .seq (.r 5 [M 38 0,
  {op:=.nck 39 (.s 38)},
  oF 40 39 1,
  oL 41 40 1,
  {op:=.bin 42 .add (.s 41) (.k (.int .i64 1))},
  {op:=.nck 43 (.s 38)},
  oF 44 43 1,
  oS 44 42 1]) c_Io_16
def c_Io_12:VC:=
 .seq (.d 4 [(0,M 18 0),
  (1,{op:=.nckv 19 (.s 18)}),
  (2,oG 20 19 0),
  (3,oV 21 20 1),
  (4,M 22 0),
  (5,{op:=.nckv 23 (.s 22)}),
  (6,oG 24 23 1),
  (7,oV 25 24 1),
  (8,{op:=.bin 26 .quo (.s 25) (.k (.int .i64 8))}),
  (9,oX 27 21 26 1),
  (10,oV 28 27 1),
  (11,M 29 0),
  (12,{op:=.nckv 30 (.s 29)}),
  (13,oG 31 30 1),
  (14,oV 32 31 1),
  (15,{op:=.bin 33 .rem (.s 32) (.k (.int .i64 8))}),
  (16,{op:=.bin 34 .sub (.k (.int .i64 7)) (.s 33)}),
  (17,{op:=.bin 35 .shr (.s 28) (.s 34)}),
  (18,{op:=.bin 36 .and (.s 35) (.k (.int .u8 1))}),
  (19,{op:=.conv 37 .i64 (.s 36)}),
  (20,M 3 37)]) c_Io_14
def c_Io_2:VC:=
 .seq (.seq (.d 1 [(0,M 4 0),
  (1,{op:=.nckv 5 (.s 4)}),
  (2,oG 6 5 1),
  (3,oV 7 6 1),
  (4,M 8 0),
  (5,{op:=.nckv 9 (.s 8)}),
  (6,oG 10 9 0),
  (7,oV 11 10 1),
  (8,{op:=.len 12 (.s 11)}),
  (9,{op:=.bin 13 .mul (.k (.int .i64 8)) (.s 12)}),
  (10,{op:=.bin 14 .geq (.s 7) (.s 13)})]) c_Io_5) c_Io_12
def c_Io_0:VC:=
 .seq (.r 0 [oN 2 0]) c_Io_2
def vf_Io:VF:={ pm:=[.mb [.ro [.sc],.sc,.sc]],rm:=[.v [.sc]],nslots:=46,res:=[2],rc:=[],code:=.kp [0] c_Io_0 }
def c_Iq_18:VC:=
 .r 5 [{op:=.bin 15 .add (.s 7) (.k (.int .i64 1))},
  M 7 15]
def c_Iq_15:VC:=
 .seq (.blk 1 (.r 4 [M 9 5,
  {op:=.bin 10 .shl (.s 9) (.k (.int .u64 1))},
  M 11 0,
  {op:=.call 12 50 [(.s 11)]},
  {op:=.conv 13 .u64 (.s 12)},
  {op:=.bin 14 .or (.s 10) (.s 13)},
  M 5 14])) c_Iq_18
def c_Iq_11:VC:=
 .seq (.ite (.s 8) (.skip) (.exit 0)) c_Iq_15
def c_Iq_9:VC:=
 .seq (.r 3 [{op:=.bin 8 .lss (.s 7) (.s 6)}]) c_Iq_11
def c_Iq_7:VC:=
 .blk 0 (.loop [0,5,6,7] c_Iq_9)
def c_Iq_19:VC:=
 .seq (.r 6 [M 16 5,
  M 4 16]) (.ret)
def c_Iq_4:VC:=
 .seq (.seq (.r 2 [M 6 1,
  oN 7 0]) c_Iq_7) (.kp [0,5] c_Iq_19)
def c_Iq_2:VC:=
 .seq (.r 1 [{op:=.mv 5 (.k (.int .u64 0))}]) c_Iq_4
def c_Iq_0:VC:=
 .seq (.r 0 [{op:=.mv 4 (.k (.int .u64 0))}]) c_Iq_2
def vf_Iq:VF:={ pm:=[.mb [.ro [.sc],.sc,.sc],.ro [.sc]],rm:=[.v [.sc]],nslots:=17,res:=[4],rc:=[],code:=.kp [0,1] c_Iq_0 }
def c_Im_5:VC:=
 .ite (.s 14) (.seq (.r 2 [oK 8 false]) (.ret)) (.skip)
def c_Im_27:VC:=
 .ite (.s 28) (.seq (.r 7 [oK 8 false]) (.ret)) (.skip)
def c_Im_25:VC:=
 .seq (.r 6 [M 21 10,
  M 22 1,
  {op:=.bin 23 .lss (.s 21) (.s 22)},
  M 24 23,
  ⟨none,[],some (24,false),.mv 25 (.s 10)⟩,
  ⟨none,[],some (24,false),.mv 26 (.s 2)⟩,
  ⟨none,[],some (24,false),.bin 27 .gtr (.s 25) (.s 26)⟩,
  {op:=.pick 28 (.s 24) (.k (.bool true)) (.s 27)}]) c_Im_27
def c_Im_32:VC:=
 .r 8 [{op:=.bin 29 .add (.s 17) (.k (.int .i64 1))},
  M 17 29]
def c_Im_21:VC:=
 .seq (.blk 1 (.seq (.r 5 [oX 19 15 17 1,
  oL 20 19 1,
  M 10 20]) c_Im_25)) c_Im_32
def c_Im_17:VC:=
 .seq (.ite (.s 18) (.skip) (.exit 0)) c_Im_21
def c_Im_15:VC:=
 .seq (.r 4 [{op:=.bin 18 .lss (.s 17) (.s 16)}]) c_Im_17
def c_Im_13:VC:=
 .blk 0 (.loop [1,2,15,16,17] c_Im_15)
def c_Im_33:VC:=
 .seq (.r 9 [oK 8 true]) (.ret)
def c_Im_10:VC:=
 .seq (.seq (.r 3 [M 15 0,
  {op:=.len 16 (.s 15)},
  oN 17 0]) c_Im_13) (.kp [] c_Im_33)
def c_Im_2:VC:=
 .seq (.seq (.r 1 [M 11 0,
  {op:=.len 12 (.s 11)},
  M 13 3,
  {op:=.bin 14 .gtr (.s 12) (.s 13)}]) c_Im_5) c_Im_10
def c_Im_0:VC:=
 .seq (.r 0 [oK 8 false]) c_Im_2
def vf_Im:VF:={ pm:=[.ro [.ro [.sc]],.ro [.sc],.ro [.sc],.ro [.sc]],rm:=[.v [.sc]],nslots:=30,res:=[8],rc:=[],code:=.kp [0,1,2,3] c_Im_0 }
def c_Id_7:VC:=
 .ite (.s 44) (.seq (.r 3 [oK 2 false]) (.ret)) (.skip)
def c_Id_29:VC:=
 .ite (.s 73) (.seq (.r 8 [oK 2 false]) (.ret)) (.skip)
def c_Id_27:VC:=
 .seq (.d 7 [(0,M 52 5),
  (1,{op:=.len 53 (.s 52)}),
  (2,oG 54 1 3),
  (3,oV 55 54 1),
  (4,{op:=.iadr 56 (.s 55) (.k (.int .i64 0)) 1}),
  (5,oV 57 56 1),
  (6,{op:=.len 58 (.s 57)}),
  (7,{op:=.bin 59 .neq (.s 53) (.s 58)}),
  (8,M 60 59),
  (9,⟨none,[],some (60,false),.mv 61 (.s 5)⟩),
  (10,⟨none,[],some (60,false),.fadv 62 (.s 1) 1⟩),
  (11,⟨none,[],some (60,false),.ldv 63 (.s 62) 1 false⟩),
  (12,⟨none,[],some (60,false),.bin 64 .sub (.s 63) (.k (.int .i64 1))⟩),
  (13,⟨none,[],some (60,false),.bin 65 .shl (.k (.int .i64 (-1))) (.s 64)⟩),
  (14,⟨none,[],some (60,false),.fadv 66 (.s 1) 1⟩),
  (15,⟨none,[],some (60,false),.ldv 67 (.s 66) 1 false⟩),
  (16,⟨none,[],some (60,false),.bin 68 .sub (.s 67) (.k (.int .i64 1))⟩),
  (17,⟨none,[],some (60,false),.bin 69 .shl (.k (.int .i64 1)) (.s 68)⟩),
  (18,⟨none,[],some (60,false),.bin 70 .sub (.s 69) (.k (.int .i64 1))⟩),
  (19,⟨none,[],some (60,false),.call 71 55 [(.s 61),(.s 65),(.s 70),(.k (.int .i64 4000))]⟩),
  (20,⟨none,[],some (60,false),.un 72 .not (.s 71)⟩),
  (21,{op:=.pick 73 (.s 60) (.k (.bool true)) (.s 72)})]) c_Id_29
def c_Id_34:VC:=
 .r 9 [{op:=.bin 74 .add (.s 48) (.k (.int .i64 1))},
  M 48 74]
def c_Id_23:VC:=
 .seq (.blk 1 (.seq (.r 6 [oX 50 46 48 1,
  oL 51 50 1,
  M 5 51]) c_Id_27)) c_Id_34
def c_Id_19:VC:=
 .seq (.ite (.s 49) (.skip) (.exit 0)) c_Id_23
def c_Id_17:VC:=
 .seq (.r 5 [{op:=.bin 49 .lss (.s 48) (.s 47)}]) c_Id_19
def c_Id_15:VC:=
 .blk 0 (.loop [1,46,47,48] c_Id_17)
def c_Id_35:VC:=
 .seq (.r 10 [oK 2 true]) (.ret)
def c_Id_12:VC:=
 .seq (.seq (.r 4 [oF 45 1 3,
  oL 46 45 1,
  {op:=.len 47 (.s 46)},
  oN 48 0]) c_Id_15) (.kp [] c_Id_35)
def c_Id_4:VC:=
 .seq (.seq (.r 2 [oF 9 1 0,
  oL 10 9 1,
  {op:=.bin 11 .lss (.s 10) (.k (.int .i64 1))},
  M 12 11,
  ⟨none,[],some (12,false),.fadr 13 (.s 1) 0⟩,
  ⟨none,[],some (12,false),.ld 14 (.s 13) 1 false⟩,
  ⟨none,[],some (12,false),.bin 15 .gtr (.s 14) (.k (.int .i64 1000000))⟩,
  {op:=.pick 16 (.s 12) (.k (.bool true)) (.s 15)},
  M 17 16,
  ⟨none,[],some (17,false),.fadr 18 (.s 1) 1⟩,
  ⟨none,[],some (17,false),.ld 19 (.s 18) 1 false⟩,
  ⟨none,[],some (17,false),.bin 20 .lss (.s 19) (.k (.int .i64 2))⟩,
  {op:=.pick 21 (.s 17) (.k (.bool true)) (.s 20)},
  M 22 21,
  ⟨none,[],some (22,false),.fadr 23 (.s 1) 1⟩,
  ⟨none,[],some (22,false),.ld 24 (.s 23) 1 false⟩,
  ⟨none,[],some (22,false),.bin 25 .gtr (.s 24) (.k (.int .i64 24))⟩,
  {op:=.pick 26 (.s 22) (.k (.bool true)) (.s 25)},
  M 27 26,
  ⟨none,[],some (27,false),.fadr 28 (.s 1) 2⟩,
  ⟨none,[],some (27,false),.ld 29 (.s 28) 1 false⟩,
  ⟨none,[],some (27,false),.bin 30 .lss (.s 29) (.k (.int .i64 1))⟩,
  {op:=.pick 31 (.s 27) (.k (.bool true)) (.s 30)},
  M 32 31,
  ⟨none,[],some (32,false),.fadr 33 (.s 1) 2⟩,
  ⟨none,[],some (32,false),.ld 34 (.s 33) 1 false⟩,
  ⟨none,[],some (32,false),.bin 35 .gtr (.s 34) (.k (.int .i64 512))⟩,
  {op:=.pick 36 (.s 32) (.k (.bool true)) (.s 35)},
  M 37 36,
  ⟨none,[],some (37,false),.mv 38 (.s 3)⟩,
  ⟨none,[],some (37,false),.bin 39 .lss (.s 38) (.k (.int .i64 1))⟩,
  {op:=.pick 40 (.s 37) (.k (.bool true)) (.s 39)},
  M 41 40,
  ⟨none,[],some (41,false),.mv 42 (.s 3)⟩,
  ⟨none,[],some (41,false),.bin 43 .gtr (.s 42) (.k (.int .i64 2))⟩,
  {op:=.pick 44 (.s 41) (.k (.bool true)) (.s 43)}]) c_Id_7) c_Id_12
def c_Id_2:VC:=
 .seq (.r 1 [oF 6 1 3,
  oL 7 6 1,
  {op:=.len 8 (.s 7)},
  M 3 8]) c_Id_4
def c_Id_0:VC:=
 .seq (.r 0 [{op:=.box 1 (.s 0)},
  oK 2 false]) c_Id_2
def vf_Id:VF:={ pm:=[.ro [.sc,.sc,.sc,.ro [.ro [.sc]]]],rm:=[.v [.sc]],nslots:=75,res:=[2],rc:=[],code:=.kp [0] c_Id_0 }
def c_In_2:VC:=
 .seq (.r 1 [M 5 0,
  M 6 1,
  {op:=.bin 7 .sub (.k (.int .i64 64)) (.s 6)},
  {op:=.bin 8 .shl (.s 5) (.s 7)},
  {op:=.conv 9 .i64 (.s 8)},
  M 10 1,
  {op:=.bin 11 .sub (.k (.int .i64 64)) (.s 10)},
  {op:=.bin 12 .shr (.s 9) (.s 11)},
  M 4 12]) (.ret)
def c_In_0:VC:=
 .seq (.r 0 [oN 4 0]) c_In_2
def vf_In:VF:={ pm:=[.ro [.sc],.ro [.sc]],rm:=[.v [.sc]],nslots:=13,res:=[4],rc:=[],code:=.kp [0,1] c_In_0 }
def c_Ii_2:VC:=
 .seq (.r 1 [M 7 0,
  {op:=.bin 8 .geq (.s 7) (.k (.int .i64 0))},
  M 9 8,
  ⟨none,[],some (9,true),.mv 10 (.s 0)⟩,
  ⟨none,[],some (9,true),.bin 11 .leq (.s 10) (.k (.int .i64 4))⟩,
  {op:=.pick 12 (.s 9) (.s 11) (.k (.bool false))},
  M 13 12,
  ⟨none,[],some (13,true),.mv 14 (.s 0)⟩,
  ⟨none,[],some (13,true),.mv 15 (.s 2)⟩,
  ⟨none,[],some (13,true),.bin 16 .leq (.s 14) (.s 15)⟩,
  {op:=.pick 17 (.s 13) (.s 16) (.k (.bool false))},
  M 18 17,
  ⟨none,[],some (18,true),.mv 19 (.s 1)⟩,
  ⟨none,[],some (18,true),.bin 20 .geq (.s 19) (.k (.int .i64 0))⟩,
  {op:=.pick 21 (.s 18) (.s 20) (.k (.bool false))},
  M 22 21,
  ⟨none,[],some (22,true),.mv 23 (.s 1)⟩,
  ⟨none,[],some (22,true),.bin 24 .leq (.s 23) (.k (.int .i64 4))⟩,
  {op:=.pick 25 (.s 22) (.s 24) (.k (.bool false))},
  M 26 25,
  ⟨none,[],some (26,true),.mv 27 (.s 2)⟩,
  ⟨none,[],some (26,true),.mv 28 (.s 1)⟩,
  ⟨none,[],some (26,true),.bin 29 .shl (.k (.int .i64 1)) (.s 28)⟩,
  ⟨none,[],some (26,true),.bin 30 .rem (.s 27) (.s 29)⟩,
  ⟨none,[],some (26,true),.bin 31 .eql (.s 30) (.k (.int .i64 0))⟩,
  {op:=.pick 32 (.s 26) (.s 31) (.k (.bool false))},
  M 33 32,
  ⟨none,[],some (33,true),.mv 34 (.s 2)⟩,
  ⟨none,[],some (33,true),.mv 35 (.s 1)⟩,
  ⟨none,[],some (33,true),.bin 36 .shr (.s 34) (.s 35)⟩,
  ⟨none,[],some (33,true),.mv 37 (.s 0)⟩,
  ⟨none,[],some (33,true),.bin 38 .geq (.s 36) (.s 37)⟩,
  {op:=.pick 39 (.s 33) (.s 38) (.k (.bool false))},
  M 6 39]) (.ret)
def c_Ii_0:VC:=
 .seq (.r 0 [oK 6 false]) c_Ii_2
def vf_Ii:VF:={ pm:=[.ro [.sc],.ro [.sc],.ro [.sc]],rm:=[.v [.sc]],nslots:=40,res:=[6],rc:=[],code:=.kp [0,1,2] c_Ii_0 }
def c_If_2:VC:=
 .seq (.r 1 [M 3 0,
  {op:=.bin 4 .shr (.s 3) (.k (.int .u64 1))},
  {op:=.conv 5 .i64 (.s 4)},
  M 6 0,
  {op:=.bin 7 .and (.s 6) (.k (.int .u64 1))},
  {op:=.conv 8 .i64 (.s 7)},
  {op:=.un 9 .neg (.s 8)},
  {op:=.bin 10 .xor (.s 5) (.s 9)},
  M 2 10]) (.ret)
def c_If_0:VC:=
 .seq (.r 0 [oN 2 0]) c_If_2
def vf_If:VF:={ pm:=[.ro [.sc]],rm:=[.v [.sc]],nslots:=11,res:=[2],rc:=[],code:=.kp [0] c_If_0 }
def c_Ip_10:VC:=
 .ite (.s 9) (.skip) (.exit 0)
def c_Ip_13:VC:=
 .blk 1 (.r 3 [M 10 0,
  {op:=.call 11 50 [(.s 10)]},
  {op:=.bin 12 .eql (.s 11) (.k (.int .i64 0))},
  M 13 12,
  ⟨none,[],some (13,true),.mv 14 (.s 3)⟩,
  {op:=.pick 15 (.s 13) (.s 14) (.k (.bool false))},
  M 3 15])
def c_Ip_7:VC:=
 .seq (.seq (.r 2 [M 4 0,
  {op:=.nck 5 (.s 4)},
  oF 6 5 1,
  oL 7 6 1,
  {op:=.bin 8 .rem (.s 7) (.k (.int .i64 8))},
  {op:=.bin 9 .neq (.s 8) (.k (.int .i64 0))}]) c_Ip_10) c_Ip_13
def c_Ip_15:VC:=
 .seq (.r 4 [M 16 3,
  M 2 16]) (.ret)
def c_Ip_4:VC:=
 .seq (.blk 0 (.loop [0,3] c_Ip_7)) (.kp [0,3] c_Ip_15)
def c_Ip_2:VC:=
 .seq (.r 1 [oK 3 true]) c_Ip_4
def c_Ip_0:VC:=
 .seq (.r 0 [oK 2 false]) c_Ip_2
def vf_Ip:VF:={ pm:=[.mb [.ro [.sc],.sc,.sc]],rm:=[.v [.sc]],nslots:=17,res:=[2],rc:=[],code:=.kp [0] c_Ip_0 }
def c_Ia_34:VC:=
 .r 9 [{op:=.bin 24 .add (.s 16) (.k (.int .i64 1))},
  M 16 24]
def c_Ia_31:VC:=
 .seq (.blk 3 (.r 8 [M 18 3,
  {op:=.bin 19 .shr (.s 18) (.k (.int .u64 1))},
  M 20 3,
  {op:=.bin 21 .and (.s 20) (.k (.int .u32 1))},
  {op:=.bin 22 .mul (.k (.int .u32 3988292384)) (.s 21)},
  {op:=.bin 23 .xor (.s 19) (.s 22)},
  M 3 23])) c_Ia_34
def c_Ia_27:VC:=
 .seq (.ite (.s 17) (.skip) (.exit 2)) c_Ia_31
def c_Ia_25:VC:=
 .seq (.r 7 [{op:=.bin 17 .lss (.s 16) (.k (.int .i64 8))}]) c_Ia_27
def c_Ia_23:VC:=
 .blk 2 (.loop [3,6,7,8,16] c_Ia_25)
def c_Ia_21:VC:=
 .seq (.r 6 [oN 16 0]) c_Ia_23
def c_Ia_19:VC:=
 .seq (.r 5 [M 12 3,
  M 13 5,
  {op:=.conv 14 .u32 (.s 13)},
  {op:=.bin 15 .xor (.s 12) (.s 14)},
  M 3 15]) c_Ia_21
def c_Ia_35:VC:=
 .r 10 [{op:=.bin 25 .add (.s 8) (.k (.int .i64 1))},
  M 8 25]
def c_Ia_15:VC:=
 .seq (.blk 1 (.seq (.r 4 [oX 10 6 8 1,
  oL 11 10 1,
  M 5 11]) c_Ia_19)) (.kp [3,6,7,8] c_Ia_35)
def c_Ia_11:VC:=
 .seq (.ite (.s 9) (.skip) (.exit 0)) c_Ia_15
def c_Ia_9:VC:=
 .seq (.r 3 [{op:=.bin 9 .lss (.s 8) (.s 7)}]) c_Ia_11
def c_Ia_7:VC:=
 .blk 0 (.loop [3,6,7,8] c_Ia_9)
def c_Ia_36:VC:=
 .seq (.r 11 [M 26 3,
  {op:=.un 27 .xor (.s 26)},
  M 2 27]) (.ret)
def c_Ia_4:VC:=
 .seq (.seq (.r 2 [M 6 0,
  {op:=.len 7 (.s 6)},
  oN 8 0]) c_Ia_7) (.kp [3] c_Ia_36)
def c_Ia_2:VC:=
 .seq (.r 1 [{op:=.mv 3 (.k (.int .u32 4294967295))}]) c_Ia_4
def c_Ia_0:VC:=
 .seq (.r 0 [{op:=.mv 2 (.k (.int .u32 0))}]) c_Ia_2
def vf_Ia:VF:={ pm:=[.ro [.ro [.sc]]],rm:=[.v [.sc]],nslots:=28,res:=[2],rc:=[],code:=.kp [0] c_Ia_0 }
def c_Ih_2:VC:=
 .seq (.r 1 [{op:=.lits 3 [.sc] []},
  M 4 0,
  {op:=.app 5 (.s 3) (.s 4) [.sc] 17592186044416},
  M 2 5]) (.ret)
def c_Ih_0:VC:=
 .seq (.r 0 [{op:=.nil 2 [.sc]}]) c_Ih_2
def vf_Ih:VF:={ pm:=[.ro [.ro [.sc]]],rm:=[.v [.own [.sc]]],nslots:=6,res:=[2],rc:=[],code:=.kp [0] c_Ih_0 }
def c_Ij_26:VC:=
 .ite (.s 50) (.seq (.d 9 [(0,M 52 1),
  (1,M 53 2),
  (2,{op:=.bin 54 .sub (.s 53) (.k (.int .i64 1))}),
  (3,oX 55 52 54 1),
  (4,oV 56 55 1),
  (5,{op:=.bin 57 .mul (.k (.int .i64 4)) (.s 56)}),
  (6,M 58 1),
  (7,M 59 2),
  (8,{op:=.bin 60 .sub (.s 59) (.k (.int .i64 2))}),
  (9,oX 61 58 60 1),
  (10,oV 62 61 1),
  (11,{op:=.bin 63 .mul (.k (.int .i64 6)) (.s 62)}),
  (12,{op:=.bin 64 .sub (.s 57) (.s 63)}),
  (13,M 65 1),
  (14,M 66 2),
  (15,{op:=.bin 67 .sub (.s 66) (.k (.int .i64 3))}),
  (16,oX 68 65 67 1),
  (17,oV 69 68 1),
  (18,{op:=.bin 70 .mul (.k (.int .i64 4)) (.s 69)}),
  (19,{op:=.bin 71 .add (.s 64) (.s 70)}),
  (20,M 72 1),
  (21,M 73 2),
  (22,{op:=.bin 74 .sub (.s 73) (.k (.int .i64 4))}),
  (23,oX 75 72 74 1),
  (24,oV 76 75 1),
  (25,{op:=.bin 77 .sub (.s 71) (.s 76)}),
  (26,M 6 77)]) (.ret)) (.skip)
def c_Ij_20:VC:=
 .ite (.s 29) (.seq (.d 7 [(0,M 31 1),
  (1,M 32 2),
  (2,{op:=.bin 33 .sub (.s 32) (.k (.int .i64 1))}),
  (3,oX 34 31 33 1),
  (4,oV 35 34 1),
  (5,{op:=.bin 36 .mul (.k (.int .i64 3)) (.s 35)}),
  (6,M 37 1),
  (7,M 38 2),
  (8,{op:=.bin 39 .sub (.s 38) (.k (.int .i64 2))}),
  (9,oX 40 37 39 1),
  (10,oV 41 40 1),
  (11,{op:=.bin 42 .mul (.k (.int .i64 3)) (.s 41)}),
  (12,{op:=.bin 43 .sub (.s 36) (.s 42)}),
  (13,M 44 1),
  (14,M 45 2),
  (15,{op:=.bin 46 .sub (.s 45) (.k (.int .i64 3))}),
  (16,oX 47 44 46 1),
  (17,oV 48 47 1),
  (18,{op:=.bin 49 .add (.s 43) (.s 48)}),
  (19,M 6 49)]) (.ret)) (.seq (.r 8 [{op:=.bin 51 .eql (.s 7) (.k (.int .i64 4))},
  M 50 51]) c_Ij_26)
def c_Ij_14:VC:=
 .ite (.s 15) (.seq (.d 5 [(0,M 17 1),
  (1,M 18 2),
  (2,{op:=.bin 19 .sub (.s 18) (.k (.int .i64 1))}),
  (3,oX 20 17 19 1),
  (4,oV 21 20 1),
  (5,{op:=.bin 22 .mul (.k (.int .i64 2)) (.s 21)}),
  (6,M 23 1),
  (7,M 24 2),
  (8,{op:=.bin 25 .sub (.s 24) (.k (.int .i64 2))}),
  (9,oX 26 23 25 1),
  (10,oV 27 26 1),
  (11,{op:=.bin 28 .sub (.s 22) (.s 27)}),
  (12,M 6 28)]) (.ret)) (.seq (.r 6 [{op:=.bin 30 .eql (.s 7) (.k (.int .i64 3))},
  M 29 30]) c_Ij_20)
def c_Ij_8:VC:=
 .ite (.s 8) (.seq (.r 3 [M 10 1,
  M 11 2,
  {op:=.bin 12 .sub (.s 11) (.k (.int .i64 1))},
  oX 13 10 12 1,
  oL 14 13 1,
  M 6 14]) (.ret)) (.seq (.r 4 [{op:=.bin 16 .eql (.s 7) (.k (.int .i64 2))},
  M 15 16]) c_Ij_14)
def c_Ij_5:VC:=
 .blk 0 (.seq (.r 2 [{op:=.bin 9 .eql (.s 7) (.k (.int .i64 1))},
  M 8 9]) c_Ij_8)
def c_Ij_31:VC:=
 .seq (.r 10 [oN 6 0]) (.ret)
def c_Ij_2:VC:=
 .seq (.seq (.r 1 [M 7 0]) c_Ij_5) c_Ij_31
def c_Ij_0:VC:=
 .seq (.r 0 [oN 6 0]) c_Ij_2
def vf_Ij:VF:={ pm:=[.ro [.sc],.ro [.ro [.sc]],.ro [.sc]],rm:=[.v [.sc]],nslots:=78,res:=[6],rc:=[],code:=.kp [0,1,2] c_Ij_0 }
def c_Ie_5:VC:=
 .ite (.s 17) (.seq (.r 2 [{op:=.nil 4 [.sc]}]) (.ret)) (.skip)
def c_Ie_30:VC:=
 .ite (.s 27) (.d 8 [(0,M 28 5),
  (1,M 29 6),
  (2,oX 30 28 29 1),
  (3,oL 31 30 1),
  (4,M 32 0),
  (5,M 33 5),
  (6,M 34 6),
  (7,{op:=.call 35 72 [(.s 32),(.s 33),(.s 34)]}),
  (8,{op:=.bin 36 .add (.s 31) (.s 35)}),
  (9,oX 37 28 29 1),
  (10,oS 37 36 1)]) (.skip)
def c_Ie_35:VC:=
 .ite (.s 49) (.seq (.r 10 [{op:=.nil 4 [.sc]}]) (.ret)) (.skip)
def c_Ie_33:VC:=
 .seq (.r 9 [M 38 5,
  M 39 6,
  oX 40 38 39 1,
  oL 41 40 1,
  {op:=.bin 42 .lss (.s 41) (.k (.int .i64 (-67108864)))},
  M 43 42,
  ⟨none,[],some (43,false),.mv 44 (.s 5)⟩,
  ⟨none,[],some (43,false),.mv 45 (.s 6)⟩,
  ⟨none,[],some (43,false),.iadr 46 (.s 44) (.s 45) 1⟩,
  ⟨none,[],some (43,false),.ld 47 (.s 46) 1 false⟩,
  ⟨none,[],some (43,false),.bin 48 .gtr (.s 47) (.k (.int .i64 67108863))⟩,
  {op:=.pick 49 (.s 43) (.k (.bool true)) (.s 48)}]) c_Ie_35
def c_Ie_27:VC:=
 .seq (.seq (.r 7 [M 25 6,
  M 26 0,
  {op:=.bin 27 .geq (.s 25) (.s 26)}]) c_Ie_30) (.kp [0,5,6,21,22] c_Ie_33)
def c_Ie_40:VC:=
 .r 11 [{op:=.bin 50 .add (.s 22) (.k (.int .i64 1))},
  M 22 50]
def c_Ie_23:VC:=
 .seq (.blk 1 (.seq (.r 6 [M 24 22,
  M 6 24]) c_Ie_27)) c_Ie_40
def c_Ie_19:VC:=
 .seq (.ite (.s 23) (.skip) (.exit 0)) c_Ie_23
def c_Ie_17:VC:=
 .seq (.r 5 [{op:=.bin 23 .lss (.s 22) (.s 21)}]) c_Ie_19
def c_Ie_15:VC:=
 .blk 0 (.loop [0,5,21,22] c_Ie_17)
def c_Ie_41:VC:=
 .seq (.r 12 [M 51 5,
  M 4 51]) (.ret)
def c_Ie_12:VC:=
 .seq (.seq (.r 4 [M 20 5,
  {op:=.len 21 (.s 20)},
  oN 22 0]) c_Ie_15) (.kp [5] c_Ie_41)
def c_Ie_10:VC:=
 .seq (.r 3 [M 18 1,
  {op:=.call 19 70 [(.s 18)]},
  M 5 19]) c_Ie_12
def c_Ie_2:VC:=
 .seq (.seq (.r 1 [M 7 1,
  {op:=.call 8 55 [(.s 7),(.k (.int .i64 (-2147483648))),(.k (.int .i64 2147483647)),(.k (.int .i64 4000))]},
  {op:=.un 9 .not (.s 8)},
  M 10 9,
  ⟨none,[],some (10,false),.mv 11 (.s 0)⟩,
  ⟨none,[],some (10,false),.bin 12 .lss (.s 11) (.k (.int .i64 0))⟩,
  {op:=.pick 13 (.s 10) (.k (.bool true)) (.s 12)},
  M 14 13,
  ⟨none,[],some (14,false),.mv 15 (.s 0)⟩,
  ⟨none,[],some (14,false),.bin 16 .gtr (.s 15) (.k (.int .i64 4))⟩,
  {op:=.pick 17 (.s 14) (.k (.bool true)) (.s 16)}]) c_Ie_5) c_Ie_10
def c_Ie_0:VC:=
 .seq (.r 0 [{op:=.nil 4 [.sc]}]) c_Ie_2
def vf_Ie:VF:={ pm:=[.ro [.sc],.ro [.ro [.sc]]],rm:=[.v [.own [.sc]]],nslots:=52,res:=[4],rc:=[],code:=.kp [0,1] c_Ie_0 }
def c_Ik_2:VC:=
 .seq (.r 1 [M 3 0,
  {op:=.call 4 55 [(.s 3),(.k (.int .i64 (-67108864))),(.k (.int .i64 67108863)),(.k (.int .i64 4000))]},
  M 2 4]) (.ret)
def c_Ik_0:VC:=
 .seq (.r 0 [oK 2 false]) c_Ik_2
def vf_Ik:VF:={ pm:=[.ro [.ro [.sc]]],rm:=[.v [.sc]],nslots:=5,res:=[2],rc:=[],code:=.kp [0] c_Ik_0 }
def c_Ig_5:VC:=
 .ite (.s 33) (.seq (.r 2 [{op:=.nil 6 [.sc]},
  {op:=.nil 7 [.sc]}]) (.ret)) (.skip)
def c_Ig_30:VC:=
 .ite (.s 44) (.d 8 [(0,M 45 8),
  (1,M 46 10),
  (2,M 47 1),
  (3,M 48 10),
  (4,oX 49 47 48 1),
  (5,oV 50 49 1),
  (6,{op:=.bin 51 .mul (.k (.int .i64 2)) (.s 50)}),
  (7,M 52 2),
  (8,M 53 10),
  (9,oX 54 52 53 1),
  (10,oV 55 54 1),
  (11,{op:=.bin 56 .and (.s 55) (.k (.int .i64 1))}),
  (12,{op:=.bin 57 .add (.s 51) (.s 56)}),
  (13,M 58 2),
  (14,M 59 10),
  (15,oX 60 58 59 1),
  (16,oV 61 60 1),
  (17,{op:=.bin 62 .add (.s 57) (.s 61)}),
  (18,{op:=.bin 63 .shr (.s 62) (.k (.int .u64 1))}),
  (19,oX 64 45 46 1),
  (20,oS 64 63 1)]) (.skip)
def c_Ig_35:VC:=
 .ite (.s 66) (.d 10 [(0,M 67 9),
  (1,M 68 10),
  (2,M 69 8),
  (3,M 70 10),
  (4,oX 71 69 70 1),
  (5,oL 72 71 1),
  (6,M 73 2),
  (7,M 74 10),
  (8,oX 75 73 74 1),
  (9,oV 76 75 1),
  (10,{op:=.bin 77 .sub (.s 72) (.s 76)}),
  (11,oX 78 67 68 1),
  (12,oS 78 77 1)]) (.skip)
def c_Ig_33:VC:=
 .seq (.r 9 [M 65 0,
  {op:=.bin 66 .gtr (.s 65) (.k (.int .i64 0))}]) c_Ig_35
def c_Ig_27:VC:=
 .seq (.seq (.r 7 [M 43 0,
  {op:=.bin 44 .eql (.s 43) (.k (.int .i64 2))}]) c_Ig_30) (.kp [0,1,2,8,9,10,39,40] c_Ig_33)
def c_Ig_38:VC:=
 .r 11 [{op:=.bin 79 .add (.s 40) (.k (.int .i64 1))},
  M 40 79]
def c_Ig_23:VC:=
 .seq (.blk 1 (.seq (.r 6 [M 42 40,
  M 10 42]) c_Ig_27)) c_Ig_38
def c_Ig_19:VC:=
 .seq (.ite (.s 41) (.skip) (.exit 0)) c_Ig_23
def c_Ig_17:VC:=
 .seq (.r 5 [{op:=.bin 41 .lss (.s 40) (.s 39)}]) c_Ig_19
def c_Ig_15:VC:=
 .blk 0 (.loop [0,1,2,8,9,39,40] c_Ig_17)
def c_Ig_42:VC:=
 .ite (.s 87) (.seq (.r 13 [{op:=.nil 6 [.sc]},
  {op:=.nil 7 [.sc]}]) (.ret)) (.skip)
def c_Ig_47:VC:=
 .seq (.r 14 [M 88 8,
  M 89 9,
  M 6 88,
  M 7 89]) (.ret)
def c_Ig_39:VC:=
 .seq (.seq (.r 12 [M 80 8,
  {op:=.call 81 69 [(.s 80)]},
  {op:=.un 82 .not (.s 81)},
  M 83 82,
  ⟨none,[],some (83,false),.mv 84 (.s 9)⟩,
  ⟨none,[],some (83,false),.call 85 69 [(.s 84)]⟩,
  ⟨none,[],some (83,false),.un 86 .not (.s 85)⟩,
  {op:=.pick 87 (.s 83) (.k (.bool true)) (.s 86)}]) (.kp [8,9,87] c_Ig_42)) c_Ig_47
def c_Ig_12:VC:=
 .seq (.seq (.r 4 [M 38 1,
  {op:=.len 39 (.s 38)},
  oN 40 0]) c_Ig_15) (.kp [8,9] c_Ig_39)
def c_Ig_10:VC:=
 .seq (.r 3 [M 34 1,
  {op:=.call 35 70 [(.s 34)]},
  M 36 2,
  {op:=.call 37 70 [(.s 36)]},
  M 8 35,
  M 9 37]) c_Ig_12
def c_Ig_2:VC:=
 .seq (.seq (.r 1 [M 11 1,
  {op:=.call 12 55 [(.s 11),(.k (.int .i64 (-268435456))),(.k (.int .i64 268435455)),(.k (.int .i64 4000))]},
  {op:=.un 13 .not (.s 12)},
  M 14 13,
  ⟨none,[],some (14,false),.mv 15 (.s 2)⟩,
  ⟨none,[],some (14,false),.call 16 55 [(.s 15),(.k (.int .i64 (-268435456))),(.k (.int .i64 268435455)),(.k (.int .i64 4000))]⟩,
  ⟨none,[],some (14,false),.un 17 .not (.s 16)⟩,
  {op:=.pick 18 (.s 14) (.k (.bool true)) (.s 17)},
  M 19 18,
  ⟨none,[],some (19,false),.mv 20 (.s 1)⟩,
  ⟨none,[],some (19,false),.len 21 (.s 20)⟩,
  ⟨none,[],some (19,false),.mv 22 (.s 2)⟩,
  ⟨none,[],some (19,false),.len 23 (.s 22)⟩,
  ⟨none,[],some (19,false),.bin 24 .neq (.s 21) (.s 23)⟩,
  {op:=.pick 25 (.s 19) (.k (.bool true)) (.s 24)},
  M 26 25,
  ⟨none,[],some (26,false),.mv 27 (.s 0)⟩,
  ⟨none,[],some (26,false),.bin 28 .lss (.s 27) (.k (.int .i64 0))⟩,
  {op:=.pick 29 (.s 26) (.k (.bool true)) (.s 28)},
  M 30 29,
  ⟨none,[],some (30,false),.mv 31 (.s 0)⟩,
  ⟨none,[],some (30,false),.bin 32 .gtr (.s 31) (.k (.int .i64 2))⟩,
  {op:=.pick 33 (.s 30) (.k (.bool true)) (.s 32)}]) (.kp [0,1,2,33] c_Ig_5)) c_Ig_10
def c_Ig_0:VC:=
 .seq (.r 0 [{op:=.nil 6 [.sc]},
  {op:=.nil 7 [.sc]}]) c_Ig_2
def vf_Ig:VF:={ pm:=[.ro [.sc],.ro [.ro [.sc]],.ro [.ro [.sc]]],rm:=[.v [.own [.sc]],.v [.own [.sc]]],nslots:=90,res:=[6,7],rc:=[],code:=.kp [0,1,2] c_Ig_0 }
def c_Ib_20:VC:=
 .ite (.s 43) (.seq (.r 7 [M 47 3,
  {op:=.callc 48 (.s 47) [(.k (.int .i64 2))]},
  oS 2 48 5]) (.ret)) (.skip)
def c_Ib_14:VC:=
 .ite (.s 35) (.seq (.r 5 [M 39 3,
  M 40 0,
  {op:=.call 41 46 [(.s 40),(.k (.string (ByteArray.mk #[83,78,68,49])))]},
  {op:=.callc 42 (.s 39) [(.s 41)]},
  oS 2 42 5]) (.ret)) (.seq (.r 6 [M 44 0,
  {op:=.len 45 (.s 44)},
  {op:=.bin 46 .lss (.s 45) (.k (.int .i64 10))},
  M 43 46]) c_Ib_20)
def c_Ib_8:VC:=
 .ite (.s 29) (.seq (.r 3 [M 33 3,
  {op:=.callc 34 (.s 33) [(.k (.int .i64 1))]},
  oS 2 34 5]) (.ret)) (.seq (.r 4 [M 36 0,
  {op:=.call 37 46 [(.s 36),(.k (.string (ByteArray.mk #[83,78,68,49])))]},
  {op:=.bin 38 .neq (.s 37) (.k (.int .i64 0))},
  M 35 38]) c_Ib_14)
def c_Ib_36:VC:=
 .ite (.s 78) (.seq (.r 13 [M 79 3,
  {op:=.callc 80 (.s 79) [(.k (.int .i64 5))]},
  oS 2 80 5]) (.ret)) (.skip)
def c_Ib_49:VC:=
 .ite (.s 83) (.skip) (.exit 1)
def c_Ib_63:VC:=
 .ite (.s 105) (.seq (.r 21 [M 106 3,
  {op:=.callc 107 (.s 106) [(.k (.int .i64 2))]},
  oS 2 107 5]) (.ret)) (.skip)
def c_Ib_71:VC:=
 .ite (.s 117) (.seq (.r 23 [M 118 3,
  {op:=.callc 119 (.s 118) [(.k (.int .i64 5))]},
  oS 2 119 5]) (.ret)) (.skip)
def c_Ib_98:VC:=
 .ite (.s 129) (.seq (.r 30 [M 130 3,
  {op:=.callc 131 (.s 130) [(.k (.int .i64 2))]},
  oS 2 131 5]) (.ret)) (.skip)
def c_Ib_106:VC:=
 .ite (.s 138) (.seq (.r 32 [M 139 3,
  {op:=.callc 140 (.s 139) [(.k (.int .i64 5))]},
  oS 2 140 5]) (.ret)) (.skip)
def c_Ib_127:VC:=
 .r 37 [{op:=.bin 150 .add (.s 142) (.k (.int .i64 1))},
  M 142 150]
def c_Ib_124:VC:=
 .seq (.blk 6 (.r 36 [M 144 15,
  M 145 4,
  {op:=.call 146 47 [(.s 145),(.k (.int .i64 26))]},
  {op:=.call 147 48 [(.s 146),(.k (.int .i64 26))]},
  {op:=.lits 148 [.sc] [(.s 147)]},
  {op:=.app 149 (.s 144) (.s 148) [.sc] 17592186044416},
  M 15 149])) c_Ib_127
def c_Ib_120:VC:=
 .seq (.ite (.s 143) (.skip) (.exit 5)) c_Ib_124
def c_Ib_118:VC:=
 .seq (.r 35 [{op:=.bin 143 .lss (.s 142) (.s 141)}]) c_Ib_120
def c_Ib_116:VC:=
 .blk 5 (.loop [0,2,3,4,5,6,7,8,9,10,11,12,13,14,15,120,121,141,142] c_Ib_118)
def c_Ib_133:VC:=
 .ite (.s 157) (.seq (.r 40 [M 158 3,
  {op:=.callc 159 (.s 158) [(.k (.int .i64 2))]},
  oS 2 159 5]) (.ret)) (.skip)
def c_Ib_141:VC:=
 .ite (.s 164) (.seq (.r 42 [M 165 3,
  {op:=.callc 166 (.s 165) [(.k (.int .i64 5))]},
  oS 2 166 5]) (.ret)) (.skip)
def c_Ib_166:VC:=
 .ite (.s 178) (.seq (.r 48 [M 179 3,
  {op:=.callc 180 (.s 179) [(.k (.int .i64 2))]},
  oS 2 180 5]) (.ret)) (.skip)
def c_Ib_174:VC:=
 .ite (.s 182) (.seq (.r 50 [M 183 3,
  {op:=.callc 184 (.s 183) [(.k (.int .i64 5))]},
  oS 2 184 5]) (.ret)) (.skip)
def c_Ib_184:VC:=
 .ite (.s 189) (.r 53 [M 190 19,
  M 191 14,
  {op:=.bin 192 .sub (.s 190) (.s 191)},
  M 19 192]) (.skip)
def c_Ib_212:VC:=
 .ite (.s 213) (.skip) (.exit 11)
def c_Ib_215:VC:=
 .blk 12 (.r 60 [M 214 20,
  {op:=.bin 215 .add (.s 214) (.k (.int .u64 1))},
  M 20 215])
def c_Ib_209:VC:=
 .seq (.seq (.r 59 [M 204 4,
  {op:=.call 205 50 [(.s 204)]},
  {op:=.bin 206 .eql (.s 205) (.k (.int .i64 0))},
  M 207 206,
  ⟨none,[],some (207,true),.mv 208 (.s 4)⟩,
  ⟨none,[],some (207,true),.nck 209 (.s 208)⟩,
  ⟨none,[],some (207,true),.fadr 210 (.s 209) 2⟩,
  ⟨none,[],some (207,true),.ld 211 (.s 210) 1 false⟩,
  ⟨none,[],some (207,true),.un 212 .not (.s 211)⟩,
  {op:=.pick 213 (.s 207) (.s 212) (.k (.bool false))}]) c_Ib_212) c_Ib_215
def c_Ib_217:VC:=
 .d 61 [(0,M 216 15),
  (1,M 217 20),
  (2,M 218 18),
  (3,{op:=.bin 219 .shl (.s 217) (.s 218)}),
  (4,M 220 4),
  (5,M 221 18),
  (6,{op:=.call 222 47 [(.s 220),(.s 221)]}),
  (7,{op:=.bin 223 .or (.s 219) (.s 222)}),
  (8,{op:=.call 224 51 [(.s 223)]}),
  (9,{op:=.lits 225 [.sc] [(.s 224)]}),
  (10,{op:=.app 226 (.s 216) (.s 225) [.sc] 17592186044416}),
  (11,M 15 226)]
def c_Ib_206:VC:=
 .seq (.blk 11 (.loop [0,2,3,4,5,6,7,8,9,10,11,12,13,14,15,16,18,20,120,121,168,169,193,194] c_Ib_209)) (.kp [0,2,3,4,5,6,7,8,9,10,11,12,13,14,15,16,18,20,120,121,168,169,193,194] c_Ib_217)
def c_Ib_202:VC:=
 .ite (.s 197) (.r 57 [M 198 15,
  M 199 4,
  {op:=.call 200 47 [(.s 199),(.k (.int .i64 32))]},
  {op:=.call 201 48 [(.s 200),(.k (.int .i64 32))]},
  {op:=.lits 202 [.sc] [(.s 201)]},
  {op:=.app 203 (.s 198) (.s 202) [.sc] 17592186044416},
  M 15 203]) (.seq (.r 58 [{op:=.mv 20 (.k (.int .u64 0))}]) c_Ib_206)
def c_Ib_220:VC:=
 .ite (.s 230) (.seq (.r 63 [M 231 3,
  {op:=.callc 232 (.s 231) [(.k (.int .i64 2))]},
  oS 2 232 5]) (.ret)) (.skip)
def c_Ib_218:VC:=
 .seq (.r 62 [M 227 4,
  {op:=.nck 228 (.s 227)},
  oF 229 228 2,
  oL 230 229 1]) c_Ib_220
def c_Ib_225:VC:=
 .r 64 [{op:=.bin 233 .add (.s 194) (.k (.int .i64 1))},
  M 194 233]
def c_Ib_197:VC:=
 .seq (.blk 10 (.seq (.seq (.r 56 [M 196 18,
  {op:=.bin 197 .eql (.s 196) (.k (.int .i64 25))}]) c_Ib_202) c_Ib_218)) c_Ib_225
def c_Ib_193:VC:=
 .seq (.ite (.s 195) (.skip) (.exit 9)) c_Ib_197
def c_Ib_191:VC:=
 .seq (.r 55 [{op:=.bin 195 .lss (.s 194) (.s 193)}]) c_Ib_193
def c_Ib_189:VC:=
 .blk 9 (.loop [0,2,3,4,5,6,7,8,9,10,11,12,13,14,15,16,18,120,121,168,169,193,194] c_Ib_191)
def c_Ib_187:VC:=
 .seq (.r 54 [M 193 19,
  oN 194 0]) c_Ib_189
def c_Ib_181:VC:=
 .seq (.seq (.r 52 [M 188 17,
  {op:=.bin 189 .eql (.s 188) (.k (.int .i64 0))}]) c_Ib_184) (.kp [0,2,3,4,5,6,7,8,9,10,11,12,13,14,15,16,18,19,120,121,168,169] c_Ib_187)
def c_Ib_179:VC:=
 .seq (.r 51 [M 185 9,
  M 186 16,
  {op:=.bin 187 .shr (.s 185) (.s 186)},
  M 19 187]) c_Ib_181
def c_Ib_171:VC:=
 .seq (.seq (.r 49 [M 181 18,
  {op:=.bin 182 .gtr (.s 181) (.k (.int .i64 25))}]) c_Ib_174) c_Ib_179
def c_Ib_163:VC:=
 .seq (.seq (.r 47 [M 175 4,
  {op:=.nck 176 (.s 175)},
  oF 177 176 2,
  oL 178 177 1]) c_Ib_166) c_Ib_171
def c_Ib_161:VC:=
 .seq (.r 46 [M 172 4,
  {op:=.call 173 47 [(.s 172),(.k (.int .i64 5))]},
  {op:=.conv 174 .i64 (.s 173)},
  M 18 174]) c_Ib_163
def c_Ib_226:VC:=
 .r 65 [{op:=.bin 234 .add (.s 169) (.k (.int .i64 1))},
  M 169 234]
def c_Ib_157:VC:=
 .seq (.blk 8 (.seq (.r 45 [M 171 169,
  M 17 171]) c_Ib_161)) (.kp [0,2,3,4,5,6,7,8,9,10,11,12,13,14,15,16,120,121,168,169] c_Ib_226)
def c_Ib_153:VC:=
 .seq (.ite (.s 170) (.skip) (.exit 7)) c_Ib_157
def c_Ib_151:VC:=
 .seq (.r 44 [{op:=.bin 170 .lss (.s 169) (.s 168)}]) c_Ib_153
def c_Ib_149:VC:=
 .blk 7 (.loop [0,2,3,4,5,6,7,8,9,10,11,12,13,14,15,16,120,121,168,169] c_Ib_151)
def c_Ib_229:VC:=
 .r 67 [M 239 13,
  M 240 14,
  {op:=.lits 241 [.sc] [(.s 240)]},
  {op:=.app 242 (.s 239) (.s 241) [.sc] 17592186044416},
  M 13 242]
def c_Ib_227:VC:=
 .seq (.r 66 [M 235 12,
  M 236 15,
  {op:=.lits 237 [.own [.sc]] [(.s 236)]},
  {op:=.app 238 (.s 235) (.s 237) [.own [.sc]] 5864062014805},
  M 12 238]) c_Ib_229
def c_Ib_146:VC:=
 .seq (.seq (.r 43 [M 167 16,
  {op:=.bin 168 .shl (.k (.int .i64 1)) (.s 167)},
  oN 169 0]) c_Ib_149) (.kp [0,2,3,4,5,6,7,8,9,10,11,12,13,14,15,120,121] c_Ib_227)
def c_Ib_138:VC:=
 .seq (.seq (.r 41 [M 160 14,
  M 161 16,
  M 162 9,
  {op:=.call 163 49 [(.s 160),(.s 161),(.s 162)]},
  {op:=.un 164 .not (.s 163)}]) c_Ib_141) c_Ib_146
def c_Ib_130:VC:=
 .seq (.seq (.r 39 [M 154 4,
  {op:=.nck 155 (.s 154)},
  oF 156 155 2,
  oL 157 156 1]) c_Ib_133) c_Ib_138
def c_Ib_128:VC:=
 .seq (.r 38 [M 151 4,
  {op:=.call 152 47 [(.s 151),(.k (.int .i64 3))]},
  {op:=.conv 153 .i64 (.s 152)},
  M 16 153]) c_Ib_130
def c_Ib_113:VC:=
 .seq (.seq (.r 34 [M 141 14,
  oN 142 0]) c_Ib_116) (.kp [0,2,3,4,5,6,7,8,9,10,11,12,13,14,15,120,121] c_Ib_128)
def c_Ib_111:VC:=
 .seq (.r 33 [{op:=.nil 15 [.sc]}]) c_Ib_113
def c_Ib_103:VC:=
 .seq (.seq (.r 31 [M 132 14,
  {op:=.bin 133 .gtr (.s 132) (.k (.int .i64 4))},
  M 134 133,
  ⟨none,[],some (134,false),.mv 135 (.s 14)⟩,
  ⟨none,[],some (134,false),.mv 136 (.s 9)⟩,
  ⟨none,[],some (134,false),.bin 137 .gtr (.s 135) (.s 136)⟩,
  {op:=.pick 138 (.s 134) (.k (.bool true)) (.s 137)}]) (.kp [0,2,3,4,5,6,7,8,9,10,11,12,13,14,120,121,138] c_Ib_106)) c_Ib_111
def c_Ib_95:VC:=
 .seq (.seq (.r 29 [M 126 4,
  {op:=.nck 127 (.s 126)},
  oF 128 127 2,
  oL 129 128 1]) c_Ib_98) c_Ib_103
def c_Ib_230:VC:=
 .r 68 [{op:=.bin 243 .add (.s 121) (.k (.int .i64 1))},
  M 121 243]
def c_Ib_91:VC:=
 .seq (.blk 4 (.seq (.r 28 [M 123 4,
  {op:=.call 124 47 [(.s 123),(.k (.int .i64 3))]},
  {op:=.conv 125 .i64 (.s 124)},
  M 14 125]) c_Ib_95)) c_Ib_230
def c_Ib_87:VC:=
 .seq (.ite (.s 122) (.skip) (.exit 3)) c_Ib_91
def c_Ib_85:VC:=
 .seq (.r 27 [{op:=.bin 122 .lss (.s 121) (.s 120)}]) c_Ib_87
def c_Ib_83:VC:=
 .blk 3 (.loop [0,2,3,4,5,6,7,8,9,10,11,12,13,120,121] c_Ib_85)
def c_Ib_234:VC:=
 .ite (.s 246) (.seq (.r 70 [M 247 3,
  {op:=.callc 248 (.s 247) [(.k (.int .i64 4))]},
  oS 2 248 5]) (.ret)) (.skip)
def c_Ib_246:VC:=
 .ite (.s 263) (.seq (.r 74 [M 264 3,
  {op:=.callc 265 (.s 264) [(.k (.int .i64 2))]},
  oS 2 265 5]) (.ret)) (.skip)
def c_Ib_254:VC:=
 .ite (.s 270) (.seq (.r 76 [M 271 3,
  {op:=.callc 272 (.s 271) [(.k (.int .i64 3))]},
  oS 2 272 5]) (.ret)) (.skip)
def c_Ib_279:VC:=
 .ite (.s 290) (.seq (.r 82 [M 291 3,
  {op:=.callc 292 (.s 291) [(.k (.int .i64 5))]},
  oS 2 292 5]) (.ret)) (.skip)
def c_Ib_284:VC:=
 .r 83 [M 293 12,
  M 294 23,
  M 295 24,
  oX 296 293 294 1,
  oS 296 295 1]
def c_Ib_276:VC:=
 .seq (.seq (.r 81 [M 287 24,
  {op:=.len 288 (.s 287)},
  M 289 9,
  {op:=.bin 290 .neq (.s 288) (.s 289)}]) c_Ib_279) c_Ib_284
def c_Ib_274:VC:=
 .seq (.d 80 [(0,M 278 13),
  (1,M 279 23),
  (2,oX 280 278 279 1),
  (3,oL 281 280 1),
  (4,M 282 12),
  (5,M 283 23),
  (6,oX 284 282 283 1),
  (7,oL 285 284 1),
  (8,{op:=.call 286 53 [(.s 281),(.s 285)]}),
  (9,M 24 286)]) c_Ib_276
def c_Ib_285:VC:=
 .r 84 [{op:=.bin 297 .add (.s 275) (.k (.int .i64 1))},
  M 275 297]
def c_Ib_270:VC:=
 .seq (.blk 14 (.seq (.r 79 [M 277 275,
  M 23 277]) c_Ib_274)) c_Ib_285
def c_Ib_266:VC:=
 .seq (.ite (.s 276) (.skip) (.exit 13)) c_Ib_270
def c_Ib_264:VC:=
 .seq (.r 78 [{op:=.bin 276 .lss (.s 275) (.s 274)}]) c_Ib_266
def c_Ib_262:VC:=
 .blk 13 (.loop [0,2,3,4,5,6,7,8,9,11,12,13,274,275] c_Ib_264)
def c_Ib_295:VC:=
 .ite (.s 314) (.seq (.r 88 [M 315 3,
  {op:=.callc 316 (.s 315) [(.k (.int .i64 5))]},
  oS 2 316 5]) (.ret)) (.skip)
def c_Ib_300:VC:=
 .r 89 [M 317 12,
  M 318 12,
  M 319 25,
  M 320 26,
  {op:=.iadr 321 (.s 317) (.k (.int .i64 0)) 1},
  oS 321 319 1,
  {op:=.iadr 322 (.s 318) (.k (.int .i64 1)) 1},
  oS 322 320 1]
def c_Ib_292:VC:=
 .seq (.seq (.r 87 [M 311 25,
  {op:=.len 312 (.s 311)},
  M 313 9,
  {op:=.bin 314 .neq (.s 312) (.s 313)}]) c_Ib_295) c_Ib_300
def c_Ib_289:VC:=
 .ite (.s 299) (.seq (.d 86 [(0,M 301 11),
  (1,M 302 12),
  (2,{op:=.iadr 303 (.s 302) (.k (.int .i64 0)) 1}),
  (3,oL 304 303 1),
  (4,M 305 12),
  (5,{op:=.iadr 306 (.s 305) (.k (.int .i64 1)) 1}),
  (6,oL 307 306 1),
  (7,{op:=.call 308 54 [(.s 301),(.s 304),(.s 307)]}),
  (8,M 300 308),
  (9,{op:=.ext 309 (.s 300) 0}),
  (10,{op:=.ext 310 (.s 300) 1}),
  (11,M 25 309),
  (12,M 26 310)]) c_Ib_292) (.skip)
def c_Ib_319:VC:=
 .ite (.s 341) (.seq (.r 94 [M 342 3,
  {op:=.callc 343 (.s 342) [(.k (.int .i64 5))]},
  oS 2 343 5]) (.ret)) (.skip)
def c_Ib_324:VC:=
 .d 95 [(0,oG 344 5 3),
  (1,oV 345 344 1),
  (2,M 346 27),
  (3,oG 347 5 3),
  (4,oV 348 347 1),
  (5,M 349 27),
  (6,oX 350 348 349 1),
  (7,oL 351 350 1),
  (8,M 352 28),
  (9,⟨none,[.tk 351 0],none,.app 353 (.s 351) (.s 352) [.sc] 17592186044416⟩),
  (10,oX 354 345 346 1),
  (11,oS 354 353 1)]
def c_Ib_316:VC:=
 .seq (.seq (.d 93 [(0,M 330 28),
  (1,oG 331 5 1),
  (2,oV 332 331 1),
  (3,{op:=.bin 333 .sub (.s 332) (.k (.int .i64 1))}),
  (4,{op:=.bin 334 .shl (.k (.int .i64 (-1))) (.s 333)}),
  (5,oG 335 5 1),
  (6,oV 336 335 1),
  (7,{op:=.bin 337 .sub (.s 336) (.k (.int .i64 1))}),
  (8,{op:=.bin 338 .shl (.k (.int .i64 1)) (.s 337)}),
  (9,{op:=.bin 339 .sub (.s 338) (.k (.int .i64 1))}),
  (10,{op:=.call 340 55 [(.s 330),(.s 334),(.s 339),(.k (.int .i64 4000))]}),
  (11,{op:=.un 341 .not (.s 340)})]) c_Ib_319) c_Ib_324
def c_Ib_325:VC:=
 .r 96 [{op:=.bin 355 .add (.s 325) (.k (.int .i64 1))},
  M 325 355]
def c_Ib_312:VC:=
 .seq (.blk 16 (.seq (.r 92 [M 327 325,
  oX 328 323 325 1,
  oL 329 328 1,
  M 27 327,
  M 28 329]) c_Ib_316)) c_Ib_325
def c_Ib_308:VC:=
 .seq (.ite (.s 326) (.skip) (.exit 15)) c_Ib_312
def c_Ib_306:VC:=
 .seq (.r 91 [{op:=.bin 326 .lss (.s 325) (.s 324)}]) c_Ib_308
def c_Ib_304:VC:=
 .blk 15 (.loop [0,2,3,4,5,6,7,8,323,324,325] c_Ib_306)
def c_Ib_302:VC:=
 .seq (.r 90 [M 323 12,
  {op:=.len 324 (.s 323)},
  oN 325 0]) c_Ib_304
def c_Ib_286:VC:=
 .seq (.seq (.r 85 [M 298 6,
  {op:=.bin 299 .eql (.s 298) (.k (.int .i64 2))}]) c_Ib_289) (.kp [0,2,3,4,5,6,7,8,12] c_Ib_302)
def c_Ib_259:VC:=
 .seq (.seq (.r 77 [M 273 12,
  {op:=.len 274 (.s 273)},
  oN 275 0]) c_Ib_262) (.kp [0,2,3,4,5,6,7,8,9,11,12] c_Ib_286)
def c_Ib_251:VC:=
 .seq (.seq (.r 75 [M 266 22,
  {op:=.conv 267 .u32 (.s 266)},
  M 268 21,
  {op:=.bin 269 .and (.s 268) (.k (.int .u32 65535))},
  {op:=.bin 270 .neq (.s 267) (.s 269)}]) c_Ib_254) c_Ib_259
def c_Ib_243:VC:=
 .seq (.seq (.r 73 [M 260 4,
  {op:=.nck 261 (.s 260)},
  oF 262 261 2,
  oL 263 262 1]) c_Ib_246) c_Ib_251
def c_Ib_241:VC:=
 .seq (.r 72 [M 258 4,
  {op:=.call 259 47 [(.s 258),(.k (.int .i64 16))]},
  M 22 259]) c_Ib_243
def c_Ib_239:VC:=
 .seq (.r 71 [M 249 0,
  M 250 10,
  M 251 4,
  {op:=.nck 252 (.s 251)},
  oF 253 252 1,
  oL 254 253 1,
  {op:=.bin 255 .quo (.s 254) (.k (.int .i64 8))},
  {op:=.slc 256 (.s 249) (some (.s 250)) (some (.s 255)) 1},
  {op:=.call 257 37 [(.s 256)]},
  M 21 257]) c_Ib_241
def c_Ib_231:VC:=
 .seq (.seq (.r 69 [M 244 4,
  {op:=.call 245 52 [(.s 244)]},
  {op:=.un 246 .not (.s 245)}]) c_Ib_234) c_Ib_239
def c_Ib_80:VC:=
 .seq (.seq (.r 26 [M 120 6,
  oN 121 0]) c_Ib_83) (.kp [0,2,3,4,5,6,7,8,9,10,11,12,13] c_Ib_231)
def c_Ib_78:VC:=
 .seq (.r 25 [{op:=.nil 13 [.sc]}]) c_Ib_80
def c_Ib_76:VC:=
 .seq (.r 24 [{op:=.nil 12 [.own [.sc]]}]) c_Ib_78
def c_Ib_68:VC:=
 .seq (.seq (.r 22 [M 108 11,
  {op:=.bin 109 .eql (.s 108) (.k (.int .i64 3))},
  M 110 109,
  ⟨none,[],some (110,false),.mv 111 (.s 11)⟩,
  ⟨none,[],some (110,false),.bin 112 .neq (.s 111) (.k (.int .i64 0))⟩,
  ⟨none,[],some (110,false),.mv 113 (.s 112)⟩,
  ⟨none,[],some (113,true),.mv 114 (.s 6)⟩,
  ⟨none,[],some (113,true),.bin 115 .eql (.s 114) (.k (.int .i64 1))⟩,
  ⟨none,[],some (110,false),.pick 116 (.s 113) (.s 115) (.k (.bool false))⟩,
  {op:=.pick 117 (.s 110) (.k (.bool true)) (.s 116)}]) (.kp [0,2,3,4,5,6,7,8,9,10,11,117] c_Ib_71)) c_Ib_76
def c_Ib_60:VC:=
 .seq (.seq (.r 20 [M 102 4,
  {op:=.nck 103 (.s 102)},
  oF 104 103 2,
  oL 105 104 1]) c_Ib_63) c_Ib_68
def c_Ib_58:VC:=
 .seq (.r 19 [M 99 4,
  {op:=.call 100 47 [(.s 99),(.k (.int .i64 2))]},
  {op:=.conv 101 .i64 (.s 100)},
  M 11 101]) c_Ib_60
def c_Ib_56:VC:=
 .seq (.r 18 [M 94 4,
  {op:=.nck 95 (.s 94)},
  oF 96 95 1,
  oL 97 96 1,
  {op:=.bin 98 .quo (.s 97) (.k (.int .i64 8))},
  M 10 98]) c_Ib_58
def c_Ib_326:VC:=
 .r 16 [M 84 8,
  oF 85 5 2,
  oL 86 85 1,
  {op:=.bin 87 .add (.s 84) (.s 86)},
  M 8 87]
def c_Ib_52:VC:=
 .seq (.blk 2 (.seq (.r 17 [oF 88 5 2,
  oL 89 88 1,
  M 90 7,
  M 91 8,
  {op:=.bin 92 .sub (.s 90) (.s 91)},
  {op:=.mn 93 (.s 89) (.s 92)},
  M 9 93]) c_Ib_56)) (.kp [0,2,3,4,5,6,7,8] c_Ib_326)
def c_Ib_46:VC:=
 .seq (.seq (.r 15 [M 81 8,
  M 82 7,
  {op:=.bin 83 .lss (.s 81) (.s 82)}]) c_Ib_49) c_Ib_52
def c_Ib_44:VC:=
 .blk 1 (.loop [0,2,3,4,5,6,7,8] c_Ib_46)
def c_Ib_330:VC:=
 .ite (.s 363) (.seq (.r 98 [M 364 3,
  {op:=.callc 365 (.s 364) [(.k (.int .i64 8))]},
  oS 2 365 5]) (.ret)) (.skip)
def c_Ib_335:VC:=
 .seq (.r 99 [{op:=.ld 366 (.s 5) 4 true},
  {op:=.bld 367 [.k (.int .i64 0),.k (.int .i64 0),.k (.int .i64 0),.k (.int .i64 0),.k (.slice none 0 0)] [(1,4,(.s 366))]},
  oS 2 367 5]) (.ret)
def c_Ib_327:VC:=
 .seq (.seq (.r 97 [M 356 4,
  {op:=.nck 357 (.s 356)},
  oF 358 357 1,
  oL 359 358 1,
  {op:=.bin 360 .quo (.s 359) (.k (.int .i64 8))},
  M 361 0,
  {op:=.len 362 (.s 361)},
  {op:=.bin 363 .lss (.s 360) (.s 362)}]) c_Ib_330) c_Ib_335
def c_Ib_41:VC:=
 .seq (.seq (.r 14 [oN 8 0]) c_Ib_44) (.kp [0,2,3,4,5] c_Ib_327)
def c_Ib_33:VC:=
 .seq (.seq (.r 12 [{op:=.ld 72 (.s 5) 4 true},
  {op:=.call 73 29 [(.s 72)]},
  {op:=.un 74 .not (.s 73)},
  M 75 74,
  ⟨none,[],some (75,false),.mv 76 (.s 7)⟩,
  ⟨none,[],some (75,false),.bin 77 .gtr (.s 76) (.k (.int .i64 4000))⟩,
  {op:=.pick 78 (.s 75) (.k (.bool true)) (.s 77)}]) (.kp [0,2,3,4,5,6,7,78] c_Ib_36)) c_Ib_41
def c_Ib_31:VC:=
 .seq (.r 11 [M 69 6,
  {op:=.mk 70 (.s 69) [.own [.sc]] [(.slice none 0 0)] 5864062014805},
  oF 71 5 3,
  oS 71 70 1]) c_Ib_33
def c_Ib_29:VC:=
 .seq (.r 10 [M 62 4,
  {op:=.call 63 47 [(.s 62),(.k (.int .i64 1))]},
  {op:=.conv 64 .i64 (.s 63)},
  {op:=.bin 65 .add (.s 64) (.k (.int .i64 1))},
  M 66 4,
  {op:=.call 67 47 [(.s 66),(.k (.int .i64 12))]},
  {op:=.conv 68 .i64 (.s 67)},
  M 6 65,
  M 7 68]) c_Ib_31
def c_Ib_27:VC:=
 .seq (.r 9 [M 52 4,
  {op:=.call 53 47 [(.s 52),(.k (.int .i64 20))]},
  {op:=.conv 54 .i64 (.s 53)},
  M 55 4,
  {op:=.call 56 47 [(.s 55),(.k (.int .i64 5))]},
  {op:=.conv 57 .i64 (.s 56)},
  M 58 4,
  {op:=.call 59 47 [(.s 58),(.k (.int .i64 10))]},
  {op:=.conv 60 .i64 (.s 59)},
  {op:=.bld 61 [.k (.int .i64 0),.k (.int .i64 0),.k (.int .i64 0),.o [.own [.sc]]] [(0,1,(.s 54)),(1,1,(.s 57)),(2,1,(.s 60))]},
  {op:=.alloc 5 [.k (.int .i64 0),.k (.int .i64 0),.k (.int .i64 0),.o [.own [.sc]]]},
  oS 5 61 4]) c_Ib_29
def c_Ib_25:VC:=
 .seq (.r 8 [M 49 0,
  {op:=.bld 50 [.k (.slice none 0 0),.k (.int .i64 0),.k (.bool false)] [(0,1,(.s 49)),(1,1,(.k (.int .i64 32)))]},
  {op:=.box 51 (.s 50)},
  M 4 51]) c_Ib_27
def c_Ib_4:VC:=
 .seq (.blk 0 (.seq (.r 2 [M 30 0,
  {op:=.len 31 (.s 30)},
  {op:=.bin 32 .gtr (.s 31) (.k (.int .i64 60000))},
  M 29 32]) c_Ib_8)) c_Ib_25
def c_Ib_2:VC:=
 .seq (.r 1 [{op:=.mv 3 (.f 45)}]) c_Ib_4
def c_Ib_0:VC:=
 .seq (.r 0 [{op:=.alloc 2 [.k (.int .i64 0),.k (.int .i64 0),.k (.int .i64 0),.k (.int .i64 0),.o [.own [.sc]]]}]) c_Ib_2
def vf_Ib:VF:={ pm:=[.ro [.ro [.sc]]],rm:=[.v [.sc,.sc,.sc,.sc,.own [.own [.sc]]]],nslots:=368,res:=[2],rc:=[some (5,true)],code:=.kp [0] c_Ib_0 }
def c_Lb_5:VC:=
 .ite (.s 10) (.seq (.r 2 [oK 4 false]) (.ret)) (.skip)
def c_Lb_18:VC:=
 .ite (.s 14) (.skip) (.exit 0)
def c_Lb_25:VC:=
 .ite (.s 25) (.seq (.r 7 [oK 4 false]) (.ret)) (.skip)
def c_Lb_30:VC:=
 .r 5 [M 15 5,
  {op:=.bin 16 .add (.s 15) (.k (.int .i64 1))},
  M 5 16]
def c_Lb_21:VC:=
 .seq (.blk 1 (.seq (.d 6 [(0,M 17 0),
  (1,M 18 5),
  (2,oX 19 17 18 1),
  (3,oV 20 19 1),
  (4,M 21 1),
  (5,M 22 5),
  (6,oX 23 21 22 1),
  (7,oV 24 23 1),
  (8,{op:=.bin 25 .neq (.s 20) (.s 24)})]) c_Lb_25)) c_Lb_30
def c_Lb_15:VC:=
 .seq (.seq (.r 4 [M 11 5,
  M 12 0,
  {op:=.len 13 (.s 12)},
  {op:=.bin 14 .lss (.s 11) (.s 13)}]) c_Lb_18) c_Lb_21
def c_Lb_13:VC:=
 .blk 0 (.loop [0,1,5] c_Lb_15)
def c_Lb_31:VC:=
 .seq (.r 8 [oK 4 true]) (.ret)
def c_Lb_10:VC:=
 .seq (.seq (.r 3 [oN 5 0]) c_Lb_13) (.kp [] c_Lb_31)
def c_Lb_2:VC:=
 .seq (.seq (.r 1 [M 6 0,
  {op:=.len 7 (.s 6)},
  M 8 1,
  {op:=.len 9 (.s 8)},
  {op:=.bin 10 .neq (.s 7) (.s 9)}]) c_Lb_5) c_Lb_10
def c_Lb_0:VC:=
 .seq (.r 0 [oK 4 false]) c_Lb_2
def vf_Lb:VF:={ pm:=[.ro [.ro [.sc]],.ro [.ro [.sc]]],rm:=[.v [.sc]],nslots:=26,res:=[4],rc:=[],code:=.kp [0,1] c_Lb_0 }
def c_Lc_5:VC:=
 .ite (.s 10) (.seq (.r 2 [oK 4 false]) (.ret)) (.skip)
def c_Lc_18:VC:=
 .ite (.s 14) (.skip) (.exit 0)
def c_Lc_25:VC:=
 .ite (.s 26) (.seq (.r 7 [oK 4 false]) (.ret)) (.skip)
def c_Lc_30:VC:=
 .r 5 [M 15 5,
  {op:=.bin 16 .add (.s 15) (.k (.int .i64 1))},
  M 5 16]
def c_Lc_21:VC:=
 .seq (.blk 1 (.seq (.d 6 [(0,M 17 0),
  (1,M 18 5),
  (2,oX 19 17 18 1),
  (3,oV 20 19 1),
  (4,M 21 1),
  (5,M 22 5),
  (6,oX 23 21 22 1),
  (7,oV 24 23 1),
  (8,{op:=.call 25 74 [(.s 20),(.s 24)]}),
  (9,{op:=.un 26 .not (.s 25)})]) c_Lc_25)) c_Lc_30
def c_Lc_15:VC:=
 .seq (.seq (.r 4 [M 11 5,
  M 12 0,
  {op:=.len 13 (.s 12)},
  {op:=.bin 14 .lss (.s 11) (.s 13)}]) c_Lc_18) c_Lc_21
def c_Lc_13:VC:=
 .blk 0 (.loop [0,1,5] c_Lc_15)
def c_Lc_31:VC:=
 .seq (.r 8 [oK 4 true]) (.ret)
def c_Lc_10:VC:=
 .seq (.seq (.r 3 [oN 5 0]) c_Lc_13) (.kp [] c_Lc_31)
def c_Lc_2:VC:=
 .seq (.seq (.r 1 [M 6 0,
  {op:=.len 7 (.s 6)},
  M 8 1,
  {op:=.len 9 (.s 8)},
  {op:=.bin 10 .neq (.s 7) (.s 9)}]) c_Lc_5) c_Lc_10
def c_Lc_0:VC:=
 .seq (.r 0 [oK 4 false]) c_Lc_2
def vf_Lc:VF:={ pm:=[.ro [.ro [.ro [.sc]]],.ro [.ro [.ro [.sc]]]],rm:=[.v [.sc]],nslots:=27,res:=[4],rc:=[],code:=.kp [0,1] c_Lc_0 }
def c_Ld_5:VC:=
 .ite (.s 9) (.seq (.r 2 [oK 4 false]) (.ret)) (.skip)
def c_Ld_13:VC:=
 .ite (.s 14) (.seq (.r 4 [oK 4 false]) (.ret)) (.skip)
def c_Ld_21:VC:=
 .ite (.s 19) (.seq (.r 6 [oK 4 false]) (.ret)) (.skip)
def c_Ld_29:VC:=
 .ite (.s 25) (.seq (.r 8 [oK 4 false]) (.ret)) (.skip)
def c_Ld_34:VC:=
 .seq (.r 9 [oK 4 true]) (.ret)
def c_Ld_26:VC:=
 .seq (.seq (.r 7 [oF 20 2 3,
  oL 21 20 1,
  oF 22 3 3,
  oL 23 22 1,
  {op:=.call 24 38 [(.s 21),(.s 23)]},
  {op:=.un 25 .not (.s 24)}]) c_Ld_29) c_Ld_34
def c_Ld_18:VC:=
 .seq (.seq (.r 5 [oF 15 2 2,
  oL 16 15 1,
  oF 17 3 2,
  oL 18 17 1,
  {op:=.bin 19 .neq (.s 16) (.s 18)}]) c_Ld_21) c_Ld_26
def c_Ld_10:VC:=
 .seq (.seq (.r 3 [oF 10 2 1,
  oL 11 10 1,
  oF 12 3 1,
  oL 13 12 1,
  {op:=.bin 14 .neq (.s 11) (.s 13)}]) c_Ld_13) c_Ld_18
def c_Ld_2:VC:=
 .seq (.seq (.r 1 [oF 5 2 0,
  oL 6 5 1,
  oF 7 3 0,
  oL 8 7 1,
  {op:=.bin 9 .neq (.s 6) (.s 8)}]) c_Ld_5) c_Ld_10
def c_Ld_0:VC:=
 .seq (.r 0 [{op:=.box 2 (.s 0)},
  {op:=.box 3 (.s 1)},
  oK 4 false]) c_Ld_2
def vf_Ld:VF:={ pm:=[.ro [.sc,.sc,.sc,.ro [.ro [.sc]]],.ro [.sc,.sc,.sc,.ro [.ro [.sc]]]],rm:=[.v [.sc]],nslots:=26,res:=[4],rc:=[],code:=.kp [0,1] c_Ld_0 }
def c_Le_5:VC:=
 .ite (.s 9) (.seq (.r 2 [oK 4 false]) (.ret)) (.skip)
def c_Le_13:VC:=
 .ite (.s 15) (.seq (.r 4 [oK 4 false]) (.ret)) (.skip)
def c_Le_18:VC:=
 .seq (.r 5 [oK 4 true]) (.ret)
def c_Le_10:VC:=
 .seq (.seq (.r 3 [oF 10 2 1,
  {op:=.ld 11 (.s 10) 4 true},
  oF 12 3 1,
  {op:=.ld 13 (.s 12) 4 true},
  {op:=.call 14 11 [(.s 11),(.s 13)]},
  {op:=.un 15 .not (.s 14)}]) c_Le_13) c_Le_18
def c_Le_2:VC:=
 .seq (.seq (.r 1 [oF 5 2 0,
  oL 6 5 1,
  oF 7 3 0,
  oL 8 7 1,
  {op:=.bin 9 .neq (.s 6) (.s 8)}]) c_Le_5) c_Le_10
def c_Le_0:VC:=
 .seq (.r 0 [{op:=.box 2 (.s 0)},
  {op:=.box 3 (.s 1)},
  oK 4 false]) c_Le_2
def vf_Le:VF:={ pm:=[.ro [.sc,.sc,.sc,.sc,.ro [.ro [.sc]]],.ro [.sc,.sc,.sc,.sc,.ro [.ro [.sc]]]],rm:=[.v [.sc]],nslots:=16,res:=[4],rc:=[],code:=.kp [0,1] c_Le_0 }
def c_La_5:VC:=
 .ite (.s 10) (.seq (.r 2 [oK 4 false]) (.ret)) (.skip)
def c_La_18:VC:=
 .ite (.s 14) (.skip) (.exit 0)
def c_La_25:VC:=
 .ite (.s 25) (.seq (.r 7 [oK 4 false]) (.ret)) (.skip)
def c_La_30:VC:=
 .r 5 [M 15 5,
  {op:=.bin 16 .add (.s 15) (.k (.int .i64 1))},
  M 5 16]
def c_La_21:VC:=
 .seq (.blk 1 (.seq (.d 6 [(0,M 17 0),
  (1,M 18 5),
  (2,oX 19 17 18 1),
  (3,oV 20 19 1),
  (4,M 21 1),
  (5,M 22 5),
  (6,oX 23 21 22 1),
  (7,oV 24 23 1),
  (8,{op:=.bin 25 .neq (.s 20) (.s 24)})]) c_La_25)) c_La_30
def c_La_15:VC:=
 .seq (.seq (.r 4 [M 11 5,
  M 12 0,
  {op:=.len 13 (.s 12)},
  {op:=.bin 14 .lss (.s 11) (.s 13)}]) c_La_18) c_La_21
def c_La_13:VC:=
 .blk 0 (.loop [0,1,5] c_La_15)
def c_La_31:VC:=
 .seq (.r 8 [oK 4 true]) (.ret)
def c_La_10:VC:=
 .seq (.seq (.r 3 [oN 5 0]) c_La_13) (.kp [] c_La_31)
def c_La_2:VC:=
 .seq (.seq (.r 1 [M 6 0,
  {op:=.len 7 (.s 6)},
  M 8 1,
  {op:=.len 9 (.s 8)},
  {op:=.bin 10 .neq (.s 7) (.s 9)}]) c_La_5) c_La_10
def c_La_0:VC:=
 .seq (.r 0 [oK 4 false]) c_La_2
def vf_La:VF:={ pm:=[.ro [.ro [.sc]],.ro [.ro [.sc]]],rm:=[.v [.sc]],nslots:=26,res:=[4],rc:=[],code:=.kp [0,1] c_La_0 }
def c_Lj_10:VC:=
 .ite (.s 9) (.skip) (.exit 0)
def c_Lj_17:VC:=
 .r 5 [M 17 1,
  {op:=.bin 18 .add (.s 17) (.k (.int .i64 1))},
  M 1 18]
def c_Lj_18:VC:=
 .r 3 [M 10 5,
  {op:=.bin 11 .add (.s 10) (.k (.int .i64 1))},
  M 5 11]
def c_Lj_13:VC:=
 .seq (.blk 1 (.seq (.r 4 [M 12 0,
  M 13 5,
  M 14 1,
  {op:=.conv 15 .u8 (.s 14)},
  oX 16 12 13 1,
  oS 16 15 1]) c_Lj_17)) c_Lj_18
def c_Lj_7:VC:=
 .seq (.seq (.r 2 [M 6 5,
  M 7 0,
  {op:=.len 8 (.s 7)},
  {op:=.bin 9 .lss (.s 6) (.s 8)}]) c_Lj_10) c_Lj_13
def c_Lj_5:VC:=
 .blk 0 (.loop [0,1,5] c_Lj_7)
def c_Lj_19:VC:=
 .seq (.r 6 [M 19 1,
  M 4 19]) (.ret)
def c_Lj_2:VC:=
 .seq (.seq (.r 1 [oN 5 0]) c_Lj_5) (.kp [0,1] c_Lj_19)
def c_Lj_0:VC:=
 .seq (.r 0 [oN 4 0]) c_Lj_2
def vf_Lj:VF:={ pm:=[.ms [.sc],.ro [.sc]],rm:=[.v [.sc]],nslots:=20,res:=[4],rc:=[],code:=.kp [0,1] c_Lj_0 }
def c_Lk_10:VC:=
 .ite (.s 9) (.skip) (.exit 0)
def c_Lk_17:VC:=
 .r 5 [M 16 1,
  {op:=.bin 17 .add (.s 16) (.k (.int .i64 1))},
  M 1 17]
def c_Lk_18:VC:=
 .r 3 [M 10 5,
  {op:=.bin 11 .add (.s 10) (.k (.int .i64 1))},
  M 5 11]
def c_Lk_13:VC:=
 .seq (.blk 1 (.seq (.r 4 [M 12 0,
  M 13 5,
  M 14 1,
  oX 15 12 13 1,
  oS 15 14 1]) c_Lk_17)) c_Lk_18
def c_Lk_7:VC:=
 .seq (.seq (.r 2 [M 6 5,
  M 7 0,
  {op:=.len 8 (.s 7)},
  {op:=.bin 9 .lss (.s 6) (.s 8)}]) c_Lk_10) c_Lk_13
def c_Lk_5:VC:=
 .blk 0 (.loop [0,1,5] c_Lk_7)
def c_Lk_19:VC:=
 .seq (.r 6 [M 18 1,
  M 4 18]) (.ret)
def c_Lk_2:VC:=
 .seq (.seq (.r 1 [oN 5 0]) c_Lk_5) (.kp [0,1] c_Lk_19)
def c_Lk_0:VC:=
 .seq (.r 0 [oN 4 0]) c_Lk_2
def vf_Lk:VF:={ pm:=[.ms [.sc],.ro [.sc]],rm:=[.v [.sc]],nslots:=19,res:=[4],rc:=[],code:=.kp [0,1] c_Lk_0 }
def c_Ll_10:VC:=
 .ite (.s 9) (.skip) (.exit 0)
def c_Ll_16:VC:=
 .r 3 [M 10 5,
  {op:=.bin 11 .add (.s 10) (.k (.int .i64 1))},
  M 5 11]
def c_Ll_13:VC:=
 .seq (.blk 1 (.r 4 [M 12 0,
  M 13 5,
  oX 14 12 13 1,
  oL 15 14 1,
  M 16 1,
  {op:=.call 17 75 [(.s 15),(.s 16)]},
  M 1 17])) c_Ll_16
def c_Ll_7:VC:=
 .seq (.seq (.r 2 [M 6 5,
  M 7 0,
  {op:=.len 8 (.s 7)},
  {op:=.bin 9 .lss (.s 6) (.s 8)}]) c_Ll_10) c_Ll_13
def c_Ll_5:VC:=
 .blk 0 (.loop [0,1,5] c_Ll_7)
def c_Ll_17:VC:=
 .seq (.r 5 [M 18 1,
  M 4 18]) (.ret)
def c_Ll_2:VC:=
 .seq (.seq (.r 1 [oN 5 0]) c_Ll_5) (.kp [0,1] c_Ll_17)
def c_Ll_0:VC:=
 .seq (.r 0 [oN 4 0]) c_Ll_2
def vf_Ll:VF:={ pm:=[.ms [.own [.sc]],.ro [.sc]],rm:=[.v [.sc]],nslots:=19,res:=[4],rc:=[],code:=.kp [0,1] c_Ll_0 }
def c_Lm_4:VC:=
 .seq (.r 2 [M 9 1,
  M 4 9]) (.ret)
def c_Lm_2:VC:=
 .seq (.r 1 [oF 5 2 3,
  oL 6 5 1,
  M 7 1,
  {op:=.call 8 39 [(.s 6),(.s 7)]},
  M 1 8]) c_Lm_4
def c_Lm_0:VC:=
 .seq (.r 0 [{op:=.box 2 (.s 0)},
  oN 4 0]) c_Lm_2
def vf_Lm:VF:={ pm:=[.mg [.sc,.sc,.sc,.own [.own [.sc]]],.ro [.sc]],rm:=[.v [.sc]],nslots:=10,res:=[4],rc:=[],code:=.kp [0,1] c_Lm_0 }
def c_Ln_4:VC:=
 .seq (.r 2 [M 9 1,
  M 4 9]) (.ret)
def c_Ln_2:VC:=
 .seq (.r 1 [oF 5 2 1,
  {op:=.ld 6 (.s 5) 4 true},
  M 7 1,
  {op:=.call 8 12 [(.s 6),(.s 7)]},
  M 1 8]) c_Ln_4
def c_Ln_0:VC:=
 .seq (.r 0 [{op:=.box 2 (.s 0)},
  oN 4 0]) c_Ln_2
def vf_Ln:VF:={ pm:=[.mg [.sc,.sc,.sc,.sc,.own [.own [.sc]]],.ro [.sc]],rm:=[.v [.sc]],nslots:=10,res:=[4],rc:=[],code:=.kp [0,1] c_Ln_0 }
def c_Lf_10:VC:=
 .ite (.s 9) (.skip) (.exit 0)
def c_Lf_18:VC:=
 .ite (.s 17) (.seq (.r 5 [oN 4 (-1)]) (.ret)) (.skip)
def c_Lf_23:VC:=
 .r 6 [M 18 1,
  {op:=.bin 19 .add (.s 18) (.k (.int .i64 1))},
  M 1 19]
def c_Lf_24:VC:=
 .r 3 [M 10 5,
  {op:=.bin 11 .add (.s 10) (.k (.int .i64 1))},
  M 5 11]
def c_Lf_13:VC:=
 .seq (.blk 1 (.seq (.seq (.r 4 [M 12 0,
  M 13 5,
  oX 14 12 13 1,
  oL 15 14 1,
  M 16 1,
  {op:=.bin 17 .neq (.s 15) (.s 16)}]) c_Lf_18) c_Lf_23)) c_Lf_24
def c_Lf_7:VC:=
 .seq (.seq (.r 2 [M 6 5,
  M 7 0,
  {op:=.len 8 (.s 7)},
  {op:=.bin 9 .lss (.s 6) (.s 8)}]) c_Lf_10) c_Lf_13
def c_Lf_5:VC:=
 .blk 0 (.loop [0,1,5] c_Lf_7)
def c_Lf_25:VC:=
 .seq (.r 7 [M 20 1,
  M 4 20]) (.ret)
def c_Lf_2:VC:=
 .seq (.seq (.r 1 [oN 5 0]) c_Lf_5) (.kp [1] c_Lf_25)
def c_Lf_0:VC:=
 .seq (.r 0 [oN 4 0]) c_Lf_2
def vf_Lf:VF:={ pm:=[.ro [.ro [.sc]],.ro [.sc]],rm:=[.v [.sc]],nslots:=21,res:=[4],rc:=[],code:=.kp [0,1] c_Lf_0 }
def c_Lg_10:VC:=
 .ite (.s 9) (.skip) (.exit 0)
def c_Lg_19:VC:=
 .ite (.s 19) (.seq (.r 6 [oN 4 (-1)]) (.ret)) (.skip)
def c_Lg_17:VC:=
 .seq (.r 5 [M 18 1,
  {op:=.bin 19 .lss (.s 18) (.k (.int .i64 0))}]) c_Lg_19
def c_Lg_24:VC:=
 .r 3 [M 10 5,
  {op:=.bin 11 .add (.s 10) (.k (.int .i64 1))},
  M 5 11]
def c_Lg_13:VC:=
 .seq (.blk 1 (.seq (.r 4 [M 12 0,
  M 13 5,
  oX 14 12 13 1,
  oL 15 14 1,
  M 16 1,
  {op:=.call 17 97 [(.s 15),(.s 16)]},
  M 1 17]) c_Lg_17)) c_Lg_24
def c_Lg_7:VC:=
 .seq (.seq (.r 2 [M 6 5,
  M 7 0,
  {op:=.len 8 (.s 7)},
  {op:=.bin 9 .lss (.s 6) (.s 8)}]) c_Lg_10) c_Lg_13
def c_Lg_5:VC:=
 .blk 0 (.loop [0,1,5] c_Lg_7)
def c_Lg_25:VC:=
 .seq (.r 7 [M 20 1,
  M 4 20]) (.ret)
def c_Lg_2:VC:=
 .seq (.seq (.r 1 [oN 5 0]) c_Lg_5) (.kp [1] c_Lg_25)
def c_Lg_0:VC:=
 .seq (.r 0 [oN 4 0]) c_Lg_2
def vf_Lg:VF:={ pm:=[.ro [.ro [.ro [.sc]]],.ro [.sc]],rm:=[.v [.sc]],nslots:=21,res:=[4],rc:=[],code:=.kp [0,1] c_Lg_0 }
def c_Lh_7:VC:=
 .ite (.s 10) (.seq (.r 3 [oN 4 (-1)]) (.ret)) (.skip)
def c_Lh_12:VC:=
 .seq (.r 4 [M 11 1,
  M 4 11]) (.ret)
def c_Lh_4:VC:=
 .seq (.seq (.r 2 [M 9 1,
  {op:=.bin 10 .lss (.s 9) (.k (.int .i64 0))}]) c_Lh_7) c_Lh_12
def c_Lh_2:VC:=
 .seq (.r 1 [oF 5 2 3,
  oL 6 5 1,
  M 7 1,
  {op:=.call 8 81 [(.s 6),(.s 7)]},
  M 1 8]) c_Lh_4
def c_Lh_0:VC:=
 .seq (.r 0 [{op:=.box 2 (.s 0)},
  oN 4 0]) c_Lh_2
def vf_Lh:VF:={ pm:=[.ro [.sc,.sc,.sc,.ro [.ro [.sc]]],.ro [.sc]],rm:=[.v [.sc]],nslots:=12,res:=[4],rc:=[],code:=.kp [0,1] c_Lh_0 }
def c_Li_7:VC:=
 .ite (.s 10) (.seq (.r 3 [oN 4 (-1)]) (.ret)) (.skip)
def c_Li_12:VC:=
 .seq (.r 4 [M 11 1,
  M 4 11]) (.ret)
def c_Li_4:VC:=
 .seq (.seq (.r 2 [M 9 1,
  {op:=.bin 10 .lss (.s 9) (.k (.int .i64 0))}]) c_Li_7) c_Li_12
def c_Li_2:VC:=
 .seq (.r 1 [oF 5 2 1,
  {op:=.ld 6 (.s 5) 4 true},
  M 7 1,
  {op:=.call 8 56 [(.s 6),(.s 7)]},
  M 1 8]) c_Li_4
def c_Li_0:VC:=
 .seq (.r 0 [{op:=.box 2 (.s 0)},
  oN 4 0]) c_Li_2
def vf_Li:VF:={ pm:=[.ro [.sc,.sc,.sc,.sc,.ro [.ro [.sc]]],.ro [.sc]],rm:=[.v [.sc]],nslots:=12,res:=[4],rc:=[],code:=.kp [0,1] c_Li_0 }
def c_laws_FnExactDecodeSound_5:VC:=
 .ite (.s 12) (.seq (.r 2 [oK 2 true]) (.ret)) (.skip)
def c_laws_FnExactDecodeSound_19:VC:=
 .ite (.s 23) (.seq (.r 7 [oK 2 false]) (.ret)) (.skip)
def c_laws_FnExactDecodeSound_27:VC:=
 .ite (.s 28) (.seq (.r 9 [oK 2 false]) (.ret)) (.skip)
def c_laws_FnExactDecodeSound_39:VC:=
 .ite (.s 39) (.seq (.r 13 [oK 2 false]) (.ret)) (.skip)
def c_laws_FnExactDecodeSound_55:VC:=
 .ite (.s 47) (.seq (.r 19 [oK 2 false]) (.ret)) (.skip)
def c_laws_FnExactDecodeSound_63:VC:=
 .ite (.s 50) (.seq (.r 21 [oK 2 false]) (.ret)) (.skip)
def c_laws_FnExactDecodeSound_73:VC:=
 .ite (.s 57) (.seq (.r 24 [oK 2 false]) (.ret)) (.skip)
def c_laws_FnExactDecodeSound_85:VC:=
 .ite (.s 62) (.seq (.r 28 [oK 2 false]) (.ret)) (.skip)
def c_laws_FnExactDecodeSound_93:VC:=
 .ite (.s 65) (.seq (.r 30 [oK 2 false]) (.ret)) (.skip)
def c_laws_FnExactDecodeSound_98:VC:=
 .seq (.r 31 [oK 2 true]) (.ret)
def c_laws_FnExactDecodeSound_90:VC:=
 .seq (.seq (.r 29 [M 63 8,
  M 64 7,
  {op:=.bin 65 .neq (.s 63) (.s 64)}]) c_laws_FnExactDecodeSound_93) c_laws_FnExactDecodeSound_98
def c_laws_FnExactDecodeSound_82:VC:=
 .seq (.seq (.r 27 [M 61 8,
  {op:=.bin 62 .lss (.s 61) (.k (.int .i64 0))}]) c_laws_FnExactDecodeSound_85) c_laws_FnExactDecodeSound_90
def c_laws_FnExactDecodeSound_80:VC:=
 .seq (.r 26 [{op:=.ld 58 (.s 5) 5 true},
  M 59 8,
  {op:=.call 60 20 [(.s 58),(.s 59)]},
  M 8 60]) c_laws_FnExactDecodeSound_82
def c_laws_FnExactDecodeSound_78:VC:=
 .seq (.r 25 [oN 8 1]) c_laws_FnExactDecodeSound_80
def c_laws_FnExactDecodeSound_70:VC:=
 .seq (.seq (.r 23 [{op:=.ld 54 (.s 9) 5 true},
  {op:=.ld 55 (.s 3) 5 true},
  {op:=.call 56 18 [(.s 54),(.s 55)]},
  {op:=.un 57 .not (.s 56)}]) c_laws_FnExactDecodeSound_73) c_laws_FnExactDecodeSound_78
def c_laws_FnExactDecodeSound_68:VC:=
 .seq (.r 22 [M 51 0,
  {op:=.call 52 16 [(.s 51)]},
  {op:=.call 53 17 [(.s 52)]},
  {op:=.alloc 9 [.k (.int .i64 0),.k (.int .i64 0),.k (.int .i64 0),.k (.int .i64 0),.o [.own [.sc]]]},
  oS 9 53 5]) c_laws_FnExactDecodeSound_70
def c_laws_FnExactDecodeSound_60:VC:=
 .seq (.seq (.r 20 [M 48 8,
  M 49 7,
  {op:=.bin 50 .neq (.s 48) (.s 49)}]) c_laws_FnExactDecodeSound_63) c_laws_FnExactDecodeSound_68
def c_laws_FnExactDecodeSound_52:VC:=
 .seq (.seq (.r 18 [M 46 8,
  {op:=.bin 47 .lss (.s 46) (.k (.int .i64 0))}]) c_laws_FnExactDecodeSound_55) c_laws_FnExactDecodeSound_60
def c_laws_FnExactDecodeSound_50:VC:=
 .seq (.r 17 [{op:=.ld 43 (.s 5) 5 true},
  M 44 8,
  {op:=.call 45 20 [(.s 43),(.s 44)]},
  M 8 45]) c_laws_FnExactDecodeSound_52
def c_laws_FnExactDecodeSound_48:VC:=
 .seq (.r 16 [oN 8 1]) c_laws_FnExactDecodeSound_50
def c_laws_FnExactDecodeSound_46:VC:=
 .seq (.r 15 [{op:=.ld 40 (.s 5) 5 true},
  M 41 7,
  {op:=.call 42 19 [(.s 40),(.s 41)]},
  M 7 42]) c_laws_FnExactDecodeSound_48
def c_laws_FnExactDecodeSound_44:VC:=
 .seq (.r 14 [oN 7 1]) c_laws_FnExactDecodeSound_46
def c_laws_FnExactDecodeSound_36:VC:=
 .seq (.seq (.r 12 [M 32 6,
  {op:=.bin 33 .lss (.s 32) (.k (.int .i64 0))},
  M 34 33,
  ⟨none,[],some (34,false),.ld 35 (.s 5) 5 true⟩,
  ⟨none,[],some (34,false),.ld 36 (.s 3) 5 true⟩,
  ⟨none,[],some (34,false),.call 37 18 [(.s 35),(.s 36)]⟩,
  ⟨none,[],some (34,false),.un 38 .not (.s 37)⟩,
  {op:=.pick 39 (.s 34) (.k (.bool true)) (.s 38)}]) c_laws_FnExactDecodeSound_39) c_laws_FnExactDecodeSound_44
def c_laws_FnExactDecodeSound_34:VC:=
 .seq (.r 11 [M 29 4,
  M 30 6,
  {op:=.call 31 13 [(.s 29),(.s 30)]},
  M 6 31]) c_laws_FnExactDecodeSound_36
def c_laws_FnExactDecodeSound_32:VC:=
 .seq (.r 10 [oN 6 1]) c_laws_FnExactDecodeSound_34
def c_laws_FnExactDecodeSound_24:VC:=
 .seq (.seq (.r 8 [M 24 4,
  M 25 0,
  {op:=.call 26 16 [(.s 25)]},
  {op:=.call 27 10 [(.s 24),(.s 26)]},
  {op:=.un 28 .not (.s 27)}]) c_laws_FnExactDecodeSound_27) c_laws_FnExactDecodeSound_32
def c_laws_FnExactDecodeSound_16:VC:=
 .seq (.seq (.r 6 [{op:=.ld 20 (.s 5) 5 true},
  {op:=.ld 21 (.s 3) 5 true},
  {op:=.call 22 18 [(.s 20),(.s 21)]},
  {op:=.un 23 .not (.s 22)}]) c_laws_FnExactDecodeSound_19) c_laws_FnExactDecodeSound_24
def c_laws_FnExactDecodeSound_14:VC:=
 .seq (.r 5 [M 18 4,
  {op:=.call 19 17 [(.s 18)]},
  {op:=.alloc 5 [.k (.int .i64 0),.k (.int .i64 0),.k (.int .i64 0),.k (.int .i64 0),.o [.own [.sc]]]},
  oS 5 19 5]) c_laws_FnExactDecodeSound_16
def c_laws_FnExactDecodeSound_12:VC:=
 .seq (.r 4 [M 16 0,
  {op:=.call 17 16 [(.s 16)]},
  M 4 17]) c_laws_FnExactDecodeSound_14
def c_laws_FnExactDecodeSound_10:VC:=
 .seq (.r 3 [M 13 0,
  {op:=.call 14 16 [(.s 13)]},
  {op:=.call 15 15 [(.s 14)]},
  {op:=.alloc 3 [.k (.int .i64 0),.k (.int .i64 0),.k (.int .i64 0),.k (.int .i64 0),.o [.own [.sc]]]},
  oS 3 15 5]) c_laws_FnExactDecodeSound_12
def c_laws_FnExactDecodeSound_2:VC:=
 .seq (.seq (.r 1 [M 10 0,
  {op:=.len 11 (.s 10)},
  {op:=.bin 12 .gtr (.s 11) (.k (.int .i64 1048576))}]) c_laws_FnExactDecodeSound_5) c_laws_FnExactDecodeSound_10
def c_laws_FnExactDecodeSound_0:VC:=
 .seq (.r 0 [oK 2 false]) c_laws_FnExactDecodeSound_2
def vf_laws_FnExactDecodeSound:VF:={ pm:=[.ro [.ro [.sc]]],rm:=[.v [.sc]],nslots:=66,res:=[2],rc:=[],code:=.kp [0] c_laws_FnExactDecodeSound_0 }
def ext:FuncId→List Arg→Option FRes:=fun f ars=>none
def tblL:List (FuncId×VF):=[(16,vf_Lo),(92,vf_Ss),(76,vf_St),(43,vf_Sj),(41,vf_Sq),(40,vf_Sn),(42,vf_Sf),(93,vf_Sp),(87,vf_Si),(100,vf_Sd),(94,vf_So),(77,vf_Sm),(78,vf_Sk),(66,vf_Sa),(95,vf_Se),(79,vf_Sc),(96,vf_Sh),(80,vf_Sr),(60,vf_Sg),(44,vf_Sl),(15,vf_Sb),(45,vf_Ic),(46,vf_Il),(50,vf_Io),(47,vf_Iq),(55,vf_Im),(29,vf_Id),(48,vf_In),(49,vf_Ii),(51,vf_If),(52,vf_Ip),(37,vf_Ia),(70,vf_Ih),(72,vf_Ij),(53,vf_Ie),(69,vf_Ik),(54,vf_Ig),(17,vf_Ib),(74,vf_Lb),(38,vf_Lc),(11,vf_Ld),(18,vf_Le),(10,vf_La),(13,vf_Lj),(75,vf_Lk),(39,vf_Ll),(12,vf_Lm),(19,vf_Ln),(97,vf_Lf),(81,vf_Lg),(56,vf_Lh),(20,vf_Li),(4,vf_laws_FnExactDecodeSound)]
def tbl:FuncId→Option VF:=fun f=>tblL.lookup f
end Go.Proofs.V

namespace Go.Proofs.V
open Go
theorem fi_Lo:funcIs Go.Proofs.Try.prog tbl 16 vf_Lo=true:=by kernel_rfl
theorem fi_Ss:funcIs Go.Proofs.Try.prog tbl 92 vf_Ss=true:=by kernel_rfl
theorem fi_St:funcIs Go.Proofs.Try.prog tbl 76 vf_St=true:=by kernel_rfl
theorem fi_Sj:funcIs Go.Proofs.Try.prog tbl 43 vf_Sj=true:=by kernel_rfl
theorem fi_Sq:funcIs Go.Proofs.Try.prog tbl 41 vf_Sq=true:=by kernel_rfl
theorem fi_Sn:funcIs Go.Proofs.Try.prog tbl 40 vf_Sn=true:=by kernel_rfl
theorem fi_Sf:funcIs Go.Proofs.Try.prog tbl 42 vf_Sf=true:=by kernel_rfl
theorem fi_Sp:funcIs Go.Proofs.Try.prog tbl 93 vf_Sp=true:=by kernel_rfl
theorem fi_Si:funcIs Go.Proofs.Try.prog tbl 87 vf_Si=true:=by kernel_rfl
theorem fi_Sd:funcIs Go.Proofs.Try.prog tbl 100 vf_Sd=true:=by kernel_rfl
theorem fi_So:funcIs Go.Proofs.Try.prog tbl 94 vf_So=true:=by kernel_rfl
theorem fi_Sm:funcIs Go.Proofs.Try.prog tbl 77 vf_Sm=true:=by kernel_rfl
theorem fi_Sk:funcIs Go.Proofs.Try.prog tbl 78 vf_Sk=true:=by kernel_rfl
theorem fi_Sa:funcIs Go.Proofs.Try.prog tbl 66 vf_Sa=true:=by kernel_rfl
theorem fi_Se:funcIs Go.Proofs.Try.prog tbl 95 vf_Se=true:=by kernel_rfl
theorem fi_Sc:funcIs Go.Proofs.Try.prog tbl 79 vf_Sc=true:=by kernel_rfl
theorem fi_Sh:funcIs Go.Proofs.Try.prog tbl 96 vf_Sh=true:=by kernel_rfl
theorem fi_Sr:funcIs Go.Proofs.Try.prog tbl 80 vf_Sr=true:=by kernel_rfl
theorem fi_Sg:funcIs Go.Proofs.Try.prog tbl 60 vf_Sg=true:=by kernel_rfl
theorem fi_Sl:funcIs Go.Proofs.Try.prog tbl 44 vf_Sl=true:=by kernel_rfl
theorem fi_Sb:funcIs Go.Proofs.Try.prog tbl 15 vf_Sb=true:=by kernel_rfl
theorem fi_Ic:funcIs Go.Proofs.Try.prog tbl 45 vf_Ic=true:=by kernel_rfl
theorem fi_Il:funcIs Go.Proofs.Try.prog tbl 46 vf_Il=true:=by kernel_rfl
theorem fi_Io:funcIs Go.Proofs.Try.prog tbl 50 vf_Io=true:=by kernel_rfl
theorem fi_Iq:funcIs Go.Proofs.Try.prog tbl 47 vf_Iq=true:=by kernel_rfl
theorem fi_Im:funcIs Go.Proofs.Try.prog tbl 55 vf_Im=true:=by kernel_rfl
theorem fi_Id:funcIs Go.Proofs.Try.prog tbl 29 vf_Id=true:=by kernel_rfl
theorem fi_In:funcIs Go.Proofs.Try.prog tbl 48 vf_In=true:=by kernel_rfl
theorem fi_Ii:funcIs Go.Proofs.Try.prog tbl 49 vf_Ii=true:=by kernel_rfl
theorem fi_If:funcIs Go.Proofs.Try.prog tbl 51 vf_If=true:=by kernel_rfl
theorem fi_Ip:funcIs Go.Proofs.Try.prog tbl 52 vf_Ip=true:=by kernel_rfl
theorem fi_Ia:funcIs Go.Proofs.Try.prog tbl 37 vf_Ia=true:=by kernel_rfl
theorem fi_Ih:funcIs Go.Proofs.Try.prog tbl 70 vf_Ih=true:=by kernel_rfl
theorem fi_Ij:funcIs Go.Proofs.Try.prog tbl 72 vf_Ij=true:=by kernel_rfl
theorem fi_Ie:funcIs Go.Proofs.Try.prog tbl 53 vf_Ie=true:=by kernel_rfl
theorem fi_Ik:funcIs Go.Proofs.Try.prog tbl 69 vf_Ik=true:=by kernel_rfl
theorem fi_Ig:funcIs Go.Proofs.Try.prog tbl 54 vf_Ig=true:=by kernel_rfl
theorem fi_Ib:funcIs Go.Proofs.Try.prog tbl 17 vf_Ib=true:=by kernel_rfl
theorem fi_Lb:funcIs Go.Proofs.Try.prog tbl 74 vf_Lb=true:=by kernel_rfl
theorem fi_Lc:funcIs Go.Proofs.Try.prog tbl 38 vf_Lc=true:=by kernel_rfl
theorem fi_Ld:funcIs Go.Proofs.Try.prog tbl 11 vf_Ld=true:=by kernel_rfl
theorem fi_Le:funcIs Go.Proofs.Try.prog tbl 18 vf_Le=true:=by kernel_rfl
theorem fi_La:funcIs Go.Proofs.Try.prog tbl 10 vf_La=true:=by kernel_rfl
theorem fi_Lj:funcIs Go.Proofs.Try.prog tbl 13 vf_Lj=true:=by kernel_rfl
theorem fi_Lk:funcIs Go.Proofs.Try.prog tbl 75 vf_Lk=true:=by kernel_rfl
theorem fi_Ll:funcIs Go.Proofs.Try.prog tbl 39 vf_Ll=true:=by kernel_rfl
theorem fi_Lm:funcIs Go.Proofs.Try.prog tbl 12 vf_Lm=true:=by kernel_rfl
theorem fi_Ln:funcIs Go.Proofs.Try.prog tbl 19 vf_Ln=true:=by kernel_rfl
theorem fi_Lf:funcIs Go.Proofs.Try.prog tbl 97 vf_Lf=true:=by kernel_rfl
theorem fi_Lg:funcIs Go.Proofs.Try.prog tbl 81 vf_Lg=true:=by kernel_rfl
theorem fi_Lh:funcIs Go.Proofs.Try.prog tbl 56 vf_Lh=true:=by kernel_rfl
theorem fi_Li:funcIs Go.Proofs.Try.prog tbl 20 vf_Li=true:=by kernel_rfl
theorem fi_laws_FnExactDecodeSound:funcIs Go.Proofs.Try.prog tbl 4 vf_laws_FnExactDecodeSound=true:=by kernel_rfl
def gI:GInv:=gNone
end Go.Proofs.V

namespace Go.Proofs.V
open Go
abbrev EE (c : VC) (K : List Fr) (s : St) (Q : VX → St → Prop) : Prop := EvU ext tbl (.c c) K s Q
def as_Lo (p0:LI):List Arg:=[.v false [.sl (p0.map (rI .u8))]]
def res_Lo (r:LI):FRes:=⟨[.v false [.sl (r.map (rI .u8))]],[]⟩
def as_Ss (p0:LI) (p1:Int) (p2:Bool):List Arg:=[.v false [.sl (p0.map (rI .u8))],.v false [.lit (vI p1)],.v false [.lit (.bool p2)]]
def res_Ss (r:Int):FRes:=⟨[.v false [.lit (.int .u64 r)]],[]⟩
def as_St (p0:LI) (p1 p2:Int) (p3:Bool):List Arg:=[.v false [.sl (p0.map (rI .u8))],.v false [.lit (vI p1)],.v false [.lit (vI p2)],.v false [.lit (.bool p3)]]
def res_St (r:Zd):FRes:=⟨[.v true [.lit (.bool r.ok),.lit (.int .u64 r.value),.lit (vI r.next)]],[]⟩
def as_Sj (p0:Zc) (p1:Int):List Arg:=[.m (.pt [.sl (p0.data.map (rI .u8)),.lit (vI p0.at_),.lit (vI p0.err)]),.v false [.lit (vI p1)]]
def res_Sj (r:Zc):FRes:=⟨[],[.pt [.sl (r.data.map (rI .u8)),.lit (vI r.at_),.lit (vI r.err)]]⟩
def as_Sq (p0:Zc) (p1:Int):List Arg:=[.m (.pt [.sl (p0.data.map (rI .u8)),.lit (vI p0.at_),.lit (vI p0.err)]),.v false [.lit (vI p1)]]
def res_Sq (r:Int×Zc):FRes:=⟨[.v false [.lit (vI r.1)]],[.pt [.sl (r.2.data.map (rI .u8)),.lit (vI r.2.at_),.lit (vI r.2.err)]]⟩
def as_Sn (p0:Zc) (p1:LI):List Arg:=[.m (.pt [.sl (p0.data.map (rI .u8)),.lit (vI p0.at_),.lit (vI p0.err)]),.v false [.sl (p1.map (rI .u8))]]
def res_Sn (r:Zc):FRes:=⟨[],[.pt [.sl (r.data.map (rI .u8)),.lit (vI r.at_),.lit (vI r.err)]]⟩
def as_Sf (p0:Za) (p1 p2:Int):List Arg:=[.v true [.lit (vI p0.rate),.lit (vI p0.bits),.lit (vI p0.frame),.sl (p0.channels.map (rL (rI .i64)))],.v false [.lit (vI p1)],.v false [.lit (vI p2)]]
def res_Sf (r:Bool):FRes:=⟨[.v false [.lit (.bool r)]],[]⟩
def as_Sp (p0:Zc) (p1:Int):List Arg:=[.m (.pt [.sl (p0.data.map (rI .u8)),.lit (vI p0.at_),.lit (vI p0.err)]),.v false [.lit (vI p1)]]
def res_Sp (r:Int×Zc):FRes:=⟨[.v false [.lit (vI r.1)]],[.pt [.sl (r.2.data.map (rI .u8)),.lit (vI r.2.at_),.lit (vI r.2.err)]]⟩
def as_Si (p0 p1 p2:Int):List Arg:=[.v false [.lit (vI p0)],.v false [.lit (vI p1)],.v false [.lit (vI p2)]]
def res_Si (r:Bool):FRes:=⟨[.v false [.lit (.bool r)]],[]⟩
def as_Sd (p0:Int):List Arg:=[.v false [.lit (.int .u64 p0)]]
def res_Sd (r:Int):FRes:=⟨[.v false [.lit (vI r)]],[]⟩
def as_So (p0:Zc) (p1:Int):List Arg:=[.m (.pt [.sl (p0.data.map (rI .u8)),.lit (vI p0.at_),.lit (vI p0.err)]),.v false [.lit (vI p1)]]
def res_So (r:Int×Zc):FRes:=⟨[.v false [.lit (vI r.1)]],[.pt [.sl (r.2.data.map (rI .u8)),.lit (vI r.2.at_),.lit (vI r.2.err)]]⟩
def as_Sm (p0:Zc) (p1:Int):List Arg:=[.m (.pt [.sl (p0.data.map (rI .u8)),.lit (vI p0.at_),.lit (vI p0.err)]),.v false [.lit (vI p1)]]
def res_Sm (r:Int×LI×Zc):FRes:=⟨[.v false [.lit (vI r.1)],.v false [.sl (r.2.1.map (rI .i64))]],[.pt [.sl (r.2.2.data.map (rI .u8)),.lit (vI r.2.2.at_),.lit (vI r.2.2.err)]]⟩
def as_Sk (p0:Zc):List Arg:=[.m (.pt [.sl (p0.data.map (rI .u8)),.lit (vI p0.at_),.lit (vI p0.err)])]
def res_Sk (r:Zc):FRes:=⟨[],[.pt [.sl (r.data.map (rI .u8)),.lit (vI r.at_),.lit (vI r.err)]]⟩
def as_Sa (p0:LI):List Arg:=[.v false [.sl (p0.map (rI .u8))]]
def res_Sa (r:Int):FRes:=⟨[.v false [.lit (.int .u32 r)]],[]⟩
def as_Se (p0:Int) (p1:LI) (p2:Int):List Arg:=[.v false [.lit (vI p0)],.v false [.sl (p1.map (rI .i64))],.v false [.lit (vI p2)]]
def res_Se (r:Int):FRes:=⟨[.v false [.lit (vI r)]],[]⟩
def as_Sc (p0:Int) (p1:LI):List Arg:=[.v false [.lit (vI p0)],.v false [.sl (p1.map (rI .i64))]]
def res_Sc (r:LI):FRes:=⟨[.v false [.sl (r.map (rI .i64))]],[]⟩
def as_Sh (p0:LI):List Arg:=[.v false [.sl (p0.map (rI .i64))]]
def res_Sh (r:Bool):FRes:=⟨[.v false [.lit (.bool r)]],[]⟩
def as_Sr (p0:Int) (p1 p2:LI):List Arg:=[.v false [.lit (vI p0)],.v false [.sl (p1.map (rI .i64))],.v false [.sl (p2.map (rI .i64))]]
def res_Sr (r:LI×LI):FRes:=⟨[.v false [.sl (r.1.map (rI .i64))],.v false [.sl (r.2.map (rI .i64))]],[]⟩
def as_Sg (p0:Int) (p1:LI):List Arg:=[.v false [.lit (vI p0)],.v false [.sl (p1.map (rI .i64))]]
def res_Sg (r:Bool):FRes:=⟨[.v false [.lit (.bool r)]],[]⟩
def as_Sl (p0:Zc) (p1:Za) (p2 p3:Int):List Arg:=[.m (.pt [.sl (p0.data.map (rI .u8)),.lit (vI p0.at_),.lit (vI p0.err)]),.v true [.lit (vI p1.rate),.lit (vI p1.bits),.lit (vI p1.frame),.sl (p1.channels.map (rL (rI .i64)))],.v false [.lit (vI p2)],.v false [.lit (vI p3)]]
def res_Sl (r:(List LI)×Zc×Za):FRes:=⟨[.v false [.sl (r.1.map (rL (rI .i64)))]],[.pt [.sl (r.2.1.data.map (rI .u8)),.lit (vI r.2.1.at_),.lit (vI r.2.1.err)],.sl (r.2.2.channels.map (rL (rI .i64)))]⟩
def as_Sb (p0:LI):List Arg:=[.v false [.sl (p0.map (rI .u8))]]
def res_Sb (r:Zb):FRes:=⟨[.v true [.lit (vI r.err),.lit (vI r.sound.rate),.lit (vI r.sound.bits),.lit (vI r.sound.frame),.sl (r.sound.channels.map (rL (rI .i64)))]],[]⟩
def as_Ic (p0:Int):List Arg:=[.v false [.lit (vI p0)]]
def res_Ic (r:Zb):FRes:=⟨[.v true [.lit (vI r.err),.lit (vI r.sound.rate),.lit (vI r.sound.bits),.lit (vI r.sound.frame),.sl (r.sound.channels.map (rL (rI .i64)))]],[]⟩
def as_Il (p0:LI) (p1:ByteArray):List Arg:=[.v false [.sl (p0.map (rI .u8))],.v false [.lit (.string p1)]]
def res_Il (r:Int):FRes:=⟨[.v false [.lit (vI r)]],[]⟩
def as_Io (p0:Ze):List Arg:=[.m (.pt [.sl (p0.b.map (rI .u8)),.lit (vI p0.at_),.lit (.bool p0.short)])]
def res_Io (r:Int×Ze):FRes:=⟨[.v false [.lit (vI r.1)]],[.pt [.sl (r.2.b.map (rI .u8)),.lit (vI r.2.at_),.lit (.bool r.2.short)]]⟩
def as_Iq (p0:Ze) (p1:Int):List Arg:=[.m (.pt [.sl (p0.b.map (rI .u8)),.lit (vI p0.at_),.lit (.bool p0.short)]),.v false [.lit (vI p1)]]
def res_Iq (r:Int×Ze):FRes:=⟨[.v false [.lit (.int .u64 r.1)]],[.pt [.sl (r.2.b.map (rI .u8)),.lit (vI r.2.at_),.lit (.bool r.2.short)]]⟩
def as_Im (p0:LI) (p1 p2 p3:Int):List Arg:=[.v false [.sl (p0.map (rI .i64))],.v false [.lit (vI p1)],.v false [.lit (vI p2)],.v false [.lit (vI p3)]]
def res_Im (r:Bool):FRes:=⟨[.v false [.lit (.bool r)]],[]⟩
def as_Id (p0:Za):List Arg:=[.v true [.lit (vI p0.rate),.lit (vI p0.bits),.lit (vI p0.frame),.sl (p0.channels.map (rL (rI .i64)))]]
def res_Id (r:Bool):FRes:=⟨[.v false [.lit (.bool r)]],[]⟩
def as_In (p0 p1:Int):List Arg:=[.v false [.lit (.int .u64 p0)],.v false [.lit (vI p1)]]
def res_In (r:Int):FRes:=⟨[.v false [.lit (vI r)]],[]⟩
def as_Ii (p0 p1 p2:Int):List Arg:=[.v false [.lit (vI p0)],.v false [.lit (vI p1)],.v false [.lit (vI p2)]]
def res_Ii (r:Bool):FRes:=⟨[.v false [.lit (.bool r)]],[]⟩
def as_If (p0:Int):List Arg:=[.v false [.lit (.int .u64 p0)]]
def res_If (r:Int):FRes:=⟨[.v false [.lit (vI r)]],[]⟩
def as_Ip (p0:Ze):List Arg:=[.m (.pt [.sl (p0.b.map (rI .u8)),.lit (vI p0.at_),.lit (.bool p0.short)])]
def res_Ip (r:Bool×Ze):FRes:=⟨[.v false [.lit (.bool r.1)]],[.pt [.sl (r.2.b.map (rI .u8)),.lit (vI r.2.at_),.lit (.bool r.2.short)]]⟩
def as_Ia (p0:LI):List Arg:=[.v false [.sl (p0.map (rI .u8))]]
def res_Ia (r:Int):FRes:=⟨[.v false [.lit (.int .u32 r)]],[]⟩
def as_Ih (p0:LI):List Arg:=[.v false [.sl (p0.map (rI .i64))]]
def res_Ih (r:LI):FRes:=⟨[.v false [.sl (r.map (rI .i64))]],[]⟩
def as_Ij (p0:Int) (p1:LI) (p2:Int):List Arg:=[.v false [.lit (vI p0)],.v false [.sl (p1.map (rI .i64))],.v false [.lit (vI p2)]]
def res_Ij (r:Int):FRes:=⟨[.v false [.lit (vI r)]],[]⟩
def as_Ie (p0:Int) (p1:LI):List Arg:=[.v false [.lit (vI p0)],.v false [.sl (p1.map (rI .i64))]]
def res_Ie (r:LI):FRes:=⟨[.v false [.sl (r.map (rI .i64))]],[]⟩
def as_Ik (p0:LI):List Arg:=[.v false [.sl (p0.map (rI .i64))]]
def res_Ik (r:Bool):FRes:=⟨[.v false [.lit (.bool r)]],[]⟩
def as_Ig (p0:Int) (p1 p2:LI):List Arg:=[.v false [.lit (vI p0)],.v false [.sl (p1.map (rI .i64))],.v false [.sl (p2.map (rI .i64))]]
def res_Ig (r:LI×LI):FRes:=⟨[.v false [.sl (r.1.map (rI .i64))],.v false [.sl (r.2.map (rI .i64))]],[]⟩
def as_Ib (p0:LI):List Arg:=[.v false [.sl (p0.map (rI .u8))]]
def res_Ib (r:Zb):FRes:=⟨[.v true [.lit (vI r.err),.lit (vI r.sound.rate),.lit (vI r.sound.bits),.lit (vI r.sound.frame),.sl (r.sound.channels.map (rL (rI .i64)))]],[]⟩
def as_Lb (p0 p1:LI):List Arg:=[.v false [.sl (p0.map (rI .i64))],.v false [.sl (p1.map (rI .i64))]]
def res_Lb (r:Bool):FRes:=⟨[.v false [.lit (.bool r)]],[]⟩
def as_Lc (p0:(List LI)) (p1:(List LI)):List Arg:=[.v false [.sl (p0.map (rL (rI .i64)))],.v false [.sl (p1.map (rL (rI .i64)))]]
def res_Lc (r:Bool):FRes:=⟨[.v false [.lit (.bool r)]],[]⟩
def as_Ld (p0 p1:Za):List Arg:=[.v true [.lit (vI p0.rate),.lit (vI p0.bits),.lit (vI p0.frame),.sl (p0.channels.map (rL (rI .i64)))],.v true [.lit (vI p1.rate),.lit (vI p1.bits),.lit (vI p1.frame),.sl (p1.channels.map (rL (rI .i64)))]]
def res_Ld (r:Bool):FRes:=⟨[.v false [.lit (.bool r)]],[]⟩
def as_Le (p0 p1:Zb):List Arg:=[.v true [.lit (vI p0.err),.lit (vI p0.sound.rate),.lit (vI p0.sound.bits),.lit (vI p0.sound.frame),.sl (p0.sound.channels.map (rL (rI .i64)))],.v true [.lit (vI p1.err),.lit (vI p1.sound.rate),.lit (vI p1.sound.bits),.lit (vI p1.sound.frame),.sl (p1.sound.channels.map (rL (rI .i64)))]]
def res_Le (r:Bool):FRes:=⟨[.v false [.lit (.bool r)]],[]⟩
def as_La (p0 p1:LI):List Arg:=[.v false [.sl (p0.map (rI .u8))],.v false [.sl (p1.map (rI .u8))]]
def res_La (r:Bool):FRes:=⟨[.v false [.lit (.bool r)]],[]⟩
def as_Lj (p0:LI) (p1:Int):List Arg:=[.m (.sl (p0.map (rI .u8))),.v false [.lit (vI p1)]]
def res_Lj (r:Int×LI):FRes:=⟨[.v false [.lit (vI r.1)]],[.sl (r.2.map (rI .u8))]⟩
def as_Lk (p0:LI) (p1:Int):List Arg:=[.m (.sl (p0.map (rI .i64))),.v false [.lit (vI p1)]]
def res_Lk (r:Int×LI):FRes:=⟨[.v false [.lit (vI r.1)]],[.sl (r.2.map (rI .i64))]⟩
def as_Ll (p0:(List LI)) (p1:Int):List Arg:=[.m (.sl (p0.map (rL (rI .i64)))),.v false [.lit (vI p1)]]
def res_Ll (r:Int×(List LI)):FRes:=⟨[.v false [.lit (vI r.1)]],[.sl (r.2.map (rL (rI .i64)))]⟩
def as_Lm (p0:Za) (p1:Int):List Arg:=[.v true [.lit (vI p0.rate),.lit (vI p0.bits),.lit (vI p0.frame),.sl (p0.channels.map (rL (rI .i64)))],.v false [.lit (vI p1)]]
def res_Lm (r:Int×Za):FRes:=⟨[.v false [.lit (vI r.1)]],[.sl (r.2.channels.map (rL (rI .i64)))]⟩
def as_Ln (p0:Zb) (p1:Int):List Arg:=[.v true [.lit (vI p0.err),.lit (vI p0.sound.rate),.lit (vI p0.sound.bits),.lit (vI p0.sound.frame),.sl (p0.sound.channels.map (rL (rI .i64)))],.v false [.lit (vI p1)]]
def res_Ln (r:Int×Zb):FRes:=⟨[.v false [.lit (vI r.1)]],[.sl (r.2.sound.channels.map (rL (rI .i64)))]⟩
def as_Lf (p0:LI) (p1:Int):List Arg:=[.v false [.sl (p0.map (rI .i64))],.v false [.lit (vI p1)]]
def res_Lf (r:Int):FRes:=⟨[.v false [.lit (vI r)]],[]⟩
def as_Lg (p0:(List LI)) (p1:Int):List Arg:=[.v false [.sl (p0.map (rL (rI .i64)))],.v false [.lit (vI p1)]]
def res_Lg (r:Int):FRes:=⟨[.v false [.lit (vI r)]],[]⟩
def as_Lh (p0:Za) (p1:Int):List Arg:=[.v true [.lit (vI p0.rate),.lit (vI p0.bits),.lit (vI p0.frame),.sl (p0.channels.map (rL (rI .i64)))],.v false [.lit (vI p1)]]
def res_Lh (r:Int):FRes:=⟨[.v false [.lit (vI r)]],[]⟩
def as_Li (p0:Zb) (p1:Int):List Arg:=[.v true [.lit (vI p0.err),.lit (vI p0.sound.rate),.lit (vI p0.sound.bits),.lit (vI p0.sound.frame),.sl (p0.sound.channels.map (rL (rI .i64)))],.v false [.lit (vI p1)]]
def res_Li (r:Int):FRes:=⟨[.v false [.lit (vI r)]],[]⟩
def as_laws_FnExactDecodeSound (p0:LI):List Arg:=[.v false [.sl (p0.map (rI .u8))]]
def res_laws_FnExactDecodeSound (r:Bool):FRes:=⟨[.v false [.lit (.bool r)]],[]⟩
def K_Lo_19:List Fr:=[]
def s_Lo_19 (a:LI):St:=
 ⟨mkSl 22 [(3,.v false [cR 0 a])],[some ⟨[.sc],(List.map (rI .u8) a)⟩],[]⟩
def K_Lo_9:List Fr:=[.lp [0,3,4] c_Lo_9,.bk 0,.sq (.kp [3] c_Lo_19)]
def s_Lo_9 (p0:LI) (b:Int) (a:LI):St:=
 ⟨mkSl 22 [(0,.v false [.ro [.sc] (p0.map (rI .u8))]),(3,.v false [cR 0 a]),(4,sI b)],[some ⟨[.sc],(List.map (rI .u8) a)⟩],[]⟩
def K_Lo_0:List Fr:=[]
def s_Lo_0 (p0:LI):St:=
 ⟨mkSl 22 [(0,.v false [.ro [.sc] (p0.map (rI .u8))])],[],[]⟩
def K_Ss_0:List Fr:=[]
def s_Ss_0 (p0:LI) (p1:Int) (p2:Bool):St:=
 ⟨mkSl 31 [(0,.v false [.ro [.sc] (p0.map (rI .u8))]),(1,sI p1),(2,sB p2)],[],[]⟩
def K_St_33:List Fr:=[]
def s_St_33 (p1 p2 a:Int):St:=
 ⟨mkSl 66 [(1,sI p1),(2,sI p2),(8,sP 0 0),(9,.v false [.lit (.int .u64 a)])],[],[some [cB false,.lit (.int .u64 0),cI 0]]⟩
def K_St_17:List Fr:=[.lp [0,1,2,3,8,9,10] c_St_17,.bk 0,.sq (.kp [1,2,8,9] c_St_33)]
def s_St_17 (p0:LI) (p1 p2:Int) (p3:Bool) (a b:Int):St:=
 ⟨mkSl 66 [(0,.v false [.ro [.sc] (p0.map (rI .u8))]),(1,sI p1),(2,sI p2),(3,sB p3),(8,sP 0 0),(9,.v false [.lit (.int .u64 a)]),(10,sI b)],[],[some [cB false,.lit (.int .u64 0),cI 0]]⟩
def K_St_5:List Fr:=[.sq c_St_10]
def s_St_5 (p0:LI) (p1 p2:Int) (p3 a:Bool):St:=
 ⟨mkSl 66 [(0,.v false [.ro [.sc] (p0.map (rI .u8))]),(1,sI p1),(2,sI p2),(3,sB p3),(8,sP 0 0),(37,sB a)],[],[some [cB false,.lit (.int .u64 0),cI 0]]⟩
def K_St_0:List Fr:=[]
def s_St_0 (p0:LI) (p1 p2:Int) (p3:Bool):St:=
 ⟨mkSl 66 [(0,.v false [.ro [.sc] (p0.map (rI .u8))]),(1,sI p1),(2,sI p2),(3,sB p3)],[],[]⟩
def K_Sj_0:List Fr:=[]
def s_Sj_0 (p1:Int) (p0:Zc):St:=
 ⟨mkSl 13 [(0,sP 0 0),(1,sI p1)],[],[some [.ro [.sc] (p0.data.map (rI .u8)),cI p0.at_,cI p0.err]]⟩
def K_Sq_10:List Fr:=[]
def s_Sq_10 (a:Zd) (b:LI) (c d:Int):St:=
 ⟨mkSl 34 [(0,sP 0 0),(5,sP 1 0)],[],[some [.ro [.sc] (b.map (rI .u8)),cI c,cI d],some [cB a.ok,.lit (.int .u64 a.value),cI a.next]]⟩
def K_Sq_0:List Fr:=[]
def s_Sq_0 (p1:Int) (p0:Zc):St:=
 ⟨mkSl 34 [(0,sP 0 0),(1,sI p1)],[],[some [.ro [.sc] (p0.data.map (rI .u8)),cI p0.at_,cI p0.err]]⟩
def K_Sn_18:List Fr:=[.bk 1,.sq c_Sn_21,.lp [0,7,8,9] c_Sn_4,.bk 0]
def s_Sn_18 (p1:LI) (b:Int) (a:Int×Zc) (c:Bool):St:=
 ⟨mkSl 29 [(0,sP 0 0),(7,.v false [.ro [.sc] (p1.map (rI .u8))]),(8,sI (p1.length:Int)),(9,sI b),(25,sB c)],[],[some [.ro [.sc] (a.2.data.map (rI .u8)),cI a.2.at_,cI a.2.err]]⟩
def K_Sn_4:List Fr:=[.lp [0,7,8,9] c_Sn_4,.bk 0]
def s_Sn_4 (p1:LI) (a:Int) (b:LI) (c d:Int):St:=
 ⟨mkSl 29 [(0,sP 0 0),(7,.v false [.ro [.sc] (p1.map (rI .u8))]),(8,sI (p1.length:Int)),(9,sI a)],[],[some [.ro [.sc] (b.map (rI .u8)),cI c,cI d]]⟩
def K_Sn_0:List Fr:=[]
def s_Sn_0 (p1:LI) (p0:Zc):St:=
 ⟨mkSl 29 [(0,sP 0 0),(1,.v false [.ro [.sc] (p1.map (rI .u8))])],[],[some [.ro [.sc] (p0.data.map (rI .u8)),cI p0.at_,cI p0.err]]⟩
def K_Sf_0:List Fr:=[]
def s_Sf_0 (p0:Za) (p1 p2:Int):St:=
 ⟨mkSl 45 [(0,.v true [cI p0.rate,cI p0.bits,cI p0.frame,.ro [.ro [.sc]] (p0.channels.map (rL (rI .i64)))]),(1,sI p1),(2,sI p2)],[],[]⟩
def K_Sp_0:List Fr:=[]
def s_Sp_0 (p1:Int) (p0:Zc):St:=
 ⟨mkSl 21 [(0,sP 0 0),(1,sI p1)],[],[some [.ro [.sc] (p0.data.map (rI .u8)),cI p0.at_,cI p0.err]]⟩
def K_Si_0:List Fr:=[]
def s_Si_0 (p0 p1 p2:Int):St:=
 ⟨mkSl 40 [(0,sI p0),(1,sI p1),(2,sI p2)],[],[]⟩
def K_Sd_0:List Fr:=[]
def s_Sd_0 (p0:Int):St:=
 ⟨mkSl 14 [(0,.v false [.lit (.int .u64 p0)])],[],[]⟩
def K_So_23:List Fr:=[]
def s_So_23 (p1 a:Int) (b:LI) (c d:Int):St:=
 ⟨mkSl 33 [(0,sP 0 0),(1,sI p1),(5,sI a)],[],[some [.ro [.sc] (b.map (rI .u8)),cI c,cI d]]⟩
def K_So_15:List Fr:=[.lp [0,1,5] c_So_15,.bk 0,.sq (.kp [0,1,5] c_So_23)]
def s_So_15 (p1 a:Int) (b:LI) (c d:Int):St:=
 ⟨mkSl 33 [(0,sP 0 0),(1,sI p1),(5,sI a)],[],[some [.ro [.sc] (b.map (rI .u8)),cI c,cI d]]⟩
def K_So_0:List Fr:=[]
def s_So_0 (p1:Int) (p0:Zc):St:=
 ⟨mkSl 33 [(0,sP 0 0),(1,sI p1)],[],[some [.ro [.sc] (p0.data.map (rI .u8)),cI p0.at_,cI p0.err]]⟩
def K_Sm_78:List Fr:=[.lp [0,1,6,7,9,10] c_Sm_40,.bk 2,.sq (.kp [0,6,7] c_Sm_79)]
def s_Sm_78 (p1:Int) (b:Int×Zc) (c:Int×Zc) (d:Int) (e:LI) (f g:Int) (a:LI):St:=
 ⟨mkSl 121 [(0,sP 0 0),(1,sI p1),(6,sI b.1),(7,.v false [cR 0 a]),(9,sI c.1),(10,sI d)],[jI a],[some [.ro [.sc] (e.map (rI .u8)),cI f,cI g]]⟩
def K_Sm_68:List Fr:=[.lp [0,1,6,7,9,10,11,12,13] c_Sm_68,.bk 4,.bk 3,.sq (.kp [0,1,6,7,9,10] c_Sm_78),.lp [0,1,6,7,9,10] c_Sm_40,.bk 2,.sq (.kp [0,6,7] c_Sm_79)]
def s_Sm_68 (p1:Int) (b:Int×Zc) (c:Int×Zc) (d:Int) (e:Int×Zc) (f g:Int) (h:LI) (i j:Int) (a:LI):St:=
 ⟨mkSl 121 [(0,sP 0 0),(1,sI p1),(6,sI b.1),(7,.v false [cR 0 a]),(9,sI c.1),(10,sI d),(11,sI e.1),(12,sI f),(13,sI g)],[jI a],[some [.ro [.sc] (h.map (rI .u8)),cI i,cI j]]⟩
def K_Sm_64:List Fr:=[.bk 3,.sq (.kp [0,1,6,7,9,10] c_Sm_78),.lp [0,1,6,7,9,10] c_Sm_40,.bk 2,.sq (.kp [0,6,7] c_Sm_79)]
def s_Sm_64 (p1:Int) (b:Int×Zc) (c:Int×Zc) (d:Int) (e:Int×Zc) (f:LI) (g h:Int) (a:LI) (i:Int):St:=
 ⟨mkSl 121 [(0,sP 0 0),(1,sI p1),(6,sI b.1),(7,.v false [cR 0 a]),(9,sI c.1),(10,sI d),(11,sI e.1),(12,sI i)],[jI a],[some [.ro [.sc] (f.map (rI .u8)),cI g,cI h]]⟩
def K_Sm_56:List Fr:=[.bk 3,.sq (.kp [0,1,6,7,9,10] c_Sm_78),.lp [0,1,6,7,9,10] c_Sm_40,.bk 2,.sq (.kp [0,6,7] c_Sm_79)]
def s_Sm_56 (p1:Int) (b:Int×Zc) (c:Int×Zc) (d:Int) (e:Int×Zc) (a f:LI) (g h:Int):St:=
 ⟨mkSl 121 [(0,sP 0 0),(1,sI p1),(6,sI b.1),(7,.v false [cR 0 a]),(9,sI c.1),(10,sI d),(11,sI e.1)],[jI a],[some [.ro [.sc] (f.map (rI .u8)),cI g,cI h]]⟩
def K_Sm_53:List Fr:=[.sq (.kp [0,1,6,7,9,10,11] c_Sm_56),.bk 3,.sq (.kp [0,1,6,7,9,10] c_Sm_78),.lp [0,1,6,7,9,10] c_Sm_40,.bk 2,.sq (.kp [0,6,7] c_Sm_79)]
def s_Sm_53 (p1:Int) (c:Int×Zc) (d:Int×Zc) (e:Int) (a:Int×Zc) (b:LI) (f:Bool):St:=
 ⟨mkSl 121 [(0,sP 0 0),(1,sI p1),(6,sI c.1),(7,.v false [cR 0 b]),(9,sI d.1),(10,sI e),(11,sI a.1),(89,sB f)],[jI b],[some [.ro [.sc] (a.2.data.map (rI .u8)),cI a.2.at_,cI a.2.err]]⟩
def K_Sm_79:List Fr:=[]
def s_Sm_79 (b:Int×Zc) (c:LI) (d e:Int) (a:LI):St:=
 ⟨mkSl 121 [(0,sP 0 0),(6,sI b.1),(7,.v false [cR 0 a])],[jI a],[some [.ro [.sc] (c.map (rI .u8)),cI d,cI e]]⟩
def K_Sm_40:List Fr:=[.lp [0,1,6,7,9,10] c_Sm_40,.bk 2,.sq (.kp [0,6,7] c_Sm_79)]
def s_Sm_40 (p1:Int) (b:Int×Zc) (c:Int×Zc) (d:Int) (e:LI) (f g:Int) (a:LI):St:=
 ⟨mkSl 121 [(0,sP 0 0),(1,sI p1),(6,sI b.1),(7,.v false [cR 0 a]),(9,sI c.1),(10,sI d)],[jI a],[some [.ro [.sc] (e.map (rI .u8)),cI f,cI g]]⟩
def K_Sm_35:List Fr:=[]
def s_Sm_35 (p1:Int) (b:Int×Zc) (c:Int×Zc) (a d:LI) (e f:Int):St:=
 ⟨mkSl 121 [(0,sP 0 0),(1,sI p1),(6,sI b.1),(7,.v false [cR 0 a]),(9,sI c.1)],[jI a],[some [.ro [.sc] (d.map (rI .u8)),cI e,cI f]]⟩
def K_Sm_32:List Fr:=[.sq (.kp [0,1,6,7,9] c_Sm_35)]
def s_Sm_32 (p1:Int) (c:Int×Zc) (a:Int×Zc) (b:LI) (d:Bool):St:=
 ⟨mkSl 121 [(0,sP 0 0),(1,sI p1),(6,sI c.1),(7,.v false [cR 0 b]),(9,sI a.1),(62,sB d)],[jI b],[some [.ro [.sc] (a.2.data.map (rI .u8)),cI a.2.at_,cI a.2.err]]⟩
def K_Sm_27:List Fr:=[]
def s_Sm_27 (p1:Int) (b:Int×Zc) (c:LI) (d e:Int) (a:LI):St:=
 ⟨mkSl 121 [(0,sP 0 0),(1,sI p1),(6,sI b.1),(7,.v false [cR 0 a])],[jI a],[some [.ro [.sc] (c.map (rI .u8)),cI d,cI e]]⟩
def K_Sm_17:List Fr:=[.lp [0,1,6,7,8] c_Sm_17,.bk 0,.sq (.kp [0,1,6,7] c_Sm_27)]
def s_Sm_17 (p1:Int) (b:Int×Zc) (c:Int) (d:LI) (e f:Int) (a:LI):St:=
 ⟨mkSl 121 [(0,sP 0 0),(1,sI p1),(6,sI b.1),(7,.v false [cR 0 a]),(8,sI c)],[jI a],[some [.ro [.sc] (d.map (rI .u8)),cI e,cI f]]⟩
def K_Sm_10:List Fr:=[]
def s_Sm_10 (p1:Int) (a:Int×Zc) (b:LI) (c d:Int):St:=
 ⟨mkSl 121 [(0,sP 0 0),(1,sI p1),(6,sI a.1)],[],[some [.ro [.sc] (b.map (rI .u8)),cI c,cI d]]⟩
def K_Sm_7:List Fr:=[.sq (.kp [0,1,6] c_Sm_10)]
def s_Sm_7 (p1:Int) (a:Int×Zc) (b:Bool):St:=
 ⟨mkSl 121 [(0,sP 0 0),(1,sI p1),(6,sI a.1),(29,sB b)],[],[some [.ro [.sc] (a.2.data.map (rI .u8)),cI a.2.at_,cI a.2.err]]⟩
def K_Sm_0:List Fr:=[]
def s_Sm_0 (p1:Int) (p0:Zc):St:=
 ⟨mkSl 121 [(0,sP 0 0),(1,sI p1)],[],[some [.ro [.sc] (p0.data.map (rI .u8)),cI p0.at_,cI p0.err]]⟩
def K_Sk_2:List Fr:=[.lp [0] c_Sk_2,.bk 0]
def s_Sk_2 (a:LI) (b c:Int):St:=
 ⟨mkSl 20 [(0,sP 0 0)],[],[some [.ro [.sc] (a.map (rI .u8)),cI b,cI c]]⟩
def K_Sk_0:List Fr:=[]
def s_Sk_0 (p0:Zc):St:=
 ⟨mkSl 20 [(0,sP 0 0)],[],[some [.ro [.sc] (p0.data.map (rI .u8)),cI p0.at_,cI p0.err]]⟩
def K_Sa_43:List Fr:=[.lp [3,8,9,10] c_Sa_9,.bk 0,.sq (.kp [3] c_Sa_44)]
def s_Sa_43 (p0:LI) (a b:Int):St:=
 ⟨mkSl 33 [(3,.v false [.lit (.int .u32 b)]),(8,.v false [.ro [.sc] (p0.map (rI .u8))]),(9,sI (p0.length:Int)),(10,sI a)],[],[]⟩
def K_Sa_25:List Fr:=[.lp [3,6,8,9,10] c_Sa_25,.bk 2,.bk 1,.sq (.kp [3,8,9,10] c_Sa_43),.lp [3,8,9,10] c_Sa_9,.bk 0,.sq (.kp [3] c_Sa_44)]
def s_Sa_25 (p0:LI) (a b c:Int):St:=
 ⟨mkSl 33 [(3,.v false [.lit (.int .u32 b)]),(6,sI c),(8,.v false [.ro [.sc] (p0.map (rI .u8))]),(9,sI (p0.length:Int)),(10,sI a)],[],[]⟩
def K_Sa_44:List Fr:=[]
def s_Sa_44 (a:Int):St:=
 ⟨mkSl 33 [(3,.v false [.lit (.int .u32 a)])],[],[]⟩
def K_Sa_9:List Fr:=[.lp [3,8,9,10] c_Sa_9,.bk 0,.sq (.kp [3] c_Sa_44)]
def s_Sa_9 (p0:LI) (a b:Int):St:=
 ⟨mkSl 33 [(3,.v false [.lit (.int .u32 a)]),(8,.v false [.ro [.sc] (p0.map (rI .u8))]),(9,sI (p0.length:Int)),(10,sI b)],[],[]⟩
def K_Sa_0:List Fr:=[]
def s_Sa_0 (p0:LI):St:=
 ⟨mkSl 33 [(0,.v false [.ro [.sc] (p0.map (rI .u8))])],[],[]⟩
def K_Se_0:List Fr:=[]
def s_Se_0 (p0:Int) (p1:LI) (p2:Int):St:=
 ⟨mkSl 78 [(0,sI p0),(1,.v false [.ro [.sc] (p1.map (rI .i64))]),(2,sI p2)],[],[]⟩
def K_Sc_58:List Fr:=[.bk 3,.sq c_Sc_65,.lp [0,1,7,37,38] c_Sc_40,.bk 2,.sq (.kp [7] c_Sc_66)]
def s_Sc_58 (p0:Int) (p1:LI) (a:Int) (b:LI):St:=
 ⟨mkSl 75 [(0,sI p0),(1,.v false [.ro [.sc] (p1.map (rI .i64))]),(7,.v false [cR 0 b]),(8,sI a),(37,sI (p1.length:Int)),(38,sI a)],[jI b],[]⟩
def K_Sc_66:List Fr:=[]
def s_Sc_66 (a:LI):St:=
 ⟨mkSl 75 [(7,.v false [cR 0 a])],[jI a],[]⟩
def K_Sc_40:List Fr:=[.lp [0,1,7,37,38] c_Sc_40,.bk 2,.sq (.kp [7] c_Sc_66)]
def s_Sc_40 (p0:Int) (p1:LI) (b:Int) (a:LI):St:=
 ⟨mkSl 75 [(0,sI p0),(1,.v false [.ro [.sc] (p1.map (rI .i64))]),(7,.v false [cR 0 a]),(37,sI (p1.length:Int)),(38,sI b)],[jI a],[]⟩
def K_Sc_33:List Fr:=[]
def s_Sc_33 (p0:Int) (p1:LI):St:=
 ⟨mkSl 75 [(0,sI p0),(1,.v false [.ro [.sc] (p1.map (rI .i64))])],[],[]⟩
def K_Sc_15:List Fr:=[.lp [0,1,20,21,22] c_Sc_15,.bk 0,.sq (.kp [0,1] c_Sc_33)]
def s_Sc_15 (p0:Int) (p1:LI) (a:Int):St:=
 ⟨mkSl 75 [(0,sI p0),(1,.v false [.ro [.sc] (p1.map (rI .i64))]),(20,.v false [.ro [.sc] (p1.map (rI .i64))]),(21,sI (p1.length:Int)),(22,sI a)],[],[]⟩
def K_Sc_0:List Fr:=[]
def s_Sc_0 (p0:Int) (p1:LI):St:=
 ⟨mkSl 75 [(0,sI p0),(1,.v false [.ro [.sc] (p1.map (rI .i64))])],[],[]⟩
def K_Sh_25:List Fr:=[]
def s_Sh_25 (p0:LI):St:=
 ⟨mkSl 21 [(0,.v false [.ro [.sc] (p0.map (rI .i64))])],[],[]⟩
def K_Sh_7:List Fr:=[.lp [0,5,6,7] c_Sh_7,.bk 0,.sq (.kp [0] c_Sh_25)]
def s_Sh_7 (p0:LI) (a:Int):St:=
 ⟨mkSl 21 [(0,.v false [.ro [.sc] (p0.map (rI .i64))]),(5,.v false [.ro [.sc] (p0.map (rI .i64))]),(6,sI (p0.length:Int)),(7,sI a)],[],[]⟩
def K_Sh_0:List Fr:=[]
def s_Sh_0 (p0:LI):St:=
 ⟨mkSl 21 [(0,.v false [.ro [.sc] (p0.map (rI .i64))])],[],[]⟩
def K_Sr_39:List Fr:=[.bk 1,.sq c_Sr_46,.lp [0,1,2,8,9,18,19] c_Sr_11,.bk 0,.sq (.kp [8,9] c_Sr_47)]
def s_Sr_39 (p0:Int) (p1 p2:LI) (a:Int) (b c:LI):St:=
 ⟨mkSl 121 [(0,sI p0),(1,.v false [.ro [.sc] (p1.map (rI .i64))]),(2,.v false [.ro [.sc] (p2.map (rI .i64))]),(8,.v false [cR 0 b]),(9,.v false [cR 1 c]),(10,sI a),(18,sI (p1.length:Int)),(19,sI a)],[jI b,jI c],[]⟩
def K_Sr_24:List Fr:=[.sq c_Sr_29,.bk 1,.sq c_Sr_46,.lp [0,1,2,8,9,18,19] c_Sr_11,.bk 0,.sq (.kp [8,9] c_Sr_47)]
def s_Sr_24 (p0:Int) (p1 p2:LI) (a:Int) (b c:LI) (d:Bool):St:=
 ⟨mkSl 121 [(0,sI p0),(1,.v false [.ro [.sc] (p1.map (rI .i64))]),(2,.v false [.ro [.sc] (p2.map (rI .i64))]),(8,.v false [cR 0 b]),(9,.v false [cR 1 c]),(10,sI a),(18,sI (p1.length:Int)),(19,sI a),(47,sB d)],[jI b,jI c],[]⟩
def K_Sr_50:List Fr:=[.sq c_Sr_55]
def s_Sr_50 (a b:LI) (c:Bool):St:=
 ⟨mkSl 121 [(8,.v false [cR 0 a]),(9,.v false [cR 1 b]),(118,sB c)],[jI a,jI b],[]⟩
def K_Sr_47:List Fr:=[]
def s_Sr_47 (a b:LI):St:=
 ⟨mkSl 121 [(8,.v false [cR 0 a]),(9,.v false [cR 1 b])],[jI a,jI b],[]⟩
def K_Sr_11:List Fr:=[.lp [0,1,2,8,9,18,19] c_Sr_11,.bk 0,.sq (.kp [8,9] c_Sr_47)]
def s_Sr_11 (p0:Int) (p1 p2:LI) (c:Int) (a b:LI):St:=
 ⟨mkSl 121 [(0,sI p0),(1,.v false [.ro [.sc] (p1.map (rI .i64))]),(2,.v false [.ro [.sc] (p2.map (rI .i64))]),(8,.v false [cR 0 a]),(9,.v false [cR 1 b]),(18,sI (p1.length:Int)),(19,sI c)],[jI a,jI b],[]⟩
def K_Sr_0:List Fr:=[]
def s_Sr_0 (p0:Int) (p1 p2:LI):St:=
 ⟨mkSl 121 [(0,sI p0),(1,.v false [.ro [.sc] (p1.map (rI .i64))]),(2,.v false [.ro [.sc] (p2.map (rI .i64))])],[],[]⟩
def K_Sg_27:List Fr:=[]
def s_Sg_27:St:=
 ⟨mkSl 28 [],[],[]⟩
def K_Sg_9:List Fr:=[.lp [5,12,13,14] c_Sg_9,.bk 0,.sq (.kp [] c_Sg_27)]
def s_Sg_9 (p1:LI) (a b:Int):St:=
 ⟨mkSl 28 [(5,sI a),(12,.v false [.ro [.sc] (p1.map (rI .i64))]),(13,sI (p1.length:Int)),(14,sI b)],[],[]⟩
def K_Sg_0:List Fr:=[]
def s_Sg_0 (p0:Int) (p1:LI):St:=
 ⟨mkSl 28 [(0,sI p0),(1,.v false [.ro [.sc] (p1.map (rI .i64))])],[],[]⟩
def K_Sl_115:List Fr:=[.bk 5,.sq c_Sl_118,.lp [0,1,3,5,12,158,159,160] c_Sl_103,.bk 4,.sq (.kp [0,1,12] c_Sl_119)]
def s_Sl_115 (p1:Za) (p3:Int) (a:(List LI)) (b:Int) (c:LI) (d e:Int) (f:Bool):St:=
 ⟨mkSl 179 [(0,sP 0 0),(1,.v true [cI p1.rate,cI p1.bits,cI p1.frame,cR 0 p1.channels]),(3,sI p3),(5,sP 1 0),(12,.v false [cR 1 a]),(158,.v false [cR 1 a]),(159,sI (a.length:Int)),(160,sI b),(174,sB f)],[some ⟨[.own [.sc]],(List.map (rL (rI .i64)) p1.channels)⟩,some ⟨[.own [.sc]],(List.map (rL (rI .i64)) a)⟩],[some [.ro [.sc] (c.map (rI .u8)),cI d,cI e],some [cI p1.rate,cI p1.bits,cI p1.frame,cR 0 p1.channels]]⟩
def K_Sl_119:List Fr:=[]
def s_Sl_119 (p1:Za) (a:(List LI)) (b:LI) (c d:Int):St:=
 ⟨mkSl 179 [(0,sP 0 0),(1,.v true [cI p1.rate,cI p1.bits,cI p1.frame,cR 0 p1.channels]),(12,.v false [cR 1 a])],[some ⟨[.own [.sc]],(List.map (rL (rI .i64)) p1.channels)⟩,some ⟨[.own [.sc]],(List.map (rL (rI .i64)) a)⟩],[some [.ro [.sc] (b.map (rI .u8)),cI c,cI d]]⟩
def K_Sl_103:List Fr:=[.lp [0,1,3,5,12,158,159,160] c_Sl_103,.bk 4,.sq (.kp [0,1,12] c_Sl_119)]
def s_Sl_103 (p1:Za) (p3:Int) (a:(List LI)) (b:Int) (c:LI) (d e:Int):St:=
 ⟨mkSl 179 [(0,sP 0 0),(1,.v true [cI p1.rate,cI p1.bits,cI p1.frame,cR 0 p1.channels]),(3,sI p3),(5,sP 1 0),(12,.v false [cR 1 a]),(158,.v false [cR 1 a]),(159,sI (a.length:Int)),(160,sI b)],[some ⟨[.own [.sc]],(List.map (rL (rI .i64)) p1.channels)⟩,some ⟨[.own [.sc]],(List.map (rL (rI .i64)) a)⟩],[some [.ro [.sc] (c.map (rI .u8)),cI d,cI e],some [cI p1.rate,cI p1.bits,cI p1.frame,cR 0 p1.channels]]⟩
def K_Sl_98:List Fr:=[]
def s_Sl_98 (p1:Za) (p3:Int) (b:LI) (c d:Int) (a:(List LI)):St:=
 ⟨mkSl 179 [(0,sP 0 0),(1,.v true [cI p1.rate,cI p1.bits,cI p1.frame,cR 0 p1.channels]),(3,sI p3),(5,sP 1 0),(12,.v false [cR 1 a])],[some ⟨[.own [.sc]],(List.map (rL (rI .i64)) p1.channels)⟩,some ⟨[.own [.sc]],(List.map (rL (rI .i64)) a)⟩],[some [.ro [.sc] (b.map (rI .u8)),cI c,cI d],some [cI p1.rate,cI p1.bits,cI p1.frame,cR 0 p1.channels]]⟩
def K_Sl_90:List Fr:=[]
def s_Sl_90 (p1:Za) (p2 p3:Int) (b:Int×Zc) (c:LI) (d e:Int) (a:(List LI)):St:=
 ⟨mkSl 179 [(0,sP 0 0),(1,.v true [cI p1.rate,cI p1.bits,cI p1.frame,cR 0 p1.channels]),(2,sI p2),(3,sI p3),(5,sP 1 0),(10,sI b.1),(12,.v false [cR 1 a])],[some ⟨[.own [.sc]],(List.map (rL (rI .i64)) p1.channels)⟩,some ⟨[.own [.sc]],(List.map (rL (rI .i64)) a)⟩],[some [.ro [.sc] (c.map (rI .u8)),cI d,cI e],some [cI p1.rate,cI p1.bits,cI p1.frame,cR 0 p1.channels]]⟩
def K_Sl_68:List Fr:=[.lp [0,1,2,3,5,10,11,12,116,117] c_Sl_68,.bk 2,.sq (.kp [0,1,2,3,5,10,12] c_Sl_90)]
def s_Sl_68 (p1:Za) (p2 p3:Int) (c:Int×Zc) (d:(List LI)) (e:LI) (f g:Int) (a:LI) (h:Int) (b:(List LI)):St:=
 ⟨mkSl 179 [(0,sP 0 0),(1,.v true [cI p1.rate,cI p1.bits,cI p1.frame,cR 0 p1.channels]),(2,sI p2),(3,sI p3),(5,sP 1 0),(10,sI c.1),(11,.v false [cR 1 a]),(12,.v false [cR 2 b]),(116,sI (d.length:Int)),(117,sI h)],[some ⟨[.own [.sc]],(List.map (rL (rI .i64)) p1.channels)⟩,jI a,some ⟨[.own [.sc]],(List.map (rL (rI .i64)) b)⟩],[some [.ro [.sc] (e.map (rI .u8)),cI f,cI g],some [cI p1.rate,cI p1.bits,cI p1.frame,cR 0 p1.channels]]⟩
def K_Sl_55:List Fr:=[]
def s_Sl_55 (p1:Za) (p2 p3:Int) (c:Int×Zc) (a:LI) (b:(List LI)) (d:LI) (e f:Int):St:=
 ⟨mkSl 179 [(0,sP 0 0),(1,.v true [cI p1.rate,cI p1.bits,cI p1.frame,cR 0 p1.channels]),(2,sI p2),(3,sI p3),(5,sP 1 0),(10,sI c.1),(11,.v false [cR 1 a]),(12,.v false [cR 2 b])],[some ⟨[.own [.sc]],(List.map (rL (rI .i64)) p1.channels)⟩,jI a,some ⟨[.own [.sc]],(List.map (rL (rI .i64)) b)⟩],[some [.ro [.sc] (d.map (rI .u8)),cI e,cI f],some [cI p1.rate,cI p1.bits,cI p1.frame,cR 0 p1.channels]]⟩
def K_Sl_52:List Fr:=[.sq (.kp [0,1,2,3,5,10,11,12] c_Sl_55)]
def s_Sl_52 (p1:Za) (p2 p3:Int) (d:Int×Zc) (a:Int×Zc) (b:LI) (c:(List LI)) (e:Bool):St:=
 ⟨mkSl 179 [(0,sP 0 0),(1,.v true [cI p1.rate,cI p1.bits,cI p1.frame,cR 0 p1.channels]),(2,sI p2),(3,sI p3),(5,sP 1 0),(10,sI d.1),(11,.v false [cR 1 b]),(12,.v false [cR 2 c]),(107,sB e)],[some ⟨[.own [.sc]],(List.map (rL (rI .i64)) p1.channels)⟩,jI b,some ⟨[.own [.sc]],(List.map (rL (rI .i64)) c)⟩],[some [.ro [.sc] (a.2.data.map (rI .u8)),cI a.2.at_,cI a.2.err],some [cI p1.rate,cI p1.bits,cI p1.frame,cR 0 p1.channels]]⟩
def K_Sl_35:List Fr:=[]
def s_Sl_35 (p1:Za) (p2 p3 c:Int) (d:Int×Zc) (e:LI) (f g:Int) (a:LI) (b:(List LI)):St:=
 ⟨mkSl 179 [(0,sP 0 0),(1,.v true [cI p1.rate,cI p1.bits,cI p1.frame,cR 0 p1.channels]),(2,sI p2),(3,sI p3),(5,sP 1 0),(9,sI c),(10,sI d.1),(11,.v false [cR 1 a]),(12,.v false [cR 2 b])],[some ⟨[.own [.sc]],(List.map (rL (rI .i64)) p1.channels)⟩,jI a,some ⟨[.own [.sc]],(List.map (rL (rI .i64)) b)⟩],[some [.ro [.sc] (e.map (rI .u8)),cI f,cI g],some [cI p1.rate,cI p1.bits,cI p1.frame,cR 0 p1.channels]]⟩
def K_Sl_21:List Fr:=[.lp [0,1,2,3,5,9,10,11,12,13] c_Sl_21,.bk 0,.sq (.kp [0,1,2,3,5,9,10,11,12] c_Sl_35)]
def s_Sl_21 (p1:Za) (p2 p3 c:Int) (d:Int×Zc) (e:Int) (f:LI) (g h:Int) (a:LI) (b:(List LI)):St:=
 ⟨mkSl 179 [(0,sP 0 0),(1,.v true [cI p1.rate,cI p1.bits,cI p1.frame,cR 0 p1.channels]),(2,sI p2),(3,sI p3),(5,sP 1 0),(9,sI c),(10,sI d.1),(11,.v false [cR 1 a]),(12,.v false [cR 2 b]),(13,sI e)],[some ⟨[.own [.sc]],(List.map (rL (rI .i64)) p1.channels)⟩,jI a,some ⟨[.own [.sc]],(List.map (rL (rI .i64)) b)⟩],[some [.ro [.sc] (f.map (rI .u8)),cI g,cI h],some [cI p1.rate,cI p1.bits,cI p1.frame,cR 0 p1.channels]]⟩
def K_Sl_12:List Fr:=[]
def s_Sl_12 (p1:Za) (p2 p3 a:Int) (b:Int×Zc) (c:LI) (d e:Int):St:=
 ⟨mkSl 179 [(0,sP 0 0),(1,.v true [cI p1.rate,cI p1.bits,cI p1.frame,cR 0 p1.channels]),(2,sI p2),(3,sI p3),(5,sP 1 0),(9,sI a),(10,sI b.1)],[some ⟨[.own [.sc]],(List.map (rL (rI .i64)) p1.channels)⟩],[some [.ro [.sc] (c.map (rI .u8)),cI d,cI e],some [cI p1.rate,cI p1.bits,cI p1.frame,cR 0 p1.channels]]⟩
def K_Sl_9:List Fr:=[.sq (.kp [0,1,2,3,5,9,10] c_Sl_12)]
def s_Sl_9 (p1:Za) (p2 p3:Int) (a:Int×Zc) (b:Int) (c:Bool):St:=
 ⟨mkSl 179 [(0,sP 0 0),(1,.v true [cI p1.rate,cI p1.bits,cI p1.frame,cR 0 p1.channels]),(2,sI p2),(3,sI p3),(5,sP 1 0),(9,sI b),(10,sI a.1),(46,sB c)],[some ⟨[.own [.sc]],(List.map (rL (rI .i64)) p1.channels)⟩],[some [.ro [.sc] (a.2.data.map (rI .u8)),cI a.2.at_,cI a.2.err],some [cI p1.rate,cI p1.bits,cI p1.frame,cR 0 p1.channels]]⟩
def K_Sl_0:List Fr:=[]
def s_Sl_0 (p1:Za) (p2 p3:Int) (p0:Zc):St:=
 ⟨mkSl 179 [(0,sP 0 0),(1,.v true [cI p1.rate,cI p1.bits,cI p1.frame,cR 0 p1.channels]),(2,sI p2),(3,sI p3)],[some ⟨[.own [.sc]],(List.map (rL (rI .i64)) p1.channels)⟩],[some [.ro [.sc] (p0.data.map (rI .u8)),cI p0.at_,cI p0.err]]⟩
def K_Sb_79:List Fr:=[.lp [0,2,3,4,5,6,7] c_Sb_47,.bk 0,.sq (.kp [0,2,3,4] c_Sb_80)]
def s_Sb_79 (p0:LI) (c:Int) (d:Int×Zc) (e:Int) (a:(List LI)×Zc×Za) (f:Int×Zc) (g:Int×Zc) (h:Int×Zc) (b:(List LI)):St:=
 ⟨mkSl 139 [(0,.v false [.ro [.sc] (p0.map (rI .u8))]),(2,sP 0 0),(3,sP 1 0),(4,sP 2 0),(5,sI c),(6,sI d.1),(7,sI e)],[some ⟨[.own [.sc]],(List.map (rL (rI .i64)) ([]:List LI))⟩,some ⟨[.own [.sc]],(List.map (rL (rI .i64)) b)⟩],[some [cI 0,cI 0,cI 0,cI 0,.ref 0 [] 0 (([]:List LI).length)],some [.ro [.sc] (a.2.1.data.map (rI .u8)),cI a.2.1.at_,cI a.2.1.err],some [cI f.1,cI g.1,cI h.1,cR 1 b]]⟩
def K_Sb_67:List Fr:=[.lp [0,2,3,4,5,6,7,91,92,93] c_Sb_67,.bk 2,.bk 1,.sq (.kp [0,2,3,4,5,6,7] c_Sb_79),.lp [0,2,3,4,5,6,7] c_Sb_47,.bk 0,.sq (.kp [0,2,3,4] c_Sb_80)]
def s_Sb_67 (p0:LI) (c:Int) (d:Int×Zc) (e:Int) (a:(List LI)×Zc×Za) (f:Int×Zc) (g:Int×Zc) (h:Int×Zc) (i:Int) (b:(List LI)):St:=
 ⟨mkSl 139 [(0,.v false [.ro [.sc] (p0.map (rI .u8))]),(2,sP 0 0),(3,sP 1 0),(4,sP 2 0),(5,sI c),(6,sI d.1),(7,sI e),(91,.v false [cR 0 a.1]),(92,sI (a.1.length:Int)),(93,sI i)],[some ⟨[.own [.sc]],(List.map (rL (rI .i64)) a.1)⟩,some ⟨[.own [.sc]],(List.map (rL (rI .i64)) ([]:List LI))⟩,some ⟨[.own [.sc]],(List.map (rL (rI .i64)) b)⟩],[some [cI 0,cI 0,cI 0,cI 0,.ref 1 [] 0 (([]:List LI).length)],some [.ro [.sc] (a.2.1.data.map (rI .u8)),cI a.2.1.at_,cI a.2.1.err],some [cI f.1,cI g.1,cI h.1,cR 2 b]]⟩
def K_Sb_63:List Fr:=[.bk 1,.sq (.kp [0,2,3,4,5,6,7] c_Sb_79),.lp [0,2,3,4,5,6,7] c_Sb_47,.bk 0,.sq (.kp [0,2,3,4] c_Sb_80)]
def s_Sb_63 (p0:LI) (b:Int) (c:Int×Zc) (d:Int) (e:LI) (f g:Int) (h:Int×Zc) (i:Int×Zc) (j:Int×Zc) (a:(List LI)) (k:Int):St:=
 ⟨mkSl 139 [(0,.v false [.ro [.sc] (p0.map (rI .u8))]),(2,sP 0 0),(3,sP 1 0),(4,sP 2 0),(5,sI b),(6,sI c.1),(7,sI d),(8,sI k)],[some ⟨[.own [.sc]],(List.map (rL (rI .i64)) ([]:List LI))⟩,some ⟨[.own [.sc]],(List.map (rL (rI .i64)) a)⟩],[some [cI 0,cI 0,cI 0,cI 0,.ref 0 [] 0 (([]:List LI).length)],some [.ro [.sc] (e.map (rI .u8)),cI f,cI g],some [cI h.1,cI i.1,cI j.1,cR 1 a]]⟩
def K_Sb_86:List Fr:=[]
def s_Sb_86 (b:Int×Zc) (c:Int×Zc) (d:Int×Zc) (a:(List LI)) (e:LI) (f g:Int):St:=
 ⟨mkSl 139 [(2,sP 0 0),(3,sP 1 0),(4,sP 2 0)],[some ⟨[.own [.sc]],(List.map (rL (rI .i64)) ([]:List LI))⟩,some ⟨[.own [.sc]],(List.map (rL (rI .i64)) a)⟩],[some [cI 0,cI 0,cI 0,cI 0,.ref 0 [] 0 (([]:List LI).length)],some [.ro [.sc] (e.map (rI .u8)),cI f,cI g],some [cI b.1,cI c.1,cI d.1,cR 1 a]]⟩
def K_Sb_83:List Fr:=[.sq (.kp [2,3,4] c_Sb_86)]
def s_Sb_83 (b:LI) (c d:Int) (e:Int×Zc) (f:Int×Zc) (g:Int×Zc) (a:(List LI)) (h:Bool):St:=
 ⟨mkSl 139 [(2,sP 0 0),(3,sP 1 0),(4,sP 2 0),(124,sB h)],[some ⟨[.own [.sc]],(List.map (rL (rI .i64)) ([]:List LI))⟩,some ⟨[.own [.sc]],(List.map (rL (rI .i64)) a)⟩],[some [cI 0,cI 0,cI 0,cI 0,.ref 0 [] 0 (([]:List LI).length)],some [.ro [.sc] (b.map (rI .u8)),cI c,cI d],some [cI e.1,cI f.1,cI g.1,cR 1 a]]⟩
def K_Sb_80:List Fr:=[]
def s_Sb_80 (p0:LI) (b:Int×Zc) (c:Int×Zc) (d:Int×Zc) (e:LI) (f g:Int) (a:(List LI)):St:=
 ⟨mkSl 139 [(0,.v false [.ro [.sc] (p0.map (rI .u8))]),(2,sP 0 0),(3,sP 1 0),(4,sP 2 0)],[some ⟨[.own [.sc]],(List.map (rL (rI .i64)) ([]:List LI))⟩,some ⟨[.own [.sc]],(List.map (rL (rI .i64)) a)⟩],[some [cI 0,cI 0,cI 0,cI 0,.ref 0 [] 0 (([]:List LI).length)],some [.ro [.sc] (e.map (rI .u8)),cI f,cI g],some [cI b.1,cI c.1,cI d.1,cR 1 a]]⟩
def K_Sb_47:List Fr:=[.lp [0,2,3,4,5,6,7] c_Sb_47,.bk 0,.sq (.kp [0,2,3,4] c_Sb_80)]
def s_Sb_47 (p0:LI) (b:Int) (c:Int×Zc) (d:Int×Zc) (e:Int×Zc) (f:Int×Zc) (g:Int) (h:LI) (i j:Int) (a:(List LI)):St:=
 ⟨mkSl 139 [(0,.v false [.ro [.sc] (p0.map (rI .u8))]),(2,sP 0 0),(3,sP 1 0),(4,sP 2 0),(5,sI b),(6,sI c.1),(7,sI g)],[some ⟨[.own [.sc]],(List.map (rL (rI .i64)) ([]:List LI))⟩,some ⟨[.own [.sc]],(List.map (rL (rI .i64)) a)⟩],[some [cI 0,cI 0,cI 0,cI 0,.ref 0 [] 0 (([]:List LI).length)],some [.ro [.sc] (h.map (rI .u8)),cI i,cI j],some [cI d.1,cI e.1,cI f.1,cR 1 a]]⟩
def K_Sb_32:List Fr:=[]
def s_Sb_32 (p0:LI) (a:Int) (b:Int×Zc) (c:Int×Zc) (d:Int×Zc) (e:Int×Zc) (f:LI) (g h:Int):St:=
 ⟨mkSl 139 [(0,.v false [.ro [.sc] (p0.map (rI .u8))]),(2,sP 0 0),(3,sP 1 0),(4,sP 2 0),(5,sI a),(6,sI b.1)],[some ⟨[.own [.sc]],(List.map (rL (rI .i64)) ([]:List LI))⟩,some ⟨[.own [.sc]],(List.map (rL (rI .i64)) ([]:List LI))⟩],[some [cI 0,cI 0,cI 0,cI 0,.ref 0 [] 0 (([]:List LI).length)],some [.ro [.sc] (f.map (rI .u8)),cI g,cI h],some [cI c.1,cI d.1,cI e.1,.ref 1 [] 0 (([]:List LI).length)]]⟩
def K_Sb_29:List Fr:=[.sq (.kp [0,2,3,4,5,6] c_Sb_32)]
def s_Sb_29 (p0:LI) (a:Int×Zc) (b:Int×Zc) (c:Int×Zc) (d:Int×Zc) (e:Int) (f:Bool):St:=
 ⟨mkSl 139 [(0,.v false [.ro [.sc] (p0.map (rI .u8))]),(2,sP 0 0),(3,sP 1 0),(4,sP 2 0),(5,sI e),(6,sI a.1),(47,sB f)],[some ⟨[.own [.sc]],(List.map (rL (rI .i64)) ([]:List LI))⟩,some ⟨[.own [.sc]],(List.map (rL (rI .i64)) ([]:List LI))⟩],[some [cI 0,cI 0,cI 0,cI 0,.ref 0 [] 0 (([]:List LI).length)],some [.ro [.sc] (a.2.data.map (rI .u8)),cI a.2.at_,cI a.2.err],some [cI b.1,cI c.1,cI d.1,.ref 1 [] 0 (([]:List LI).length)]]⟩
def K_Sb_0:List Fr:=[]
def s_Sb_0 (p0:LI):St:=
 ⟨mkSl 139 [(0,.v false [.ro [.sc] (p0.map (rI .u8))])],[],[]⟩
def K_Ic_0:List Fr:=[]
def s_Ic_0 (p0:Int):St:=
 ⟨mkSl 5 [(0,sI p0)],[],[]⟩
def K_Il_33:List Fr:=[]
def s_Il_33:St:=
 ⟨mkSl 24 [],[],[]⟩
def K_Il_7:List Fr:=[.lp [0,1,7,8] c_Il_7,.bk 0,.sq (.kp [] c_Il_33)]
def s_Il_7 (p0:LI) (p1:ByteArray) (a:Int):St:=
 ⟨mkSl 24 [(0,.v false [.ro [.sc] (p0.map (rI .u8))]),(1,.v false [.lit (.string p1)]),(7,sI (p1.size:Int)),(8,sI a)],[],[]⟩
def K_Il_0:List Fr:=[]
def s_Il_0 (p0:LI) (p1:ByteArray):St:=
 ⟨mkSl 24 [(0,.v false [.ro [.sc] (p0.map (rI .u8))]),(1,.v false [.lit (.string p1)])],[],[]⟩
def K_Io_0:List Fr:=[]
def s_Io_0 (p0:Ze):St:=
 ⟨mkSl 46 [(0,sP 0 0)],[],[some [.ro [.sc] (p0.b.map (rI .u8)),cI p0.at_,cB p0.short]]⟩
def K_Iq_19:List Fr:=[]
def s_Iq_19 (a:Int) (b:LI) (c:Int) (d:Bool):St:=
 ⟨mkSl 17 [(0,sP 0 0),(5,.v false [.lit (.int .u64 a)])],[],[some [.ro [.sc] (b.map (rI .u8)),cI c,cB d]]⟩
def K_Iq_9:List Fr:=[.lp [0,5,6,7] c_Iq_9,.bk 0,.sq (.kp [0,5] c_Iq_19)]
def s_Iq_9 (p1 a b:Int) (c:LI) (d:Int) (e:Bool):St:=
 ⟨mkSl 17 [(0,sP 0 0),(5,.v false [.lit (.int .u64 a)]),(6,sI p1),(7,sI b)],[],[some [.ro [.sc] (c.map (rI .u8)),cI d,cB e]]⟩
def K_Iq_0:List Fr:=[]
def s_Iq_0 (p1:Int) (p0:Ze):St:=
 ⟨mkSl 17 [(0,sP 0 0),(1,sI p1)],[],[some [.ro [.sc] (p0.b.map (rI .u8)),cI p0.at_,cB p0.short]]⟩
def K_Im_33:List Fr:=[]
def s_Im_33:St:=
 ⟨mkSl 30 [],[],[]⟩
def K_Im_15:List Fr:=[.lp [1,2,15,16,17] c_Im_15,.bk 0,.sq (.kp [] c_Im_33)]
def s_Im_15 (p1 p2:Int) (p0:LI) (a:Int):St:=
 ⟨mkSl 30 [(1,sI p1),(2,sI p2),(15,.v false [.ro [.sc] (p0.map (rI .i64))]),(16,sI (p0.length:Int)),(17,sI a)],[],[]⟩
def K_Im_0:List Fr:=[]
def s_Im_0 (p0:LI) (p1 p2 p3:Int):St:=
 ⟨mkSl 30 [(0,.v false [.ro [.sc] (p0.map (rI .i64))]),(1,sI p1),(2,sI p2),(3,sI p3)],[],[]⟩
def K_Id_35:List Fr:=[]
def s_Id_35:St:=
 ⟨mkSl 75 [],[],[]⟩
def K_Id_17:List Fr:=[.lp [1,46,47,48] c_Id_17,.bk 0,.sq (.kp [] c_Id_35)]
def s_Id_17 (p0:Za) (a:Int):St:=
 ⟨mkSl 75 [(1,sP 0 0),(46,.v false [.ro [.ro [.sc]] (p0.channels.map (rL (rI .i64)))]),(47,sI (p0.channels.length:Int)),(48,sI a)],[],[some [cI p0.rate,cI p0.bits,cI p0.frame,.ro [.ro [.sc]] (p0.channels.map (rL (rI .i64)))]]⟩
def K_Id_0:List Fr:=[]
def s_Id_0 (p0:Za):St:=
 ⟨mkSl 75 [(0,.v true [cI p0.rate,cI p0.bits,cI p0.frame,.ro [.ro [.sc]] (p0.channels.map (rL (rI .i64)))])],[],[]⟩
def K_In_0:List Fr:=[]
def s_In_0 (p0 p1:Int):St:=
 ⟨mkSl 13 [(0,.v false [.lit (.int .u64 p0)]),(1,sI p1)],[],[]⟩
def K_Ii_0:List Fr:=[]
def s_Ii_0 (p0 p1 p2:Int):St:=
 ⟨mkSl 40 [(0,sI p0),(1,sI p1),(2,sI p2)],[],[]⟩
def K_If_0:List Fr:=[]
def s_If_0 (p0:Int):St:=
 ⟨mkSl 11 [(0,.v false [.lit (.int .u64 p0)])],[],[]⟩
def K_Ip_15:List Fr:=[]
def s_Ip_15 (a:Bool) (b:LI) (c:Int) (d:Bool):St:=
 ⟨mkSl 17 [(0,sP 0 0),(3,sB a)],[],[some [.ro [.sc] (b.map (rI .u8)),cI c,cB d]]⟩
def K_Ip_7:List Fr:=[.lp [0,3] c_Ip_7,.bk 0,.sq (.kp [0,3] c_Ip_15)]
def s_Ip_7 (a:Bool) (b:LI) (c:Int) (d:Bool):St:=
 ⟨mkSl 17 [(0,sP 0 0),(3,sB a)],[],[some [.ro [.sc] (b.map (rI .u8)),cI c,cB d]]⟩
def K_Ip_0:List Fr:=[]
def s_Ip_0 (p0:Ze):St:=
 ⟨mkSl 17 [(0,sP 0 0)],[],[some [.ro [.sc] (p0.b.map (rI .u8)),cI p0.at_,cB p0.short]]⟩
def K_Ia_35:List Fr:=[.lp [3,6,7,8] c_Ia_9,.bk 0,.sq (.kp [3] c_Ia_36)]
def s_Ia_35 (p0:LI) (a b:Int):St:=
 ⟨mkSl 28 [(3,.v false [.lit (.int .u32 b)]),(6,.v false [.ro [.sc] (p0.map (rI .u8))]),(7,sI (p0.length:Int)),(8,sI a)],[],[]⟩
def K_Ia_25:List Fr:=[.lp [3,6,7,8,16] c_Ia_25,.bk 2,.bk 1,.sq (.kp [3,6,7,8] c_Ia_35),.lp [3,6,7,8] c_Ia_9,.bk 0,.sq (.kp [3] c_Ia_36)]
def s_Ia_25 (p0:LI) (a b c:Int):St:=
 ⟨mkSl 28 [(3,.v false [.lit (.int .u32 b)]),(6,.v false [.ro [.sc] (p0.map (rI .u8))]),(7,sI (p0.length:Int)),(8,sI a),(16,sI c)],[],[]⟩
def K_Ia_36:List Fr:=[]
def s_Ia_36 (a:Int):St:=
 ⟨mkSl 28 [(3,.v false [.lit (.int .u32 a)])],[],[]⟩
def K_Ia_9:List Fr:=[.lp [3,6,7,8] c_Ia_9,.bk 0,.sq (.kp [3] c_Ia_36)]
def s_Ia_9 (p0:LI) (a b:Int):St:=
 ⟨mkSl 28 [(3,.v false [.lit (.int .u32 a)]),(6,.v false [.ro [.sc] (p0.map (rI .u8))]),(7,sI (p0.length:Int)),(8,sI b)],[],[]⟩
def K_Ia_0:List Fr:=[]
def s_Ia_0 (p0:LI):St:=
 ⟨mkSl 28 [(0,.v false [.ro [.sc] (p0.map (rI .u8))])],[],[]⟩
def K_Ih_0:List Fr:=[]
def s_Ih_0 (p0:LI):St:=
 ⟨mkSl 6 [(0,.v false [.ro [.sc] (p0.map (rI .i64))])],[],[]⟩
def K_Ij_0:List Fr:=[]
def s_Ij_0 (p0:Int) (p1:LI) (p2:Int):St:=
 ⟨mkSl 78 [(0,sI p0),(1,.v false [.ro [.sc] (p1.map (rI .i64))]),(2,sI p2)],[],[]⟩
def K_Ie_33:List Fr:=[.bk 1,.sq c_Ie_40,.lp [0,5,21,22] c_Ie_17,.bk 0,.sq (.kp [5] c_Ie_41)]
def s_Ie_33 (p0 a:Int) (c b:LI):St:=
 ⟨mkSl 52 [(0,sI p0),(5,.v false [cR 0 b]),(6,sI a),(21,sI (c.length:Int)),(22,sI a)],[jI b],[]⟩
def K_Ie_41:List Fr:=[]
def s_Ie_41 (a:LI):St:=
 ⟨mkSl 52 [(5,.v false [cR 0 a])],[jI a],[]⟩
def K_Ie_17:List Fr:=[.lp [0,5,21,22] c_Ie_17,.bk 0,.sq (.kp [5] c_Ie_41)]
def s_Ie_17 (p0:Int) (b:LI) (c:Int) (a:LI):St:=
 ⟨mkSl 52 [(0,sI p0),(5,.v false [cR 0 a]),(21,sI (b.length:Int)),(22,sI c)],[jI a],[]⟩
def K_Ie_0:List Fr:=[]
def s_Ie_0 (p0:Int) (p1:LI):St:=
 ⟨mkSl 52 [(0,sI p0),(1,.v false [.ro [.sc] (p1.map (rI .i64))])],[],[]⟩
def K_Ik_0:List Fr:=[]
def s_Ik_0 (p0:LI):St:=
 ⟨mkSl 5 [(0,.v false [.ro [.sc] (p0.map (rI .i64))])],[],[]⟩
def K_Ig_33:List Fr:=[.bk 1,.sq c_Ig_38,.lp [0,1,2,8,9,39,40] c_Ig_17,.bk 0,.sq (.kp [8,9] c_Ig_39)]
def s_Ig_33 (p0:Int) (p1 p2:LI) (a:Int) (b c:LI):St:=
 ⟨mkSl 90 [(0,sI p0),(1,.v false [.ro [.sc] (p1.map (rI .i64))]),(2,.v false [.ro [.sc] (p2.map (rI .i64))]),(8,.v false [cR 0 c]),(9,.v false [cR 1 b]),(10,sI a),(39,sI (p1.length:Int)),(40,sI a)],[jI c,jI b],[]⟩
def K_Ig_42:List Fr:=[.sq c_Ig_47]
def s_Ig_42 (a b:LI) (c:Bool):St:=
 ⟨mkSl 90 [(8,.v false [cR 0 a]),(9,.v false [cR 1 b]),(87,sB c)],[jI a,jI b],[]⟩
def K_Ig_39:List Fr:=[]
def s_Ig_39 (a b:LI):St:=
 ⟨mkSl 90 [(8,.v false [cR 0 a]),(9,.v false [cR 1 b])],[jI a,jI b],[]⟩
def K_Ig_17:List Fr:=[.lp [0,1,2,8,9,39,40] c_Ig_17,.bk 0,.sq (.kp [8,9] c_Ig_39)]
def s_Ig_17 (p0:Int) (p1 p2:LI) (c:Int) (a b:LI):St:=
 ⟨mkSl 90 [(0,sI p0),(1,.v false [.ro [.sc] (p1.map (rI .i64))]),(2,.v false [.ro [.sc] (p2.map (rI .i64))]),(8,.v false [cR 0 a]),(9,.v false [cR 1 b]),(39,sI (p1.length:Int)),(40,sI c)],[jI a,jI b],[]⟩
def K_Ig_5:List Fr:=[.sq c_Ig_10]
def s_Ig_5 (p0:Int) (p1 p2:LI) (a:Bool):St:=
 ⟨mkSl 90 [(0,sI p0),(1,.v false [.ro [.sc] (p1.map (rI .i64))]),(2,.v false [.ro [.sc] (p2.map (rI .i64))]),(33,sB a)],[],[]⟩
def K_Ig_0:List Fr:=[]
def s_Ig_0 (p0:Int) (p1 p2:LI):St:=
 ⟨mkSl 90 [(0,sI p0),(1,.v false [.ro [.sc] (p1.map (rI .i64))]),(2,.v false [.ro [.sc] (p2.map (rI .i64))])],[],[]⟩
def K_Ib_217:List Fr:=[.sq c_Ib_218,.bk 10,.sq c_Ib_225,.lp [0,2,3,4,5,6,7,8,9,10,11,12,13,14,15,16,18,120,121,168,169,193,194] c_Ib_191,.bk 9,.bk 8,.sq (.kp [0,2,3,4,5,6,7,8,9,10,11,12,13,14,15,16,120,121,168,169] c_Ib_226),.lp [0,2,3,4,5,6,7,8,9,10,11,12,13,14,15,16,120,121,168,169] c_Ib_151,.bk 7,.sq (.kp [0,2,3,4,5,6,7,8,9,10,11,12,13,14,15,120,121] c_Ib_227),.bk 4,.sq c_Ib_230,.lp [0,2,3,4,5,6,7,8,9,10,11,12,13,120,121] c_Ib_85,.bk 3,.sq (.kp [0,2,3,4,5,6,7,8,9,10,11,12,13] c_Ib_231),.bk 2,.sq (.kp [0,2,3,4,5,6,7,8] c_Ib_326),.lp [0,2,3,4,5,6,7,8] c_Ib_46,.bk 1,.sq (.kp [0,2,3,4,5] c_Ib_327)]
def s_Ib_217 (p0:LI) (a f g h i j k l m n o p q r s t u:Int) (b:(List LI)) (c d:LI) (e:(List LI)) (w:Int) (x:LI) (y:Int) (z:Bool):St:=
 ⟨mkSl 368 [(0,.v false [.ro [.sc] (p0.map (rI .u8))]),(2,sP 0 0),(3,.v false [.clo 45 []]),(4,sP 1 0),(5,sP 2 0),(6,sI a),(7,sI f),(8,sI g),(9,sI h),(10,sI i),(11,sI j),(12,.v false [cR 0 b]),(13,.v false [cR 1 c]),(14,sI k),(15,.v false [cR 2 d]),(16,sI l),(18,sI m),(20,.v false [.lit (.int .u64 w)]),(120,sI a),(121,sI n),(168,sI o),(169,sI p),(193,sI q),(194,sI r)],[some ⟨[.own [.sc]],(List.map (rL (rI .i64)) b)⟩,jI c,jI d,some ⟨[.own [.sc]],(List.map (rL (rI .i64)) ([]:List LI))⟩,some ⟨[.own [.sc]],(List.map (rL (rI .i64)) e)⟩],[some [cI 0,cI 0,cI 0,cI 0,.ref 3 [] 0 (([]:List LI).length)],some [.ro [.sc] (x.map (rI .u8)),cI y,cB z],some [cI s,cI t,cI u,cR 4 e]]⟩
def K_Ib_209:List Fr:=[.lp [0,2,3,4,5,6,7,8,9,10,11,12,13,14,15,16,18,20,120,121,168,169,193,194] c_Ib_209,.bk 11,.sq (.kp [0,2,3,4,5,6,7,8,9,10,11,12,13,14,15,16,18,20,120,121,168,169,193,194] c_Ib_217),.sq c_Ib_218,.bk 10,.sq c_Ib_225,.lp [0,2,3,4,5,6,7,8,9,10,11,12,13,14,15,16,18,120,121,168,169,193,194] c_Ib_191,.bk 9,.bk 8,.sq (.kp [0,2,3,4,5,6,7,8,9,10,11,12,13,14,15,16,120,121,168,169] c_Ib_226),.lp [0,2,3,4,5,6,7,8,9,10,11,12,13,14,15,16,120,121,168,169] c_Ib_151,.bk 7,.sq (.kp [0,2,3,4,5,6,7,8,9,10,11,12,13,14,15,120,121] c_Ib_227),.bk 4,.sq c_Ib_230,.lp [0,2,3,4,5,6,7,8,9,10,11,12,13,120,121] c_Ib_85,.bk 3,.sq (.kp [0,2,3,4,5,6,7,8,9,10,11,12,13] c_Ib_231),.bk 2,.sq (.kp [0,2,3,4,5,6,7,8] c_Ib_326),.lp [0,2,3,4,5,6,7,8] c_Ib_46,.bk 1,.sq (.kp [0,2,3,4,5] c_Ib_327)]
def s_Ib_209 (p0:LI) (a f g h i j k l m n o p q r s t u:Int) (b:(List LI)) (c d:LI) (e:(List LI)) (w:Int) (x:LI) (y:Int) (z:Bool):St:=
 ⟨mkSl 368 [(0,.v false [.ro [.sc] (p0.map (rI .u8))]),(2,sP 0 0),(3,.v false [.clo 45 []]),(4,sP 1 0),(5,sP 2 0),(6,sI a),(7,sI f),(8,sI g),(9,sI h),(10,sI i),(11,sI j),(12,.v false [cR 0 b]),(13,.v false [cR 1 c]),(14,sI k),(15,.v false [cR 2 d]),(16,sI l),(18,sI m),(20,.v false [.lit (.int .u64 w)]),(120,sI a),(121,sI n),(168,sI o),(169,sI p),(193,sI q),(194,sI r)],[some ⟨[.own [.sc]],(List.map (rL (rI .i64)) b)⟩,jI c,jI d,some ⟨[.own [.sc]],(List.map (rL (rI .i64)) ([]:List LI))⟩,some ⟨[.own [.sc]],(List.map (rL (rI .i64)) e)⟩],[some [cI 0,cI 0,cI 0,cI 0,.ref 3 [] 0 (([]:List LI).length)],some [.ro [.sc] (x.map (rI .u8)),cI y,cB z],some [cI s,cI t,cI u,cR 4 e]]⟩
def K_Ib_226:List Fr:=[.lp [0,2,3,4,5,6,7,8,9,10,11,12,13,14,15,16,120,121,168,169] c_Ib_151,.bk 7,.sq (.kp [0,2,3,4,5,6,7,8,9,10,11,12,13,14,15,120,121] c_Ib_227),.bk 4,.sq c_Ib_230,.lp [0,2,3,4,5,6,7,8,9,10,11,12,13,120,121] c_Ib_85,.bk 3,.sq (.kp [0,2,3,4,5,6,7,8,9,10,11,12,13] c_Ib_231),.bk 2,.sq (.kp [0,2,3,4,5,6,7,8] c_Ib_326),.lp [0,2,3,4,5,6,7,8] c_Ib_46,.bk 1,.sq (.kp [0,2,3,4,5] c_Ib_327)]
def s_Ib_226 (p0:LI) (a f g h i j k l m n o p q r:Int) (b:(List LI)) (c:LI) (d:(List LI)) (s:LI) (t:Int) (u:Bool) (e:LI):St:=
 ⟨mkSl 368 [(0,.v false [.ro [.sc] (p0.map (rI .u8))]),(2,sP 0 0),(3,.v false [.clo 45 []]),(4,sP 1 0),(5,sP 2 0),(6,sI a),(7,sI f),(8,sI g),(9,sI h),(10,sI i),(11,sI j),(12,.v false [cR 0 b]),(13,.v false [cR 1 c]),(14,sI k),(15,.v false [cR 2 e]),(16,sI l),(120,sI a),(121,sI m),(168,sI n),(169,sI o)],[some ⟨[.own [.sc]],(List.map (rL (rI .i64)) b)⟩,jI c,jI e,some ⟨[.own [.sc]],(List.map (rL (rI .i64)) ([]:List LI))⟩,some ⟨[.own [.sc]],(List.map (rL (rI .i64)) d)⟩],[some [cI 0,cI 0,cI 0,cI 0,.ref 3 [] 0 (([]:List LI).length)],some [.ro [.sc] (s.map (rI .u8)),cI t,cB u],some [cI p,cI q,cI r,cR 4 d]]⟩
def K_Ib_191:List Fr:=[.lp [0,2,3,4,5,6,7,8,9,10,11,12,13,14,15,16,18,120,121,168,169,193,194] c_Ib_191,.bk 9,.bk 8,.sq (.kp [0,2,3,4,5,6,7,8,9,10,11,12,13,14,15,16,120,121,168,169] c_Ib_226),.lp [0,2,3,4,5,6,7,8,9,10,11,12,13,14,15,16,120,121,168,169] c_Ib_151,.bk 7,.sq (.kp [0,2,3,4,5,6,7,8,9,10,11,12,13,14,15,120,121] c_Ib_227),.bk 4,.sq c_Ib_230,.lp [0,2,3,4,5,6,7,8,9,10,11,12,13,120,121] c_Ib_85,.bk 3,.sq (.kp [0,2,3,4,5,6,7,8,9,10,11,12,13] c_Ib_231),.bk 2,.sq (.kp [0,2,3,4,5,6,7,8] c_Ib_326),.lp [0,2,3,4,5,6,7,8] c_Ib_46,.bk 1,.sq (.kp [0,2,3,4,5] c_Ib_327)]
def s_Ib_191 (p0:LI) (a f g h i j k l m n o p q r s t:Int) (b:(List LI)) (c:LI) (d:(List LI)) (u:Int) (w:LI) (x:Int) (y:Bool) (e:LI):St:=
 ⟨mkSl 368 [(0,.v false [.ro [.sc] (p0.map (rI .u8))]),(2,sP 0 0),(3,.v false [.clo 45 []]),(4,sP 1 0),(5,sP 2 0),(6,sI a),(7,sI f),(8,sI g),(9,sI h),(10,sI i),(11,sI j),(12,.v false [cR 0 b]),(13,.v false [cR 1 c]),(14,sI k),(15,.v false [cR 2 e]),(16,sI l),(18,sI m),(120,sI a),(121,sI n),(168,sI o),(169,sI p),(193,sI q),(194,sI u)],[some ⟨[.own [.sc]],(List.map (rL (rI .i64)) b)⟩,jI c,jI e,some ⟨[.own [.sc]],(List.map (rL (rI .i64)) ([]:List LI))⟩,some ⟨[.own [.sc]],(List.map (rL (rI .i64)) d)⟩],[some [cI 0,cI 0,cI 0,cI 0,.ref 3 [] 0 (([]:List LI).length)],some [.ro [.sc] (w.map (rI .u8)),cI x,cB y],some [cI r,cI s,cI t,cR 4 d]]⟩
def K_Ib_187:List Fr:=[.bk 8,.sq (.kp [0,2,3,4,5,6,7,8,9,10,11,12,13,14,15,16,120,121,168,169] c_Ib_226),.lp [0,2,3,4,5,6,7,8,9,10,11,12,13,14,15,16,120,121,168,169] c_Ib_151,.bk 7,.sq (.kp [0,2,3,4,5,6,7,8,9,10,11,12,13,14,15,120,121] c_Ib_227),.bk 4,.sq c_Ib_230,.lp [0,2,3,4,5,6,7,8,9,10,11,12,13,120,121] c_Ib_85,.bk 3,.sq (.kp [0,2,3,4,5,6,7,8,9,10,11,12,13] c_Ib_231),.bk 2,.sq (.kp [0,2,3,4,5,6,7,8] c_Ib_326),.lp [0,2,3,4,5,6,7,8] c_Ib_46,.bk 1,.sq (.kp [0,2,3,4,5] c_Ib_327)]
def s_Ib_187 (p0:LI) (c h i j k l m n o p q:Int) (a:Int×Ze) (r s t:Int) (d:(List LI)) (e f:LI) (g:(List LI)) (u w:Int):St:=
 ⟨mkSl 368 [(0,.v false [.ro [.sc] (p0.map (rI .u8))]),(2,sP 0 0),(3,.v false [.clo 45 []]),(4,sP 1 0),(5,sP 2 0),(6,sI c),(7,sI h),(8,sI i),(9,sI j),(10,sI k),(11,sI l),(12,.v false [cR 0 d]),(13,.v false [cR 1 e]),(14,sI m),(15,.v false [cR 2 f]),(16,sI n),(18,sI u),(19,sI w),(120,sI c),(121,sI o),(168,sI p),(169,sI q)],[some ⟨[.own [.sc]],(List.map (rL (rI .i64)) d)⟩,jI e,jI f,some ⟨[.own [.sc]],(List.map (rL (rI .i64)) ([]:List LI))⟩,some ⟨[.own [.sc]],(List.map (rL (rI .i64)) g)⟩],[some [cI 0,cI 0,cI 0,cI 0,.ref 3 [] 0 (([]:List LI).length)],some [.ro [.sc] (a.2.b.map (rI .u8)),cI a.2.at_,cB a.2.short],some [cI r,cI s,cI t,cR 4 g]]⟩
def K_Ib_227:List Fr:=[.bk 4,.sq c_Ib_230,.lp [0,2,3,4,5,6,7,8,9,10,11,12,13,120,121] c_Ib_85,.bk 3,.sq (.kp [0,2,3,4,5,6,7,8,9,10,11,12,13] c_Ib_231),.bk 2,.sq (.kp [0,2,3,4,5,6,7,8] c_Ib_326),.lp [0,2,3,4,5,6,7,8] c_Ib_46,.bk 1,.sq (.kp [0,2,3,4,5] c_Ib_327)]
def s_Ib_227 (p0:LI) (a f g h i j k l m n o:Int) (b:(List LI)) (c:LI) (d:(List LI)) (p:LI) (q:Int) (r:Bool) (e:LI):St:=
 ⟨mkSl 368 [(0,.v false [.ro [.sc] (p0.map (rI .u8))]),(2,sP 0 0),(3,.v false [.clo 45 []]),(4,sP 1 0),(5,sP 2 0),(6,sI a),(7,sI f),(8,sI g),(9,sI h),(10,sI i),(11,sI j),(12,.v false [cR 0 b]),(13,.v false [cR 1 c]),(14,sI k),(15,.v false [cR 2 e]),(120,sI a),(121,sI l)],[some ⟨[.own [.sc]],(List.map (rL (rI .i64)) b)⟩,jI c,jI e,some ⟨[.own [.sc]],(List.map (rL (rI .i64)) ([]:List LI))⟩,some ⟨[.own [.sc]],(List.map (rL (rI .i64)) d)⟩],[some [cI 0,cI 0,cI 0,cI 0,.ref 3 [] 0 (([]:List LI).length)],some [.ro [.sc] (p.map (rI .u8)),cI q,cB r],some [cI m,cI n,cI o,cR 4 d]]⟩
def K_Ib_151:List Fr:=[.lp [0,2,3,4,5,6,7,8,9,10,11,12,13,14,15,16,120,121,168,169] c_Ib_151,.bk 7,.sq (.kp [0,2,3,4,5,6,7,8,9,10,11,12,13,14,15,120,121] c_Ib_227),.bk 4,.sq c_Ib_230,.lp [0,2,3,4,5,6,7,8,9,10,11,12,13,120,121] c_Ib_85,.bk 3,.sq (.kp [0,2,3,4,5,6,7,8,9,10,11,12,13] c_Ib_231),.bk 2,.sq (.kp [0,2,3,4,5,6,7,8] c_Ib_326),.lp [0,2,3,4,5,6,7,8] c_Ib_46,.bk 1,.sq (.kp [0,2,3,4,5] c_Ib_327)]
def s_Ib_151 (p0:LI) (a f g h i j k l m n o:Int) (b:(List LI)) (c:LI) (d:(List LI)) (p q r:Int) (s:LI) (t:Int) (u:Bool) (e:LI):St:=
 ⟨mkSl 368 [(0,.v false [.ro [.sc] (p0.map (rI .u8))]),(2,sP 0 0),(3,.v false [.clo 45 []]),(4,sP 1 0),(5,sP 2 0),(6,sI a),(7,sI f),(8,sI g),(9,sI h),(10,sI i),(11,sI j),(12,.v false [cR 0 b]),(13,.v false [cR 1 c]),(14,sI k),(15,.v false [cR 2 e]),(16,sI p),(120,sI a),(121,sI l),(168,sI q),(169,sI r)],[some ⟨[.own [.sc]],(List.map (rL (rI .i64)) b)⟩,jI c,jI e,some ⟨[.own [.sc]],(List.map (rL (rI .i64)) ([]:List LI))⟩,some ⟨[.own [.sc]],(List.map (rL (rI .i64)) d)⟩],[some [cI 0,cI 0,cI 0,cI 0,.ref 3 [] 0 (([]:List LI).length)],some [.ro [.sc] (s.map (rI .u8)),cI t,cB u],some [cI m,cI n,cI o,cR 4 d]]⟩
def K_Ib_128:List Fr:=[.bk 4,.sq c_Ib_230,.lp [0,2,3,4,5,6,7,8,9,10,11,12,13,120,121] c_Ib_85,.bk 3,.sq (.kp [0,2,3,4,5,6,7,8,9,10,11,12,13] c_Ib_231),.bk 2,.sq (.kp [0,2,3,4,5,6,7,8] c_Ib_326),.lp [0,2,3,4,5,6,7,8] c_Ib_46,.bk 1,.sq (.kp [0,2,3,4,5] c_Ib_327)]
def s_Ib_128 (p0:LI) (a f g h i j k l m n o:Int) (b:(List LI)) (c:LI) (d:(List LI)) (p:LI) (q:Int) (r:Bool) (e:LI):St:=
 ⟨mkSl 368 [(0,.v false [.ro [.sc] (p0.map (rI .u8))]),(2,sP 0 0),(3,.v false [.clo 45 []]),(4,sP 1 0),(5,sP 2 0),(6,sI a),(7,sI f),(8,sI g),(9,sI h),(10,sI i),(11,sI j),(12,.v false [cR 0 b]),(13,.v false [cR 1 c]),(14,sI k),(15,.v false [cR 2 e]),(120,sI a),(121,sI l)],[some ⟨[.own [.sc]],(List.map (rL (rI .i64)) b)⟩,jI c,jI e,some ⟨[.own [.sc]],(List.map (rL (rI .i64)) ([]:List LI))⟩,some ⟨[.own [.sc]],(List.map (rL (rI .i64)) d)⟩],[some [cI 0,cI 0,cI 0,cI 0,.ref 3 [] 0 (([]:List LI).length)],some [.ro [.sc] (p.map (rI .u8)),cI q,cB r],some [cI m,cI n,cI o,cR 4 d]]⟩
def K_Ib_118:List Fr:=[.lp [0,2,3,4,5,6,7,8,9,10,11,12,13,14,15,120,121,141,142] c_Ib_118,.bk 5,.sq (.kp [0,2,3,4,5,6,7,8,9,10,11,12,13,14,15,120,121] c_Ib_128),.bk 4,.sq c_Ib_230,.lp [0,2,3,4,5,6,7,8,9,10,11,12,13,120,121] c_Ib_85,.bk 3,.sq (.kp [0,2,3,4,5,6,7,8,9,10,11,12,13] c_Ib_231),.bk 2,.sq (.kp [0,2,3,4,5,6,7,8] c_Ib_326),.lp [0,2,3,4,5,6,7,8] c_Ib_46,.bk 1,.sq (.kp [0,2,3,4,5] c_Ib_327)]
def s_Ib_118 (p0:LI) (a g h i j k b l m n o:Int) (c:(List LI)) (d:LI) (e:(List LI)) (p:Int) (q:LI) (r:Int) (s:Bool) (f:LI):St:=
 ⟨mkSl 368 [(0,.v false [.ro [.sc] (p0.map (rI .u8))]),(2,sP 0 0),(3,.v false [.clo 45 []]),(4,sP 1 0),(5,sP 2 0),(6,sI a),(7,sI g),(8,sI h),(9,sI i),(10,sI j),(11,sI k),(12,.v false [cR 0 c]),(13,.v false [cR 1 d]),(14,sI b),(15,.v false [cR 2 f]),(120,sI a),(121,sI l),(141,sI b),(142,sI p)],[some ⟨[.own [.sc]],(List.map (rL (rI .i64)) c)⟩,jI d,jI f,some ⟨[.own [.sc]],(List.map (rL (rI .i64)) ([]:List LI))⟩,some ⟨[.own [.sc]],(List.map (rL (rI .i64)) e)⟩],[some [cI 0,cI 0,cI 0,cI 0,.ref 3 [] 0 (([]:List LI).length)],some [.ro [.sc] (q.map (rI .u8)),cI r,cB s],some [cI m,cI n,cI o,cR 4 e]]⟩
def K_Ib_106:List Fr:=[.sq c_Ib_111,.bk 4,.sq c_Ib_230,.lp [0,2,3,4,5,6,7,8,9,10,11,12,13,120,121] c_Ib_85,.bk 3,.sq (.kp [0,2,3,4,5,6,7,8,9,10,11,12,13] c_Ib_231),.bk 2,.sq (.kp [0,2,3,4,5,6,7,8] c_Ib_326),.lp [0,2,3,4,5,6,7,8] c_Ib_46,.bk 1,.sq (.kp [0,2,3,4,5] c_Ib_327)]
def s_Ib_106 (p0:LI) (c g h i j k l:Int) (a:Int×Ze) (m n o:Int) (d:(List LI)) (e:LI) (f:(List LI)) (p:Int) (q:Bool):St:=
 ⟨mkSl 368 [(0,.v false [.ro [.sc] (p0.map (rI .u8))]),(2,sP 0 0),(3,.v false [.clo 45 []]),(4,sP 1 0),(5,sP 2 0),(6,sI c),(7,sI g),(8,sI h),(9,sI i),(10,sI j),(11,sI k),(12,.v false [cR 0 d]),(13,.v false [cR 1 e]),(14,sI p),(120,sI c),(121,sI l),(138,sB q)],[some ⟨[.own [.sc]],(List.map (rL (rI .i64)) d)⟩,jI e,some ⟨[.own [.sc]],(List.map (rL (rI .i64)) ([]:List LI))⟩,some ⟨[.own [.sc]],(List.map (rL (rI .i64)) f)⟩],[some [cI 0,cI 0,cI 0,cI 0,.ref 2 [] 0 (([]:List LI).length)],some [.ro [.sc] (a.2.b.map (rI .u8)),cI a.2.at_,cB a.2.short],some [cI m,cI n,cI o,cR 3 f]]⟩
def K_Ib_326:List Fr:=[.lp [0,2,3,4,5,6,7,8] c_Ib_46,.bk 1,.sq (.kp [0,2,3,4,5] c_Ib_327)]
def s_Ib_326 (p0:LI) (d e f:Int) (a:Int×Ze) (g h i:Int) (c:(List LI)):St:=
 ⟨mkSl 368 [(0,.v false [.ro [.sc] (p0.map (rI .u8))]),(2,sP 0 0),(3,.v false [.clo 45 []]),(4,sP 1 0),(5,sP 2 0),(6,sI d),(7,sI e),(8,sI f)],[some ⟨[.own [.sc]],(List.map (rL (rI .i64)) ([]:List LI))⟩,some ⟨[.own [.sc]],(List.map (rL (rI .i64)) c)⟩],[some [cI 0,cI 0,cI 0,cI 0,.ref 0 [] 0 (([]:List LI).length)],some [.ro [.sc] (a.2.b.map (rI .u8)),cI a.2.at_,cB a.2.short],some [cI g,cI h,cI i,cR 1 c]]⟩
def K_Ib_306:List Fr:=[.lp [0,2,3,4,5,6,7,8,323,324,325] c_Ib_306,.bk 15,.bk 2,.sq (.kp [0,2,3,4,5,6,7,8] c_Ib_326),.lp [0,2,3,4,5,6,7,8] c_Ib_46,.bk 1,.sq (.kp [0,2,3,4,5] c_Ib_327)]
def s_Ib_306 (p0:LI) (e f g:Int) (a:(List LI)) (c:Int×Ze) (h i j k:Int) (d:(List LI)):St:=
 ⟨mkSl 368 [(0,.v false [.ro [.sc] (p0.map (rI .u8))]),(2,sP 0 0),(3,.v false [.clo 45 []]),(4,sP 1 0),(5,sP 2 0),(6,sI e),(7,sI f),(8,sI g),(323,.v false [cR 0 a]),(324,sI (a.length:Int)),(325,sI k)],[some ⟨[.own [.sc]],(List.map (rL (rI .i64)) a)⟩,some ⟨[.own [.sc]],(List.map (rL (rI .i64)) ([]:List LI))⟩,some ⟨[.own [.sc]],(List.map (rL (rI .i64)) d)⟩],[some [cI 0,cI 0,cI 0,cI 0,.ref 1 [] 0 (([]:List LI).length)],some [.ro [.sc] (c.2.b.map (rI .u8)),cI c.2.at_,cB c.2.short],some [cI h,cI i,cI j,cR 2 d]]⟩
def K_Ib_302:List Fr:=[.bk 2,.sq (.kp [0,2,3,4,5,6,7,8] c_Ib_326),.lp [0,2,3,4,5,6,7,8] c_Ib_46,.bk 1,.sq (.kp [0,2,3,4,5] c_Ib_327)]
def s_Ib_302 (p0:LI) (e f g:Int) (a:Int×Ze) (h i j:Int) (c:(List LI)) (d:(List LI)):St:=
 ⟨mkSl 368 [(0,.v false [.ro [.sc] (p0.map (rI .u8))]),(2,sP 0 0),(3,.v false [.clo 45 []]),(4,sP 1 0),(5,sP 2 0),(6,sI e),(7,sI f),(8,sI g),(12,.v false [cR 0 d])],[some ⟨[.own [.sc]],(List.map (rL (rI .i64)) d)⟩,some ⟨[.own [.sc]],(List.map (rL (rI .i64)) ([]:List LI))⟩,some ⟨[.own [.sc]],(List.map (rL (rI .i64)) c)⟩],[some [cI 0,cI 0,cI 0,cI 0,.ref 1 [] 0 (([]:List LI).length)],some [.ro [.sc] (a.2.b.map (rI .u8)),cI a.2.at_,cB a.2.short],some [cI h,cI i,cI j,cR 2 c]]⟩
def K_Ib_286:List Fr:=[.bk 2,.sq (.kp [0,2,3,4,5,6,7,8] c_Ib_326),.lp [0,2,3,4,5,6,7,8] c_Ib_46,.bk 1,.sq (.kp [0,2,3,4,5] c_Ib_327)]
def s_Ib_286 (p0:LI) (e f g h i:Int) (a:Int×Ze) (j k l:Int) (c:(List LI)) (d:(List LI)):St:=
 ⟨mkSl 368 [(0,.v false [.ro [.sc] (p0.map (rI .u8))]),(2,sP 0 0),(3,.v false [.clo 45 []]),(4,sP 1 0),(5,sP 2 0),(6,sI e),(7,sI f),(8,sI g),(9,sI h),(11,sI i),(12,.v false [cR 0 d])],[some ⟨[.own [.sc]],(List.map (rL (rI .i64)) d)⟩,some ⟨[.own [.sc]],(List.map (rL (rI .i64)) ([]:List LI))⟩,some ⟨[.own [.sc]],(List.map (rL (rI .i64)) c)⟩],[some [cI 0,cI 0,cI 0,cI 0,.ref 1 [] 0 (([]:List LI).length)],some [.ro [.sc] (a.2.b.map (rI .u8)),cI a.2.at_,cB a.2.short],some [cI j,cI k,cI l,cR 2 c]]⟩
def K_Ib_264:List Fr:=[.lp [0,2,3,4,5,6,7,8,9,11,12,13,274,275] c_Ib_264,.bk 13,.sq (.kp [0,2,3,4,5,6,7,8,9,11,12] c_Ib_286),.bk 2,.sq (.kp [0,2,3,4,5,6,7,8] c_Ib_326),.lp [0,2,3,4,5,6,7,8] c_Ib_46,.bk 1,.sq (.kp [0,2,3,4,5] c_Ib_327)]
def s_Ib_264 (p0:LI) (f g h i j:Int) (k:(List LI)) (a:Int×Ze) (l m n:Int) (c:LI) (d:(List LI)) (o:Int) (e:(List LI)):St:=
 ⟨mkSl 368 [(0,.v false [.ro [.sc] (p0.map (rI .u8))]),(2,sP 0 0),(3,.v false [.clo 45 []]),(4,sP 1 0),(5,sP 2 0),(6,sI f),(7,sI g),(8,sI h),(9,sI i),(11,sI j),(12,.v false [cR 0 e]),(13,.v false [cR 1 c]),(274,sI (k.length:Int)),(275,sI o)],[some ⟨[.own [.sc]],(List.map (rL (rI .i64)) e)⟩,jI c,some ⟨[.own [.sc]],(List.map (rL (rI .i64)) ([]:List LI))⟩,some ⟨[.own [.sc]],(List.map (rL (rI .i64)) d)⟩],[some [cI 0,cI 0,cI 0,cI 0,.ref 2 [] 0 (([]:List LI).length)],some [.ro [.sc] (a.2.b.map (rI .u8)),cI a.2.at_,cB a.2.short],some [cI l,cI m,cI n,cR 3 d]]⟩
def K_Ib_231:List Fr:=[.bk 2,.sq (.kp [0,2,3,4,5,6,7,8] c_Ib_326),.lp [0,2,3,4,5,6,7,8] c_Ib_46,.bk 1,.sq (.kp [0,2,3,4,5] c_Ib_327)]
def s_Ib_231 (p0:LI) (d e f g h i j k l:Int) (a:(List LI)) (m:LI) (n:Int) (o:Bool) (b:(List LI)) (c:LI):St:=
 ⟨mkSl 368 [(0,.v false [.ro [.sc] (p0.map (rI .u8))]),(2,sP 0 0),(3,.v false [.clo 45 []]),(4,sP 1 0),(5,sP 2 0),(6,sI d),(7,sI e),(8,sI f),(9,sI g),(10,sI h),(11,sI i),(12,.v false [cR 0 b]),(13,.v false [cR 1 c])],[some ⟨[.own [.sc]],(List.map (rL (rI .i64)) b)⟩,jI c,some ⟨[.own [.sc]],(List.map (rL (rI .i64)) ([]:List LI))⟩,some ⟨[.own [.sc]],(List.map (rL (rI .i64)) a)⟩],[some [cI 0,cI 0,cI 0,cI 0,.ref 2 [] 0 (([]:List LI).length)],some [.ro [.sc] (m.map (rI .u8)),cI n,cB o],some [cI j,cI k,cI l,cR 3 a]]⟩
def K_Ib_85:List Fr:=[.lp [0,2,3,4,5,6,7,8,9,10,11,12,13,120,121] c_Ib_85,.bk 3,.sq (.kp [0,2,3,4,5,6,7,8,9,10,11,12,13] c_Ib_231),.bk 2,.sq (.kp [0,2,3,4,5,6,7,8] c_Ib_326),.lp [0,2,3,4,5,6,7,8] c_Ib_46,.bk 1,.sq (.kp [0,2,3,4,5] c_Ib_327)]
def s_Ib_85 (p0:LI) (a e f g h i j k l:Int) (b:(List LI)) (m:Int) (n:LI) (o:Int) (p:Bool) (c:(List LI)) (d:LI):St:=
 ⟨mkSl 368 [(0,.v false [.ro [.sc] (p0.map (rI .u8))]),(2,sP 0 0),(3,.v false [.clo 45 []]),(4,sP 1 0),(5,sP 2 0),(6,sI a),(7,sI e),(8,sI f),(9,sI g),(10,sI h),(11,sI i),(12,.v false [cR 0 c]),(13,.v false [cR 1 d]),(120,sI a),(121,sI m)],[some ⟨[.own [.sc]],(List.map (rL (rI .i64)) c)⟩,jI d,some ⟨[.own [.sc]],(List.map (rL (rI .i64)) ([]:List LI))⟩,some ⟨[.own [.sc]],(List.map (rL (rI .i64)) b)⟩],[some [cI 0,cI 0,cI 0,cI 0,.ref 2 [] 0 (([]:List LI).length)],some [.ro [.sc] (n.map (rI .u8)),cI o,cB p],some [cI j,cI k,cI l,cR 3 b]]⟩
def K_Ib_71:List Fr:=[.sq c_Ib_76,.bk 2,.sq (.kp [0,2,3,4,5,6,7,8] c_Ib_326),.lp [0,2,3,4,5,6,7,8] c_Ib_46,.bk 1,.sq (.kp [0,2,3,4,5] c_Ib_327)]
def s_Ib_71 (p0:LI) (d e f:Int) (a:Int×Ze) (g h i:Int) (c:(List LI)) (j k l:Int) (m:Bool):St:=
 ⟨mkSl 368 [(0,.v false [.ro [.sc] (p0.map (rI .u8))]),(2,sP 0 0),(3,.v false [.clo 45 []]),(4,sP 1 0),(5,sP 2 0),(6,sI d),(7,sI e),(8,sI f),(9,sI j),(10,sI k),(11,sI l),(117,sB m)],[some ⟨[.own [.sc]],(List.map (rL (rI .i64)) ([]:List LI))⟩,some ⟨[.own [.sc]],(List.map (rL (rI .i64)) c)⟩],[some [cI 0,cI 0,cI 0,cI 0,.ref 0 [] 0 (([]:List LI).length)],some [.ro [.sc] (a.2.b.map (rI .u8)),cI a.2.at_,cB a.2.short],some [cI g,cI h,cI i,cR 1 c]]⟩
def K_Ib_327:List Fr:=[]
def s_Ib_327 (p0:LI) (b c d:Int) (e:LI) (f:Int) (g:Bool) (a:(List LI)):St:=
 ⟨mkSl 368 [(0,.v false [.ro [.sc] (p0.map (rI .u8))]),(2,sP 0 0),(3,.v false [.clo 45 []]),(4,sP 1 0),(5,sP 2 0)],[some ⟨[.own [.sc]],(List.map (rL (rI .i64)) ([]:List LI))⟩,some ⟨[.own [.sc]],(List.map (rL (rI .i64)) a)⟩],[some [cI 0,cI 0,cI 0,cI 0,.ref 0 [] 0 (([]:List LI).length)],some [.ro [.sc] (e.map (rI .u8)),cI f,cB g],some [cI b,cI c,cI d,cR 1 a]]⟩
def K_Ib_46:List Fr:=[.lp [0,2,3,4,5,6,7,8] c_Ib_46,.bk 1,.sq (.kp [0,2,3,4,5] c_Ib_327)]
def s_Ib_46 (p0:LI) (b c d e f g:Int) (h:LI) (i:Int) (j:Bool) (a:(List LI)):St:=
 ⟨mkSl 368 [(0,.v false [.ro [.sc] (p0.map (rI .u8))]),(2,sP 0 0),(3,.v false [.clo 45 []]),(4,sP 1 0),(5,sP 2 0),(6,sI b),(7,sI c),(8,sI g)],[some ⟨[.own [.sc]],(List.map (rL (rI .i64)) ([]:List LI))⟩,some ⟨[.own [.sc]],(List.map (rL (rI .i64)) a)⟩],[some [cI 0,cI 0,cI 0,cI 0,.ref 0 [] 0 (([]:List LI).length)],some [.ro [.sc] (h.map (rI .u8)),cI i,cB j],some [cI d,cI e,cI f,cR 1 a]]⟩
def K_Ib_36:List Fr:=[.sq c_Ib_41]
def s_Ib_36 (p0:LI) (a:Int×Ze) (d e:Int) (f:Bool) (g h i:Int) (c:(List LI)):St:=
 ⟨mkSl 368 [(0,.v false [.ro [.sc] (p0.map (rI .u8))]),(2,sP 0 0),(3,.v false [.clo 45 []]),(4,sP 1 0),(5,sP 2 0),(6,sI d),(7,sI e),(78,sB f)],[some ⟨[.own [.sc]],(List.map (rL (rI .i64)) ([]:List LI))⟩,some ⟨[.own [.sc]],(List.map (rL (rI .i64)) c)⟩],[some [cI 0,cI 0,cI 0,cI 0,.ref 0 [] 0 (([]:List LI).length)],some [.ro [.sc] (a.2.b.map (rI .u8)),cI a.2.at_,cB a.2.short],some [cI g,cI h,cI i,cR 1 c]]⟩
def K_Ib_0:List Fr:=[]
def s_Ib_0 (p0:LI):St:=
 ⟨mkSl 368 [(0,.v false [.ro [.sc] (p0.map (rI .u8))])],[],[]⟩
def K_Lb_31:List Fr:=[]
def s_Lb_31:St:=
 ⟨mkSl 26 [],[],[]⟩
def K_Lb_15:List Fr:=[.lp [0,1,5] c_Lb_15,.bk 0,.sq (.kp [] c_Lb_31)]
def s_Lb_15 (p0 p1:LI) (a:Int):St:=
 ⟨mkSl 26 [(0,.v false [.ro [.sc] (p0.map (rI .i64))]),(1,.v false [.ro [.sc] (p1.map (rI .i64))]),(5,sI a)],[],[]⟩
def K_Lb_0:List Fr:=[]
def s_Lb_0 (p0 p1:LI):St:=
 ⟨mkSl 26 [(0,.v false [.ro [.sc] (p0.map (rI .i64))]),(1,.v false [.ro [.sc] (p1.map (rI .i64))])],[],[]⟩
def K_Lc_31:List Fr:=[]
def s_Lc_31:St:=
 ⟨mkSl 27 [],[],[]⟩
def K_Lc_15:List Fr:=[.lp [0,1,5] c_Lc_15,.bk 0,.sq (.kp [] c_Lc_31)]
def s_Lc_15 (p0:(List LI)) (p1:(List LI)) (a:Int):St:=
 ⟨mkSl 27 [(0,.v false [.ro [.ro [.sc]] (p0.map (rL (rI .i64)))]),(1,.v false [.ro [.ro [.sc]] (p1.map (rL (rI .i64)))]),(5,sI a)],[],[]⟩
def K_Lc_0:List Fr:=[]
def s_Lc_0 (p0:(List LI)) (p1:(List LI)):St:=
 ⟨mkSl 27 [(0,.v false [.ro [.ro [.sc]] (p0.map (rL (rI .i64)))]),(1,.v false [.ro [.ro [.sc]] (p1.map (rL (rI .i64)))])],[],[]⟩
def K_Ld_0:List Fr:=[]
def s_Ld_0 (p0 p1:Za):St:=
 ⟨mkSl 26 [(0,.v true [cI p0.rate,cI p0.bits,cI p0.frame,.ro [.ro [.sc]] (p0.channels.map (rL (rI .i64)))]),(1,.v true [cI p1.rate,cI p1.bits,cI p1.frame,.ro [.ro [.sc]] (p1.channels.map (rL (rI .i64)))])],[],[]⟩
def K_Le_0:List Fr:=[]
def s_Le_0 (p0 p1:Zb):St:=
 ⟨mkSl 16 [(0,.v true [cI p0.err,cI p0.sound.rate,cI p0.sound.bits,cI p0.sound.frame,.ro [.ro [.sc]] (p0.sound.channels.map (rL (rI .i64)))]),(1,.v true [cI p1.err,cI p1.sound.rate,cI p1.sound.bits,cI p1.sound.frame,.ro [.ro [.sc]] (p1.sound.channels.map (rL (rI .i64)))])],[],[]⟩
def K_La_31:List Fr:=[]
def s_La_31:St:=
 ⟨mkSl 26 [],[],[]⟩
def K_La_15:List Fr:=[.lp [0,1,5] c_La_15,.bk 0,.sq (.kp [] c_La_31)]
def s_La_15 (p0 p1:LI) (a:Int):St:=
 ⟨mkSl 26 [(0,.v false [.ro [.sc] (p0.map (rI .u8))]),(1,.v false [.ro [.sc] (p1.map (rI .u8))]),(5,sI a)],[],[]⟩
def K_La_0:List Fr:=[]
def s_La_0 (p0 p1:LI):St:=
 ⟨mkSl 26 [(0,.v false [.ro [.sc] (p0.map (rI .u8))]),(1,.v false [.ro [.sc] (p1.map (rI .u8))])],[],[]⟩
def K_Lj_19:List Fr:=[]
def s_Lj_19 (b:Int) (a:LI):St:=
 ⟨mkSl 20 [(0,.v false [cR 0 a]),(1,sI b)],[some ⟨[.sc],(List.map (rI .u8) a)⟩],[]⟩
def K_Lj_7:List Fr:=[.lp [0,1,5] c_Lj_7,.bk 0,.sq (.kp [0,1] c_Lj_19)]
def s_Lj_7 (b c:Int) (a:LI):St:=
 ⟨mkSl 20 [(0,.v false [cR 0 a]),(1,sI b),(5,sI c)],[some ⟨[.sc],(List.map (rI .u8) a)⟩],[]⟩
def K_Lj_0:List Fr:=[]
def s_Lj_0 (p1:Int) (p0:LI):St:=
 ⟨mkSl 20 [(0,.v false [cR 0 p0]),(1,sI p1)],[some ⟨[.sc],(List.map (rI .u8) p0)⟩],[]⟩
def K_Lk_19:List Fr:=[]
def s_Lk_19 (b:Int) (a:LI):St:=
 ⟨mkSl 19 [(0,.v false [cR 0 a]),(1,sI b)],[jI a],[]⟩
def K_Lk_7:List Fr:=[.lp [0,1,5] c_Lk_7,.bk 0,.sq (.kp [0,1] c_Lk_19)]
def s_Lk_7 (b c:Int) (a:LI):St:=
 ⟨mkSl 19 [(0,.v false [cR 0 a]),(1,sI b),(5,sI c)],[jI a],[]⟩
def K_Lk_0:List Fr:=[]
def s_Lk_0 (p1:Int) (p0:LI):St:=
 ⟨mkSl 19 [(0,.v false [cR 0 p0]),(1,sI p1)],[jI p0],[]⟩
def K_Ll_17:List Fr:=[]
def s_Ll_17 (b:Int) (a:(List LI)):St:=
 ⟨mkSl 19 [(0,.v false [cR 0 a]),(1,sI b)],[some ⟨[.own [.sc]],(List.map (rL (rI .i64)) a)⟩],[]⟩
def K_Ll_7:List Fr:=[.lp [0,1,5] c_Ll_7,.bk 0,.sq (.kp [0,1] c_Ll_17)]
def s_Ll_7 (b c:Int) (a:(List LI)):St:=
 ⟨mkSl 19 [(0,.v false [cR 0 a]),(1,sI b),(5,sI c)],[some ⟨[.own [.sc]],(List.map (rL (rI .i64)) a)⟩],[]⟩
def K_Ll_0:List Fr:=[]
def s_Ll_0 (p1:Int) (p0:(List LI)):St:=
 ⟨mkSl 19 [(0,.v false [cR 0 p0]),(1,sI p1)],[some ⟨[.own [.sc]],(List.map (rL (rI .i64)) p0)⟩],[]⟩
def K_Lm_0:List Fr:=[]
def s_Lm_0 (p0:Za) (p1:Int):St:=
 ⟨mkSl 10 [(0,.v true [cI p0.rate,cI p0.bits,cI p0.frame,cR 0 p0.channels]),(1,sI p1)],[some ⟨[.own [.sc]],(List.map (rL (rI .i64)) p0.channels)⟩],[]⟩
def K_Ln_0:List Fr:=[]
def s_Ln_0 (p0:Zb) (p1:Int):St:=
 ⟨mkSl 10 [(0,.v true [cI p0.err,cI p0.sound.rate,cI p0.sound.bits,cI p0.sound.frame,cR 0 p0.sound.channels]),(1,sI p1)],[some ⟨[.own [.sc]],(List.map (rL (rI .i64)) p0.sound.channels)⟩],[]⟩
def K_Lf_25:List Fr:=[]
def s_Lf_25 (a:Int):St:=
 ⟨mkSl 21 [(1,sI a)],[],[]⟩
def K_Lf_7:List Fr:=[.lp [0,1,5] c_Lf_7,.bk 0,.sq (.kp [1] c_Lf_25)]
def s_Lf_7 (p0:LI) (a b:Int):St:=
 ⟨mkSl 21 [(0,.v false [.ro [.sc] (p0.map (rI .i64))]),(1,sI a),(5,sI b)],[],[]⟩
def K_Lf_0:List Fr:=[]
def s_Lf_0 (p0:LI) (p1:Int):St:=
 ⟨mkSl 21 [(0,.v false [.ro [.sc] (p0.map (rI .i64))]),(1,sI p1)],[],[]⟩
def K_Lg_25:List Fr:=[]
def s_Lg_25 (a:Int):St:=
 ⟨mkSl 21 [(1,sI a)],[],[]⟩
def K_Lg_7:List Fr:=[.lp [0,1,5] c_Lg_7,.bk 0,.sq (.kp [1] c_Lg_25)]
def s_Lg_7 (p0:(List LI)) (a b:Int):St:=
 ⟨mkSl 21 [(0,.v false [.ro [.ro [.sc]] (p0.map (rL (rI .i64)))]),(1,sI a),(5,sI b)],[],[]⟩
def K_Lg_0:List Fr:=[]
def s_Lg_0 (p0:(List LI)) (p1:Int):St:=
 ⟨mkSl 21 [(0,.v false [.ro [.ro [.sc]] (p0.map (rL (rI .i64)))]),(1,sI p1)],[],[]⟩
def K_Lh_0:List Fr:=[]
def s_Lh_0 (p0:Za) (p1:Int):St:=
 ⟨mkSl 12 [(0,.v true [cI p0.rate,cI p0.bits,cI p0.frame,.ro [.ro [.sc]] (p0.channels.map (rL (rI .i64)))]),(1,sI p1)],[],[]⟩
def K_Li_0:List Fr:=[]
def s_Li_0 (p0:Zb) (p1:Int):St:=
 ⟨mkSl 12 [(0,.v true [cI p0.err,cI p0.sound.rate,cI p0.sound.bits,cI p0.sound.frame,.ro [.ro [.sc]] (p0.sound.channels.map (rL (rI .i64)))]),(1,sI p1)],[],[]⟩
def K_laws_FnExactDecodeSound_0:List Fr:=[]
def s_laws_FnExactDecodeSound_0 (p0:LI):St:=
 ⟨mkSl 66 [(0,.v false [.ro [.sc] (p0.map (rI .u8))])],[],[]⟩
def O_Lo_9 (Q:VX→St→Prop) (e:(LI)):Prop:=EE c_Lo_19 K_Lo_19 (s_Lo_19 e) Q
theorem ok_Lo_19 (a r:LI) (hm:m_Lo_19 a=some r):EE c_Lo_19 K_Lo_19 (s_Lo_19 a) (Post vf_Lo (res_Lo r)):=by
 exact ge (wR (rI .u8) a<|z0) (congrArg res_Lo (qj hm)) (by kernel_rfl)
theorem ok_Lo_9 (p0:LI) (c:Int) (a:LI) (y) (hm:m_Lo_9 p0 c a=some y) (Q)
  (hin:∀ s,y=.inl s→EE c_Lo_9 K_Lo_9 (s_Lo_9 p0 s.1 s.2) Q) (hout:∀ e,y=.inr e→O_Lo_9 Q e):EE c_Lo_9 K_Lo_9 (s_Lo_9 p0 c a) Q:=by
 obtain ⟨d,hm⟩|⟨d,hm⟩:=split_ite hm
 ·obtain ⟨b,f,hm⟩:=bind_some hm
  obtain ⟨h,g,hm⟩:=bind_some hm
  exact gw (hin _ (qj hm).symm) (wL (rI .u8) p0<|u1 d<|wO (.row ((rI .u8) b))<|wO (.rows (List.map (rI .u8) (a.set (0+Int.toNat c) b)))<|wO (zn ((a.set (0+Int.toNat c) b).length))<|wP (rd_nn f)<|wP (at_row (rI .u8) (rd_get f))<|wP (rd_in rfl g)<|wP (put_ob (rI .u8) b 0 (.lit (.int .u8 b)) (rd_get0 g) (by kernel_rfl) (by kernel_rfl))<|wP (lens a.length ((a.set (0+Int.toNat c) b).length) (set_len rfl))<|z0) (by kernel_rfl)
 ·refine gm c_Lo_19 K_Lo_19 (s_Lo_19 a) (wL (rI .u8) p0<|v1 d<|wN a.length<|z0) ?_ (by kernel_rfl)
  exact hout a (qj hm).symm
theorem ok_Lo_0 (p0 r:LI) (hm:m_Lo_0 p0=some r):EE c_Lo_0 K_Lo_0 (s_Lo_0 p0) (Post vf_Lo (res_Lo r)):=by
 obtain ⟨d,a,hm⟩:=bind_some hm
 refine gm c_Lo_9 K_Lo_9 (s_Lo_9 p0 0 (List.replicate (Int.toNat (p0.length:Int)) (0:Int))) (wL (rI .u8) p0<|wO (.rows (List.map (rI .u8) (List.replicate (Int.toNat (p0.length:Int)) (0:Int))))<|wO (zn (Int.toNat (p0.length:Int)))<|wO (zn ((List.replicate (Int.toNat (p0.length:Int)) (0:Int)).length))<|wP (ck_p a)<|wP (rep_ob (rI .u8) (Int.toNat (p0.length:Int)) (0:Int) [.lit (.int .u8 0)] (by kernel_rfl))<|wP (len_map (rI .u8) (show (Int.toNat (p0.length:Int))=(List.replicate (Int.toNat (p0.length:Int)) (0:Int)).length from (rep_len (Int.toNat (p0.length:Int)) (0:Int))))<|wP (lens (Int.toNat (p0.length:Int)) ((List.replicate (Int.toNat (p0.length:Int)) (0:Int)).length) (rep_len (Int.toNat (p0.length:Int)) (0:Int)))<|z0) ?_ (by kernel_rfl)
 obtain ⟨e,he,hm⟩:=bind_some hm
 refine loop_rule (u:=.c c_Lo_9) (K:=K_Lo_9) (Q:=(Post vf_Lo (res_Lo r))) (b:=lp_Lo_9 p0) (We:=O_Lo_9 (Post vf_Lo (res_Lo r))) (stJ:=fun s=>s_Lo_9 p0 s.1 s.2) (s:=(0,(List.replicate (Int.toNat (p0.length:Int)) (0:Int)))) (fun s y hb hin hout=>ok_Lo_9 p0 s.1 s.2 y hb (Post vf_Lo (res_Lo r)) hin hout) he ?_
 show EE c_Lo_19 K_Lo_19 (s_Lo_19 e) _
 exact ok_Lo_19 e r hm
theorem ok_Lo (p0 r:LI) (hm:m_Lo p0=some r):Runs ext tbl 16 (as_Lo p0) (res_Lo r):=
 runs_of (vf:=vf_Lo) (by kernel_rfl) rfl (st:=(enter vf_Lo (as_Lo p0)).getD default) (by kernel_rfl) (go_on [] 1000 J0 (ok_Lo_0 p0 r hm) (by kernel_rfl))
theorem ok_Ss_0 (p0:LI) (p1:Int) (p2:Bool) (r:Int) (hm:m_Ss_0 p0 p1 p2=some r):EE c_Ss_0 K_Ss_0 (s_Ss_0 p0 p1 p2) (Post vf_Ss (res_Ss r)):=by
 obtain ⟨b,hm⟩|⟨b,hm⟩:=split_ite hm
 ·obtain ⟨c,a,hm⟩:=bind_some hm
  obtain ⟨e,d,hm⟩:=bind_some hm
  exact ge (u1 b<|wO (.row ((rI .u8) c))<|wP (by decide:(8:Int)≠0)<|wP (rd_nn a)<|wP (at_row (rI .u8) (rd_get a))<|wP (by decide:(8:Int)≠0)<|wP (ck_p d)<|z0) (congrArg res_Ss (qj hm)) (by kernel_rfl)
 ·obtain ⟨c,a,hm⟩:=bind_some hm
  obtain ⟨e,d,hm⟩:=bind_some hm
  exact ge (v1 b<|wO (.row ((rI .u8) c))<|wP (by decide:(8:Int)≠0)<|wP (rd_nn a)<|wP (at_row (rI .u8) (rd_get a))<|wP (by decide:(8:Int)≠0)<|wP (ck_p d)<|z0) (congrArg res_Ss (qj hm)) (by kernel_rfl)
theorem ok_Ss (p0:LI) (p1:Int) (p2:Bool) (r:Int) (hm:m_Ss p0 p1 p2=some r):Runs ext tbl 92 (as_Ss p0 p1 p2) (res_Ss r):=
 runs_of (vf:=vf_Ss) (by kernel_rfl) rfl (st:=(enter vf_Ss (as_Ss p0 p1 p2)).getD default) (by kernel_rfl) (go_on [] 1000 J0 (ok_Ss_0 p0 p1 p2 r hm) (by kernel_rfl))
def O_St_17 (p1 p2:Int) (Q:VX→St→Prop) (e:(Int)):Prop:=EE c_St_33 K_St_33 (s_St_33 p1 p2 e) Q
theorem ok_St_33 (p1 p2 a:Int) (r:Zd) (hm:m_St_33 p1 p2 a=some r):EE c_St_33 K_St_33 (s_St_33 p1 p2 a) (Post vf_St (res_St r)):=by
 exact ge (z0) (congrArg res_St (qj hm)) (by kernel_rfl)
theorem ok_St_17 (p0:LI) (p1 p2:Int) (p3:Bool) (a b:Int) (y) (hm:m_St_17 p0 p1 p2 p3 a b=some y) (Q)
  (hin:∀ s,y=.inl s→EE c_St_17 K_St_17 (s_St_17 p0 p1 p2 p3 s.1 s.2) Q) (hout:∀ e,y=.inr e→O_St_17 p1 p2 Q e):EE c_St_17 K_St_17 (s_St_17 p0 p1 p2 p3 a b) Q:=by
 obtain ⟨c,hm⟩|⟨c,hm⟩:=split_ite hm
 ·obtain ⟨d,g,hm⟩:=bind_some hm
  obtain ⟨f,hm⟩|⟨f,hm⟩:=split_ite hm
  ·exact gw (hin _ (qj hm).symm) (u1 c<|wO (.res (res_Ss d))<|wP (ok_Ss p0 (w64 (p1+b)) p3 d g)<|u1 f<|z0) (by kernel_rfl)
  ·obtain ⟨i,h,hm⟩:=bind_some hm
   exact gw (hin _ (qj hm).symm) (u1 c<|wO (.res (res_Ss d))<|wP (ok_Ss p0 (w64 (p1+b)) p3 d g)<|v1 f<|wP (ck_p h)<|z0) (by kernel_rfl)
 ·refine gm c_St_33 K_St_33 (s_St_33 p1 p2 a) (v1 c<|z0) ?_ (by kernel_rfl)
  exact hout a (qj hm).symm
theorem ok_St_5 (p0:LI) (p1 p2:Int) (p3 d:Bool) (r:Zd) (hm:m_St_5 p0 p1 p2 p3 d=some r):EE c_St_5 K_St_5 (s_St_5 p0 p1 p2 p3 d) (Post vf_St (res_St r)):=by
 obtain ⟨a,hm⟩|⟨a,hm⟩:=split_ite hm
 ·exact ge (u1 a<|z0) (congrArg res_St (qj hm)) (by kernel_rfl)
 ·refine gm c_St_17 K_St_17 (s_St_17 p0 p1 p2 p3 0 0) (v1 a<|z0) ?_ (by kernel_rfl)
  obtain ⟨e,he,hm⟩:=bind_some hm
  refine loop_rule (u:=.c c_St_17) (K:=K_St_17) (Q:=(Post vf_St (res_St r))) (b:=lp_St_17 p0 p1 p2 p3) (We:=O_St_17 p1 p2 (Post vf_St (res_St r))) (stJ:=fun s=>s_St_17 p0 p1 p2 p3 s.1 s.2) (s:=(0,0)) (fun s y hb hin hout=>ok_St_17 p0 p1 p2 p3 s.1 s.2 y hb (Post vf_St (res_St r)) hin hout) he ?_
  show EE c_St_33 K_St_33 (s_St_33 p1 p2 e) _
  exact ok_St_33 p1 p2 e r hm
theorem ok_St_0 (p0:LI) (p1 p2:Int) (p3:Bool) (r:Zd) (hm:m_St_0 p0 p1 p2 p3=some r):EE c_St_0 K_St_0 (s_St_0 p0 p1 p2 p3) (Post vf_St (res_St r)):=by
 obtain ⟨b,hm⟩|⟨b,hm⟩:=split_ite hm
 ·exact gw (ok_St_5 _ _ _ _ _ r hm) (u3 b<|u4 eT<|u4 eT<|u4 eT<|u4 eT<|u1 eT<|z0) (by kernel_rfl)
 ·obtain ⟨d,hm⟩|⟨d,hm⟩:=split_ite hm
  ·exact gw (ok_St_5 _ _ _ _ _ r hm) (v3 b<|u3 d<|u4 eT<|u4 eT<|u4 eT<|u2 eT<|z0) (by kernel_rfl)
  ·obtain ⟨a,hm⟩|⟨a,hm⟩:=split_ite hm
   ·exact gw (ok_St_5 _ _ _ _ _ r hm) (v3 b<|v3 d<|u4 a<|u2 a<|u4 eT<|u4 eT<|z0) (by kernel_rfl)
   ·obtain ⟨c,hm⟩|⟨c,hm⟩:=split_ite hm
    ·exact gw (ok_St_5 _ _ _ _ _ r hm) (v3 b<|v3 d<|v3 a<|wL (rI .u8) p0<|v3 a<|u4 c<|u4 c<|z0) (by kernel_rfl)
    ·exact gw (ok_St_5 _ _ _ _ _ r hm) (v3 b<|v3 d<|v3 a<|wL (rI .u8) p0<|v3 a<|v3 c<|wL (rI .u8) p0<|v4 c<|v1 c<|z0) (by kernel_rfl)
theorem ok_St (p0:LI) (p1 p2:Int) (p3:Bool) (r:Zd) (hm:m_St p0 p1 p2 p3=some r):Runs ext tbl 76 (as_St p0 p1 p2 p3) (res_St r):=
 runs_of (vf:=vf_St) (by kernel_rfl) rfl (st:=(enter vf_St (as_St p0 p1 p2 p3)).getD default) (by kernel_rfl) (go_on [] 1000 J0 (ok_St_0 p0 p1 p2 p3 r hm) (by kernel_rfl))
theorem ok_Sj_0 (p1:Int) (p0 r:Zc) (hm:m_Sj_0 p1 p0=some r):EE c_Sj_0 K_Sj_0 (s_Sj_0 p1 p0) (Post vf_Sj (res_Sj r)):=by
 obtain ⟨a,hm⟩|⟨a,hm⟩:=split_ite hm
 ·exact ge (u1 a<|z0) (congrArg res_Sj (qj hm)) (by kernel_rfl)
 ·exact ge (v1 a<|z0) (congrArg res_Sj (qj hm)) (by kernel_rfl)
theorem ok_Sj (p0:Zc) (p1:Int) (r:Zc) (hm:m_Sj p0 p1=some r):Runs ext tbl 43 (as_Sj p0 p1) (res_Sj r):=
 runs_of (vf:=vf_Sj) (by kernel_rfl) rfl (st:=(enter vf_Sj (as_Sj p0 p1)).getD default) (by kernel_rfl) (go_on [] 1000 J0 (ok_Sj_0 p1 p0 r hm) (by kernel_rfl))
theorem ok_Sq_10 (b:Zd) (c:LI) (d e:Int) (r:Int×Zc) (hm:m_Sq_10 b c d e=some r):EE c_Sq_10 K_Sq_10 (s_Sq_10 b c d e) (Post vf_Sq (res_Sq r)):=by
 obtain ⟨a,hm⟩|⟨a,hm⟩:=split_ite hm
 ·exact ge (u1 a<|z0) (congrArg res_Sq (qj hm)) (by kernel_rfl)
 ·exact ge (v1 a<|z0) (congrArg res_Sq (qj hm)) (by kernel_rfl)
theorem ok_Sq_0 (p1:Int) (p0:Zc) (r:Int×Zc) (hm:m_Sq_0 p1 p0=some r):EE c_Sq_0 K_Sq_0 (s_Sq_0 p1 p0) (Post vf_Sq (res_Sq r)):=by
 obtain ⟨a,c,hm⟩:=bind_some hm
 obtain ⟨b,hm⟩|⟨b,hm⟩:=split_ite hm
 ·exact gw (ok_Sq_10 _ _ _ _ r hm) (wO (.res (res_St a))<|wP (ok_St p0.data p0.at_ p1 true a c)<|v1 (not_f b)<|z0) (by kernel_rfl)
 ·obtain ⟨d,e,hm⟩:=bind_some hm
  exact gw (ok_Sq_10 _ _ _ _ r hm) (wO (.res (res_St a))<|wP (ok_St p0.data p0.at_ p1 true a c)<|u1 (not_t b)<|wO (.res (res_Sj d))<|wP (ok_Sj p0 2 d e)<|z0) (by kernel_rfl)
theorem ok_Sq (p0:Zc) (p1:Int) (r:Int×Zc) (hm:m_Sq p0 p1=some r):Runs ext tbl 41 (as_Sq p0 p1) (res_Sq r):=
 runs_of (vf:=vf_Sq) (by kernel_rfl) rfl (st:=(enter vf_Sq (as_Sq p0 p1)).getD default) (by kernel_rfl) (go_on [] 1000 J0 (ok_Sq_0 p1 p0 r hm) (by kernel_rfl))
def O_Sn_4 (Q:VX→St→Prop) (e:Zc):Prop:=Q=Post vf_Sn (res_Sn e)
theorem ok_Sn_18 (p1:LI) (c:Int) (a:Int×Zc) (d:Bool) (y) (hm:m_Sn_18 p1 c a d=some y) (Q)
  (hin:∀ s,y=.inl s→EE c_Sn_4 K_Sn_4 (s_Sn_4 p1 s.1 s.2.1 s.2.2.1 s.2.2.2) Q) (hout:∀ e,y=.inr e→O_Sn_4 Q e):EE c_Sn_18 K_Sn_18 (s_Sn_18 p1 c a d) Q:=by
 obtain ⟨b,hm⟩|⟨b,hm⟩:=split_ite hm
 ·obtain ⟨f,g,hm⟩:=bind_some hm
  exact gw (hin _ (qj hm).symm) (u1 b<|wO (.res (res_Sj f))<|wP (ok_Sj a.2 4 f g)<|z0) (by kernel_rfl)
 ·exact gw (hin _ (qj hm).symm) (v1 b<|z0) (by kernel_rfl)
theorem ok_Sn_4 (p1:LI) (i:Int) (a:LI) (b c:Int) (y) (hm:m_Sn_4 p1 i a b c=some y) (Q)
  (hin:∀ s,y=.inl s→EE c_Sn_4 K_Sn_4 (s_Sn_4 p1 s.1 s.2.1 s.2.2.1 s.2.2.2) Q) (hout:∀ e,y=.inr e→O_Sn_4 Q e):EE c_Sn_4 K_Sn_4 (s_Sn_4 p1 i a b c) Q:=by
 obtain ⟨f,hm⟩|⟨f,hm⟩:=split_ite hm
 ·obtain ⟨j,g,hm⟩:=bind_some hm
  obtain ⟨h,k,hm⟩:=bind_some hm
  obtain ⟨d,hm⟩|⟨d,hm⟩:=split_ite hm
  ·exact gw (ok_Sn_18 _ _ _ _ y hm Q hin hout) (u1 f<|wO (.row ((rI .u8) j))<|wO (.res (res_Sq h))<|wP (rd_nn g)<|wP (at_row (rI .u8) (rd_get g))<|wP (ok_Sq (Zc.mk a b c) 8 h k)<|u4 d<|u1 d<|z0) (by kernel_rfl)
  ·exact gw (ok_Sn_18 _ _ _ _ y hm Q hin hout) (u1 f<|wO (.row ((rI .u8) j))<|wO (.res (res_Sq h))<|wP (rd_nn g)<|wP (at_row (rI .u8) (rd_get g))<|wP (ok_Sq (Zc.mk a b c) 8 h k)<|v4 d<|v1 d<|z0) (by kernel_rfl)
 ·have hQ:Q=Post vf_Sn (res_Sn (Zc.mk a b c)):=hout (Zc.mk a b c) (qj hm).symm
  subst hQ
  exact ge (v1 f<|z0) (rfl:res_Sn (Zc.mk a b c)=res_Sn (Zc.mk a b c)) (by kernel_rfl)
theorem ok_Sn_0 (p1:LI) (p0 r:Zc) (hm:m_Sn_0 p1 p0=some r):EE c_Sn_0 K_Sn_0 (s_Sn_0 p1 p0) (Post vf_Sn (res_Sn r)):=by
 refine gm c_Sn_4 K_Sn_4 (s_Sn_4 p1 0 p0.data p0.at_ p0.err) (wL (rI .u8) p1<|z0) ?_ (by kernel_rfl)
 obtain ⟨e,he,hm⟩:=bind_some hm
 refine loop_rule (u:=.c c_Sn_4) (K:=K_Sn_4) (Q:=(Post vf_Sn (res_Sn r))) (b:=lp_Sn_4 p1) (We:=O_Sn_4 (Post vf_Sn (res_Sn r))) (stJ:=fun s=>s_Sn_4 p1 s.1 s.2.1 s.2.2.1 s.2.2.2) (s:=(0,p0.data,p0.at_,p0.err)) (fun s y hb hin hout=>ok_Sn_4 p1 s.1 s.2.1 s.2.2.1 s.2.2.2 y hb (Post vf_Sn (res_Sn r)) hin hout) he ?_
 exact congrArg (fun r=>Post vf_Sn (res_Sn r)) (qj hm).symm
theorem ok_Sn (p0:Zc) (p1:LI) (r:Zc) (hm:m_Sn p0 p1=some r):Runs ext tbl 40 (as_Sn p0 p1) (res_Sn r):=
 runs_of (vf:=vf_Sn) (by kernel_rfl) rfl (st:=(enter vf_Sn (as_Sn p0 p1)).getD default) (by kernel_rfl) (go_on [] 1000 J0 (ok_Sn_0 p1 p0 r hm) (by kernel_rfl))
theorem ok_Sf_0 (p0:Za) (p1 p2:Int) (r:Bool) (hm:m_Sf_0 p0 p1 p2=some r):EE c_Sf_0 K_Sf_0 (s_Sf_0 p0 p1 p2) (Post vf_Sf (res_Sf r)):=by
 obtain ⟨a,hm⟩|⟨a,hm⟩:=split_ite hm
 ·exact ge (u4 a<|u4 eT<|u4 eT<|u4 eT<|u4 eT<|u1 eT<|z0) (congrArg res_Sf (qj hm)) (by kernel_rfl)
 ·obtain ⟨b,hm⟩|⟨b,hm⟩:=split_ite hm
  ·exact ge (v4 a<|u4 b<|u4 eT<|u4 eT<|u4 eT<|u1 eT<|z0) (congrArg res_Sf (qj hm)) (by kernel_rfl)
  ·obtain ⟨c,hm⟩|⟨c,hm⟩:=split_ite hm
   ·exact ge (v4 a<|v4 b<|u4 c<|u4 eT<|u4 eT<|u1 eT<|z0) (congrArg res_Sf (qj hm)) (by kernel_rfl)
   ·obtain ⟨d,hm⟩|⟨d,hm⟩:=split_ite hm
    ·exact ge (v4 a<|v4 b<|v4 c<|u4 d<|u4 eT<|u1 eT<|z0) (congrArg res_Sf (qj hm)) (by kernel_rfl)
    ·obtain ⟨e,hm⟩|⟨e,hm⟩:=split_ite hm
     ·exact ge (v4 a<|v4 b<|v4 c<|v4 d<|u4 e<|u1 eT<|z0) (congrArg res_Sf (qj hm)) (by kernel_rfl)
     ·obtain ⟨f,hm⟩|⟨f,hm⟩:=split_ite hm
      ·exact ge (v4 a<|v4 b<|v4 c<|v4 d<|v4 e<|u1 f<|z0) (congrArg res_Sf (qj hm)) (by kernel_rfl)
      ·obtain ⟨g,hm⟩|⟨g,hm⟩:=split_ite hm
       ·obtain ⟨h,hm⟩|⟨h,hm⟩:=split_ite hm
        ·exact ge (v4 a<|v4 b<|v4 c<|v4 d<|v4 e<|v1 f<|u3 g<|u3 h<|z0) (congrArg res_Sf (qj hm)) (by kernel_rfl)
        ·exact ge (v4 a<|v4 b<|v4 c<|v4 d<|v4 e<|v1 f<|u3 g<|v3 h<|z0) (congrArg res_Sf (qj hm)) (by kernel_rfl)
       ·exact ge (v4 a<|v4 b<|v4 c<|v4 d<|v4 e<|v1 f<|v3 g<|v3 eF<|z0) (congrArg res_Sf (qj hm)) (by kernel_rfl)
theorem ok_Sf (p0:Za) (p1 p2:Int) (r:Bool) (hm:m_Sf p0 p1 p2=some r):Runs ext tbl 42 (as_Sf p0 p1 p2) (res_Sf r):=
 runs_of (vf:=vf_Sf) (by kernel_rfl) rfl (st:=(enter vf_Sf (as_Sf p0 p1 p2)).getD default) (by kernel_rfl) (go_on [] 1000 J0 (ok_Sf_0 p0 p1 p2 r hm) (by kernel_rfl))
theorem ok_Sp_0 (p1:Int) (p0:Zc) (r:Int×Zc) (hm:m_Sp_0 p1 p0=some r):EE c_Sp_0 K_Sp_0 (s_Sp_0 p1 p0) (Post vf_Sp (res_Sp r)):=by
 obtain ⟨a,c,hm⟩:=bind_some hm
 obtain ⟨f,d,hm⟩:=bind_some hm
 obtain ⟨b,hm⟩|⟨b,hm⟩:=split_ite hm
 ·obtain ⟨g,e,hm⟩:=bind_some hm
  exact ge (wO (.res (res_Sq a))<|wP (ok_Sq p0 p1 a c)<|wP (ck_p d)<|u1 b<|wP (ck_p e)<|z0) (congrArg res_Sp (qj hm)) (by kernel_rfl)
 ·exact ge (wO (.res (res_Sq a))<|wP (ok_Sq p0 p1 a c)<|wP (ck_p d)<|v1 b<|z0) (congrArg res_Sp (qj hm)) (by kernel_rfl)
theorem ok_Sp (p0:Zc) (p1:Int) (r:Int×Zc) (hm:m_Sp p0 p1=some r):Runs ext tbl 93 (as_Sp p0 p1) (res_Sp r):=
 runs_of (vf:=vf_Sp) (by kernel_rfl) rfl (st:=(enter vf_Sp (as_Sp p0 p1)).getD default) (by kernel_rfl) (go_on [] 1000 J0 (ok_Sp_0 p1 p0 r hm) (by kernel_rfl))
theorem ok_Si_0 (p0 p1 p2:Int) (r:Bool) (hm:m_Si_0 p0 p1 p2=some r):EE c_Si_0 K_Si_0 (s_Si_0 p0 p1 p2) (Post vf_Si (res_Si r)):=by
 obtain ⟨a,hm⟩|⟨a,hm⟩:=split_ite hm
 ·exact ge (u3 a<|u4 eT<|u4 eT<|u3 eT<|z0) (congrArg res_Si (qj hm)) (by kernel_rfl)
 ·obtain ⟨b,hm⟩|⟨b,hm⟩:=split_ite hm
  ·exact ge (v3 a<|u4 b<|u4 eT<|u3 eT<|z0) (congrArg res_Si (qj hm)) (by kernel_rfl)
  ·obtain ⟨c,hm⟩|⟨c,hm⟩:=split_ite hm
   ·exact ge (v3 a<|v4 b<|u3 c<|u4 eT<|z0) (congrArg res_Si (qj hm)) (by kernel_rfl)
   ·obtain ⟨d,hm⟩|⟨d,hm⟩:=split_ite hm
    ·exact ge (v3 a<|v4 b<|v3 c<|u3 d<|u1 eT<|z0) (congrArg res_Si (qj hm)) (by kernel_rfl)
    ·obtain ⟨f,hm⟩|⟨f,hm⟩:=split_ite hm
     ·exact ge (v3 a<|v4 b<|v3 c<|v3 d<|u1 f<|z0) (congrArg res_Si (qj hm)) (by kernel_rfl)
     ·obtain ⟨i,g,hm⟩:=bind_some hm
      obtain ⟨j,h,hm⟩:=bind_some hm
      obtain ⟨e,hm⟩|⟨e,hm⟩:=split_ite hm
      ·exact ge (v3 a<|v4 b<|v3 c<|v3 d<|v1 f<|wP (ck_p g)<|wP (ck_p h)<|u4 e<|wP (ck_p g)<|u3 e<|z0) (congrArg res_Si (qj hm)) (by kernel_rfl)
      ·exact ge (v3 a<|v4 b<|v3 c<|v3 d<|v1 f<|wP (ck_p g)<|wP (ck_p h)<|v4 e<|v3 e<|z0) (congrArg res_Si (qj hm)) (by kernel_rfl)
theorem ok_Si (p0 p1 p2:Int) (r:Bool) (hm:m_Si p0 p1 p2=some r):Runs ext tbl 87 (as_Si p0 p1 p2) (res_Si r):=
 runs_of (vf:=vf_Si) (by kernel_rfl) rfl (st:=(enter vf_Si (as_Si p0 p1 p2)).getD default) (by kernel_rfl) (go_on [] 1000 J0 (ok_Si_0 p0 p1 p2 r hm) (by kernel_rfl))
theorem ok_Sd_0 (p0 r:Int) (hm:m_Sd_0 p0=some r):EE c_Sd_0 K_Sd_0 (s_Sd_0 p0) (Post vf_Sd (res_Sd r)):=by
 obtain ⟨a,hm⟩|⟨a,hm⟩:=split_ite hm
 ·exact ge (wP (by decide:(2:Int)≠0)<|u1 a<|wP (by decide:(2:Int)≠0)<|z0) (congrArg res_Sd (qj hm)) (by kernel_rfl)
 ·exact ge (wP (by decide:(2:Int)≠0)<|v1 a<|wP (by decide:(2:Int)≠0)<|z0) (congrArg res_Sd (qj hm)) (by kernel_rfl)
theorem ok_Sd (p0 r:Int) (hm:m_Sd p0=some r):Runs ext tbl 100 (as_Sd p0) (res_Sd r):=
 runs_of (vf:=vf_Sd) (by kernel_rfl) rfl (st:=(enter vf_Sd (as_Sd p0)).getD default) (by kernel_rfl) (go_on [] 1000 J0 (ok_Sd_0 p0 r hm) (by kernel_rfl))
def O_So_15 (p1:Int) (Q:VX→St→Prop) (e:(Int×LI×Int×Int)):Prop:=EE c_So_23 K_So_23 (s_So_23 p1 e.1 e.2.1 e.2.2.1 e.2.2.2) Q
theorem ok_So_23 (p1 a:Int) (b:LI) (c d:Int) (r:Int×Zc) (hm:m_So_23 p1 a b c d=some r):EE c_So_23 K_So_23 (s_So_23 p1 a b c d) (Post vf_So (res_So r)):=by
 obtain ⟨j,g,hm⟩:=bind_some hm
 obtain ⟨e,h,hm⟩:=bind_some hm
 obtain ⟨f,i,hm⟩:=bind_some hm
 exact ge (wO (.res (res_Sq e))<|wO (.res (res_Sd f))<|wP (ck_p g)<|wP (ok_Sq (Zc.mk b c d) p1 e h)<|wP (ok_Sd (orI .u64 (shlI .u64 (wr .u64 a) (wr .u64 p1)) (wr .u64 e.1)) f i)<|z0) (congrArg res_So (qj hm)) (by kernel_rfl)
theorem ok_So_15 (p1 b:Int) (c:LI) (d f:Int) (y) (hm:m_So_15 p1 b c d f=some y) (Q)
  (hin:∀ s,y=.inl s→EE c_So_15 K_So_15 (s_So_15 p1 s.1 s.2.1 s.2.2.1 s.2.2.2) Q) (hout:∀ e,y=.inr e→O_So_15 p1 Q e):EE c_So_15 K_So_15 (s_So_15 p1 b c d f) Q:=by
 obtain ⟨g,hm⟩|⟨g,hm⟩:=split_ite hm
 ·obtain ⟨a,i,hm⟩:=bind_some hm
  obtain ⟨h,hm⟩|⟨h,hm⟩:=split_ite hm
  ·exact gw (hin _ (qj hm).symm) (u2 g<|wO (.res (res_Sq a))<|wP (ok_Sq (Zc.mk c d f) 1 a i)<|u2 g<|u1 h<|z0) (by kernel_rfl)
  ·refine gm c_So_23 K_So_23 (s_So_23 p1 b a.2.data a.2.at_ a.2.err) (u2 g<|wO (.res (res_Sq a))<|wP (ok_Sq (Zc.mk c d f) 1 a i)<|u2 g<|v1 h<|z0) ?_ (by kernel_rfl)
   exact hout (b,a.2.data,a.2.at_,a.2.err) (qj hm).symm
 ·refine gm c_So_23 K_So_23 (s_So_23 p1 b c d f) (v4 g<|v1 eF<|z0) ?_ (by kernel_rfl)
  exact hout (b,c,d,f) (qj hm).symm
theorem ok_So_0 (p1:Int) (p0:Zc) (r:Int×Zc) (hm:m_So_0 p1 p0=some r):EE c_So_0 K_So_0 (s_So_0 p1 p0) (Post vf_So (res_So r)):=by
 obtain ⟨a,hm⟩|⟨a,hm⟩:=split_ite hm
 ·obtain ⟨d,f,hm⟩:=bind_some hm
  exact ge (u1 a<|wO (.res (res_Sp d))<|wP (ok_Sp p0 32 d f)<|z0) (congrArg res_So (qj hm)) (by kernel_rfl)
 ·refine gm c_So_15 K_So_15 (s_So_15 p1 0 p0.data p0.at_ p0.err) (v1 a<|z0) ?_ (by kernel_rfl)
  obtain ⟨e,he,hm⟩:=bind_some hm
  refine loop_rule (u:=.c c_So_15) (K:=K_So_15) (Q:=(Post vf_So (res_So r))) (b:=lp_So_15 p1) (We:=O_So_15 p1 (Post vf_So (res_So r))) (stJ:=fun s=>s_So_15 p1 s.1 s.2.1 s.2.2.1 s.2.2.2) (s:=(0,p0.data,p0.at_,p0.err)) (fun s y hb hin hout=>ok_So_15 p1 s.1 s.2.1 s.2.2.1 s.2.2.2 y hb (Post vf_So (res_So r)) hin hout) he ?_
  show EE c_So_23 K_So_23 (s_So_23 p1 e.1 e.2.1 e.2.2.1 e.2.2.2) _
  exact ok_So_23 p1 e.1 e.2.1 e.2.2.1 e.2.2.2 r hm
theorem ok_So (p0:Zc) (p1:Int) (r:Int×Zc) (hm:m_So p0 p1=some r):Runs ext tbl 94 (as_So p0 p1) (res_So r):=
 runs_of (vf:=vf_So) (by kernel_rfl) rfl (st:=(enter vf_So (as_So p0 p1)).getD default) (by kernel_rfl) (go_on [] 1000 J0 (ok_So_0 p1 p0 r hm) (by kernel_rfl))
def O_Sm_68 (p1:Int) (a:Int×Zc) (b:Int×Zc) (c:Int) (Q:VX→St→Prop) (e:(LI×Int×Int×LI)):Prop:=EE c_Sm_78 K_Sm_78 (s_Sm_78 p1 a b c e.1 e.2.1 e.2.2.1 e.2.2.2) Q
def O_Sm_40 (a:Int×Zc) (Q:VX→St→Prop) (e:(LI×Int×Int×LI)):Prop:=EE c_Sm_79 K_Sm_79 (s_Sm_79 a e.1 e.2.1 e.2.2.1 e.2.2.2) Q
def O_Sm_17 (p1:Int) (a:Int×Zc) (Q:VX→St→Prop) (e:(LI×Int×Int×LI)):Prop:=EE c_Sm_27 K_Sm_27 (s_Sm_27 p1 a e.1 e.2.1 e.2.2.1 e.2.2.2) Q
theorem ok_Sm_78 (p1:Int) (a:Int×Zc) (b:Int×Zc) (d:Int) (f:LI) (g h:Int) (c:LI) (y) (hm:m_Sm_78 p1 a b d f g h c=some y) (Q)
  (hin:∀ s,y=.inl s→EE c_Sm_40 K_Sm_40 (s_Sm_40 p1 a b s.1 s.2.1 s.2.2.1 s.2.2.2.1 s.2.2.2.2) Q) (hout:∀ e,y=.inr e→O_Sm_40 a Q e):EE c_Sm_78 K_Sm_78 (s_Sm_78 p1 a b d f g h c) Q:=by
 exact gw (hin _ (qj hm).symm) (wN c.length<|z0) (by kernel_rfl)
theorem ok_Sm_68 (p1:Int) (h:Int×Zc) (i:Int×Zc) (j:Int) (k:Int×Zc) (l n:Int) (c:LI) (d f:Int) (a:LI) (y) (hm:m_Sm_68 p1 h i j k l n c d f a=some y) (Q)
  (hin:∀ s,y=.inl s→EE c_Sm_68 K_Sm_68 (s_Sm_68 p1 h i j k l s.1 s.2.1 s.2.2.1 s.2.2.2.1 s.2.2.2.2) Q) (hout:∀ e,y=.inr e→O_Sm_68 p1 h i j Q e):EE c_Sm_68 K_Sm_68 (s_Sm_68 p1 h i j k l n c d f a) Q:=by
 obtain ⟨g,hm⟩|⟨g,hm⟩:=split_ite hm
 ·obtain ⟨m,hm⟩|⟨m,hm⟩:=split_ite hm
  ·obtain ⟨b,o,hm⟩:=bind_some hm
   obtain ⟨q,p,hm⟩:=bind_some hm
   exact gw (hin _ (qj hm).symm) (u4 g<|u2 g<|u1 m<|wO (.res (res_So b))<|wO (.rows (mi ([b.1]:LI)))<|wO (zn 1)<|wO (.rows (mi (a++([b.1]:LI))))<|wO (zn ((a++([b.1]:LI)).length))<|wO (zn ((a++([b.1]:LI)).length))<|wP (ok_So (Zc.mk c d f) k.1 b o)<|wP (Eq.refl (mi ([b.1]:LI)))<|wP (len_map (rI .i64) (show 1=([b.1]:LI).length from rfl))<|wP (all_le (rI .i64) ([b.1]:LI) rfl)<|wP (app_ck (rI .i64) a ([b.1]:LI) rfl rfl p)<|wP (app_tell (rI .i64) a ([b.1]:LI) rfl rfl)<|wP (len_map (rI .i64) (show (a++([b.1]:LI)).length=(a++([b.1]:LI)).length from rfl))<|wP (lens ((a++([b.1]:LI)).length) ((a++([b.1]:LI)).length) rfl)<|z0) (by kernel_rfl)
  ·refine gm c_Sm_78 K_Sm_78 (s_Sm_78 p1 h i j c d f a) (u4 g<|u2 g<|v1 m<|wN a.length<|z0) ?_ (by kernel_rfl)
   exact hout (c,d,f,a) (qj hm).symm
 ·refine gm c_Sm_78 K_Sm_78 (s_Sm_78 p1 h i j c d f a) (v4 g<|v2 g<|v1 eF<|wN a.length<|z0) ?_ (by kernel_rfl)
  exact hout (c,d,f,a) (qj hm).symm
theorem ok_Sm_64 (p1:Int) (a:Int×Zc) (d:Int×Zc) (f:Int) (g:Int×Zc) (j:LI) (k l:Int) (i:LI) (h:Int) (y) (hm:m_Sm_64 p1 a d f g j k l i h=some y) (Q)
  (hin:∀ s,y=.inl s→EE c_Sm_40 K_Sm_40 (s_Sm_40 p1 a d s.1 s.2.1 s.2.2.1 s.2.2.2.1 s.2.2.2.2) Q) (hout:∀ e,y=.inr e→O_Sm_40 a Q e):EE c_Sm_64 K_Sm_64 (s_Sm_64 p1 a d f g j k l i h) Q:=by
 refine gm c_Sm_68 K_Sm_68 (s_Sm_68 p1 a d f g h 0 j k l i) (wN i.length<|z0) ?_ (by kernel_rfl)
 obtain ⟨e,he,hm⟩:=bind_some hm
 refine loop_rule (u:=.c c_Sm_68) (K:=K_Sm_68) (Q:=Q) (b:=lp_Sm_68 p1 a d f g h) (We:=O_Sm_68 p1 a d f Q) (stJ:=fun s=>s_Sm_68 p1 a d f g h s.1 s.2.1 s.2.2.1 s.2.2.2.1 s.2.2.2.2) (s:=(0,j,k,l,i)) (fun s y hb hin hout=>ok_Sm_68 p1 a d f g h s.1 s.2.1 s.2.2.1 s.2.2.2.1 s.2.2.2.2 y hb Q hin hout) he ?_
 show EE c_Sm_78 K_Sm_78 (s_Sm_78 p1 a d f e.1 e.2.1 e.2.2.1 e.2.2.2) _
 exact ok_Sm_78 p1 a d f e.1 e.2.1 e.2.2.1 e.2.2.2 y hm Q hin hout
theorem ok_Sm_56 (p1:Int) (a:Int×Zc) (c:Int×Zc) (f:Int) (g:Int×Zc) (b h:LI) (i j:Int) (y) (hm:m_Sm_56 p1 a c f g b h i j=some y) (Q)
  (hin:∀ s,y=.inl s→EE c_Sm_40 K_Sm_40 (s_Sm_40 p1 a c s.1 s.2.1 s.2.2.1 s.2.2.2.1 s.2.2.2.2) Q) (hout:∀ e,y=.inr e→O_Sm_40 a Q e):EE c_Sm_56 K_Sm_56 (s_Sm_56 p1 a c f g b h i j) Q:=by
 obtain ⟨l,k,hm⟩:=bind_some hm
 obtain ⟨d,hm⟩|⟨d,hm⟩:=split_ite hm
 ·exact gw (ok_Sm_64 _ _ _ _ _ _ _ _ _ _ y hm Q hin hout) (wP (ck_p k)<|u1 d<|wN b.length<|z0) (by kernel_rfl)
 ·exact gw (ok_Sm_64 _ _ _ _ _ _ _ _ _ _ y hm Q hin hout) (wP (ck_p k)<|v1 d<|wN b.length<|z0) (by kernel_rfl)
theorem ok_Sm_53 (p1:Int) (a:Int×Zc) (c:Int×Zc) (g:Int) (d:Int×Zc) (b:LI) (h:Bool) (y) (hm:m_Sm_53 p1 a c g d b h=some y) (Q)
  (hin:∀ s,y=.inl s→EE c_Sm_40 K_Sm_40 (s_Sm_40 p1 a c s.1 s.2.1 s.2.2.1 s.2.2.2.1 s.2.2.2.2) Q) (hout:∀ e,y=.inr e→O_Sm_40 a Q e):EE c_Sm_53 K_Sm_53 (s_Sm_53 p1 a c g d b h) Q:=by
 obtain ⟨f,hm⟩|⟨f,hm⟩:=split_ite hm
 ·obtain ⟨i,j,hm⟩:=bind_some hm
  exact gw (ok_Sm_56 _ _ _ _ _ _ _ _ _ y hm Q hin hout) (u1 f<|wO (.res (res_Sj i))<|wP (ok_Sj d.2 5 i j)<|wN b.length<|z0) (by kernel_rfl)
 ·exact gw (ok_Sm_56 _ _ _ _ _ _ _ _ _ y hm Q hin hout) (v1 f<|wN b.length<|z0) (by kernel_rfl)
theorem ok_Sm_79 (b:Int×Zc) (c:LI) (d e:Int) (a:LI) (r:Int×LI×Zc) (hm:m_Sm_79 b c d e a=some r):EE c_Sm_79 K_Sm_79 (s_Sm_79 b c d e a) (Post vf_Sm (res_Sm r)):=by
 exact ge (wR (rI .i64) a<|z0) (congrArg res_Sm (qj hm)) (by kernel_rfl)
theorem ok_Sm_40 (p1:Int) (g:Int×Zc) (k:Int×Zc) (m:Int) (c:LI) (d f:Int) (a:LI) (y) (hm:m_Sm_40 p1 g k m c d f a=some y) (Q)
  (hin:∀ s,y=.inl s→EE c_Sm_40 K_Sm_40 (s_Sm_40 p1 g k s.1 s.2.1 s.2.2.1 s.2.2.2.1 s.2.2.2.2) Q) (hout:∀ e,y=.inr e→O_Sm_40 g Q e):EE c_Sm_40 K_Sm_40 (s_Sm_40 p1 g k m c d f a) Q:=by
 obtain ⟨o,h,hm⟩:=bind_some hm
 obtain ⟨b,hm⟩|⟨b,hm⟩:=split_ite hm
 ·obtain ⟨i,hm⟩|⟨i,hm⟩:=split_ite hm
  ·obtain ⟨j,n,hm⟩:=bind_some hm
   obtain ⟨l,hm⟩|⟨l,hm⟩:=split_ite hm
   ·exact gw (ok_Sm_53 _ _ _ _ _ _ _ y hm Q hin hout) (wP (ck_p h)<|u4 b<|u2 b<|u1 i<|wO (.res (res_Sq j))<|wP (ok_Sq (Zc.mk c d f) 5 j n)<|u3 l<|wN a.length<|z0) (by kernel_rfl)
   ·exact gw (ok_Sm_53 _ _ _ _ _ _ _ y hm Q hin hout) (wP (ck_p h)<|u4 b<|u2 b<|u1 i<|wO (.res (res_Sq j))<|wP (ok_Sq (Zc.mk c d f) 5 j n)<|v3 l<|wN a.length<|z0) (by kernel_rfl)
  ·refine gm c_Sm_79 K_Sm_79 (s_Sm_79 g c d f a) (wP (ck_p h)<|u4 b<|u2 b<|v1 i<|wN a.length<|z0) ?_ (by kernel_rfl)
   exact hout (c,d,f,a) (qj hm).symm
 ·refine gm c_Sm_79 K_Sm_79 (s_Sm_79 g c d f a) (wP (ck_p h)<|v4 b<|v2 b<|v1 eF<|wN a.length<|z0) ?_ (by kernel_rfl)
  exact hout (c,d,f,a) (qj hm).symm
theorem ok_Sm_35 (p1:Int) (a:Int×Zc) (d:Int×Zc) (f g:LI) (h i:Int) (r:Int×LI×Zc) (hm:m_Sm_35 p1 a d f g h i=some r):EE c_Sm_35 K_Sm_35 (s_Sm_35 p1 a d f g h i) (Post vf_Sm (res_Sm r)):=by
 refine gm c_Sm_40 K_Sm_40 (s_Sm_40 p1 a d 0 g h i f) (wN f.length<|z0) ?_ (by kernel_rfl)
 obtain ⟨e,he,hm⟩:=bind_some hm
 refine loop_rule (u:=.c c_Sm_40) (K:=K_Sm_40) (Q:=(Post vf_Sm (res_Sm r))) (b:=lp_Sm_40 p1 a d) (We:=O_Sm_40 a (Post vf_Sm (res_Sm r))) (stJ:=fun s=>s_Sm_40 p1 a d s.1 s.2.1 s.2.2.1 s.2.2.2.1 s.2.2.2.2) (s:=(0,g,h,i,f)) (fun s y hb hin hout=>ok_Sm_40 p1 a d s.1 s.2.1 s.2.2.1 s.2.2.2.1 s.2.2.2.2 y hb (Post vf_Sm (res_Sm r)) hin hout) he ?_
 show EE c_Sm_79 K_Sm_79 (s_Sm_79 a e.1 e.2.1 e.2.2.1 e.2.2.2) _
 exact ok_Sm_79 a e.1 e.2.1 e.2.2.1 e.2.2.2 r hm
theorem ok_Sm_32 (p1:Int) (d:Int×Zc) (b:Int×Zc) (a:LI) (e:Bool) (r:Int×LI×Zc) (hm:m_Sm_32 p1 d b a e=some r):EE c_Sm_32 K_Sm_32 (s_Sm_32 p1 d b a e) (Post vf_Sm (res_Sm r)):=by
 obtain ⟨c,hm⟩|⟨c,hm⟩:=split_ite hm
 ·obtain ⟨f,g,hm⟩:=bind_some hm
  exact gw (ok_Sm_35 _ _ _ _ _ _ _ r hm) (u1 c<|wO (.res (res_Sj f))<|wP (ok_Sj b.2 5 f g)<|wN a.length<|z0) (by kernel_rfl)
 ·exact gw (ok_Sm_35 _ _ _ _ _ _ _ r hm) (v1 c<|wN a.length<|z0) (by kernel_rfl)
theorem ok_Sm_27 (p1:Int) (g:Int×Zc) (c:LI) (d e:Int) (f:LI) (r:Int×LI×Zc) (hm:m_Sm_27 p1 g c d e f=some r):EE c_Sm_27 K_Sm_27 (s_Sm_27 p1 g c d e f) (Post vf_Sm (res_Sm r)):=by
 obtain ⟨a,h,hm⟩:=bind_some hm
 obtain ⟨b,hm⟩|⟨b,hm⟩:=split_ite hm
 ·obtain ⟨i,j,hm⟩:=bind_some hm
  exact gw (ok_Sm_32 _ _ _ _ _ r hm) (wO (.res (res_Sq a))<|wP (ok_Sq (Zc.mk c d e) 3 a h)<|u4 b<|wO (.res (res_Si i))<|wP (ok_Si g.1 a.1 p1 i j)<|u2 b<|wN f.length<|z0) (by kernel_rfl)
 ·exact gw (ok_Sm_32 _ _ _ _ _ r hm) (wO (.res (res_Sq a))<|wP (ok_Sq (Zc.mk c d e) 3 a h)<|v4 b<|v2 b<|wN f.length<|z0) (by kernel_rfl)
theorem ok_Sm_17 (p1:Int) (h:Int×Zc) (j:Int) (c:LI) (d f:Int) (a:LI) (y) (hm:m_Sm_17 p1 h j c d f a=some y) (Q)
  (hin:∀ s,y=.inl s→EE c_Sm_17 K_Sm_17 (s_Sm_17 p1 h s.1 s.2.1 s.2.2.1 s.2.2.2.1 s.2.2.2.2) Q) (hout:∀ e,y=.inr e→O_Sm_17 p1 h Q e):EE c_Sm_17 K_Sm_17 (s_Sm_17 p1 h j c d f a) Q:=by
 obtain ⟨g,hm⟩|⟨g,hm⟩:=split_ite hm
 ·obtain ⟨i,hm⟩|⟨i,hm⟩:=split_ite hm
  ·obtain ⟨b,k,hm⟩:=bind_some hm
   obtain ⟨m,l,hm⟩:=bind_some hm
   exact gw (hin _ (qj hm).symm) (u4 g<|u2 g<|u1 i<|wO (.res (res_Sp b))<|wO (.rows (mi ([b.1]:LI)))<|wO (zn 1)<|wO (.rows (mi (a++([b.1]:LI))))<|wO (zn ((a++([b.1]:LI)).length))<|wO (zn ((a++([b.1]:LI)).length))<|wP (ok_Sp (Zc.mk c d f) 26 b k)<|wP (Eq.refl (mi ([b.1]:LI)))<|wP (len_map (rI .i64) (show 1=([b.1]:LI).length from rfl))<|wP (all_le (rI .i64) ([b.1]:LI) rfl)<|wP (app_ck (rI .i64) a ([b.1]:LI) rfl rfl l)<|wP (app_tell (rI .i64) a ([b.1]:LI) rfl rfl)<|wP (len_map (rI .i64) (show (a++([b.1]:LI)).length=(a++([b.1]:LI)).length from rfl))<|wP (lens ((a++([b.1]:LI)).length) ((a++([b.1]:LI)).length) rfl)<|z0) (by kernel_rfl)
  ·refine gm c_Sm_27 K_Sm_27 (s_Sm_27 p1 h c d f a) (u4 g<|u2 g<|v1 i<|wN a.length<|z0) ?_ (by kernel_rfl)
   exact hout (c,d,f,a) (qj hm).symm
 ·refine gm c_Sm_27 K_Sm_27 (s_Sm_27 p1 h c d f a) (v4 g<|v2 g<|v1 eF<|wN a.length<|z0) ?_ (by kernel_rfl)
  exact hout (c,d,f,a) (qj hm).symm
theorem ok_Sm_10 (p1:Int) (a:Int×Zc) (d:LI) (f g:Int) (r:Int×LI×Zc) (hm:m_Sm_10 p1 a d f g=some r):EE c_Sm_10 K_Sm_10 (s_Sm_10 p1 a d f g) (Post vf_Sm (res_Sm r)):=by
 refine gm c_Sm_17 K_Sm_17 (s_Sm_17 p1 a 0 d f g ([]:LI)) (wO (zn (([]:LI).length))<|wP (lens 0 (([]:LI).length) rfl)<|z0) ?_ (by kernel_rfl)
 obtain ⟨e,he,hm⟩:=bind_some hm
 refine loop_rule (u:=.c c_Sm_17) (K:=K_Sm_17) (Q:=(Post vf_Sm (res_Sm r))) (b:=lp_Sm_17 p1 a) (We:=O_Sm_17 p1 a (Post vf_Sm (res_Sm r))) (stJ:=fun s=>s_Sm_17 p1 a s.1 s.2.1 s.2.2.1 s.2.2.2.1 s.2.2.2.2) (s:=(0,d,f,g,([]:LI))) (fun s y hb hin hout=>ok_Sm_17 p1 a s.1 s.2.1 s.2.2.1 s.2.2.2.1 s.2.2.2.2 y hb (Post vf_Sm (res_Sm r)) hin hout) he ?_
 show EE c_Sm_27 K_Sm_27 (s_Sm_27 p1 a e.1 e.2.1 e.2.2.1 e.2.2.2) _
 exact ok_Sm_27 p1 a e.1 e.2.1 e.2.2.1 e.2.2.2 r hm
theorem ok_Sm_7 (p1:Int) (a:Int×Zc) (c:Bool) (r:Int×LI×Zc) (hm:m_Sm_7 p1 a c=some r):EE c_Sm_7 K_Sm_7 (s_Sm_7 p1 a c) (Post vf_Sm (res_Sm r)):=by
 obtain ⟨b,hm⟩|⟨b,hm⟩:=split_ite hm
 ·obtain ⟨d,e,hm⟩:=bind_some hm
  exact gw (ok_Sm_10 _ _ _ _ _ r hm) (u1 b<|wO (.res (res_Sj d))<|wP (ok_Sj a.2 5 d e)<|z0) (by kernel_rfl)
 ·exact gw (ok_Sm_10 _ _ _ _ _ r hm) (v1 b<|z0) (by kernel_rfl)
theorem ok_Sm_0 (p1:Int) (p0:Zc) (r:Int×LI×Zc) (hm:m_Sm_0 p1 p0=some r):EE c_Sm_0 K_Sm_0 (s_Sm_0 p1 p0) (Post vf_Sm (res_Sm r)):=by
 obtain ⟨b,d,hm⟩:=bind_some hm
 obtain ⟨a,hm⟩|⟨a,hm⟩:=split_ite hm
 ·obtain ⟨c,hm⟩|⟨c,hm⟩:=split_ite hm
  ·exact gw (ok_Sm_7 _ _ _ r hm) (wO (.res (res_Sq b))<|wP (ok_Sq p0 3 b d)<|u3 a<|u3 c<|u1 a<|u1 c<|u1 a<|z0) (by kernel_rfl)
  ·exact gw (ok_Sm_7 _ _ _ r hm) (wO (.res (res_Sq b))<|wP (ok_Sq p0 3 b d)<|u3 a<|v3 c<|u1 a<|v1 c<|u1 a<|z0) (by kernel_rfl)
 ·exact gw (ok_Sm_7 _ _ _ r hm) (wO (.res (res_Sq b))<|wP (ok_Sq p0 3 b d)<|v4 a<|v1 a<|z0) (by kernel_rfl)
theorem ok_Sm (p0:Zc) (p1:Int) (r:Int×LI×Zc) (hm:m_Sm p0 p1=some r):Runs ext tbl 77 (as_Sm p0 p1) (res_Sm r):=
 runs_of (vf:=vf_Sm) (by kernel_rfl) rfl (st:=(enter vf_Sm (as_Sm p0 p1)).getD default) (by kernel_rfl) (go_on [] 1000 J0 (ok_Sm_0 p1 p0 r hm) (by kernel_rfl))
def O_Sk_2 (Q:VX→St→Prop) (e:Zc):Prop:=Q=Post vf_Sk (res_Sk e)
end Go.Proofs.V
