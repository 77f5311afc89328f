import Derived.Test.YtcppkjgbnhcikaaFnExactRunPlayerV3
import Derived.Test.YtcppkjgbnhcikaaProg
import Derived.KernelRfl
set_option linter.unusedVariables false
set_option maxRecDepth 100000
namespace Go.Proofs.V
open Go
def c_Lba_7:VC:=
 .ite (.s 11) (.seq (.r 3 [oN 4 (-1)]) (.ret)) (.skip)
def c_Lba_12:VC:=
 .seq (.r 4 [M 12 1,
  M 4 12]) (.ret)
def c_Lba_4:VC:=
 .seq (.seq (.r 2 [M 10 1,
  {op:=.bin 11 .lss (.s 10) (.k (.int .i64 0))}]) c_Lba_7) c_Lba_12
def c_Lba_2:VC:=
 .seq (.r 1 [M 5 1,
  oF 6 2 2,
  oL 7 6 1,
  {op:=.slen 8 (.s 7)},
  {op:=.bin 9 .sub (.s 5) (.s 8)},
  M 1 9]) c_Lba_4
def c_Lba_0:VC:=
 .seq (.r 0 [{op:=.box 2 (.s 0)},
  oN 4 0]) c_Lba_2
def vf_Lba:VF:={ pm:=[.ro q3,.ro [.sc]],rm:=[.v [.sc]],nslots:=13,res:=[4],rc:=[],code:=.kp [0,1] c_Lba_0 }
def c_Lbb_7:VC:=
 .ite (.s 11) (.seq (.r 3 [oN 4 (-1)]) (.ret)) (.skip)
def c_Lbb_20:VC:=
 .ite (.s 15) (.skip) (.exit 0)
def c_Lbb_29:VC:=
 .ite (.s 25) (.seq (.r 9 [oN 4 (-1)]) (.ret)) (.skip)
def c_Lbb_27:VC:=
 .seq (.r 8 [M 24 1,
  {op:=.bin 25 .lss (.s 24) (.k (.int .i64 0))}]) c_Lbb_29
def c_Lbb_34:VC:=
 .r 6 [M 16 5,
  {op:=.bin 17 .add (.s 16) (.k (.int .i64 1))},
  M 5 17]
def c_Lbb_23:VC:=
 .seq (.blk 1 (.seq (.r 7 [M 18 0,
  M 19 5,
  oX 20 18 19 3,
  {op:=.ld 21 (.s 20) 3 true},
  M 22 1,
  {op:=.call 23 101 [(.s 21),(.s 22)]},
  M 1 23]) c_Lbb_27)) c_Lbb_34
def c_Lbb_17:VC:=
 .seq (.seq (.r 5 [M 12 5,
  M 13 0,
  {op:=.len 14 (.s 13)},
  {op:=.bin 15 .lss (.s 12) (.s 14)}]) c_Lbb_20) c_Lbb_23
def c_Lbb_15:VC:=
 .blk 0 (.loop [0,1,5] c_Lbb_17)
def c_Lbb_35:VC:=
 .seq (.r 10 [M 26 1,
  M 4 26]) (.ret)
def c_Lbb_12:VC:=
 .seq (.seq (.r 4 [oN 5 0]) c_Lbb_15) (.kp [1] c_Lbb_35)
def c_Lbb_4:VC:=
 .seq (.seq (.r 2 [M 10 1,
  {op:=.bin 11 .lss (.s 10) (.k (.int .i64 0))}]) c_Lbb_7) c_Lbb_12
def c_Lbb_2:VC:=
 .seq (.r 1 [M 6 1,
  M 7 0,
  {op:=.len 8 (.s 7)},
  {op:=.bin 9 .sub (.s 6) (.s 8)},
  M 1 9]) c_Lbb_4
def c_Lbb_0:VC:=
 .seq (.r 0 [oN 4 0]) c_Lbb_2
def vf_Lbb:VF:={ pm:=[.ro [.ro q3],.ro [.sc]],rm:=[.v [.sc]],nslots:=27,res:=[4],rc:=[],code:=.kp [0,1] c_Lbb_0 }
def c_Lx_7:VC:=
 .ite (.s 10) (.seq (.r 3 [oN 4 (-1)]) (.ret)) (.skip)
def c_Lx_12:VC:=
 .seq (.r 4 [M 11 1,
  M 4 11]) (.ret)
def c_Lx_4:VC:=
 .seq (.seq (.r 2 [M 9 1,
  {op:=.bin 10 .lss (.s 9) (.k (.int .i64 0))}]) c_Lx_7) c_Lx_12
def c_Lx_2:VC:=
 .seq (.r 1 [M 5 1,
  M 6 0,
  {op:=.len 7 (.s 6)},
  {op:=.bin 8 .sub (.s 5) (.s 7)},
  M 1 8]) c_Lx_4
def c_Lx_0:VC:=
 .seq (.r 0 [oN 4 0]) c_Lx_2
def vf_Lx:VF:={ pm:=[.ro [.ro [.sc]],.ro [.sc]],rm:=[.v [.sc]],nslots:=12,res:=[4],rc:=[],code:=.kp [0,1] c_Lx_0 }
def c_Ly_7:VC:=
 .ite (.s 10) (.seq (.r 3 [oN 4 (-1)]) (.ret)) (.skip)
def c_Ly_12:VC:=
 .seq (.r 4 [M 11 1,
  M 4 11]) (.ret)
def c_Ly_4:VC:=
 .seq (.seq (.r 2 [M 9 1,
  {op:=.bin 10 .lss (.s 9) (.k (.int .i64 0))}]) c_Ly_7) c_Ly_12
def c_Ly_2:VC:=
 .seq (.r 1 [oF 5 2 4,
  oL 6 5 1,
  M 7 1,
  {op:=.call 8 141 [(.s 6),(.s 7)]},
  M 1 8]) c_Ly_4
def c_Ly_0:VC:=
 .seq (.r 0 [{op:=.box 2 (.s 0)},
  oN 4 0]) c_Ly_2
def vf_Ly:VF:={ pm:=[.ro q5,.ro [.sc]],rm:=[.v [.sc]],nslots:=12,res:=[4],rc:=[],code:=.kp [0,1] c_Ly_0 }
def c_Lz_7:VC:=
 .ite (.s 11) (.seq (.r 3 [oN 4 (-1)]) (.ret)) (.skip)
def c_Lz_20:VC:=
 .ite (.s 15) (.skip) (.exit 0)
def c_Lz_29:VC:=
 .ite (.s 25) (.seq (.r 9 [oN 4 (-1)]) (.ret)) (.skip)
def c_Lz_27:VC:=
 .seq (.r 8 [M 24 1,
  {op:=.bin 25 .lss (.s 24) (.k (.int .i64 0))}]) c_Lz_29
def c_Lz_34:VC:=
 .r 6 [M 16 5,
  {op:=.bin 17 .add (.s 16) (.k (.int .i64 1))},
  M 5 17]
def c_Lz_23:VC:=
 .seq (.blk 1 (.seq (.r 7 [M 18 0,
  M 19 5,
  oX 20 18 19 5,
  {op:=.ld 21 (.s 20) 5 true},
  M 22 1,
  {op:=.call 23 102 [(.s 21),(.s 22)]},
  M 1 23]) c_Lz_27)) c_Lz_34
def c_Lz_17:VC:=
 .seq (.seq (.r 5 [M 12 5,
  M 13 0,
  {op:=.len 14 (.s 13)},
  {op:=.bin 15 .lss (.s 12) (.s 14)}]) c_Lz_20) c_Lz_23
def c_Lz_15:VC:=
 .blk 0 (.loop [0,1,5] c_Lz_17)
def c_Lz_35:VC:=
 .seq (.r 10 [M 26 1,
  M 4 26]) (.ret)
def c_Lz_12:VC:=
 .seq (.seq (.r 4 [oN 5 0]) c_Lz_15) (.kp [1] c_Lz_35)
def c_Lz_4:VC:=
 .seq (.seq (.r 2 [M 10 1,
  {op:=.bin 11 .lss (.s 10) (.k (.int .i64 0))}]) c_Lz_7) c_Lz_12
def c_Lz_2:VC:=
 .seq (.r 1 [M 6 1,
  M 7 0,
  {op:=.len 8 (.s 7)},
  {op:=.bin 9 .sub (.s 6) (.s 8)},
  M 1 9]) c_Lz_4
def c_Lz_0:VC:=
 .seq (.r 0 [oN 4 0]) c_Lz_2
def vf_Lz:VF:={ pm:=[.ro [.ro q5],.ro [.sc]],rm:=[.v [.sc]],nslots:=27,res:=[4],rc:=[],code:=.kp [0,1] c_Lz_0 }
def c_Lw_7:VC:=
 .ite (.s 10) (.seq (.r 3 [oN 4 (-1)]) (.ret)) (.skip)
def c_Lw_17:VC:=
 .ite (.s 16) (.seq (.r 6 [oN 4 (-1)]) (.ret)) (.skip)
def c_Lw_22:VC:=
 .seq (.r 7 [M 17 1,
  M 4 17]) (.ret)
def c_Lw_14:VC:=
 .seq (.seq (.r 5 [M 15 1,
  {op:=.bin 16 .lss (.s 15) (.k (.int .i64 0))}]) c_Lw_17) c_Lw_22
def c_Lw_12:VC:=
 .seq (.r 4 [oF 11 2 1,
  oL 12 11 1,
  M 13 1,
  {op:=.call 14 47 [(.s 12),(.s 13)]},
  M 1 14]) c_Lw_14
def c_Lw_4:VC:=
 .seq (.seq (.r 2 [M 9 1,
  {op:=.bin 10 .lss (.s 9) (.k (.int .i64 0))}]) c_Lw_7) c_Lw_12
def c_Lw_2:VC:=
 .seq (.r 1 [oF 5 2 0,
  oL 6 5 1,
  M 7 1,
  {op:=.call 8 46 [(.s 6),(.s 7)]},
  M 1 8]) c_Lw_4
def c_Lw_0:VC:=
 .seq (.r 0 [{op:=.box 2 (.s 0)},
  oN 4 0]) c_Lw_2
def vf_Lw:VF:={ pm:=[.ro [.ro q3,.ro q5],.ro [.sc]],rm:=[.v [.sc]],nslots:=18,res:=[4],rc:=[],code:=.kp [0,1] c_Lw_0 }
def c_Lv_7:VC:=
 .ite (.s 10) (.seq (.r 3 [oN 4 (-1)]) (.ret)) (.skip)
def c_Lv_12:VC:=
 .seq (.r 4 [M 11 1,
  M 4 11]) (.ret)
def c_Lv_4:VC:=
 .seq (.seq (.r 2 [M 9 1,
  {op:=.bin 10 .lss (.s 9) (.k (.int .i64 0))}]) c_Lv_7) c_Lv_12
def c_Lv_2:VC:=
 .seq (.r 1 [M 5 1,
  M 6 0,
  {op:=.len 7 (.s 6)},
  {op:=.bin 8 .sub (.s 5) (.s 7)},
  M 1 8]) c_Lv_4
def c_Lv_0:VC:=
 .seq (.r 0 [oN 4 0]) c_Lv_2
def vf_Lv:VF:={ pm:=[.ro [.ro [.sc,.sc]],.ro [.sc]],rm:=[.v [.sc]],nslots:=12,res:=[4],rc:=[],code:=.kp [0,1] c_Lv_0 }
def c_Lbi_10:VC:=
 .seq (.r 5 [{op:=.ld 13 (.s 3) 3 true},
  oS 2 13 3]) (.ret)
def c_Lbi_8:VC:=
 .seq (.r 4 [oF 10 1 2,
  oL 11 10 1,
  oF 12 3 2,
  oS 12 11 1]) c_Lbi_10
def c_Lbi_6:VC:=
 .seq (.r 3 [oF 7 1 1,
  oL 8 7 1,
  oF 9 3 1,
  oS 9 8 1]) c_Lbi_8
def c_Lbi_4:VC:=
 .seq (.r 2 [oF 4 1 0,
  oL 5 4 1,
  oF 6 3 0,
  oS 6 5 1]) c_Lbi_6
def c_Lbi_2:VC:=
 .seq (.r 1 [{op:=.alloc 3 [.k (.int .i64 0),.k (.int .i64 0),.k (.string (ByteArray.mk #[]))]}]) c_Lbi_4
def c_Lbi_0:VC:=
 .seq (.r 0 [{op:=.box 1 (.s 0)},
  {op:=.alloc 2 [.k (.int .i64 0),.k (.int .i64 0),.k (.string (ByteArray.mk #[]))]}]) c_Lbi_2
def vf_Lbi:VF:={ pm:=[.ro q3],rm:=[.v q3],nslots:=14,res:=[2],rc:=[some (3,true)],code:=.kp [0] c_Lbi_0 }
def c_Lbj_12:VC:=
 .ite (.s 11) (.skip) (.exit 0)
def c_Lbj_18:VC:=
 .r 4 [M 12 4,
  {op:=.bin 13 .add (.s 12) (.k (.int .i64 1))},
  M 4 13]
def c_Lbj_15:VC:=
 .seq (.blk 1 (.r 5 [M 14 3,
  M 15 4,
  M 16 0,
  M 17 4,
  oX 18 16 17 3,
  {op:=.ld 19 (.s 18) 3 true},
  {op:=.call 20 110 [(.s 19)]},
  oX 21 14 15 3,
  oS 21 20 3])) c_Lbj_18
def c_Lbj_9:VC:=
 .seq (.seq (.r 3 [M 8 4,
  M 9 0,
  {op:=.len 10 (.s 9)},
  {op:=.bin 11 .lss (.s 8) (.s 10)}]) c_Lbj_12) c_Lbj_15
def c_Lbj_7:VC:=
 .blk 0 (.loop [0,3,4] c_Lbj_9)
def c_Lbj_19:VC:=
 .seq (.r 6 [M 22 3,
  M 2 22]) (.ret)
def c_Lbj_4:VC:=
 .seq (.seq (.r 2 [oN 4 0]) c_Lbj_7) (.kp [3] c_Lbj_19)
def c_Lbj_2:VC:=
 .seq (.r 1 [M 5 0,
  {op:=.len 6 (.s 5)},
  {op:=.mk 7 (.s 6) q3 [(.int .i64 0),(.int .i64 0),(.string (ByteArray.mk #[]))] 4398046511104},
  M 3 7]) c_Lbj_4
def c_Lbj_0:VC:=
 .seq (.r 0 [{op:=.nil 2 q3}]) c_Lbj_2
def vf_Lbj:VF:={ pm:=[.ro [.ro q3]],rm:=[.v [.own q3]],nslots:=23,res:=[2],rc:=[],code:=.kp [0] c_Lbj_0 }
def c_Lbf_12:VC:=
 .ite (.s 11) (.skip) (.exit 0)
def c_Lbf_18:VC:=
 .r 4 [M 12 4,
  {op:=.bin 13 .add (.s 12) (.k (.int .i64 1))},
  M 4 13]
def c_Lbf_15:VC:=
 .seq (.blk 1 (.r 5 [M 14 3,
  M 15 4,
  M 16 0,
  M 17 4,
  oX 18 16 17 1,
  oL 19 18 1,
  oX 20 14 15 1,
  oS 20 19 1])) c_Lbf_18
def c_Lbf_9:VC:=
 .seq (.seq (.r 3 [M 8 4,
  M 9 0,
  {op:=.len 10 (.s 9)},
  {op:=.bin 11 .lss (.s 8) (.s 10)}]) c_Lbf_12) c_Lbf_15
def c_Lbf_7:VC:=
 .blk 0 (.loop [0,3,4] c_Lbf_9)
def c_Lbf_19:VC:=
 .seq (.r 6 [M 21 3,
  M 2 21]) (.ret)
def c_Lbf_4:VC:=
 .seq (.seq (.r 2 [oN 4 0]) c_Lbf_7) (.kp [3] c_Lbf_19)
def c_Lbf_2:VC:=
 .seq (.r 1 [M 5 0,
  {op:=.len 6 (.s 5)},
  {op:=.mk 7 (.s 6) [.sc] [(.int .u8 0)] 140737488355328},
  M 3 7]) c_Lbf_4
def c_Lbf_0:VC:=
 .seq (.r 0 [{op:=.nil 2 [.sc]}]) c_Lbf_2
def vf_Lbf:VF:={ pm:=[.ro [.ro [.sc]]],rm:=[.v [.own [.sc]]],nslots:=22,res:=[2],rc:=[],code:=.kp [0] c_Lbf_0 }
def c_Lbg_14:VC:=
 .seq (.r 7 [{op:=.ld 20 (.s 3) 5 true},
  oS 2 20 5]) (.ret)
def c_Lbg_12:VC:=
 .seq (.r 6 [oF 16 1 4,
  oL 17 16 1,
  {op:=.call 18 10 [(.s 17)]},
  oF 19 3 4,
  oS 19 18 1]) c_Lbg_14
def c_Lbg_10:VC:=
 .seq (.r 5 [oF 13 1 3,
  oL 14 13 1,
  oF 15 3 3,
  oS 15 14 1]) c_Lbg_12
def c_Lbg_8:VC:=
 .seq (.r 4 [oF 10 1 2,
  oL 11 10 1,
  oF 12 3 2,
  oS 12 11 1]) c_Lbg_10
def c_Lbg_6:VC:=
 .seq (.r 3 [oF 7 1 1,
  oL 8 7 1,
  oF 9 3 1,
  oS 9 8 1]) c_Lbg_8
def c_Lbg_4:VC:=
 .seq (.r 2 [oF 4 1 0,
  oL 5 4 1,
  oF 6 3 0,
  oS 6 5 1]) c_Lbg_6
def c_Lbg_2:VC:=
 .seq (.r 1 [{op:=.alloc 3 [.k (.int .i64 0),.k (.int .i64 0),.k (.int .i64 0),.k (.bool false),.o [.sc]]}]) c_Lbg_4
def c_Lbg_0:VC:=
 .seq (.r 0 [{op:=.box 1 (.s 0)},
  {op:=.alloc 2 [.k (.int .i64 0),.k (.int .i64 0),.k (.int .i64 0),.k (.bool false),.o [.sc]]}]) c_Lbg_2
def vf_Lbg:VF:={ pm:=[.ro q5],rm:=[.v [.sc,.sc,.sc,.sc,.own [.sc]]],nslots:=21,res:=[2],rc:=[some (5,true)],code:=.kp [0] c_Lbg_0 }
def c_Lbh_12:VC:=
 .ite (.s 11) (.skip) (.exit 0)
def c_Lbh_18:VC:=
 .r 4 [M 12 4,
  {op:=.bin 13 .add (.s 12) (.k (.int .i64 1))},
  M 4 13]
def c_Lbh_15:VC:=
 .seq (.blk 1 (.r 5 [M 14 3,
  M 15 4,
  M 16 0,
  M 17 4,
  oX 18 16 17 5,
  {op:=.ld 19 (.s 18) 5 true},
  {op:=.call 20 111 [(.s 19)]},
  oX 21 14 15 5,
  oS 21 20 5])) c_Lbh_18
def c_Lbh_9:VC:=
 .seq (.seq (.r 3 [M 8 4,
  M 9 0,
  {op:=.len 10 (.s 9)},
  {op:=.bin 11 .lss (.s 8) (.s 10)}]) c_Lbh_12) c_Lbh_15
def c_Lbh_7:VC:=
 .blk 0 (.loop [0,3,4] c_Lbh_9)
def c_Lbh_19:VC:=
 .seq (.r 6 [M 22 3,
  M 2 22]) (.ret)
def c_Lbh_4:VC:=
 .seq (.seq (.r 2 [oN 4 0]) c_Lbh_7) (.kp [3] c_Lbh_19)
def c_Lbh_2:VC:=
 .seq (.r 1 [M 5 0,
  {op:=.len 6 (.s 5)},
  {op:=.mk 7 (.s 6) [.sc,.sc,.sc,.sc,.own [.sc]] [(.int .i64 0),(.int .i64 0),(.int .i64 0),(.bool false),(.slice none 0 0)] 2513169434916},
  M 3 7]) c_Lbh_4
def c_Lbh_0:VC:=
 .seq (.r 0 [{op:=.nil 2 [.sc,.sc,.sc,.sc,.own [.sc]]}]) c_Lbh_2
def vf_Lbh:VF:={ pm:=[.ro [.ro q5]],rm:=[.v [.own [.sc,.sc,.sc,.sc,.own [.sc]]]],nslots:=23,res:=[2],rc:=[],code:=.kp [0] c_Lbh_0 }
def c_Lbe_8:VC:=
 .seq (.r 4 [{op:=.ld 12 (.s 3) 2 true},
  oS 2 12 2]) (.ret)
def c_Lbe_6:VC:=
 .seq (.r 3 [oF 8 1 1,
  oL 9 8 1,
  {op:=.call 10 53 [(.s 9)]},
  oF 11 3 1,
  oS 11 10 1]) c_Lbe_8
def c_Lbe_4:VC:=
 .seq (.r 2 [oF 4 1 0,
  oL 5 4 1,
  {op:=.call 6 52 [(.s 5)]},
  oF 7 3 0,
  oS 7 6 1]) c_Lbe_6
def c_Lbe_2:VC:=
 .seq (.r 1 [{op:=.alloc 3 [.o q3,.o [.sc,.sc,.sc,.sc,.own [.sc]]]}]) c_Lbe_4
def c_Lbe_0:VC:=
 .seq (.r 0 [{op:=.box 1 (.s 0)},
  {op:=.alloc 2 [.o q3,.o [.sc,.sc,.sc,.sc,.own [.sc]]]}]) c_Lbe_2
def vf_Lbe:VF:={ pm:=[.ro [.ro q3,.ro q5]],rm:=[.v [.own q3,.own [.sc,.sc,.sc,.sc,.own [.sc]]]],nslots:=13,res:=[2],rc:=[some (2,true)],code:=.kp [0] c_Lbe_0 }
def c_Lbc_8:VC:=
 .seq (.r 4 [{op:=.ld 10 (.s 3) 2 true},
  oS 2 10 2]) (.ret)
def c_Lbc_6:VC:=
 .seq (.r 3 [oF 7 1 1,
  oL 8 7 1,
  oF 9 3 1,
  oS 9 8 1]) c_Lbc_8
def c_Lbc_4:VC:=
 .seq (.r 2 [oF 4 1 0,
  oL 5 4 1,
  oF 6 3 0,
  oS 6 5 1]) c_Lbc_6
def c_Lbc_2:VC:=
 .seq (.r 1 [{op:=.alloc 3 [.k (.int .i64 0),.k (.int .i64 0)]}]) c_Lbc_4
def c_Lbc_0:VC:=
 .seq (.r 0 [{op:=.box 1 (.s 0)},
  {op:=.alloc 2 [.k (.int .i64 0),.k (.int .i64 0)]}]) c_Lbc_2
def vf_Lbc:VF:={ pm:=[.ro [.sc,.sc]],rm:=[.v [.sc,.sc]],nslots:=11,res:=[2],rc:=[some (2,true)],code:=.kp [0] c_Lbc_0 }
def c_Lbd_12:VC:=
 .ite (.s 11) (.skip) (.exit 0)
def c_Lbd_18:VC:=
 .r 4 [M 12 4,
  {op:=.bin 13 .add (.s 12) (.k (.int .i64 1))},
  M 4 13]
def c_Lbd_15:VC:=
 .seq (.blk 1 (.r 5 [M 14 3,
  M 15 4,
  M 16 0,
  M 17 4,
  oX 18 16 17 2,
  {op:=.ld 19 (.s 18) 2 true},
  {op:=.call 20 88 [(.s 19)]},
  oX 21 14 15 2,
  oS 21 20 2])) c_Lbd_18
def c_Lbd_9:VC:=
 .seq (.seq (.r 3 [M 8 4,
  M 9 0,
  {op:=.len 10 (.s 9)},
  {op:=.bin 11 .lss (.s 8) (.s 10)}]) c_Lbd_12) c_Lbd_15
def c_Lbd_7:VC:=
 .blk 0 (.loop [0,3,4] c_Lbd_9)
def c_Lbd_19:VC:=
 .seq (.r 6 [M 22 3,
  M 2 22]) (.ret)
def c_Lbd_4:VC:=
 .seq (.seq (.r 2 [oN 4 0]) c_Lbd_7) (.kp [3] c_Lbd_19)
def c_Lbd_2:VC:=
 .seq (.r 1 [M 5 0,
  {op:=.len 6 (.s 5)},
  {op:=.mk 7 (.s 6) [.sc,.sc] [(.int .i64 0),(.int .i64 0)] 8796093022208},
  M 3 7]) c_Lbd_4
def c_Lbd_0:VC:=
 .seq (.r 0 [{op:=.nil 2 [.sc,.sc]}]) c_Lbd_2
def vf_Lbd:VF:={ pm:=[.ro [.ro [.sc,.sc]]],rm:=[.v [.own [.sc,.sc]]],nslots:=23,res:=[2],rc:=[],code:=.kp [0] c_Lbd_0 }
def c_Sc_10:VC:=
 .ite (.s 7) (.skip) (.exit 0)
def c_Sc_17:VC:=
 .ite (.s 19) (.seq (.r 5 [oK 2 false]) (.ret)) (.skip)
def c_Sc_22:VC:=
 .r 3 [M 8 3,
  {op:=.bin 9 .add (.s 8) (.k (.int .i64 1))},
  M 3 9]
def c_Sc_13:VC:=
 .seq (.blk 1 (.seq (.r 4 [M 10 0,
  M 11 3,
  {op:=.idx 12 (.s 10) (.s 11)},
  {op:=.bin 13 .lss (.s 12) (.k (.int .u8 32))},
  M 14 13,
  ⟨none,[],some (14,false),.mv 15 (.s 0)⟩,
  ⟨none,[],some (14,false),.mv 16 (.s 3)⟩,
  ⟨none,[],some (14,false),.idx 17 (.s 15) (.s 16)⟩,
  ⟨none,[],some (14,false),.bin 18 .gtr (.s 17) (.k (.int .u8 126))⟩,
  {op:=.pick 19 (.s 14) (.k (.bool true)) (.s 18)}]) c_Sc_17)) c_Sc_22
def c_Sc_7:VC:=
 .seq (.seq (.r 2 [M 4 3,
  M 5 0,
  {op:=.slen 6 (.s 5)},
  {op:=.bin 7 .lss (.s 4) (.s 6)}]) c_Sc_10) c_Sc_13
def c_Sc_5:VC:=
 .blk 0 (.loop [0,3] c_Sc_7)
def c_Sc_23:VC:=
 .seq (.r 6 [oK 2 true]) (.ret)
def c_Sc_2:VC:=
 .seq (.seq (.r 1 [oN 3 0]) c_Sc_5) (.kp [] c_Sc_23)
def c_Sc_0:VC:=
 .seq (.r 0 [oK 2 false]) c_Sc_2
def vf_Sc:VF:={ pm:=[.ro [.sc]],rm:=[.v [.sc]],nslots:=20,res:=[2],rc:=[],code:=.kp [0] c_Sc_0 }
def c_Sg_2:VC:=
 .seq (.r 1 [oF 3 1 0,
  oL 4 3 1,
  {op:=.bin 5 .geq (.s 4) (.k (.int .i64 1))},
  M 6 5,
  ⟨none,[],some (6,true),.fadr 7 (.s 1) 0⟩,
  ⟨none,[],some (6,true),.ld 8 (.s 7) 1 false⟩,
  ⟨none,[],some (6,true),.bin 9 .leq (.s 8) (.k (.int .i64 6))⟩,
  {op:=.pick 10 (.s 6) (.s 9) (.k (.bool false))},
  M 11 10,
  ⟨none,[],some (11,true),.fadr 12 (.s 1) 1⟩,
  ⟨none,[],some (11,true),.ld 13 (.s 12) 1 false⟩,
  ⟨none,[],some (11,true),.bin 14 .geq (.s 13) (.k (.int .i64 1))⟩,
  {op:=.pick 15 (.s 11) (.s 14) (.k (.bool false))},
  M 16 15,
  ⟨none,[],some (16,true),.fadr 17 (.s 1) 1⟩,
  ⟨none,[],some (16,true),.ld 18 (.s 17) 1 false⟩,
  ⟨none,[],some (16,true),.bin 19 .leq (.s 18) (.k (.int .i64 1000000))⟩,
  {op:=.pick 20 (.s 16) (.s 19) (.k (.bool false))},
  M 21 20,
  ⟨none,[],some (21,true),.fadr 22 (.s 1) 2⟩,
  ⟨none,[],some (21,true),.ld 23 (.s 22) 1 false⟩,
  ⟨none,[],some (21,true),.slen 24 (.s 23)⟩,
  ⟨none,[],some (21,true),.bin 25 .leq (.s 24) (.k (.int .i64 40))⟩,
  {op:=.pick 26 (.s 21) (.s 25) (.k (.bool false))},
  M 27 26,
  ⟨none,[],some (27,true),.fadr 28 (.s 1) 2⟩,
  ⟨none,[],some (27,true),.ld 29 (.s 28) 1 false⟩,
  ⟨none,[],some (27,true),.call 30 139 [(.s 29)]⟩,
  {op:=.pick 31 (.s 27) (.s 30) (.k (.bool false))},
  M 2 31]) (.ret)
def c_Sg_0:VC:=
 .seq (.r 0 [{op:=.box 1 (.s 0)},
  oK 2 false]) c_Sg_2
def vf_Sg:VF:={ pm:=[.ro q3],rm:=[.v [.sc]],nslots:=32,res:=[2],rc:=[],code:=.kp [0] c_Sg_0 }
def c_Sh_19:VC:=
 .ite (.s 13) (.seq (.r 5 [oK 2 false]) (.ret)) (.skip)
def c_Sh_17:VC:=
 .seq (.r 4 [{op:=.ld 11 (.s 4) 3 true},
  {op:=.call 12 97 [(.s 11)]},
  {op:=.un 13 .not (.s 12)}]) c_Sh_19
def c_Sh_24:VC:=
 .r 6 [{op:=.bin 14 .add (.s 7) (.k (.int .i64 1))},
  M 7 14]
def c_Sh_13:VC:=
 .seq (.blk 1 (.seq (.r 3 [oX 9 5 7 3,
  {op:=.ld 10 (.s 9) 3 true},
  {op:=.alloc 4 [.k (.int .i64 0),.k (.int .i64 0),.k (.string (ByteArray.mk #[]))]},
  oS 4 10 3]) c_Sh_17)) c_Sh_24
def c_Sh_9:VC:=
 .seq (.ite (.s 8) (.skip) (.exit 0)) c_Sh_13
def c_Sh_7:VC:=
 .seq (.r 2 [{op:=.bin 8 .lss (.s 7) (.s 6)}]) c_Sh_9
def c_Sh_5:VC:=
 .blk 0 (.loop [0,5,6,7] c_Sh_7)
def c_Sh_25:VC:=
 .seq (.r 7 [M 15 0,
  {op:=.len 16 (.s 15)},
  {op:=.bin 17 .geq (.s 16) (.k (.int .i64 1))},
  M 18 17,
  ⟨none,[],some (18,true),.mv 19 (.s 0)⟩,
  ⟨none,[],some (18,true),.len 20 (.s 19)⟩,
  ⟨none,[],some (18,true),.bin 21 .leq (.s 20) (.k (.int .i64 8))⟩,
  {op:=.pick 22 (.s 18) (.s 21) (.k (.bool false))},
  M 2 22]) (.ret)
def c_Sh_2:VC:=
 .seq (.seq (.r 1 [M 5 0,
  {op:=.len 6 (.s 5)},
  oN 7 0]) c_Sh_5) (.kp [0] c_Sh_25)
def c_Sh_0:VC:=
 .seq (.r 0 [oK 2 false]) c_Sh_2
def vf_Sh:VF:={ pm:=[.ro [.ro q3]],rm:=[.v [.sc]],nslots:=23,res:=[2],rc:=[],code:=.kp [0] c_Sh_0 }
def c_Sf_2:VC:=
 .seq (.r 1 [M 3 0,
  {op:=.bin 4 .geq (.s 3) (.k (.int .i64 0))},
  M 5 4,
  ⟨none,[],some (5,true),.mv 6 (.s 0)⟩,
  ⟨none,[],some (5,true),.bin 7 .leq (.s 6) (.k (.int .i64 1000000000))⟩,
  {op:=.pick 8 (.s 5) (.s 7) (.k (.bool false))},
  M 2 8]) (.ret)
def c_Sf_0:VC:=
 .seq (.r 0 [oK 2 false]) c_Sf_2
def vf_Sf:VF:={ pm:=[.ro [.sc]],rm:=[.v [.sc]],nslots:=9,res:=[2],rc:=[],code:=.kp [0] c_Sf_0 }
def c_Se_5:VC:=
 .ite (.s 17) (.seq (.r 2 [oK 2 false]) (.ret)) (.skip)
def c_Se_27:VC:=
 .r 7 [M 27 3,
  M 28 4,
  oX 29 27 28 1,
  {op:=.st (.s 29) (.k (.int .i64 (-1))) 1}]
def c_Se_28:VC:=
 .r 8 [{op:=.bin 30 .add (.s 24) (.k (.int .i64 1))},
  M 24 30]
def c_Se_23:VC:=
 .seq (.blk 1 (.seq (.r 6 [M 26 24,
  M 4 26]) c_Se_27)) c_Se_28
def c_Se_19:VC:=
 .seq (.ite (.s 25) (.skip) (.exit 0)) c_Se_23
def c_Se_17:VC:=
 .seq (.r 5 [{op:=.bin 25 .lss (.s 24) (.s 23)}]) c_Se_19
def c_Se_15:VC:=
 .blk 0 (.loop [1,3,23,24] c_Se_17)
def c_Se_49:VC:=
 .ite (.s 60) (.seq (.r 14 [oK 2 false]) (.ret)) (.skip)
def c_Se_57:VC:=
 .ite (.s 81) (.seq (.r 16 [oK 2 false]) (.ret)) (.skip)
def c_Se_68:VC:=
 .ite (.s 94) (.seq (.r 20 [oK 2 false]) (.ret)) (.skip)
def c_Se_66:VC:=
 .seq (.r 19 [M 93 5,
  {op:=.bin 94 .gtr (.s 93) (.k (.int .i64 60000))}]) c_Se_68
def c_Se_64:VC:=
 .seq (.r 18 [M 88 5,
  oF 89 7 4,
  oL 90 89 1,
  {op:=.len 91 (.s 90)},
  {op:=.bin 92 .add (.s 88) (.s 91)},
  M 5 92]) c_Se_66
def c_Se_62:VC:=
 .seq (.r 17 [M 82 3,
  oF 83 7 0,
  oL 84 83 1,
  oF 85 7 1,
  oL 86 85 1,
  oX 87 82 84 1,
  oS 87 86 1]) c_Se_64
def c_Se_54:VC:=
 .seq (.seq (.d 15 [(0,oG 61 7 1),
  (1,oV 62 61 1),
  (2,M 63 3),
  (3,oG 64 7 0),
  (4,oV 65 64 1),
  (5,oX 66 63 65 1),
  (6,oL 67 66 1),
  (7,{op:=.bin 68 .lss (.s 62) (.s 67)}),
  (8,M 69 68),
  (9,⟨none,[],some (69,false),.mv 70 (.s 3)⟩),
  (10,⟨none,[],some (69,false),.fadv 71 (.s 7) 0⟩),
  (11,⟨none,[],some (69,false),.ldv 72 (.s 71) 1 false⟩),
  (12,⟨none,[],some (69,false),.iadr 73 (.s 70) (.s 72) 1⟩),
  (13,⟨none,[],some (69,false),.ld 74 (.s 73) 1 false⟩),
  (14,⟨none,[],some (69,false),.bin 75 .lss (.s 74) (.k (.int .i64 0))⟩),
  (15,⟨none,[],some (69,false),.mv 76 (.s 75)⟩),
  (16,⟨none,[],some (76,true),.fadv 77 (.s 7) 3⟩),
  (17,⟨none,[],some (76,true),.ldv 78 (.s 77) 1 false⟩),
  (18,⟨none,[],some (76,true),.un 79 .not (.s 78)⟩),
  (19,⟨none,[],some (69,false),.pick 80 (.s 76) (.s 79) (.k (.bool false))⟩),
  (20,{op:=.pick 81 (.s 69) (.k (.bool true)) (.s 80)})]) c_Se_57) (.kp [1,3,5,7,32,33,34] c_Se_62)
def c_Se_46:VC:=
 .seq (.seq (.r 13 [oF 38 7 0,
  oL 39 38 1,
  {op:=.bin 40 .lss (.s 39) (.k (.int .i64 0))},
  M 41 40,
  ⟨none,[],some (41,false),.fadr 42 (.s 7) 0⟩,
  ⟨none,[],some (41,false),.ld 43 (.s 42) 1 false⟩,
  ⟨none,[],some (41,false),.fadr 44 (.s 1) 0⟩,
  ⟨none,[],some (41,false),.ld 45 (.s 44) 1 false⟩,
  ⟨none,[],some (41,false),.len 46 (.s 45)⟩,
  ⟨none,[],some (41,false),.bin 47 .geq (.s 43) (.s 46)⟩,
  {op:=.pick 48 (.s 41) (.k (.bool true)) (.s 47)},
  M 49 48,
  ⟨none,[],some (49,false),.fadr 50 (.s 7) 1⟩,
  ⟨none,[],some (49,false),.ld 51 (.s 50) 1 false⟩,
  ⟨none,[],some (49,false),.call 52 127 [(.s 51)]⟩,
  ⟨none,[],some (49,false),.un 53 .not (.s 52)⟩,
  {op:=.pick 54 (.s 49) (.k (.bool true)) (.s 53)},
  M 55 54,
  ⟨none,[],some (55,false),.fadr 56 (.s 7) 2⟩,
  ⟨none,[],some (55,false),.ld 57 (.s 56) 1 false⟩,
  ⟨none,[],some (55,false),.call 58 127 [(.s 57)]⟩,
  ⟨none,[],some (55,false),.un 59 .not (.s 58)⟩,
  {op:=.pick 60 (.s 55) (.k (.bool true)) (.s 59)}]) c_Se_49) c_Se_54
def c_Se_73:VC:=
 .r 21 [{op:=.bin 95 .add (.s 34) (.k (.int .i64 1))},
  M 34 95]
def c_Se_42:VC:=
 .seq (.blk 3 (.seq (.r 12 [oX 36 32 34 5,
  {op:=.ld 37 (.s 36) 5 true},
  {op:=.alloc 7 [.k (.int .i64 0),.k (.int .i64 0),.k (.int .i64 0),.k (.bool false),.o [.sc]]},
  oS 7 37 5]) c_Se_46)) c_Se_73
def c_Se_38:VC:=
 .seq (.ite (.s 35) (.skip) (.exit 2)) c_Se_42
def c_Se_36:VC:=
 .seq (.r 11 [{op:=.bin 35 .lss (.s 34) (.s 33)}]) c_Se_38
def c_Se_34:VC:=
 .blk 2 (.loop [1,3,5,32,33,34] c_Se_36)
def c_Se_74:VC:=
 .seq (.r 22 [oK 2 true]) (.ret)
def c_Se_31:VC:=
 .seq (.seq (.r 10 [oF 31 1 1,
  oL 32 31 1,
  {op:=.len 33 (.s 32)},
  oN 34 0]) c_Se_34) (.kp [] c_Se_74)
def c_Se_29:VC:=
 .seq (.r 9 [oN 5 0]) c_Se_31
def c_Se_12:VC:=
 .seq (.seq (.r 4 [M 22 3,
  {op:=.len 23 (.s 22)},
  oN 24 0]) c_Se_15) (.kp [1,3] c_Se_29)
def c_Se_10:VC:=
 .seq (.r 3 [oF 18 1 0,
  oL 19 18 1,
  {op:=.len 20 (.s 19)},
  {op:=.mk 21 (.s 20) [.sc] [(.int .i64 0)] 17592186044416},
  M 3 21]) c_Se_12
def c_Se_2:VC:=
 .seq (.seq (.r 1 [oF 8 1 0,
  oL 9 8 1,
  {op:=.call 10 142 [(.s 9)]},
  {op:=.un 11 .not (.s 10)},
  M 12 11,
  ⟨none,[],some (12,false),.fadr 13 (.s 1) 1⟩,
  ⟨none,[],some (12,false),.ld 14 (.s 13) 1 false⟩,
  ⟨none,[],some (12,false),.len 15 (.s 14)⟩,
  ⟨none,[],some (12,false),.bin 16 .gtr (.s 15) (.k (.int .i64 400))⟩,
  {op:=.pick 17 (.s 12) (.k (.bool true)) (.s 16)}]) c_Se_5) c_Se_10
def c_Se_0:VC:=
 .seq (.r 0 [{op:=.box 1 (.s 0)},
  oK 2 false]) c_Se_2
def vf_Se:VF:={ pm:=[.ro [.ro q3,.ro q5]],rm:=[.v [.sc]],nslots:=96,res:=[2],rc:=[],code:=.kp [0] c_Se_0 }
def c_Sd_20:VC:=
 .ite (.s 48) (.seq (.r 8 [oF 54 7 0,
  oL 55 54 1,
  oF 56 8 0,
  oL 57 56 1,
  {op:=.bin 58 .lss (.s 55) (.s 57)},
  M 6 58]) (.ret)) (.skip)
def c_Sd_14:VC:=
 .ite (.s 41) (.seq (.r 6 [M 45 9,
  M 46 10,
  {op:=.bin 47 .lss (.s 45) (.s 46)},
  M 6 47]) (.ret)) (.seq (.r 7 [oF 49 7 0,
  oL 50 49 1,
  oF 51 8 0,
  oL 52 51 1,
  {op:=.bin 53 .neq (.s 50) (.s 52)},
  M 48 53]) c_Sd_20)
def c_Sd_25:VC:=
 .seq (.r 9 [M 59 1,
  M 60 2,
  {op:=.bin 61 .lss (.s 59) (.s 60)},
  M 6 61]) (.ret)
def c_Sd_10:VC:=
 .seq (.blk 0 (.seq (.r 5 [M 42 9,
  M 43 10,
  {op:=.bin 44 .neq (.s 42) (.s 43)},
  M 41 44]) c_Sd_14)) c_Sd_25
def c_Sd_8:VC:=
 .seq (.d 4 [(0,oG 31 8 1),
  (1,oV 32 31 1),
  (2,oG 33 3 0),
  (3,oV 34 33 1),
  (4,oG 35 7 0),
  (5,oV 36 35 1),
  (6,oX 37 34 36 3),
  (7,oG 38 37 1),
  (8,oV 39 38 1),
  (9,{op:=.bin 40 .mul (.s 32) (.s 39)}),
  (10,M 10 40)]) c_Sd_10
def c_Sd_6:VC:=
 .seq (.d 3 [(0,oG 21 7 1),
  (1,oV 22 21 1),
  (2,oG 23 3 0),
  (3,oV 24 23 1),
  (4,oG 25 8 0),
  (5,oV 26 25 1),
  (6,oX 27 24 26 3),
  (7,oG 28 27 1),
  (8,oV 29 28 1),
  (9,{op:=.bin 30 .mul (.s 22) (.s 29)}),
  (10,M 9 30)]) c_Sd_8
def c_Sd_4:VC:=
 .seq (.r 2 [oF 16 3 1,
  oL 17 16 1,
  M 18 2,
  oX 19 17 18 5,
  {op:=.ld 20 (.s 19) 5 true},
  {op:=.alloc 8 [.k (.int .i64 0),.k (.int .i64 0),.k (.int .i64 0),.k (.bool false),.o [.sc]]},
  oS 8 20 5]) c_Sd_6
def c_Sd_2:VC:=
 .seq (.r 1 [oF 11 3 1,
  oL 12 11 1,
  M 13 1,
  oX 14 12 13 5,
  {op:=.ld 15 (.s 14) 5 true},
  {op:=.alloc 7 [.k (.int .i64 0),.k (.int .i64 0),.k (.int .i64 0),.k (.bool false),.o [.sc]]},
  oS 7 15 5]) c_Sd_4
def c_Sd_0:VC:=
 .seq (.r 0 [{op:=.box 3 (.s 0)},
  oK 6 false]) c_Sd_2
def vf_Sd:VF:={ pm:=[.ro [.ro q3,.ro q5],.ro [.sc],.ro [.sc]],rm:=[.v [.sc]],nslots:=62,res:=[6],rc:=[],code:=.kp [0,1,2] c_Sd_0 }
def c_Sa_5:VC:=
 .ite (.s 6) (.seq (.r 2 [oK 2 false]) (.ret)) (.skip)
def c_Sa_18:VC:=
 .ite (.s 11) (.skip) (.exit 0)
def c_Sa_25:VC:=
 .ite (.s 19) (.seq (.r 7 [oK 2 false]) (.ret)) (.skip)
def c_Sa_30:VC:=
 .r 5 [M 12 3,
  {op:=.bin 13 .add (.s 12) (.k (.int .i64 1))},
  M 3 13]
def c_Sa_21:VC:=
 .seq (.blk 1 (.seq (.r 6 [{op:=.ld 14 (.s 1) 2 true},
  M 15 3,
  {op:=.bin 16 .sub (.s 15) (.k (.int .i64 1))},
  M 17 3,
  {op:=.call 18 104 [(.s 14),(.s 16),(.s 17)]},
  {op:=.un 19 .not (.s 18)}]) c_Sa_25)) c_Sa_30
def c_Sa_15:VC:=
 .seq (.seq (.r 4 [M 7 3,
  oF 8 1 1,
  oL 9 8 1,
  {op:=.len 10 (.s 9)},
  {op:=.bin 11 .lss (.s 7) (.s 10)}]) c_Sa_18) c_Sa_21
def c_Sa_13:VC:=
 .blk 0 (.loop [1,3] c_Sa_15)
def c_Sa_31:VC:=
 .seq (.r 8 [oK 2 true]) (.ret)
def c_Sa_10:VC:=
 .seq (.seq (.r 3 [oN 3 1]) c_Sa_13) (.kp [] c_Sa_31)
def c_Sa_2:VC:=
 .seq (.seq (.r 1 [{op:=.ld 4 (.s 1) 2 true},
  {op:=.call 5 103 [(.s 4)]},
  {op:=.un 6 .not (.s 5)}]) c_Sa_5) c_Sa_10
def c_Sa_0:VC:=
 .seq (.r 0 [{op:=.box 1 (.s 0)},
  oK 2 false]) c_Sa_2
def vf_Sa:VF:={ pm:=[.ro [.ro q3,.ro q5]],rm:=[.v [.sc]],nslots:=20,res:=[2],rc:=[],code:=.kp [0] c_Sa_0 }
def c_Si_9:VC:=
 .ite (.s 5) (.skip) (.r 3 [{op:=.bin 7 .eql (.s 4) (.k (.int .i64 2))},
  M 5 7])
def c_Si_30:VC:=
 .ite (.s 31) (.seq (.r 10 [oF 33 1 1,
  oL 34 33 1,
  {op:=.bin 35 .geq (.s 34) (.k (.int .i64 25))},
  M 36 35,
  ⟨none,[],some (36,true),.fadr 37 (.s 1) 1⟩,
  ⟨none,[],some (36,true),.ld 38 (.s 37) 1 false⟩,
  ⟨none,[],some (36,true),.bin 39 .leq (.s 38) (.k (.int .i64 400))⟩,
  {op:=.pick 40 (.s 36) (.s 39) (.k (.bool false))},
  M 2 40]) (.ret)) (.skip)
def c_Si_24:VC:=
 .ite (.s 21) (.seq (.r 8 [oF 23 1 1,
  oL 24 23 1,
  {op:=.bin 25 .geq (.s 24) (.k (.int .i64 0))},
  M 26 25,
  ⟨none,[],some (26,true),.fadr 27 (.s 1) 1⟩,
  ⟨none,[],some (26,true),.ld 28 (.s 27) 1 false⟩,
  ⟨none,[],some (26,true),.bin 29 .leq (.s 28) (.k (.int .i64 100000))⟩,
  {op:=.pick 30 (.s 26) (.s 29) (.k (.bool false))},
  M 2 30]) (.ret)) (.seq (.r 9 [{op:=.bin 32 .eql (.s 4) (.k (.int .i64 5))},
  M 31 32]) c_Si_30)
def c_Si_18:VC:=
 .ite (.s 11) (.seq (.r 6 [oF 13 1 1,
  oL 14 13 1,
  {op:=.bin 15 .geq (.s 14) (.k (.int .i64 0))},
  M 16 15,
  ⟨none,[],some (16,true),.fadr 17 (.s 1) 1⟩,
  ⟨none,[],some (16,true),.ld 18 (.s 17) 1 false⟩,
  ⟨none,[],some (16,true),.bin 19 .leq (.s 18) (.k (.int .i64 359999999))⟩,
  {op:=.pick 20 (.s 16) (.s 19) (.k (.bool false))},
  M 2 20]) (.ret)) (.seq (.r 7 [{op:=.bin 22 .eql (.s 4) (.k (.int .i64 4))},
  M 21 22]) c_Si_24)
def c_Si_12:VC:=
 .ite (.s 5) (.seq (.r 4 [oF 8 1 1,
  oL 9 8 1,
  {op:=.bin 10 .eql (.s 9) (.k (.int .i64 0))},
  M 2 10]) (.ret)) (.seq (.r 5 [{op:=.bin 12 .eql (.s 4) (.k (.int .i64 3))},
  M 11 12]) c_Si_18)
def c_Si_5:VC:=
 .blk 0 (.seq (.seq (.r 2 [{op:=.bin 6 .eql (.s 4) (.k (.int .i64 1))},
  M 5 6]) c_Si_9) (.kp [1,4,5] c_Si_12))
def c_Si_35:VC:=
 .seq (.r 11 [oK 2 false]) (.ret)
def c_Si_2:VC:=
 .seq (.seq (.r 1 [oF 3 1 0,
  oL 4 3 1]) c_Si_5) c_Si_35
def c_Si_0:VC:=
 .seq (.r 0 [{op:=.box 1 (.s 0)},
  oK 2 false]) c_Si_2
def vf_Si:VF:={ pm:=[.ro [.sc,.sc]],rm:=[.v [.sc]],nslots:=41,res:=[2],rc:=[],code:=.kp [0] c_Si_0 }
def c_Sj_4:VC:=
 .seq (.d 2 [(0,oG 11 5 1),
  (1,oV 12 11 1),
  (2,{op:=.bin 13 .mul (.s 12) (.k (.int .i64 1000000))}),
  (3,oG 14 2 0),
  (4,oV 15 14 1),
  (5,oG 16 5 0),
  (6,oV 17 16 1),
  (7,oX 18 15 17 3),
  (8,oG 19 18 1),
  (9,oV 20 19 1),
  (10,{op:=.bin 21 .quo (.s 13) (.s 20)}),
  (11,M 4 21)]) (.ret)
def c_Sj_2:VC:=
 .seq (.r 1 [oF 6 2 1,
  oL 7 6 1,
  M 8 1,
  oX 9 7 8 5,
  {op:=.ld 10 (.s 9) 5 true},
  {op:=.alloc 5 [.k (.int .i64 0),.k (.int .i64 0),.k (.int .i64 0),.k (.bool false),.o [.sc]]},
  oS 5 10 5]) c_Sj_4
def c_Sj_0:VC:=
 .seq (.r 0 [{op:=.box 2 (.s 0)},
  oN 4 0]) c_Sj_2
def vf_Sj:VF:={ pm:=[.ro [.ro q3,.ro q5],.ro [.sc]],rm:=[.v [.sc]],nslots:=22,res:=[4],rc:=[],code:=.kp [0,1] c_Sj_0 }
def c_Sm_18:VC:=
 .ite (.s 42) (.r 5 [M 43 0,
  M 44 0,
  {op:=.nck 45 (.s 44)},
  oF 46 45 2,
  oL 47 46 1,
  M 48 2,
  oX 49 47 48 1,
  oL 50 49 1,
  {op:=.nck 51 (.s 43)},
  oF 52 51 11,
  oS 52 50 1]) (.skip)
def c_Sm_16:VC:=
 .seq (.d 4 [(0,M 14 0),
  (1,{op:=.nckv 15 (.s 14)}),
  (2,oG 16 15 9),
  (3,oV 17 16 1),
  (4,M 18 2),
  (5,oX 19 17 18 1),
  (6,oL 20 19 1),
  (7,{op:=.un 21 .not (.s 20)}),
  (8,M 22 21),
  (9,⟨none,[],some (22,true),.mv 23 (.s 0)⟩),
  (10,⟨none,[],some (22,true),.nckv 24 (.s 23)⟩),
  (11,⟨none,[],some (22,true),.fadv 25 (.s 24) 11⟩),
  (12,⟨none,[],some (22,true),.ldv 26 (.s 25) 1 false⟩),
  (13,⟨none,[],some (22,true),.bin 27 .lss (.s 26) (.k (.int .i64 0))⟩),
  (14,⟨none,[],some (22,true),.mv 28 (.s 27)⟩),
  (15,⟨none,[],some (28,false),.mv 29 (.s 0)⟩),
  (16,⟨none,[],some (28,false),.nckv 30 (.s 29)⟩),
  (17,⟨none,[],some (28,false),.fadv 31 (.s 30) 2⟩),
  (18,⟨none,[],some (28,false),.ldv 32 (.s 31) 1 false⟩),
  (19,⟨none,[],some (28,false),.mv 33 (.s 2)⟩),
  (20,⟨none,[],some (28,false),.iadr 34 (.s 32) (.s 33) 1⟩),
  (21,⟨none,[],some (28,false),.ld 35 (.s 34) 1 false⟩),
  (22,⟨none,[],some (28,false),.mv 36 (.s 0)⟩),
  (23,⟨none,[],some (28,false),.nckv 37 (.s 36)⟩),
  (24,⟨none,[],some (28,false),.fadv 38 (.s 37) 11⟩),
  (25,⟨none,[],some (28,false),.ldv 39 (.s 38) 1 false⟩),
  (26,⟨none,[],some (28,false),.bin 40 .lss (.s 35) (.s 39)⟩),
  (27,⟨none,[],some (22,true),.pick 41 (.s 28) (.k (.bool true)) (.s 40)⟩),
  (28,{op:=.pick 42 (.s 22) (.s 41) (.k (.bool false))})]) (.kp [0,2,10,11,42] c_Sm_18)
def c_Sm_21:VC:=
 .r 6 [{op:=.bin 53 .add (.s 11) (.k (.int .i64 1))},
  M 11 53]
def c_Sm_12:VC:=
 .seq (.blk 1 (.seq (.r 3 [M 13 11,
  M 2 13]) c_Sm_16)) c_Sm_21
def c_Sm_8:VC:=
 .seq (.ite (.s 12) (.skip) (.exit 0)) c_Sm_12
def c_Sm_6:VC:=
 .seq (.r 2 [{op:=.bin 12 .lss (.s 11) (.s 10)}]) c_Sm_8
def c_Sm_4:VC:=
 .blk 0 (.loop [0,10,11] c_Sm_6)
def c_Sm_2:VC:=
 .seq (.r 1 [M 6 0,
  {op:=.nck 7 (.s 6)},
  oF 8 7 2,
  oL 9 8 1,
  {op:=.len 10 (.s 9)},
  oN 11 0]) c_Sm_4
def c_Sm_0:VC:=
 .seq (.r 0 [M 3 0,
  {op:=.nck 4 (.s 3)},
  oF 5 4 11,
  {op:=.st (.s 5) (.k (.int .i64 (-1))) 1}]) c_Sm_2
def vf_Sm:VF:={ pm:=[.mb [.ro q3,.ro q5,.own [.sc],.sc,.sc,.sc,.sc,.sc,.sc,.own [.sc],.sc,.sc,.own [.sc],.own q4]],rm:=[],nslots:=54,res:=[],rc:=[],code:=.kp [0] c_Sm_0 }
def c_Sl_5:VC:=
 .ite (.s 11) (.seq (.r 2 [M 12 0,
  {op:=.nck 13 (.s 12)},
  oF 14 13 8,
  oL 15 14 1,
  M 2 15]) (.ret)) (.skip)
def c_Sl_10:VC:=
 .seq (.r 3 [M 16 0,
  {op:=.nck 17 (.s 16)},
  oF 18 17 4,
  oL 19 18 1,
  M 2 19]) (.ret)
def c_Sl_2:VC:=
 .seq (.seq (.d 1 [(0,M 3 0),
  (1,{op:=.nckv 4 (.s 3)}),
  (2,oG 5 4 8),
  (3,oV 6 5 1),
  (4,M 7 0),
  (5,{op:=.nckv 8 (.s 7)}),
  (6,oG 9 8 4),
  (7,oV 10 9 1),
  (8,{op:=.bin 11 .gtr (.s 6) (.s 10)})]) c_Sl_5) c_Sl_10
def c_Sl_0:VC:=
 .seq (.r 0 [oN 2 0]) c_Sl_2
def vf_Sl:VF:={ pm:=[.mb [.ro q3,.ro q5,.own [.sc],.sc,.sc,.sc,.sc,.sc,.sc,.own [.sc],.sc,.sc,.own [.sc],.own q4]],rm:=[.v [.sc]],nslots:=20,res:=[2],rc:=[],code:=.kp [0] c_Sl_0 }
def c_Sk_2:VC:=
 .seq (.d 1 [(0,M 5 0),
  (1,{op:=.nckv 6 (.s 5)}),
  (2,oG 7 6 0),
  (3,oG 8 7 1),
  (4,oV 9 8 1),
  (5,M 10 1),
  (6,oX 11 9 10 5),
  (7,oG 12 11 4),
  (8,oV 13 12 1),
  (9,{op:=.len 14 (.s 13)}),
  (10,M 15 0),
  (11,{op:=.nckv 16 (.s 15)}),
  (12,oG 17 16 3),
  (13,oV 18 17 1),
  (14,{op:=.bin 19 .quo (.s 14) (.s 18)}),
  (15,{op:=.bin 20 .add (.s 19) (.k (.int .i64 1))}),
  (16,M 4 20)]) (.ret)
def c_Sk_0:VC:=
 .seq (.r 0 [oN 4 0]) c_Sk_2
def vf_Sk:VF:={ pm:=[.mb [.ro q3,.ro q5,.own [.sc],.sc,.sc,.sc,.sc,.sc,.sc,.own [.sc],.sc,.sc,.own [.sc],.own q4],.ro [.sc]],rm:=[.v [.sc]],nslots:=21,res:=[4],rc:=[],code:=.kp [0,1] c_Sk_0 }
def c_Sn_19:VC:=
 .r 5 [M 28 4,
  M 29 5,
  M 30 0,
  {op:=.nck 31 (.s 30)},
  oF 32 31 2,
  oL 33 32 1,
  {op:=.len 34 (.s 33)},
  oX 35 28 29 1,
  oS 35 34 1]
def c_Sn_20:VC:=
 .r 6 [{op:=.bin 36 .add (.s 25) (.k (.int .i64 1))},
  M 25 36]
def c_Sn_15:VC:=
 .seq (.blk 1 (.seq (.r 4 [M 27 25,
  M 5 27]) c_Sn_19)) c_Sn_20
def c_Sn_11:VC:=
 .seq (.ite (.s 26) (.skip) (.exit 0)) c_Sn_15
def c_Sn_9:VC:=
 .seq (.r 3 [{op:=.bin 26 .lss (.s 25) (.s 24)}]) c_Sn_11
def c_Sn_7:VC:=
 .blk 0 (.loop [0,4,24,25] c_Sn_9)
def c_Sn_38:VC:=
 .ite (.s 90) (.r 11 [M 91 4,
  oF 92 7 0,
  oL 93 92 1,
  M 94 6,
  oX 95 91 93 1,
  oS 95 94 1]) (.skip)
def c_Sn_36:VC:=
 .seq (.d 10 [(0,M 48 0),
  (1,{op:=.nckv 49 (.s 48)}),
  (2,oG 50 49 2),
  (3,oV 51 50 1),
  (4,M 52 6),
  (5,oX 53 51 52 1),
  (6,oL 54 53 1),
  (7,M 55 0),
  (8,{op:=.nckv 56 (.s 55)}),
  (9,oG 57 56 5),
  (10,oV 58 57 1),
  (11,{op:=.bin 59 .gtr (.s 54) (.s 58)}),
  (12,M 60 59),
  (13,⟨none,[],some (60,true),.mv 61 (.s 4)⟩),
  (14,⟨none,[],some (60,true),.fadv 62 (.s 7) 0⟩),
  (15,⟨none,[],some (60,true),.ldv 63 (.s 62) 1 false⟩),
  (16,⟨none,[],some (60,true),.iadr 64 (.s 61) (.s 63) 1⟩),
  (17,⟨none,[],some (60,true),.ld 65 (.s 64) 1 false⟩),
  (18,⟨none,[],some (60,true),.mv 66 (.s 0)⟩),
  (19,⟨none,[],some (60,true),.nckv 67 (.s 66)⟩),
  (20,⟨none,[],some (60,true),.fadv 68 (.s 67) 2⟩),
  (21,⟨none,[],some (60,true),.ldv 69 (.s 68) 1 false⟩),
  (22,⟨none,[],some (60,true),.len 70 (.s 69)⟩),
  (23,⟨none,[],some (60,true),.bin 71 .eql (.s 65) (.s 70)⟩),
  (24,{op:=.pick 72 (.s 60) (.s 71) (.k (.bool false))}),
  (25,M 73 72),
  (26,⟨none,[],some (73,false),.mv 74 (.s 0)⟩),
  (27,⟨none,[],some (73,false),.nckv 75 (.s 74)⟩),
  (28,⟨none,[],some (73,false),.fadv 76 (.s 75) 2⟩),
  (29,⟨none,[],some (73,false),.ldv 77 (.s 76) 1 false⟩),
  (30,⟨none,[],some (73,false),.mv 78 (.s 6)⟩),
  (31,⟨none,[],some (73,false),.iadr 79 (.s 77) (.s 78) 1⟩),
  (32,⟨none,[],some (73,false),.ld 80 (.s 79) 1 false⟩),
  (33,⟨none,[],some (73,false),.mv 81 (.s 0)⟩),
  (34,⟨none,[],some (73,false),.nckv 82 (.s 81)⟩),
  (35,⟨none,[],some (73,false),.fadv 83 (.s 82) 5⟩),
  (36,⟨none,[],some (73,false),.ldv 84 (.s 83) 1 false⟩),
  (37,⟨none,[],some (73,false),.bin 85 .leq (.s 80) (.s 84)⟩),
  (38,⟨none,[],some (73,false),.mv 86 (.s 85)⟩),
  (39,⟨none,[],some (86,true),.fadv 87 (.s 7) 3⟩),
  (40,⟨none,[],some (86,true),.ldv 88 (.s 87) 1 false⟩),
  (41,⟨none,[],some (73,false),.pick 89 (.s 86) (.s 88) (.k (.bool false))⟩),
  (42,{op:=.pick 90 (.s 73) (.k (.bool true)) (.s 89)})]) (.kp [0,4,6,7,41,42,43,90] c_Sn_38)
def c_Sn_41:VC:=
 .r 12 [{op:=.bin 96 .add (.s 43) (.k (.int .i64 1))},
  M 43 96]
def c_Sn_32:VC:=
 .seq (.blk 3 (.seq (.r 9 [M 45 43,
  oX 46 41 43 5,
  {op:=.ld 47 (.s 46) 5 true},
  {op:=.alloc 7 [.k (.int .i64 0),.k (.int .i64 0),.k (.int .i64 0),.k (.bool false),.o [.sc]]},
  M 6 45,
  oS 7 47 5]) c_Sn_36)) c_Sn_41
def c_Sn_28:VC:=
 .seq (.ite (.s 44) (.skip) (.exit 2)) c_Sn_32
def c_Sn_26:VC:=
 .seq (.r 8 [{op:=.bin 44 .lss (.s 43) (.s 42)}]) c_Sn_28
def c_Sn_24:VC:=
 .blk 2 (.loop [0,4,41,42,43] c_Sn_26)
def c_Sn_57:VC:=
 .r 16 [M 105 0,
  {op:=.nck 106 (.s 105)},
  oF 107 106 12,
  oL 108 107 1,
  M 109 8,
  oX 110 108 109 1,
  {op:=.st (.s 110) (.k (.bool false)) 1}]
def c_Sn_58:VC:=
 .r 17 [{op:=.bin 111 .add (.s 102) (.k (.int .i64 1))},
  M 102 111]
def c_Sn_53:VC:=
 .seq (.blk 5 (.seq (.r 15 [M 104 102,
  M 8 104]) c_Sn_57)) c_Sn_58
def c_Sn_49:VC:=
 .seq (.ite (.s 103) (.skip) (.exit 4)) c_Sn_53
def c_Sn_47:VC:=
 .seq (.r 14 [{op:=.bin 103 .lss (.s 102) (.s 101)}]) c_Sn_49
def c_Sn_45:VC:=
 .blk 4 (.loop [0,4,101,102] c_Sn_47)
def c_Sn_78:VC:=
 .ite (.s 170) (.r 23 [M 171 0,
  M 172 0,
  {op:=.call 173 124 [(.s 172)]},
  M 174 0,
  M 175 9,
  {op:=.call 176 125 [(.s 174),(.s 175)]},
  {op:=.bin 177 .add (.s 173) (.s 176)},
  {op:=.nck 178 (.s 171)},
  oF 179 178 8,
  oS 179 177 1]) (.skip)
def c_Sn_76:VC:=
 .seq (.d 22 [(0,M 150 9),
  (1,M 151 4),
  (2,oG 152 10 0),
  (3,oV 153 152 1),
  (4,oX 154 151 153 1),
  (5,oL 155 154 1),
  (6,{op:=.bin 156 .geq (.s 150) (.s 155)}),
  (7,M 157 156),
  (8,⟨none,[],some (157,true),.mv 158 (.s 0)⟩),
  (9,⟨none,[],some (157,true),.nckv 159 (.s 158)⟩),
  (10,⟨none,[],some (157,true),.fadv 160 (.s 159) 2⟩),
  (11,⟨none,[],some (157,true),.ldv 161 (.s 160) 1 false⟩),
  (12,⟨none,[],some (157,true),.mv 162 (.s 9)⟩),
  (13,⟨none,[],some (157,true),.iadr 163 (.s 161) (.s 162) 1⟩),
  (14,⟨none,[],some (157,true),.ld 164 (.s 163) 1 false⟩),
  (15,⟨none,[],some (157,true),.mv 165 (.s 0)⟩),
  (16,⟨none,[],some (157,true),.nckv 166 (.s 165)⟩),
  (17,⟨none,[],some (157,true),.fadv 167 (.s 166) 5⟩),
  (18,⟨none,[],some (157,true),.ldv 168 (.s 167) 1 false⟩),
  (19,⟨none,[],some (157,true),.bin 169 .lss (.s 164) (.s 168)⟩),
  (20,{op:=.pick 170 (.s 157) (.s 169) (.k (.bool false))})]) (.kp [0,4,9,116,117,118,170] c_Sn_78)
def c_Sn_74:VC:=
 .seq (.d 21 [(0,M 123 0),
  (1,{op:=.nckv 124 (.s 123)}),
  (2,oG 125 124 9),
  (3,oV 126 125 1),
  (4,M 127 9),
  (5,M 128 9),
  (6,M 129 4),
  (7,oG 130 10 0),
  (8,oV 131 130 1),
  (9,oX 132 129 131 1),
  (10,oL 133 132 1),
  (11,{op:=.bin 134 .lss (.s 128) (.s 133)}),
  (12,M 135 134),
  (13,⟨none,[],some (135,false),.mv 136 (.s 0)⟩),
  (14,⟨none,[],some (135,false),.nckv 137 (.s 136)⟩),
  (15,⟨none,[],some (135,false),.fadv 138 (.s 137) 2⟩),
  (16,⟨none,[],some (135,false),.ldv 139 (.s 138) 1 false⟩),
  (17,⟨none,[],some (135,false),.mv 140 (.s 9)⟩),
  (18,⟨none,[],some (135,false),.iadr 141 (.s 139) (.s 140) 1⟩),
  (19,⟨none,[],some (135,false),.ld 142 (.s 141) 1 false⟩),
  (20,⟨none,[],some (135,false),.mv 143 (.s 0)⟩),
  (21,⟨none,[],some (135,false),.nckv 144 (.s 143)⟩),
  (22,⟨none,[],some (135,false),.fadv 145 (.s 144) 5⟩),
  (23,⟨none,[],some (135,false),.ldv 146 (.s 145) 1 false⟩),
  (24,⟨none,[],some (135,false),.bin 147 .lss (.s 142) (.s 146)⟩),
  (25,{op:=.pick 148 (.s 135) (.k (.bool true)) (.s 147)}),
  (26,oX 149 126 127 1),
  (27,oS 149 148 1)]) (.kp [0,4,9,10,116,117,118] c_Sn_76)
def c_Sn_81:VC:=
 .r 24 [{op:=.bin 180 .add (.s 118) (.k (.int .i64 1))},
  M 118 180]
def c_Sn_70:VC:=
 .seq (.blk 7 (.seq (.r 20 [M 120 118,
  oX 121 116 118 5,
  {op:=.ld 122 (.s 121) 5 true},
  {op:=.alloc 10 [.k (.int .i64 0),.k (.int .i64 0),.k (.int .i64 0),.k (.bool false),.o [.sc]]},
  M 9 120,
  oS 10 122 5]) c_Sn_74)) c_Sn_81
def c_Sn_66:VC:=
 .seq (.ite (.s 119) (.skip) (.exit 6)) c_Sn_70
def c_Sn_64:VC:=
 .seq (.r 19 [{op:=.bin 119 .lss (.s 118) (.s 117)}]) c_Sn_66
def c_Sn_62:VC:=
 .blk 6 (.loop [0,4,116,117,118] c_Sn_64)
def c_Sn_82:VC:=
 .r 25 [M 181 0,
  {op:=.call 182 76 [(.s 181)]}]
def c_Sn_59:VC:=
 .seq (.seq (.r 18 [M 112 0,
  {op:=.nck 113 (.s 112)},
  oF 114 113 0,
  oF 115 114 1,
  oL 116 115 1,
  {op:=.len 117 (.s 116)},
  oN 118 0]) c_Sn_62) (.kp [0] c_Sn_82)
def c_Sn_42:VC:=
 .seq (.seq (.r 13 [M 97 0,
  {op:=.nck 98 (.s 97)},
  oF 99 98 12,
  oL 100 99 1,
  {op:=.len 101 (.s 100)},
  oN 102 0]) c_Sn_45) (.kp [0,4] c_Sn_59)
def c_Sn_21:VC:=
 .seq (.seq (.r 7 [M 37 0,
  {op:=.nck 38 (.s 37)},
  oF 39 38 0,
  oF 40 39 1,
  oL 41 40 1,
  {op:=.len 42 (.s 41)},
  oN 43 0]) c_Sn_24) (.kp [0,4] c_Sn_42)
def c_Sn_4:VC:=
 .seq (.seq (.r 2 [M 23 4,
  {op:=.len 24 (.s 23)},
  oN 25 0]) c_Sn_7) (.kp [0,4] c_Sn_21)
def c_Sn_2:VC:=
 .seq (.r 1 [M 16 0,
  {op:=.nck 17 (.s 16)},
  oF 18 17 0,
  oF 19 18 0,
  oL 20 19 1,
  {op:=.len 21 (.s 20)},
  {op:=.mk 22 (.s 21) [.sc] [(.int .i64 0)] 17592186044416},
  M 4 22]) c_Sn_4
def c_Sn_0:VC:=
 .seq (.r 0 [M 11 0,
  M 12 1,
  {op:=.bin 13 .mul (.s 12) (.k (.int .i64 1000))},
  {op:=.nck 14 (.s 11)},
  oF 15 14 5,
  oS 15 13 1]) c_Sn_2
def vf_Sn:VF:={ pm:=[.mb [.ro q3,.ro q5,.own [.sc],.sc,.sc,.sc,.sc,.sc,.sc,.own [.sc],.sc,.sc,.own [.sc],.own q4],.ro [.sc]],rm:=[],nslots:=183,res:=[],rc:=[],code:=.kp [0,1] c_Sn_0 }
def c_So_7:VC:=
 .ite (.s 26) (.d 3 [(0,M 27 0),
  (1,{op:=.nckv 28 (.s 27)}),
  (2,oG 29 28 12),
  (3,oV 30 29 1),
  (4,oG 31 4 0),
  (5,oV 32 31 1),
  (6,oX 33 30 32 1),
  (7,{op:=.st (.s 33) (.k (.bool false)) 1})]) (.skip)
def c_So_15:VC:=
 .ite (.s 59) (.d 6 [(0,M 60 0),
  (1,{op:=.nckv 61 (.s 60)}),
  (2,oG 62 61 12),
  (3,oV 63 62 1),
  (4,oG 64 4 0),
  (5,oV 65 64 1),
  (6,oX 66 63 65 1),
  (7,{op:=.st (.s 66) (.k (.bool true)) 1})]) (.skip)
def c_So_21:VC:=
 .ite (.s 75) (.r 8 [M 76 0,
  M 77 6,
  {op:=.nck 78 (.s 76)},
  oF 79 78 8,
  oS 79 77 1]) (.skip)
def c_So_24:VC:=
 .d 9 [(0,M 80 0),
  (1,M 81 0),
  (2,{op:=.nckv 82 (.s 81)}),
  (3,oG 83 82 13),
  (4,oV 84 83 1),
  (5,M 85 0),
  (6,{op:=.nckv 86 (.s 85)}),
  (7,oG 87 86 4),
  (8,oV 88 87 1),
  (9,M 89 0),
  (10,{op:=.nckv 90 (.s 89)}),
  (11,oG 91 90 5),
  (12,oV 92 91 1),
  (13,{op:=.bin 93 .quo (.s 92) (.k (.int .i64 1000))}),
  (14,M 94 1),
  (15,M 95 0),
  (16,{op:=.nckv 96 (.s 95)}),
  (17,oG 97 96 12),
  (18,oV 98 97 1),
  (19,oG 99 4 0),
  (20,oV 100 99 1),
  (21,oX 101 98 100 1),
  (22,oL 102 101 1),
  (23,{op:=.bld 103 [.k (.int .i64 0),.k (.int .i64 0),.k (.int .i64 0),.k (.bool false)] [(0,1,(.s 88)),(1,1,(.s 93)),(2,1,(.s 94)),(3,1,(.s 102))]}),
  (24,{op:=.lits 104 q4 [(.s 103)]}),
  (25,{op:=.app 105 (.s 84) (.s 104) q4 4398046511104}),
  (26,{op:=.nckv 106 (.s 80)}),
  (27,oG 107 106 13),
  (28,oS 107 105 1)]
def c_So_18:VC:=
 .seq (.seq (.d 7 [(0,M 67 0),
  (1,{op:=.nckv 68 (.s 67)}),
  (2,oG 69 68 12),
  (3,oV 70 69 1),
  (4,oG 71 4 0),
  (5,oV 72 71 1),
  (6,oX 73 70 72 1),
  (7,oL 74 73 1),
  (8,{op:=.un 75 .not (.s 74)})]) c_So_21) (.kp [0,1,4] c_So_24)
def c_So_12:VC:=
 .seq (.seq (.r 5 [M 40 5,
  {op:=.bin 41 .eql (.s 40) (.k (.int .i64 3))},
  M 42 41,
  ⟨none,[],some (42,false),.mv 43 (.s 5)⟩,
  ⟨none,[],some (42,false),.bin 44 .eql (.s 43) (.k (.int .i64 4))⟩,
  {op:=.pick 45 (.s 42) (.k (.bool true)) (.s 44)},
  M 46 45,
  ⟨none,[],some (46,true),.fadr 47 (.s 4) 3⟩,
  ⟨none,[],some (46,true),.ld 48 (.s 47) 1 false⟩,
  ⟨none,[],some (46,true),.un 49 .not (.s 48)⟩,
  {op:=.pick 50 (.s 46) (.s 49) (.k (.bool false))},
  M 51 50,
  ⟨none,[],some (51,true),.mv 52 (.s 6)⟩,
  ⟨none,[],some (51,true),.mv 53 (.s 0)⟩,
  ⟨none,[],some (51,true),.nck 54 (.s 53)⟩,
  ⟨none,[],some (51,true),.fadr 55 (.s 54) 4⟩,
  ⟨none,[],some (51,true),.ld 56 (.s 55) 1 false⟩,
  ⟨none,[],some (51,true),.bin 57 .add (.s 56) (.k (.int .i64 100))⟩,
  ⟨none,[],some (51,true),.bin 58 .gtr (.s 52) (.s 57)⟩,
  {op:=.pick 59 (.s 51) (.s 58) (.k (.bool false))}]) (.kp [0,1,4,6,59] c_So_15)) (.kp [0,1,4,6] c_So_18)
def c_So_10:VC:=
 .seq (.r 4 [M 34 0,
  {op:=.call 35 124 [(.s 34)]},
  M 36 0,
  M 37 1,
  {op:=.call 38 125 [(.s 36),(.s 37)]},
  {op:=.bin 39 .add (.s 35) (.s 38)},
  M 6 39]) c_So_12
def c_So_4:VC:=
 .seq (.seq (.r 2 [oF 25 4 3,
  oL 26 25 1]) c_So_7) (.kp [0,1,4,5] c_So_10)
def c_So_2:VC:=
 .seq (.d 1 [(0,M 15 0),
  (1,{op:=.nckv 16 (.s 15)}),
  (2,oG 17 16 0),
  (3,oG 18 17 0),
  (4,oV 19 18 1),
  (5,oG 20 4 0),
  (6,oV 21 20 1),
  (7,oX 22 19 21 3),
  (8,oG 23 22 0),
  (9,oV 24 23 1),
  (10,M 5 24)]) c_So_4
def c_So_0:VC:=
 .seq (.r 0 [M 7 0,
  {op:=.nck 8 (.s 7)},
  oF 9 8 0,
  oF 10 9 1,
  oL 11 10 1,
  M 12 1,
  oX 13 11 12 5,
  {op:=.ld 14 (.s 13) 5 true},
  {op:=.alloc 4 [.k (.int .i64 0),.k (.int .i64 0),.k (.int .i64 0),.k (.bool false),.o [.sc]]},
  oS 4 14 5]) c_So_2
def vf_So:VF:={ pm:=[.mb [.ro q3,.ro q5,.own [.sc],.sc,.sc,.sc,.sc,.sc,.sc,.own [.sc],.sc,.sc,.own [.sc],.own q4],.ro [.sc]],rm:=[],nslots:=108,res:=[],rc:=[],code:=.kp [0,1] c_So_0 }
def c_Sp_5:VC:=
 .ite (.s 14) (.ret) (.skip)
def c_Sp_13:VC:=
 .ite (.s 42) (.ret) (.skip)
def c_Sp_36:VC:=
 .r 9 [M 79 0,
  M 80 2,
  {op:=.call 81 126 [(.s 79),(.s 80)]}]
def c_Sp_33:VC:=
 .ite (.s 72) (.seq (.r 8 [M 73 0,
  {op:=.nck 74 (.s 73)},
  oF 75 74 9,
  oL 76 75 1,
  M 77 2,
  oX 78 76 77 1,
  {op:=.st (.s 78) (.k (.bool true)) 1}]) c_Sp_36) (.skip)
def c_Sp_31:VC:=
 .seq (.d 7 [(0,M 51 0),
  (1,{op:=.nckv 52 (.s 51)}),
  (2,oG 53 52 9),
  (3,oV 54 53 1),
  (4,M 55 2),
  (5,oX 56 54 55 1),
  (6,oL 57 56 1),
  (7,{op:=.un 58 .not (.s 57)}),
  (8,M 59 58),
  (9,⟨none,[],some (59,true),.mv 60 (.s 0)⟩),
  (10,⟨none,[],some (59,true),.nckv 61 (.s 60)⟩),
  (11,⟨none,[],some (59,true),.fadv 62 (.s 61) 2⟩),
  (12,⟨none,[],some (59,true),.ldv 63 (.s 62) 1 false⟩),
  (13,⟨none,[],some (59,true),.mv 64 (.s 2)⟩),
  (14,⟨none,[],some (59,true),.iadr 65 (.s 63) (.s 64) 1⟩),
  (15,⟨none,[],some (59,true),.ld 66 (.s 65) 1 false⟩),
  (16,⟨none,[],some (59,true),.mv 67 (.s 0)⟩),
  (17,⟨none,[],some (59,true),.nckv 68 (.s 67)⟩),
  (18,⟨none,[],some (59,true),.fadv 69 (.s 68) 5⟩),
  (19,⟨none,[],some (59,true),.ldv 70 (.s 69) 1 false⟩),
  (20,⟨none,[],some (59,true),.bin 71 .leq (.s 66) (.s 70)⟩),
  (21,{op:=.pick 72 (.s 59) (.s 71) (.k (.bool false))})]) (.kp [0,2,47,48,72] c_Sp_33)
def c_Sp_38:VC:=
 .r 10 [{op:=.bin 82 .add (.s 48) (.k (.int .i64 1))},
  M 48 82]
def c_Sp_27:VC:=
 .seq (.blk 1 (.seq (.r 6 [M 50 48,
  M 2 50]) c_Sp_31)) c_Sp_38
def c_Sp_23:VC:=
 .seq (.ite (.s 49) (.skip) (.exit 0)) c_Sp_27
def c_Sp_21:VC:=
 .seq (.r 5 [{op:=.bin 49 .lss (.s 48) (.s 47)}]) c_Sp_23
def c_Sp_19:VC:=
 .blk 0 (.loop [0,47,48] c_Sp_21)
def c_Sp_39:VC:=
 .r 11 [M 83 0,
  {op:=.call 84 76 [(.s 83)]}]
def c_Sp_16:VC:=
 .seq (.seq (.r 4 [M 43 0,
  {op:=.nck 44 (.s 43)},
  oF 45 44 2,
  oL 46 45 1,
  {op:=.len 47 (.s 46)},
  oN 48 0]) c_Sp_19) (.kp [0] c_Sp_39)
def c_Sp_10:VC:=
 .seq (.seq (.d 3 [(0,M 27 0),
  (1,{op:=.nckv 28 (.s 27)}),
  (2,oG 29 28 11),
  (3,oV 30 29 1),
  (4,{op:=.bin 31 .lss (.s 30) (.k (.int .i64 0))}),
  (5,M 32 31),
  (6,⟨none,[],some (32,false),.mv 33 (.s 0)⟩),
  (7,⟨none,[],some (32,false),.nckv 34 (.s 33)⟩),
  (8,⟨none,[],some (32,false),.fadv 35 (.s 34) 11⟩),
  (9,⟨none,[],some (32,false),.ldv 36 (.s 35) 1 false⟩),
  (10,⟨none,[],some (32,false),.mv 37 (.s 0)⟩),
  (11,⟨none,[],some (32,false),.nckv 38 (.s 37)⟩),
  (12,⟨none,[],some (32,false),.fadv 39 (.s 38) 5⟩),
  (13,⟨none,[],some (32,false),.ldv 40 (.s 39) 1 false⟩),
  (14,⟨none,[],some (32,false),.bin 41 .gtr (.s 36) (.s 40)⟩),
  (15,{op:=.pick 42 (.s 32) (.k (.bool true)) (.s 41)})]) c_Sp_13) c_Sp_16
def c_Sp_8:VC:=
 .seq (.d 2 [(0,M 15 0),
  (1,{op:=.nckv 16 (.s 15)}),
  (2,oG 17 16 5),
  (3,oV 18 17 1),
  (4,M 19 0),
  (5,{op:=.nckv 20 (.s 19)}),
  (6,oG 21 20 6),
  (7,oV 22 21 1),
  (8,{op:=.bin 23 .mul (.k (.int .i64 10)) (.s 22)}),
  (9,{op:=.bin 24 .add (.s 18) (.s 23)}),
  (10,{op:=.nckv 25 (.s 15)}),
  (11,oG 26 25 5),
  (12,oS 26 24 1)]) c_Sp_10
def c_Sp_2:VC:=
 .seq (.seq (.r 1 [M 10 0,
  {op:=.nck 11 (.s 10)},
  oF 12 11 7,
  oL 13 12 1,
  {op:=.un 14 .not (.s 13)}]) c_Sp_5) c_Sp_8
def c_Sp_0:VC:=
 .seq (.r 0 [M 3 0,
  {op:=.nck 4 (.s 3)},
  oF 5 4 4,
  oL 6 5 1,
  {op:=.bin 7 .add (.s 6) (.k (.int .i64 1))},
  {op:=.nck 8 (.s 3)},
  oF 9 8 4,
  oS 9 7 1]) c_Sp_2
def vf_Sp:VF:={ pm:=[.mb [.ro q3,.ro q5,.own [.sc],.sc,.sc,.sc,.sc,.sc,.sc,.own [.sc],.sc,.sc,.own [.sc],.own q4]],rm:=[],nslots:=85,res:=[],rc:=[],code:=.kp [0] c_Sp_0 }
def c_Sb_5:VC:=
 .ite (.s 29) (.seq (.r 2 [{op:=.bld 30 [.k (.int .i64 0),.o q4,.k (.int .i64 0),.k (.int .i64 0)] [(0,1,(.k (.int .i64 1)))]},
  oS 6 30 4]) (.ret)) (.skip)
def c_Sb_27:VC:=
 .ite (.s 39) (.seq (.r 7 [{op:=.bld 40 [.k (.int .i64 0),.o q4,.k (.int .i64 0),.k (.int .i64 0)] [(0,1,(.k (.int .i64 1)))]},
  oS 6 40 4]) (.ret)) (.skip)
def c_Sb_25:VC:=
 .seq (.r 6 [{op:=.ld 37 (.s 8) 2 true},
  {op:=.call 38 74 [(.s 37)]},
  {op:=.un 39 .not (.s 38)}]) c_Sb_27
def c_Sb_32:VC:=
 .r 8 [{op:=.bin 41 .add (.s 33) (.k (.int .i64 1))},
  M 33 41]
def c_Sb_21:VC:=
 .seq (.blk 1 (.seq (.r 5 [oX 35 31 33 2,
  {op:=.ld 36 (.s 35) 2 true},
  {op:=.alloc 8 [.k (.int .i64 0),.k (.int .i64 0)]},
  oS 8 36 2]) c_Sb_25)) c_Sb_32
def c_Sb_17:VC:=
 .seq (.ite (.s 34) (.skip) (.exit 0)) c_Sb_21
def c_Sb_15:VC:=
 .seq (.r 4 [{op:=.bin 34 .lss (.s 33) (.s 32)}]) c_Sb_17
def c_Sb_13:VC:=
 .blk 0 (.loop [1,2,3,6,31,32,33] c_Sb_15)
def c_Sb_50:VC:=
 .d 13 [(0,M 60 9),
  (1,M 61 9),
  (2,{op:=.nckv 62 (.s 61)}),
  (3,oG 63 62 2),
  (4,oV 64 63 1),
  (5,{op:=.ldv 65 (.s 3) 2 true}),
  (6,M 66 10),
  (7,{op:=.call 67 75 [(.s 65),(.s 66)]}),
  (8,{op:=.lits 68 [.sc] [(.s 67)]}),
  (9,{op:=.app 69 (.s 64) (.s 68) [.sc] 17592186044416}),
  (10,{op:=.nckv 70 (.s 60)}),
  (11,oG 71 70 2),
  (12,oS 71 69 1)]
def c_Sb_51:VC:=
 .r 14 [{op:=.bin 72 .add (.s 57) (.k (.int .i64 1))},
  M 57 72]
def c_Sb_46:VC:=
 .seq (.blk 3 (.seq (.r 12 [M 59 57,
  M 10 59]) c_Sb_50)) c_Sb_51
def c_Sb_42:VC:=
 .seq (.ite (.s 58) (.skip) (.exit 2)) c_Sb_46
def c_Sb_40:VC:=
 .seq (.r 11 [{op:=.bin 58 .lss (.s 57) (.s 56)}]) c_Sb_42
def c_Sb_38:VC:=
 .blk 2 (.pre [.nlv 9 2 [.sc]] (.loop [2,3,6,9,56,57] c_Sb_40))
def c_Sb_95:VC:=
 .ite (.s 86) (.skip) (.exit 7)
def c_Sb_101:VC:=
 .r 22 [M 87 13,
  {op:=.bin 88 .add (.s 87) (.k (.int .i64 1))},
  M 13 88]
def c_Sb_98:VC:=
 .seq (.blk 8 (.r 23 [M 89 9,
  {op:=.call 90 78 [(.s 89)]}])) c_Sb_101
def c_Sb_92:VC:=
 .seq (.seq (.r 21 [M 83 13,
  oF 84 12 1,
  oL 85 84 1,
  {op:=.bin 86 .lss (.s 83) (.s 85)}]) c_Sb_95) c_Sb_98
def c_Sb_90:VC:=
 .blk 7 (.loop [6,9,12,13,75,76,77] c_Sb_92)
def c_Sb_86:VC:=
 .ite (.s 108) (.r 31 [M 110 9,
  oF 111 12 1,
  oL 112 111 1,
  {op:=.call 113 77 [(.s 110),(.s 112)]}]) (.seq (.r 20 [oN 13 0]) c_Sb_90)
def c_Sb_82:VC:=
 .ite (.s 101) (.r 29 [M 103 9,
  oF 104 12 1,
  oL 105 104 1,
  {op:=.nck 106 (.s 103)},
  oF 107 106 6,
  oS 107 105 1]) (.seq (.r 30 [{op:=.bin 109 .eql (.s 82) (.k (.int .i64 3))},
  M 108 109]) c_Sb_86)
def c_Sb_78:VC:=
 .ite (.s 96) (.r 27 [M 98 9,
  {op:=.nck 99 (.s 98)},
  oF 100 99 7,
  {op:=.st (.s 100) (.k (.bool false)) 1}]) (.seq (.r 28 [{op:=.bin 102 .eql (.s 82) (.k (.int .i64 5))},
  M 101 102]) c_Sb_82)
def c_Sb_74:VC:=
 .ite (.s 91) (.r 25 [M 93 9,
  {op:=.nck 94 (.s 93)},
  oF 95 94 7,
  {op:=.st (.s 95) (.k (.bool true)) 1}]) (.seq (.r 26 [{op:=.bin 97 .eql (.s 82) (.k (.int .i64 2))},
  M 96 97]) c_Sb_78)
def c_Sb_71:VC:=
 .blk 6 (.seq (.r 24 [{op:=.bin 92 .eql (.s 82) (.k (.int .i64 1))},
  M 91 92]) c_Sb_74)
def c_Sb_69:VC:=
 .seq (.r 19 [oF 81 12 0,
  oL 82 81 1]) c_Sb_71
def c_Sb_102:VC:=
 .r 32 [{op:=.bin 114 .add (.s 77) (.k (.int .i64 1))},
  M 77 114]
def c_Sb_65:VC:=
 .seq (.blk 5 (.seq (.r 18 [oX 79 75 77 2,
  {op:=.ld 80 (.s 79) 2 true},
  {op:=.alloc 12 [.k (.int .i64 0),.k (.int .i64 0)]},
  oS 12 80 2]) c_Sb_69)) (.kp [6,9,75,76,77] c_Sb_102)
def c_Sb_61:VC:=
 .seq (.ite (.s 78) (.skip) (.exit 4)) c_Sb_65
def c_Sb_59:VC:=
 .seq (.r 17 [{op:=.bin 78 .lss (.s 77) (.s 76)}]) c_Sb_61
def c_Sb_57:VC:=
 .blk 4 (.loop [6,9,75,76,77] c_Sb_59)
def c_Sb_103:VC:=
 .seq (.d 33 [(0,M 115 9),
  (1,{op:=.nckv 116 (.s 115)}),
  (2,oG 117 116 13),
  (3,oV 118 117 1),
  (4,M 119 9),
  (5,{op:=.nckv 120 (.s 119)}),
  (6,oG 121 120 4),
  (7,oV 122 121 1),
  (8,M 123 9),
  (9,{op:=.nckv 124 (.s 123)}),
  (10,oG 125 124 5),
  (11,oV 126 125 1),
  (12,{op:=.bin 127 .quo (.s 126) (.k (.int .i64 1000))}),
  (13,{op:=.bld 128 [.k (.int .i64 0),.k (.slice none 0 0),.k (.int .i64 0),.k (.int .i64 0)] [(1,1,(.s 118)),(2,1,(.s 122)),(3,1,(.s 127))]}),
  (14,oS 6 128 4)]) (.ret)
def c_Sb_54:VC:=
 .seq (.seq (.r 16 [M 75 2,
  {op:=.len 76 (.s 75)},
  oN 77 0]) c_Sb_57) (.kp [6,9] c_Sb_103)
def c_Sb_52:VC:=
 .seq (.r 15 [M 73 9,
  {op:=.call 74 76 [(.s 73)]}]) c_Sb_54
def c_Sb_35:VC:=
 .seq (.seq (.r 10 [oF 54 3 1,
  oL 55 54 1,
  {op:=.len 56 (.s 55)},
  oN 57 0]) c_Sb_38) (.kp [2,6,9] c_Sb_52)
def c_Sb_33:VC:=
 .seq (.pre [.pado 2] (.d 9 [(0,{op:=.ldk 42 (.s 3) 0 2 true}),
  (1,M 43 1),
  (2,{op:=.fadk 44 (.s 3) 0 1}),
  (3,{op:=.ldk 45 (.s 44) 0 1 false}),
  (4,{op:=.lenr 46 (.s 45)}),
  (6,{op:=.fadk 48 (.s 3) 0 0}),
  (7,{op:=.ldk 49 (.s 48) 0 1 false}),
  (8,{op:=.lenr 50 (.s 49)}),
  (5,{op:=.mkk 47 (.s 46) [.sc] [(.bool false)] 140737488355328 1}),
  (9,{op:=.mkk 51 (.s 50) [.sc] [(.bool false)] 140737488355328 2}),
  (10,{op:=.bld 52 [.k (.slice none 0 0),.k (.slice none 0 0),.k (.slice none 0 0),.k (.int .i64 0),.k (.int .i64 0),.k (.int .i64 0),.k (.int .i64 0),.k (.bool false),.k (.int .i64 0),.k (.slice none 0 0),.k (.int .i64 0),.k (.int .i64 0),.k (.slice none 0 0),.k (.slice none 0 0)] [(0,2,(.s 42)),(3,1,(.s 43)),(6,1,(.k (.int .i64 100))),(9,1,(.s 47)),(12,1,(.s 51))]}),
  (11,{op:=.box 53 (.s 52)}),
  (12,M 9 53)])) c_Sb_35
def c_Sb_10:VC:=
 .seq (.seq (.r 3 [M 31 2,
  {op:=.len 32 (.s 31)},
  oN 33 0]) c_Sb_13) (.kp [1,2,3,6] c_Sb_33)
def c_Sb_2:VC:=
 .seq (.seq (.r 1 [{op:=.ld 14 (.s 3) 2 true},
  {op:=.call 15 48 [(.s 14)]},
  {op:=.un 16 .not (.s 15)},
  M 17 16,
  ⟨none,[],some (17,false),.mv 18 (.s 1)⟩,
  ⟨none,[],some (17,false),.bin 19 .lss (.s 18) (.k (.int .i64 1))⟩,
  {op:=.pick 20 (.s 17) (.k (.bool true)) (.s 19)},
  M 21 20,
  ⟨none,[],some (21,false),.mv 22 (.s 1)⟩,
  ⟨none,[],some (21,false),.bin 23 .gtr (.s 22) (.k (.int .i64 1000))⟩,
  {op:=.pick 24 (.s 21) (.k (.bool true)) (.s 23)},
  M 25 24,
  ⟨none,[],some (25,false),.mv 26 (.s 2)⟩,
  ⟨none,[],some (25,false),.len 27 (.s 26)⟩,
  ⟨none,[],some (25,false),.bin 28 .gtr (.s 27) (.k (.int .i64 500))⟩,
  {op:=.pick 29 (.s 25) (.k (.bool true)) (.s 28)}]) (.kp [1,2,3,6,29] c_Sb_5)) c_Sb_10
def c_Sb_0:VC:=
 .seq (.r 0 [{op:=.box 3 (.s 0)},
  {op:=.alloc 6 [.k (.int .i64 0),.o q4,.k (.int .i64 0),.k (.int .i64 0)]}]) c_Sb_2
def vf_Sb:VF:={ pm:=[.ro [.ro q3,.ro q5],.ro [.sc],.ro [.ro [.sc,.sc]]],rm:=[.v [.sc,.own q4,.sc,.sc]],nslots:=129,res:=[6],rc:=[some (4,true)],code:=.kp [0,1,2] c_Sb_0 }
def c_Il_5:VC:=
 .ite (.s 27) (.seq (.r 2 [oK 2 false]) (.ret)) (.skip)
def c_Il_27:VC:=
 .ite (.s 45) (.seq (.r 7 [oK 2 false]) (.ret)) (.skip)
def c_Il_25:VC:=
 .seq (.r 6 [oF 34 1 2,
  oL 35 34 1,
  M 36 3,
  {op:=.idx 37 (.s 35) (.s 36)},
  {op:=.bin 38 .lss (.s 37) (.k (.int .u8 32))},
  M 39 38,
  ⟨none,[],some (39,false),.fadr 40 (.s 1) 2⟩,
  ⟨none,[],some (39,false),.ld 41 (.s 40) 1 false⟩,
  ⟨none,[],some (39,false),.mv 42 (.s 3)⟩,
  ⟨none,[],some (39,false),.idx 43 (.s 41) (.s 42)⟩,
  ⟨none,[],some (39,false),.bin 44 .gtr (.s 43) (.k (.int .u8 126))⟩,
  {op:=.pick 45 (.s 39) (.k (.bool true)) (.s 44)}]) c_Il_27
def c_Il_32:VC:=
 .r 8 [{op:=.bin 46 .add (.s 31) (.k (.int .i64 1))},
  M 31 46]
def c_Il_21:VC:=
 .seq (.blk 1 (.seq (.r 5 [M 33 31,
  M 3 33]) c_Il_25)) c_Il_32
def c_Il_17:VC:=
 .seq (.ite (.s 32) (.skip) (.exit 0)) c_Il_21
def c_Il_15:VC:=
 .seq (.r 4 [{op:=.bin 32 .lss (.s 31) (.s 30)}]) c_Il_17
def c_Il_13:VC:=
 .blk 0 (.loop [1,30,31] c_Il_15)
def c_Il_33:VC:=
 .seq (.r 9 [oK 2 true]) (.ret)
def c_Il_10:VC:=
 .seq (.seq (.r 3 [oF 28 1 2,
  oL 29 28 1,
  {op:=.slen 30 (.s 29)},
  oN 31 0]) c_Il_13) (.kp [] c_Il_33)
def c_Il_2:VC:=
 .seq (.seq (.r 1 [oF 4 1 0,
  oL 5 4 1,
  {op:=.bin 6 .lss (.s 5) (.k (.int .i64 1))},
  M 7 6,
  ⟨none,[],some (7,false),.fadr 8 (.s 1) 0⟩,
  ⟨none,[],some (7,false),.ld 9 (.s 8) 1 false⟩,
  ⟨none,[],some (7,false),.bin 10 .gtr (.s 9) (.k (.int .i64 6))⟩,
  {op:=.pick 11 (.s 7) (.k (.bool true)) (.s 10)},
  M 12 11,
  ⟨none,[],some (12,false),.fadr 13 (.s 1) 1⟩,
  ⟨none,[],some (12,false),.ld 14 (.s 13) 1 false⟩,
  ⟨none,[],some (12,false),.bin 15 .lss (.s 14) (.k (.int .i64 1))⟩,
  {op:=.pick 16 (.s 12) (.k (.bool true)) (.s 15)},
  M 17 16,
  ⟨none,[],some (17,false),.fadr 18 (.s 1) 1⟩,
  ⟨none,[],some (17,false),.ld 19 (.s 18) 1 false⟩,
  ⟨none,[],some (17,false),.bin 20 .gtr (.s 19) (.k (.int .i64 1000000))⟩,
  {op:=.pick 21 (.s 17) (.k (.bool true)) (.s 20)},
  M 22 21,
  ⟨none,[],some (22,false),.fadr 23 (.s 1) 2⟩,
  ⟨none,[],some (22,false),.ld 24 (.s 23) 1 false⟩,
  ⟨none,[],some (22,false),.slen 25 (.s 24)⟩,
  ⟨none,[],some (22,false),.bin 26 .gtr (.s 25) (.k (.int .i64 40))⟩,
  {op:=.pick 27 (.s 22) (.k (.bool true)) (.s 26)}]) c_Il_5) c_Il_10
def c_Il_0:VC:=
 .seq (.r 0 [{op:=.box 1 (.s 0)},
  oK 2 false]) c_Il_2
def vf_Il:VF:={ pm:=[.ro q3],rm:=[.v [.sc]],nslots:=47,res:=[2],rc:=[],code:=.kp [0] c_Il_0 }
def c_Ik_2:VC:=
 .seq (.r 1 [M 3 0,
  {op:=.bin 4 .geq (.s 3) (.k (.int .i64 0))},
  M 5 4,
  ⟨none,[],some (5,true),.mv 6 (.s 0)⟩,
  ⟨none,[],some (5,true),.bin 7 .leq (.s 6) (.k (.int .i64 1000000000))⟩,
  {op:=.pick 8 (.s 5) (.s 7) (.k (.bool false))},
  M 2 8]) (.ret)
def c_Ik_0:VC:=
 .seq (.r 0 [oK 2 false]) c_Ik_2
def vf_Ik:VF:={ pm:=[.ro [.sc]],rm:=[.v [.sc]],nslots:=9,res:=[2],rc:=[],code:=.kp [0] c_Ik_0 }
def c_Ij_5:VC:=
 .ite (.s 25) (.seq (.r 2 [oK 2 false]) (.ret)) (.skip)
def c_Ij_27:VC:=
 .ite (.s 35) (.seq (.r 7 [oK 2 false]) (.ret)) (.skip)
def c_Ij_25:VC:=
 .seq (.r 6 [{op:=.ld 33 (.s 4) 3 true},
  {op:=.call 34 131 [(.s 33)]},
  {op:=.un 35 .not (.s 34)}]) c_Ij_27
def c_Ij_32:VC:=
 .r 8 [{op:=.bin 36 .add (.s 29) (.k (.int .i64 1))},
  M 29 36]
def c_Ij_21:VC:=
 .seq (.blk 1 (.seq (.r 5 [oX 31 27 29 3,
  {op:=.ld 32 (.s 31) 3 true},
  {op:=.alloc 4 [.k (.int .i64 0),.k (.int .i64 0),.k (.string (ByteArray.mk #[]))]},
  oS 4 32 3]) c_Ij_25)) c_Ij_32
def c_Ij_17:VC:=
 .seq (.ite (.s 30) (.skip) (.exit 0)) c_Ij_21
def c_Ij_15:VC:=
 .seq (.r 4 [{op:=.bin 30 .lss (.s 29) (.s 28)}]) c_Ij_17
def c_Ij_13:VC:=
 .blk 0 (.loop [1,27,28,29] c_Ij_15)
def c_Ij_52:VC:=
 .r 14 [M 46 6,
  M 47 7,
  oX 48 46 47 1,
  {op:=.st (.s 48) (.k (.int .i64 (-1))) 1}]
def c_Ij_53:VC:=
 .r 15 [{op:=.bin 49 .add (.s 43) (.k (.int .i64 1))},
  M 43 49]
def c_Ij_48:VC:=
 .seq (.blk 3 (.seq (.r 13 [M 45 43,
  M 7 45]) c_Ij_52)) c_Ij_53
def c_Ij_44:VC:=
 .seq (.ite (.s 44) (.skip) (.exit 2)) c_Ij_48
def c_Ij_42:VC:=
 .seq (.r 12 [{op:=.bin 44 .lss (.s 43) (.s 42)}]) c_Ij_44
def c_Ij_40:VC:=
 .blk 2 (.loop [1,5,6,42,43] c_Ij_42)
def c_Ij_72:VC:=
 .ite (.s 102) (.seq (.r 20 [oK 2 false]) (.ret)) (.skip)
def c_Ij_79:VC:=
 .r 22 [M 109 5,
  oF 110 9 4,
  oL 111 110 1,
  {op:=.len 112 (.s 111)},
  {op:=.bin 113 .add (.s 109) (.s 112)},
  M 5 113]
def c_Ij_77:VC:=
 .seq (.r 21 [M 103 6,
  oF 104 9 0,
  oL 105 104 1,
  oF 106 9 1,
  oL 107 106 1,
  oX 108 103 105 1,
  oS 108 107 1]) c_Ij_79
def c_Ij_69:VC:=
 .seq (.seq (.d 19 [(0,oG 57 9 0),
  (1,oV 58 57 1),
  (2,{op:=.bin 59 .lss (.s 58) (.k (.int .i64 0))}),
  (3,M 60 59),
  (4,⟨none,[],some (60,false),.fadv 61 (.s 9) 0⟩),
  (5,⟨none,[],some (60,false),.ldv 62 (.s 61) 1 false⟩),
  (6,⟨none,[],some (60,false),.fadv 63 (.s 1) 0⟩),
  (7,⟨none,[],some (60,false),.ldv 64 (.s 63) 1 false⟩),
  (8,⟨none,[],some (60,false),.len 65 (.s 64)⟩),
  (9,⟨none,[],some (60,false),.bin 66 .geq (.s 62) (.s 65)⟩),
  (10,{op:=.pick 67 (.s 60) (.k (.bool true)) (.s 66)}),
  (11,M 68 67),
  (12,⟨none,[],some (68,false),.fadv 69 (.s 9) 1⟩),
  (13,⟨none,[],some (68,false),.ldv 70 (.s 69) 1 false⟩),
  (14,⟨none,[],some (68,false),.call 71 133 [(.s 70)]⟩),
  (15,⟨none,[],some (68,false),.un 72 .not (.s 71)⟩),
  (16,{op:=.pick 73 (.s 68) (.k (.bool true)) (.s 72)}),
  (17,M 74 73),
  (18,⟨none,[],some (74,false),.fadv 75 (.s 9) 2⟩),
  (19,⟨none,[],some (74,false),.ldv 76 (.s 75) 1 false⟩),
  (20,⟨none,[],some (74,false),.call 77 133 [(.s 76)]⟩),
  (21,⟨none,[],some (74,false),.un 78 .not (.s 77)⟩),
  (22,{op:=.pick 79 (.s 74) (.k (.bool true)) (.s 78)}),
  (23,M 80 79),
  (24,⟨none,[],some (80,false),.fadv 81 (.s 9) 1⟩),
  (25,⟨none,[],some (80,false),.ldv 82 (.s 81) 1 false⟩),
  (26,⟨none,[],some (80,false),.mv 83 (.s 6)⟩),
  (27,⟨none,[],some (80,false),.fadv 84 (.s 9) 0⟩),
  (28,⟨none,[],some (80,false),.ldv 85 (.s 84) 1 false⟩),
  (29,⟨none,[],some (80,false),.iadr 86 (.s 83) (.s 85) 1⟩),
  (30,⟨none,[],some (80,false),.ld 87 (.s 86) 1 false⟩),
  (31,⟨none,[],some (80,false),.bin 88 .lss (.s 82) (.s 87)⟩),
  (32,{op:=.pick 89 (.s 80) (.k (.bool true)) (.s 88)}),
  (33,M 90 89),
  (34,⟨none,[],some (90,false),.mv 91 (.s 6)⟩),
  (35,⟨none,[],some (90,false),.fadv 92 (.s 9) 0⟩),
  (36,⟨none,[],some (90,false),.ldv 93 (.s 92) 1 false⟩),
  (37,⟨none,[],some (90,false),.iadr 94 (.s 91) (.s 93) 1⟩),
  (38,⟨none,[],some (90,false),.ld 95 (.s 94) 1 false⟩),
  (39,⟨none,[],some (90,false),.bin 96 .lss (.s 95) (.k (.int .i64 0))⟩),
  (40,⟨none,[],some (90,false),.mv 97 (.s 96)⟩),
  (41,⟨none,[],some (97,true),.fadv 98 (.s 9) 3⟩),
  (42,⟨none,[],some (97,true),.ldv 99 (.s 98) 1 false⟩),
  (43,⟨none,[],some (97,true),.un 100 .not (.s 99)⟩),
  (44,⟨none,[],some (90,false),.pick 101 (.s 97) (.s 100) (.k (.bool false))⟩),
  (45,{op:=.pick 102 (.s 90) (.k (.bool true)) (.s 101)})]) c_Ij_72) (.kp [1,5,6,9,51,52,53] c_Ij_77)
def c_Ij_80:VC:=
 .r 23 [{op:=.bin 114 .add (.s 53) (.k (.int .i64 1))},
  M 53 114]
def c_Ij_65:VC:=
 .seq (.blk 5 (.seq (.r 18 [oX 55 51 53 5,
  {op:=.ld 56 (.s 55) 5 true},
  {op:=.alloc 9 [.k (.int .i64 0),.k (.int .i64 0),.k (.int .i64 0),.k (.bool false),.o [.sc]]},
  oS 9 56 5]) c_Ij_69)) c_Ij_80
def c_Ij_61:VC:=
 .seq (.ite (.s 54) (.skip) (.exit 4)) c_Ij_65
def c_Ij_59:VC:=
 .seq (.r 17 [{op:=.bin 54 .lss (.s 53) (.s 52)}]) c_Ij_61
def c_Ij_57:VC:=
 .blk 4 (.loop [1,5,6,51,52,53] c_Ij_59)
def c_Ij_81:VC:=
 .seq (.r 24 [M 115 5,
  {op:=.bin 116 .leq (.s 115) (.k (.int .i64 60000))},
  M 2 116]) (.ret)
def c_Ij_54:VC:=
 .seq (.seq (.r 16 [oF 50 1 1,
  oL 51 50 1,
  {op:=.len 52 (.s 51)},
  oN 53 0]) c_Ij_57) (.kp [5] c_Ij_81)
def c_Ij_37:VC:=
 .seq (.seq (.r 11 [M 41 6,
  {op:=.len 42 (.s 41)},
  oN 43 0]) c_Ij_40) (.kp [1,5,6] c_Ij_54)
def c_Ij_35:VC:=
 .seq (.r 10 [oF 37 1 0,
  oL 38 37 1,
  {op:=.len 39 (.s 38)},
  {op:=.mk 40 (.s 39) [.sc] [(.int .i64 0)] 17592186044416},
  M 6 40]) c_Ij_37
def c_Ij_33:VC:=
 .seq (.r 9 [oN 5 0]) c_Ij_35
def c_Ij_10:VC:=
 .seq (.seq (.r 3 [oF 26 1 0,
  oL 27 26 1,
  {op:=.len 28 (.s 27)},
  oN 29 0]) c_Ij_13) (.kp [1] c_Ij_33)
def c_Ij_2:VC:=
 .seq (.seq (.r 1 [oF 10 1 0,
  oL 11 10 1,
  {op:=.len 12 (.s 11)},
  {op:=.bin 13 .lss (.s 12) (.k (.int .i64 1))},
  M 14 13,
  ⟨none,[],some (14,false),.fadr 15 (.s 1) 0⟩,
  ⟨none,[],some (14,false),.ld 16 (.s 15) 1 false⟩,
  ⟨none,[],some (14,false),.len 17 (.s 16)⟩,
  ⟨none,[],some (14,false),.bin 18 .gtr (.s 17) (.k (.int .i64 8))⟩,
  {op:=.pick 19 (.s 14) (.k (.bool true)) (.s 18)},
  M 20 19,
  ⟨none,[],some (20,false),.fadr 21 (.s 1) 1⟩,
  ⟨none,[],some (20,false),.ld 22 (.s 21) 1 false⟩,
  ⟨none,[],some (20,false),.len 23 (.s 22)⟩,
  ⟨none,[],some (20,false),.bin 24 .gtr (.s 23) (.k (.int .i64 400))⟩,
  {op:=.pick 25 (.s 20) (.k (.bool true)) (.s 24)}]) c_Ij_5) c_Ij_10
def c_Ij_0:VC:=
 .seq (.r 0 [{op:=.box 1 (.s 0)},
  oK 2 false]) c_Ij_2
def vf_Ij:VF:={ pm:=[.ro [.ro q3,.ro q5]],rm:=[.v [.sc]],nslots:=117,res:=[2],rc:=[],code:=.kp [0] c_Ij_0 }
def c_If_9:VC:=
 .ite (.s 43) (.seq (.r 4 [M 44 9,
  M 45 10,
  {op:=.bin 46 .lss (.s 44) (.s 45)},
  M 6 46]) (.ret)) (.skip)
def c_If_17:VC:=
 .ite (.s 51) (.seq (.r 6 [oF 52 7 0,
  oL 53 52 1,
  oF 54 8 0,
  oL 55 54 1,
  {op:=.bin 56 .lss (.s 53) (.s 55)},
  M 6 56]) (.ret)) (.skip)
def c_If_22:VC:=
 .seq (.r 7 [M 57 1,
  M 58 2,
  {op:=.bin 59 .lss (.s 57) (.s 58)},
  M 6 59]) (.ret)
def c_If_14:VC:=
 .seq (.seq (.r 5 [oF 47 7 0,
  oL 48 47 1,
  oF 49 8 0,
  oL 50 49 1,
  {op:=.bin 51 .neq (.s 48) (.s 50)}]) c_If_17) c_If_22
def c_If_6:VC:=
 .seq (.seq (.r 3 [M 41 9,
  M 42 10,
  {op:=.bin 43 .neq (.s 41) (.s 42)}]) c_If_9) c_If_14
def c_If_4:VC:=
 .seq (.d 2 [(0,oG 21 7 1),
  (1,oV 22 21 1),
  (2,oG 23 3 0),
  (3,oV 24 23 1),
  (4,oG 25 8 0),
  (5,oV 26 25 1),
  (6,oX 27 24 26 3),
  (7,oG 28 27 1),
  (8,oV 29 28 1),
  (9,{op:=.bin 30 .mul (.s 22) (.s 29)}),
  (10,oG 31 8 1),
  (11,oV 32 31 1),
  (12,oG 33 3 0),
  (13,oV 34 33 1),
  (14,oG 35 7 0),
  (15,oV 36 35 1),
  (16,oX 37 34 36 3),
  (17,oG 38 37 1),
  (18,oV 39 38 1),
  (19,{op:=.bin 40 .mul (.s 32) (.s 39)}),
  (20,M 9 30),
  (21,M 10 40)]) c_If_6
def c_If_2:VC:=
 .seq (.pre [.pad 2] (.d 1 [(0,{op:=.fadk 11 (.s 3) 0 1}),
  (1,{op:=.ldk 12 (.s 11) 0 1 false}),
  (2,M 13 1),
  (3,oX 14 12 13 5),
  (4,{op:=.ldr 15 (.s 14) 5 true}),
  (5,{op:=.fadk 16 (.s 3) 0 1}),
  (6,{op:=.ldk 17 (.s 16) 0 1 false}),
  (7,M 18 2),
  (8,oX 19 17 18 5),
  (9,{op:=.ldr 20 (.s 19) 5 true}),
  (10,{op:=.alk 7 [.k (.int .i64 0),.k (.int .i64 0),.k (.int .i64 0),.k (.bool false),.k (.slice none 0 0)] 1}),
  (11,{op:=.alk 8 [.k (.int .i64 0),.k (.int .i64 0),.k (.int .i64 0),.k (.bool false),.k (.slice none 0 0)] 2}),
  (12,{op:=.stk (.s 7) (.s 15) 1 5}),
  (13,{op:=.stk (.s 8) (.s 20) 2 5})])) c_If_4
def c_If_0:VC:=
 .seq (.r 0 [{op:=.box 3 (.s 0)},
  oK 6 false]) c_If_2
def vf_If:VF:={ pm:=[.ro [.ro q3,.ro q5],.ro [.sc],.ro [.sc]],rm:=[.v [.sc]],nslots:=60,res:=[6],rc:=[],code:=.kp [0,1,2] c_If_0 }
def c_Ia_5:VC:=
 .ite (.s 6) (.seq (.r 2 [oK 2 false]) (.ret)) (.skip)
def c_Ia_18:VC:=
 .ite (.s 11) (.skip) (.exit 0)
def c_Ia_25:VC:=
 .ite (.s 18) (.seq (.r 7 [oK 2 false]) (.ret)) (.skip)
def c_Ia_30:VC:=
 .r 5 [M 12 3,
  {op:=.bin 13 .add (.s 12) (.k (.int .i64 1))},
  M 3 13]
def c_Ia_21:VC:=
 .seq (.blk 1 (.seq (.r 6 [{op:=.ld 14 (.s 1) 2 true},
  M 15 3,
  M 16 3,
  {op:=.bin 17 .sub (.s 16) (.k (.int .i64 1))},
  {op:=.call 18 113 [(.s 14),(.s 15),(.s 17)]}]) c_Ia_25)) c_Ia_30
def c_Ia_15:VC:=
 .seq (.seq (.r 4 [M 7 3,
  oF 8 1 1,
  oL 9 8 1,
  {op:=.len 10 (.s 9)},
  {op:=.bin 11 .lss (.s 7) (.s 10)}]) c_Ia_18) c_Ia_21
def c_Ia_13:VC:=
 .blk 0 (.loop [1,3] c_Ia_15)
def c_Ia_31:VC:=
 .seq (.r 8 [oK 2 true]) (.ret)
def c_Ia_10:VC:=
 .seq (.seq (.r 3 [oN 3 1]) c_Ia_13) (.kp [] c_Ia_31)
def c_Ia_2:VC:=
 .seq (.seq (.r 1 [{op:=.ld 4 (.s 1) 2 true},
  {op:=.call 5 112 [(.s 4)]},
  {op:=.un 6 .not (.s 5)}]) c_Ia_5) c_Ia_10
def c_Ia_0:VC:=
 .seq (.r 0 [{op:=.box 1 (.s 0)},
  oK 2 false]) c_Ia_2
def vf_Ia:VF:={ pm:=[.ro [.ro q3,.ro q5]],rm:=[.v [.sc]],nslots:=19,res:=[2],rc:=[],code:=.kp [0] c_Ia_0 }
def c_Id_2:VC:=
 .seq (.r 1 [oF 6 2 1,
  oL 7 6 1,
  M 8 0,
  {op:=.bin 9 .geq (.s 7) (.s 8)},
  M 10 9,
  ⟨none,[],some (10,true),.fadr 11 (.s 2) 1⟩,
  ⟨none,[],some (10,true),.ld 12 (.s 11) 1 false⟩,
  ⟨none,[],some (10,true),.mv 13 (.s 1)⟩,
  ⟨none,[],some (10,true),.bin 14 .leq (.s 12) (.s 13)⟩,
  {op:=.pick 15 (.s 10) (.s 14) (.k (.bool false))},
  M 5 15]) (.ret)
def c_Id_0:VC:=
 .seq (.r 0 [oK 5 false]) c_Id_2
def vf_Id:VF:={ pm:=[.ro [.sc],.ro [.sc],.mb [.sc,.sc]],rm:=[.v [.sc]],nslots:=16,res:=[5],rc:=[],code:=.kp [0,1,2] c_Id_0 }
def c_Ic_11:VC:=
 .ite (.s 7) (.skip) (.r 4 [{op:=.bin 9 .eql (.s 6) (.k (.int .i64 2))},
  M 7 9])
def c_Ic_32:VC:=
 .ite (.s 21) (.seq (.r 11 [M 23 3,
  {op:=.callc 24 (.s 23) [(.k (.int .i64 25)),(.k (.int .i64 400))]},
  M 2 24]) (.ret)) (.skip)
def c_Ic_26:VC:=
 .ite (.s 17) (.seq (.r 9 [M 19 3,
  {op:=.callc 20 (.s 19) [(.k (.int .i64 0)),(.k (.int .i64 100000))]},
  M 2 20]) (.ret)) (.seq (.r 10 [{op:=.bin 22 .eql (.s 6) (.k (.int .i64 5))},
  M 21 22]) c_Ic_32)
def c_Ic_20:VC:=
 .ite (.s 13) (.seq (.r 7 [M 15 3,
  {op:=.callc 16 (.s 15) [(.k (.int .i64 0)),(.k (.int .i64 359999999))]},
  M 2 16]) (.ret)) (.seq (.r 8 [{op:=.bin 18 .eql (.s 6) (.k (.int .i64 4))},
  M 17 18]) c_Ic_26)
def c_Ic_14:VC:=
 .ite (.s 7) (.seq (.r 5 [oF 10 1 1,
  oL 11 10 1,
  {op:=.bin 12 .eql (.s 11) (.k (.int .i64 0))},
  M 2 12]) (.ret)) (.seq (.r 6 [{op:=.bin 14 .eql (.s 6) (.k (.int .i64 3))},
  M 13 14]) c_Ic_20)
def c_Ic_7:VC:=
 .blk 0 (.seq (.seq (.r 3 [{op:=.bin 8 .eql (.s 6) (.k (.int .i64 1))},
  M 7 8]) c_Ic_11) (.kp [1,3,6,7] c_Ic_14))
def c_Ic_37:VC:=
 .seq (.r 12 [oK 2 false]) (.ret)
def c_Ic_4:VC:=
 .seq (.seq (.r 2 [oF 5 1 0,
  oL 6 5 1]) c_Ic_7) c_Ic_37
def c_Ic_2:VC:=
 .seq (.r 1 [{op:=.mkf 4 122 [(.s 1)]},
  M 3 4]) c_Ic_4
def c_Ic_0:VC:=
 .seq (.r 0 [{op:=.box 1 (.s 0)},
  oK 2 false]) c_Ic_2
def vf_Ic:VF:={ pm:=[.ro [.sc,.sc]],rm:=[.v [.sc]],nslots:=25,res:=[2],rc:=[],code:=.kp [0] c_Ic_0 }
def c_Ie_4:VC:=
 .seq (.d 2 [(0,oG 11 5 1),
  (1,oV 12 11 1),
  (2,{op:=.bin 13 .mul (.s 12) (.k (.int .i64 1000000))}),
  (3,oG 14 2 0),
  (4,oV 15 14 1),
  (5,oG 16 5 0),
  (6,oV 17 16 1),
  (7,oX 18 15 17 3),
  (8,oG 19 18 1),
  (9,oV 20 19 1),
  (10,{op:=.bin 21 .quo (.s 13) (.s 20)}),
  (11,M 4 21)]) (.ret)
def c_Ie_2:VC:=
 .seq (.r 1 [oF 6 2 1,
  oL 7 6 1,
  M 8 1,
  oX 9 7 8 5,
  {op:=.ld 10 (.s 9) 5 true},
  {op:=.alloc 5 [.k (.int .i64 0),.k (.int .i64 0),.k (.int .i64 0),.k (.bool false),.o [.sc]]},
  oS 5 10 5]) c_Ie_4
def c_Ie_0:VC:=
 .seq (.r 0 [{op:=.box 2 (.s 0)},
  oN 4 0]) c_Ie_2
def vf_Ie:VF:={ pm:=[.ro [.ro q3,.ro q5],.ro [.sc]],rm:=[.v [.sc]],nslots:=22,res:=[4],rc:=[],code:=.kp [0,1] c_Ie_0 }
def c_Ig_2:VC:=
 .seq (.d 1 [(0,M 5 0),
  (1,{op:=.nckv 6 (.s 5)}),
  (2,oG 7 6 7),
  (3,oV 8 7 1),
  (4,M 9 0),
  (5,{op:=.nckv 10 (.s 9)}),
  (6,oG 11 10 9),
  (7,oV 12 11 1),
  (8,{op:=.mx 13 (.s 8) (.s 12)}),
  (9,M 14 0),
  (10,{op:=.nckv 15 (.s 14)}),
  (11,oG 16 15 0),
  (12,oG 17 16 1),
  (13,oV 18 17 1),
  (14,M 19 1),
  (15,oX 20 18 19 5),
  (16,oG 21 20 4),
  (17,oV 22 21 1),
  (18,{op:=.len 23 (.s 22)}),
  (19,M 24 0),
  (20,{op:=.nckv 25 (.s 24)}),
  (21,oG 26 25 2),
  (22,oV 27 26 1),
  (23,{op:=.bin 28 .quo (.s 23) (.s 27)}),
  (24,{op:=.bin 29 .add (.s 13) (.s 28)}),
  (25,{op:=.bin 30 .add (.s 29) (.k (.int .i64 1))}),
  (26,M 4 30)]) (.ret)
def c_Ig_0:VC:=
 .seq (.r 0 [oN 4 0]) c_Ig_2
def vf_Ig:VF:={ pm:=[.mb [.ro q3,.ro q5,.sc,.own [.sc],.own [.sc],.sc,.own [.sc],.sc,.sc,.sc,.own q4],.ro [.sc]],rm:=[.v [.sc]],nslots:=31,res:=[4],rc:=[],code:=.kp [0,1] c_Ig_0 }
def c_Ih_38:VC:=
 .ite (.s 83) (.r 10 [M 84 4,
  M 85 5,
  M 86 6,
  oX 87 84 85 1,
  oS 87 86 1]) (.skip)
def c_Ih_36:VC:=
 .seq (.d 9 [(0,oG 41 7 0),
  (1,oV 42 41 1),
  (2,M 43 5),
  (3,{op:=.bin 44 .eql (.s 42) (.s 43)}),
  (4,M 45 44),
  (5,⟨none,[],some (45,true),.fadv 46 (.s 7) 3⟩),
  (6,⟨none,[],some (45,true),.ldv 47 (.s 46) 1 false⟩),
  (7,⟨none,[],some (45,true),.mv 48 (.s 47)⟩),
  (8,⟨none,[],some (48,true),.mv 49 (.s 0)⟩),
  (9,⟨none,[],some (48,true),.nckv 50 (.s 49)⟩),
  (10,⟨none,[],some (48,true),.fadv 51 (.s 50) 3⟩),
  (11,⟨none,[],some (48,true),.ldv 52 (.s 51) 1 false⟩),
  (12,⟨none,[],some (48,true),.mv 53 (.s 6)⟩),
  (13,⟨none,[],some (48,true),.iadr 54 (.s 52) (.s 53) 1⟩),
  (14,⟨none,[],some (48,true),.ld 55 (.s 54) 1 false⟩),
  (15,⟨none,[],some (48,true),.mv 56 (.s 0)⟩),
  (16,⟨none,[],some (48,true),.nckv 57 (.s 56)⟩),
  (17,⟨none,[],some (48,true),.fadv 58 (.s 57) 8⟩),
  (18,⟨none,[],some (48,true),.ldv 59 (.s 58) 1 false⟩),
  (19,⟨none,[],some (48,true),.bin 60 .leq (.s 55) (.s 59)⟩),
  (20,⟨none,[],some (45,true),.pick 61 (.s 48) (.s 60) (.k (.bool false))⟩),
  (21,⟨none,[],some (45,true),.mv 62 (.s 61)⟩),
  (22,⟨none,[],some (62,false),.mv 63 (.s 4)⟩),
  (23,⟨none,[],some (62,false),.mv 64 (.s 5)⟩),
  (24,⟨none,[],some (62,false),.iadr 65 (.s 63) (.s 64) 1⟩),
  (25,⟨none,[],some (62,false),.ld 66 (.s 65) 1 false⟩),
  (26,⟨none,[],some (62,false),.bin 67 .lss (.s 66) (.k (.int .i64 0))⟩),
  (27,⟨none,[],some (62,false),.mv 68 (.s 67)⟩),
  (28,⟨none,[],some (68,true),.mv 69 (.s 0)⟩),
  (29,⟨none,[],some (68,true),.nckv 70 (.s 69)⟩),
  (30,⟨none,[],some (68,true),.fadv 71 (.s 70) 3⟩),
  (31,⟨none,[],some (68,true),.ldv 72 (.s 71) 1 false⟩),
  (32,⟨none,[],some (68,true),.mv 73 (.s 6)⟩),
  (33,⟨none,[],some (68,true),.iadr 74 (.s 72) (.s 73) 1⟩),
  (34,⟨none,[],some (68,true),.ld 75 (.s 74) 1 false⟩),
  (35,⟨none,[],some (68,true),.mv 76 (.s 0)⟩),
  (36,⟨none,[],some (68,true),.nckv 77 (.s 76)⟩),
  (37,⟨none,[],some (68,true),.fadv 78 (.s 77) 8⟩),
  (38,⟨none,[],some (68,true),.ldv 79 (.s 78) 1 false⟩),
  (39,⟨none,[],some (68,true),.bin 80 .gtr (.s 75) (.s 79)⟩),
  (40,⟨none,[],some (62,false),.pick 81 (.s 68) (.s 80) (.k (.bool false))⟩),
  (41,⟨none,[],some (45,true),.pick 82 (.s 62) (.k (.bool true)) (.s 81)⟩),
  (42,{op:=.pick 83 (.s 45) (.s 82) (.k (.bool false))})]) (.kp [0,4,5,6,23,24,34,35,36,83] c_Ih_38)
def c_Ih_41:VC:=
 .r 11 [{op:=.bin 88 .add (.s 36) (.k (.int .i64 1))},
  M 36 88]
def c_Ih_32:VC:=
 .seq (.blk 3 (.seq (.r 8 [M 38 36,
  oX 39 34 36 5,
  {op:=.ld 40 (.s 39) 5 true},
  {op:=.alloc 7 [.k (.int .i64 0),.k (.int .i64 0),.k (.int .i64 0),.k (.bool false),.o [.sc]]},
  M 6 38,
  oS 7 40 5]) c_Ih_36)) c_Ih_41
def c_Ih_28:VC:=
 .seq (.ite (.s 37) (.skip) (.exit 2)) c_Ih_32
def c_Ih_26:VC:=
 .seq (.r 7 [{op:=.bin 37 .lss (.s 36) (.s 35)}]) c_Ih_28
def c_Ih_24:VC:=
 .blk 2 (.loop [0,4,5,23,24,34,35,36] c_Ih_26)
def c_Ih_42:VC:=
 .r 12 [M 89 0,
  {op:=.nck 90 (.s 89)},
  oF 91 90 6,
  oL 92 91 1,
  M 93 5,
  oX 94 92 93 1,
  {op:=.st (.s 94) (.k (.bool false)) 1}]
def c_Ih_21:VC:=
 .seq (.seq (.r 6 [M 30 0,
  {op:=.nck 31 (.s 30)},
  oF 32 31 0,
  oF 33 32 1,
  oL 34 33 1,
  {op:=.len 35 (.s 34)},
  oN 36 0]) c_Ih_24) (.kp [0,4,5,23,24] c_Ih_42)
def c_Ih_19:VC:=
 .seq (.r 5 [M 27 4,
  M 28 5,
  oX 29 27 28 1,
  {op:=.st (.s 29) (.k (.int .i64 (-1))) 1}]) c_Ih_21
def c_Ih_43:VC:=
 .r 13 [{op:=.bin 95 .add (.s 24) (.k (.int .i64 1))},
  M 24 95]
def c_Ih_15:VC:=
 .seq (.blk 1 (.seq (.r 4 [M 26 24,
  M 5 26]) c_Ih_19)) c_Ih_43
def c_Ih_11:VC:=
 .seq (.ite (.s 25) (.skip) (.exit 0)) c_Ih_15
def c_Ih_9:VC:=
 .seq (.r 3 [{op:=.bin 25 .lss (.s 24) (.s 23)}]) c_Ih_11
def c_Ih_7:VC:=
 .blk 0 (.loop [0,4,23,24] c_Ih_9)
def c_Ih_66:VC:=
 .r 20 [M 148 0,
  M 149 0,
  M 150 8,
  {op:=.call 151 123 [(.s 149),(.s 150)]},
  {op:=.nck 152 (.s 148)},
  oF 153 152 9,
  oS 153 151 1]
def c_Ih_63:VC:=
 .ite (.s 141) (.seq (.r 19 [M 142 0,
  {op:=.nck 143 (.s 142)},
  oF 144 143 4,
  oL 145 144 1,
  M 146 8,
  oX 147 145 146 1,
  {op:=.st (.s 147) (.k (.bool true)) 1}]) c_Ih_66) (.skip)
def c_Ih_61:VC:=
 .seq (.d 18 [(0,M 120 0),
  (1,{op:=.nckv 121 (.s 120)}),
  (2,oG 122 121 4),
  (3,oV 123 122 1),
  (4,M 124 8),
  (5,oX 125 123 124 1),
  (6,oL 126 125 1),
  (7,{op:=.un 127 .not (.s 126)}),
  (8,M 128 127),
  (9,⟨none,[],some (128,true),.mv 129 (.s 0)⟩),
  (10,⟨none,[],some (128,true),.nckv 130 (.s 129)⟩),
  (11,⟨none,[],some (128,true),.fadv 131 (.s 130) 3⟩),
  (12,⟨none,[],some (128,true),.ldv 132 (.s 131) 1 false⟩),
  (13,⟨none,[],some (128,true),.mv 133 (.s 8)⟩),
  (14,⟨none,[],some (128,true),.iadr 134 (.s 132) (.s 133) 1⟩),
  (15,⟨none,[],some (128,true),.ld 135 (.s 134) 1 false⟩),
  (16,⟨none,[],some (128,true),.mv 136 (.s 0)⟩),
  (17,⟨none,[],some (128,true),.nckv 137 (.s 136)⟩),
  (18,⟨none,[],some (128,true),.fadv 138 (.s 137) 8⟩),
  (19,⟨none,[],some (128,true),.ldv 139 (.s 138) 1 false⟩),
  (20,⟨none,[],some (128,true),.bin 140 .lss (.s 135) (.s 139)⟩),
  (21,{op:=.pick 141 (.s 128) (.s 140) (.k (.bool false))})]) (.kp [0,4,8,100,101,102,141] c_Ih_63)
def c_Ih_59:VC:=
 .seq (.d 17 [(0,M 107 0),
  (1,{op:=.nckv 108 (.s 107)}),
  (2,oG 109 108 4),
  (3,oV 110 109 1),
  (4,M 111 8),
  (5,M 112 8),
  (6,M 113 4),
  (7,oG 114 9 0),
  (8,oV 115 114 1),
  (9,oX 116 113 115 1),
  (10,oL 117 116 1),
  (11,{op:=.bin 118 .lss (.s 112) (.s 117)}),
  (12,oX 119 110 111 1),
  (13,oS 119 118 1)]) c_Ih_61
def c_Ih_68:VC:=
 .r 21 [{op:=.bin 154 .add (.s 102) (.k (.int .i64 1))},
  M 102 154]
def c_Ih_55:VC:=
 .seq (.blk 5 (.seq (.r 16 [M 104 102,
  oX 105 100 102 5,
  {op:=.ld 106 (.s 105) 5 true},
  {op:=.alloc 9 [.k (.int .i64 0),.k (.int .i64 0),.k (.int .i64 0),.k (.bool false),.o [.sc]]},
  M 8 104,
  oS 9 106 5]) c_Ih_59)) c_Ih_68
def c_Ih_51:VC:=
 .seq (.ite (.s 103) (.skip) (.exit 4)) c_Ih_55
def c_Ih_49:VC:=
 .seq (.r 15 [{op:=.bin 103 .lss (.s 102) (.s 101)}]) c_Ih_51
def c_Ih_47:VC:=
 .blk 4 (.loop [0,4,100,101,102] c_Ih_49)
def c_Ih_69:VC:=
 .r 22 [M 155 0,
  {op:=.nck 156 (.s 155)},
  oF 157 156 5,
  {op:=.st (.s 157) (.k (.int .i64 0)) 1}]
def c_Ih_44:VC:=
 .seq (.seq (.r 14 [M 96 0,
  {op:=.nck 97 (.s 96)},
  oF 98 97 0,
  oF 99 98 1,
  oL 100 99 1,
  {op:=.len 101 (.s 100)},
  oN 102 0]) c_Ih_47) (.kp [0] c_Ih_69)
def c_Ih_4:VC:=
 .seq (.seq (.r 2 [M 22 4,
  {op:=.len 23 (.s 22)},
  oN 24 0]) c_Ih_7) (.kp [0,4] c_Ih_44)
def c_Ih_2:VC:=
 .seq (.r 1 [M 15 0,
  {op:=.nck 16 (.s 15)},
  oF 17 16 0,
  oF 18 17 0,
  oL 19 18 1,
  {op:=.len 20 (.s 19)},
  {op:=.mk 21 (.s 20) [.sc] [(.int .i64 0)] 17592186044416},
  M 4 21]) c_Ih_4
def c_Ih_0:VC:=
 .seq (.r 0 [M 10 0,
  M 11 1,
  {op:=.bin 12 .mul (.k (.int .i64 1000)) (.s 11)},
  {op:=.nck 13 (.s 10)},
  oF 14 13 8,
  oS 14 12 1]) c_Ih_2
def vf_Ih:VF:={ pm:=[.mb [.ro q3,.ro q5,.sc,.own [.sc],.own [.sc],.sc,.own [.sc],.sc,.sc,.sc,.own q4],.ro [.sc]],rm:=[],nslots:=158,res:=[],rc:=[],code:=.kp [0,1] c_Ih_0 }
def c_Ii_5:VC:=
 .ite (.s 15) (.skip) (.exit 0)
def c_Ii_18:VC:=
 .ite (.s 39) (.ret) (.skip)
def c_Ii_28:VC:=
 .ite (.s 55) (.d 7 [(0,M 56 0),
  (1,{op:=.nckv 57 (.s 56)}),
  (2,oG 58 57 6),
  (3,oV 59 58 1),
  (4,oG 60 3 0),
  (5,oV 61 60 1),
  (6,oX 62 59 61 1),
  (7,{op:=.st (.s 62) (.k (.bool false)) 1})]) (.skip)
def c_Ii_38:VC:=
 .ite (.s 95) (.d 11 [(0,M 96 0),
  (1,{op:=.nckv 97 (.s 96)}),
  (2,oG 98 97 6),
  (3,oV 99 98 1),
  (4,oG 100 3 0),
  (5,oV 101 100 1),
  (6,oX 102 99 101 1),
  (7,{op:=.st (.s 102) (.k (.bool true)) 1})]) (.skip)
def c_Ii_36:VC:=
 .seq (.r 10 [M 76 5,
  M 77 0,
  {op:=.nck 78 (.s 77)},
  oF 79 78 7,
  oL 80 79 1,
  {op:=.bin 81 .add (.s 80) (.k (.int .i64 100))},
  {op:=.bin 82 .gtr (.s 76) (.s 81)},
  M 83 82,
  ⟨none,[],some (83,true),.fadr 84 (.s 3) 3⟩,
  ⟨none,[],some (83,true),.ld 85 (.s 84) 1 false⟩,
  ⟨none,[],some (83,true),.un 86 .not (.s 85)⟩,
  {op:=.pick 87 (.s 83) (.s 86) (.k (.bool false))},
  M 88 87,
  ⟨none,[],some (88,true),.mv 89 (.s 4)⟩,
  ⟨none,[],some (88,true),.bin 90 .eql (.s 89) (.k (.int .i64 3))⟩,
  ⟨none,[],some (88,true),.mv 91 (.s 90)⟩,
  ⟨none,[],some (91,false),.mv 92 (.s 4)⟩,
  ⟨none,[],some (91,false),.bin 93 .eql (.s 92) (.k (.int .i64 4))⟩,
  ⟨none,[],some (88,true),.pick 94 (.s 91) (.k (.bool true)) (.s 93)⟩,
  {op:=.pick 95 (.s 88) (.s 94) (.k (.bool false))}]) (.kp [0,2,3,95] c_Ii_38)
def c_Ii_44:VC:=
 .ite (.s 111) (.r 13 [M 112 0,
  M 113 0,
  M 114 2,
  {op:=.call 115 123 [(.s 113),(.s 114)]},
  {op:=.nck 116 (.s 112)},
  oF 117 116 9,
  oS 117 115 1]) (.skip)
def c_Ii_47:VC:=
 .d 14 [(0,M 118 0),
  (1,M 119 0),
  (2,{op:=.nckv 120 (.s 119)}),
  (3,oG 121 120 10),
  (4,oV 122 121 1),
  (5,M 123 0),
  (6,{op:=.nckv 124 (.s 123)}),
  (7,oG 125 124 7),
  (8,oV 126 125 1),
  (9,M 127 0),
  (10,{op:=.nckv 128 (.s 127)}),
  (11,oG 129 128 8),
  (12,oV 130 129 1),
  (13,{op:=.bin 131 .quo (.s 130) (.k (.int .i64 1000))}),
  (14,M 132 2),
  (15,M 133 0),
  (16,{op:=.nckv 134 (.s 133)}),
  (17,oG 135 134 6),
  (18,oV 136 135 1),
  (19,oG 137 3 0),
  (20,oV 138 137 1),
  (21,oX 139 136 138 1),
  (22,oL 140 139 1),
  (23,{op:=.bld 141 [.k (.int .i64 0),.k (.int .i64 0),.k (.int .i64 0),.k (.bool false)] [(0,1,(.s 126)),(1,1,(.s 131)),(2,1,(.s 132)),(3,1,(.s 140))]}),
  (24,{op:=.lits 142 q4 [(.s 141)]}),
  (25,{op:=.app 143 (.s 122) (.s 142) q4 4398046511104}),
  (26,{op:=.nckv 144 (.s 118)}),
  (27,oG 145 144 10),
  (28,oS 145 143 1)]
def c_Ii_41:VC:=
 .seq (.seq (.d 12 [(0,M 103 0),
  (1,{op:=.nckv 104 (.s 103)}),
  (2,oG 105 104 6),
  (3,oV 106 105 1),
  (4,oG 107 3 0),
  (5,oV 108 107 1),
  (6,oX 109 106 108 1),
  (7,oL 110 109 1),
  (8,{op:=.un 111 .not (.s 110)})]) c_Ii_44) (.kp [0,2,3] c_Ii_47)
def c_Ii_33:VC:=
 .seq (.seq (.r 9 [M 73 0,
  M 74 2,
  {op:=.call 75 123 [(.s 73),(.s 74)]},
  M 5 75]) c_Ii_36) (.kp [0,2,3] c_Ii_41)
def c_Ii_31:VC:=
 .seq (.d 8 [(0,M 63 0),
  (1,{op:=.nckv 64 (.s 63)}),
  (2,oG 65 64 0),
  (3,oG 66 65 0),
  (4,oV 67 66 1),
  (5,oG 68 3 0),
  (6,oV 69 68 1),
  (7,oX 70 67 69 3),
  (8,oG 71 70 0),
  (9,oV 72 71 1),
  (10,M 4 72)]) c_Ii_33
def c_Ii_25:VC:=
 .seq (.seq (.r 6 [oF 54 3 3,
  oL 55 54 1]) c_Ii_28) (.kp [0,2,3] c_Ii_31)
def c_Ii_23:VC:=
 .seq (.r 5 [M 46 0,
  {op:=.nck 47 (.s 46)},
  oF 48 47 0,
  oF 49 48 1,
  oL 50 49 1,
  M 51 2,
  oX 52 50 51 5,
  {op:=.ld 53 (.s 52) 5 true},
  {op:=.alloc 3 [.k (.int .i64 0),.k (.int .i64 0),.k (.int .i64 0),.k (.bool false),.o [.sc]]},
  oS 3 53 5]) c_Ii_25
def c_Ii_21:VC:=
 .seq (.r 4 [M 40 0,
  {op:=.nck 41 (.s 40)},
  oF 42 41 4,
  oL 43 42 1,
  M 44 2,
  oX 45 43 44 1,
  {op:=.st (.s 45) (.k (.bool true)) 1}]) c_Ii_23
def c_Ii_14:VC:=
 .ite (.s 27) (.seq (.seq (.d 3 [(0,M 28 0),
  (1,{op:=.nckv 29 (.s 28)}),
  (2,oG 30 29 3),
  (3,oV 31 30 1),
  (4,M 32 2),
  (5,oX 33 31 32 1),
  (6,oL 34 33 1),
  (7,M 35 0),
  (8,{op:=.nckv 36 (.s 35)}),
  (9,oG 37 36 8),
  (10,oV 38 37 1),
  (11,{op:=.bin 39 .gtr (.s 34) (.s 38)})]) c_Ii_18) c_Ii_21) (.skip)
def c_Ii_49:VC:=
 .r 15 [M 146 0,
  {op:=.nck 147 (.s 146)},
  oF 148 147 5,
  oL 149 148 1,
  {op:=.bin 150 .add (.s 149) (.k (.int .i64 1))},
  {op:=.nck 151 (.s 146)},
  oF 152 151 5,
  oS 152 150 1]
def c_Ii_11:VC:=
 .seq (.seq (.r 2 [M 20 0,
  {op:=.nck 21 (.s 20)},
  oF 22 21 4,
  oL 23 22 1,
  M 24 2,
  oX 25 23 24 1,
  oL 26 25 1,
  {op:=.un 27 .not (.s 26)}]) c_Ii_14) (.kp [0] c_Ii_49)
def c_Ii_8:VC:=
 .blk 1 (.seq (.r 1 [M 16 0,
  {op:=.nck 17 (.s 16)},
  oF 18 17 5,
  oL 19 18 1,
  M 2 19]) c_Ii_11)
def c_Ii_2:VC:=
 .seq (.seq (.d 0 [(0,M 6 0),
  (1,{op:=.nckv 7 (.s 6)}),
  (2,oG 8 7 5),
  (3,oV 9 8 1),
  (4,M 10 0),
  (5,{op:=.nckv 11 (.s 10)}),
  (6,oG 12 11 3),
  (7,oV 13 12 1),
  (8,{op:=.len 14 (.s 13)}),
  (9,{op:=.bin 15 .lss (.s 9) (.s 14)})]) c_Ii_5) c_Ii_8
def c_Ii_0:VC:=
 .blk 0 (.loop [0] c_Ii_2)
def vf_Ii:VF:={ pm:=[.mb [.ro q3,.ro q5,.sc,.own [.sc],.own [.sc],.sc,.own [.sc],.sc,.sc,.sc,.own q4]],rm:=[],nslots:=153,res:=[],rc:=[],code:=.kp [0] c_Ii_0 }
def c_Ib_5:VC:=
 .ite (.s 31) (.seq (.r 2 [{op:=.bld 32 [.k (.int .i64 0),.o q4,.k (.int .i64 0),.k (.int .i64 0)] [(0,1,(.k (.int .i64 1)))]},
  oS 6 32 4]) (.ret)) (.skip)
def c_Ib_27:VC:=
 .ite (.s 41) (.seq (.r 7 [{op:=.bld 42 [.k (.int .i64 0),.o q4,.k (.int .i64 0),.k (.int .i64 0)] [(0,1,(.k (.int .i64 1)))]},
  oS 6 42 4]) (.ret)) (.skip)
def c_Ib_25:VC:=
 .seq (.r 6 [{op:=.ld 39 (.s 8) 2 true},
  {op:=.call 40 70 [(.s 39)]},
  {op:=.un 41 .not (.s 40)}]) c_Ib_27
def c_Ib_32:VC:=
 .r 8 [{op:=.bin 43 .add (.s 35) (.k (.int .i64 1))},
  M 35 43]
def c_Ib_21:VC:=
 .seq (.blk 1 (.seq (.r 5 [oX 37 33 35 2,
  {op:=.ld 38 (.s 37) 2 true},
  {op:=.alloc 8 [.k (.int .i64 0),.k (.int .i64 0)]},
  oS 8 38 2]) c_Ib_25)) c_Ib_32
def c_Ib_17:VC:=
 .seq (.ite (.s 36) (.skip) (.exit 0)) c_Ib_21
def c_Ib_15:VC:=
 .seq (.r 4 [{op:=.bin 36 .lss (.s 35) (.s 34)}]) c_Ib_17
def c_Ib_13:VC:=
 .blk 0 (.loop [1,2,3,6,33,34,35] c_Ib_15)
def c_Ib_52:VC:=
 .d 14 [(0,M 61 10),
  (1,M 62 10),
  (2,{op:=.nckv 63 (.s 62)}),
  (3,oG 64 63 3),
  (4,oV 65 64 1),
  (5,{op:=.ldv 66 (.s 3) 2 true}),
  (6,M 67 11),
  (7,{op:=.call 68 71 [(.s 66),(.s 67)]}),
  (8,{op:=.lits 69 [.sc] [(.s 68)]}),
  (9,{op:=.app 70 (.s 65) (.s 69) [.sc] 17592186044416}),
  (10,{op:=.nckv 71 (.s 61)}),
  (11,oG 72 71 3),
  (12,oS 72 70 1)]
def c_Ib_53:VC:=
 .r 15 [{op:=.bin 73 .add (.s 58) (.k (.int .i64 1))},
  M 58 73]
def c_Ib_48:VC:=
 .seq (.blk 3 (.seq (.r 13 [M 60 58,
  M 11 60]) c_Ib_52)) c_Ib_53
def c_Ib_44:VC:=
 .seq (.ite (.s 59) (.skip) (.exit 2)) c_Ib_48
def c_Ib_42:VC:=
 .seq (.r 12 [{op:=.bin 59 .lss (.s 58) (.s 57)}]) c_Ib_44
def c_Ib_40:VC:=
 .blk 2 (.pre [.nlv 10 3 [.sc]] (.loop [2,3,6,10,57,58] c_Ib_42))
def c_Ib_77:VC:=
 .ite (.s 82) (.skip) (.r 22 [{op:=.bin 84 .eql (.s 81) (.k (.int .i64 2))},
  M 82 84])
def c_Ib_96:VC:=
 .ite (.s 101) (.seq (.d 30 [(0,M 102 10),
  (1,{op:=.nckv 103 (.s 102)}),
  (2,oG 104 103 7),
  (3,oV 105 104 1),
  (4,oG 106 15 1),
  (5,oV 107 106 1),
  (6,{op:=.bin 108 .add (.s 105) (.s 107)}),
  (7,{op:=.nckv 109 (.s 102)}),
  (8,oG 110 109 7),
  (9,oS 110 108 1)]) (.exit 5)) (.skip)
def c_Ib_117:VC:=
 .r 35 [M 131 10,
  {op:=.call 132 73 [(.s 131)]}]
def c_Ib_115:VC:=
 .seq (.r 34 [M 122 10,
  {op:=.nck 123 (.s 122)},
  oF 124 123 8,
  oL 125 124 1,
  M 126 12,
  {op:=.bin 127 .mul (.k (.int .i64 10)) (.s 126)},
  {op:=.bin 128 .add (.s 125) (.s 127)},
  {op:=.nck 129 (.s 122)},
  oF 130 129 8,
  oS 130 128 1]) c_Ib_117
def c_Ib_118:VC:=
 .r 36 [{op:=.bin 133 .add (.s 113) (.k (.int .i64 1))},
  M 113 133]
def c_Ib_111:VC:=
 .seq (.blk 8 (.seq (.r 33 [M 115 10,
  {op:=.nck 116 (.s 115)},
  oF 117 116 7,
  oL 118 117 1,
  {op:=.bin 119 .add (.s 118) (.k (.int .i64 1))},
  {op:=.nck 120 (.s 115)},
  oF 121 120 7,
  oS 121 119 1]) c_Ib_115)) c_Ib_118
def c_Ib_107:VC:=
 .seq (.ite (.s 114) (.skip) (.exit 7)) c_Ib_111
def c_Ib_105:VC:=
 .seq (.r 32 [{op:=.bin 114 .lss (.s 113) (.s 112)}]) c_Ib_107
def c_Ib_103:VC:=
 .blk 7 (.loop [6,10,12,13,74,75,76,112,113] c_Ib_105)
def c_Ib_101:VC:=
 .seq (.r 31 [oF 111 15 1,
  oL 112 111 1,
  oN 113 0]) c_Ib_103
def c_Ib_92:VC:=
 .ite (.s 98) (.seq (.seq (.r 29 [M 100 13,
  {op:=.un 101 .not (.s 100)}]) c_Ib_96) c_Ib_101) (.skip)
def c_Ib_88:VC:=
 .ite (.s 92) (.r 27 [M 94 10,
  oF 95 15 1,
  oL 96 95 1,
  {op:=.call 97 72 [(.s 94),(.s 96)]}]) (.seq (.r 28 [{op:=.bin 99 .eql (.s 81) (.k (.int .i64 4))},
  M 98 99]) c_Ib_92)
def c_Ib_84:VC:=
 .ite (.s 88) (.r 25 [oF 90 15 1,
  oL 91 90 1,
  M 12 91]) (.seq (.r 26 [{op:=.bin 93 .eql (.s 81) (.k (.int .i64 3))},
  M 92 93]) c_Ib_88)
def c_Ib_80:VC:=
 .ite (.s 82) (.r 23 [oF 85 15 0,
  oL 86 85 1,
  {op:=.bin 87 .eql (.s 86) (.k (.int .i64 1))},
  M 13 87]) (.seq (.r 24 [{op:=.bin 89 .eql (.s 81) (.k (.int .i64 5))},
  M 88 89]) c_Ib_84)
def c_Ib_73:VC:=
 .blk 6 (.seq (.seq (.r 21 [{op:=.bin 83 .eql (.s 81) (.k (.int .i64 1))},
  M 82 83]) c_Ib_77) (.kp [6,10,12,13,15,74,75,76,81,82] c_Ib_80))
def c_Ib_71:VC:=
 .seq (.r 20 [oF 80 15 0,
  oL 81 80 1]) c_Ib_73
def c_Ib_120:VC:=
 .r 37 [{op:=.bin 134 .add (.s 76) (.k (.int .i64 1))},
  M 76 134]
def c_Ib_67:VC:=
 .seq (.blk 5 (.seq (.r 19 [oX 78 74 76 2,
  {op:=.ld 79 (.s 78) 2 true},
  {op:=.alloc 15 [.k (.int .i64 0),.k (.int .i64 0)]},
  oS 15 79 2]) c_Ib_71)) (.kp [6,10,12,13,74,75,76] c_Ib_120)
def c_Ib_63:VC:=
 .seq (.ite (.s 77) (.skip) (.exit 4)) c_Ib_67
def c_Ib_61:VC:=
 .seq (.r 18 [{op:=.bin 77 .lss (.s 76) (.s 75)}]) c_Ib_63
def c_Ib_59:VC:=
 .blk 4 (.pre [.nlv 10 10 q4] (.loop [6,10,12,13,74,75,76] c_Ib_61))
def c_Ib_121:VC:=
 .seq (.d 38 [(0,M 135 10),
  (1,{op:=.nckv 136 (.s 135)}),
  (2,oG 137 136 10),
  (3,oV 138 137 1),
  (4,M 139 10),
  (5,{op:=.nckv 140 (.s 139)}),
  (6,oG 141 140 7),
  (7,oV 142 141 1),
  (8,M 143 10),
  (9,{op:=.nckv 144 (.s 143)}),
  (10,oG 145 144 8),
  (11,oV 146 145 1),
  (12,{op:=.bin 147 .quo (.s 146) (.k (.int .i64 1000))}),
  (13,{op:=.bld 148 [.k (.int .i64 0),.k (.slice none 0 0),.k (.int .i64 0),.k (.int .i64 0)] [(1,1,(.s 138)),(2,1,(.s 142)),(3,1,(.s 147))]}),
  (14,oS 6 148 4)]) (.ret)
def c_Ib_56:VC:=
 .seq (.seq (.r 17 [M 74 2,
  {op:=.len 75 (.s 74)},
  oN 76 0]) c_Ib_59) (.kp [6,10] c_Ib_121)
def c_Ib_54:VC:=
 .seq (.r 16 [oN 12 100,
  oK 13 false]) c_Ib_56
def c_Ib_37:VC:=
 .seq (.seq (.r 11 [M 57 9,
  oN 58 0]) c_Ib_40) (.kp [2,6,10] c_Ib_54)
def c_Ib_35:VC:=
 .seq (.pre [.pado 2] (.d 10 [(0,{op:=.ldk 47 (.s 3) 0 2 true}),
  (1,M 48 1),
  (2,M 49 9),
  (4,{op:=.fadk 51 (.s 3) 0 0}),
  (5,{op:=.ldk 52 (.s 51) 0 1 false}),
  (6,{op:=.lenr 53 (.s 52)}),
  (3,{op:=.mkk 50 (.s 49) [.sc] [(.bool false)] 140737488355328 1}),
  (7,{op:=.mkk 54 (.s 53) [.sc] [(.bool false)] 140737488355328 2}),
  (8,{op:=.bld 55 [.k (.slice none 0 0),.k (.slice none 0 0),.k (.int .i64 0),.k (.slice none 0 0),.k (.slice none 0 0),.k (.int .i64 0),.k (.slice none 0 0),.k (.int .i64 0),.k (.int .i64 0),.k (.int .i64 0),.k (.slice none 0 0)] [(0,2,(.s 47)),(2,1,(.s 48)),(4,1,(.s 50)),(6,1,(.s 54))]}),
  (9,{op:=.box 56 (.s 55)}),
  (10,M 10 56)])) c_Ib_37
def c_Ib_33:VC:=
 .seq (.r 9 [oF 44 3 1,
  oL 45 44 1,
  {op:=.len 46 (.s 45)},
  M 9 46]) c_Ib_35
def c_Ib_10:VC:=
 .seq (.seq (.r 3 [M 33 2,
  {op:=.len 34 (.s 33)},
  oN 35 0]) c_Ib_13) (.kp [1,2,3,6] c_Ib_33)
def c_Ib_2:VC:=
 .seq (.seq (.r 1 [{op:=.ld 16 (.s 3) 2 true},
  {op:=.call 17 54 [(.s 16)]},
  {op:=.un 18 .not (.s 17)},
  M 19 18,
  ⟨none,[],some (19,false),.mv 20 (.s 1)⟩,
  ⟨none,[],some (19,false),.bin 21 .lss (.s 20) (.k (.int .i64 1))⟩,
  {op:=.pick 22 (.s 19) (.k (.bool true)) (.s 21)},
  M 23 22,
  ⟨none,[],some (23,false),.mv 24 (.s 1)⟩,
  ⟨none,[],some (23,false),.bin 25 .gtr (.s 24) (.k (.int .i64 1000))⟩,
  {op:=.pick 26 (.s 23) (.k (.bool true)) (.s 25)},
  M 27 26,
  ⟨none,[],some (27,false),.mv 28 (.s 2)⟩,
  ⟨none,[],some (27,false),.len 29 (.s 28)⟩,
  ⟨none,[],some (27,false),.bin 30 .gtr (.s 29) (.k (.int .i64 500))⟩,
  {op:=.pick 31 (.s 27) (.k (.bool true)) (.s 30)}]) (.kp [1,2,3,6,31] c_Ib_5)) c_Ib_10
def c_Ib_0:VC:=
 .seq (.r 0 [{op:=.box 3 (.s 0)},
  {op:=.alloc 6 [.k (.int .i64 0),.o q4,.k (.int .i64 0),.k (.int .i64 0)]}]) c_Ib_2
def vf_Ib:VF:={ pm:=[.ro [.ro q3,.ro q5],.ro [.sc],.ro [.ro [.sc,.sc]]],rm:=[.v [.sc,.own q4,.sc,.sc]],nslots:=149,res:=[6],rc:=[some (4,true)],code:=.kp [0,1,2] c_Ib_0 }
def c_Lh_5:VC:=
 .ite (.s 9) (.seq (.r 2 [oK 4 false]) (.ret)) (.skip)
def c_Lh_13:VC:=
 .ite (.s 14) (.seq (.r 4 [oK 4 false]) (.ret)) (.skip)
def c_Lh_21:VC:=
 .ite (.s 19) (.seq (.r 6 [oK 4 false]) (.ret)) (.skip)
def c_Lh_29:VC:=
 .ite (.s 24) (.seq (.r 8 [oK 4 false]) (.ret)) (.skip)
def c_Lh_34:VC:=
 .seq (.r 9 [oK 4 true]) (.ret)
def c_Lh_26:VC:=
 .seq (.seq (.r 7 [oF 20 2 3,
  oL 21 20 1,
  oF 22 3 3,
  oL 23 22 1,
  {op:=.beq 24 true (.s 21) (.s 23)}]) c_Lh_29) c_Lh_34
def c_Lh_18:VC:=
 .seq (.seq (.r 5 [oF 15 2 2,
  oL 16 15 1,
  oF 17 3 2,
  oL 18 17 1,
  {op:=.bin 19 .neq (.s 16) (.s 18)}]) c_Lh_21) c_Lh_26
def c_Lh_10:VC:=
 .seq (.seq (.r 3 [oF 10 2 1,
  oL 11 10 1,
  oF 12 3 1,
  oL 13 12 1,
  {op:=.bin 14 .neq (.s 11) (.s 13)}]) c_Lh_13) c_Lh_18
def c_Lh_2:VC:=
 .seq (.seq (.r 1 [oF 5 2 0,
  oL 6 5 1,
  oF 7 3 0,
  oL 8 7 1,
  {op:=.bin 9 .neq (.s 6) (.s 8)}]) c_Lh_5) c_Lh_10
def c_Lh_0:VC:=
 .seq (.r 0 [{op:=.box 2 (.s 0)},
  {op:=.box 3 (.s 1)},
  oK 4 false]) c_Lh_2
def vf_Lh:VF:={ pm:=[.ro q4,.ro q4],rm:=[.v [.sc]],nslots:=25,res:=[4],rc:=[],code:=.kp [0,1] c_Lh_0 }
def c_Li_5:VC:=
 .ite (.s 10) (.seq (.r 2 [oK 4 false]) (.ret)) (.skip)
def c_Li_18:VC:=
 .ite (.s 14) (.skip) (.exit 0)
def c_Li_25:VC:=
 .ite (.s 26) (.seq (.r 7 [oK 4 false]) (.ret)) (.skip)
def c_Li_30:VC:=
 .r 5 [M 15 5,
  {op:=.bin 16 .add (.s 15) (.k (.int .i64 1))},
  M 5 16]
def c_Li_21:VC:=
 .seq (.blk 1 (.seq (.d 6 [(0,M 17 0),
  (1,M 18 5),
  (2,oX 19 17 18 4),
  (3,{op:=.ldv 20 (.s 19) 4 true}),
  (4,M 21 1),
  (5,M 22 5),
  (6,oX 23 21 22 4),
  (7,{op:=.ldv 24 (.s 23) 4 true}),
  (8,{op:=.call 25 137 [(.s 20),(.s 24)]}),
  (9,{op:=.un 26 .not (.s 25)})]) c_Li_25)) c_Li_30
def c_Li_15:VC:=
 .seq (.seq (.r 4 [M 11 5,
  M 12 0,
  {op:=.len 13 (.s 12)},
  {op:=.bin 14 .lss (.s 11) (.s 13)}]) c_Li_18) c_Li_21
def c_Li_13:VC:=
 .blk 0 (.loop [0,1,5] c_Li_15)
def c_Li_31:VC:=
 .seq (.r 8 [oK 4 true]) (.ret)
def c_Li_10:VC:=
 .seq (.seq (.r 3 [oN 5 0]) c_Li_13) (.kp [] c_Li_31)
def c_Li_2:VC:=
 .seq (.seq (.r 1 [M 6 0,
  {op:=.len 7 (.s 6)},
  M 8 1,
  {op:=.len 9 (.s 8)},
  {op:=.bin 10 .neq (.s 7) (.s 9)}]) c_Li_5) c_Li_10
def c_Li_0:VC:=
 .seq (.r 0 [oK 4 false]) c_Li_2
def vf_Li:VF:={ pm:=[.ro [.ro q4],.ro [.ro q4]],rm:=[.v [.sc]],nslots:=27,res:=[4],rc:=[],code:=.kp [0,1] c_Li_0 }
def c_Lg_5:VC:=
 .ite (.s 9) (.seq (.r 2 [oK 4 false]) (.ret)) (.skip)
def c_Lg_13:VC:=
 .ite (.s 15) (.seq (.r 4 [oK 4 false]) (.ret)) (.skip)
def c_Lg_21:VC:=
 .ite (.s 20) (.seq (.r 6 [oK 4 false]) (.ret)) (.skip)
def c_Lg_29:VC:=
 .ite (.s 25) (.seq (.r 8 [oK 4 false]) (.ret)) (.skip)
def c_Lg_34:VC:=
 .seq (.r 9 [oK 4 true]) (.ret)
def c_Lg_26:VC:=
 .seq (.seq (.r 7 [oF 21 2 3,
  oL 22 21 1,
  oF 23 3 3,
  oL 24 23 1,
  {op:=.bin 25 .neq (.s 22) (.s 24)}]) c_Lg_29) c_Lg_34
def c_Lg_18:VC:=
 .seq (.seq (.r 5 [oF 16 2 2,
  oL 17 16 1,
  oF 18 3 2,
  oL 19 18 1,
  {op:=.bin 20 .neq (.s 17) (.s 19)}]) c_Lg_21) c_Lg_26
def c_Lg_10:VC:=
 .seq (.seq (.r 3 [oF 10 2 1,
  oL 11 10 1,
  oF 12 3 1,
  oL 13 12 1,
  {op:=.call 14 89 [(.s 11),(.s 13)]},
  {op:=.un 15 .not (.s 14)}]) c_Lg_13) c_Lg_18
def c_Lg_2:VC:=
 .seq (.seq (.r 1 [oF 5 2 0,
  oL 6 5 1,
  oF 7 3 0,
  oL 8 7 1,
  {op:=.bin 9 .neq (.s 6) (.s 8)}]) c_Lg_5) c_Lg_10
def c_Lg_0:VC:=
 .seq (.r 0 [{op:=.box 2 (.s 0)},
  {op:=.box 3 (.s 1)},
  oK 4 false]) c_Lg_2
def vf_Lg:VF:={ pm:=[.ro [.sc,.ro q4,.sc,.sc],.ro [.sc,.ro q4,.sc,.sc]],rm:=[.v [.sc]],nslots:=26,res:=[4],rc:=[],code:=.kp [0,1] c_Lg_0 }
def c_Lj_5:VC:=
 .ite (.s 9) (.seq (.r 2 [oK 4 false]) (.ret)) (.skip)
def c_Lj_13:VC:=
 .ite (.s 14) (.seq (.r 4 [oK 4 false]) (.ret)) (.skip)
def c_Lj_21:VC:=
 .ite (.s 19) (.seq (.r 6 [oK 4 false]) (.ret)) (.skip)
def c_Lj_26:VC:=
 .seq (.r 7 [oK 4 true]) (.ret)
def c_Lj_18:VC:=
 .seq (.seq (.r 5 [oF 15 2 2,
  oL 16 15 1,
  oF 17 3 2,
  oL 18 17 1,
  {op:=.bin 19 .neq (.s 16) (.s 18)}]) c_Lj_21) c_Lj_26
def c_Lj_10:VC:=
 .seq (.seq (.r 3 [oF 10 2 1,
  oL 11 10 1,
  oF 12 3 1,
  oL 13 12 1,
  {op:=.bin 14 .neq (.s 11) (.s 13)}]) c_Lj_13) c_Lj_18
def c_Lj_2:VC:=
 .seq (.seq (.r 1 [oF 5 2 0,
  oL 6 5 1,
  oF 7 3 0,
  oL 8 7 1,
  {op:=.bin 9 .neq (.s 6) (.s 8)}]) c_Lj_5) c_Lj_10
def c_Lj_0:VC:=
 .seq (.r 0 [{op:=.box 2 (.s 0)},
  {op:=.box 3 (.s 1)},
  oK 4 false]) c_Lj_2
def vf_Lj:VF:={ pm:=[.ro q3,.ro q3],rm:=[.v [.sc]],nslots:=20,res:=[4],rc:=[],code:=.kp [0,1] c_Lj_0 }
def c_Lk_5:VC:=
 .ite (.s 10) (.seq (.r 2 [oK 4 false]) (.ret)) (.skip)
def c_Lk_18:VC:=
 .ite (.s 14) (.skip) (.exit 0)
def c_Lk_25:VC:=
 .ite (.s 26) (.seq (.r 7 [oK 4 false]) (.ret)) (.skip)
def c_Lk_30:VC:=
 .r 5 [M 15 5,
  {op:=.bin 16 .add (.s 15) (.k (.int .i64 1))},
  M 5 16]
def c_Lk_21:VC:=
 .seq (.blk 1 (.seq (.d 6 [(0,M 17 0),
  (1,M 18 5),
  (2,oX 19 17 18 3),
  (3,{op:=.ldv 20 (.s 19) 3 true}),
  (4,M 21 1),
  (5,M 22 5),
  (6,oX 23 21 22 3),
  (7,{op:=.ldv 24 (.s 23) 3 true}),
  (8,{op:=.call 25 114 [(.s 20),(.s 24)]}),
  (9,{op:=.un 26 .not (.s 25)})]) c_Lk_25)) c_Lk_30
def c_Lk_15:VC:=
 .seq (.seq (.r 4 [M 11 5,
  M 12 0,
  {op:=.len 13 (.s 12)},
  {op:=.bin 14 .lss (.s 11) (.s 13)}]) c_Lk_18) c_Lk_21
def c_Lk_13:VC:=
 .blk 0 (.loop [0,1,5] c_Lk_15)
def c_Lk_31:VC:=
 .seq (.r 8 [oK 4 true]) (.ret)
def c_Lk_10:VC:=
 .seq (.seq (.r 3 [oN 5 0]) c_Lk_13) (.kp [] c_Lk_31)
def c_Lk_2:VC:=
 .seq (.seq (.r 1 [M 6 0,
  {op:=.len 7 (.s 6)},
  M 8 1,
  {op:=.len 9 (.s 8)},
  {op:=.bin 10 .neq (.s 7) (.s 9)}]) c_Lk_5) c_Lk_10
def c_Lk_0:VC:=
 .seq (.r 0 [oK 4 false]) c_Lk_2
def vf_Lk:VF:={ pm:=[.ro [.ro q3],.ro [.ro q3]],rm:=[.v [.sc]],nslots:=27,res:=[4],rc:=[],code:=.kp [0,1] c_Lk_0 }
def c_Ld_5:VC:=
 .ite (.s 10) (.seq (.r 2 [oK 4 false]) (.ret)) (.skip)
def c_Ld_18:VC:=
 .ite (.s 14) (.skip) (.exit 0)
def c_Ld_25:VC:=
 .ite (.s 25) (.seq (.r 7 [oK 4 false]) (.ret)) (.skip)
def c_Ld_30:VC:=
 .r 5 [M 15 5,
  {op:=.bin 16 .add (.s 15) (.k (.int .i64 1))},
  M 5 16]
def c_Ld_21:VC:=
 .seq (.blk 1 (.seq (.d 6 [(0,M 17 0),
  (1,M 18 5),
  (2,oX 19 17 18 1),
  (3,oV 20 19 1),
  (4,M 21 1),
  (5,M 22 5),
  (6,oX 23 21 22 1),
  (7,oV 24 23 1),
  (8,{op:=.bin 25 .neq (.s 20) (.s 24)})]) c_Ld_25)) c_Ld_30
def c_Ld_15:VC:=
 .seq (.seq (.r 4 [M 11 5,
  M 12 0,
  {op:=.len 13 (.s 12)},
  {op:=.bin 14 .lss (.s 11) (.s 13)}]) c_Ld_18) c_Ld_21
def c_Ld_13:VC:=
 .blk 0 (.loop [0,1,5] c_Ld_15)
def c_Ld_31:VC:=
 .seq (.r 8 [oK 4 true]) (.ret)
def c_Ld_10:VC:=
 .seq (.seq (.r 3 [oN 5 0]) c_Ld_13) (.kp [] c_Ld_31)
def c_Ld_2:VC:=
 .seq (.seq (.r 1 [M 6 0,
  {op:=.len 7 (.s 6)},
  M 8 1,
  {op:=.len 9 (.s 8)},
  {op:=.bin 10 .neq (.s 7) (.s 9)}]) c_Ld_5) c_Ld_10
def c_Ld_0:VC:=
 .seq (.r 0 [oK 4 false]) c_Ld_2
def vf_Ld:VF:={ pm:=[.ro [.ro [.sc]],.ro [.ro [.sc]]],rm:=[.v [.sc]],nslots:=26,res:=[4],rc:=[],code:=.kp [0,1] c_Ld_0 }
def c_Le_5:VC:=
 .ite (.s 9) (.seq (.r 2 [oK 4 false]) (.ret)) (.skip)
def c_Le_13:VC:=
 .ite (.s 14) (.seq (.r 4 [oK 4 false]) (.ret)) (.skip)
def c_Le_21:VC:=
 .ite (.s 19) (.seq (.r 6 [oK 4 false]) (.ret)) (.skip)
def c_Le_29:VC:=
 .ite (.s 24) (.seq (.r 8 [oK 4 false]) (.ret)) (.skip)
def c_Le_37:VC:=
 .ite (.s 30) (.seq (.r 10 [oK 4 false]) (.ret)) (.skip)
def c_Le_42:VC:=
 .seq (.r 11 [oK 4 true]) (.ret)
def c_Le_34:VC:=
 .seq (.seq (.r 9 [oF 25 2 4,
  oL 26 25 1,
  oF 27 3 4,
  oL 28 27 1,
  {op:=.call 29 13 [(.s 26),(.s 28)]},
  {op:=.un 30 .not (.s 29)}]) c_Le_37) c_Le_42
def c_Le_26:VC:=
 .seq (.seq (.r 7 [oF 20 2 3,
  oL 21 20 1,
  oF 22 3 3,
  oL 23 22 1,
  {op:=.beq 24 true (.s 21) (.s 23)}]) c_Le_29) c_Le_34
def c_Le_18:VC:=
 .seq (.seq (.r 5 [oF 15 2 2,
  oL 16 15 1,
  oF 17 3 2,
  oL 18 17 1,
  {op:=.bin 19 .neq (.s 16) (.s 18)}]) c_Le_21) c_Le_26
def c_Le_10:VC:=
 .seq (.seq (.r 3 [oF 10 2 1,
  oL 11 10 1,
  oF 12 3 1,
  oL 13 12 1,
  {op:=.bin 14 .neq (.s 11) (.s 13)}]) c_Le_13) c_Le_18
def c_Le_2:VC:=
 .seq (.seq (.r 1 [oF 5 2 0,
  oL 6 5 1,
  oF 7 3 0,
  oL 8 7 1,
  {op:=.bin 9 .neq (.s 6) (.s 8)}]) c_Le_5) c_Le_10
def c_Le_0:VC:=
 .seq (.r 0 [{op:=.box 2 (.s 0)},
  {op:=.box 3 (.s 1)},
  oK 4 false]) c_Le_2
def vf_Le:VF:={ pm:=[.ro q5,.ro q5],rm:=[.v [.sc]],nslots:=31,res:=[4],rc:=[],code:=.kp [0,1] c_Le_0 }
def c_Lf_5:VC:=
 .ite (.s 10) (.seq (.r 2 [oK 4 false]) (.ret)) (.skip)
def c_Lf_18:VC:=
 .ite (.s 14) (.skip) (.exit 0)
def c_Lf_25:VC:=
 .ite (.s 26) (.seq (.r 7 [oK 4 false]) (.ret)) (.skip)
def c_Lf_30:VC:=
 .r 5 [M 15 5,
  {op:=.bin 16 .add (.s 15) (.k (.int .i64 1))},
  M 5 16]
def c_Lf_21:VC:=
 .seq (.blk 1 (.seq (.d 6 [(0,M 17 0),
  (1,M 18 5),
  (2,oX 19 17 18 5),
  (3,{op:=.ldv 20 (.s 19) 5 true}),
  (4,M 21 1),
  (5,M 22 5),
  (6,oX 23 21 22 5),
  (7,{op:=.ldv 24 (.s 23) 5 true}),
  (8,{op:=.call 25 115 [(.s 20),(.s 24)]}),
  (9,{op:=.un 26 .not (.s 25)})]) c_Lf_25)) c_Lf_30
def c_Lf_15:VC:=
 .seq (.seq (.r 4 [M 11 5,
  M 12 0,
  {op:=.len 13 (.s 12)},
  {op:=.bin 14 .lss (.s 11) (.s 13)}]) c_Lf_18) c_Lf_21
def c_Lf_13:VC:=
 .blk 0 (.loop [0,1,5] c_Lf_15)
def c_Lf_31:VC:=
 .seq (.r 8 [oK 4 true]) (.ret)
def c_Lf_10:VC:=
 .seq (.seq (.r 3 [oN 5 0]) c_Lf_13) (.kp [] c_Lf_31)
def c_Lf_2:VC:=
 .seq (.seq (.r 1 [M 6 0,
  {op:=.len 7 (.s 6)},
  M 8 1,
  {op:=.len 9 (.s 8)},
  {op:=.bin 10 .neq (.s 7) (.s 9)}]) c_Lf_5) c_Lf_10
def c_Lf_0:VC:=
 .seq (.r 0 [oK 4 false]) c_Lf_2
def vf_Lf:VF:={ pm:=[.ro [.ro q5],.ro [.ro q5]],rm:=[.v [.sc]],nslots:=27,res:=[4],rc:=[],code:=.kp [0,1] c_Lf_0 }
def c_Lc_5:VC:=
 .ite (.s 10) (.seq (.r 2 [oK 4 false]) (.ret)) (.skip)
def c_Lc_13:VC:=
 .ite (.s 16) (.seq (.r 4 [oK 4 false]) (.ret)) (.skip)
def c_Lc_18:VC:=
 .seq (.r 5 [oK 4 true]) (.ret)
def c_Lc_10:VC:=
 .seq (.seq (.r 3 [oF 11 2 1,
  oL 12 11 1,
  oF 13 3 1,
  oL 14 13 1,
  {op:=.call 15 61 [(.s 12),(.s 14)]},
  {op:=.un 16 .not (.s 15)}]) c_Lc_13) c_Lc_18
def c_Lc_2:VC:=
 .seq (.seq (.r 1 [oF 5 2 0,
  oL 6 5 1,
  oF 7 3 0,
  oL 8 7 1,
  {op:=.call 9 60 [(.s 6),(.s 8)]},
  {op:=.un 10 .not (.s 9)}]) c_Lc_5) c_Lc_10
def c_Lc_0:VC:=
 .seq (.r 0 [{op:=.box 2 (.s 0)},
  {op:=.box 3 (.s 1)},
  oK 4 false]) c_Lc_2
def vf_Lc:VF:={ pm:=[.ro [.ro q3,.ro q5],.ro [.ro q3,.ro q5]],rm:=[.v [.sc]],nslots:=17,res:=[4],rc:=[],code:=.kp [0,1] c_Lc_0 }
def c_La_5:VC:=
 .ite (.s 9) (.seq (.r 2 [oK 4 false]) (.ret)) (.skip)
def c_La_13:VC:=
 .ite (.s 14) (.seq (.r 4 [oK 4 false]) (.ret)) (.skip)
def c_La_18:VC:=
 .seq (.r 5 [oK 4 true]) (.ret)
def c_La_10:VC:=
 .seq (.seq (.r 3 [oF 10 2 1,
  oL 11 10 1,
  oF 12 3 1,
  oL 13 12 1,
  {op:=.bin 14 .neq (.s 11) (.s 13)}]) c_La_13) c_La_18
def c_La_2:VC:=
 .seq (.seq (.r 1 [oF 5 2 0,
  oL 6 5 1,
  oF 7 3 0,
  oL 8 7 1,
  {op:=.bin 9 .neq (.s 6) (.s 8)}]) c_La_5) c_La_10
def c_La_0:VC:=
 .seq (.r 0 [{op:=.box 2 (.s 0)},
  {op:=.box 3 (.s 1)},
  oK 4 false]) c_La_2
def vf_La:VF:={ pm:=[.ro [.sc,.sc],.ro [.sc,.sc]],rm:=[.v [.sc]],nslots:=15,res:=[4],rc:=[],code:=.kp [0,1] c_La_0 }
def c_Lb_5:VC:=
 .ite (.s 10) (.seq (.r 2 [oK 4 false]) (.ret)) (.skip)
def c_Lb_18:VC:=
 .ite (.s 14) (.skip) (.exit 0)
def c_Lb_25:VC:=
 .ite (.s 26) (.seq (.r 7 [oK 4 false]) (.ret)) (.skip)
def c_Lb_30:VC:=
 .r 5 [M 15 5,
  {op:=.bin 16 .add (.s 15) (.k (.int .i64 1))},
  M 5 16]
def c_Lb_21:VC:=
 .seq (.blk 1 (.seq (.d 6 [(0,M 17 0),
  (1,M 18 5),
  (2,oX 19 17 18 2),
  (3,{op:=.ldv 20 (.s 19) 2 true}),
  (4,M 21 1),
  (5,M 22 5),
  (6,oX 23 21 22 2),
  (7,{op:=.ldv 24 (.s 23) 2 true}),
  (8,{op:=.call 25 90 [(.s 20),(.s 24)]}),
  (9,{op:=.un 26 .not (.s 25)})]) c_Lb_25)) c_Lb_30
def c_Lb_15:VC:=
 .seq (.seq (.r 4 [M 11 5,
  M 12 0,
  {op:=.len 13 (.s 12)},
  {op:=.bin 14 .lss (.s 11) (.s 13)}]) c_Lb_18) c_Lb_21
def c_Lb_13:VC:=
 .blk 0 (.loop [0,1,5] c_Lb_15)
def c_Lb_31:VC:=
 .seq (.r 8 [oK 4 true]) (.ret)
def c_Lb_10:VC:=
 .seq (.seq (.r 3 [oN 5 0]) c_Lb_13) (.kp [] c_Lb_31)
def c_Lb_2:VC:=
 .seq (.seq (.r 1 [M 6 0,
  {op:=.len 7 (.s 6)},
  M 8 1,
  {op:=.len 9 (.s 8)},
  {op:=.bin 10 .neq (.s 7) (.s 9)}]) c_Lb_5) c_Lb_10
def c_Lb_0:VC:=
 .seq (.r 0 [oK 4 false]) c_Lb_2
def vf_Lb:VF:={ pm:=[.ro [.ro [.sc,.sc]],.ro [.ro [.sc,.sc]]],rm:=[.v [.sc]],nslots:=27,res:=[4],rc:=[],code:=.kp [0,1] c_Lb_0 }
def c_Lt_5:VC:=
 .ite (.s 5) (.seq (.r 2 [{op:=.mv 2 (.k (.string (ByteArray.mk #[109,48])))}]) (.ret)) (.skip)
def c_Lt_18:VC:=
 .ite (.s 7) (.skip) (.exit 0)
def c_Lt_24:VC:=
 .r 6 [M 16 0,
  {op:=.bin 17 .quo (.s 16) (.k (.int .i64 10))},
  M 0 17]
def c_Lt_21:VC:=
 .blk 1 (.seq (.r 5 [M 8 0,
  {op:=.bin 9 .rem (.s 8) (.k (.int .i64 10))},
  {op:=.bin 10 .add (.k (.int .i64 48)) (.s 9)},
  {op:=.conv 11 .u8 (.s 10)},
  {op:=.lits 12 [.sc] [(.s 11)]},
  {op:=.b2s 13 (.s 12)},
  M 14 3,
  {op:=.bin 15 .add (.s 13) (.s 14)},
  M 3 15]) c_Lt_24)
def c_Lt_15:VC:=
 .seq (.seq (.r 4 [M 6 0,
  {op:=.bin 7 .gtr (.s 6) (.k (.int .i64 0))}]) c_Lt_18) c_Lt_21
def c_Lt_25:VC:=
 .seq (.r 7 [M 18 3,
  {op:=.bin 19 .add (.k (.string (ByteArray.mk #[109]))) (.s 18)},
  M 2 19]) (.ret)
def c_Lt_12:VC:=
 .seq (.blk 0 (.loop [0,3] c_Lt_15)) (.kp [3] c_Lt_25)
def c_Lt_10:VC:=
 .seq (.r 3 [{op:=.mv 3 (.k (.string (ByteArray.mk #[])))}]) c_Lt_12
def c_Lt_2:VC:=
 .seq (.seq (.r 1 [M 4 0,
  {op:=.bin 5 .leq (.s 4) (.k (.int .i64 0))}]) c_Lt_5) c_Lt_10
def c_Lt_0:VC:=
 .seq (.r 0 [{op:=.mv 2 (.k (.string (ByteArray.mk #[])))}]) c_Lt_2
def vf_Lt:VF:={ pm:=[.ro [.sc]],rm:=[.v [.sc]],nslots:=20,res:=[2],rc:=[],code:=.kp [0] c_Lt_0 }
def c_Lu_10:VC:=
 .ite (.s 9) (.skip) (.exit 0)
def c_Lu_25:VC:=
 .r 9 [M 32 1,
  {op:=.bin 33 .add (.s 32) (.k (.int .i64 1))},
  M 1 33]
def c_Lu_23:VC:=
 .seq (.r 8 [M 26 0,
  M 27 5,
  M 28 1,
  {op:=.call 29 116 [(.s 28)]},
  oX 30 26 27 3,
  oF 31 30 2,
  oS 31 29 1]) c_Lu_25
def c_Lu_21:VC:=
 .seq (.r 7 [M 24 1,
  {op:=.bin 25 .add (.s 24) (.k (.int .i64 1))},
  M 1 25]) c_Lu_23
def c_Lu_19:VC:=
 .seq (.r 6 [M 19 0,
  M 20 5,
  M 21 1,
  oX 22 19 20 3,
  oF 23 22 1,
  oS 23 21 1]) c_Lu_21
def c_Lu_17:VC:=
 .seq (.r 5 [M 17 1,
  {op:=.bin 18 .add (.s 17) (.k (.int .i64 1))},
  M 1 18]) c_Lu_19
def c_Lu_26:VC:=
 .r 3 [M 10 5,
  {op:=.bin 11 .add (.s 10) (.k (.int .i64 1))},
  M 5 11]
def c_Lu_13:VC:=
 .seq (.blk 1 (.seq (.r 4 [M 12 0,
  M 13 5,
  M 14 1,
  oX 15 12 13 3,
  oF 16 15 0,
  oS 16 14 1]) c_Lu_17)) c_Lu_26
def c_Lu_7:VC:=
 .seq (.seq (.r 2 [M 6 5,
  M 7 0,
  {op:=.len 8 (.s 7)},
  {op:=.bin 9 .lss (.s 6) (.s 8)}]) c_Lu_10) c_Lu_13
def c_Lu_5:VC:=
 .blk 0 (.loop [0,1,5] c_Lu_7)
def c_Lu_27:VC:=
 .seq (.r 10 [M 34 1,
  M 4 34]) (.ret)
def c_Lu_2:VC:=
 .seq (.seq (.r 1 [oN 5 0]) c_Lu_5) (.kp [0,1] c_Lu_27)
def c_Lu_0:VC:=
 .seq (.r 0 [oN 4 0]) c_Lu_2
def vf_Lu:VF:={ pm:=[.ms q3,.ro [.sc]],rm:=[.v [.sc]],nslots:=35,res:=[4],rc:=[],code:=.kp [0,1] c_Lu_0 }
def c_Lp_10:VC:=
 .ite (.s 9) (.skip) (.exit 0)
def c_Lp_17:VC:=
 .r 5 [M 17 1,
  {op:=.bin 18 .add (.s 17) (.k (.int .i64 1))},
  M 1 18]
def c_Lp_18:VC:=
 .r 3 [M 10 5,
  {op:=.bin 11 .add (.s 10) (.k (.int .i64 1))},
  M 5 11]
def c_Lp_13:VC:=
 .seq (.blk 1 (.seq (.r 4 [M 12 0,
  M 13 5,
  M 14 1,
  {op:=.conv 15 .u8 (.s 14)},
  oX 16 12 13 1,
  oS 16 15 1]) c_Lp_17)) c_Lp_18
def c_Lp_7:VC:=
 .seq (.seq (.r 2 [M 6 5,
  M 7 0,
  {op:=.len 8 (.s 7)},
  {op:=.bin 9 .lss (.s 6) (.s 8)}]) c_Lp_10) c_Lp_13
def c_Lp_5:VC:=
 .blk 0 (.loop [0,1,5] c_Lp_7)
def c_Lp_19:VC:=
 .seq (.r 6 [M 19 1,
  M 4 19]) (.ret)
def c_Lp_2:VC:=
 .seq (.seq (.r 1 [oN 5 0]) c_Lp_5) (.kp [0,1] c_Lp_19)
def c_Lp_0:VC:=
 .seq (.r 0 [oN 4 0]) c_Lp_2
def vf_Lp:VF:={ pm:=[.ms [.sc],.ro [.sc]],rm:=[.v [.sc]],nslots:=20,res:=[4],rc:=[],code:=.kp [0,1] c_Lp_0 }
def c_Lq_10:VC:=
 .ite (.s 9) (.skip) (.exit 0)
def c_Lq_31:VC:=
 .r 12 [M 42 0,
  M 43 5,
  oX 44 42 43 5,
  oF 45 44 4,
  oL 46 45 1,
  M 47 1,
  {op:=.call 48 14 [(.s 46),(.s 47)]},
  M 1 48]
def c_Lq_29:VC:=
 .seq (.r 11 [M 40 1,
  {op:=.bin 41 .add (.s 40) (.k (.int .i64 1))},
  M 1 41]) c_Lq_31
def c_Lq_27:VC:=
 .seq (.r 10 [M 33 0,
  M 34 5,
  M 35 1,
  {op:=.bin 36 .rem (.s 35) (.k (.int .i64 3))},
  {op:=.bin 37 .eql (.s 36) (.k (.int .i64 0))},
  oX 38 33 34 5,
  oF 39 38 3,
  oS 39 37 1]) c_Lq_29
def c_Lq_25:VC:=
 .seq (.r 9 [M 31 1,
  {op:=.bin 32 .add (.s 31) (.k (.int .i64 1))},
  M 1 32]) c_Lq_27
def c_Lq_23:VC:=
 .seq (.r 8 [M 26 0,
  M 27 5,
  M 28 1,
  oX 29 26 27 5,
  oF 30 29 2,
  oS 30 28 1]) c_Lq_25
def c_Lq_21:VC:=
 .seq (.r 7 [M 24 1,
  {op:=.bin 25 .add (.s 24) (.k (.int .i64 1))},
  M 1 25]) c_Lq_23
def c_Lq_19:VC:=
 .seq (.r 6 [M 19 0,
  M 20 5,
  M 21 1,
  oX 22 19 20 5,
  oF 23 22 1,
  oS 23 21 1]) c_Lq_21
def c_Lq_17:VC:=
 .seq (.r 5 [M 17 1,
  {op:=.bin 18 .add (.s 17) (.k (.int .i64 1))},
  M 1 18]) c_Lq_19
def c_Lq_32:VC:=
 .r 3 [M 10 5,
  {op:=.bin 11 .add (.s 10) (.k (.int .i64 1))},
  M 5 11]
def c_Lq_13:VC:=
 .seq (.blk 1 (.seq (.r 4 [M 12 0,
  M 13 5,
  M 14 1,
  oX 15 12 13 5,
  oF 16 15 0,
  oS 16 14 1]) c_Lq_17)) c_Lq_32
def c_Lq_7:VC:=
 .seq (.seq (.r 2 [M 6 5,
  M 7 0,
  {op:=.len 8 (.s 7)},
  {op:=.bin 9 .lss (.s 6) (.s 8)}]) c_Lq_10) c_Lq_13
def c_Lq_5:VC:=
 .blk 0 (.loop [0,1,5] c_Lq_7)
def c_Lq_33:VC:=
 .seq (.r 13 [M 49 1,
  M 4 49]) (.ret)
def c_Lq_2:VC:=
 .seq (.seq (.r 1 [oN 5 0]) c_Lq_5) (.kp [0,1] c_Lq_33)
def c_Lq_0:VC:=
 .seq (.r 0 [oN 4 0]) c_Lq_2
def vf_Lq:VF:={ pm:=[.ms [.sc,.sc,.sc,.sc,.own [.sc]],.ro [.sc]],rm:=[.v [.sc]],nslots:=50,res:=[4],rc:=[],code:=.kp [0,1] c_Lq_0 }
def c_Lo_6:VC:=
 .seq (.r 3 [M 13 1,
  M 4 13]) (.ret)
def c_Lo_4:VC:=
 .seq (.r 2 [oF 9 2 1,
  oL 10 9 1,
  M 11 1,
  {op:=.call 12 63 [(.s 10),(.s 11)]},
  M 1 12]) c_Lo_6
def c_Lo_2:VC:=
 .seq (.r 1 [oF 5 2 0,
  oL 6 5 1,
  M 7 1,
  {op:=.call 8 62 [(.s 6),(.s 7)]},
  M 1 8]) c_Lo_4
def c_Lo_0:VC:=
 .seq (.r 0 [{op:=.box 2 (.s 0)},
  oN 4 0]) c_Lo_2
def vf_Lo:VF:={ pm:=[.mg [.own q3,.own [.sc,.sc,.sc,.sc,.own [.sc]]],.ro [.sc]],rm:=[.v [.sc]],nslots:=14,res:=[4],rc:=[],code:=.kp [0,1] c_Lo_0 }
def c_Ln_10:VC:=
 .ite (.s 9) (.skip) (.exit 0)
def c_Ln_21:VC:=
 .r 7 [M 24 1,
  {op:=.bin 25 .add (.s 24) (.k (.int .i64 1))},
  M 1 25]
def c_Ln_19:VC:=
 .seq (.r 6 [M 19 0,
  M 20 5,
  M 21 1,
  oX 22 19 20 2,
  oF 23 22 1,
  oS 23 21 1]) c_Ln_21
def c_Ln_17:VC:=
 .seq (.r 5 [M 17 1,
  {op:=.bin 18 .add (.s 17) (.k (.int .i64 1))},
  M 1 18]) c_Ln_19
def c_Ln_22:VC:=
 .r 3 [M 10 5,
  {op:=.bin 11 .add (.s 10) (.k (.int .i64 1))},
  M 5 11]
def c_Ln_13:VC:=
 .seq (.blk 1 (.seq (.r 4 [M 12 0,
  M 13 5,
  M 14 1,
  oX 15 12 13 2,
  oF 16 15 0,
  oS 16 14 1]) c_Ln_17)) c_Ln_22
def c_Ln_7:VC:=
 .seq (.seq (.r 2 [M 6 5,
  M 7 0,
  {op:=.len 8 (.s 7)},
  {op:=.bin 9 .lss (.s 6) (.s 8)}]) c_Ln_10) c_Ln_13
def c_Ln_5:VC:=
 .blk 0 (.loop [0,1,5] c_Ln_7)
def c_Ln_23:VC:=
 .seq (.r 8 [M 26 1,
  M 4 26]) (.ret)
def c_Ln_2:VC:=
 .seq (.seq (.r 1 [oN 5 0]) c_Ln_5) (.kp [0,1] c_Ln_23)
def c_Ln_0:VC:=
 .seq (.r 0 [oN 4 0]) c_Ln_2
def vf_Ln:VF:={ pm:=[.ms [.sc,.sc],.ro [.sc]],rm:=[.v [.sc]],nslots:=27,res:=[4],rc:=[],code:=.kp [0,1] c_Ln_0 }
def c_Ls_10:VC:=
 .ite (.s 9) (.skip) (.exit 0)
def c_Ls_29:VC:=
 .r 11 [M 40 1,
  {op:=.bin 41 .add (.s 40) (.k (.int .i64 1))},
  M 1 41]
def c_Ls_27:VC:=
 .seq (.r 10 [M 33 0,
  M 34 5,
  M 35 1,
  {op:=.bin 36 .rem (.s 35) (.k (.int .i64 3))},
  {op:=.bin 37 .eql (.s 36) (.k (.int .i64 0))},
  oX 38 33 34 4,
  oF 39 38 3,
  oS 39 37 1]) c_Ls_29
def c_Ls_25:VC:=
 .seq (.r 9 [M 31 1,
  {op:=.bin 32 .add (.s 31) (.k (.int .i64 1))},
  M 1 32]) c_Ls_27
def c_Ls_23:VC:=
 .seq (.r 8 [M 26 0,
  M 27 5,
  M 28 1,
  oX 29 26 27 4,
  oF 30 29 2,
  oS 30 28 1]) c_Ls_25
def c_Ls_21:VC:=
 .seq (.r 7 [M 24 1,
  {op:=.bin 25 .add (.s 24) (.k (.int .i64 1))},
  M 1 25]) c_Ls_23
def c_Ls_19:VC:=
 .seq (.r 6 [M 19 0,
  M 20 5,
  M 21 1,
  oX 22 19 20 4,
  oF 23 22 1,
  oS 23 21 1]) c_Ls_21
def c_Ls_17:VC:=
 .seq (.r 5 [M 17 1,
  {op:=.bin 18 .add (.s 17) (.k (.int .i64 1))},
  M 1 18]) c_Ls_19
def c_Ls_30:VC:=
 .r 3 [M 10 5,
  {op:=.bin 11 .add (.s 10) (.k (.int .i64 1))},
  M 5 11]
def c_Ls_13:VC:=
 .seq (.blk 1 (.seq (.r 4 [M 12 0,
  M 13 5,
  M 14 1,
  oX 15 12 13 4,
  oF 16 15 0,
  oS 16 14 1]) c_Ls_17)) c_Ls_30
def c_Ls_7:VC:=
 .seq (.seq (.r 2 [M 6 5,
  M 7 0,
  {op:=.len 8 (.s 7)},
  {op:=.bin 9 .lss (.s 6) (.s 8)}]) c_Ls_10) c_Ls_13
def c_Ls_5:VC:=
 .blk 0 (.loop [0,1,5] c_Ls_7)
def c_Ls_31:VC:=
 .seq (.r 12 [M 42 1,
  M 4 42]) (.ret)
def c_Ls_2:VC:=
 .seq (.seq (.r 1 [oN 5 0]) c_Ls_5) (.kp [0,1] c_Ls_31)
def c_Ls_0:VC:=
 .seq (.r 0 [oN 4 0]) c_Ls_2
def vf_Ls:VF:={ pm:=[.ms q4,.ro [.sc]],rm:=[.v [.sc]],nslots:=43,res:=[4],rc:=[],code:=.kp [0,1] c_Ls_0 }
def c_Lr_4:VC:=
 .seq (.r 2 [M 9 1,
  M 4 9]) (.ret)
def c_Lr_2:VC:=
 .seq (.r 1 [oF 5 2 1,
  oL 6 5 1,
  M 7 1,
  {op:=.call 8 91 [(.s 6),(.s 7)]},
  M 1 8]) c_Lr_4
def c_Lr_0:VC:=
 .seq (.r 0 [{op:=.box 2 (.s 0)},
  oN 4 0]) c_Lr_2
def vf_Lr:VF:={ pm:=[.mg [.sc,.own q4,.sc,.sc],.ro [.sc]],rm:=[.v [.sc]],nslots:=10,res:=[4],rc:=[],code:=.kp [0,1] c_Lr_0 }
def c_Lm_10:VC:=
 .ite (.s 9) (.skip) (.exit 0)
def c_Lm_18:VC:=
 .ite (.s 18) (.seq (.r 5 [oN 4 (-1)]) (.ret)) (.skip)
def c_Lm_28:VC:=
 .ite (.s 27) (.seq (.r 8 [oN 4 (-1)]) (.ret)) (.skip)
def c_Lm_38:VC:=
 .ite (.s 36) (.seq (.r 11 [oN 4 (-1)]) (.ret)) (.skip)
def c_Lm_48:VC:=
 .ite (.s 47) (.seq (.r 14 [oN 4 (-1)]) (.ret)) (.skip)
def c_Lm_53:VC:=
 .r 15 [M 48 1,
  {op:=.bin 49 .add (.s 48) (.k (.int .i64 1))},
  M 1 49]
def c_Lm_45:VC:=
 .seq (.seq (.r 13 [M 39 0,
  M 40 5,
  oX 41 39 40 4,
  oF 42 41 3,
  oL 43 42 1,
  M 44 1,
  {op:=.bin 45 .rem (.s 44) (.k (.int .i64 3))},
  {op:=.bin 46 .eql (.s 45) (.k (.int .i64 0))},
  {op:=.beq 47 true (.s 43) (.s 46)}]) c_Lm_48) c_Lm_53
def c_Lm_43:VC:=
 .seq (.r 12 [M 37 1,
  {op:=.bin 38 .add (.s 37) (.k (.int .i64 1))},
  M 1 38]) c_Lm_45
def c_Lm_35:VC:=
 .seq (.seq (.r 10 [M 30 0,
  M 31 5,
  oX 32 30 31 4,
  oF 33 32 2,
  oL 34 33 1,
  M 35 1,
  {op:=.bin 36 .neq (.s 34) (.s 35)}]) c_Lm_38) c_Lm_43
def c_Lm_33:VC:=
 .seq (.r 9 [M 28 1,
  {op:=.bin 29 .add (.s 28) (.k (.int .i64 1))},
  M 1 29]) c_Lm_35
def c_Lm_25:VC:=
 .seq (.seq (.r 7 [M 21 0,
  M 22 5,
  oX 23 21 22 4,
  oF 24 23 1,
  oL 25 24 1,
  M 26 1,
  {op:=.bin 27 .neq (.s 25) (.s 26)}]) c_Lm_28) c_Lm_33
def c_Lm_23:VC:=
 .seq (.r 6 [M 19 1,
  {op:=.bin 20 .add (.s 19) (.k (.int .i64 1))},
  M 1 20]) c_Lm_25
def c_Lm_54:VC:=
 .r 3 [M 10 5,
  {op:=.bin 11 .add (.s 10) (.k (.int .i64 1))},
  M 5 11]
def c_Lm_13:VC:=
 .seq (.blk 1 (.seq (.seq (.r 4 [M 12 0,
  M 13 5,
  oX 14 12 13 4,
  oF 15 14 0,
  oL 16 15 1,
  M 17 1,
  {op:=.bin 18 .neq (.s 16) (.s 17)}]) c_Lm_18) c_Lm_23)) c_Lm_54
def c_Lm_7:VC:=
 .seq (.seq (.r 2 [M 6 5,
  M 7 0,
  {op:=.len 8 (.s 7)},
  {op:=.bin 9 .lss (.s 6) (.s 8)}]) c_Lm_10) c_Lm_13
def c_Lm_5:VC:=
 .blk 0 (.loop [0,1,5] c_Lm_7)
def c_Lm_55:VC:=
 .seq (.r 16 [M 50 1,
  M 4 50]) (.ret)
def c_Lm_2:VC:=
 .seq (.seq (.r 1 [oN 5 0]) c_Lm_5) (.kp [1] c_Lm_55)
def c_Lm_0:VC:=
 .seq (.r 0 [oN 4 0]) c_Lm_2
def vf_Lm:VF:={ pm:=[.ro [.ro q4],.ro [.sc]],rm:=[.v [.sc]],nslots:=51,res:=[4],rc:=[],code:=.kp [0,1] c_Lm_0 }
def c_Ll_7:VC:=
 .ite (.s 10) (.seq (.r 3 [oN 4 (-1)]) (.ret)) (.skip)
def c_Ll_12:VC:=
 .seq (.r 4 [M 11 1,
  M 4 11]) (.ret)
def c_Ll_4:VC:=
 .seq (.seq (.r 2 [M 9 1,
  {op:=.bin 10 .lss (.s 9) (.k (.int .i64 0))}]) c_Ll_7) c_Ll_12
def c_Ll_2:VC:=
 .seq (.r 1 [oF 5 2 1,
  oL 6 5 1,
  M 7 1,
  {op:=.call 8 92 [(.s 6),(.s 7)]},
  M 1 8]) c_Ll_4
def c_Ll_0:VC:=
 .seq (.r 0 [{op:=.box 2 (.s 0)},
  oN 4 0]) c_Ll_2
def vf_Ll:VF:={ pm:=[.ro [.sc,.ro q4,.sc,.sc],.ro [.sc]],rm:=[.v [.sc]],nslots:=12,res:=[4],rc:=[],code:=.kp [0,1] c_Ll_0 }
def c_laws_FnExactRunPlayer_9:VC:=
 .ite (.s 20) (.seq (.r 4 [oK 6 true]) (.ret)) (.skip)
def c_laws_FnExactRunPlayer_19:VC:=
 .ite (.s 25) (.seq (.r 7 [oK 6 true]) (.ret)) (.skip)
def c_laws_FnExactRunPlayer_35:VC:=
 .ite (.s 43) (.seq (.r 13 [oK 6 false]) (.ret)) (.skip)
def c_laws_FnExactRunPlayer_43:VC:=
 .ite (.s 48) (.seq (.r 15 [oK 6 false]) (.ret)) (.skip)
def c_laws_FnExactRunPlayer_51:VC:=
 .ite (.s 53) (.seq (.r 17 [oK 6 false]) (.ret)) (.skip)
def c_laws_FnExactRunPlayer_65:VC:=
 .ite (.s 67) (.seq (.r 22 [oK 6 false]) (.ret)) (.skip)
def c_laws_FnExactRunPlayer_81:VC:=
 .ite (.s 75) (.seq (.r 28 [oK 6 false]) (.ret)) (.skip)
def c_laws_FnExactRunPlayer_89:VC:=
 .ite (.s 78) (.seq (.r 30 [oK 6 false]) (.ret)) (.skip)
def c_laws_FnExactRunPlayer_99:VC:=
 .ite (.s 88) (.seq (.r 33 [oK 6 false]) (.ret)) (.skip)
def c_laws_FnExactRunPlayer_111:VC:=
 .ite (.s 93) (.seq (.r 37 [oK 6 false]) (.ret)) (.skip)
def c_laws_FnExactRunPlayer_119:VC:=
 .ite (.s 96) (.seq (.r 39 [oK 6 false]) (.ret)) (.skip)
def c_laws_FnExactRunPlayer_124:VC:=
 .seq (.r 40 [oK 6 true]) (.ret)
def c_laws_FnExactRunPlayer_116:VC:=
 .seq (.seq (.r 38 [M 94 14,
  M 95 13,
  {op:=.bin 96 .neq (.s 94) (.s 95)}]) c_laws_FnExactRunPlayer_119) c_laws_FnExactRunPlayer_124
def c_laws_FnExactRunPlayer_108:VC:=
 .seq (.seq (.r 36 [M 92 14,
  {op:=.bin 93 .lss (.s 92) (.k (.int .i64 0))}]) c_laws_FnExactRunPlayer_111) c_laws_FnExactRunPlayer_116
def c_laws_FnExactRunPlayer_106:VC:=
 .seq (.r 35 [{op:=.ld 89 (.s 11) 4 true},
  M 90 14,
  {op:=.call 91 41 [(.s 89),(.s 90)]},
  M 14 91]) c_laws_FnExactRunPlayer_108
def c_laws_FnExactRunPlayer_104:VC:=
 .seq (.r 34 [oN 14 1]) c_laws_FnExactRunPlayer_106
def c_laws_FnExactRunPlayer_96:VC:=
 .seq (.seq (.r 32 [{op:=.ld 85 (.s 15) 4 true},
  {op:=.ld 86 (.s 8) 4 true},
  {op:=.call 87 37 [(.s 85),(.s 86)]},
  {op:=.un 88 .not (.s 87)}]) c_laws_FnExactRunPlayer_99) c_laws_FnExactRunPlayer_104
def c_laws_FnExactRunPlayer_94:VC:=
 .seq (.r 31 [{op:=.ld 79 (.s 3) 2 true},
  {op:=.call 80 19 [(.s 79)]},
  M 81 1,
  M 82 2,
  {op:=.call 83 36 [(.s 82)]},
  {op:=.call 84 25 [(.s 80),(.s 81),(.s 83)]},
  {op:=.alloc 15 [.k (.int .i64 0),.o q4,.k (.int .i64 0),.k (.int .i64 0)]},
  oS 15 84 4]) c_laws_FnExactRunPlayer_96
def c_laws_FnExactRunPlayer_86:VC:=
 .seq (.seq (.r 29 [M 76 14,
  M 77 13,
  {op:=.bin 78 .neq (.s 76) (.s 77)}]) c_laws_FnExactRunPlayer_89) c_laws_FnExactRunPlayer_94
def c_laws_FnExactRunPlayer_78:VC:=
 .seq (.seq (.r 27 [M 74 14,
  {op:=.bin 75 .lss (.s 74) (.k (.int .i64 0))}]) c_laws_FnExactRunPlayer_81) c_laws_FnExactRunPlayer_86
def c_laws_FnExactRunPlayer_76:VC:=
 .seq (.r 26 [{op:=.ld 71 (.s 11) 4 true},
  M 72 14,
  {op:=.call 73 41 [(.s 71),(.s 72)]},
  M 14 73]) c_laws_FnExactRunPlayer_78
def c_laws_FnExactRunPlayer_74:VC:=
 .seq (.r 25 [oN 14 1]) c_laws_FnExactRunPlayer_76
def c_laws_FnExactRunPlayer_72:VC:=
 .seq (.r 24 [{op:=.ld 68 (.s 11) 4 true},
  M 69 13,
  {op:=.call 70 40 [(.s 68),(.s 69)]},
  M 13 70]) c_laws_FnExactRunPlayer_74
def c_laws_FnExactRunPlayer_70:VC:=
 .seq (.r 23 [oN 13 1]) c_laws_FnExactRunPlayer_72
def c_laws_FnExactRunPlayer_62:VC:=
 .seq (.seq (.r 21 [M 60 12,
  {op:=.bin 61 .lss (.s 60) (.k (.int .i64 0))},
  M 62 61,
  ⟨none,[],some (62,false),.ld 63 (.s 11) 4 true⟩,
  ⟨none,[],some (62,false),.ld 64 (.s 8) 4 true⟩,
  ⟨none,[],some (62,false),.call 65 37 [(.s 63),(.s 64)]⟩,
  ⟨none,[],some (62,false),.un 66 .not (.s 65)⟩,
  {op:=.pick 67 (.s 62) (.k (.bool true)) (.s 66)}]) c_laws_FnExactRunPlayer_65) c_laws_FnExactRunPlayer_70
def c_laws_FnExactRunPlayer_60:VC:=
 .seq (.r 20 [M 57 10,
  M 58 12,
  {op:=.call 59 39 [(.s 57),(.s 58)]},
  M 12 59]) c_laws_FnExactRunPlayer_62
def c_laws_FnExactRunPlayer_58:VC:=
 .seq (.r 19 [{op:=.ld 54 (.s 9) 2 true},
  M 55 12,
  {op:=.call 56 22 [(.s 54),(.s 55)]},
  M 12 56]) c_laws_FnExactRunPlayer_60
def c_laws_FnExactRunPlayer_56:VC:=
 .seq (.r 18 [oN 12 1]) c_laws_FnExactRunPlayer_58
def c_laws_FnExactRunPlayer_48:VC:=
 .seq (.seq (.r 16 [M 49 10,
  M 50 2,
  {op:=.call 51 36 [(.s 50)]},
  {op:=.call 52 38 [(.s 49),(.s 51)]},
  {op:=.un 53 .not (.s 52)}]) c_laws_FnExactRunPlayer_51) c_laws_FnExactRunPlayer_56
def c_laws_FnExactRunPlayer_40:VC:=
 .seq (.seq (.d 14 [(0,{op:=.ldv 44 (.s 9) 2 true}),
  (1,{op:=.ldv 45 (.s 3) 2 true}),
  (2,{op:=.call 46 19 [(.s 45)]}),
  (3,{op:=.call 47 21 [(.s 44),(.s 46)]}),
  (4,{op:=.un 48 .not (.s 47)})]) c_laws_FnExactRunPlayer_43) c_laws_FnExactRunPlayer_48
def c_laws_FnExactRunPlayer_32:VC:=
 .seq (.seq (.r 12 [{op:=.ld 40 (.s 11) 4 true},
  {op:=.ld 41 (.s 8) 4 true},
  {op:=.call 42 37 [(.s 40),(.s 41)]},
  {op:=.un 43 .not (.s 42)}]) c_laws_FnExactRunPlayer_35) c_laws_FnExactRunPlayer_40
def c_laws_FnExactRunPlayer_30:VC:=
 .seq (.r 11 [{op:=.ld 36 (.s 9) 2 true},
  M 37 1,
  M 38 10,
  {op:=.call 39 25 [(.s 36),(.s 37),(.s 38)]},
  {op:=.alloc 11 [.k (.int .i64 0),.o q4,.k (.int .i64 0),.k (.int .i64 0)]},
  oS 11 39 4]) c_laws_FnExactRunPlayer_32
def c_laws_FnExactRunPlayer_28:VC:=
 .seq (.r 10 [M 34 2,
  {op:=.call 35 36 [(.s 34)]},
  M 10 35]) c_laws_FnExactRunPlayer_30
def c_laws_FnExactRunPlayer_26:VC:=
 .seq (.r 9 [{op:=.ld 32 (.s 3) 2 true},
  {op:=.call 33 19 [(.s 32)]},
  {op:=.alloc 9 [.o q3,.o [.sc,.sc,.sc,.sc,.own [.sc]]]},
  oS 9 33 2]) c_laws_FnExactRunPlayer_28
def c_laws_FnExactRunPlayer_24:VC:=
 .seq (.r 8 [{op:=.ld 26 (.s 3) 2 true},
  {op:=.call 27 19 [(.s 26)]},
  M 28 1,
  M 29 2,
  {op:=.call 30 36 [(.s 29)]},
  {op:=.call 31 26 [(.s 27),(.s 28),(.s 30)]},
  {op:=.alloc 8 [.k (.int .i64 0),.o q4,.k (.int .i64 0),.k (.int .i64 0)]},
  oS 8 31 4]) c_laws_FnExactRunPlayer_26
def c_laws_FnExactRunPlayer_16:VC:=
 .seq (.seq (.r 6 [M 24 7,
  {op:=.bin 25 .lss (.s 24) (.k (.int .i64 0))}]) c_laws_FnExactRunPlayer_19) c_laws_FnExactRunPlayer_24
def c_laws_FnExactRunPlayer_14:VC:=
 .seq (.r 5 [M 21 2,
  M 22 7,
  {op:=.call 23 35 [(.s 21),(.s 22)]},
  M 7 23]) c_laws_FnExactRunPlayer_16
def c_laws_FnExactRunPlayer_6:VC:=
 .seq (.seq (.r 3 [M 19 7,
  {op:=.bin 20 .lss (.s 19) (.k (.int .i64 0))}]) c_laws_FnExactRunPlayer_9) c_laws_FnExactRunPlayer_14
def c_laws_FnExactRunPlayer_4:VC:=
 .seq (.r 2 [{op:=.ld 16 (.s 3) 2 true},
  M 17 7,
  {op:=.call 18 17 [(.s 16),(.s 17)]},
  M 7 18]) c_laws_FnExactRunPlayer_6
def c_laws_FnExactRunPlayer_2:VC:=
 .seq (.r 1 [oN 7 1048576]) c_laws_FnExactRunPlayer_4
def c_laws_FnExactRunPlayer_0:VC:=
 .seq (.r 0 [{op:=.box 3 (.s 0)},
  oK 6 false]) c_laws_FnExactRunPlayer_2
def vf_laws_FnExactRunPlayer:VF:={ pm:=[.ro [.ro q3,.ro q5],.ro [.sc],.ro [.ro [.sc,.sc]]],rm:=[.v [.sc]],nslots:=97,res:=[6],rc:=[],code:=.kp [0,1,2] c_laws_FnExactRunPlayer_0 }
def ext:FuncId→List Arg→Option FRes:=fun f ars=>none
def tblL:List (FuncId×VF):=[(101,vf_Lba),(46,vf_Lbb),(141,vf_Lx),(102,vf_Ly),(47,vf_Lz),(17,vf_Lw),(35,vf_Lv),(110,vf_Lbi),(52,vf_Lbj),(10,vf_Lbf),(111,vf_Lbg),(53,vf_Lbh),(19,vf_Lbe),(88,vf_Lbc),(36,vf_Lbd),(139,vf_Sc),(97,vf_Sg),(142,vf_Sh),(127,vf_Sf),(103,vf_Se),(104,vf_Sd),(48,vf_Sa),(74,vf_Si),(75,vf_Sj),(76,vf_Sm),(124,vf_Sl),(125,vf_Sk),(77,vf_Sn),(126,vf_So),(78,vf_Sp),(26,vf_Sb),(131,vf_Il),(133,vf_Ik),(112,vf_Ij),(113,vf_If),(54,vf_Ia),(122,vf_Id),(70,vf_Ic),(71,vf_Ie),(123,vf_Ig),(72,vf_Ih),(73,vf_Ii),(25,vf_Ib),(137,vf_Lh),(89,vf_Li),(37,vf_Lg),(114,vf_Lj),(60,vf_Lk),(13,vf_Ld),(115,vf_Le),(61,vf_Lf),(21,vf_Lc),(90,vf_La),(38,vf_Lb),(116,vf_Lt),(62,vf_Lu),(14,vf_Lp),(63,vf_Lq),(22,vf_Lo),(39,vf_Ln),(91,vf_Ls),(40,vf_Lr),(92,vf_Lm),(41,vf_Ll),(8,vf_laws_FnExactRunPlayer)]
def tbl:FuncId→Option VF:=fun f=>tblL.lookup f
end Go.Proofs.V

namespace Go.Proofs.V
open Go
theorem fi_Lba:funcIs Go.Proofs.Try.prog tbl 101 vf_Lba=true:=by kernel_rfl
theorem fi_Lbb:funcIs Go.Proofs.Try.prog tbl 46 vf_Lbb=true:=by kernel_rfl
theorem fi_Lx:funcIs Go.Proofs.Try.prog tbl 141 vf_Lx=true:=by kernel_rfl
theorem fi_Ly:funcIs Go.Proofs.Try.prog tbl 102 vf_Ly=true:=by kernel_rfl
theorem fi_Lz:funcIs Go.Proofs.Try.prog tbl 47 vf_Lz=true:=by kernel_rfl
theorem fi_Lw:funcIs Go.Proofs.Try.prog tbl 17 vf_Lw=true:=by kernel_rfl
theorem fi_Lv:funcIs Go.Proofs.Try.prog tbl 35 vf_Lv=true:=by kernel_rfl
theorem fi_Lbi:funcIs Go.Proofs.Try.prog tbl 110 vf_Lbi=true:=by kernel_rfl
theorem fi_Lbj:funcIs Go.Proofs.Try.prog tbl 52 vf_Lbj=true:=by kernel_rfl
theorem fi_Lbf:funcIs Go.Proofs.Try.prog tbl 10 vf_Lbf=true:=by kernel_rfl
theorem fi_Lbg:funcIs Go.Proofs.Try.prog tbl 111 vf_Lbg=true:=by kernel_rfl
theorem fi_Lbh:funcIs Go.Proofs.Try.prog tbl 53 vf_Lbh=true:=by kernel_rfl
theorem fi_Lbe:funcIs Go.Proofs.Try.prog tbl 19 vf_Lbe=true:=by kernel_rfl
theorem fi_Lbc:funcIs Go.Proofs.Try.prog tbl 88 vf_Lbc=true:=by kernel_rfl
theorem fi_Lbd:funcIs Go.Proofs.Try.prog tbl 36 vf_Lbd=true:=by kernel_rfl
theorem fi_Sc:funcIs Go.Proofs.Try.prog tbl 139 vf_Sc=true:=by kernel_rfl
theorem fi_Sg:funcIs Go.Proofs.Try.prog tbl 97 vf_Sg=true:=by kernel_rfl
theorem fi_Sh:funcIs Go.Proofs.Try.prog tbl 142 vf_Sh=true:=by kernel_rfl
theorem fi_Sf:funcIs Go.Proofs.Try.prog tbl 127 vf_Sf=true:=by kernel_rfl
theorem fi_Se:funcIs Go.Proofs.Try.prog tbl 103 vf_Se=true:=by kernel_rfl
theorem fi_Sd:funcIs Go.Proofs.Try.prog tbl 104 vf_Sd=true:=by kernel_rfl
theorem fi_Sa:funcIs Go.Proofs.Try.prog tbl 48 vf_Sa=true:=by kernel_rfl
theorem fi_Si:funcIs Go.Proofs.Try.prog tbl 74 vf_Si=true:=by kernel_rfl
theorem fi_Sj:funcIs Go.Proofs.Try.prog tbl 75 vf_Sj=true:=by kernel_rfl
theorem fi_Sm:funcIs Go.Proofs.Try.prog tbl 76 vf_Sm=true:=by kernel_rfl
theorem fi_Sl:funcIs Go.Proofs.Try.prog tbl 124 vf_Sl=true:=by kernel_rfl
theorem fi_Sk:funcIs Go.Proofs.Try.prog tbl 125 vf_Sk=true:=by kernel_rfl
theorem fi_Sn:funcIs Go.Proofs.Try.prog tbl 77 vf_Sn=true:=by kernel_rfl
theorem fi_So:funcIs Go.Proofs.Try.prog tbl 126 vf_So=true:=by kernel_rfl
theorem fi_Sp:funcIs Go.Proofs.Try.prog tbl 78 vf_Sp=true:=by kernel_rfl
theorem fi_Sb:funcIs Go.Proofs.Try.prog tbl 26 vf_Sb=true:=by kernel_rfl
theorem fi_Il:funcIs Go.Proofs.Try.prog tbl 131 vf_Il=true:=by kernel_rfl
theorem fi_Ik:funcIs Go.Proofs.Try.prog tbl 133 vf_Ik=true:=by kernel_rfl
theorem fi_Ij:funcIs Go.Proofs.Try.prog tbl 112 vf_Ij=true:=by kernel_rfl
theorem fi_If:funcIs Go.Proofs.Try.prog tbl 113 vf_If=true:=by kernel_rfl
theorem fi_Ia:funcIs Go.Proofs.Try.prog tbl 54 vf_Ia=true:=by kernel_rfl
theorem fi_Id:funcIs Go.Proofs.Try.prog tbl 122 vf_Id=true:=by kernel_rfl
theorem fi_Ic:funcIs Go.Proofs.Try.prog tbl 70 vf_Ic=true:=by kernel_rfl
theorem fi_Ie:funcIs Go.Proofs.Try.prog tbl 71 vf_Ie=true:=by kernel_rfl
theorem fi_Ig:funcIs Go.Proofs.Try.prog tbl 123 vf_Ig=true:=by kernel_rfl
theorem fi_Ih:funcIs Go.Proofs.Try.prog tbl 72 vf_Ih=true:=by kernel_rfl
theorem fi_Ii:funcIs Go.Proofs.Try.prog tbl 73 vf_Ii=true:=by kernel_rfl
theorem fi_Ib:funcIs Go.Proofs.Try.prog tbl 25 vf_Ib=true:=by kernel_rfl
theorem fi_Lh:funcIs Go.Proofs.Try.prog tbl 137 vf_Lh=true:=by kernel_rfl
theorem fi_Li:funcIs Go.Proofs.Try.prog tbl 89 vf_Li=true:=by kernel_rfl
theorem fi_Lg:funcIs Go.Proofs.Try.prog tbl 37 vf_Lg=true:=by kernel_rfl
theorem fi_Lj:funcIs Go.Proofs.Try.prog tbl 114 vf_Lj=true:=by kernel_rfl
theorem fi_Lk:funcIs Go.Proofs.Try.prog tbl 60 vf_Lk=true:=by kernel_rfl
theorem fi_Ld:funcIs Go.Proofs.Try.prog tbl 13 vf_Ld=true:=by kernel_rfl
theorem fi_Le:funcIs Go.Proofs.Try.prog tbl 115 vf_Le=true:=by kernel_rfl
theorem fi_Lf:funcIs Go.Proofs.Try.prog tbl 61 vf_Lf=true:=by kernel_rfl
theorem fi_Lc:funcIs Go.Proofs.Try.prog tbl 21 vf_Lc=true:=by kernel_rfl
theorem fi_La:funcIs Go.Proofs.Try.prog tbl 90 vf_La=true:=by kernel_rfl
theorem fi_Lb:funcIs Go.Proofs.Try.prog tbl 38 vf_Lb=true:=by kernel_rfl
theorem fi_Lt:funcIs Go.Proofs.Try.prog tbl 116 vf_Lt=true:=by kernel_rfl
theorem fi_Lu:funcIs Go.Proofs.Try.prog tbl 62 vf_Lu=true:=by kernel_rfl
theorem fi_Lp:funcIs Go.Proofs.Try.prog tbl 14 vf_Lp=true:=by kernel_rfl
theorem fi_Lq:funcIs Go.Proofs.Try.prog tbl 63 vf_Lq=true:=by kernel_rfl
theorem fi_Lo:funcIs Go.Proofs.Try.prog tbl 22 vf_Lo=true:=by kernel_rfl
theorem fi_Ln:funcIs Go.Proofs.Try.prog tbl 39 vf_Ln=true:=by kernel_rfl
theorem fi_Ls:funcIs Go.Proofs.Try.prog tbl 91 vf_Ls=true:=by kernel_rfl
theorem fi_Lr:funcIs Go.Proofs.Try.prog tbl 40 vf_Lr=true:=by kernel_rfl
theorem fi_Lm:funcIs Go.Proofs.Try.prog tbl 92 vf_Lm=true:=by kernel_rfl
theorem fi_Ll:funcIs Go.Proofs.Try.prog tbl 41 vf_Ll=true:=by kernel_rfl
theorem fi_laws_FnExactRunPlayer:funcIs Go.Proofs.Try.prog tbl 8 vf_laws_FnExactRunPlayer=true:=by kernel_rfl
def gI:GInv:=gNone
end Go.Proofs.V

namespace Go.Proofs.V
open Go
abbrev EE (c : VC) (K : List Fr) (s : St) (Q : VX → St → Prop) : Prop := EvU ext tbl (.c c) K s Q
def as_Lba (p0:S_Track) (p1:Int):List Arg:=[.v true [.lit (vI p0.kind),.lit (vI p0.scale),.lit (.string p0.name)],.v false [.lit (vI p1)]]
def res_Lba (r:Int):FRes:=⟨[.v false [.lit (vI r)]],[]⟩
def as_Lbb (p0:(List S_Track)) (p1:Int):List Arg:=[.v false [.sl (p0.map rS_Track)],.v false [.lit (vI p1)]]
def res_Lbb (r:Int):FRes:=⟨[.v false [.lit (vI r)]],[]⟩
def as_Lx (p0:(List Int)) (p1:Int):List Arg:=[.v false [.sl (p0.map (rI .u8))],.v false [.lit (vI p1)]]
def res_Lx (r:Int):FRes:=⟨[.v false [.lit (vI r)]],[]⟩
def as_Ly (p0:S_Packet) (p1:Int):List Arg:=[.v true [.lit (vI p0.track),.lit (vI p0.time),.lit (vI p0.span),.lit (.bool p0.key),.sl (p0.data.map (rI .u8))],.v false [.lit (vI p1)]]
def res_Ly (r:Int):FRes:=⟨[.v false [.lit (vI r)]],[]⟩
def as_Lz (p0:(List S_Packet)) (p1:Int):List Arg:=[.v false [.sl (p0.map rS_Packet)],.v false [.lit (vI p1)]]
def res_Lz (r:Int):FRes:=⟨[.v false [.lit (vI r)]],[]⟩
def as_Lw (p0:S_Box) (p1:Int):List Arg:=[.v true [.sl (p0.tracks.map rS_Track),.sl (p0.packets.map rS_Packet)],.v false [.lit (vI p1)]]
def res_Lw (r:Int):FRes:=⟨[.v false [.lit (vI r)]],[]⟩
def as_Lv (p0:(List S_Act)) (p1:Int):List Arg:=[.v false [.sl (p0.map rS_Act)],.v false [.lit (vI p1)]]
def res_Lv (r:Int):FRes:=⟨[.v false [.lit (vI r)]],[]⟩
def as_Lbi (p0:S_Track):List Arg:=[.v true [.lit (vI p0.kind),.lit (vI p0.scale),.lit (.string p0.name)]]
def res_Lbi (r:S_Track):FRes:=⟨[.v true [.lit (vI r.kind),.lit (vI r.scale),.lit (.string r.name)]],[]⟩
def as_Lbj (p0:(List S_Track)):List Arg:=[.v false [.sl (p0.map rS_Track)]]
def res_Lbj (r:(List S_Track)):FRes:=⟨[.v false [.sl (r.map rS_Track)]],[]⟩
def as_Lbf (p0:(List Int)):List Arg:=[.v false [.sl (p0.map (rI .u8))]]
def res_Lbf (r:(List Int)):FRes:=⟨[.v false [.sl (r.map (rI .u8))]],[]⟩
def as_Lbg (p0:S_Packet):List Arg:=[.v true [.lit (vI p0.track),.lit (vI p0.time),.lit (vI p0.span),.lit (.bool p0.key),.sl (p0.data.map (rI .u8))]]
def res_Lbg (r:S_Packet):FRes:=⟨[.v true [.lit (vI r.track),.lit (vI r.time),.lit (vI r.span),.lit (.bool r.key),.sl (r.data.map (rI .u8))]],[]⟩
def as_Lbh (p0:(List S_Packet)):List Arg:=[.v false [.sl (p0.map rS_Packet)]]
def res_Lbh (r:(List S_Packet)):FRes:=⟨[.v false [.sl (r.map rS_Packet)]],[]⟩
def as_Lbe (p0:S_Box):List Arg:=[.v true [.sl (p0.tracks.map rS_Track),.sl (p0.packets.map rS_Packet)]]
def res_Lbe (r:S_Box):FRes:=⟨[.v true [.sl (r.tracks.map rS_Track),.sl (r.packets.map rS_Packet)]],[]⟩
def as_Lbc (p0:S_Act):List Arg:=[.v true [.lit (vI p0.kind),.lit (vI p0.value)]]
def res_Lbc (r:S_Act):FRes:=⟨[.v true [.lit (vI r.kind),.lit (vI r.value)]],[]⟩
def as_Lbd (p0:(List S_Act)):List Arg:=[.v false [.sl (p0.map rS_Act)]]
def res_Lbd (r:(List S_Act)):FRes:=⟨[.v false [.sl (r.map rS_Act)]],[]⟩
def as_Sc (p0:ByteArray):List Arg:=[.v false [.lit (.string p0)]]
def res_Sc (r:Bool):FRes:=⟨[.v false [.lit (.bool r)]],[]⟩
def as_Sg (p0:S_Track):List Arg:=[.v true [.lit (vI p0.kind),.lit (vI p0.scale),.lit (.string p0.name)]]
def res_Sg (r:Bool):FRes:=⟨[.v false [.lit (.bool r)]],[]⟩
def as_Sh (p0:(List S_Track)):List Arg:=[.v false [.sl (p0.map rS_Track)]]
def res_Sh (r:Bool):FRes:=⟨[.v false [.lit (.bool r)]],[]⟩
def as_Sf (p0:Int):List Arg:=[.v false [.lit (vI p0)]]
def res_Sf (r:Bool):FRes:=⟨[.v false [.lit (.bool r)]],[]⟩
def as_Se (p0:S_Box):List Arg:=[.v true [.sl (p0.tracks.map rS_Track),.sl (p0.packets.map rS_Packet)]]
def res_Se (r:Bool):FRes:=⟨[.v false [.lit (.bool r)]],[]⟩
def as_Sd (p0:S_Box) (p1 p2:Int):List Arg:=[.v true [.sl (p0.tracks.map rS_Track),.sl (p0.packets.map rS_Packet)],.v false [.lit (vI p1)],.v false [.lit (vI p2)]]
def res_Sd (r:Bool):FRes:=⟨[.v false [.lit (.bool r)]],[]⟩
def as_Sa (p0:S_Box):List Arg:=[.v true [.sl (p0.tracks.map rS_Track),.sl (p0.packets.map rS_Packet)]]
def res_Sa (r:Bool):FRes:=⟨[.v false [.lit (.bool r)]],[]⟩
def as_Si (p0:S_Act):List Arg:=[.v true [.lit (vI p0.kind),.lit (vI p0.value)]]
def res_Si (r:Bool):FRes:=⟨[.v false [.lit (.bool r)]],[]⟩
def as_Sj (p0:S_Box) (p1:Int):List Arg:=[.v true [.sl (p0.tracks.map rS_Track),.sl (p0.packets.map rS_Packet)],.v false [.lit (vI p1)]]
def res_Sj (r:Int):FRes:=⟨[.v false [.lit (vI r)]],[]⟩
def as_Sm (p0:S_l17P):List Arg:=[.m (.pt [.sl (p0.b.tracks.map rS_Track),.sl (p0.b.packets.map rS_Packet),.sl (p0.due.map (rI .i64)),.lit (vI p0.speed),.lit (vI p0.wall),.lit (vI p0.clock),.lit (vI p0.pace),.lit (.bool p0.playing),.lit (vI p0.busy),.sl (p0.gone.map rB),.lit (vI p0.left),.lit (vI p0.soon),.sl (p0.drop.map rB),.sl (p0.shows.map rS_Show)])]
def res_Sm (r:S_l17P):FRes:=⟨[],[.pt [.sl (r.b.tracks.map rS_Track),.sl (r.b.packets.map rS_Packet),.sl (r.due.map (rI .i64)),.lit (vI r.speed),.lit (vI r.wall),.lit (vI r.clock),.lit (vI r.pace),.lit (.bool r.playing),.lit (vI r.busy),.sl (r.gone.map rB),.lit (vI r.left),.lit (vI r.soon),.sl (r.drop.map rB),.sl (r.shows.map rS_Show)]]⟩
def as_Sl (p0:S_l17P):List Arg:=[.m (.pt [.sl (p0.b.tracks.map rS_Track),.sl (p0.b.packets.map rS_Packet),.sl (p0.due.map (rI .i64)),.lit (vI p0.speed),.lit (vI p0.wall),.lit (vI p0.clock),.lit (vI p0.pace),.lit (.bool p0.playing),.lit (vI p0.busy),.sl (p0.gone.map rB),.lit (vI p0.left),.lit (vI p0.soon),.sl (p0.drop.map rB),.sl (p0.shows.map rS_Show)])]
def res_Sl (r:Int×S_l17P):FRes:=⟨[.v false [.lit (vI r.1)]],[.pt [.sl (r.2.b.tracks.map rS_Track),.sl (r.2.b.packets.map rS_Packet),.sl (r.2.due.map (rI .i64)),.lit (vI r.2.speed),.lit (vI r.2.wall),.lit (vI r.2.clock),.lit (vI r.2.pace),.lit (.bool r.2.playing),.lit (vI r.2.busy),.sl (r.2.gone.map rB),.lit (vI r.2.left),.lit (vI r.2.soon),.sl (r.2.drop.map rB),.sl (r.2.shows.map rS_Show)]]⟩
def as_Sk (p0:S_l17P) (p1:Int):List Arg:=[.m (.pt [.sl (p0.b.tracks.map rS_Track),.sl (p0.b.packets.map rS_Packet),.sl (p0.due.map (rI .i64)),.lit (vI p0.speed),.lit (vI p0.wall),.lit (vI p0.clock),.lit (vI p0.pace),.lit (.bool p0.playing),.lit (vI p0.busy),.sl (p0.gone.map rB),.lit (vI p0.left),.lit (vI p0.soon),.sl (p0.drop.map rB),.sl (p0.shows.map rS_Show)]),.v false [.lit (vI p1)]]
def res_Sk (r:Int×S_l17P):FRes:=⟨[.v false [.lit (vI r.1)]],[.pt [.sl (r.2.b.tracks.map rS_Track),.sl (r.2.b.packets.map rS_Packet),.sl (r.2.due.map (rI .i64)),.lit (vI r.2.speed),.lit (vI r.2.wall),.lit (vI r.2.clock),.lit (vI r.2.pace),.lit (.bool r.2.playing),.lit (vI r.2.busy),.sl (r.2.gone.map rB),.lit (vI r.2.left),.lit (vI r.2.soon),.sl (r.2.drop.map rB),.sl (r.2.shows.map rS_Show)]]⟩
def as_Sn (p0:S_l17P) (p1:Int):List Arg:=[.m (.pt [.sl (p0.b.tracks.map rS_Track),.sl (p0.b.packets.map rS_Packet),.sl (p0.due.map (rI .i64)),.lit (vI p0.speed),.lit (vI p0.wall),.lit (vI p0.clock),.lit (vI p0.pace),.lit (.bool p0.playing),.lit (vI p0.busy),.sl (p0.gone.map rB),.lit (vI p0.left),.lit (vI p0.soon),.sl (p0.drop.map rB),.sl (p0.shows.map rS_Show)]),.v false [.lit (vI p1)]]
def res_Sn (r:S_l17P):FRes:=⟨[],[.pt [.sl (r.b.tracks.map rS_Track),.sl (r.b.packets.map rS_Packet),.sl (r.due.map (rI .i64)),.lit (vI r.speed),.lit (vI r.wall),.lit (vI r.clock),.lit (vI r.pace),.lit (.bool r.playing),.lit (vI r.busy),.sl (r.gone.map rB),.lit (vI r.left),.lit (vI r.soon),.sl (r.drop.map rB),.sl (r.shows.map rS_Show)]]⟩
def as_So (p0:S_l17P) (p1:Int):List Arg:=[.m (.pt [.sl (p0.b.tracks.map rS_Track),.sl (p0.b.packets.map rS_Packet),.sl (p0.due.map (rI .i64)),.lit (vI p0.speed),.lit (vI p0.wall),.lit (vI p0.clock),.lit (vI p0.pace),.lit (.bool p0.playing),.lit (vI p0.busy),.sl (p0.gone.map rB),.lit (vI p0.left),.lit (vI p0.soon),.sl (p0.drop.map rB),.sl (p0.shows.map rS_Show)]),.v false [.lit (vI p1)]]
def res_So (r:S_l17P):FRes:=⟨[],[.pt [.sl (r.b.tracks.map rS_Track),.sl (r.b.packets.map rS_Packet),.sl (r.due.map (rI .i64)),.lit (vI r.speed),.lit (vI r.wall),.lit (vI r.clock),.lit (vI r.pace),.lit (.bool r.playing),.lit (vI r.busy),.sl (r.gone.map rB),.lit (vI r.left),.lit (vI r.soon),.sl (r.drop.map rB),.sl (r.shows.map rS_Show)]]⟩
def as_Sp (p0:S_l17P):List Arg:=[.m (.pt [.sl (p0.b.tracks.map rS_Track),.sl (p0.b.packets.map rS_Packet),.sl (p0.due.map (rI .i64)),.lit (vI p0.speed),.lit (vI p0.wall),.lit (vI p0.clock),.lit (vI p0.pace),.lit (.bool p0.playing),.lit (vI p0.busy),.sl (p0.gone.map rB),.lit (vI p0.left),.lit (vI p0.soon),.sl (p0.drop.map rB),.sl (p0.shows.map rS_Show)])]
def res_Sp (r:S_l17P):FRes:=⟨[],[.pt [.sl (r.b.tracks.map rS_Track),.sl (r.b.packets.map rS_Packet),.sl (r.due.map (rI .i64)),.lit (vI r.speed),.lit (vI r.wall),.lit (vI r.clock),.lit (vI r.pace),.lit (.bool r.playing),.lit (vI r.busy),.sl (r.gone.map rB),.lit (vI r.left),.lit (vI r.soon),.sl (r.drop.map rB),.sl (r.shows.map rS_Show)]]⟩
def as_Sb (p0:S_Box) (p1:Int) (p2:(List S_Act)):List Arg:=[.v true [.sl (p0.tracks.map rS_Track),.sl (p0.packets.map rS_Packet)],.v false [.lit (vI p1)],.v false [.sl (p2.map rS_Act)]]
def res_Sb (r:S_Played):FRes:=⟨[.v true [.lit (vI r.err),.sl (r.shows.map rS_Show),.lit (vI r.wall),.lit (vI r.clock)]],[]⟩
def as_Il (p0:S_Track):List Arg:=[.v true [.lit (vI p0.kind),.lit (vI p0.scale),.lit (.string p0.name)]]
def res_Il (r:Bool):FRes:=⟨[.v false [.lit (.bool r)]],[]⟩
def as_Ik (p0:Int):List Arg:=[.v false [.lit (vI p0)]]
def res_Ik (r:Bool):FRes:=⟨[.v false [.lit (.bool r)]],[]⟩
def as_Ij (p0:S_Box):List Arg:=[.v true [.sl (p0.tracks.map rS_Track),.sl (p0.packets.map rS_Packet)]]
def res_Ij (r:Bool):FRes:=⟨[.v false [.lit (.bool r)]],[]⟩
def as_If (p0:S_Box) (p1 p2:Int):List Arg:=[.v true [.sl (p0.tracks.map rS_Track),.sl (p0.packets.map rS_Packet)],.v false [.lit (vI p1)],.v false [.lit (vI p2)]]
def res_If (r:Bool):FRes:=⟨[.v false [.lit (.bool r)]],[]⟩
def as_Ia (p0:S_Box):List Arg:=[.v true [.sl (p0.tracks.map rS_Track),.sl (p0.packets.map rS_Packet)]]
def res_Ia (r:Bool):FRes:=⟨[.v false [.lit (.bool r)]],[]⟩
def as_Id (p0 p1:Int) (p2:S_Act):List Arg:=[.v false [.lit (vI p0)],.v false [.lit (vI p1)],.m (.pt [.lit (vI p2.kind),.lit (vI p2.value)])]
def res_Id (r:Bool×S_Act):FRes:=⟨[.v false [.lit (.bool r.1)]],[.pt [.lit (vI r.2.kind),.lit (vI r.2.value)]]⟩
def as_Ic (p0:S_Act):List Arg:=[.v true [.lit (vI p0.kind),.lit (vI p0.value)]]
def res_Ic (r:Bool):FRes:=⟨[.v false [.lit (.bool r)]],[]⟩
def as_Ie (p0:S_Box) (p1:Int):List Arg:=[.v true [.sl (p0.tracks.map rS_Track),.sl (p0.packets.map rS_Packet)],.v false [.lit (vI p1)]]
def res_Ie (r:Int):FRes:=⟨[.v false [.lit (vI r)]],[]⟩
def as_Ig (p0:S_zplayer) (p1:Int):List Arg:=[.m (.pt [.sl (p0.b.tracks.map rS_Track),.sl (p0.b.packets.map rS_Packet),.lit (vI p0.speed),.sl (p0.due.map (rI .i64)),.sl (p0.gone.map rB),.lit (vI p0.next),.sl (p0.dropping.map rB),.lit (vI p0.wall),.lit (vI p0.clock),.lit (vI p0.busy),.sl (p0.shows.map rS_Show)]),.v false [.lit (vI p1)]]
def res_Ig (r:Int×S_zplayer):FRes:=⟨[.v false [.lit (vI r.1)]],[.pt [.sl (r.2.b.tracks.map rS_Track),.sl (r.2.b.packets.map rS_Packet),.lit (vI r.2.speed),.sl (r.2.due.map (rI .i64)),.sl (r.2.gone.map rB),.lit (vI r.2.next),.sl (r.2.dropping.map rB),.lit (vI r.2.wall),.lit (vI r.2.clock),.lit (vI r.2.busy),.sl (r.2.shows.map rS_Show)]]⟩
def as_Ih (p0:S_zplayer) (p1:Int):List Arg:=[.m (.pt [.sl (p0.b.tracks.map rS_Track),.sl (p0.b.packets.map rS_Packet),.lit (vI p0.speed),.sl (p0.due.map (rI .i64)),.sl (p0.gone.map rB),.lit (vI p0.next),.sl (p0.dropping.map rB),.lit (vI p0.wall),.lit (vI p0.clock),.lit (vI p0.busy),.sl (p0.shows.map rS_Show)]),.v false [.lit (vI p1)]]
def res_Ih (r:S_zplayer):FRes:=⟨[],[.pt [.sl (r.b.tracks.map rS_Track),.sl (r.b.packets.map rS_Packet),.lit (vI r.speed),.sl (r.due.map (rI .i64)),.sl (r.gone.map rB),.lit (vI r.next),.sl (r.dropping.map rB),.lit (vI r.wall),.lit (vI r.clock),.lit (vI r.busy),.sl (r.shows.map rS_Show)]]⟩
def as_Ii (p0:S_zplayer):List Arg:=[.m (.pt [.sl (p0.b.tracks.map rS_Track),.sl (p0.b.packets.map rS_Packet),.lit (vI p0.speed),.sl (p0.due.map (rI .i64)),.sl (p0.gone.map rB),.lit (vI p0.next),.sl (p0.dropping.map rB),.lit (vI p0.wall),.lit (vI p0.clock),.lit (vI p0.busy),.sl (p0.shows.map rS_Show)])]
def res_Ii (r:S_zplayer):FRes:=⟨[],[.pt [.sl (r.b.tracks.map rS_Track),.sl (r.b.packets.map rS_Packet),.lit (vI r.speed),.sl (r.due.map (rI .i64)),.sl (r.gone.map rB),.lit (vI r.next),.sl (r.dropping.map rB),.lit (vI r.wall),.lit (vI r.clock),.lit (vI r.busy),.sl (r.shows.map rS_Show)]]⟩
def as_Ib (p0:S_Box) (p1:Int) (p2:(List S_Act)):List Arg:=[.v true [.sl (p0.tracks.map rS_Track),.sl (p0.packets.map rS_Packet)],.v false [.lit (vI p1)],.v false [.sl (p2.map rS_Act)]]
def res_Ib (r:S_Played):FRes:=⟨[.v true [.lit (vI r.err),.sl (r.shows.map rS_Show),.lit (vI r.wall),.lit (vI r.clock)]],[]⟩
def as_Lh (p0 p1:S_Show):List Arg:=[.v true [.lit (vI p0.wall),.lit (vI p0.clock),.lit (vI p0.packet),.lit (.bool p0.dropped)],.v true [.lit (vI p1.wall),.lit (vI p1.clock),.lit (vI p1.packet),.lit (.bool p1.dropped)]]
def res_Lh (r:Bool):FRes:=⟨[.v false [.lit (.bool r)]],[]⟩
def as_Li (p0 p1:(List S_Show)):List Arg:=[.v false [.sl (p0.map rS_Show)],.v false [.sl (p1.map rS_Show)]]
def res_Li (r:Bool):FRes:=⟨[.v false [.lit (.bool r)]],[]⟩
def as_Lg (p0 p1:S_Played):List Arg:=[.v true [.lit (vI p0.err),.sl (p0.shows.map rS_Show),.lit (vI p0.wall),.lit (vI p0.clock)],.v true [.lit (vI p1.err),.sl (p1.shows.map rS_Show),.lit (vI p1.wall),.lit (vI p1.clock)]]
def res_Lg (r:Bool):FRes:=⟨[.v false [.lit (.bool r)]],[]⟩
def as_Lj (p0 p1:S_Track):List Arg:=[.v true [.lit (vI p0.kind),.lit (vI p0.scale),.lit (.string p0.name)],.v true [.lit (vI p1.kind),.lit (vI p1.scale),.lit (.string p1.name)]]
def res_Lj (r:Bool):FRes:=⟨[.v false [.lit (.bool r)]],[]⟩
def as_Lk (p0 p1:(List S_Track)):List Arg:=[.v false [.sl (p0.map rS_Track)],.v false [.sl (p1.map rS_Track)]]
def res_Lk (r:Bool):FRes:=⟨[.v false [.lit (.bool r)]],[]⟩
def as_Ld (p0 p1:(List Int)):List Arg:=[.v false [.sl (p0.map (rI .u8))],.v false [.sl (p1.map (rI .u8))]]
def res_Ld (r:Bool):FRes:=⟨[.v false [.lit (.bool r)]],[]⟩
def as_Le (p0 p1:S_Packet):List Arg:=[.v true [.lit (vI p0.track),.lit (vI p0.time),.lit (vI p0.span),.lit (.bool p0.key),.sl (p0.data.map (rI .u8))],.v true [.lit (vI p1.track),.lit (vI p1.time),.lit (vI p1.span),.lit (.bool p1.key),.sl (p1.data.map (rI .u8))]]
def res_Le (r:Bool):FRes:=⟨[.v false [.lit (.bool r)]],[]⟩
def as_Lf (p0 p1:(List S_Packet)):List Arg:=[.v false [.sl (p0.map rS_Packet)],.v false [.sl (p1.map rS_Packet)]]
def res_Lf (r:Bool):FRes:=⟨[.v false [.lit (.bool r)]],[]⟩
def as_Lc (p0 p1:S_Box):List Arg:=[.v true [.sl (p0.tracks.map rS_Track),.sl (p0.packets.map rS_Packet)],.v true [.sl (p1.tracks.map rS_Track),.sl (p1.packets.map rS_Packet)]]
def res_Lc (r:Bool):FRes:=⟨[.v false [.lit (.bool r)]],[]⟩
def as_La (p0 p1:S_Act):List Arg:=[.v true [.lit (vI p0.kind),.lit (vI p0.value)],.v true [.lit (vI p1.kind),.lit (vI p1.value)]]
def res_La (r:Bool):FRes:=⟨[.v false [.lit (.bool r)]],[]⟩
def as_Lb (p0 p1:(List S_Act)):List Arg:=[.v false [.sl (p0.map rS_Act)],.v false [.sl (p1.map rS_Act)]]
def res_Lb (r:Bool):FRes:=⟨[.v false [.lit (.bool r)]],[]⟩
def as_Lt (p0:Int):List Arg:=[.v false [.lit (vI p0)]]
def res_Lt (r:ByteArray):FRes:=⟨[.v false [.lit (.string r)]],[]⟩
def as_Lu (p0:(List S_Track)) (p1:Int):List Arg:=[.m (.sl (p0.map rS_Track)),.v false [.lit (vI p1)]]
def res_Lu (r:Int×(List S_Track)):FRes:=⟨[.v false [.lit (vI r.1)]],[.sl (r.2.map rS_Track)]⟩
def as_Lp (p0:(List Int)) (p1:Int):List Arg:=[.m (.sl (p0.map (rI .u8))),.v false [.lit (vI p1)]]
def res_Lp (r:Int×(List Int)):FRes:=⟨[.v false [.lit (vI r.1)]],[.sl (r.2.map (rI .u8))]⟩
def as_Lq (p0:(List S_Packet)) (p1:Int):List Arg:=[.m (.sl (p0.map rS_Packet)),.v false [.lit (vI p1)]]
def res_Lq (r:Int×(List S_Packet)):FRes:=⟨[.v false [.lit (vI r.1)]],[.sl (r.2.map rS_Packet)]⟩
def as_Lo (p0:S_Box) (p1:Int):List Arg:=[.v true [.sl (p0.tracks.map rS_Track),.sl (p0.packets.map rS_Packet)],.v false [.lit (vI p1)]]
def res_Lo (r:Int×S_Box):FRes:=⟨[.v false [.lit (vI r.1)]],[.sl (r.2.tracks.map rS_Track),.sl (r.2.packets.map rS_Packet)]⟩
def as_Ln (p0:(List S_Act)) (p1:Int):List Arg:=[.m (.sl (p0.map rS_Act)),.v false [.lit (vI p1)]]
def res_Ln (r:Int×(List S_Act)):FRes:=⟨[.v false [.lit (vI r.1)]],[.sl (r.2.map rS_Act)]⟩
def as_Ls (p0:(List S_Show)) (p1:Int):List Arg:=[.m (.sl (p0.map rS_Show)),.v false [.lit (vI p1)]]
def res_Ls (r:Int×(List S_Show)):FRes:=⟨[.v false [.lit (vI r.1)]],[.sl (r.2.map rS_Show)]⟩
def as_Lr (p0:S_Played) (p1:Int):List Arg:=[.v true [.lit (vI p0.err),.sl (p0.shows.map rS_Show),.lit (vI p0.wall),.lit (vI p0.clock)],.v false [.lit (vI p1)]]
def res_Lr (r:Int×S_Played):FRes:=⟨[.v false [.lit (vI r.1)]],[.sl (r.2.shows.map rS_Show)]⟩
def as_Lm (p0:(List S_Show)) (p1:Int):List Arg:=[.v false [.sl (p0.map rS_Show)],.v false [.lit (vI p1)]]
def res_Lm (r:Int):FRes:=⟨[.v false [.lit (vI r)]],[]⟩
def as_Ll (p0:S_Played) (p1:Int):List Arg:=[.v true [.lit (vI p0.err),.sl (p0.shows.map rS_Show),.lit (vI p0.wall),.lit (vI p0.clock)],.v false [.lit (vI p1)]]
def res_Ll (r:Int):FRes:=⟨[.v false [.lit (vI r)]],[]⟩
def as_laws_FnExactRunPlayer (p0:S_Box) (p1:Int) (p2:(List S_Act)):List Arg:=[.v true [.sl (p0.tracks.map rS_Track),.sl (p0.packets.map rS_Packet)],.v false [.lit (vI p1)],.v false [.sl (p2.map rS_Act)]]
def res_laws_FnExactRunPlayer (r:Bool):FRes:=⟨[.v false [.lit (.bool r)]],[]⟩
def K_Lba_0:List Fr:=[]
def s_Lba_0 (p0:S_Track) (p1:Int):St:=
 ⟨mkSl 13 [(0,.v true [cI p0.kind,cI p0.scale,.lit (.string p0.name)]),(1,sI p1)],[],[]⟩
def K_Lbb_35:List Fr:=[]
def s_Lbb_35 (i35_0:Int):St:=
 ⟨mkSl 27 [(1,sI i35_0)],[],[]⟩
def K_Lbb_17:List Fr:=[.lp [0,1,5] c_Lbb_17,.bk 0,.sq (.kp [1] c_Lbb_35)]
def s_Lbb_17 (p0:(List S_Track)) (i17_0 i17_1:Int):St:=
 ⟨mkSl 27 [(0,.v false [.ro q3 (p0.map rS_Track)]),(1,sI i17_0),(5,sI i17_1)],[],[]⟩
def K_Lbb_0:List Fr:=[]
def s_Lbb_0 (p0:(List S_Track)) (p1:Int):St:=
 ⟨mkSl 27 [(0,.v false [.ro q3 (p0.map rS_Track)]),(1,sI p1)],[],[]⟩
def K_Lx_0:List Fr:=[]
def s_Lx_0 (p0:(List Int)) (p1:Int):St:=
 ⟨mkSl 12 [(0,.v false [.ro [.sc] (p0.map (rI .u8))]),(1,sI p1)],[],[]⟩
def K_Ly_0:List Fr:=[]
def s_Ly_0 (p0:S_Packet) (p1:Int):St:=
 ⟨mkSl 12 [(0,.v true [cI p0.track,cI p0.time,cI p0.span,cB p0.key,.ro [.sc] (p0.data.map (rI .u8))]),(1,sI p1)],[],[]⟩
def K_Lz_35:List Fr:=[]
def s_Lz_35 (i35_0:Int):St:=
 ⟨mkSl 27 [(1,sI i35_0)],[],[]⟩
def K_Lz_17:List Fr:=[.lp [0,1,5] c_Lz_17,.bk 0,.sq (.kp [1] c_Lz_35)]
def s_Lz_17 (p0:(List S_Packet)) (i17_0 i17_1:Int):St:=
 ⟨mkSl 27 [(0,.v false [.ro q5 (p0.map rS_Packet)]),(1,sI i17_0),(5,sI i17_1)],[],[]⟩
def K_Lz_0:List Fr:=[]
def s_Lz_0 (p0:(List S_Packet)) (p1:Int):St:=
 ⟨mkSl 27 [(0,.v false [.ro q5 (p0.map rS_Packet)]),(1,sI p1)],[],[]⟩
def K_Lw_0:List Fr:=[]
def s_Lw_0 (p0:S_Box) (p1:Int):St:=
 ⟨mkSl 18 [(0,.v true [.ro q3 (p0.tracks.map rS_Track),.ro q5 (p0.packets.map rS_Packet)]),(1,sI p1)],[],[]⟩
def K_Lv_0:List Fr:=[]
def s_Lv_0 (p0:(List S_Act)) (p1:Int):St:=
 ⟨mkSl 12 [(0,.v false [.ro [.sc,.sc] (p0.map rS_Act)]),(1,sI p1)],[],[]⟩
def K_Lbi_0:List Fr:=[]
def s_Lbi_0 (p0:S_Track):St:=
 ⟨mkSl 14 [(0,.v true [cI p0.kind,cI p0.scale,.lit (.string p0.name)])],[],[]⟩
def K_Lbj_19:List Fr:=[]
def s_Lbj_19 (l19_0:(List S_Track)):St:=
 ⟨mkSl 23 [(3,.v false [cR 0 l19_0])],[some ⟨q3,(List.map rS_Track l19_0)⟩],[]⟩
def K_Lbj_9:List Fr:=[.lp [0,3,4] c_Lbj_9,.bk 0,.sq (.kp [3] c_Lbj_19)]
def s_Lbj_9 (p0:(List S_Track)) (i9_0:Int) (l9_1:(List S_Track)):St:=
 ⟨mkSl 23 [(0,.v false [.ro q3 (p0.map rS_Track)]),(3,.v false [cR 0 l9_1]),(4,sI i9_0)],[some ⟨q3,(List.map rS_Track l9_1)⟩],[]⟩
def K_Lbj_0:List Fr:=[]
def s_Lbj_0 (p0:(List S_Track)):St:=
 ⟨mkSl 23 [(0,.v false [.ro q3 (p0.map rS_Track)])],[],[]⟩
def K_Lbf_19:List Fr:=[]
def s_Lbf_19 (l19_0:(List Int)):St:=
 ⟨mkSl 22 [(3,.v false [cR 0 l19_0])],[some ⟨[.sc],(List.map (rI .u8) l19_0)⟩],[]⟩
def K_Lbf_9:List Fr:=[.lp [0,3,4] c_Lbf_9,.bk 0,.sq (.kp [3] c_Lbf_19)]
def s_Lbf_9 (p0:(List Int)) (i9_0:Int) (l9_1:(List Int)):St:=
 ⟨mkSl 22 [(0,.v false [.ro [.sc] (p0.map (rI .u8))]),(3,.v false [cR 0 l9_1]),(4,sI i9_0)],[some ⟨[.sc],(List.map (rI .u8) l9_1)⟩],[]⟩
def K_Lbf_0:List Fr:=[]
def s_Lbf_0 (p0:(List Int)):St:=
 ⟨mkSl 22 [(0,.v false [.ro [.sc] (p0.map (rI .u8))])],[],[]⟩
def K_Lbg_0:List Fr:=[]
def s_Lbg_0 (p0:S_Packet):St:=
 ⟨mkSl 21 [(0,.v true [cI p0.track,cI p0.time,cI p0.span,cB p0.key,.ro [.sc] (p0.data.map (rI .u8))])],[],[]⟩
def K_Lbh_19:List Fr:=[]
def s_Lbh_19 (l19_0:(List S_Packet)):St:=
 ⟨mkSl 23 [(3,.v false [cR 0 l19_0])],[some ⟨[.sc,.sc,.sc,.sc,.own [.sc]],(List.map rS_Packet l19_0)⟩],[]⟩
def K_Lbh_9:List Fr:=[.lp [0,3,4] c_Lbh_9,.bk 0,.sq (.kp [3] c_Lbh_19)]
def s_Lbh_9 (p0:(List S_Packet)) (i9_0:Int) (l9_1:(List S_Packet)):St:=
 ⟨mkSl 23 [(0,.v false [.ro q5 (p0.map rS_Packet)]),(3,.v false [cR 0 l9_1]),(4,sI i9_0)],[some ⟨[.sc,.sc,.sc,.sc,.own [.sc]],(List.map rS_Packet l9_1)⟩],[]⟩
def K_Lbh_0:List Fr:=[]
def s_Lbh_0 (p0:(List S_Packet)):St:=
 ⟨mkSl 23 [(0,.v false [.ro q5 (p0.map rS_Packet)])],[],[]⟩
def K_Lbe_0:List Fr:=[]
def s_Lbe_0 (p0:S_Box):St:=
 ⟨mkSl 13 [(0,.v true [.ro q3 (p0.tracks.map rS_Track),.ro q5 (p0.packets.map rS_Packet)])],[],[]⟩
def K_Lbc_0:List Fr:=[]
def s_Lbc_0 (p0:S_Act):St:=
 ⟨mkSl 11 [(0,.v true [cI p0.kind,cI p0.value])],[],[]⟩
def K_Lbd_19:List Fr:=[]
def s_Lbd_19 (l19_0:(List S_Act)):St:=
 ⟨mkSl 23 [(3,.v false [cR 0 l19_0])],[some ⟨[.sc,.sc],(List.map rS_Act l19_0)⟩],[]⟩
def K_Lbd_9:List Fr:=[.lp [0,3,4] c_Lbd_9,.bk 0,.sq (.kp [3] c_Lbd_19)]
def s_Lbd_9 (p0:(List S_Act)) (i9_0:Int) (l9_1:(List S_Act)):St:=
 ⟨mkSl 23 [(0,.v false [.ro [.sc,.sc] (p0.map rS_Act)]),(3,.v false [cR 0 l9_1]),(4,sI i9_0)],[some ⟨[.sc,.sc],(List.map rS_Act l9_1)⟩],[]⟩
def K_Lbd_0:List Fr:=[]
def s_Lbd_0 (p0:(List S_Act)):St:=
 ⟨mkSl 23 [(0,.v false [.ro [.sc,.sc] (p0.map rS_Act)])],[],[]⟩
def K_Sc_23:List Fr:=[]
def s_Sc_23:St:=
 ⟨mkSl 20 [],[],[]⟩
def K_Sc_7:List Fr:=[.lp [0,3] c_Sc_7,.bk 0,.sq (.kp [] c_Sc_23)]
def s_Sc_7 (p0:ByteArray) (i7_0:Int):St:=
 ⟨mkSl 20 [(0,.v false [.lit (.string p0)]),(3,sI i7_0)],[],[]⟩
def K_Sc_0:List Fr:=[]
def s_Sc_0 (p0:ByteArray):St:=
 ⟨mkSl 20 [(0,.v false [.lit (.string p0)])],[],[]⟩
def K_Sg_0:List Fr:=[]
def s_Sg_0 (p0:S_Track):St:=
 ⟨mkSl 32 [(0,.v true [cI p0.kind,cI p0.scale,.lit (.string p0.name)])],[],[]⟩
def K_Sh_25:List Fr:=[]
def s_Sh_25 (p0:(List S_Track)):St:=
 ⟨mkSl 23 [(0,.v false [.ro q3 (p0.map rS_Track)])],[],[]⟩
def K_Sh_7:List Fr:=[.lp [0,5,6,7] c_Sh_7,.bk 0,.sq (.kp [0] c_Sh_25)]
def s_Sh_7 (p0:(List S_Track)) (i7_0:Int):St:=
 ⟨mkSl 23 [(0,.v false [.ro q3 (p0.map rS_Track)]),(5,.v false [.ro q3 (p0.map rS_Track)]),(6,sI (p0.length:Int)),(7,sI i7_0)],[],[]⟩
def K_Sh_0:List Fr:=[]
def s_Sh_0 (p0:(List S_Track)):St:=
 ⟨mkSl 23 [(0,.v false [.ro q3 (p0.map rS_Track)])],[],[]⟩
def K_Sf_0:List Fr:=[]
def s_Sf_0 (p0:Int):St:=
 ⟨mkSl 9 [(0,sI p0)],[],[]⟩
def K_Se_62:List Fr:=[.bk 3,.sq c_Se_73,.lp [1,3,5,32,33,34] c_Se_36,.bk 2,.sq (.kp [] c_Se_74)]
def s_Se_62 (i36_0:Int) (p0:S_Box) (i36_1:Int) (x36_1:S_Packet) (l36_2:(List Int)):St:=
 ⟨mkSl 96 [(1,sP 0 0),(3,.v false [cR 0 l36_2]),(5,sI i36_0),(7,sP 1 0),(32,.v false [.ro q5 (p0.packets.map rS_Packet)]),(33,sI (p0.packets.length:Int)),(34,sI i36_1)],[jI l36_2],[some [.ro q3 (p0.tracks.map rS_Track),.ro q5 (p0.packets.map rS_Packet)],some [cI x36_1.track,cI x36_1.time,cI x36_1.span,cB x36_1.key,.ro [.sc] (x36_1.data.map (rI .u8))]]⟩
def K_Se_74:List Fr:=[]
def s_Se_74:St:=
 ⟨mkSl 96 [],[],[]⟩
def K_Se_36:List Fr:=[.lp [1,3,5,32,33,34] c_Se_36,.bk 2,.sq (.kp [] c_Se_74)]
def s_Se_36 (p0:S_Box) (i36_0 i36_1:Int) (l36_2:(List Int)):St:=
 ⟨mkSl 96 [(1,sP 0 0),(3,.v false [cR 0 l36_2]),(5,sI i36_0),(32,.v false [.ro q5 (p0.packets.map rS_Packet)]),(33,sI (p0.packets.length:Int)),(34,sI i36_1)],[jI l36_2],[some [.ro q3 (p0.tracks.map rS_Track),.ro q5 (p0.packets.map rS_Packet)]]⟩
def K_Se_29:List Fr:=[]
def s_Se_29 (p0:S_Box) (l29_0:(List Int)):St:=
 ⟨mkSl 96 [(1,sP 0 0),(3,.v false [cR 0 l29_0])],[jI l29_0],[some [.ro q3 (p0.tracks.map rS_Track),.ro q5 (p0.packets.map rS_Packet)]]⟩
def K_Se_17:List Fr:=[.lp [1,3,23,24] c_Se_17,.bk 0,.sq (.kp [1,3] c_Se_29)]
def s_Se_17 (p0:S_Box) (i17_0 i17_1:Int) (l17_2:(List Int)):St:=
 ⟨mkSl 96 [(1,sP 0 0),(3,.v false [cR 0 l17_2]),(23,sI i17_0),(24,sI i17_1)],[jI l17_2],[some [.ro q3 (p0.tracks.map rS_Track),.ro q5 (p0.packets.map rS_Packet)]]⟩
def K_Se_0:List Fr:=[]
def s_Se_0 (p0:S_Box):St:=
 ⟨mkSl 96 [(0,.v true [.ro q3 (p0.tracks.map rS_Track),.ro q5 (p0.packets.map rS_Packet)])],[],[]⟩
def K_Sd_0:List Fr:=[]
def s_Sd_0 (p0:S_Box) (p1 p2:Int):St:=
 ⟨mkSl 62 [(0,.v true [.ro q3 (p0.tracks.map rS_Track),.ro q5 (p0.packets.map rS_Packet)]),(1,sI p1),(2,sI p2)],[],[]⟩
def K_Sa_31:List Fr:=[]
def s_Sa_31:St:=
 ⟨mkSl 20 [],[],[]⟩
def K_Sa_15:List Fr:=[.lp [1,3] c_Sa_15,.bk 0,.sq (.kp [] c_Sa_31)]
def s_Sa_15 (p0:S_Box) (i15_0:Int):St:=
 ⟨mkSl 20 [(1,sP 0 0),(3,sI i15_0)],[],[some [.ro q3 (p0.tracks.map rS_Track),.ro q5 (p0.packets.map rS_Packet)]]⟩
def K_Sa_0:List Fr:=[]
def s_Sa_0 (p0:S_Box):St:=
 ⟨mkSl 20 [(0,.v true [.ro q3 (p0.tracks.map rS_Track),.ro q5 (p0.packets.map rS_Packet)])],[],[]⟩
def K_Si_12:List Fr:=[.bk 0,.sq c_Si_35]
def s_Si_12 (p0:S_Act) (b12_0:Bool):St:=
 ⟨mkSl 41 [(1,sP 0 0),(4,sI p0.kind),(5,sB b12_0)],[],[some [cI p0.kind,cI p0.value]]⟩
def K_Si_0:List Fr:=[]
def s_Si_0 (p0:S_Act):St:=
 ⟨mkSl 41 [(0,.v true [cI p0.kind,cI p0.value])],[],[]⟩
def K_Sj_0:List Fr:=[]
def s_Sj_0 (p0:S_Box) (p1:Int):St:=
 ⟨mkSl 22 [(0,.v true [.ro q3 (p0.tracks.map rS_Track),.ro q5 (p0.packets.map rS_Packet)]),(1,sI p1)],[],[]⟩
def K_Sm_18:List Fr:=[.bk 1,.sq c_Sm_21,.lp [0,10,11] c_Sm_6,.bk 0]
def s_Sm_18 (i6_0:Int) (p0:S_l17P) (i6_1:Int) (b18_0:Bool):St:=
 ⟨mkSl 54 [(0,sP 0 0),(2,sI i6_0),(10,sI (p0.due.length:Int)),(11,sI i6_0),(42,sB b18_0)],[jI p0.due,jB p0.gone,jB p0.drop,some ⟨q4,(List.map rS_Show p0.shows)⟩],[some [.ro q3 (p0.b.tracks.map rS_Track),.ro q5 (p0.b.packets.map rS_Packet),cR 0 p0.due,cI p0.speed,cI p0.wall,cI p0.clock,cI p0.pace,cB p0.playing,cI p0.busy,cR 1 p0.gone,cI p0.left,cI i6_1,cR 2 p0.drop,cR 3 p0.shows]]⟩
def K_Sm_6:List Fr:=[.lp [0,10,11] c_Sm_6,.bk 0]
def s_Sm_6 (p0:S_l17P) (i6_0 i6_1:Int):St:=
 ⟨mkSl 54 [(0,sP 0 0),(10,sI (p0.due.length:Int)),(11,sI i6_0)],[jI p0.due,jB p0.gone,jB p0.drop,some ⟨q4,(List.map rS_Show p0.shows)⟩],[some [.ro q3 (p0.b.tracks.map rS_Track),.ro q5 (p0.b.packets.map rS_Packet),cR 0 p0.due,cI p0.speed,cI p0.wall,cI p0.clock,cI p0.pace,cB p0.playing,cI p0.busy,cR 1 p0.gone,cI p0.left,cI i6_1,cR 2 p0.drop,cR 3 p0.shows]]⟩
def K_Sm_0:List Fr:=[]
def s_Sm_0 (p0:S_l17P):St:=
 ⟨mkSl 54 [(0,sP 0 0)],[jI p0.due,jB p0.gone,jB p0.drop,some ⟨q4,(List.map rS_Show p0.shows)⟩],[some [.ro q3 (p0.b.tracks.map rS_Track),.ro q5 (p0.b.packets.map rS_Packet),cR 0 p0.due,cI p0.speed,cI p0.wall,cI p0.clock,cI p0.pace,cB p0.playing,cI p0.busy,cR 1 p0.gone,cI p0.left,cI p0.soon,cR 2 p0.drop,cR 3 p0.shows]]⟩
def K_Sl_0:List Fr:=[]
def s_Sl_0 (p0:S_l17P):St:=
 ⟨mkSl 20 [(0,sP 0 0)],[jI p0.due,jB p0.gone,jB p0.drop,some ⟨q4,(List.map rS_Show p0.shows)⟩],[some [.ro q3 (p0.b.tracks.map rS_Track),.ro q5 (p0.b.packets.map rS_Packet),cR 0 p0.due,cI p0.speed,cI p0.wall,cI p0.clock,cI p0.pace,cB p0.playing,cI p0.busy,cR 1 p0.gone,cI p0.left,cI p0.soon,cR 2 p0.drop,cR 3 p0.shows]]⟩
def K_Sk_0:List Fr:=[]
def s_Sk_0 (p1:Int) (p0:S_l17P):St:=
 ⟨mkSl 21 [(0,sP 0 0),(1,sI p1)],[jI p0.due,jB p0.gone,jB p0.drop,some ⟨q4,(List.map rS_Show p0.shows)⟩],[some [.ro q3 (p0.b.tracks.map rS_Track),.ro q5 (p0.b.packets.map rS_Packet),cR 0 p0.due,cI p0.speed,cI p0.wall,cI p0.clock,cI p0.pace,cB p0.playing,cI p0.busy,cR 1 p0.gone,cI p0.left,cI p0.soon,cR 2 p0.drop,cR 3 p0.shows]]⟩
def K_Sn_38:List Fr:=[.bk 3,.sq c_Sn_41,.lp [0,4,41,42,43] c_Sn_26,.bk 2,.sq (.kp [0,4] c_Sn_42)]
def s_Sn_38 (i26_0:Int) (p0:S_l17P) (i21_0:Int) (x26_1:S_Packet) (l26_1:(List Int)) (b38_0:Bool):St:=
 ⟨mkSl 183 [(0,sP 0 0),(4,.v false [cR 0 l26_1]),(6,sI i26_0),(7,sP 1 0),(41,.v false [.ro q5 (p0.b.packets.map rS_Packet)]),(42,sI (p0.b.packets.length:Int)),(43,sI i26_0),(90,sB b38_0)],[jI l26_1,jI p0.due,jB p0.gone,jB p0.drop,some ⟨q4,(List.map rS_Show p0.shows)⟩],[some [.ro q3 (p0.b.tracks.map rS_Track),.ro q5 (p0.b.packets.map rS_Packet),cR 1 p0.due,cI p0.speed,cI p0.wall,cI i21_0,cI p0.pace,cB p0.playing,cI p0.busy,cR 2 p0.gone,cI p0.left,cI p0.soon,cR 3 p0.drop,cR 4 p0.shows],some [cI x26_1.track,cI x26_1.time,cI x26_1.span,cB x26_1.key,.ro [.sc] (x26_1.data.map (rI .u8))]]⟩
def K_Sn_78:List Fr:=[.bk 7,.sq c_Sn_81,.lp [0,4,116,117,118] c_Sn_64,.bk 6,.sq (.kp [0] c_Sn_82)]
def s_Sn_78 (i64_0:Int) (p0:S_l17P) (l64_1:(List S_Track)) (l64_2:(List S_Packet)) (i64_3 i64_4 i64_5 i64_6:Int) (b64_7:Bool) (i64_8 i64_9 i64_10:Int) (l42_0 l64_11:(List Int)) (l76_0 l64_13:(List Bool)) (l64_14:(List S_Show)) (b78_0:Bool):St:=
 ⟨mkSl 183 [(0,sP 0 0),(4,.v false [cR 0 l42_0]),(9,sI i64_0),(116,.v false [.ro q5 (p0.b.packets.map rS_Packet)]),(117,sI (p0.b.packets.length:Int)),(118,sI i64_0),(170,sB b78_0)],[jI l42_0,jI l64_11,jB l76_0,jB l64_13,some ⟨q4,(List.map rS_Show l64_14)⟩],[some [.ro q3 (l64_1.map rS_Track),.ro q5 (l64_2.map rS_Packet),cR 1 l64_11,cI i64_3,cI i64_4,cI i64_5,cI i64_6,cB b64_7,cI i64_8,cR 2 l76_0,cI i64_9,cI i64_10,cR 3 l64_13,cR 4 l64_14]]⟩
def K_Sn_76:List Fr:=[.bk 7,.sq c_Sn_81,.lp [0,4,116,117,118] c_Sn_64,.bk 6,.sq (.kp [0] c_Sn_82)]
def s_Sn_76 (i64_0:Int) (p0:S_l17P) (l64_1:(List S_Track)) (l64_2:(List S_Packet)) (i64_3 i64_4 i64_5 i64_6:Int) (b64_7:Bool) (i64_8 i64_9 i64_10:Int) (x64_1:S_Packet) (l42_0 l64_11:(List Int)) (l64_13:(List Bool)) (l64_14:(List S_Show)) (l76_0:(List Bool)):St:=
 ⟨mkSl 183 [(0,sP 0 0),(4,.v false [cR 0 l42_0]),(9,sI i64_0),(10,sP 1 0),(116,.v false [.ro q5 (p0.b.packets.map rS_Packet)]),(117,sI (p0.b.packets.length:Int)),(118,sI i64_0)],[jI l42_0,jI l64_11,jB l76_0,jB l64_13,some ⟨q4,(List.map rS_Show l64_14)⟩],[some [.ro q3 (l64_1.map rS_Track),.ro q5 (l64_2.map rS_Packet),cR 1 l64_11,cI i64_3,cI i64_4,cI i64_5,cI i64_6,cB b64_7,cI i64_8,cR 2 l76_0,cI i64_9,cI i64_10,cR 3 l64_13,cR 4 l64_14],some [cI x64_1.track,cI x64_1.time,cI x64_1.span,cB x64_1.key,.ro [.sc] (x64_1.data.map (rI .u8))]]⟩
def K_Sn_82:List Fr:=[]
def s_Sn_82 (l82_0:(List S_Track)) (l82_1:(List S_Packet)) (i82_2 i82_3 i82_4 i82_5:Int) (b82_6:Bool) (i82_7 i82_8 i82_9:Int) (l82_10:(List Int)) (l82_11 l82_12:(List Bool)) (l82_13:(List S_Show)):St:=
 ⟨mkSl 183 [(0,sP 0 0)],[jI l82_10,jB l82_11,jB l82_12,some ⟨q4,(List.map rS_Show l82_13)⟩],[some [.ro q3 (l82_0.map rS_Track),.ro q5 (l82_1.map rS_Packet),cR 0 l82_10,cI i82_2,cI i82_3,cI i82_4,cI i82_5,cB b82_6,cI i82_7,cR 1 l82_11,cI i82_8,cI i82_9,cR 2 l82_12,cR 3 l82_13]]⟩
def K_Sn_64:List Fr:=[.lp [0,4,116,117,118] c_Sn_64,.bk 6,.sq (.kp [0] c_Sn_82)]
def s_Sn_64 (p0:S_l17P) (l42_0:(List Int)) (i64_0:Int) (l64_1:(List S_Track)) (l64_2:(List S_Packet)) (i64_3 i64_4 i64_5 i64_6:Int) (b64_7:Bool) (i64_8 i64_9 i64_10:Int) (l64_11:(List Int)) (l64_12 l64_13:(List Bool)) (l64_14:(List S_Show)):St:=
 ⟨mkSl 183 [(0,sP 0 0),(4,.v false [cR 0 l42_0]),(116,.v false [.ro q5 (p0.b.packets.map rS_Packet)]),(117,sI (p0.b.packets.length:Int)),(118,sI i64_0)],[jI l42_0,jI l64_11,jB l64_12,jB l64_13,some ⟨q4,(List.map rS_Show l64_14)⟩],[some [.ro q3 (l64_1.map rS_Track),.ro q5 (l64_2.map rS_Packet),cR 1 l64_11,cI i64_3,cI i64_4,cI i64_5,cI i64_6,cB b64_7,cI i64_8,cR 2 l64_12,cI i64_9,cI i64_10,cR 3 l64_13,cR 4 l64_14]]⟩
def K_Sn_59:List Fr:=[]
def s_Sn_59 (p0:S_l17P) (i21_0:Int) (l42_0:(List Int)) (l59_0:(List Bool)):St:=
 ⟨mkSl 183 [(0,sP 0 0),(4,.v false [cR 0 l42_0])],[jI l42_0,jI p0.due,jB p0.gone,jB l59_0,some ⟨q4,(List.map rS_Show p0.shows)⟩],[some [.ro q3 (p0.b.tracks.map rS_Track),.ro q5 (p0.b.packets.map rS_Packet),cR 1 p0.due,cI p0.speed,cI p0.wall,cI i21_0,cI p0.pace,cB p0.playing,cI p0.busy,cR 2 p0.gone,cI p0.left,cI p0.soon,cR 3 l59_0,cR 4 p0.shows]]⟩
def K_Sn_47:List Fr:=[.lp [0,4,101,102] c_Sn_47,.bk 4,.sq (.kp [0,4] c_Sn_59)]
def s_Sn_47 (p0:S_l17P) (i21_0:Int) (l42_0:(List Int)) (i47_0:Int) (l47_1:(List Bool)):St:=
 ⟨mkSl 183 [(0,sP 0 0),(4,.v false [cR 0 l42_0]),(101,sI (p0.drop.length:Int)),(102,sI i47_0)],[jI l42_0,jI p0.due,jB p0.gone,jB l47_1,some ⟨q4,(List.map rS_Show p0.shows)⟩],[some [.ro q3 (p0.b.tracks.map rS_Track),.ro q5 (p0.b.packets.map rS_Packet),cR 1 p0.due,cI p0.speed,cI p0.wall,cI i21_0,cI p0.pace,cB p0.playing,cI p0.busy,cR 2 p0.gone,cI p0.left,cI p0.soon,cR 3 l47_1,cR 4 p0.shows]]⟩
def K_Sn_42:List Fr:=[]
def s_Sn_42 (p0:S_l17P) (i21_0:Int) (l42_0:(List Int)):St:=
 ⟨mkSl 183 [(0,sP 0 0),(4,.v false [cR 0 l42_0])],[jI l42_0,jI p0.due,jB p0.gone,jB p0.drop,some ⟨q4,(List.map rS_Show p0.shows)⟩],[some [.ro q3 (p0.b.tracks.map rS_Track),.ro q5 (p0.b.packets.map rS_Packet),cR 1 p0.due,cI p0.speed,cI p0.wall,cI i21_0,cI p0.pace,cB p0.playing,cI p0.busy,cR 2 p0.gone,cI p0.left,cI p0.soon,cR 3 p0.drop,cR 4 p0.shows]]⟩
def K_Sn_26:List Fr:=[.lp [0,4,41,42,43] c_Sn_26,.bk 2,.sq (.kp [0,4] c_Sn_42)]
def s_Sn_26 (p0:S_l17P) (i21_0 i26_0:Int) (l26_1:(List Int)):St:=
 ⟨mkSl 183 [(0,sP 0 0),(4,.v false [cR 0 l26_1]),(41,.v false [.ro q5 (p0.b.packets.map rS_Packet)]),(42,sI (p0.b.packets.length:Int)),(43,sI i26_0)],[jI l26_1,jI p0.due,jB p0.gone,jB p0.drop,some ⟨q4,(List.map rS_Show p0.shows)⟩],[some [.ro q3 (p0.b.tracks.map rS_Track),.ro q5 (p0.b.packets.map rS_Packet),cR 1 p0.due,cI p0.speed,cI p0.wall,cI i21_0,cI p0.pace,cB p0.playing,cI p0.busy,cR 2 p0.gone,cI p0.left,cI p0.soon,cR 3 p0.drop,cR 4 p0.shows]]⟩
def K_Sn_21:List Fr:=[]
def s_Sn_21 (p0:S_l17P) (i21_0:Int) (l21_1:(List Int)):St:=
 ⟨mkSl 183 [(0,sP 0 0),(4,.v false [cR 0 l21_1])],[jI l21_1,jI p0.due,jB p0.gone,jB p0.drop,some ⟨q4,(List.map rS_Show p0.shows)⟩],[some [.ro q3 (p0.b.tracks.map rS_Track),.ro q5 (p0.b.packets.map rS_Packet),cR 1 p0.due,cI p0.speed,cI p0.wall,cI i21_0,cI p0.pace,cB p0.playing,cI p0.busy,cR 2 p0.gone,cI p0.left,cI p0.soon,cR 3 p0.drop,cR 4 p0.shows]]⟩
def K_Sn_9:List Fr:=[.lp [0,4,24,25] c_Sn_9,.bk 0,.sq (.kp [0,4] c_Sn_21)]
def s_Sn_9 (p0:S_l17P) (i9_0 i9_1 i9_2:Int) (l9_3:(List Int)):St:=
 ⟨mkSl 183 [(0,sP 0 0),(4,.v false [cR 0 l9_3]),(24,sI i9_0),(25,sI i9_1)],[jI l9_3,jI p0.due,jB p0.gone,jB p0.drop,some ⟨q4,(List.map rS_Show p0.shows)⟩],[some [.ro q3 (p0.b.tracks.map rS_Track),.ro q5 (p0.b.packets.map rS_Packet),cR 1 p0.due,cI p0.speed,cI p0.wall,cI i9_2,cI p0.pace,cB p0.playing,cI p0.busy,cR 2 p0.gone,cI p0.left,cI p0.soon,cR 3 p0.drop,cR 4 p0.shows]]⟩
def K_Sn_0:List Fr:=[]
def s_Sn_0 (p1:Int) (p0:S_l17P):St:=
 ⟨mkSl 183 [(0,sP 0 0),(1,sI p1)],[jI p0.due,jB p0.gone,jB p0.drop,some ⟨q4,(List.map rS_Show p0.shows)⟩],[some [.ro q3 (p0.b.tracks.map rS_Track),.ro q5 (p0.b.packets.map rS_Packet),cR 0 p0.due,cI p0.speed,cI p0.wall,cI p0.clock,cI p0.pace,cB p0.playing,cI p0.busy,cR 1 p0.gone,cI p0.left,cI p0.soon,cR 2 p0.drop,cR 3 p0.shows]]⟩
def K_So_24:List Fr:=[]
def s_So_24 (p1:Int) (x10_1:Int×S_l17P) (x0_0:S_Packet) (l18_0:(List Bool)) (i24_0:Int):St:=
 ⟨mkSl 108 [(0,sP 0 0),(1,sI p1),(4,sP 1 0)],[jI x10_1.2.due,jB x10_1.2.gone,jB l18_0,some ⟨q4,(List.map rS_Show x10_1.2.shows)⟩],[some [.ro q3 (x10_1.2.b.tracks.map rS_Track),.ro q5 (x10_1.2.b.packets.map rS_Packet),cR 0 x10_1.2.due,cI x10_1.2.speed,cI x10_1.2.wall,cI x10_1.2.clock,cI x10_1.2.pace,cB x10_1.2.playing,cI i24_0,cR 1 x10_1.2.gone,cI x10_1.2.left,cI x10_1.2.soon,cR 2 l18_0,cR 3 x10_1.2.shows],some [cI x0_0.track,cI x0_0.time,cI x0_0.span,cB x0_0.key,.ro [.sc] (x0_0.data.map (rI .u8))]]⟩
def K_So_18:List Fr:=[]
def s_So_18 (p1 i15_0:Int) (x10_1:Int×S_l17P) (x0_0:S_Packet) (l18_0:(List Bool)):St:=
 ⟨mkSl 108 [(0,sP 0 0),(1,sI p1),(4,sP 1 0),(6,sI i15_0)],[jI x10_1.2.due,jB x10_1.2.gone,jB l18_0,some ⟨q4,(List.map rS_Show x10_1.2.shows)⟩],[some [.ro q3 (x10_1.2.b.tracks.map rS_Track),.ro q5 (x10_1.2.b.packets.map rS_Packet),cR 0 x10_1.2.due,cI x10_1.2.speed,cI x10_1.2.wall,cI x10_1.2.clock,cI x10_1.2.pace,cB x10_1.2.playing,cI x10_1.2.busy,cR 1 x10_1.2.gone,cI x10_1.2.left,cI x10_1.2.soon,cR 2 l18_0,cR 3 x10_1.2.shows],some [cI x0_0.track,cI x0_0.time,cI x0_0.span,cB x0_0.key,.ro [.sc] (x0_0.data.map (rI .u8))]]⟩
def K_So_15:List Fr:=[.sq (.kp [0,1,4,6] c_So_18)]
def s_So_15 (p1:Int) (x10_1:Int×S_l17P) (x0_0:S_Packet) (i15_0:Int) (b15_1:Bool):St:=
 ⟨mkSl 108 [(0,sP 0 0),(1,sI p1),(4,sP 1 0),(6,sI i15_0),(59,sB b15_1)],[jI x10_1.2.due,jB x10_1.2.gone,jB x10_1.2.drop,some ⟨q4,(List.map rS_Show x10_1.2.shows)⟩],[some [.ro q3 (x10_1.2.b.tracks.map rS_Track),.ro q5 (x10_1.2.b.packets.map rS_Packet),cR 0 x10_1.2.due,cI x10_1.2.speed,cI x10_1.2.wall,cI x10_1.2.clock,cI x10_1.2.pace,cB x10_1.2.playing,cI x10_1.2.busy,cR 1 x10_1.2.gone,cI x10_1.2.left,cI x10_1.2.soon,cR 2 x10_1.2.drop,cR 3 x10_1.2.shows],some [cI x0_0.track,cI x0_0.time,cI x0_0.span,cB x0_0.key,.ro [.sc] (x0_0.data.map (rI .u8))]]⟩
def K_So_10:List Fr:=[]
def s_So_10 (p1:Int) (x0_1:S_Track) (p0:S_l17P) (x0_0:S_Packet) (l10_0:(List Bool)):St:=
 ⟨mkSl 108 [(0,sP 0 0),(1,sI p1),(4,sP 1 0),(5,sI x0_1.kind)],[jI p0.due,jB p0.gone,jB l10_0,some ⟨q4,(List.map rS_Show p0.shows)⟩],[some [.ro q3 (p0.b.tracks.map rS_Track),.ro q5 (p0.b.packets.map rS_Packet),cR 0 p0.due,cI p0.speed,cI p0.wall,cI p0.clock,cI p0.pace,cB p0.playing,cI p0.busy,cR 1 p0.gone,cI p0.left,cI p0.soon,cR 2 l10_0,cR 3 p0.shows],some [cI x0_0.track,cI x0_0.time,cI x0_0.span,cB x0_0.key,.ro [.sc] (x0_0.data.map (rI .u8))]]⟩
def K_So_0:List Fr:=[]
def s_So_0 (p1:Int) (p0:S_l17P):St:=
 ⟨mkSl 108 [(0,sP 0 0),(1,sI p1)],[jI p0.due,jB p0.gone,jB p0.drop,some ⟨q4,(List.map rS_Show p0.shows)⟩],[some [.ro q3 (p0.b.tracks.map rS_Track),.ro q5 (p0.b.packets.map rS_Packet),cR 0 p0.due,cI p0.speed,cI p0.wall,cI p0.clock,cI p0.pace,cB p0.playing,cI p0.busy,cR 1 p0.gone,cI p0.left,cI p0.soon,cR 2 p0.drop,cR 3 p0.shows]]⟩
def K_Sp_33:List Fr:=[.bk 1,.sq c_Sp_38,.lp [0,47,48] c_Sp_21,.bk 0,.sq (.kp [0] c_Sp_39)]
def s_Sp_33 (i21_0:Int) (p0:S_l17P) (l21_1:(List S_Track)) (l21_2:(List S_Packet)) (i21_3 i21_4 i21_5 i21_6:Int) (b21_7:Bool) (i21_8 i21_9 i21_10:Int) (l21_11:(List Int)) (l21_12 l21_13:(List Bool)) (l21_14:(List S_Show)) (b33_0:Bool):St:=
 ⟨mkSl 85 [(0,sP 0 0),(2,sI i21_0),(47,sI (p0.due.length:Int)),(48,sI i21_0),(72,sB b33_0)],[jI l21_11,jB l21_12,jB l21_13,some ⟨q4,(List.map rS_Show l21_14)⟩],[some [.ro q3 (l21_1.map rS_Track),.ro q5 (l21_2.map rS_Packet),cR 0 l21_11,cI i21_3,cI i21_4,cI i21_5,cI i21_6,cB b21_7,cI i21_8,cR 1 l21_12,cI i21_9,cI i21_10,cR 2 l21_13,cR 3 l21_14]]⟩
def K_Sp_39:List Fr:=[]
def s_Sp_39 (l39_0:(List S_Track)) (l39_1:(List S_Packet)) (i39_2 i39_3 i39_4 i39_5:Int) (b39_6:Bool) (i39_7 i39_8 i39_9:Int) (l39_10:(List Int)) (l39_11 l39_12:(List Bool)) (l39_13:(List S_Show)):St:=
 ⟨mkSl 85 [(0,sP 0 0)],[jI l39_10,jB l39_11,jB l39_12,some ⟨q4,(List.map rS_Show l39_13)⟩],[some [.ro q3 (l39_0.map rS_Track),.ro q5 (l39_1.map rS_Packet),cR 0 l39_10,cI i39_2,cI i39_3,cI i39_4,cI i39_5,cB b39_6,cI i39_7,cR 1 l39_11,cI i39_8,cI i39_9,cR 2 l39_12,cR 3 l39_13]]⟩
def K_Sp_21:List Fr:=[.lp [0,47,48] c_Sp_21,.bk 0,.sq (.kp [0] c_Sp_39)]
def s_Sp_21 (p0:S_l17P) (i21_0:Int) (l21_1:(List S_Track)) (l21_2:(List S_Packet)) (i21_3 i21_4 i21_5 i21_6:Int) (b21_7:Bool) (i21_8 i21_9 i21_10:Int) (l21_11:(List Int)) (l21_12 l21_13:(List Bool)) (l21_14:(List S_Show)):St:=
 ⟨mkSl 85 [(0,sP 0 0),(47,sI (p0.due.length:Int)),(48,sI i21_0)],[jI l21_11,jB l21_12,jB l21_13,some ⟨q4,(List.map rS_Show l21_14)⟩],[some [.ro q3 (l21_1.map rS_Track),.ro q5 (l21_2.map rS_Packet),cR 0 l21_11,cI i21_3,cI i21_4,cI i21_5,cI i21_6,cB b21_7,cI i21_8,cR 1 l21_12,cI i21_9,cI i21_10,cR 2 l21_13,cR 3 l21_14]]⟩
def K_Sp_0:List Fr:=[]
def s_Sp_0 (p0:S_l17P):St:=
 ⟨mkSl 85 [(0,sP 0 0)],[jI p0.due,jB p0.gone,jB p0.drop,some ⟨q4,(List.map rS_Show p0.shows)⟩],[some [.ro q3 (p0.b.tracks.map rS_Track),.ro q5 (p0.b.packets.map rS_Packet),cR 0 p0.due,cI p0.speed,cI p0.wall,cI p0.clock,cI p0.pace,cB p0.playing,cI p0.busy,cR 1 p0.gone,cI p0.left,cI p0.soon,cR 2 p0.drop,cR 3 p0.shows]]⟩
def K_Sb_102:List Fr:=[.lp [6,9,75,76,77] c_Sb_59,.bk 4,.sq (.kp [6,9] c_Sb_103)]
def s_Sb_102 (p2:(List S_Act)) (i59_0:Int) (l102_0:(List S_Track)) (l102_1:(List S_Packet)) (i102_2 i102_3 i102_4 i102_5:Int) (b102_6:Bool) (i102_7 i102_8 i102_9:Int) (l102_10:(List Int)) (l102_11 l102_12:(List Bool)) (l102_13:(List S_Show)):St:=
 ⟨mkSl 129 [(6,sP 0 0),(9,sP 1 0),(75,.v false [.ro [.sc,.sc] (p2.map rS_Act)]),(76,sI (p2.length:Int)),(77,sI i59_0)],[some ⟨q4,(List.map rS_Show ([]:List S_Show))⟩,jI l102_10,jB l102_11,jB l102_12,some ⟨q4,(List.map rS_Show l102_13)⟩],[some [cI 0,.ref 0 [] 0 (([]:List S_Show).length),cI 0,cI 0],some [.ro q3 (l102_0.map rS_Track),.ro q5 (l102_1.map rS_Packet),cR 1 l102_10,cI i102_2,cI i102_3,cI i102_4,cI i102_5,cB b102_6,cI i102_7,cR 2 l102_11,cI i102_8,cI i102_9,cR 3 l102_12,cR 4 l102_13]]⟩
def K_Sb_92:List Fr:=[.lp [6,9,12,13,75,76,77] c_Sb_92,.bk 7,.bk 6,.bk 5,.sq (.kp [6,9,75,76,77] c_Sb_102),.lp [6,9,75,76,77] c_Sb_59,.bk 4,.sq (.kp [6,9] c_Sb_103)]
def s_Sb_92 (p2:(List S_Act)) (i59_0:Int) (x59_1:S_Act) (i92_0:Int) (l92_1:(List S_Track)) (l92_2:(List S_Packet)) (i92_3 i92_4 i92_5 i92_6:Int) (b92_7:Bool) (i92_8 i92_9 i92_10:Int) (l92_11:(List Int)) (l92_12 l92_13:(List Bool)) (l92_14:(List S_Show)):St:=
 ⟨mkSl 129 [(6,sP 0 0),(9,sP 1 0),(12,sP 2 0),(13,sI i92_0),(75,.v false [.ro [.sc,.sc] (p2.map rS_Act)]),(76,sI (p2.length:Int)),(77,sI i59_0)],[some ⟨q4,(List.map rS_Show ([]:List S_Show))⟩,jI l92_11,jB l92_12,jB l92_13,some ⟨q4,(List.map rS_Show l92_14)⟩],[some [cI 0,.ref 0 [] 0 (([]:List S_Show).length),cI 0,cI 0],some [.ro q3 (l92_1.map rS_Track),.ro q5 (l92_2.map rS_Packet),cR 1 l92_11,cI i92_3,cI i92_4,cI i92_5,cI i92_6,cB b92_7,cI i92_8,cR 2 l92_12,cI i92_9,cI i92_10,cR 3 l92_13,cR 4 l92_14],some [cI x59_1.kind,cI x59_1.value]]⟩
def K_Sb_103:List Fr:=[]
def s_Sb_103 (l103_0:(List S_Track)) (l103_1:(List S_Packet)) (i103_2 i103_3 i103_4 i103_5:Int) (b103_6:Bool) (i103_7 i103_8 i103_9:Int) (l103_10:(List Int)) (l103_11 l103_12:(List Bool)) (l103_13:(List S_Show)):St:=
 ⟨mkSl 129 [(6,sP 0 0),(9,sP 1 0)],[some ⟨q4,(List.map rS_Show ([]:List S_Show))⟩,jI l103_10,jB l103_11,jB l103_12,some ⟨q4,(List.map rS_Show l103_13)⟩],[some [cI 0,.ref 0 [] 0 (([]:List S_Show).length),cI 0,cI 0],some [.ro q3 (l103_0.map rS_Track),.ro q5 (l103_1.map rS_Packet),cR 1 l103_10,cI i103_2,cI i103_3,cI i103_4,cI i103_5,cB b103_6,cI i103_7,cR 2 l103_11,cI i103_8,cI i103_9,cR 3 l103_12,cR 4 l103_13]]⟩
def K_Sb_59:List Fr:=[.lp [6,9,75,76,77] c_Sb_59,.bk 4,.sq (.kp [6,9] c_Sb_103)]
def s_Sb_59 (p2:(List S_Act)) (i59_0:Int) (l59_1:(List S_Track)) (l59_2:(List S_Packet)) (i59_3 i59_4 i59_5 i59_6:Int) (b59_7:Bool) (i59_8 i59_9 i59_10:Int) (l59_11:(List Int)) (l59_12 l59_13:(List Bool)) (l59_14:(List S_Show)):St:=
 ⟨mkSl 129 [(6,sP 0 0),(9,sP 1 0),(75,.v false [.ro [.sc,.sc] (p2.map rS_Act)]),(76,sI (p2.length:Int)),(77,sI i59_0)],[some ⟨q4,(List.map rS_Show ([]:List S_Show))⟩,jI l59_11,jB l59_12,jB l59_13,some ⟨q4,(List.map rS_Show l59_14)⟩],[some [cI 0,.ref 0 [] 0 (([]:List S_Show).length),cI 0,cI 0],some [.ro q3 (l59_1.map rS_Track),.ro q5 (l59_2.map rS_Packet),cR 1 l59_11,cI i59_3,cI i59_4,cI i59_5,cI i59_6,cB b59_7,cI i59_8,cR 2 l59_12,cI i59_9,cI i59_10,cR 3 l59_13,cR 4 l59_14]]⟩
def K_Sb_52:List Fr:=[]
def s_Sb_52 (p2:(List S_Act)) (p0:S_Box) (p1:Int) (l52_0:(List Int)) (l52_1 l52_2:(List Bool)):St:=
 ⟨mkSl 129 [(2,.v false [.ro [.sc,.sc] (p2.map rS_Act)]),(6,sP 0 0),(9,sP 1 0)],[some ⟨q4,(List.map rS_Show ([]:List S_Show))⟩,jI l52_0,jB l52_1,jB l52_2],[some [cI 0,.ref 0 [] 0 (([]:List S_Show).length),cI 0,cI 0],some [.ro q3 (p0.tracks.map rS_Track),.ro q5 (p0.packets.map rS_Packet),cR 1 l52_0,cI p1,cI 0,cI 0,cI 100,cB false,cI 0,cR 2 l52_1,cI 0,cI 0,cR 3 l52_2,.lit (.slice none 0 0)]]⟩
def K_Sb_40:List Fr:=[.lp [2,3,6,9,56,57] c_Sb_40,.bk 2,.sq (.kp [2,6,9] c_Sb_52)]
def s_Sb_40 (p2:(List S_Act)) (p0:S_Box) (p1 i40_0:Int) (l40_1:(List Int)) (l40_2 l40_3:(List Bool)):St:=
 ⟨mkSl 129 [(2,.v false [.ro [.sc,.sc] (p2.map rS_Act)]),(3,sP 0 0),(6,sP 1 0),(9,sP 2 0),(56,sI (p0.packets.length:Int)),(57,sI i40_0)],[some ⟨q4,(List.map rS_Show ([]:List S_Show))⟩,jI l40_1,jB l40_2,jB l40_3],[some [.ro q3 (p0.tracks.map rS_Track),.ro q5 (p0.packets.map rS_Packet)],some [cI 0,.ref 0 [] 0 (([]:List S_Show).length),cI 0,cI 0],some [.ro q3 (p0.tracks.map rS_Track),.ro q5 (p0.packets.map rS_Packet),cR 1 l40_1,cI p1,cI 0,cI 0,cI 100,cB false,cI 0,cR 2 l40_2,cI 0,cI 0,cR 3 l40_3,.lit (.slice none 0 0)]]⟩
def K_Sb_33:List Fr:=[]
def s_Sb_33 (p1:Int) (p2:(List S_Act)) (p0:S_Box):St:=
 ⟨mkSl 129 [(1,sI p1),(2,.v false [.ro [.sc,.sc] (p2.map rS_Act)]),(3,sP 0 0),(6,sP 1 0)],[some ⟨q4,(List.map rS_Show ([]:List S_Show))⟩],[some [.ro q3 (p0.tracks.map rS_Track),.ro q5 (p0.packets.map rS_Packet)],some [cI 0,.ref 0 [] 0 (([]:List S_Show).length),cI 0,cI 0]]⟩
def K_Sb_15:List Fr:=[.lp [1,2,3,6,31,32,33] c_Sb_15,.bk 0,.sq (.kp [1,2,3,6] c_Sb_33)]
def s_Sb_15 (p1:Int) (p2:(List S_Act)) (p0:S_Box) (i15_0:Int):St:=
 ⟨mkSl 129 [(1,sI p1),(2,.v false [.ro [.sc,.sc] (p2.map rS_Act)]),(3,sP 0 0),(6,sP 1 0),(31,.v false [.ro [.sc,.sc] (p2.map rS_Act)]),(32,sI (p2.length:Int)),(33,sI i15_0)],[some ⟨q4,(List.map rS_Show ([]:List S_Show))⟩],[some [.ro q3 (p0.tracks.map rS_Track),.ro q5 (p0.packets.map rS_Packet)],some [cI 0,.ref 0 [] 0 (([]:List S_Show).length),cI 0,cI 0]]⟩
def K_Sb_5:List Fr:=[.sq c_Sb_10]
def s_Sb_5 (p1:Int) (p2:(List S_Act)) (p0:S_Box) (b5_0:Bool):St:=
 ⟨mkSl 129 [(1,sI p1),(2,.v false [.ro [.sc,.sc] (p2.map rS_Act)]),(3,sP 0 0),(6,sP 1 0),(29,sB b5_0)],[some ⟨q4,(List.map rS_Show ([]:List S_Show))⟩],[some [.ro q3 (p0.tracks.map rS_Track),.ro q5 (p0.packets.map rS_Packet)],some [cI 0,.ref 0 [] 0 (([]:List S_Show).length),cI 0,cI 0]]⟩
def K_Sb_0:List Fr:=[]
def s_Sb_0 (p0:S_Box) (p1:Int) (p2:(List S_Act)):St:=
 ⟨mkSl 129 [(0,.v true [.ro q3 (p0.tracks.map rS_Track),.ro q5 (p0.packets.map rS_Packet)]),(1,sI p1),(2,.v false [.ro [.sc,.sc] (p2.map rS_Act)])],[],[]⟩
def K_Il_33:List Fr:=[]
def s_Il_33:St:=
 ⟨mkSl 47 [],[],[]⟩
def K_Il_15:List Fr:=[.lp [1,30,31] c_Il_15,.bk 0,.sq (.kp [] c_Il_33)]
def s_Il_15 (p0:S_Track) (i15_0:Int):St:=
 ⟨mkSl 47 [(1,sP 0 0),(30,sI (p0.name.size:Int)),(31,sI i15_0)],[],[some [cI p0.kind,cI p0.scale,.lit (.string p0.name)]]⟩
def K_Il_0:List Fr:=[]
def s_Il_0 (p0:S_Track):St:=
 ⟨mkSl 47 [(0,.v true [cI p0.kind,cI p0.scale,.lit (.string p0.name)])],[],[]⟩
def K_Ik_0:List Fr:=[]
def s_Ik_0 (p0:Int):St:=
 ⟨mkSl 9 [(0,sI p0)],[],[]⟩
def K_Ij_77:List Fr:=[.bk 5,.sq c_Ij_80,.lp [1,5,6,51,52,53] c_Ij_59,.bk 4,.sq (.kp [5] c_Ij_81)]
def s_Ij_77 (i59_0:Int) (p0:S_Box) (i59_1:Int) (x59_1:S_Packet) (l59_2:(List Int)):St:=
 ⟨mkSl 117 [(1,sP 0 0),(5,sI i59_0),(6,.v false [cR 0 l59_2]),(9,sP 1 0),(51,.v false [.ro q5 (p0.packets.map rS_Packet)]),(52,sI (p0.packets.length:Int)),(53,sI i59_1)],[jI l59_2],[some [.ro q3 (p0.tracks.map rS_Track),.ro q5 (p0.packets.map rS_Packet)],some [cI x59_1.track,cI x59_1.time,cI x59_1.span,cB x59_1.key,.ro [.sc] (x59_1.data.map (rI .u8))]]⟩
def K_Ij_81:List Fr:=[]
def s_Ij_81 (i81_0:Int):St:=
 ⟨mkSl 117 [(5,sI i81_0)],[],[]⟩
def K_Ij_59:List Fr:=[.lp [1,5,6,51,52,53] c_Ij_59,.bk 4,.sq (.kp [5] c_Ij_81)]
def s_Ij_59 (p0:S_Box) (i59_0 i59_1:Int) (l59_2:(List Int)):St:=
 ⟨mkSl 117 [(1,sP 0 0),(5,sI i59_0),(6,.v false [cR 0 l59_2]),(51,.v false [.ro q5 (p0.packets.map rS_Packet)]),(52,sI (p0.packets.length:Int)),(53,sI i59_1)],[jI l59_2],[some [.ro q3 (p0.tracks.map rS_Track),.ro q5 (p0.packets.map rS_Packet)]]⟩
def K_Ij_54:List Fr:=[]
def s_Ij_54 (p0:S_Box) (l54_0:(List Int)):St:=
 ⟨mkSl 117 [(1,sP 0 0),(5,sI 0),(6,.v false [cR 0 l54_0])],[jI l54_0],[some [.ro q3 (p0.tracks.map rS_Track),.ro q5 (p0.packets.map rS_Packet)]]⟩
def K_Ij_42:List Fr:=[.lp [1,5,6,42,43] c_Ij_42,.bk 2,.sq (.kp [1,5,6] c_Ij_54)]
def s_Ij_42 (p0:S_Box) (i42_0 i42_1:Int) (l42_2:(List Int)):St:=
 ⟨mkSl 117 [(1,sP 0 0),(5,sI 0),(6,.v false [cR 0 l42_2]),(42,sI i42_0),(43,sI i42_1)],[jI l42_2],[some [.ro q3 (p0.tracks.map rS_Track),.ro q5 (p0.packets.map rS_Packet)]]⟩
def K_Ij_33:List Fr:=[]
def s_Ij_33 (p0:S_Box):St:=
 ⟨mkSl 117 [(1,sP 0 0)],[],[some [.ro q3 (p0.tracks.map rS_Track),.ro q5 (p0.packets.map rS_Packet)]]⟩
def K_Ij_15:List Fr:=[.lp [1,27,28,29] c_Ij_15,.bk 0,.sq (.kp [1] c_Ij_33)]
def s_Ij_15 (p0:S_Box) (i15_0:Int):St:=
 ⟨mkSl 117 [(1,sP 0 0),(27,.v false [.ro q3 (p0.tracks.map rS_Track)]),(28,sI (p0.tracks.length:Int)),(29,sI i15_0)],[],[some [.ro q3 (p0.tracks.map rS_Track),.ro q5 (p0.packets.map rS_Packet)]]⟩
def K_Ij_0:List Fr:=[]
def s_Ij_0 (p0:S_Box):St:=
 ⟨mkSl 117 [(0,.v true [.ro q3 (p0.tracks.map rS_Track),.ro q5 (p0.packets.map rS_Packet)])],[],[]⟩
def K_If_0:List Fr:=[]
def s_If_0 (p0:S_Box) (p1 p2:Int):St:=
 ⟨mkSl 60 [(0,.v true [.ro q3 (p0.tracks.map rS_Track),.ro q5 (p0.packets.map rS_Packet)]),(1,sI p1),(2,sI p2)],[],[]⟩
def K_Ia_31:List Fr:=[]
def s_Ia_31:St:=
 ⟨mkSl 19 [],[],[]⟩
def K_Ia_15:List Fr:=[.lp [1,3] c_Ia_15,.bk 0,.sq (.kp [] c_Ia_31)]
def s_Ia_15 (p0:S_Box) (i15_0:Int):St:=
 ⟨mkSl 19 [(1,sP 0 0),(3,sI i15_0)],[],[some [.ro q3 (p0.tracks.map rS_Track),.ro q5 (p0.packets.map rS_Packet)]]⟩
def K_Ia_0:List Fr:=[]
def s_Ia_0 (p0:S_Box):St:=
 ⟨mkSl 19 [(0,.v true [.ro q3 (p0.tracks.map rS_Track),.ro q5 (p0.packets.map rS_Packet)])],[],[]⟩
def K_Id_0:List Fr:=[]
def s_Id_0 (p0 p1:Int) (p2:S_Act):St:=
 ⟨mkSl 16 [(0,sI p0),(1,sI p1),(2,sP 0 0)],[],[some [cI p2.kind,cI p2.value]]⟩
def K_Ic_14:List Fr:=[.bk 0,.sq c_Ic_37]
def s_Ic_14 (p0:S_Act) (b14_0:Bool):St:=
 ⟨mkSl 25 [(1,sP 0 0),(3,.v false [.clo 122 [0]]),(6,sI p0.kind),(7,sB b14_0)],[],[some [cI p0.kind,cI p0.value]]⟩
def K_Ic_0:List Fr:=[]
def s_Ic_0 (p0:S_Act):St:=
 ⟨mkSl 25 [(0,.v true [cI p0.kind,cI p0.value])],[],[]⟩
def K_Ie_0:List Fr:=[]
def s_Ie_0 (p0:S_Box) (p1:Int):St:=
 ⟨mkSl 22 [(0,.v true [.ro q3 (p0.tracks.map rS_Track),.ro q5 (p0.packets.map rS_Packet)]),(1,sI p1)],[],[]⟩
def K_Ig_0:List Fr:=[]
def s_Ig_0 (p1:Int) (p0:S_zplayer):St:=
 ⟨mkSl 31 [(0,sP 0 0),(1,sI p1)],[jI p0.due,jB p0.gone,jB p0.dropping,some ⟨q4,(List.map rS_Show p0.shows)⟩],[some [.ro q3 (p0.b.tracks.map rS_Track),.ro q5 (p0.b.packets.map rS_Packet),cI p0.speed,cR 0 p0.due,cR 1 p0.gone,cI p0.next,cR 2 p0.dropping,cI p0.wall,cI p0.clock,cI p0.busy,cR 3 p0.shows]]⟩
def K_Ih_38:List Fr:=[.bk 3,.sq c_Ih_41,.lp [0,4,5,23,24,34,35,36] c_Ih_26,.bk 2,.sq (.kp [0,4,5,23,24] c_Ih_42),.bk 1,.sq c_Ih_43,.lp [0,4,23,24] c_Ih_9,.bk 0,.sq (.kp [0,4] c_Ih_44)]
def s_Ih_38 (i9_1 i26_0 i9_0:Int) (p0:S_zplayer) (i9_2:Int) (l26_1:(List Int)) (l9_4:(List Bool)) (b38_0:Bool):St:=
 ⟨mkSl 158 [(0,sP 0 0),(4,.v false [cR 0 l26_1]),(5,sI i9_1),(6,sI i26_0),(23,sI i9_0),(24,sI i9_1),(34,.v false [.ro q5 (p0.b.packets.map rS_Packet)]),(35,sI (p0.b.packets.length:Int)),(36,sI i26_0),(83,sB b38_0)],[jI l26_1,jI p0.due,jB p0.gone,jB l9_4,some ⟨q4,(List.map rS_Show p0.shows)⟩],[some [.ro q3 (p0.b.tracks.map rS_Track),.ro q5 (p0.b.packets.map rS_Packet),cI p0.speed,cR 1 p0.due,cR 2 p0.gone,cI p0.next,cR 3 l9_4,cI p0.wall,cI i9_2,cI p0.busy,cR 4 p0.shows]]⟩
def K_Ih_42:List Fr:=[.bk 1,.sq c_Ih_43,.lp [0,4,23,24] c_Ih_9,.bk 0,.sq (.kp [0,4] c_Ih_44)]
def s_Ih_42 (i9_1 i9_0:Int) (p0:S_zplayer) (i9_2:Int) (l9_4:(List Bool)) (l42_0:(List Int)):St:=
 ⟨mkSl 158 [(0,sP 0 0),(4,.v false [cR 0 l42_0]),(5,sI i9_1),(23,sI i9_0),(24,sI i9_1)],[jI l42_0,jI p0.due,jB p0.gone,jB l9_4,some ⟨q4,(List.map rS_Show p0.shows)⟩],[some [.ro q3 (p0.b.tracks.map rS_Track),.ro q5 (p0.b.packets.map rS_Packet),cI p0.speed,cR 1 p0.due,cR 2 p0.gone,cI p0.next,cR 3 l9_4,cI p0.wall,cI i9_2,cI p0.busy,cR 4 p0.shows]]⟩
def K_Ih_26:List Fr:=[.lp [0,4,5,23,24,34,35,36] c_Ih_26,.bk 2,.sq (.kp [0,4,5,23,24] c_Ih_42),.bk 1,.sq c_Ih_43,.lp [0,4,23,24] c_Ih_9,.bk 0,.sq (.kp [0,4] c_Ih_44)]
def s_Ih_26 (i9_1 i9_0:Int) (p0:S_zplayer) (i9_2:Int) (l9_4:(List Bool)) (i26_0:Int) (l26_1:(List Int)):St:=
 ⟨mkSl 158 [(0,sP 0 0),(4,.v false [cR 0 l26_1]),(5,sI i9_1),(23,sI i9_0),(24,sI i9_1),(34,.v false [.ro q5 (p0.b.packets.map rS_Packet)]),(35,sI (p0.b.packets.length:Int)),(36,sI i26_0)],[jI l26_1,jI p0.due,jB p0.gone,jB l9_4,some ⟨q4,(List.map rS_Show p0.shows)⟩],[some [.ro q3 (p0.b.tracks.map rS_Track),.ro q5 (p0.b.packets.map rS_Packet),cI p0.speed,cR 1 p0.due,cR 2 p0.gone,cI p0.next,cR 3 l9_4,cI p0.wall,cI i9_2,cI p0.busy,cR 4 p0.shows]]⟩
def K_Ih_63:List Fr:=[.bk 5,.sq c_Ih_68,.lp [0,4,100,101,102] c_Ih_49,.bk 4,.sq (.kp [0] c_Ih_69)]
def s_Ih_63 (i49_0:Int) (p0:S_zplayer) (l49_1:(List S_Track)) (l49_2:(List S_Packet)) (i49_3 i49_4 i49_5 i49_6 i49_7:Int) (l44_1 l49_8:(List Int)) (l49_10:(List Bool)) (l49_11:(List S_Show)) (b63_0:Bool) (l63_1:(List Bool)):St:=
 ⟨mkSl 158 [(0,sP 0 0),(4,.v false [cR 0 l44_1]),(8,sI i49_0),(100,.v false [.ro q5 (p0.b.packets.map rS_Packet)]),(101,sI (p0.b.packets.length:Int)),(102,sI i49_0),(141,sB b63_0)],[jI l44_1,jI l49_8,jB l63_1,jB l49_10,some ⟨q4,(List.map rS_Show l49_11)⟩],[some [.ro q3 (l49_1.map rS_Track),.ro q5 (l49_2.map rS_Packet),cI i49_3,cR 1 l49_8,cR 2 l63_1,cI i49_4,cR 3 l49_10,cI i49_5,cI i49_6,cI i49_7,cR 4 l49_11]]⟩
def K_Ih_69:List Fr:=[]
def s_Ih_69 (l69_0:(List S_Track)) (l69_1:(List S_Packet)) (i69_2 i69_3 i69_4 i69_5 i69_6:Int) (l69_7:(List Int)) (l69_8 l69_9:(List Bool)) (l69_10:(List S_Show)):St:=
 ⟨mkSl 158 [(0,sP 0 0)],[jI l69_7,jB l69_8,jB l69_9,some ⟨q4,(List.map rS_Show l69_10)⟩],[some [.ro q3 (l69_0.map rS_Track),.ro q5 (l69_1.map rS_Packet),cI i69_2,cR 0 l69_7,cR 1 l69_8,cI i69_3,cR 2 l69_9,cI i69_4,cI i69_5,cI i69_6,cR 3 l69_10]]⟩
def K_Ih_49:List Fr:=[.lp [0,4,100,101,102] c_Ih_49,.bk 4,.sq (.kp [0] c_Ih_69)]
def s_Ih_49 (p0:S_zplayer) (l44_1:(List Int)) (i49_0:Int) (l49_1:(List S_Track)) (l49_2:(List S_Packet)) (i49_3 i49_4 i49_5 i49_6 i49_7:Int) (l49_8:(List Int)) (l49_9 l49_10:(List Bool)) (l49_11:(List S_Show)):St:=
 ⟨mkSl 158 [(0,sP 0 0),(4,.v false [cR 0 l44_1]),(100,.v false [.ro q5 (p0.b.packets.map rS_Packet)]),(101,sI (p0.b.packets.length:Int)),(102,sI i49_0)],[jI l44_1,jI l49_8,jB l49_9,jB l49_10,some ⟨q4,(List.map rS_Show l49_11)⟩],[some [.ro q3 (l49_1.map rS_Track),.ro q5 (l49_2.map rS_Packet),cI i49_3,cR 1 l49_8,cR 2 l49_9,cI i49_4,cR 3 l49_10,cI i49_5,cI i49_6,cI i49_7,cR 4 l49_11]]⟩
def K_Ih_44:List Fr:=[]
def s_Ih_44 (p0:S_zplayer) (i44_0:Int) (l44_1:(List Int)) (l44_2:(List Bool)):St:=
 ⟨mkSl 158 [(0,sP 0 0),(4,.v false [cR 0 l44_1])],[jI l44_1,jI p0.due,jB p0.gone,jB l44_2,some ⟨q4,(List.map rS_Show p0.shows)⟩],[some [.ro q3 (p0.b.tracks.map rS_Track),.ro q5 (p0.b.packets.map rS_Packet),cI p0.speed,cR 1 p0.due,cR 2 p0.gone,cI p0.next,cR 3 l44_2,cI p0.wall,cI i44_0,cI p0.busy,cR 4 p0.shows]]⟩
def K_Ih_9:List Fr:=[.lp [0,4,23,24] c_Ih_9,.bk 0,.sq (.kp [0,4] c_Ih_44)]
def s_Ih_9 (p0:S_zplayer) (i9_0 i9_1 i9_2:Int) (l9_3:(List Int)) (l9_4:(List Bool)):St:=
 ⟨mkSl 158 [(0,sP 0 0),(4,.v false [cR 0 l9_3]),(23,sI i9_0),(24,sI i9_1)],[jI l9_3,jI p0.due,jB p0.gone,jB l9_4,some ⟨q4,(List.map rS_Show p0.shows)⟩],[some [.ro q3 (p0.b.tracks.map rS_Track),.ro q5 (p0.b.packets.map rS_Packet),cI p0.speed,cR 1 p0.due,cR 2 p0.gone,cI p0.next,cR 3 l9_4,cI p0.wall,cI i9_2,cI p0.busy,cR 4 p0.shows]]⟩
def K_Ih_0:List Fr:=[]
def s_Ih_0 (p1:Int) (p0:S_zplayer):St:=
 ⟨mkSl 158 [(0,sP 0 0),(1,sI p1)],[jI p0.due,jB p0.gone,jB p0.dropping,some ⟨q4,(List.map rS_Show p0.shows)⟩],[some [.ro q3 (p0.b.tracks.map rS_Track),.ro q5 (p0.b.packets.map rS_Packet),cI p0.speed,cR 0 p0.due,cR 1 p0.gone,cI p0.next,cR 2 p0.dropping,cI p0.wall,cI p0.clock,cI p0.busy,cR 3 p0.shows]]⟩
def K_Ii_49:List Fr:=[.bk 1,.lp [0] c_Ii_2,.bk 0]
def s_Ii_49 (l49_0:(List S_Track)) (l49_1:(List S_Packet)) (i49_2 i49_3 i49_4 i49_5 i49_6:Int) (l49_7:(List Int)) (l49_8 l49_9:(List Bool)) (l49_10:(List S_Show)):St:=
 ⟨mkSl 153 [(0,sP 0 0)],[jI l49_7,jB l49_8,jB l49_9,some ⟨q4,(List.map rS_Show l49_10)⟩],[some [.ro q3 (l49_0.map rS_Track),.ro q5 (l49_1.map rS_Packet),cI i49_2,cR 0 l49_7,cR 1 l49_8,cI i49_3,cR 2 l49_9,cI i49_4,cI i49_5,cI i49_6,cR 3 l49_10]]⟩
def K_Ii_47:List Fr:=[.sq (.kp [0] c_Ii_49),.bk 1,.lp [0] c_Ii_2,.bk 0]
def s_Ii_47 (i2_3:Int) (x2_5:S_Packet) (l47_0:(List S_Track)) (l47_1:(List S_Packet)) (i47_2 i47_3 i47_4 i47_5 i47_6:Int) (l47_7:(List Int)) (l47_8 l47_9:(List Bool)) (l47_10:(List S_Show)):St:=
 ⟨mkSl 153 [(0,sP 0 0),(2,sI i2_3),(3,sP 1 0)],[jI l47_7,jB l47_8,jB l47_9,some ⟨q4,(List.map rS_Show l47_10)⟩],[some [.ro q3 (l47_0.map rS_Track),.ro q5 (l47_1.map rS_Packet),cI i47_2,cR 0 l47_7,cR 1 l47_8,cI i47_3,cR 2 l47_9,cI i47_4,cI i47_5,cI i47_6,cR 3 l47_10],some [cI x2_5.track,cI x2_5.time,cI x2_5.span,cB x2_5.key,.ro [.sc] (x2_5.data.map (rI .u8))]]⟩
def K_Ii_41:List Fr:=[.sq (.kp [0] c_Ii_49),.bk 1,.lp [0] c_Ii_2,.bk 0]
def s_Ii_41 (i2_3:Int) (x31_1:Int×S_zplayer) (x2_5:S_Packet) (l41_0:(List Bool)):St:=
 ⟨mkSl 153 [(0,sP 0 0),(2,sI i2_3),(3,sP 1 0)],[jI x31_1.2.due,jB x31_1.2.gone,jB l41_0,some ⟨q4,(List.map rS_Show x31_1.2.shows)⟩],[some [.ro q3 (x31_1.2.b.tracks.map rS_Track),.ro q5 (x31_1.2.b.packets.map rS_Packet),cI x31_1.2.speed,cR 0 x31_1.2.due,cR 1 x31_1.2.gone,cI x31_1.2.next,cR 2 l41_0,cI x31_1.2.wall,cI x31_1.2.clock,cI x31_1.2.busy,cR 3 x31_1.2.shows],some [cI x2_5.track,cI x2_5.time,cI x2_5.span,cB x2_5.key,.ro [.sc] (x2_5.data.map (rI .u8))]]⟩
def K_Ii_38:List Fr:=[.sq (.kp [0,2,3] c_Ii_41),.sq (.kp [0] c_Ii_49),.bk 1,.lp [0] c_Ii_2,.bk 0]
def s_Ii_38 (i2_3:Int) (x31_1:Int×S_zplayer) (x2_5:S_Packet) (b38_0:Bool):St:=
 ⟨mkSl 153 [(0,sP 0 0),(2,sI i2_3),(3,sP 1 0),(95,sB b38_0)],[jI x31_1.2.due,jB x31_1.2.gone,jB x31_1.2.dropping,some ⟨q4,(List.map rS_Show x31_1.2.shows)⟩],[some [.ro q3 (x31_1.2.b.tracks.map rS_Track),.ro q5 (x31_1.2.b.packets.map rS_Packet),cI x31_1.2.speed,cR 0 x31_1.2.due,cR 1 x31_1.2.gone,cI x31_1.2.next,cR 2 x31_1.2.dropping,cI x31_1.2.wall,cI x31_1.2.clock,cI x31_1.2.busy,cR 3 x31_1.2.shows],some [cI x2_5.track,cI x2_5.time,cI x2_5.span,cB x2_5.key,.ro [.sc] (x2_5.data.map (rI .u8))]]⟩
def K_Ii_31:List Fr:=[.sq (.kp [0] c_Ii_49),.bk 1,.lp [0] c_Ii_2,.bk 0]
def s_Ii_31 (i2_3:Int) (l2_0:(List S_Track)) (l2_1:(List S_Packet)) (i2_2 i2_4 i2_5 i2_6:Int) (x2_5:S_Packet) (l2_7:(List Int)) (l2_10:(List S_Show)) (l31_0 l31_1:(List Bool)):St:=
 ⟨mkSl 153 [(0,sP 0 0),(2,sI i2_3),(3,sP 1 0)],[jI l2_7,jB l31_0,jB l31_1,some ⟨q4,(List.map rS_Show l2_10)⟩],[some [.ro q3 (l2_0.map rS_Track),.ro q5 (l2_1.map rS_Packet),cI i2_2,cR 0 l2_7,cR 1 l31_0,cI i2_3,cR 2 l31_1,cI i2_4,cI i2_5,cI i2_6,cR 3 l2_10],some [cI x2_5.track,cI x2_5.time,cI x2_5.span,cB x2_5.key,.ro [.sc] (x2_5.data.map (rI .u8))]]⟩
def K_Ii_2:List Fr:=[.lp [0] c_Ii_2,.bk 0]
def s_Ii_2 (l2_0:(List S_Track)) (l2_1:(List S_Packet)) (i2_2 i2_3 i2_4 i2_5 i2_6:Int) (l2_7:(List Int)) (l2_8 l2_9:(List Bool)) (l2_10:(List S_Show)):St:=
 ⟨mkSl 153 [(0,sP 0 0)],[jI l2_7,jB l2_8,jB l2_9,some ⟨q4,(List.map rS_Show l2_10)⟩],[some [.ro q3 (l2_0.map rS_Track),.ro q5 (l2_1.map rS_Packet),cI i2_2,cR 0 l2_7,cR 1 l2_8,cI i2_3,cR 2 l2_9,cI i2_4,cI i2_5,cI i2_6,cR 3 l2_10]]⟩
def K_Ii_0:List Fr:=[]
def s_Ii_0 (p0:S_zplayer):St:=
 ⟨mkSl 153 [(0,sP 0 0)],[jI p0.due,jB p0.gone,jB p0.dropping,some ⟨q4,(List.map rS_Show p0.shows)⟩],[some [.ro q3 (p0.b.tracks.map rS_Track),.ro q5 (p0.b.packets.map rS_Packet),cI p0.speed,cR 0 p0.due,cR 1 p0.gone,cI p0.next,cR 2 p0.dropping,cI p0.wall,cI p0.clock,cI p0.busy,cR 3 p0.shows]]⟩
def K_Ib_120:List Fr:=[.lp [6,10,12,13,74,75,76] c_Ib_61,.bk 4,.sq (.kp [6,10] c_Ib_121)]
def s_Ib_120 (p2:(List S_Act)) (i61_2 i120_0:Int) (b120_1:Bool) (l120_2:(List S_Track)) (l120_3:(List S_Packet)) (i120_4 i120_5 i120_6 i120_7 i120_8:Int) (l120_9:(List Int)) (l120_10 l120_11:(List Bool)) (l120_12:(List S_Show)):St:=
 ⟨mkSl 149 [(6,sP 0 0),(10,sP 1 0),(12,sI i120_0),(13,sB b120_1),(74,.v false [.ro [.sc,.sc] (p2.map rS_Act)]),(75,sI (p2.length:Int)),(76,sI i61_2)],[some ⟨q4,(List.map rS_Show ([]:List S_Show))⟩,jI l120_9,jB l120_10,jB l120_11,some ⟨q4,(List.map rS_Show l120_12)⟩],[some [cI 0,.ref 0 [] 0 (([]:List S_Show).length),cI 0,cI 0],some [.ro q3 (l120_2.map rS_Track),.ro q5 (l120_3.map rS_Packet),cI i120_4,cR 1 l120_9,cR 2 l120_10,cI i120_5,cR 3 l120_11,cI i120_6,cI i120_7,cI i120_8,cR 4 l120_12]]⟩
def K_Ib_105:List Fr:=[.lp [6,10,12,13,74,75,76,112,113] c_Ib_105,.bk 7,.bk 6,.bk 5,.sq (.kp [6,10,12,13,74,75,76] c_Ib_120),.lp [6,10,12,13,74,75,76] c_Ib_61,.bk 4,.sq (.kp [6,10] c_Ib_121)]
def s_Ib_105 (i61_0:Int) (b61_1:Bool) (p2:(List S_Act)) (i61_2:Int) (x61_1:S_Act) (i105_0:Int) (l105_1:(List S_Track)) (l105_2:(List S_Packet)) (i105_3 i105_4 i105_5 i105_6 i105_7:Int) (l105_8:(List Int)) (l105_9 l105_10:(List Bool)) (l105_11:(List S_Show)):St:=
 ⟨mkSl 149 [(6,sP 0 0),(10,sP 1 0),(12,sI i61_0),(13,sB b61_1),(74,.v false [.ro [.sc,.sc] (p2.map rS_Act)]),(75,sI (p2.length:Int)),(76,sI i61_2),(112,sI x61_1.value),(113,sI i105_0)],[some ⟨q4,(List.map rS_Show ([]:List S_Show))⟩,jI l105_8,jB l105_9,jB l105_10,some ⟨q4,(List.map rS_Show l105_11)⟩],[some [cI 0,.ref 0 [] 0 (([]:List S_Show).length),cI 0,cI 0],some [.ro q3 (l105_1.map rS_Track),.ro q5 (l105_2.map rS_Packet),cI i105_3,cR 1 l105_8,cR 2 l105_9,cI i105_4,cR 3 l105_10,cI i105_5,cI i105_6,cI i105_7,cR 4 l105_11]]⟩
def K_Ib_80:List Fr:=[.bk 6,.bk 5,.sq (.kp [6,10,12,13,74,75,76] c_Ib_120),.lp [6,10,12,13,74,75,76] c_Ib_61,.bk 4,.sq (.kp [6,10] c_Ib_121)]
def s_Ib_80 (i61_0:Int) (b61_1:Bool) (p2:(List S_Act)) (i61_2:Int) (x61_1:S_Act) (l61_3:(List S_Track)) (l61_4:(List S_Packet)) (i61_5 i61_6 i61_7 i61_8 i61_9:Int) (l61_10:(List Int)) (l61_11 l61_12:(List Bool)) (l61_13:(List S_Show)) (b80_0:Bool):St:=
 ⟨mkSl 149 [(6,sP 0 0),(10,sP 1 0),(12,sI i61_0),(13,sB b61_1),(15,sP 2 0),(74,.v false [.ro [.sc,.sc] (p2.map rS_Act)]),(75,sI (p2.length:Int)),(76,sI i61_2),(81,sI x61_1.kind),(82,sB b80_0)],[some ⟨q4,(List.map rS_Show ([]:List S_Show))⟩,jI l61_10,jB l61_11,jB l61_12,some ⟨q4,(List.map rS_Show l61_13)⟩],[some [cI 0,.ref 0 [] 0 (([]:List S_Show).length),cI 0,cI 0],some [.ro q3 (l61_3.map rS_Track),.ro q5 (l61_4.map rS_Packet),cI i61_5,cR 1 l61_10,cR 2 l61_11,cI i61_6,cR 3 l61_12,cI i61_7,cI i61_8,cI i61_9,cR 4 l61_13],some [cI x61_1.kind,cI x61_1.value]]⟩
def K_Ib_121:List Fr:=[]
def s_Ib_121 (l121_0:(List S_Track)) (l121_1:(List S_Packet)) (i121_2 i121_3 i121_4 i121_5 i121_6:Int) (l121_7:(List Int)) (l121_8 l121_9:(List Bool)) (l121_10:(List S_Show)):St:=
 ⟨mkSl 149 [(6,sP 0 0),(10,sP 1 0)],[some ⟨q4,(List.map rS_Show ([]:List S_Show))⟩,jI l121_7,jB l121_8,jB l121_9,some ⟨q4,(List.map rS_Show l121_10)⟩],[some [cI 0,.ref 0 [] 0 (([]:List S_Show).length),cI 0,cI 0],some [.ro q3 (l121_0.map rS_Track),.ro q5 (l121_1.map rS_Packet),cI i121_2,cR 1 l121_7,cR 2 l121_8,cI i121_3,cR 3 l121_9,cI i121_4,cI i121_5,cI i121_6,cR 4 l121_10]]⟩
def K_Ib_61:List Fr:=[.lp [6,10,12,13,74,75,76] c_Ib_61,.bk 4,.sq (.kp [6,10] c_Ib_121)]
def s_Ib_61 (p2:(List S_Act)) (i61_0:Int) (b61_1:Bool) (i61_2:Int) (l61_3:(List S_Track)) (l61_4:(List S_Packet)) (i61_5 i61_6 i61_7 i61_8 i61_9:Int) (l61_10:(List Int)) (l61_11 l61_12:(List Bool)) (l61_13:(List S_Show)):St:=
 ⟨mkSl 149 [(6,sP 0 0),(10,sP 1 0),(12,sI i61_0),(13,sB b61_1),(74,.v false [.ro [.sc,.sc] (p2.map rS_Act)]),(75,sI (p2.length:Int)),(76,sI i61_2)],[some ⟨q4,(List.map rS_Show ([]:List S_Show))⟩,jI l61_10,jB l61_11,jB l61_12,some ⟨q4,(List.map rS_Show l61_13)⟩],[some [cI 0,.ref 0 [] 0 (([]:List S_Show).length),cI 0,cI 0],some [.ro q3 (l61_3.map rS_Track),.ro q5 (l61_4.map rS_Packet),cI i61_5,cR 1 l61_10,cR 2 l61_11,cI i61_6,cR 3 l61_12,cI i61_7,cI i61_8,cI i61_9,cR 4 l61_13]]⟩
def K_Ib_54:List Fr:=[]
def s_Ib_54 (p2:(List S_Act)) (p0:S_Box) (p1:Int) (l54_0:(List Int)) (l54_1 l54_2:(List Bool)):St:=
 ⟨mkSl 149 [(2,.v false [.ro [.sc,.sc] (p2.map rS_Act)]),(6,sP 0 0),(10,sP 1 0)],[some ⟨q4,(List.map rS_Show ([]:List S_Show))⟩,jI l54_0,jB l54_1,jB l54_2],[some [cI 0,.ref 0 [] 0 (([]:List S_Show).length),cI 0,cI 0],some [.ro q3 (p0.tracks.map rS_Track),.ro q5 (p0.packets.map rS_Packet),cI p1,cR 1 l54_0,cR 2 l54_1,cI 0,cR 3 l54_2,cI 0,cI 0,cI 0,.lit (.slice none 0 0)]]⟩
def K_Ib_42:List Fr:=[.lp [2,3,6,10,57,58] c_Ib_42,.bk 2,.sq (.kp [2,6,10] c_Ib_54)]
def s_Ib_42 (p2:(List S_Act)) (p0:S_Box) (p1 i42_0:Int) (l42_1:(List Int)) (l42_2 l42_3:(List Bool)):St:=
 ⟨mkSl 149 [(2,.v false [.ro [.sc,.sc] (p2.map rS_Act)]),(3,sP 0 0),(6,sP 1 0),(10,sP 2 0),(57,sI (p0.packets.length:Int)),(58,sI i42_0)],[some ⟨q4,(List.map rS_Show ([]:List S_Show))⟩,jI l42_1,jB l42_2,jB l42_3],[some [.ro q3 (p0.tracks.map rS_Track),.ro q5 (p0.packets.map rS_Packet)],some [cI 0,.ref 0 [] 0 (([]:List S_Show).length),cI 0,cI 0],some [.ro q3 (p0.tracks.map rS_Track),.ro q5 (p0.packets.map rS_Packet),cI p1,cR 1 l42_1,cR 2 l42_2,cI 0,cR 3 l42_3,cI 0,cI 0,cI 0,.lit (.slice none 0 0)]]⟩
def K_Ib_33:List Fr:=[]
def s_Ib_33 (p1:Int) (p2:(List S_Act)) (p0:S_Box):St:=
 ⟨mkSl 149 [(1,sI p1),(2,.v false [.ro [.sc,.sc] (p2.map rS_Act)]),(3,sP 0 0),(6,sP 1 0)],[some ⟨q4,(List.map rS_Show ([]:List S_Show))⟩],[some [.ro q3 (p0.tracks.map rS_Track),.ro q5 (p0.packets.map rS_Packet)],some [cI 0,.ref 0 [] 0 (([]:List S_Show).length),cI 0,cI 0]]⟩
def K_Ib_15:List Fr:=[.lp [1,2,3,6,33,34,35] c_Ib_15,.bk 0,.sq (.kp [1,2,3,6] c_Ib_33)]
def s_Ib_15 (p1:Int) (p2:(List S_Act)) (p0:S_Box) (i15_0:Int):St:=
 ⟨mkSl 149 [(1,sI p1),(2,.v false [.ro [.sc,.sc] (p2.map rS_Act)]),(3,sP 0 0),(6,sP 1 0),(33,.v false [.ro [.sc,.sc] (p2.map rS_Act)]),(34,sI (p2.length:Int)),(35,sI i15_0)],[some ⟨q4,(List.map rS_Show ([]:List S_Show))⟩],[some [.ro q3 (p0.tracks.map rS_Track),.ro q5 (p0.packets.map rS_Packet)],some [cI 0,.ref 0 [] 0 (([]:List S_Show).length),cI 0,cI 0]]⟩
def K_Ib_5:List Fr:=[.sq c_Ib_10]
def s_Ib_5 (p1:Int) (p2:(List S_Act)) (p0:S_Box) (b5_0:Bool):St:=
 ⟨mkSl 149 [(1,sI p1),(2,.v false [.ro [.sc,.sc] (p2.map rS_Act)]),(3,sP 0 0),(6,sP 1 0),(31,sB b5_0)],[some ⟨q4,(List.map rS_Show ([]:List S_Show))⟩],[some [.ro q3 (p0.tracks.map rS_Track),.ro q5 (p0.packets.map rS_Packet)],some [cI 0,.ref 0 [] 0 (([]:List S_Show).length),cI 0,cI 0]]⟩
def K_Ib_0:List Fr:=[]
def s_Ib_0 (p0:S_Box) (p1:Int) (p2:(List S_Act)):St:=
 ⟨mkSl 149 [(0,.v true [.ro q3 (p0.tracks.map rS_Track),.ro q5 (p0.packets.map rS_Packet)]),(1,sI p1),(2,.v false [.ro [.sc,.sc] (p2.map rS_Act)])],[],[]⟩
def K_Lh_0:List Fr:=[]
def s_Lh_0 (p0 p1:S_Show):St:=
 ⟨mkSl 25 [(0,.v true [cI p0.wall,cI p0.clock,cI p0.packet,cB p0.dropped]),(1,.v true [cI p1.wall,cI p1.clock,cI p1.packet,cB p1.dropped])],[],[]⟩
def K_Li_31:List Fr:=[]
def s_Li_31:St:=
 ⟨mkSl 27 [],[],[]⟩
def K_Li_15:List Fr:=[.lp [0,1,5] c_Li_15,.bk 0,.sq (.kp [] c_Li_31)]
def s_Li_15 (p0 p1:(List S_Show)) (i15_0:Int):St:=
 ⟨mkSl 27 [(0,.v false [.ro q4 (p0.map rS_Show)]),(1,.v false [.ro q4 (p1.map rS_Show)]),(5,sI i15_0)],[],[]⟩
def K_Li_0:List Fr:=[]
def s_Li_0 (p0 p1:(List S_Show)):St:=
 ⟨mkSl 27 [(0,.v false [.ro q4 (p0.map rS_Show)]),(1,.v false [.ro q4 (p1.map rS_Show)])],[],[]⟩
def K_Lg_0:List Fr:=[]
def s_Lg_0 (p0 p1:S_Played):St:=
 ⟨mkSl 26 [(0,.v true [cI p0.err,.ro q4 (p0.shows.map rS_Show),cI p0.wall,cI p0.clock]),(1,.v true [cI p1.err,.ro q4 (p1.shows.map rS_Show),cI p1.wall,cI p1.clock])],[],[]⟩
def K_Lj_0:List Fr:=[]
def s_Lj_0 (p0 p1:S_Track):St:=
 ⟨mkSl 20 [(0,.v true [cI p0.kind,cI p0.scale,.lit (.string p0.name)]),(1,.v true [cI p1.kind,cI p1.scale,.lit (.string p1.name)])],[],[]⟩
def K_Lk_31:List Fr:=[]
def s_Lk_31:St:=
 ⟨mkSl 27 [],[],[]⟩
def K_Lk_15:List Fr:=[.lp [0,1,5] c_Lk_15,.bk 0,.sq (.kp [] c_Lk_31)]
def s_Lk_15 (p0 p1:(List S_Track)) (i15_0:Int):St:=
 ⟨mkSl 27 [(0,.v false [.ro q3 (p0.map rS_Track)]),(1,.v false [.ro q3 (p1.map rS_Track)]),(5,sI i15_0)],[],[]⟩
def K_Lk_0:List Fr:=[]
def s_Lk_0 (p0 p1:(List S_Track)):St:=
 ⟨mkSl 27 [(0,.v false [.ro q3 (p0.map rS_Track)]),(1,.v false [.ro q3 (p1.map rS_Track)])],[],[]⟩
def K_Ld_31:List Fr:=[]
def s_Ld_31:St:=
 ⟨mkSl 26 [],[],[]⟩
def K_Ld_15:List Fr:=[.lp [0,1,5] c_Ld_15,.bk 0,.sq (.kp [] c_Ld_31)]
def s_Ld_15 (p0 p1:(List Int)) (i15_0:Int):St:=
 ⟨mkSl 26 [(0,.v false [.ro [.sc] (p0.map (rI .u8))]),(1,.v false [.ro [.sc] (p1.map (rI .u8))]),(5,sI i15_0)],[],[]⟩
def K_Ld_0:List Fr:=[]
def s_Ld_0 (p0 p1:(List Int)):St:=
 ⟨mkSl 26 [(0,.v false [.ro [.sc] (p0.map (rI .u8))]),(1,.v false [.ro [.sc] (p1.map (rI .u8))])],[],[]⟩
def K_Le_0:List Fr:=[]
def s_Le_0 (p0 p1:S_Packet):St:=
 ⟨mkSl 31 [(0,.v true [cI p0.track,cI p0.time,cI p0.span,cB p0.key,.ro [.sc] (p0.data.map (rI .u8))]),(1,.v true [cI p1.track,cI p1.time,cI p1.span,cB p1.key,.ro [.sc] (p1.data.map (rI .u8))])],[],[]⟩
def K_Lf_31:List Fr:=[]
def s_Lf_31:St:=
 ⟨mkSl 27 [],[],[]⟩
def K_Lf_15:List Fr:=[.lp [0,1,5] c_Lf_15,.bk 0,.sq (.kp [] c_Lf_31)]
def s_Lf_15 (p0 p1:(List S_Packet)) (i15_0:Int):St:=
 ⟨mkSl 27 [(0,.v false [.ro q5 (p0.map rS_Packet)]),(1,.v false [.ro q5 (p1.map rS_Packet)]),(5,sI i15_0)],[],[]⟩
def K_Lf_0:List Fr:=[]
def s_Lf_0 (p0 p1:(List S_Packet)):St:=
 ⟨mkSl 27 [(0,.v false [.ro q5 (p0.map rS_Packet)]),(1,.v false [.ro q5 (p1.map rS_Packet)])],[],[]⟩
def K_Lc_0:List Fr:=[]
def s_Lc_0 (p0 p1:S_Box):St:=
 ⟨mkSl 17 [(0,.v true [.ro q3 (p0.tracks.map rS_Track),.ro q5 (p0.packets.map rS_Packet)]),(1,.v true [.ro q3 (p1.tracks.map rS_Track),.ro q5 (p1.packets.map rS_Packet)])],[],[]⟩
def K_La_0:List Fr:=[]
def s_La_0 (p0 p1:S_Act):St:=
 ⟨mkSl 15 [(0,.v true [cI p0.kind,cI p0.value]),(1,.v true [cI p1.kind,cI p1.value])],[],[]⟩
def K_Lb_31:List Fr:=[]
def s_Lb_31:St:=
 ⟨mkSl 27 [],[],[]⟩
def K_Lb_15:List Fr:=[.lp [0,1,5] c_Lb_15,.bk 0,.sq (.kp [] c_Lb_31)]
def s_Lb_15 (p0 p1:(List S_Act)) (i15_0:Int):St:=
 ⟨mkSl 27 [(0,.v false [.ro [.sc,.sc] (p0.map rS_Act)]),(1,.v false [.ro [.sc,.sc] (p1.map rS_Act)]),(5,sI i15_0)],[],[]⟩
def K_Lb_0:List Fr:=[]
def s_Lb_0 (p0 p1:(List S_Act)):St:=
 ⟨mkSl 27 [(0,.v false [.ro [.sc,.sc] (p0.map rS_Act)]),(1,.v false [.ro [.sc,.sc] (p1.map rS_Act)])],[],[]⟩
def K_Lt_25:List Fr:=[]
def s_Lt_25 (l25_0:ByteArray):St:=
 ⟨mkSl 20 [(3,.v false [.lit (.string l25_0)])],[],[]⟩
def K_Lt_15:List Fr:=[.lp [0,3] c_Lt_15,.bk 0,.sq (.kp [3] c_Lt_25)]
def s_Lt_15 (i15_0:Int) (l15_1:ByteArray):St:=
 ⟨mkSl 20 [(0,sI i15_0),(3,.v false [.lit (.string l15_1)])],[],[]⟩
def K_Lt_0:List Fr:=[]
def s_Lt_0 (p0:Int):St:=
 ⟨mkSl 20 [(0,sI p0)],[],[]⟩
def K_Lu_27:List Fr:=[]
def s_Lu_27 (i27_0:Int) (l27_1:(List S_Track)):St:=
 ⟨mkSl 35 [(0,.v false [cR 0 l27_1]),(1,sI i27_0)],[some ⟨q3,(List.map rS_Track l27_1)⟩],[]⟩
def K_Lu_7:List Fr:=[.lp [0,1,5] c_Lu_7,.bk 0,.sq (.kp [0,1] c_Lu_27)]
def s_Lu_7 (i7_0 i7_1:Int) (l7_2:(List S_Track)):St:=
 ⟨mkSl 35 [(0,.v false [cR 0 l7_2]),(1,sI i7_0),(5,sI i7_1)],[some ⟨q3,(List.map rS_Track l7_2)⟩],[]⟩
def K_Lu_0:List Fr:=[]
def s_Lu_0 (p1:Int) (p0:(List S_Track)):St:=
 ⟨mkSl 35 [(0,.v false [cR 0 p0]),(1,sI p1)],[some ⟨q3,(List.map rS_Track p0)⟩],[]⟩
def K_Lp_19:List Fr:=[]
def s_Lp_19 (i19_0:Int) (l19_1:(List Int)):St:=
 ⟨mkSl 20 [(0,.v false [cR 0 l19_1]),(1,sI i19_0)],[some ⟨[.sc],(List.map (rI .u8) l19_1)⟩],[]⟩
def K_Lp_7:List Fr:=[.lp [0,1,5] c_Lp_7,.bk 0,.sq (.kp [0,1] c_Lp_19)]
def s_Lp_7 (i7_0 i7_1:Int) (l7_2:(List Int)):St:=
 ⟨mkSl 20 [(0,.v false [cR 0 l7_2]),(1,sI i7_0),(5,sI i7_1)],[some ⟨[.sc],(List.map (rI .u8) l7_2)⟩],[]⟩
def K_Lp_0:List Fr:=[]
def s_Lp_0 (p1:Int) (p0:(List Int)):St:=
 ⟨mkSl 20 [(0,.v false [cR 0 p0]),(1,sI p1)],[some ⟨[.sc],(List.map (rI .u8) p0)⟩],[]⟩
def K_Lq_33:List Fr:=[]
def s_Lq_33 (i33_0:Int) (l33_1:(List S_Packet)):St:=
 ⟨mkSl 50 [(0,.v false [cR 0 l33_1]),(1,sI i33_0)],[some ⟨[.sc,.sc,.sc,.sc,.own [.sc]],(List.map rS_Packet l33_1)⟩],[]⟩
def K_Lq_7:List Fr:=[.lp [0,1,5] c_Lq_7,.bk 0,.sq (.kp [0,1] c_Lq_33)]
def s_Lq_7 (i7_0 i7_1:Int) (l7_2:(List S_Packet)):St:=
 ⟨mkSl 50 [(0,.v false [cR 0 l7_2]),(1,sI i7_0),(5,sI i7_1)],[some ⟨[.sc,.sc,.sc,.sc,.own [.sc]],(List.map rS_Packet l7_2)⟩],[]⟩
def K_Lq_0:List Fr:=[]
def s_Lq_0 (p1:Int) (p0:(List S_Packet)):St:=
 ⟨mkSl 50 [(0,.v false [cR 0 p0]),(1,sI p1)],[some ⟨[.sc,.sc,.sc,.sc,.own [.sc]],(List.map rS_Packet p0)⟩],[]⟩
def K_Lo_0:List Fr:=[]
def s_Lo_0 (p1:Int) (p0:S_Box):St:=
 ⟨mkSl 14 [(0,.v true [cR 0 p0.tracks,cR 1 p0.packets]),(1,sI p1)],[some ⟨q3,(List.map rS_Track p0.tracks)⟩,some ⟨[.sc,.sc,.sc,.sc,.own [.sc]],(List.map rS_Packet p0.packets)⟩],[]⟩
def K_Ln_23:List Fr:=[]
def s_Ln_23 (i23_0:Int) (l23_1:(List S_Act)):St:=
 ⟨mkSl 27 [(0,.v false [cR 0 l23_1]),(1,sI i23_0)],[some ⟨[.sc,.sc],(List.map rS_Act l23_1)⟩],[]⟩
def K_Ln_7:List Fr:=[.lp [0,1,5] c_Ln_7,.bk 0,.sq (.kp [0,1] c_Ln_23)]
def s_Ln_7 (i7_0 i7_1:Int) (l7_2:(List S_Act)):St:=
 ⟨mkSl 27 [(0,.v false [cR 0 l7_2]),(1,sI i7_0),(5,sI i7_1)],[some ⟨[.sc,.sc],(List.map rS_Act l7_2)⟩],[]⟩
def K_Ln_0:List Fr:=[]
def s_Ln_0 (p1:Int) (p0:(List S_Act)):St:=
 ⟨mkSl 27 [(0,.v false [cR 0 p0]),(1,sI p1)],[some ⟨[.sc,.sc],(List.map rS_Act p0)⟩],[]⟩
def K_Ls_31:List Fr:=[]
def s_Ls_31 (i31_0:Int) (l31_1:(List S_Show)):St:=
 ⟨mkSl 43 [(0,.v false [cR 0 l31_1]),(1,sI i31_0)],[some ⟨q4,(List.map rS_Show l31_1)⟩],[]⟩
def K_Ls_7:List Fr:=[.lp [0,1,5] c_Ls_7,.bk 0,.sq (.kp [0,1] c_Ls_31)]
def s_Ls_7 (i7_0 i7_1:Int) (l7_2:(List S_Show)):St:=
 ⟨mkSl 43 [(0,.v false [cR 0 l7_2]),(1,sI i7_0),(5,sI i7_1)],[some ⟨q4,(List.map rS_Show l7_2)⟩],[]⟩
def K_Ls_0:List Fr:=[]
def s_Ls_0 (p1:Int) (p0:(List S_Show)):St:=
 ⟨mkSl 43 [(0,.v false [cR 0 p0]),(1,sI p1)],[some ⟨q4,(List.map rS_Show p0)⟩],[]⟩
def K_Lr_0:List Fr:=[]
def s_Lr_0 (p0:S_Played) (p1:Int):St:=
 ⟨mkSl 10 [(0,.v true [cI p0.err,cR 0 p0.shows,cI p0.wall,cI p0.clock]),(1,sI p1)],[some ⟨q4,(List.map rS_Show p0.shows)⟩],[]⟩
def K_Lm_55:List Fr:=[]
def s_Lm_55 (i55_0:Int):St:=
 ⟨mkSl 51 [(1,sI i55_0)],[],[]⟩
def K_Lm_7:List Fr:=[.lp [0,1,5] c_Lm_7,.bk 0,.sq (.kp [1] c_Lm_55)]
def s_Lm_7 (p0:(List S_Show)) (i7_0 i7_1:Int):St:=
 ⟨mkSl 51 [(0,.v false [.ro q4 (p0.map rS_Show)]),(1,sI i7_0),(5,sI i7_1)],[],[]⟩
def K_Lm_0:List Fr:=[]
def s_Lm_0 (p0:(List S_Show)) (p1:Int):St:=
 ⟨mkSl 51 [(0,.v false [.ro q4 (p0.map rS_Show)]),(1,sI p1)],[],[]⟩
def K_Ll_0:List Fr:=[]
def s_Ll_0 (p0:S_Played) (p1:Int):St:=
 ⟨mkSl 12 [(0,.v true [cI p0.err,.ro q4 (p0.shows.map rS_Show),cI p0.wall,cI p0.clock]),(1,sI p1)],[],[]⟩
def K_laws_FnExactRunPlayer_0:List Fr:=[]
def s_laws_FnExactRunPlayer_0 (p0:S_Box) (p1:Int) (p2:(List S_Act)):St:=
 ⟨mkSl 97 [(0,.v true [.ro q3 (p0.tracks.map rS_Track),.ro q5 (p0.packets.map rS_Packet)]),(1,sI p1),(2,.v false [.ro [.sc,.sc] (p2.map rS_Act)])],[],[]⟩
theorem ok_Lba_0 (p0:S_Track) (p1 r:Int) (hm:m_Lba_0 p0 p1=some r):EE c_Lba_0 K_Lba_0 (s_Lba_0 p0 p1) (Post vf_Lba (res_Lba r)):=by
 obtain ⟨h0_0,hm⟩|⟨h0_0,hm⟩:=split_ite hm
 ·exact go_end [zT] 1000 (J h0_0 J0) (congrArg res_Lba (qj hm)) (by kernel_rfl)
 ·exact go_end [zF] 1000 (J h0_0 J0) (congrArg res_Lba (qj hm)) (by kernel_rfl)
theorem ok_Lba (p0:S_Track) (p1 r:Int) (hm:m_Lba p0 p1=some r):Runs ext tbl 101 (as_Lba p0 p1) (res_Lba r):=
 runs_of (vf:=vf_Lba) (by kernel_rfl) rfl (st:=(enter vf_Lba (as_Lba p0 p1)).getD default) (by kernel_rfl) (go_on [] 1000 J0 (ok_Lba_0 p0 p1 r hm) (by kernel_rfl))
def O_Lbb_17 (Q:VX→St→Prop) (e:(Int)⊕((Int))):Prop:=match e with | .inl e=>Q=Post vf_Lbb (res_Lbb e) | .inr e=>EE c_Lbb_35 K_Lbb_35 (s_Lbb_35 e) Q
theorem ok_Lbb_35 (i35_0 r:Int) (hm:m_Lbb_35 i35_0=some r):EE c_Lbb_35 K_Lbb_35 (s_Lbb_35 i35_0) (Post vf_Lbb (res_Lbb r)):=by
 exact go_end [] 1000 J0 (congrArg res_Lbb (qj hm)) (by kernel_rfl)
theorem ok_Lbb_17 (p0:(List S_Track)) (i17_0 i17_1:Int) (y) (hm:m_Lbb_17 p0 i17_0 i17_1=some y) (Q)
  (hin:∀ s,y=.inl s→EE c_Lbb_17 K_Lbb_17 (s_Lbb_17 p0 s.1 s.2) Q) (hout:∀ e,y=.inr e→O_Lbb_17 Q e):EE c_Lbb_17 K_Lbb_17 (s_Lbb_17 p0 i17_0 i17_1) Q:=by
 obtain ⟨h17_0,hm⟩|⟨h17_0,hm⟩:=split_ite hm
 ·obtain ⟨x17_1,h17_1,hm⟩:=bind_some hm
  obtain ⟨x17_2,h17_2,hm⟩:=bind_some hm
  obtain ⟨h17_3,hm⟩|⟨h17_3,hm⟩:=split_ite hm
  ·have hQ:Q=Post vf_Lbb (res_Lbb (-1)):=hout (.inl (-1)) (qj hm).symm
   subst hQ
   exact go_end [zn p0.length,zT,.row (rS_Track x17_1),.res (res_Lba x17_2),zT] 1000 (J (lm rS_Track p0) (J h17_0 (J (rd_nn h17_1) (J (at_row rS_Track (rd_get h17_1)) (J (ok_Lba x17_1 i17_0 x17_2 h17_2) (J h17_3 J0)))))) (rfl:res_Lbb (-1)=res_Lbb (-1)) (by kernel_rfl)
  ·exact gh (hin _ (qj hm).symm) [zn p0.length,zT,.row (rS_Track x17_1),.res (res_Lba x17_2),zF] (J (lm rS_Track p0) (J h17_0 (J (rd_nn h17_1) (J (at_row rS_Track (rd_get h17_1)) (J (ok_Lba x17_1 i17_0 x17_2 h17_2) (J h17_3 J0)))))) (by kernel_rfl)
 ·refine gn c_Lbb_35 K_Lbb_35 (s_Lbb_35 i17_0) [zn p0.length,zF] (J (lm rS_Track p0) (J h17_0 J0)) ?_ (by kernel_rfl)
  exact hout (.inr i17_0) (qj hm).symm
theorem ok_Lbb_0 (p0:(List S_Track)) (p1 r:Int) (hm:m_Lbb_0 p0 p1=some r):EE c_Lbb_0 K_Lbb_0 (s_Lbb_0 p0 p1) (Post vf_Lbb (res_Lbb r)):=by
 obtain ⟨h0_0,hm⟩|⟨h0_0,hm⟩:=split_ite hm
 ·exact go_end [zn p0.length,zT] 1000 (J (lm rS_Track p0) (J h0_0 J0)) (congrArg res_Lbb (qj hm)) (by kernel_rfl)
 ·refine gn c_Lbb_17 K_Lbb_17 (s_Lbb_17 p0 (w64 (p1 - (p0.length:Int))) 0) [zn p0.length,zF] (J (lm rS_Track p0) (J h0_0 J0)) ?_ (by kernel_rfl)
  obtain ⟨e,he,hm⟩:=bind_some hm
  refine loop_rule (u:=.c c_Lbb_17) (K:=K_Lbb_17) (Q:=(Post vf_Lbb (res_Lbb r))) (b:=lp_Lbb_17 p0) (We:=O_Lbb_17 (Post vf_Lbb (res_Lbb r))) (stJ:=fun s=>s_Lbb_17 p0 s.1 s.2) (s:=((w64 (p1 - (p0.length:Int))),0)) (fun s y hb hin hout=>ok_Lbb_17 p0 s.1 s.2 y hb (Post vf_Lbb (res_Lbb r)) hin hout) he ?_
  rcases e with e | e
  ·exact congrArg (fun r=>Post vf_Lbb (res_Lbb r)) (qj hm).symm
  ·show EE c_Lbb_35 K_Lbb_35 (s_Lbb_35 e) _
   exact ok_Lbb_35 e r hm
theorem ok_Lbb (p0:(List S_Track)) (p1 r:Int) (hm:m_Lbb p0 p1=some r):Runs ext tbl 46 (as_Lbb p0 p1) (res_Lbb r):=
 runs_of (vf:=vf_Lbb) (by kernel_rfl) rfl (st:=(enter vf_Lbb (as_Lbb p0 p1)).getD default) (by kernel_rfl) (go_on [] 1000 J0 (ok_Lbb_0 p0 p1 r hm) (by kernel_rfl))
theorem ok_Lx_0 (p0:(List Int)) (p1 r:Int) (hm:m_Lx_0 p0 p1=some r):EE c_Lx_0 K_Lx_0 (s_Lx_0 p0 p1) (Post vf_Lx (res_Lx r)):=by
 obtain ⟨h0_0,hm⟩|⟨h0_0,hm⟩:=split_ite hm
 ·exact go_end [zn p0.length,zT] 1000 (J (lm (rI .u8) p0) (J h0_0 J0)) (congrArg res_Lx (qj hm)) (by kernel_rfl)
 ·exact go_end [zn p0.length,zF] 1000 (J (lm (rI .u8) p0) (J h0_0 J0)) (congrArg res_Lx (qj hm)) (by kernel_rfl)
theorem ok_Lx (p0:(List Int)) (p1 r:Int) (hm:m_Lx p0 p1=some r):Runs ext tbl 141 (as_Lx p0 p1) (res_Lx r):=
 runs_of (vf:=vf_Lx) (by kernel_rfl) rfl (st:=(enter vf_Lx (as_Lx p0 p1)).getD default) (by kernel_rfl) (go_on [] 1000 J0 (ok_Lx_0 p0 p1 r hm) (by kernel_rfl))
theorem ok_Ly_0 (p0:S_Packet) (p1 r:Int) (hm:m_Ly_0 p0 p1=some r):EE c_Ly_0 K_Ly_0 (s_Ly_0 p0 p1) (Post vf_Ly (res_Ly r)):=by
 obtain ⟨x0_0,h0_0,hm⟩:=bind_some hm
 obtain ⟨h0_1,hm⟩|⟨h0_1,hm⟩:=split_ite hm
 ·exact go_end [.res (res_Lx x0_0),zT] 1000 (J (ok_Lx p0.data p1 x0_0 h0_0) (J h0_1 J0)) (congrArg res_Ly (qj hm)) (by kernel_rfl)
 ·exact go_end [.res (res_Lx x0_0),zF] 1000 (J (ok_Lx p0.data p1 x0_0 h0_0) (J h0_1 J0)) (congrArg res_Ly (qj hm)) (by kernel_rfl)
theorem ok_Ly (p0:S_Packet) (p1 r:Int) (hm:m_Ly p0 p1=some r):Runs ext tbl 102 (as_Ly p0 p1) (res_Ly r):=
 runs_of (vf:=vf_Ly) (by kernel_rfl) rfl (st:=(enter vf_Ly (as_Ly p0 p1)).getD default) (by kernel_rfl) (go_on [] 1000 J0 (ok_Ly_0 p0 p1 r hm) (by kernel_rfl))
def O_Lz_17 (Q:VX→St→Prop) (e:(Int)⊕((Int))):Prop:=match e with | .inl e=>Q=Post vf_Lz (res_Lz e) | .inr e=>EE c_Lz_35 K_Lz_35 (s_Lz_35 e) Q
theorem ok_Lz_35 (i35_0 r:Int) (hm:m_Lz_35 i35_0=some r):EE c_Lz_35 K_Lz_35 (s_Lz_35 i35_0) (Post vf_Lz (res_Lz r)):=by
 exact go_end [] 1000 J0 (congrArg res_Lz (qj hm)) (by kernel_rfl)
theorem ok_Lz_17 (p0:(List S_Packet)) (i17_0 i17_1:Int) (y) (hm:m_Lz_17 p0 i17_0 i17_1=some y) (Q)
  (hin:∀ s,y=.inl s→EE c_Lz_17 K_Lz_17 (s_Lz_17 p0 s.1 s.2) Q) (hout:∀ e,y=.inr e→O_Lz_17 Q e):EE c_Lz_17 K_Lz_17 (s_Lz_17 p0 i17_0 i17_1) Q:=by
 obtain ⟨h17_0,hm⟩|⟨h17_0,hm⟩:=split_ite hm
 ·obtain ⟨x17_1,h17_1,hm⟩:=bind_some hm
  obtain ⟨x17_2,h17_2,hm⟩:=bind_some hm
  obtain ⟨h17_3,hm⟩|⟨h17_3,hm⟩:=split_ite hm
  ·have hQ:Q=Post vf_Lz (res_Lz (-1)):=hout (.inl (-1)) (qj hm).symm
   subst hQ
   exact go_end [zn p0.length,zT,.row (rS_Packet x17_1),.res (res_Ly x17_2),zT] 1000 (J (lm rS_Packet p0) (J h17_0 (J (rd_nn h17_1) (J (at_row rS_Packet (rd_get h17_1)) (J (ok_Ly x17_1 i17_0 x17_2 h17_2) (J h17_3 J0)))))) (rfl:res_Lz (-1)=res_Lz (-1)) (by kernel_rfl)
  ·exact gh (hin _ (qj hm).symm) [zn p0.length,zT,.row (rS_Packet x17_1),.res (res_Ly x17_2),zF] (J (lm rS_Packet p0) (J h17_0 (J (rd_nn h17_1) (J (at_row rS_Packet (rd_get h17_1)) (J (ok_Ly x17_1 i17_0 x17_2 h17_2) (J h17_3 J0)))))) (by kernel_rfl)
 ·refine gn c_Lz_35 K_Lz_35 (s_Lz_35 i17_0) [zn p0.length,zF] (J (lm rS_Packet p0) (J h17_0 J0)) ?_ (by kernel_rfl)
  exact hout (.inr i17_0) (qj hm).symm
theorem ok_Lz_0 (p0:(List S_Packet)) (p1 r:Int) (hm:m_Lz_0 p0 p1=some r):EE c_Lz_0 K_Lz_0 (s_Lz_0 p0 p1) (Post vf_Lz (res_Lz r)):=by
 obtain ⟨h0_0,hm⟩|⟨h0_0,hm⟩:=split_ite hm
 ·exact go_end [zn p0.length,zT] 1000 (J (lm rS_Packet p0) (J h0_0 J0)) (congrArg res_Lz (qj hm)) (by kernel_rfl)
 ·refine gn c_Lz_17 K_Lz_17 (s_Lz_17 p0 (w64 (p1 - (p0.length:Int))) 0) [zn p0.length,zF] (J (lm rS_Packet p0) (J h0_0 J0)) ?_ (by kernel_rfl)
  obtain ⟨e,he,hm⟩:=bind_some hm
  refine loop_rule (u:=.c c_Lz_17) (K:=K_Lz_17) (Q:=(Post vf_Lz (res_Lz r))) (b:=lp_Lz_17 p0) (We:=O_Lz_17 (Post vf_Lz (res_Lz r))) (stJ:=fun s=>s_Lz_17 p0 s.1 s.2) (s:=((w64 (p1 - (p0.length:Int))),0)) (fun s y hb hin hout=>ok_Lz_17 p0 s.1 s.2 y hb (Post vf_Lz (res_Lz r)) hin hout) he ?_
  rcases e with e | e
  ·exact congrArg (fun r=>Post vf_Lz (res_Lz r)) (qj hm).symm
  ·show EE c_Lz_35 K_Lz_35 (s_Lz_35 e) _
   exact ok_Lz_35 e r hm
theorem ok_Lz (p0:(List S_Packet)) (p1 r:Int) (hm:m_Lz p0 p1=some r):Runs ext tbl 47 (as_Lz p0 p1) (res_Lz r):=
 runs_of (vf:=vf_Lz) (by kernel_rfl) rfl (st:=(enter vf_Lz (as_Lz p0 p1)).getD default) (by kernel_rfl) (go_on [] 1000 J0 (ok_Lz_0 p0 p1 r hm) (by kernel_rfl))
theorem ok_Lw_0 (p0:S_Box) (p1 r:Int) (hm:m_Lw_0 p0 p1=some r):EE c_Lw_0 K_Lw_0 (s_Lw_0 p0 p1) (Post vf_Lw (res_Lw r)):=by
 obtain ⟨x0_0,h0_0,hm⟩:=bind_some hm
 obtain ⟨h0_1,hm⟩|⟨h0_1,hm⟩:=split_ite hm
 ·exact go_end [.res (res_Lbb x0_0),zT] 1000 (J (ok_Lbb p0.tracks p1 x0_0 h0_0) (J h0_1 J0)) (congrArg res_Lw (qj hm)) (by kernel_rfl)
 ·obtain ⟨x0_2,h0_2,hm⟩:=bind_some hm
  obtain ⟨h0_3,hm⟩|⟨h0_3,hm⟩:=split_ite hm
  ·exact go_end [.res (res_Lbb x0_0),zF,.res (res_Lz x0_2),zT] 1000 (J (ok_Lbb p0.tracks p1 x0_0 h0_0) (J h0_1 (J (ok_Lz p0.packets x0_0 x0_2 h0_2) (J h0_3 J0)))) (congrArg res_Lw (qj hm)) (by kernel_rfl)
  ·exact go_end [.res (res_Lbb x0_0),zF,.res (res_Lz x0_2),zF] 1000 (J (ok_Lbb p0.tracks p1 x0_0 h0_0) (J h0_1 (J (ok_Lz p0.packets x0_0 x0_2 h0_2) (J h0_3 J0)))) (congrArg res_Lw (qj hm)) (by kernel_rfl)
theorem ok_Lw (p0:S_Box) (p1 r:Int) (hm:m_Lw p0 p1=some r):Runs ext tbl 17 (as_Lw p0 p1) (res_Lw r):=
 runs_of (vf:=vf_Lw) (by kernel_rfl) rfl (st:=(enter vf_Lw (as_Lw p0 p1)).getD default) (by kernel_rfl) (go_on [] 1000 J0 (ok_Lw_0 p0 p1 r hm) (by kernel_rfl))
theorem ok_Lv_0 (p0:(List S_Act)) (p1 r:Int) (hm:m_Lv_0 p0 p1=some r):EE c_Lv_0 K_Lv_0 (s_Lv_0 p0 p1) (Post vf_Lv (res_Lv r)):=by
 obtain ⟨h0_0,hm⟩|⟨h0_0,hm⟩:=split_ite hm
 ·exact go_end [zn p0.length,zT] 1000 (J (lm rS_Act p0) (J h0_0 J0)) (congrArg res_Lv (qj hm)) (by kernel_rfl)
 ·exact go_end [zn p0.length,zF] 1000 (J (lm rS_Act p0) (J h0_0 J0)) (congrArg res_Lv (qj hm)) (by kernel_rfl)
theorem ok_Lv (p0:(List S_Act)) (p1 r:Int) (hm:m_Lv p0 p1=some r):Runs ext tbl 35 (as_Lv p0 p1) (res_Lv r):=
 runs_of (vf:=vf_Lv) (by kernel_rfl) rfl (st:=(enter vf_Lv (as_Lv p0 p1)).getD default) (by kernel_rfl) (go_on [] 1000 J0 (ok_Lv_0 p0 p1 r hm) (by kernel_rfl))
theorem ok_Lbi_0 (p0 r:S_Track) (hm:m_Lbi_0 p0=some r):EE c_Lbi_0 K_Lbi_0 (s_Lbi_0 p0) (Post vf_Lbi (res_Lbi r)):=by
 exact go_end [] 1000 J0 (congrArg res_Lbi (qj hm)) (by kernel_rfl)
theorem ok_Lbi (p0 r:S_Track) (hm:m_Lbi p0=some r):Runs ext tbl 110 (as_Lbi p0) (res_Lbi r):=
 runs_of (vf:=vf_Lbi) (by kernel_rfl) rfl (st:=(enter vf_Lbi (as_Lbi p0)).getD default) (by kernel_rfl) (go_on [] 1000 J0 (ok_Lbi_0 p0 r hm) (by kernel_rfl))
def O_Lbj_9 (Q:VX→St→Prop) (e:((List S_Track))):Prop:=EE c_Lbj_19 K_Lbj_19 (s_Lbj_19 e) Q
theorem ok_Lbj_19 (l19_0 r:(List S_Track)) (hm:m_Lbj_19 l19_0=some r):EE c_Lbj_19 K_Lbj_19 (s_Lbj_19 l19_0) (Post vf_Lbj (res_Lbj r)):=by
 exact go_end [.rows (List.map rS_Track l19_0)] 1000 (Ja rS_Track l19_0 J0) (congrArg res_Lbj (qj hm)) (by kernel_rfl)
theorem ok_Lbj_9 (p0:(List S_Track)) (i9_0:Int) (l9_1:(List S_Track)) (y) (hm:m_Lbj_9 p0 i9_0 l9_1=some y) (Q)
  (hin:∀ s,y=.inl s→EE c_Lbj_9 K_Lbj_9 (s_Lbj_9 p0 s.1 s.2) Q) (hout:∀ e,y=.inr e→O_Lbj_9 Q e):EE c_Lbj_9 K_Lbj_9 (s_Lbj_9 p0 i9_0 l9_1) Q:=by
 obtain ⟨h9_0,hm⟩|⟨h9_0,hm⟩:=split_ite hm
 ·obtain ⟨x9_1,h9_1,hm⟩:=bind_some hm
  obtain ⟨x9_2,h9_2,hm⟩:=bind_some hm
  obtain ⟨x9_3,h9_3,hm⟩:=bind_some hm
  exact gh (hin _ (qj hm).symm) [zn p0.length,zT,.row (rS_Track x9_1),.res (res_Lbi x9_2),.rows (List.map rS_Track (l9_1.set (0+Int.toNat i9_0) (S_Track.mk x9_2.kind x9_3.scale x9_3.name))),.rows (List.map rS_Track (l9_1.set (0+Int.toNat i9_0) (S_Track.mk x9_2.kind x9_2.scale x9_3.name))),.rows (List.map rS_Track (l9_1.set (0+Int.toNat i9_0) x9_2)),zn ((l9_1.set (0+Int.toNat i9_0) x9_2).length)] (J (lm rS_Track p0) (J h9_0 (J (rd_nn h9_1) (J (at_row rS_Track (rd_get h9_1)) (J (ok_Lbi x9_1 x9_2 h9_2) (J (rd_in rfl h9_3) (J (put_ob rS_Track (S_Track.mk x9_2.kind x9_3.scale x9_3.name) 0 (.lit (vI x9_2.kind)) (rd_get0 h9_3) (by kernel_rfl) (by kernel_rfl)) (J (put_ob2 rS_Track (S_Track.mk x9_2.kind x9_2.scale x9_3.name) 1 (.lit (vI x9_2.scale)) (set_at (S_Track.mk x9_2.kind x9_3.scale x9_3.name) (rd_get0 h9_3)) (by kernel_rfl) (by kernel_rfl)) (J (put_ob2 rS_Track x9_2 2 (.lit (.string x9_2.name)) (set_at2 (S_Track.mk x9_2.kind x9_2.scale x9_3.name) (set_at (S_Track.mk x9_2.kind x9_3.scale x9_3.name) (rd_get0 h9_3))) (by kernel_rfl) (by kernel_rfl)) (J (lens l9_1.length ((l9_1.set (0+Int.toNat i9_0) x9_2).length) (set_len rfl)) J0)))))))))) (by kernel_rfl)
 ·refine gn c_Lbj_19 K_Lbj_19 (s_Lbj_19 l9_1) [zn p0.length,zF,zn l9_1.length] (J (lm rS_Track p0) (J h9_0 (J (ln l9_1.length) J0))) ?_ (by kernel_rfl)
  exact hout l9_1 (qj hm).symm
theorem ok_Lbj_0 (p0 r:(List S_Track)) (hm:m_Lbj_0 p0=some r):EE c_Lbj_0 K_Lbj_0 (s_Lbj_0 p0) (Post vf_Lbj (res_Lbj r)):=by
 obtain ⟨x0_0,h0_0,hm⟩:=bind_some hm
 refine gn c_Lbj_9 K_Lbj_9 (s_Lbj_9 p0 0 (List.replicate (Int.toNat (p0.length:Int)) ((S_Track.mk 0 0 (ByteArray.mk #[])):S_Track))) [zn p0.length,.rows (List.map rS_Track (List.replicate (Int.toNat (p0.length:Int)) ((S_Track.mk 0 0 (ByteArray.mk #[])):S_Track))),zn (Int.toNat (p0.length:Int)),zn ((List.replicate (Int.toNat (p0.length:Int)) ((S_Track.mk 0 0 (ByteArray.mk #[])):S_Track)).length)] (J (lm rS_Track p0) (J (ck_p h0_0) (J (rep_ob rS_Track (Int.toNat (p0.length:Int)) ((S_Track.mk 0 0 (ByteArray.mk #[])):S_Track) [.lit (vI 0),.lit (vI 0),.lit (.string (ByteArray.mk #[]))] (by kernel_rfl)) (J (len_map rS_Track (show (Int.toNat (p0.length:Int))=(List.replicate (Int.toNat (p0.length:Int)) ((S_Track.mk 0 0 (ByteArray.mk #[])):S_Track)).length from (rep_len (Int.toNat (p0.length:Int)) ((S_Track.mk 0 0 (ByteArray.mk #[])):S_Track)))) (J (lens (Int.toNat (p0.length:Int)) ((List.replicate (Int.toNat (p0.length:Int)) ((S_Track.mk 0 0 (ByteArray.mk #[])):S_Track)).length) (rep_len (Int.toNat (p0.length:Int)) ((S_Track.mk 0 0 (ByteArray.mk #[])):S_Track))) J0))))) ?_ (by kernel_rfl)
 obtain ⟨e,he,hm⟩:=bind_some hm
 refine loop_rule (u:=.c c_Lbj_9) (K:=K_Lbj_9) (Q:=(Post vf_Lbj (res_Lbj r))) (b:=lp_Lbj_9 p0) (We:=O_Lbj_9 (Post vf_Lbj (res_Lbj r))) (stJ:=fun s=>s_Lbj_9 p0 s.1 s.2) (s:=(0,(List.replicate (Int.toNat (p0.length:Int)) ((S_Track.mk 0 0 (ByteArray.mk #[])):S_Track)))) (fun s y hb hin hout=>ok_Lbj_9 p0 s.1 s.2 y hb (Post vf_Lbj (res_Lbj r)) hin hout) he ?_
 show EE c_Lbj_19 K_Lbj_19 (s_Lbj_19 e) _
 exact ok_Lbj_19 e r hm
theorem ok_Lbj (p0 r:(List S_Track)) (hm:m_Lbj p0=some r):Runs ext tbl 52 (as_Lbj p0) (res_Lbj r):=
 runs_of (vf:=vf_Lbj) (by kernel_rfl) rfl (st:=(enter vf_Lbj (as_Lbj p0)).getD default) (by kernel_rfl) (go_on [] 1000 J0 (ok_Lbj_0 p0 r hm) (by kernel_rfl))
def O_Lbf_9 (Q:VX→St→Prop) (e:((List Int))):Prop:=EE c_Lbf_19 K_Lbf_19 (s_Lbf_19 e) Q
theorem ok_Lbf_19 (l19_0 r:(List Int)) (hm:m_Lbf_19 l19_0=some r):EE c_Lbf_19 K_Lbf_19 (s_Lbf_19 l19_0) (Post vf_Lbf (res_Lbf r)):=by
 exact go_end [.rows (List.map (rI .u8) l19_0)] 1000 (Ja (rI .u8) l19_0 J0) (congrArg res_Lbf (qj hm)) (by kernel_rfl)
theorem ok_Lbf_9 (p0:(List Int)) (i9_0:Int) (l9_1:(List Int)) (y) (hm:m_Lbf_9 p0 i9_0 l9_1=some y) (Q)
  (hin:∀ s,y=.inl s→EE c_Lbf_9 K_Lbf_9 (s_Lbf_9 p0 s.1 s.2) Q) (hout:∀ e,y=.inr e→O_Lbf_9 Q e):EE c_Lbf_9 K_Lbf_9 (s_Lbf_9 p0 i9_0 l9_1) Q:=by
 obtain ⟨h9_0,hm⟩|⟨h9_0,hm⟩:=split_ite hm
 ·obtain ⟨x9_1,h9_1,hm⟩:=bind_some hm
  obtain ⟨x9_2,h9_2,hm⟩:=bind_some hm
  exact gh (hin _ (qj hm).symm) [zn p0.length,zT,.row ((rI .u8) x9_1),.rows (List.map (rI .u8) (l9_1.set (0+Int.toNat i9_0) x9_1)),zn ((l9_1.set (0+Int.toNat i9_0) x9_1).length)] (J (lm (rI .u8) p0) (J h9_0 (J (rd_nn h9_1) (J (at_row (rI .u8) (rd_get h9_1)) (J (rd_in rfl h9_2) (J (put_ob (rI .u8) x9_1 0 (.lit (.int .u8 x9_1)) (rd_get0 h9_2) (by kernel_rfl) (by kernel_rfl)) (J (lens l9_1.length ((l9_1.set (0+Int.toNat i9_0) x9_1).length) (set_len rfl)) J0))))))) (by kernel_rfl)
 ·refine gn c_Lbf_19 K_Lbf_19 (s_Lbf_19 l9_1) [zn p0.length,zF,zn l9_1.length] (J (lm (rI .u8) p0) (J h9_0 (J (ln l9_1.length) J0))) ?_ (by kernel_rfl)
  exact hout l9_1 (qj hm).symm
theorem ok_Lbf_0 (p0 r:(List Int)) (hm:m_Lbf_0 p0=some r):EE c_Lbf_0 K_Lbf_0 (s_Lbf_0 p0) (Post vf_Lbf (res_Lbf r)):=by
 obtain ⟨x0_0,h0_0,hm⟩:=bind_some hm
 refine gn c_Lbf_9 K_Lbf_9 (s_Lbf_9 p0 0 (List.replicate (Int.toNat (p0.length:Int)) (0:Int))) [zn p0.length,.rows (List.map (rI .u8) (List.replicate (Int.toNat (p0.length:Int)) (0:Int))),zn (Int.toNat (p0.length:Int)),zn ((List.replicate (Int.toNat (p0.length:Int)) (0:Int)).length)] (J (lm (rI .u8) p0) (J (ck_p h0_0) (J (rep_ob (rI .u8) (Int.toNat (p0.length:Int)) (0:Int) [.lit (.int .u8 0)] (by kernel_rfl)) (J (len_map (rI .u8) (show (Int.toNat (p0.length:Int))=(List.replicate (Int.toNat (p0.length:Int)) (0:Int)).length from (rep_len (Int.toNat (p0.length:Int)) (0:Int)))) (J (lens (Int.toNat (p0.length:Int)) ((List.replicate (Int.toNat (p0.length:Int)) (0:Int)).length) (rep_len (Int.toNat (p0.length:Int)) (0:Int))) J0))))) ?_ (by kernel_rfl)
 obtain ⟨e,he,hm⟩:=bind_some hm
 refine loop_rule (u:=.c c_Lbf_9) (K:=K_Lbf_9) (Q:=(Post vf_Lbf (res_Lbf r))) (b:=lp_Lbf_9 p0) (We:=O_Lbf_9 (Post vf_Lbf (res_Lbf r))) (stJ:=fun s=>s_Lbf_9 p0 s.1 s.2) (s:=(0,(List.replicate (Int.toNat (p0.length:Int)) (0:Int)))) (fun s y hb hin hout=>ok_Lbf_9 p0 s.1 s.2 y hb (Post vf_Lbf (res_Lbf r)) hin hout) he ?_
 show EE c_Lbf_19 K_Lbf_19 (s_Lbf_19 e) _
 exact ok_Lbf_19 e r hm
theorem ok_Lbf (p0 r:(List Int)) (hm:m_Lbf p0=some r):Runs ext tbl 10 (as_Lbf p0) (res_Lbf r):=
 runs_of (vf:=vf_Lbf) (by kernel_rfl) rfl (st:=(enter vf_Lbf (as_Lbf p0)).getD default) (by kernel_rfl) (go_on [] 1000 J0 (ok_Lbf_0 p0 r hm) (by kernel_rfl))
theorem ok_Lbg_0 (p0 r:S_Packet) (hm:m_Lbg_0 p0=some r):EE c_Lbg_0 K_Lbg_0 (s_Lbg_0 p0) (Post vf_Lbg (res_Lbg r)):=by
 obtain ⟨x0_0,h0_0,hm⟩:=bind_some hm
 exact go_end [.res (res_Lbf x0_0),zn x0_0.length,.rows (List.map (rI .u8) x0_0)] 1000 (J (ok_Lbf p0.data x0_0 h0_0) (J (lm (rI .u8) x0_0) (Ja (rI .u8) x0_0 J0))) (congrArg res_Lbg (qj hm)) (by kernel_rfl)
theorem ok_Lbg (p0 r:S_Packet) (hm:m_Lbg p0=some r):Runs ext tbl 111 (as_Lbg p0) (res_Lbg r):=
 runs_of (vf:=vf_Lbg) (by kernel_rfl) rfl (st:=(enter vf_Lbg (as_Lbg p0)).getD default) (by kernel_rfl) (go_on [] 1000 J0 (ok_Lbg_0 p0 r hm) (by kernel_rfl))
def O_Lbh_9 (Q:VX→St→Prop) (e:((List S_Packet))):Prop:=EE c_Lbh_19 K_Lbh_19 (s_Lbh_19 e) Q
theorem ok_Lbh_19 (l19_0 r:(List S_Packet)) (hm:m_Lbh_19 l19_0=some r):EE c_Lbh_19 K_Lbh_19 (s_Lbh_19 l19_0) (Post vf_Lbh (res_Lbh r)):=by
 exact go_end [.rows (List.map rS_Packet l19_0)] 1000 (Ja rS_Packet l19_0 J0) (congrArg res_Lbh (qj hm)) (by kernel_rfl)
theorem ok_Lbh_9 (p0:(List S_Packet)) (i9_0:Int) (l9_1:(List S_Packet)) (y) (hm:m_Lbh_9 p0 i9_0 l9_1=some y) (Q)
  (hin:∀ s,y=.inl s→EE c_Lbh_9 K_Lbh_9 (s_Lbh_9 p0 s.1 s.2) Q) (hout:∀ e,y=.inr e→O_Lbh_9 Q e):EE c_Lbh_9 K_Lbh_9 (s_Lbh_9 p0 i9_0 l9_1) Q:=by
 obtain ⟨h9_0,hm⟩|⟨h9_0,hm⟩:=split_ite hm
 ·obtain ⟨x9_1,h9_1,hm⟩:=bind_some hm
  obtain ⟨x9_2,h9_2,hm⟩:=bind_some hm
  obtain ⟨x9_3,h9_3,hm⟩:=bind_some hm
  exact gh (hin _ (qj hm).symm) [zn p0.length,zT,.row (rS_Packet x9_1),.res (res_Lbg x9_2),zn x9_2.data.length,.rows (List.map rS_Packet (l9_1.set (0+Int.toNat i9_0) (S_Packet.mk x9_2.track x9_3.time x9_3.span x9_3.key x9_3.data))),.rows (List.map rS_Packet (l9_1.set (0+Int.toNat i9_0) (S_Packet.mk x9_2.track x9_2.time x9_3.span x9_3.key x9_3.data))),.rows (List.map rS_Packet (l9_1.set (0+Int.toNat i9_0) (S_Packet.mk x9_2.track x9_2.time x9_2.span x9_3.key x9_3.data))),.rows (List.map rS_Packet (l9_1.set (0+Int.toNat i9_0) (S_Packet.mk x9_2.track x9_2.time x9_2.span x9_2.key x9_3.data))),.rows (List.map (rI .u8) x9_2.data),.rows (List.map rS_Packet (l9_1.set (0+Int.toNat i9_0) x9_2)),zn ((l9_1.set (0+Int.toNat i9_0) x9_2).length)] (J (lm rS_Packet p0) (J h9_0 (J (rd_nn h9_1) (J (at_row rS_Packet (rd_get h9_1)) (J (ok_Lbg x9_1 x9_2 h9_2) (J (lm (rI .u8) x9_2.data) (J (rd_in rfl h9_3) (J (put_ob rS_Packet (S_Packet.mk x9_2.track x9_3.time x9_3.span x9_3.key x9_3.data) 0 (.lit (vI x9_2.track)) (rd_get0 h9_3) (by kernel_rfl) (by kernel_rfl)) (J (put_ob2 rS_Packet (S_Packet.mk x9_2.track x9_2.time x9_3.span x9_3.key x9_3.data) 1 (.lit (vI x9_2.time)) (set_at (S_Packet.mk x9_2.track x9_3.time x9_3.span x9_3.key x9_3.data) (rd_get0 h9_3)) (by kernel_rfl) (by kernel_rfl)) (J (put_ob2 rS_Packet (S_Packet.mk x9_2.track x9_2.time x9_2.span x9_3.key x9_3.data) 2 (.lit (vI x9_2.span)) (set_at2 (S_Packet.mk x9_2.track x9_2.time x9_3.span x9_3.key x9_3.data) (set_at (S_Packet.mk x9_2.track x9_3.time x9_3.span x9_3.key x9_3.data) (rd_get0 h9_3))) (by kernel_rfl) (by kernel_rfl)) (J (put_ob2 rS_Packet (S_Packet.mk x9_2.track x9_2.time x9_2.span x9_2.key x9_3.data) 3 (.lit (.bool x9_2.key)) (set_at2 (S_Packet.mk x9_2.track x9_2.time x9_2.span x9_3.key x9_3.data) (set_at2 (S_Packet.mk x9_2.track x9_2.time x9_3.span x9_3.key x9_3.data) (set_at (S_Packet.mk x9_2.track x9_3.time x9_3.span x9_3.key x9_3.data) (rd_get0 h9_3)))) (by kernel_rfl) (by kernel_rfl)) (Ja (rI .u8) x9_2.data (J (put_ob2 rS_Packet x9_2 4 (.sl (x9_2.data.map (rI .u8))) (set_at2 (S_Packet.mk x9_2.track x9_2.time x9_2.span x9_2.key x9_3.data) (set_at2 (S_Packet.mk x9_2.track x9_2.time x9_2.span x9_3.key x9_3.data) (set_at2 (S_Packet.mk x9_2.track x9_2.time x9_3.span x9_3.key x9_3.data) (set_at (S_Packet.mk x9_2.track x9_3.time x9_3.span x9_3.key x9_3.data) (rd_get0 h9_3))))) (by kernel_rfl) (by kernel_rfl)) (J (lens l9_1.length ((l9_1.set (0+Int.toNat i9_0) x9_2).length) (set_len rfl)) J0)))))))))))))) (by kernel_rfl)
 ·refine gn c_Lbh_19 K_Lbh_19 (s_Lbh_19 l9_1) [zn p0.length,zF,zn l9_1.length] (J (lm rS_Packet p0) (J h9_0 (J (ln l9_1.length) J0))) ?_ (by kernel_rfl)
  exact hout l9_1 (qj hm).symm
theorem ok_Lbh_0 (p0 r:(List S_Packet)) (hm:m_Lbh_0 p0=some r):EE c_Lbh_0 K_Lbh_0 (s_Lbh_0 p0) (Post vf_Lbh (res_Lbh r)):=by
 obtain ⟨x0_0,h0_0,hm⟩:=bind_some hm
 refine gn c_Lbh_9 K_Lbh_9 (s_Lbh_9 p0 0 (List.replicate (Int.toNat (p0.length:Int)) ((S_Packet.mk 0 0 0 false []):S_Packet))) [zn p0.length,.rows (List.map rS_Packet (List.replicate (Int.toNat (p0.length:Int)) ((S_Packet.mk 0 0 0 false []):S_Packet))),zn (Int.toNat (p0.length:Int)),zn ((List.replicate (Int.toNat (p0.length:Int)) ((S_Packet.mk 0 0 0 false []):S_Packet)).length)] (J (lm rS_Packet p0) (J (ck_p h0_0) (J (rep_ob rS_Packet (Int.toNat (p0.length:Int)) ((S_Packet.mk 0 0 0 false []):S_Packet) [.lit (vI 0),.lit (vI 0),.lit (vI 0),.lit (.bool false),.sl []] (by kernel_rfl)) (J (len_map rS_Packet (show (Int.toNat (p0.length:Int))=(List.replicate (Int.toNat (p0.length:Int)) ((S_Packet.mk 0 0 0 false []):S_Packet)).length from (rep_len (Int.toNat (p0.length:Int)) ((S_Packet.mk 0 0 0 false []):S_Packet)))) (J (lens (Int.toNat (p0.length:Int)) ((List.replicate (Int.toNat (p0.length:Int)) ((S_Packet.mk 0 0 0 false []):S_Packet)).length) (rep_len (Int.toNat (p0.length:Int)) ((S_Packet.mk 0 0 0 false []):S_Packet))) J0))))) ?_ (by kernel_rfl)
 obtain ⟨e,he,hm⟩:=bind_some hm
 refine loop_rule (u:=.c c_Lbh_9) (K:=K_Lbh_9) (Q:=(Post vf_Lbh (res_Lbh r))) (b:=lp_Lbh_9 p0) (We:=O_Lbh_9 (Post vf_Lbh (res_Lbh r))) (stJ:=fun s=>s_Lbh_9 p0 s.1 s.2) (s:=(0,(List.replicate (Int.toNat (p0.length:Int)) ((S_Packet.mk 0 0 0 false []):S_Packet)))) (fun s y hb hin hout=>ok_Lbh_9 p0 s.1 s.2 y hb (Post vf_Lbh (res_Lbh r)) hin hout) he ?_
 show EE c_Lbh_19 K_Lbh_19 (s_Lbh_19 e) _
 exact ok_Lbh_19 e r hm
theorem ok_Lbh (p0 r:(List S_Packet)) (hm:m_Lbh p0=some r):Runs ext tbl 53 (as_Lbh p0) (res_Lbh r):=
 runs_of (vf:=vf_Lbh) (by kernel_rfl) rfl (st:=(enter vf_Lbh (as_Lbh p0)).getD default) (by kernel_rfl) (go_on [] 1000 J0 (ok_Lbh_0 p0 r hm) (by kernel_rfl))
theorem ok_Lbe_0 (p0 r:S_Box) (hm:m_Lbe_0 p0=some r):EE c_Lbe_0 K_Lbe_0 (s_Lbe_0 p0) (Post vf_Lbe (res_Lbe r)):=by
 obtain ⟨x0_0,h0_0,hm⟩:=bind_some hm
 obtain ⟨x0_1,h0_1,hm⟩:=bind_some hm
 exact go_end [.res (res_Lbj x0_0),zn x0_0.length,.res (res_Lbh x0_1),zn x0_1.length,.rows (List.map rS_Track x0_0),.rows (List.map rS_Packet x0_1)] 1000 (J (ok_Lbj p0.tracks x0_0 h0_0) (J (lm rS_Track x0_0) (J (ok_Lbh p0.packets x0_1 h0_1) (J (lm rS_Packet x0_1) (Ja rS_Track x0_0 (Ja rS_Packet x0_1 J0)))))) (congrArg res_Lbe (qj hm)) (by kernel_rfl)
theorem ok_Lbe (p0 r:S_Box) (hm:m_Lbe p0=some r):Runs ext tbl 19 (as_Lbe p0) (res_Lbe r):=
 runs_of (vf:=vf_Lbe) (by kernel_rfl) rfl (st:=(enter vf_Lbe (as_Lbe p0)).getD default) (by kernel_rfl) (go_on [] 1000 J0 (ok_Lbe_0 p0 r hm) (by kernel_rfl))
theorem ok_Lbc_0 (p0 r:S_Act) (hm:m_Lbc_0 p0=some r):EE c_Lbc_0 K_Lbc_0 (s_Lbc_0 p0) (Post vf_Lbc (res_Lbc r)):=by
 exact go_end [] 1000 J0 (congrArg res_Lbc (qj hm)) (by kernel_rfl)
theorem ok_Lbc (p0 r:S_Act) (hm:m_Lbc p0=some r):Runs ext tbl 88 (as_Lbc p0) (res_Lbc r):=
 runs_of (vf:=vf_Lbc) (by kernel_rfl) rfl (st:=(enter vf_Lbc (as_Lbc p0)).getD default) (by kernel_rfl) (go_on [] 1000 J0 (ok_Lbc_0 p0 r hm) (by kernel_rfl))
def O_Lbd_9 (Q:VX→St→Prop) (e:((List S_Act))):Prop:=EE c_Lbd_19 K_Lbd_19 (s_Lbd_19 e) Q
theorem ok_Lbd_19 (l19_0 r:(List S_Act)) (hm:m_Lbd_19 l19_0=some r):EE c_Lbd_19 K_Lbd_19 (s_Lbd_19 l19_0) (Post vf_Lbd (res_Lbd r)):=by
 exact go_end [.rows (List.map rS_Act l19_0)] 1000 (Ja rS_Act l19_0 J0) (congrArg res_Lbd (qj hm)) (by kernel_rfl)
theorem ok_Lbd_9 (p0:(List S_Act)) (i9_0:Int) (l9_1:(List S_Act)) (y) (hm:m_Lbd_9 p0 i9_0 l9_1=some y) (Q)
  (hin:∀ s,y=.inl s→EE c_Lbd_9 K_Lbd_9 (s_Lbd_9 p0 s.1 s.2) Q) (hout:∀ e,y=.inr e→O_Lbd_9 Q e):EE c_Lbd_9 K_Lbd_9 (s_Lbd_9 p0 i9_0 l9_1) Q:=by
 obtain ⟨h9_0,hm⟩|⟨h9_0,hm⟩:=split_ite hm
 ·obtain ⟨x9_1,h9_1,hm⟩:=bind_some hm
  obtain ⟨x9_2,h9_2,hm⟩:=bind_some hm
  obtain ⟨x9_3,h9_3,hm⟩:=bind_some hm
  exact gh (hin _ (qj hm).symm) [zn p0.length,zT,.row (rS_Act x9_1),.res (res_Lbc x9_2),.rows (List.map rS_Act (l9_1.set (0+Int.toNat i9_0) (S_Act.mk x9_2.kind x9_3.value))),.rows (List.map rS_Act (l9_1.set (0+Int.toNat i9_0) x9_2)),zn ((l9_1.set (0+Int.toNat i9_0) x9_2).length)] (J (lm rS_Act p0) (J h9_0 (J (rd_nn h9_1) (J (at_row rS_Act (rd_get h9_1)) (J (ok_Lbc x9_1 x9_2 h9_2) (J (rd_in rfl h9_3) (J (put_ob rS_Act (S_Act.mk x9_2.kind x9_3.value) 0 (.lit (vI x9_2.kind)) (rd_get0 h9_3) (by kernel_rfl) (by kernel_rfl)) (J (put_ob2 rS_Act x9_2 1 (.lit (vI x9_2.value)) (set_at (S_Act.mk x9_2.kind x9_3.value) (rd_get0 h9_3)) (by kernel_rfl) (by kernel_rfl)) (J (lens l9_1.length ((l9_1.set (0+Int.toNat i9_0) x9_2).length) (set_len rfl)) J0))))))))) (by kernel_rfl)
 ·refine gn c_Lbd_19 K_Lbd_19 (s_Lbd_19 l9_1) [zn p0.length,zF,zn l9_1.length] (J (lm rS_Act p0) (J h9_0 (J (ln l9_1.length) J0))) ?_ (by kernel_rfl)
  exact hout l9_1 (qj hm).symm
theorem ok_Lbd_0 (p0 r:(List S_Act)) (hm:m_Lbd_0 p0=some r):EE c_Lbd_0 K_Lbd_0 (s_Lbd_0 p0) (Post vf_Lbd (res_Lbd r)):=by
 obtain ⟨x0_0,h0_0,hm⟩:=bind_some hm
 refine gn c_Lbd_9 K_Lbd_9 (s_Lbd_9 p0 0 (List.replicate (Int.toNat (p0.length:Int)) ((S_Act.mk 0 0):S_Act))) [zn p0.length,.rows (List.map rS_Act (List.replicate (Int.toNat (p0.length:Int)) ((S_Act.mk 0 0):S_Act))),zn (Int.toNat (p0.length:Int)),zn ((List.replicate (Int.toNat (p0.length:Int)) ((S_Act.mk 0 0):S_Act)).length)] (J (lm rS_Act p0) (J (ck_p h0_0) (J (rep_ob rS_Act (Int.toNat (p0.length:Int)) ((S_Act.mk 0 0):S_Act) [.lit (vI 0),.lit (vI 0)] (by kernel_rfl)) (J (len_map rS_Act (show (Int.toNat (p0.length:Int))=(List.replicate (Int.toNat (p0.length:Int)) ((S_Act.mk 0 0):S_Act)).length from (rep_len (Int.toNat (p0.length:Int)) ((S_Act.mk 0 0):S_Act)))) (J (lens (Int.toNat (p0.length:Int)) ((List.replicate (Int.toNat (p0.length:Int)) ((S_Act.mk 0 0):S_Act)).length) (rep_len (Int.toNat (p0.length:Int)) ((S_Act.mk 0 0):S_Act))) J0))))) ?_ (by kernel_rfl)
 obtain ⟨e,he,hm⟩:=bind_some hm
 refine loop_rule (u:=.c c_Lbd_9) (K:=K_Lbd_9) (Q:=(Post vf_Lbd (res_Lbd r))) (b:=lp_Lbd_9 p0) (We:=O_Lbd_9 (Post vf_Lbd (res_Lbd r))) (stJ:=fun s=>s_Lbd_9 p0 s.1 s.2) (s:=(0,(List.replicate (Int.toNat (p0.length:Int)) ((S_Act.mk 0 0):S_Act)))) (fun s y hb hin hout=>ok_Lbd_9 p0 s.1 s.2 y hb (Post vf_Lbd (res_Lbd r)) hin hout) he ?_
 show EE c_Lbd_19 K_Lbd_19 (s_Lbd_19 e) _
 exact ok_Lbd_19 e r hm
theorem ok_Lbd (p0 r:(List S_Act)) (hm:m_Lbd p0=some r):Runs ext tbl 36 (as_Lbd p0) (res_Lbd r):=
 runs_of (vf:=vf_Lbd) (by kernel_rfl) rfl (st:=(enter vf_Lbd (as_Lbd p0)).getD default) (by kernel_rfl) (go_on [] 1000 J0 (ok_Lbd_0 p0 r hm) (by kernel_rfl))
def O_Sc_7 (Q:VX→St→Prop) (e:(Bool)⊕((Unit))):Prop:=match e with | .inl e=>Q=Post vf_Sc (res_Sc e) | .inr e=>EE c_Sc_23 K_Sc_23 (s_Sc_23) Q
theorem ok_Sc_23 (r:Bool) (hm:m_Sc_23=some r):EE c_Sc_23 K_Sc_23 (s_Sc_23) (Post vf_Sc (res_Sc r)):=by
 exact go_end [] 1000 J0 (congrArg res_Sc (qj hm)) (by kernel_rfl)
theorem ok_Sc_7 (p0:ByteArray) (i7_0:Int) (y) (hm:m_Sc_7 p0 i7_0=some y) (Q)
  (hin:∀ s,y=.inl s→EE c_Sc_7 K_Sc_7 (s_Sc_7 p0 s) Q) (hout:∀ e,y=.inr e→O_Sc_7 Q e):EE c_Sc_7 K_Sc_7 (s_Sc_7 p0 i7_0) Q:=by
 obtain ⟨h7_0,hm⟩|⟨h7_0,hm⟩:=split_ite hm
 ·obtain ⟨x7_1,h7_1,hm⟩:=bind_some hm
  obtain ⟨h7_2,hm⟩|⟨h7_2,hm⟩:=split_ite hm
  ·have hQ:Q=Post vf_Sc (res_Sc false):=hout (.inl false) (qj hm).symm
   subst hQ
   exact go_end [zT,.int x7_1,zT,zT,zT,zT,zT,zT] 1000 (J h7_0 (J (sat_nn h7_1) (J (sat_at h7_1) (J4 h7_2 (J h7_2 (J eT J0)))))) (rfl:res_Sc false=res_Sc false) (by kernel_rfl)
  ·obtain ⟨h7_3,hm⟩|⟨h7_3,hm⟩:=split_ite hm
   ·have hQ:Q=Post vf_Sc (res_Sc false):=hout (.inl false) (qj hm).symm
    subst hQ
    exact go_end [zT,.int x7_1,zF,zF,zF,.int x7_1,zF,zF,zT] 1000 (J h7_0 (J (sat_nn h7_1) (J (sat_at h7_1) (J h7_2 (J h7_2 (J h7_2 (J (sat_nn h7_1) (J (sat_at h7_1) (J h7_2 (J h7_2 (J h7_3 J0))))))))))) (rfl:res_Sc false=res_Sc false) (by kernel_rfl)
   ·exact gh (hin _ (qj hm).symm) [zT,.int x7_1,zF,zF,zF,.int x7_1,zF,zF,zF] (J h7_0 (J (sat_nn h7_1) (J (sat_at h7_1) (J h7_2 (J h7_2 (J h7_2 (J (sat_nn h7_1) (J (sat_at h7_1) (J h7_2 (J h7_2 (J h7_3 J0))))))))))) (by kernel_rfl)
 ·refine gn c_Sc_23 K_Sc_23 (s_Sc_23) [zF] (J h7_0 J0) ?_ (by kernel_rfl)
  exact hout (.inr ()) (qj hm).symm
theorem ok_Sc_0 (p0:ByteArray) (r:Bool) (hm:m_Sc_0 p0=some r):EE c_Sc_0 K_Sc_0 (s_Sc_0 p0) (Post vf_Sc (res_Sc r)):=by
 refine gn c_Sc_7 K_Sc_7 (s_Sc_7 p0 0) [] J0 ?_ (by kernel_rfl)
 obtain ⟨e,he,hm⟩:=bind_some hm
 refine loop_rule (u:=.c c_Sc_7) (K:=K_Sc_7) (Q:=(Post vf_Sc (res_Sc r))) (b:=lp_Sc_7 p0) (We:=O_Sc_7 (Post vf_Sc (res_Sc r))) (stJ:=fun s=>s_Sc_7 p0 s) (s:=0) (fun s y hb hin hout=>ok_Sc_7 p0 s y hb (Post vf_Sc (res_Sc r)) hin hout) he ?_
 rcases e with e | e
 ·exact congrArg (fun r=>Post vf_Sc (res_Sc r)) (qj hm).symm
 ·show EE c_Sc_23 K_Sc_23 (s_Sc_23) _
  exact ok_Sc_23 r hm
theorem ok_Sc (p0:ByteArray) (r:Bool) (hm:m_Sc p0=some r):Runs ext tbl 139 (as_Sc p0) (res_Sc r):=
 runs_of (vf:=vf_Sc) (by kernel_rfl) rfl (st:=(enter vf_Sc (as_Sc p0)).getD default) (by kernel_rfl) (go_on [] 1000 J0 (ok_Sc_0 p0 r hm) (by kernel_rfl))
theorem ok_Sg_0 (p0:S_Track) (r:Bool) (hm:m_Sg_0 p0=some r):EE c_Sg_0 K_Sg_0 (s_Sg_0 p0) (Post vf_Sg (res_Sg r)):=by
 obtain ⟨h0_0,hm⟩|⟨h0_0,hm⟩:=split_ite hm
 ·obtain ⟨h0_1,hm⟩|⟨h0_1,hm⟩:=split_ite hm
  ·obtain ⟨h0_2,hm⟩|⟨h0_2,hm⟩:=split_ite hm
   ·obtain ⟨h0_3,hm⟩|⟨h0_3,hm⟩:=split_ite hm
    ·obtain ⟨h0_4,hm⟩|⟨h0_4,hm⟩:=split_ite hm
     ·obtain ⟨x0_5,h0_5,hm⟩:=bind_some hm
      exact go_end [zT,zT,zT,zT,zT,zT,zT,zT,zT,zT,zT,zT,zT,zT,zT,zT,zT,zT,zT,zT,.res (res_Sc x0_5),zT] 1000 (J4 h0_0 (J4 h0_1 (J4 h0_2 (J4 h0_3 (J h0_3 (J h0_4 (J h0_4 (J h0_4 (J (ok_Sc p0.name x0_5 h0_5) (J h0_4 J0)))))))))) (congrArg res_Sg (qj hm)) (by kernel_rfl)
     ·exact go_end [zT,zT,zT,zT,zT,zT,zT,zT,zT,zT,zT,zT,zT,zT,zT,zT,zT,zF,zF,zF,zF] 1000 (J4 h0_0 (J4 h0_1 (J4 h0_2 (J4 h0_3 (J h0_3 (J h0_4 (J h0_4 (J h0_4 (J h0_4 J0))))))))) (congrArg res_Sg (qj hm)) (by kernel_rfl)
    ·exact go_end [zT,zT,zT,zT,zT,zT,zT,zT,zT,zT,zT,zT,zF,zF,zF,zF,zF,zF,zF,zF,zF] 1000 (J4 h0_0 (J4 h0_1 (J4 h0_2 (J4 h0_3 (J h0_3 (J eF (J eF (J eF (J eF J0))))))))) (congrArg res_Sg (qj hm)) (by kernel_rfl)
   ·exact go_end [zT,zT,zT,zT,zT,zT,zT,zT,zF,zF,zF,zF,zF,zF,zF,zF,zF,zF,zF,zF,zF] 1000 (J4 h0_0 (J4 h0_1 (J4 h0_2 (J4 eF (J4 eF (J eF J0)))))) (congrArg res_Sg (qj hm)) (by kernel_rfl)
  ·exact go_end [zT,zT,zT,zT,zF,zF,zF,zF,zF,zF,zF,zF,zF,zF,zF,zF,zF,zF,zF,zF,zF] 1000 (J4 h0_0 (J4 h0_1 (J4 eF (J4 eF (J4 eF (J eF J0)))))) (congrArg res_Sg (qj hm)) (by kernel_rfl)
 ·exact go_end [zF,zF,zF,zF,zF,zF,zF,zF,zF,zF,zF,zF,zF,zF,zF,zF,zF,zF,zF,zF,zF] 1000 (J4 h0_0 (J4 eF (J4 eF (J4 eF (J4 eF (J eF J0)))))) (congrArg res_Sg (qj hm)) (by kernel_rfl)
theorem ok_Sg (p0:S_Track) (r:Bool) (hm:m_Sg p0=some r):Runs ext tbl 97 (as_Sg p0) (res_Sg r):=
 runs_of (vf:=vf_Sg) (by kernel_rfl) rfl (st:=(enter vf_Sg (as_Sg p0)).getD default) (by kernel_rfl) (go_on [] 1000 J0 (ok_Sg_0 p0 r hm) (by kernel_rfl))
def O_Sh_7 (p0:(List S_Track)) (Q:VX→St→Prop) (e:(Bool)⊕((Unit))):Prop:=match e with | .inl e=>Q=Post vf_Sh (res_Sh e) | .inr e=>EE c_Sh_25 K_Sh_25 (s_Sh_25 p0) Q
theorem ok_Sh_25 (p0:(List S_Track)) (r:Bool) (hm:m_Sh_25 p0=some r):EE c_Sh_25 K_Sh_25 (s_Sh_25 p0) (Post vf_Sh (res_Sh r)):=by
 obtain ⟨h25_0,hm⟩|⟨h25_0,hm⟩:=split_ite hm
 ·exact go_end [zn p0.length,zT,zT,zn p0.length,zT,zT] 1000 (J (lm rS_Track p0) (J h25_0 (J h25_0 (J (lm rS_Track p0) (J h25_0 (J h25_0 J0)))))) (congrArg res_Sh (qj hm)) (by kernel_rfl)
 ·exact go_end [zn p0.length,zF,zF,zF,zF] 1000 (J (lm rS_Track p0) (J h25_0 (J h25_0 (J h25_0 (J h25_0 J0))))) (congrArg res_Sh (qj hm)) (by kernel_rfl)
theorem ok_Sh_7 (p0:(List S_Track)) (i7_0:Int) (y) (hm:m_Sh_7 p0 i7_0=some y) (Q)
  (hin:∀ s,y=.inl s→EE c_Sh_7 K_Sh_7 (s_Sh_7 p0 s) Q) (hout:∀ e,y=.inr e→O_Sh_7 p0 Q e):EE c_Sh_7 K_Sh_7 (s_Sh_7 p0 i7_0) Q:=by
 obtain ⟨h7_0,hm⟩|⟨h7_0,hm⟩:=split_ite hm
 ·obtain ⟨x7_1,h7_1,hm⟩:=bind_some hm
  obtain ⟨x7_2,h7_2,hm⟩:=bind_some hm
  obtain ⟨h7_3,hm⟩|⟨h7_3,hm⟩:=split_ite hm
  ·exact gh (hin _ (qj hm).symm) [zT,.row (rS_Track x7_1),.res (res_Sg x7_2),zF] (J h7_0 (J (rd_nn h7_1) (J (at_row rS_Track (rd_get h7_1)) (J (ok_Sg x7_1 x7_2 h7_2) (J (not_f h7_3) J0))))) (by kernel_rfl)
  ·have hQ:Q=Post vf_Sh (res_Sh false):=hout (.inl false) (qj hm).symm
   subst hQ
   exact go_end [zT,.row (rS_Track x7_1),.res (res_Sg x7_2),zT] 1000 (J h7_0 (J (rd_nn h7_1) (J (at_row rS_Track (rd_get h7_1)) (J (ok_Sg x7_1 x7_2 h7_2) (J (not_t h7_3) J0))))) (rfl:res_Sh false=res_Sh false) (by kernel_rfl)
 ·refine gn c_Sh_25 K_Sh_25 (s_Sh_25 p0) [zF] (J h7_0 J0) ?_ (by kernel_rfl)
  exact hout (.inr ()) (qj hm).symm
theorem ok_Sh_0 (p0:(List S_Track)) (r:Bool) (hm:m_Sh_0 p0=some r):EE c_Sh_0 K_Sh_0 (s_Sh_0 p0) (Post vf_Sh (res_Sh r)):=by
 refine gn c_Sh_7 K_Sh_7 (s_Sh_7 p0 0) [zn p0.length] (J (lm rS_Track p0) J0) ?_ (by kernel_rfl)
 obtain ⟨e,he,hm⟩:=bind_some hm
 refine loop_rule (u:=.c c_Sh_7) (K:=K_Sh_7) (Q:=(Post vf_Sh (res_Sh r))) (b:=lp_Sh_7 p0) (We:=O_Sh_7 p0 (Post vf_Sh (res_Sh r))) (stJ:=fun s=>s_Sh_7 p0 s) (s:=0) (fun s y hb hin hout=>ok_Sh_7 p0 s y hb (Post vf_Sh (res_Sh r)) hin hout) he ?_
 rcases e with e | e
 ·exact congrArg (fun r=>Post vf_Sh (res_Sh r)) (qj hm).symm
 ·show EE c_Sh_25 K_Sh_25 (s_Sh_25 p0) _
  exact ok_Sh_25 p0 r hm
theorem ok_Sh (p0:(List S_Track)) (r:Bool) (hm:m_Sh p0=some r):Runs ext tbl 142 (as_Sh p0) (res_Sh r):=
 runs_of (vf:=vf_Sh) (by kernel_rfl) rfl (st:=(enter vf_Sh (as_Sh p0)).getD default) (by kernel_rfl) (go_on [] 1000 J0 (ok_Sh_0 p0 r hm) (by kernel_rfl))
theorem ok_Sf_0 (p0:Int) (r:Bool) (hm:m_Sf_0 p0=some r):EE c_Sf_0 K_Sf_0 (s_Sf_0 p0) (Post vf_Sf (res_Sf r)):=by
 obtain ⟨h0_0,hm⟩|⟨h0_0,hm⟩:=split_ite hm
 ·exact go_end [zT,zT,zT] 1000 (J h0_0 (J h0_0 (J h0_0 J0))) (congrArg res_Sf (qj hm)) (by kernel_rfl)
 ·exact go_end [zF,zF,zF] 1000 (J h0_0 (J h0_0 (J h0_0 J0))) (congrArg res_Sf (qj hm)) (by kernel_rfl)
theorem ok_Sf (p0:Int) (r:Bool) (hm:m_Sf p0=some r):Runs ext tbl 127 (as_Sf p0) (res_Sf r):=
 runs_of (vf:=vf_Sf) (by kernel_rfl) rfl (st:=(enter vf_Sf (as_Sf p0)).getD default) (by kernel_rfl) (go_on [] 1000 J0 (ok_Sf_0 p0 r hm) (by kernel_rfl))
def O_Se_36 (Q:VX→St→Prop) (e:(Bool)⊕((Unit))):Prop:=match e with | .inl e=>Q=Post vf_Se (res_Se e) | .inr e=>EE c_Se_74 K_Se_74 (s_Se_74) Q
def O_Se_17 (p0:S_Box) (Q:VX→St→Prop) (e:((List Int))):Prop:=EE c_Se_29 K_Se_29 (s_Se_29 p0 e) Q
theorem ok_Se_62 (i36_0:Int) (p0:S_Box) (i36_1:Int) (x36_1:S_Packet) (l36_2:(List Int)) (y) (hm:m_Se_62 i36_0 p0 i36_1 x36_1 l36_2=some y) (Q)
  (hin:∀ s,y=.inl s→EE c_Se_36 K_Se_36 (s_Se_36 p0 s.1 s.2.1 s.2.2) Q) (hout:∀ e,y=.inr e→O_Se_36 Q e):EE c_Se_62 K_Se_62 (s_Se_62 i36_0 p0 i36_1 x36_1 l36_2) Q:=by
 obtain ⟨x62_0,h62_0,hm⟩:=bind_some hm
 obtain ⟨h62_1,hm⟩|⟨h62_1,hm⟩:=split_ite hm
 ·have hQ:Q=Post vf_Se (res_Se false):=hout (.inl false) (qj hm).symm
  subst hQ
  exact go_end [.rows (mi (l36_2.set (0+Int.toNat x36_1.track) x36_1.time)),zn x36_1.data.length,zT] 1000 (J (rd_in rfl h62_0) (J (put_ob (rI .i64) x36_1.time 0 (.lit (vI x36_1.time)) (rd_get0 h62_0) (by kernel_rfl) (by kernel_rfl)) (J (lm (rI .u8) x36_1.data) (J h62_1 J0)))) (rfl:res_Se false=res_Se false) (by kernel_rfl)
 ·exact gh (hin _ (qj hm).symm) [.rows (mi (l36_2.set (0+Int.toNat x36_1.track) x36_1.time)),zn x36_1.data.length,zF,zn ((l36_2.set (0+Int.toNat x36_1.track) x36_1.time).length)] (J (rd_in rfl h62_0) (J (put_ob (rI .i64) x36_1.time 0 (.lit (vI x36_1.time)) (rd_get0 h62_0) (by kernel_rfl) (by kernel_rfl)) (J (lm (rI .u8) x36_1.data) (J h62_1 (J (lens l36_2.length ((l36_2.set (0+Int.toNat x36_1.track) x36_1.time).length) (set_len rfl)) J0))))) (by kernel_rfl)
theorem ok_Se_74 (r:Bool) (hm:m_Se_74=some r):EE c_Se_74 K_Se_74 (s_Se_74) (Post vf_Se (res_Se r)):=by
 exact go_end [] 1000 J0 (congrArg res_Se (qj hm)) (by kernel_rfl)
theorem ok_Se_36 (p0:S_Box) (i36_0 i36_1:Int) (l36_2:(List Int)) (y) (hm:m_Se_36 p0 i36_0 i36_1 l36_2=some y) (Q)
  (hin:∀ s,y=.inl s→EE c_Se_36 K_Se_36 (s_Se_36 p0 s.1 s.2.1 s.2.2) Q) (hout:∀ e,y=.inr e→O_Se_36 Q e):EE c_Se_36 K_Se_36 (s_Se_36 p0 i36_0 i36_1 l36_2) Q:=by
 obtain ⟨h36_0,hm⟩|⟨h36_0,hm⟩:=split_ite hm
 ·obtain ⟨x36_1,h36_1,hm⟩:=bind_some hm
  obtain ⟨h36_2,hm⟩|⟨h36_2,hm⟩:=split_ite hm
  ·have hQ:Q=Post vf_Se (res_Se false):=hout (.inl false) (qj hm).symm
   subst hQ
   exact go_end [zT,.row (rS_Packet x36_1),zT,zT,zT,zT,zT,zT,zT,zT,zT,zT,zT,zT,zT,zT,zT,zT,zT,zT] 1000 (J h36_0 (J (rd_nn h36_1) (J (at_row rS_Packet (rd_get h36_1)) (J4 h36_2 (J h36_2 (J h36_2 (J h36_2 (J4 eT (J4 eT (J eT (J eT (J eT J0)))))))))))) (rfl:res_Se false=res_Se false) (by kernel_rfl)
  ·obtain ⟨h36_3,hm⟩|⟨h36_3,hm⟩:=split_ite hm
   ·have hQ:Q=Post vf_Se (res_Se false):=hout (.inl false) (qj hm).symm
    subst hQ
    exact go_end [zT,.row (rS_Packet x36_1),zF,zF,zF,zF,zF,zn p0.tracks.length,zF,zF,zT,zT,zT,zT,zT,zT,zT,zT,zT,zT,zT] 1000 (J h36_0 (J (rd_nn h36_1) (J (at_row rS_Packet (rd_get h36_1)) (J4 h36_2 (J h36_2 (J (lm rS_Track p0.tracks) (J h36_2 (J h36_2 (J4 h36_3 (J h36_3 (J4 eT (J eT (J eT J0))))))))))))) (rfl:res_Se false=res_Se false) (by kernel_rfl)
   ·obtain ⟨x36_4,h36_4,hm⟩:=bind_some hm
    obtain ⟨h36_5,hm⟩|⟨h36_5,hm⟩:=split_ite hm
    ·obtain ⟨x36_6,h36_6,hm⟩:=bind_some hm
     obtain ⟨h36_7,hm⟩|⟨h36_7,hm⟩:=split_ite hm
     ·obtain ⟨x36_8,h36_8,hm⟩:=bind_some hm
      obtain ⟨h36_9,hm⟩|⟨h36_9,hm⟩:=split_ite hm
      ·have hQ:Q=Post vf_Se (res_Se false):=hout (.inl false) (qj hm).symm
       subst hQ
       exact go_end [zT,.row (rS_Packet x36_1),zF,zF,zF,zF,zF,zn p0.tracks.length,zF,zF,zF,zF,zF,.res (res_Sf x36_4),zF,zF,zF,zF,zF,.res (res_Sf x36_6),zF,zF,zF,.row ((rI .i64) x36_8),zT,zT,zT,zT,zT,zT,zT,zT,zT,zT] 1000 (J h36_0 (J (rd_nn h36_1) (J (at_row rS_Packet (rd_get h36_1)) (J4 h36_2 (J h36_2 (J (lm rS_Track p0.tracks) (J h36_2 (J h36_2 (J h36_3 (J h36_3 (J h36_3 (J (ok_Sf x36_1.time x36_4 h36_4) (J h36_3 (J h36_3 (J (not_f h36_5) (J (not_f h36_5) (J (not_f h36_5) (J (ok_Sf x36_1.span x36_6 h36_6) (J (not_f h36_5) (J (not_f h36_5) (J (not_f h36_7) (J (rd_in rfl h36_8) (J (at_row (rI .i64) (rd_get0 h36_8)) (J4 h36_9 (J4 h36_9 (J h36_9 (J eT J0))))))))))))))))))))))))))) (rfl:res_Se false=res_Se false) (by kernel_rfl)
      ·obtain ⟨h36_10,hm⟩|⟨h36_10,hm⟩:=split_ite hm
       ·obtain ⟨h36_11,hm⟩|⟨h36_11,hm⟩:=split_ite hm
        ·exact gh (ok_Se_62 _ _ _ _ _ y hm Q hin hout) [zT,.row (rS_Packet x36_1),zF,zF,zF,zF,zF,zn p0.tracks.length,zF,zF,zF,zF,zF,.res (res_Sf x36_4),zF,zF,zF,zF,zF,.res (res_Sf x36_6),zF,zF,zF,.row ((rI .i64) x36_8),zF,zF,zF,zF,zF,.row ((rI .i64) x36_8),zF,zF,zT,zT,zT,zF,zT,zF,zF,zn l36_2.length] (J h36_0 (J (rd_nn h36_1) (J (at_row rS_Packet (rd_get h36_1)) (J4 h36_2 (J h36_2 (J (lm rS_Track p0.tracks) (J h36_2 (J h36_2 (J h36_3 (J h36_3 (J h36_3 (J (ok_Sf x36_1.time x36_4 h36_4) (J h36_3 (J h36_3 (J (not_f h36_5) (J (not_f h36_5) (J (not_f h36_5) (J (ok_Sf x36_1.span x36_6 h36_6) (J (not_f h36_5) (J (not_f h36_5) (J (not_f h36_7) (J (rd_in rfl h36_8) (J (at_row (rI .i64) (rd_get0 h36_8)) (J4 h36_9 (J (rd_in rfl h36_8) (J h36_9 (J (at_row (rI .i64) (rd_get0 h36_8)) (J h36_9 (J h36_9 (J h36_10 (J h36_10 (J h36_10 (J h36_9 (J h36_10 (J h36_9 (J (not_f h36_11) (J (ln l36_2.length) J0))))))))))))))))))))))))))))))))))))) (by kernel_rfl)
        ·have hQ:Q=Post vf_Se (res_Se false):=hout (.inl false) (qj hm).symm
         subst hQ
         exact go_end [zT,.row (rS_Packet x36_1),zF,zF,zF,zF,zF,zn p0.tracks.length,zF,zF,zF,zF,zF,.res (res_Sf x36_4),zF,zF,zF,zF,zF,.res (res_Sf x36_6),zF,zF,zF,.row ((rI .i64) x36_8),zF,zF,zF,zF,zF,.row ((rI .i64) x36_8),zF,zF,zT,zT,zT,zF,zT,zF,zT] 1000 (J h36_0 (J (rd_nn h36_1) (J (at_row rS_Packet (rd_get h36_1)) (J4 h36_2 (J h36_2 (J (lm rS_Track p0.tracks) (J h36_2 (J h36_2 (J h36_3 (J h36_3 (J h36_3 (J (ok_Sf x36_1.time x36_4 h36_4) (J h36_3 (J h36_3 (J (not_f h36_5) (J (not_f h36_5) (J (not_f h36_5) (J (ok_Sf x36_1.span x36_6 h36_6) (J (not_f h36_5) (J (not_f h36_5) (J (not_f h36_7) (J (rd_in rfl h36_8) (J (at_row (rI .i64) (rd_get0 h36_8)) (J4 h36_9 (J (rd_in rfl h36_8) (J h36_9 (J (at_row (rI .i64) (rd_get0 h36_8)) (J h36_9 (J h36_9 (J h36_10 (J h36_10 (J h36_10 (J h36_9 (J h36_10 (J h36_9 (J (not_t h36_11) J0)))))))))))))))))))))))))))))))))))) (rfl:res_Se false=res_Se false) (by kernel_rfl)
       ·exact gh (ok_Se_62 _ _ _ _ _ y hm Q hin hout) [zT,.row (rS_Packet x36_1),zF,zF,zF,zF,zF,zn p0.tracks.length,zF,zF,zF,zF,zF,.res (res_Sf x36_4),zF,zF,zF,zF,zF,.res (res_Sf x36_6),zF,zF,zF,.row ((rI .i64) x36_8),zF,zF,zF,zF,zF,.row ((rI .i64) x36_8),zF,zF,zF,zF,zF,zF,zF,zF,zF,zn l36_2.length] (J h36_0 (J (rd_nn h36_1) (J (at_row rS_Packet (rd_get h36_1)) (J4 h36_2 (J h36_2 (J (lm rS_Track p0.tracks) (J h36_2 (J h36_2 (J h36_3 (J h36_3 (J h36_3 (J (ok_Sf x36_1.time x36_4 h36_4) (J h36_3 (J h36_3 (J (not_f h36_5) (J (not_f h36_5) (J (not_f h36_5) (J (ok_Sf x36_1.span x36_6 h36_6) (J (not_f h36_5) (J (not_f h36_5) (J (not_f h36_7) (J (rd_in rfl h36_8) (J (at_row (rI .i64) (rd_get0 h36_8)) (J4 h36_9 (J (rd_in rfl h36_8) (J h36_9 (J (at_row (rI .i64) (rd_get0 h36_8)) (J h36_9 (J h36_9 (J h36_10 (J h36_10 (J h36_10 (J h36_9 (J h36_10 (J h36_9 (J eF (J (ln l36_2.length) J0))))))))))))))))))))))))))))))))))))) (by kernel_rfl)
     ·have hQ:Q=Post vf_Se (res_Se false):=hout (.inl false) (qj hm).symm
      subst hQ
      exact go_end [zT,.row (rS_Packet x36_1),zF,zF,zF,zF,zF,zn p0.tracks.length,zF,zF,zF,zF,zF,.res (res_Sf x36_4),zF,zF,zF,zF,zF,.res (res_Sf x36_6),zF,zF,zT] 1000 (J h36_0 (J (rd_nn h36_1) (J (at_row rS_Packet (rd_get h36_1)) (J4 h36_2 (J h36_2 (J (lm rS_Track p0.tracks) (J h36_2 (J h36_2 (J h36_3 (J h36_3 (J h36_3 (J (ok_Sf x36_1.time x36_4 h36_4) (J h36_3 (J h36_3 (J (not_f h36_5) (J (not_f h36_5) (J (not_f h36_5) (J (ok_Sf x36_1.span x36_6 h36_6) (J (not_f h36_5) (J (not_f h36_5) (J (not_t h36_7) J0))))))))))))))))))))) (rfl:res_Se false=res_Se false) (by kernel_rfl)
    ·have hQ:Q=Post vf_Se (res_Se false):=hout (.inl false) (qj hm).symm
     subst hQ
     exact go_end [zT,.row (rS_Packet x36_1),zF,zF,zF,zF,zF,zn p0.tracks.length,zF,zF,zF,zF,zF,.res (res_Sf x36_4),zF,zF,zT,zT,zT,zT,zT,zT] 1000 (J h36_0 (J (rd_nn h36_1) (J (at_row rS_Packet (rd_get h36_1)) (J4 h36_2 (J h36_2 (J (lm rS_Track p0.tracks) (J h36_2 (J h36_2 (J h36_3 (J h36_3 (J h36_3 (J (ok_Sf x36_1.time x36_4 h36_4) (J h36_3 (J h36_3 (J4 (not_t h36_5) (J (not_t h36_5) (J eT J0))))))))))))))))) (rfl:res_Se false=res_Se false) (by kernel_rfl)
 ·refine gn c_Se_74 K_Se_74 (s_Se_74) [zF] (J h36_0 J0) ?_ (by kernel_rfl)
  exact hout (.inr ()) (qj hm).symm
theorem ok_Se_29 (p0:S_Box) (l29_0:(List Int)) (r:Bool) (hm:m_Se_29 p0 l29_0=some r):EE c_Se_29 K_Se_29 (s_Se_29 p0 l29_0) (Post vf_Se (res_Se r)):=by
 refine gn c_Se_36 K_Se_36 (s_Se_36 p0 0 0 l29_0) [zn p0.packets.length,zn l29_0.length] (J (lm rS_Packet p0.packets) (J (ln l29_0.length) J0)) ?_ (by kernel_rfl)
 obtain ⟨e,he,hm⟩:=bind_some hm
 refine loop_rule (u:=.c c_Se_36) (K:=K_Se_36) (Q:=(Post vf_Se (res_Se r))) (b:=lp_Se_36 p0) (We:=O_Se_36 (Post vf_Se (res_Se r))) (stJ:=fun s=>s_Se_36 p0 s.1 s.2.1 s.2.2) (s:=(0,0,l29_0)) (fun s y hb hin hout=>ok_Se_36 p0 s.1 s.2.1 s.2.2 y hb (Post vf_Se (res_Se r)) hin hout) he ?_
 rcases e with e | e
 ·exact congrArg (fun r=>Post vf_Se (res_Se r)) (qj hm).symm
 ·show EE c_Se_74 K_Se_74 (s_Se_74) _
  exact ok_Se_74 r hm
end Go.Proofs.V
