import Derived.Test.YtejakgejjjncbaaFnRoomyV3
import Derived.KernelRfl
set_option linter.unusedVariables false
set_option maxRecDepth 100000
namespace Go.Proofs.V
open Go
abbrev EE (c : VC) (K : List Fr) (s : St) (Q : VX → St → Prop) : Prop := EvU ext tbl (.c c) K s Q
def as_Sj (p0:Zb):List Arg:=[.m (.pt [.sl (p0.code.map (rI .u8)),.lit (vI p0.at_),.lit (.int .u64 p0.seed)])]
def res_Sj (r:Int×Zb):FRes:=⟨[.v false [.lit (vI r.1)]],[.pt [.sl (r.2.code.map (rI .u8)),.lit (vI r.2.at_),.lit (.int .u64 r.2.seed)]]⟩
def as_Sl (p0:Zb) (p1:Int):List Arg:=[.m (.pt [.sl (p0.code.map (rI .u8)),.lit (vI p0.at_),.lit (.int .u64 p0.seed)]),.v false [.lit (vI p1)]]
def res_Sl (r:Int×Zb):FRes:=⟨[.v false [.lit (vI r.1)]],[.pt [.sl (r.2.code.map (rI .u8)),.lit (vI r.2.at_),.lit (.int .u64 r.2.seed)]]⟩
def as_Sm (p0:Zb) (p1:Int):List Arg:=[.m (.pt [.sl (p0.code.map (rI .u8)),.lit (vI p0.at_),.lit (.int .u64 p0.seed)]),.v false [.lit (vI p1)]]
def res_Sm (r:LI×Zb):FRes:=⟨[.v false [.sl (r.1.map (rI .u8))]],[.pt [.sl (r.2.code.map (rI .u8)),.lit (vI r.2.at_),.lit (.int .u64 r.2.seed)]]⟩
def as_Sf (p0:ByteArray):List Arg:=[.v false [.lit (.string p0)]]
def res_Sf (r:Bool):FRes:=⟨[.v false [.lit (.bool r)]],[]⟩
def as_Si (p0:Zb) (p1:Int):List Arg:=[.m (.pt [.sl (p0.code.map (rI .u8)),.lit (vI p0.at_),.lit (.int .u64 p0.seed)]),.v false [.lit (vI p1)]]
def res_Si (r:LZ×Zb):FRes:=⟨[.v false [.sl (r.1.map rZa)]],[.pt [.sl (r.2.code.map (rI .u8)),.lit (vI r.2.at_),.lit (.int .u64 r.2.seed)]]⟩
def as_Sk (p0:Zb) (p1:Int):List Arg:=[.m (.pt [.sl (p0.code.map (rI .u8)),.lit (vI p0.at_),.lit (.int .u64 p0.seed)]),.v false [.lit (vI p1)]]
def res_Sk (r:Bool×Zb):FRes:=⟨[.v false [.lit (.bool r.1)]],[.pt [.sl (r.2.code.map (rI .u8)),.lit (vI r.2.at_),.lit (.int .u64 r.2.seed)]]⟩
def as_Se (p0:LI):List Arg:=[.v false [.sl (p0.map (rI .u8))]]
def res_Se (r:LZ×Zb):FRes:=⟨[.v false [.sl (r.1.map rZa)],.m (.pt [.sl (r.2.code.map (rI .u8)),.lit (vI r.2.at_),.lit (.int .u64 r.2.seed)])],[]⟩
def as_Sa (p0:LI):List Arg:=[.v false [.sl (p0.map (rI .u8))]]
def res_Sa (r:LZ×Int):FRes:=⟨[.v false [.sl (r.1.map rZa)],.v false [.lit (vI r.2)]],[]⟩
def as_Ie (p0:Int):List Arg:=[.v false [.lit (vI p0)]]
def res_Ie (r:Bool):FRes:=⟨[.v false [.lit (.bool r)]],[]⟩
def as_strings_Contains (p0 p1:ByteArray):List Arg:=[.v false [.lit (.string p0)],.v false [.lit (.string p1)]]
def res_strings_Contains (r:Bool):FRes:=⟨[.v false [.lit (.bool r)]],[]⟩
def as_Id (p0:ByteArray):List Arg:=[.v false [.lit (.string p0)]]
def res_Id (r:Int):FRes:=⟨[.v false [.lit (vI r)]],[]⟩
def as_Ic (p0:Za):List Arg:=[.v true [.lit (vI p0.from_),.lit (vI p0.to_),.sl (p0.lines.map rS)]]
def res_Ic (r:Bool):FRes:=⟨[.v false [.lit (.bool r)]],[]⟩
def as_Ia (p0:LZ):List Arg:=[.v false [.sl (p0.map rZa)]]
def res_Ia (r:Bool):FRes:=⟨[.v false [.lit (.bool r)]],[]⟩
def as_Ib (p0:LZ) (p1:Int):List Arg:=[.v false [.sl (p0.map rZa)],.v false [.lit (vI p1)]]
def res_Ib (r:LI):FRes:=⟨[.v false [.sl (r.map (rI .i64))]],[]⟩
def as_Sh (p0:Int):List Arg:=[.v false [.lit (vI p0)]]
def res_Sh (r:Bool):FRes:=⟨[.v false [.lit (.bool r)]],[]⟩
def as_Sd (p0:ByteArray):List Arg:=[.v false [.lit (.string p0)]]
def res_Sd (r:Bool):FRes:=⟨[.v false [.lit (.bool r)]],[]⟩
def as_Sg (p0:(List ByteArray)):List Arg:=[.v false [.sl (p0.map rS)]]
def res_Sg (r:Bool):FRes:=⟨[.v false [.lit (.bool r)]],[]⟩
def as_Sb (p0:LZ):List Arg:=[.v false [.sl (p0.map rZa)]]
def res_Sb (r:Bool):FRes:=⟨[.v false [.lit (.bool r)]],[]⟩
def as_Sc (p0:LZ) (p1:Int):List Arg:=[.v false [.sl (p0.map rZa)],.v false [.lit (vI p1)]]
def res_Sc (r:LI):FRes:=⟨[.v false [.sl (r.map (rI .i64))]],[]⟩
def as_La (p0 p1:LI):List Arg:=[.v false [.sl (p0.map (rI .i64))],.v false [.sl (p1.map (rI .i64))]]
def res_La (r:Bool):FRes:=⟨[.v false [.lit (.bool r)]],[]⟩
def as_laws_FnRoomy (p0:LI):List Arg:=[.v false [.sl (p0.map (rI .u8))]]
def res_laws_FnRoomy (r:Bool):FRes:=⟨[.v false [.lit (.bool r)]],[]⟩
def K_Sj_10:List Fr:=[]
def s_Sj_10 (p0:Zb) (a:Int):St:=
 ⟨mkSl 62 [(0,sP 0 0),(3,sI a)],[],[some [.ro [.sc] (p0.code.map (rI .u8)),cI p0.at_,.lit (.int .u64 p0.seed)]]⟩
def K_Sj_0:List Fr:=[]
def s_Sj_0 (p0:Zb):St:=
 ⟨mkSl 62 [(0,sP 0 0)],[],[some [.ro [.sc] (p0.code.map (rI .u8)),cI p0.at_,.lit (.int .u64 p0.seed)]]⟩
def K_Sl_24:List Fr:=[]
def s_Sl_24 (p1 a:Int) (b:LI) (c d:Int):St:=
 ⟨mkSl 27 [(0,sP 0 0),(1,sI p1),(5,sI a)],[],[some [.ro [.sc] (b.map (rI .u8)),cI c,.lit (.int .u64 d)]]⟩
def K_Sl_18:List Fr:=[]
def s_Sl_18 (p1 a:Int) (b:LI) (c d:Int):St:=
 ⟨mkSl 27 [(0,sP 0 0),(1,sI p1),(5,sI a)],[],[some [.ro [.sc] (b.map (rI .u8)),cI c,.lit (.int .u64 d)]]⟩
def K_Sl_0:List Fr:=[]
def s_Sl_0 (p1:Int) (p0:Zb):St:=
 ⟨mkSl 27 [(0,sP 0 0),(1,sI p1)],[],[some [.ro [.sc] (p0.code.map (rI .u8)),cI p0.at_,.lit (.int .u64 p0.seed)]]⟩
def K_Sm_21:List Fr:=[]
def s_Sm_21 (b:LI) (c d:Int) (a:LI):St:=
 ⟨mkSl 23 [(0,sP 0 0),(5,.v false [cR 0 a])],[some ⟨[.sc],(List.map (rI .u8) a)⟩],[some [.ro [.sc] (b.map (rI .u8)),cI c,.lit (.int .u64 d)]]⟩
def K_Sm_9:List Fr:=[.lp [0,5,10,11] c_Sm_9,.bk 0,.sq (.kp [0,5] c_Sm_21)]
def s_Sm_9 (b c:Int) (d:LI) (e f:Int) (a:LI):St:=
 ⟨mkSl 23 [(0,sP 0 0),(5,.v false [cR 0 a]),(10,sI b),(11,sI c)],[some ⟨[.sc],(List.map (rI .u8) a)⟩],[some [.ro [.sc] (d.map (rI .u8)),cI e,.lit (.int .u64 f)]]⟩
def K_Sm_0:List Fr:=[]
def s_Sm_0 (p1:Int) (p0:Zb):St:=
 ⟨mkSl 23 [(0,sP 0 0),(1,sI p1)],[],[some [.ro [.sc] (p0.code.map (rI .u8)),cI p0.at_,.lit (.int .u64 p0.seed)]]⟩
def K_Sf_23:List Fr:=[]
def s_Sf_23:St:=
 ⟨mkSl 17 [],[],[]⟩
def K_Sf_7:List Fr:=[.lp [0,3] c_Sf_7,.bk 0,.sq (.kp [] c_Sf_23)]
def s_Sf_7 (p0:ByteArray) (a:Int):St:=
 ⟨mkSl 17 [(0,.v false [.lit (.string p0)]),(3,sI a)],[],[]⟩
def K_Sf_0:List Fr:=[]
def s_Sf_0 (p0:ByteArray):St:=
 ⟨mkSl 17 [(0,.v false [.lit (.string p0)])],[],[]⟩
def K_Si_44:List Fr:=[.bk 1,.sq c_Si_45,.lp [0,1,5,6,7] c_Si_11,.bk 0,.sq (.kp [0,5] c_Si_46)]
def s_Si_44 (p1 c:Int) (a:LZ) (d:Int) (e:LI) (f g h i:Int) (b:(List ByteArray)):St:=
 ⟨mkSl 70 [(0,sP 0 0),(1,sI p1),(5,.v false [cR 0 a]),(6,sI d),(7,sI c),(8,sP 1 0)],[some ⟨[.sc,.sc,.own [.sc]],(List.map rZa a)⟩,some ⟨[.sc],(List.map rS b)⟩],[some [.ro [.sc] (e.map (rI .u8)),cI f,.lit (.int .u64 g)],some [cI h,cI i,cR 1 b]]⟩
def K_Si_28:List Fr:=[.lp [0,1,5,6,7,8,9] c_Si_28,.bk 2,.sq (.kp [0,1,5,6,7,8] c_Si_44),.bk 1,.sq c_Si_45,.lp [0,1,5,6,7] c_Si_11,.bk 0,.sq (.kp [0,5] c_Si_46)]
def s_Si_28 (p1 c:Int) (a:LZ) (d e:Int) (f:LI) (g h i j:Int) (b:(List ByteArray)):St:=
 ⟨mkSl 70 [(0,sP 0 0),(1,sI p1),(5,.v false [cR 0 a]),(6,sI d),(7,sI c),(8,sP 1 0),(9,sI e)],[some ⟨[.sc,.sc,.own [.sc]],(List.map rZa a)⟩,some ⟨[.sc],(List.map rS b)⟩],[some [.ro [.sc] (f.map (rI .u8)),cI g,.lit (.int .u64 h)],some [cI i,cI j,cR 1 b]]⟩
def K_Si_46:List Fr:=[]
def s_Si_46 (b:LI) (c d:Int) (a:LZ):St:=
 ⟨mkSl 70 [(0,sP 0 0),(5,.v false [cR 0 a])],[some ⟨[.sc,.sc,.own [.sc]],(List.map rZa a)⟩],[some [.ro [.sc] (b.map (rI .u8)),cI c,.lit (.int .u64 d)]]⟩
def K_Si_11:List Fr:=[.lp [0,1,5,6,7] c_Si_11,.bk 0,.sq (.kp [0,5] c_Si_46)]
def s_Si_11 (p1 b c:Int) (d:LI) (e f:Int) (a:LZ):St:=
 ⟨mkSl 70 [(0,sP 0 0),(1,sI p1),(5,.v false [cR 0 a]),(6,sI b),(7,sI c)],[some ⟨[.sc,.sc,.own [.sc]],(List.map rZa a)⟩],[some [.ro [.sc] (d.map (rI .u8)),cI e,.lit (.int .u64 f)]]⟩
def K_Si_0:List Fr:=[]
def s_Si_0 (p1:Int) (p0:Zb):St:=
 ⟨mkSl 70 [(0,sP 0 0),(1,sI p1)],[],[some [.ro [.sc] (p0.code.map (rI .u8)),cI p0.at_,.lit (.int .u64 p0.seed)]]⟩
def K_Sk_0:List Fr:=[]
def s_Sk_0 (p1:Int) (p0:Zb):St:=
 ⟨mkSl 9 [(0,sP 0 0),(1,sI p1)],[],[some [.ro [.sc] (p0.code.map (rI .u8)),cI p0.at_,.lit (.int .u64 p0.seed)]]⟩
def K_Se_43:List Fr:=[.sq c_Se_45]
def s_Se_43 (b:LI) (c d e f:Int) (g:(List ByteArray)) (a:LZ):St:=
 ⟨mkSl 78 [(4,sP 0 0),(5,.v false [cR 0 a]),(6,sP 1 0)],[some ⟨[.sc,.sc,.ro [.sc]],(List.map rZa a)⟩],[some [.ro [.sc] (b.map (rI .u8)),cI c,.lit (.int .u64 d)],some [cI e,cI f,.ro [.sc] (g.map rS)]]⟩
def K_Se_15:List Fr:=[.sq c_Se_45]
def s_Se_15 (a:Bool×Zb) (b:LZ) (c:Bool):St:=
 ⟨mkSl 78 [(4,sP 0 0),(5,.v false [cR 0 b]),(27,sB c)],[some ⟨[.sc,.sc,.own [.sc]],(List.map rZa b)⟩],[some [.ro [.sc] (a.2.code.map (rI .u8)),cI a.2.at_,.lit (.int .u64 a.2.seed)]]⟩
def K_Se_12:List Fr:=[]
def s_Se_12 (b:LI) (c d:Int) (a:LZ):St:=
 ⟨mkSl 78 [(4,sP 0 0),(5,.v false [cR 0 a])],[some ⟨[.sc,.sc,.own [.sc]],(List.map rZa a)⟩],[some [.ro [.sc] (b.map (rI .u8)),cI c,.lit (.int .u64 d)]]⟩
def K_Se_0:List Fr:=[]
def s_Se_0 (p0:LI):St:=
 ⟨mkSl 78 [(0,.v false [.ro [.sc] (p0.map (rI .u8))])],[],[]⟩
def K_Sa_12:List Fr:=[]
def s_Sa_12 (a:LZ×Zb) (b:Int):St:=
 ⟨mkSl 24 [(4,.v false [cR 0 a.1]),(6,sI b)],[some ⟨[.sc,.sc,.ro [.sc]],(List.map rZa a.1)⟩],[]⟩
def K_Sa_0:List Fr:=[]
def s_Sa_0 (p0:LI):St:=
 ⟨mkSl 24 [(0,.v false [.ro [.sc] (p0.map (rI .u8))])],[],[]⟩
def K_Ie_0:List Fr:=[]
def s_Ie_0 (p0:Int):St:=
 ⟨mkSl 9 [(0,sI p0)],[],[]⟩
def K_Id_25:List Fr:=[]
def s_Id_25 (p0:ByteArray):St:=
 ⟨mkSl 25 [(0,.v false [.lit (.string p0)])],[],[]⟩
def K_Id_7:List Fr:=[.lp [0,5,6] c_Id_7,.bk 0,.sq (.kp [0] c_Id_25)]
def s_Id_7 (p0:ByteArray) (a:Int):St:=
 ⟨mkSl 25 [(0,.v false [.lit (.string p0)]),(5,sI (p0.size:Int)),(6,sI a)],[],[]⟩
def K_Id_0:List Fr:=[]
def s_Id_0 (p0:ByteArray):St:=
 ⟨mkSl 25 [(0,.v false [.lit (.string p0)])],[],[]⟩
def K_Ic_33:List Fr:=[]
def s_Ic_33:St:=
 ⟨mkSl 38 [],[],[]⟩
def K_Ic_15:List Fr:=[.lp [16,17,18] c_Ic_15,.bk 0,.sq (.kp [] c_Ic_33)]
def s_Ic_15 (p0:Za) (a:Int):St:=
 ⟨mkSl 38 [(16,.v false [.ro [.sc] (p0.lines.map rS)]),(17,sI (p0.lines.length:Int)),(18,sI a)],[],[]⟩
def K_Ic_0:List Fr:=[]
def s_Ic_0 (p0:Za):St:=
 ⟨mkSl 38 [(0,.v true [cI p0.from_,cI p0.to_,.ro [.sc] (p0.lines.map rS)])],[],[]⟩
def K_Ia_33:List Fr:=[]
def s_Ia_33:St:=
 ⟨mkSl 53 [],[],[]⟩
def K_Ia_15:List Fr:=[.lp [0,8,9,10] c_Ia_15,.bk 0,.sq (.kp [] c_Ia_33)]
def s_Ia_15 (p0:LZ) (a:Int):St:=
 ⟨mkSl 53 [(0,.v false [.ro [.sc,.sc,.ro [.sc]] (p0.map rZa)]),(8,.v false [.ro [.sc,.sc,.ro [.sc]] (p0.map rZa)]),(9,sI (p0.length:Int)),(10,sI a)],[],[]⟩
def K_Ia_0:List Fr:=[]
def s_Ia_0 (p0:LZ):St:=
 ⟨mkSl 53 [(0,.v false [.ro [.sc,.sc,.ro [.sc]] (p0.map rZa)])],[],[]⟩
def K_Ib_64:List Fr:=[.lp [0,1,5,7,8,26,27,28,35,36] c_Ib_34,.bk 2,.sq (.kp [0,1,5,7,8,26,27,28] c_Ib_65),.bk 1,.sq c_Ib_106,.lp [0,1,5,26,27,28] c_Ib_17,.bk 0,.sq (.kp [5] c_Ib_107)]
def s_Ib_64 (p0:LZ) (p1 b e:Int) (a:Za) (c:LI) (d:LB):St:=
 ⟨mkSl 121 [(0,.v false [.ro [.sc,.sc,.ro [.sc]] (p0.map rZa)]),(1,sI p1),(5,.v false [cR 0 c]),(7,sP 0 0),(8,.v false [cR 1 d]),(26,.v false [.ro [.sc,.sc,.ro [.sc]] (p0.map rZa)]),(27,sI (p0.length:Int)),(28,sI b),(35,sI b),(36,sI e)],[jI c,jB d],[some [cI a.from_,cI a.to_,.ro [.sc] (a.lines.map rS)]]⟩
def K_Ib_51:List Fr:=[.lp [0,1,5,7,8,9,26,27,28,35,36,69,70] c_Ib_51,.bk 4,.bk 3,.sq (.kp [0,1,5,7,8,26,27,28,35,36] c_Ib_64),.lp [0,1,5,7,8,26,27,28,35,36] c_Ib_34,.bk 2,.sq (.kp [0,1,5,7,8,26,27,28] c_Ib_65),.bk 1,.sq c_Ib_106,.lp [0,1,5,26,27,28] c_Ib_17,.bk 0,.sq (.kp [5] c_Ib_107)]
def s_Ib_51 (p0:LZ) (p1 b c:Int) (f a:Za) (d:LI) (g:Int) (e:LB):St:=
 ⟨mkSl 121 [(0,.v false [.ro [.sc,.sc,.ro [.sc]] (p0.map rZa)]),(1,sI p1),(5,.v false [cR 0 d]),(7,sP 0 0),(8,.v false [cR 1 e]),(9,sI b),(26,.v false [.ro [.sc,.sc,.ro [.sc]] (p0.map rZa)]),(27,sI (p0.length:Int)),(28,sI c),(35,sI c),(36,sI b),(69,sI (f.lines.length:Int)),(70,sI g)],[jI d,jB e],[some [cI a.from_,cI a.to_,.ro [.sc] (a.lines.map rS)]]⟩
def K_Ib_46:List Fr:=[.bk 3,.sq (.kp [0,1,5,7,8,26,27,28,35,36] c_Ib_64),.lp [0,1,5,7,8,26,27,28,35,36] c_Ib_34,.bk 2,.sq (.kp [0,1,5,7,8,26,27,28] c_Ib_65),.bk 1,.sq c_Ib_106,.lp [0,1,5,26,27,28] c_Ib_17,.bk 0,.sq (.kp [5] c_Ib_107)]
def s_Ib_46 (p0:LZ) (p1 b c:Int) (a:Za) (d:LI) (e:LB) (f:Bool):St:=
 ⟨mkSl 121 [(0,.v false [.ro [.sc,.sc,.ro [.sc]] (p0.map rZa)]),(1,sI p1),(5,.v false [cR 0 d]),(7,sP 0 0),(8,.v false [cR 1 e]),(9,sI b),(26,.v false [.ro [.sc,.sc,.ro [.sc]] (p0.map rZa)]),(27,sI (p0.length:Int)),(28,sI c),(35,sI c),(36,sI b),(63,sB f)],[jI d,jB e],[some [cI a.from_,cI a.to_,.ro [.sc] (a.lines.map rS)]]⟩
def K_Ib_99:List Fr:=[.bk 7,.sq c_Ib_104,.lp [0,1,5,7,8,11,12,26,27,28] c_Ib_72,.bk 6,.sq (.kp [0,1,5,11,26,27,28] c_Ib_105),.bk 1,.sq c_Ib_106,.lp [0,1,5,26,27,28] c_Ib_17,.bk 0,.sq (.kp [5] c_Ib_107)]
def s_Ib_99 (p0:LZ) (p1 d e f:Int) (a:Za) (b:LI) (c:LB) (g:Bool):St:=
 ⟨mkSl 121 [(0,.v false [.ro [.sc,.sc,.ro [.sc]] (p0.map rZa)]),(1,sI p1),(5,.v false [cR 0 b]),(7,sP 0 0),(8,.v false [cR 1 c]),(11,sI d),(12,sI e),(13,sB g),(26,.v false [.ro [.sc,.sc,.ro [.sc]] (p0.map rZa)]),(27,sI (p0.length:Int)),(28,sI f)],[jI b,jB c],[some [cI a.from_,cI a.to_,.ro [.sc] (a.lines.map rS)]]⟩
def K_Ib_87:List Fr:=[.lp [0,1,5,7,8,11,12,13,26,27,28,98,99] c_Ib_87,.bk 8,.sq (.kp [0,1,5,7,8,11,12,13,26,27,28] c_Ib_99),.bk 7,.sq c_Ib_104,.lp [0,1,5,7,8,11,12,26,27,28] c_Ib_72,.bk 6,.sq (.kp [0,1,5,11,26,27,28] c_Ib_105),.bk 1,.sq c_Ib_106,.lp [0,1,5,26,27,28] c_Ib_17,.bk 0,.sq (.kp [5] c_Ib_107)]
def s_Ib_87 (p0:LZ) (p1 d e f:Int) (a:Za) (b:LI) (c:LB) (g:Bool) (h:Int):St:=
 ⟨mkSl 121 [(0,.v false [.ro [.sc,.sc,.ro [.sc]] (p0.map rZa)]),(1,sI p1),(5,.v false [cR 0 b]),(7,sP 0 0),(8,.v false [cR 1 c]),(11,sI d),(12,sI e),(13,sB g),(26,.v false [.ro [.sc,.sc,.ro [.sc]] (p0.map rZa)]),(27,sI (p0.length:Int)),(28,sI f),(98,sI (a.lines.length:Int)),(99,sI h)],[jI b,jB c],[some [cI a.from_,cI a.to_,.ro [.sc] (a.lines.map rS)]]⟩
def K_Ib_105:List Fr:=[.bk 1,.sq c_Ib_106,.lp [0,1,5,26,27,28] c_Ib_17,.bk 0,.sq (.kp [5] c_Ib_107)]
def s_Ib_105 (p0:LZ) (p1 b:Int) (a:LI) (c:Int):St:=
 ⟨mkSl 121 [(0,.v false [.ro [.sc,.sc,.ro [.sc]] (p0.map rZa)]),(1,sI p1),(5,.v false [cR 0 a]),(11,sI c),(26,.v false [.ro [.sc,.sc,.ro [.sc]] (p0.map rZa)]),(27,sI (p0.length:Int)),(28,sI b)],[jI a],[]⟩
def K_Ib_72:List Fr:=[.lp [0,1,5,7,8,11,12,26,27,28] c_Ib_72,.bk 6,.sq (.kp [0,1,5,11,26,27,28] c_Ib_105),.bk 1,.sq c_Ib_106,.lp [0,1,5,26,27,28] c_Ib_17,.bk 0,.sq (.kp [5] c_Ib_107)]
def s_Ib_72 (p0:LZ) (p1 d:Int) (a:Za) (b:LI) (c:LB) (e f:Int):St:=
 ⟨mkSl 121 [(0,.v false [.ro [.sc,.sc,.ro [.sc]] (p0.map rZa)]),(1,sI p1),(5,.v false [cR 0 b]),(7,sP 0 0),(8,.v false [cR 1 c]),(11,sI e),(12,sI f),(26,.v false [.ro [.sc,.sc,.ro [.sc]] (p0.map rZa)]),(27,sI (p0.length:Int)),(28,sI d)],[jI b,jB c],[some [cI a.from_,cI a.to_,.ro [.sc] (a.lines.map rS)]]⟩
def K_Ib_65:List Fr:=[.bk 1,.sq c_Ib_106,.lp [0,1,5,26,27,28] c_Ib_17,.bk 0,.sq (.kp [5] c_Ib_107)]
def s_Ib_65 (p0:LZ) (p1 d:Int) (a:Za) (b:LI) (c:LB):St:=
 ⟨mkSl 121 [(0,.v false [.ro [.sc,.sc,.ro [.sc]] (p0.map rZa)]),(1,sI p1),(5,.v false [cR 0 b]),(7,sP 0 0),(8,.v false [cR 1 c]),(26,.v false [.ro [.sc,.sc,.ro [.sc]] (p0.map rZa)]),(27,sI (p0.length:Int)),(28,sI d)],[jI b,jB c],[some [cI a.from_,cI a.to_,.ro [.sc] (a.lines.map rS)]]⟩
def K_Ib_34:List Fr:=[.lp [0,1,5,7,8,26,27,28,35,36] c_Ib_34,.bk 2,.sq (.kp [0,1,5,7,8,26,27,28] c_Ib_65),.bk 1,.sq c_Ib_106,.lp [0,1,5,26,27,28] c_Ib_17,.bk 0,.sq (.kp [5] c_Ib_107)]
def s_Ib_34 (p0:LZ) (p1 b:Int) (a:Za) (c:LI) (e:Int) (d:LB):St:=
 ⟨mkSl 121 [(0,.v false [.ro [.sc,.sc,.ro [.sc]] (p0.map rZa)]),(1,sI p1),(5,.v false [cR 0 c]),(7,sP 0 0),(8,.v false [cR 1 d]),(26,.v false [.ro [.sc,.sc,.ro [.sc]] (p0.map rZa)]),(27,sI (p0.length:Int)),(28,sI b),(35,sI b),(36,sI e)],[jI c,jB d],[some [cI a.from_,cI a.to_,.ro [.sc] (a.lines.map rS)]]⟩
def K_Ib_107:List Fr:=[]
def s_Ib_107 (a:LI):St:=
 ⟨mkSl 121 [(5,.v false [cR 0 a])],[jI a],[]⟩
def K_Ib_17:List Fr:=[.lp [0,1,5,26,27,28] c_Ib_17,.bk 0,.sq (.kp [5] c_Ib_107)]
def s_Ib_17 (p0:LZ) (p1 b:Int) (a:LI):St:=
 ⟨mkSl 121 [(0,.v false [.ro [.sc,.sc,.ro [.sc]] (p0.map rZa)]),(1,sI p1),(5,.v false [cR 0 a]),(26,.v false [.ro [.sc,.sc,.ro [.sc]] (p0.map rZa)]),(27,sI (p0.length:Int)),(28,sI b)],[jI a],[]⟩
def K_Ib_0:List Fr:=[]
def s_Ib_0 (p0:LZ) (p1:Int):St:=
 ⟨mkSl 121 [(0,.v false [.ro [.sc,.sc,.ro [.sc]] (p0.map rZa)]),(1,sI p1)],[],[]⟩
def K_Sh_0:List Fr:=[]
def s_Sh_0 (p0:Int):St:=
 ⟨mkSl 9 [(0,sI p0)],[],[]⟩
def K_Sd_23:List Fr:=[]
def s_Sd_23:St:=
 ⟨mkSl 20 [],[],[]⟩
def K_Sd_7:List Fr:=[.lp [0,3] c_Sd_7,.bk 0,.sq (.kp [] c_Sd_23)]
def s_Sd_7 (p0:ByteArray) (a:Int):St:=
 ⟨mkSl 20 [(0,.v false [.lit (.string p0)]),(3,sI a)],[],[]⟩
def K_Sd_0:List Fr:=[]
def s_Sd_0 (p0:ByteArray):St:=
 ⟨mkSl 20 [(0,.v false [.lit (.string p0)])],[],[]⟩
def K_Sg_25:List Fr:=[]
def s_Sg_25 (p0:(List ByteArray)):St:=
 ⟨mkSl 45 [(0,.v false [.ro [.sc] (p0.map rS)])],[],[]⟩
def K_Sg_7:List Fr:=[.lp [0,5,6,7] c_Sg_7,.bk 0,.sq (.kp [0] c_Sg_25)]
def s_Sg_7 (p0:(List ByteArray)) (a:Int):St:=
 ⟨mkSl 45 [(0,.v false [.ro [.sc] (p0.map rS)]),(5,.v false [.ro [.sc] (p0.map rS)]),(6,sI (p0.length:Int)),(7,sI a)],[],[]⟩
def K_Sg_0:List Fr:=[]
def s_Sg_0 (p0:(List ByteArray)):St:=
 ⟨mkSl 45 [(0,.v false [.ro [.sc] (p0.map rS)])],[],[]⟩
def K_Sb_33:List Fr:=[]
def s_Sb_33:St:=
 ⟨mkSl 54 [],[],[]⟩
def K_Sb_15:List Fr:=[.lp [0,8,9,10] c_Sb_15,.bk 0,.sq (.kp [] c_Sb_33)]
def s_Sb_15 (p0:LZ) (a:Int):St:=
 ⟨mkSl 54 [(0,.v false [.ro [.sc,.sc,.ro [.sc]] (p0.map rZa)]),(8,.v false [.ro [.sc,.sc,.ro [.sc]] (p0.map rZa)]),(9,sI (p0.length:Int)),(10,sI a)],[],[]⟩
def K_Sb_0:List Fr:=[]
def s_Sb_0 (p0:LZ):St:=
 ⟨mkSl 54 [(0,.v false [.ro [.sc,.sc,.ro [.sc]] (p0.map rZa)])],[],[]⟩
def K_Sc_62:List Fr:=[.lp [0,1,5,6,7,8,9,26,27,28] c_Sc_34,.bk 2,.sq (.kp [0,1,5,7,8,26,27,28] c_Sc_63),.bk 1,.sq c_Sc_104,.lp [0,1,5,26,27,28] c_Sc_17,.bk 0,.sq (.kp [5] c_Sc_105)]
def s_Sc_62 (p0:LZ) (p1 b e:Int) (a:Za) (c:LI) (d:LB):St:=
 ⟨mkSl 117 [(0,.v false [.ro [.sc,.sc,.ro [.sc]] (p0.map rZa)]),(1,sI p1),(5,.v false [cR 0 c]),(6,sI b),(7,sP 0 0),(8,.v false [cR 1 d]),(9,sI e),(26,.v false [.ro [.sc,.sc,.ro [.sc]] (p0.map rZa)]),(27,sI (p0.length:Int)),(28,sI b)],[jI c,jB d],[some [cI a.from_,cI a.to_,.ro [.sc] (a.lines.map rS)]]⟩
def K_Sc_49:List Fr:=[.lp [0,1,5,6,7,8,9,26,27,28,70,71] c_Sc_49,.bk 4,.bk 3,.sq (.kp [0,1,5,6,7,8,9,26,27,28] c_Sc_62),.lp [0,1,5,6,7,8,9,26,27,28] c_Sc_34,.bk 2,.sq (.kp [0,1,5,7,8,26,27,28] c_Sc_63),.bk 1,.sq c_Sc_104,.lp [0,1,5,26,27,28] c_Sc_17,.bk 0,.sq (.kp [5] c_Sc_105)]
def s_Sc_49 (p0:LZ) (p1 b e:Int) (f a:Za) (c:LI) (g:Int) (d:LB):St:=
 ⟨mkSl 117 [(0,.v false [.ro [.sc,.sc,.ro [.sc]] (p0.map rZa)]),(1,sI p1),(5,.v false [cR 0 c]),(6,sI b),(7,sP 0 0),(8,.v false [cR 1 d]),(9,sI e),(26,.v false [.ro [.sc,.sc,.ro [.sc]] (p0.map rZa)]),(27,sI (p0.length:Int)),(28,sI b),(70,sI (f.lines.length:Int)),(71,sI g)],[jI c,jB d],[some [cI a.from_,cI a.to_,.ro [.sc] (a.lines.map rS)]]⟩
def K_Sc_44:List Fr:=[.bk 3,.sq (.kp [0,1,5,6,7,8,9,26,27,28] c_Sc_62),.lp [0,1,5,6,7,8,9,26,27,28] c_Sc_34,.bk 2,.sq (.kp [0,1,5,7,8,26,27,28] c_Sc_63),.bk 1,.sq c_Sc_104,.lp [0,1,5,26,27,28] c_Sc_17,.bk 0,.sq (.kp [5] c_Sc_105)]
def s_Sc_44 (p0:LZ) (p1 b e:Int) (a:Za) (c:LI) (d:LB) (f:Bool):St:=
 ⟨mkSl 117 [(0,.v false [.ro [.sc,.sc,.ro [.sc]] (p0.map rZa)]),(1,sI p1),(5,.v false [cR 0 c]),(6,sI b),(7,sP 0 0),(8,.v false [cR 1 d]),(9,sI e),(26,.v false [.ro [.sc,.sc,.ro [.sc]] (p0.map rZa)]),(27,sI (p0.length:Int)),(28,sI b),(64,sB f)],[jI c,jB d],[some [cI a.from_,cI a.to_,.ro [.sc] (a.lines.map rS)]]⟩
def K_Sc_97:List Fr:=[.bk 7,.sq c_Sc_102,.lp [0,1,5,7,8,11,12,26,27,28] c_Sc_70,.bk 6,.sq (.kp [0,1,5,11,26,27,28] c_Sc_103),.bk 1,.sq c_Sc_104,.lp [0,1,5,26,27,28] c_Sc_17,.bk 0,.sq (.kp [5] c_Sc_105)]
def s_Sc_97 (p0:LZ) (p1 d e f:Int) (a:Za) (b:LI) (c:LB) (g:Bool):St:=
 ⟨mkSl 117 [(0,.v false [.ro [.sc,.sc,.ro [.sc]] (p0.map rZa)]),(1,sI p1),(5,.v false [cR 0 b]),(7,sP 0 0),(8,.v false [cR 1 c]),(11,sI d),(12,sI e),(13,sB g),(26,.v false [.ro [.sc,.sc,.ro [.sc]] (p0.map rZa)]),(27,sI (p0.length:Int)),(28,sI f)],[jI b,jB c],[some [cI a.from_,cI a.to_,.ro [.sc] (a.lines.map rS)]]⟩
def K_Sc_85:List Fr:=[.lp [0,1,5,7,8,11,12,13,26,27,28,94,95] c_Sc_85,.bk 8,.sq (.kp [0,1,5,7,8,11,12,13,26,27,28] c_Sc_97),.bk 7,.sq c_Sc_102,.lp [0,1,5,7,8,11,12,26,27,28] c_Sc_70,.bk 6,.sq (.kp [0,1,5,11,26,27,28] c_Sc_103),.bk 1,.sq c_Sc_104,.lp [0,1,5,26,27,28] c_Sc_17,.bk 0,.sq (.kp [5] c_Sc_105)]
def s_Sc_85 (p0:LZ) (p1 d e f:Int) (a:Za) (b:LI) (c:LB) (g:Bool) (h:Int):St:=
 ⟨mkSl 117 [(0,.v false [.ro [.sc,.sc,.ro [.sc]] (p0.map rZa)]),(1,sI p1),(5,.v false [cR 0 b]),(7,sP 0 0),(8,.v false [cR 1 c]),(11,sI d),(12,sI e),(13,sB g),(26,.v false [.ro [.sc,.sc,.ro [.sc]] (p0.map rZa)]),(27,sI (p0.length:Int)),(28,sI f),(94,sI (a.lines.length:Int)),(95,sI h)],[jI b,jB c],[some [cI a.from_,cI a.to_,.ro [.sc] (a.lines.map rS)]]⟩
def K_Sc_103:List Fr:=[.bk 1,.sq c_Sc_104,.lp [0,1,5,26,27,28] c_Sc_17,.bk 0,.sq (.kp [5] c_Sc_105)]
def s_Sc_103 (p0:LZ) (p1 b:Int) (a:LI) (c:Int):St:=
 ⟨mkSl 117 [(0,.v false [.ro [.sc,.sc,.ro [.sc]] (p0.map rZa)]),(1,sI p1),(5,.v false [cR 0 a]),(11,sI c),(26,.v false [.ro [.sc,.sc,.ro [.sc]] (p0.map rZa)]),(27,sI (p0.length:Int)),(28,sI b)],[jI a],[]⟩
def K_Sc_70:List Fr:=[.lp [0,1,5,7,8,11,12,26,27,28] c_Sc_70,.bk 6,.sq (.kp [0,1,5,11,26,27,28] c_Sc_103),.bk 1,.sq c_Sc_104,.lp [0,1,5,26,27,28] c_Sc_17,.bk 0,.sq (.kp [5] c_Sc_105)]
def s_Sc_70 (p0:LZ) (p1 d:Int) (a:Za) (b:LI) (c:LB) (e f:Int):St:=
 ⟨mkSl 117 [(0,.v false [.ro [.sc,.sc,.ro [.sc]] (p0.map rZa)]),(1,sI p1),(5,.v false [cR 0 b]),(7,sP 0 0),(8,.v false [cR 1 c]),(11,sI e),(12,sI f),(26,.v false [.ro [.sc,.sc,.ro [.sc]] (p0.map rZa)]),(27,sI (p0.length:Int)),(28,sI d)],[jI b,jB c],[some [cI a.from_,cI a.to_,.ro [.sc] (a.lines.map rS)]]⟩
def K_Sc_63:List Fr:=[.bk 1,.sq c_Sc_104,.lp [0,1,5,26,27,28] c_Sc_17,.bk 0,.sq (.kp [5] c_Sc_105)]
def s_Sc_63 (p0:LZ) (p1 d:Int) (a:Za) (b:LI) (c:LB):St:=
 ⟨mkSl 117 [(0,.v false [.ro [.sc,.sc,.ro [.sc]] (p0.map rZa)]),(1,sI p1),(5,.v false [cR 0 b]),(7,sP 0 0),(8,.v false [cR 1 c]),(26,.v false [.ro [.sc,.sc,.ro [.sc]] (p0.map rZa)]),(27,sI (p0.length:Int)),(28,sI d)],[jI b,jB c],[some [cI a.from_,cI a.to_,.ro [.sc] (a.lines.map rS)]]⟩
def K_Sc_34:List Fr:=[.lp [0,1,5,6,7,8,9,26,27,28] c_Sc_34,.bk 2,.sq (.kp [0,1,5,7,8,26,27,28] c_Sc_63),.bk 1,.sq c_Sc_104,.lp [0,1,5,26,27,28] c_Sc_17,.bk 0,.sq (.kp [5] c_Sc_105)]
def s_Sc_34 (p0:LZ) (p1 b:Int) (a:Za) (c:LI) (e:Int) (d:LB):St:=
 ⟨mkSl 117 [(0,.v false [.ro [.sc,.sc,.ro [.sc]] (p0.map rZa)]),(1,sI p1),(5,.v false [cR 0 c]),(6,sI b),(7,sP 0 0),(8,.v false [cR 1 d]),(9,sI e),(26,.v false [.ro [.sc,.sc,.ro [.sc]] (p0.map rZa)]),(27,sI (p0.length:Int)),(28,sI b)],[jI c,jB d],[some [cI a.from_,cI a.to_,.ro [.sc] (a.lines.map rS)]]⟩
def K_Sc_105:List Fr:=[]
def s_Sc_105 (a:LI):St:=
 ⟨mkSl 117 [(5,.v false [cR 0 a])],[jI a],[]⟩
def K_Sc_17:List Fr:=[.lp [0,1,5,26,27,28] c_Sc_17,.bk 0,.sq (.kp [5] c_Sc_105)]
def s_Sc_17 (p0:LZ) (p1 b:Int) (a:LI):St:=
 ⟨mkSl 117 [(0,.v false [.ro [.sc,.sc,.ro [.sc]] (p0.map rZa)]),(1,sI p1),(5,.v false [cR 0 a]),(26,.v false [.ro [.sc,.sc,.ro [.sc]] (p0.map rZa)]),(27,sI (p0.length:Int)),(28,sI b)],[jI a],[]⟩
def K_Sc_0:List Fr:=[]
def s_Sc_0 (p0:LZ) (p1:Int):St:=
 ⟨mkSl 117 [(0,.v false [.ro [.sc,.sc,.ro [.sc]] (p0.map rZa)]),(1,sI p1)],[],[]⟩
def K_La_33:List Fr:=[]
def s_La_33:St:=
 ⟨mkSl 26 [],[],[]⟩
def K_La_15:List Fr:=[.lp [0,1,12,13] c_La_15,.bk 0,.sq (.kp [] c_La_33)]
def s_La_15 (p0 p1:LI) (a:Int):St:=
 ⟨mkSl 26 [(0,.v false [.ro [.sc] (p0.map (rI .i64))]),(1,.v false [.ro [.sc] (p1.map (rI .i64))]),(12,sI (p0.length:Int)),(13,sI a)],[],[]⟩
def K_La_0:List Fr:=[]
def s_La_0 (p0 p1:LI):St:=
 ⟨mkSl 26 [(0,.v false [.ro [.sc] (p0.map (rI .i64))]),(1,.v false [.ro [.sc] (p1.map (rI .i64))])],[],[]⟩
def K_laws_FnRoomy_81:List Fr:=[.lp [3,4,5,34,35] c_laws_FnRoomy_35,.bk 0,.sq (.kp [3] c_laws_FnRoomy_82)]
def s_laws_FnRoomy_81 (a:LZ×Int) (c:Int) (b:LI):St:=
 ⟨mkSl 145 [(3,.v false [cR 0 a.1]),(4,sI a.2),(5,.v false [cR 1 b]),(34,sI (a.1.length:Int)),(35,sI c)],[some ⟨[.sc,.sc,.ro [.sc]],(List.map rZa a.1)⟩,jI b],[]⟩
def K_laws_FnRoomy_73:List Fr:=[.bk 3,.sq c_laws_FnRoomy_80,.lp [3,4,5,6,7,34,35] c_laws_FnRoomy_63,.bk 2,.bk 1,.sq (.kp [3,4,5,34,35] c_laws_FnRoomy_81),.lp [3,4,5,34,35] c_laws_FnRoomy_35,.bk 0,.sq (.kp [3] c_laws_FnRoomy_82)]
def s_laws_FnRoomy_73 (a:LZ×Int) (b d:Int) (c:LI) (e:Bool):St:=
 ⟨mkSl 145 [(3,.v false [cR 0 a.1]),(4,sI a.2),(5,.v false [cR 1 c]),(6,sI b),(7,sI d),(8,sB e),(34,sI (a.1.length:Int)),(35,sI b)],[some ⟨[.sc,.sc,.ro [.sc]],(List.map rZa a.1)⟩,jI c],[]⟩
def K_laws_FnRoomy_63:List Fr:=[.lp [3,4,5,6,7,34,35] c_laws_FnRoomy_63,.bk 2,.bk 1,.sq (.kp [3,4,5,34,35] c_laws_FnRoomy_81),.lp [3,4,5,34,35] c_laws_FnRoomy_35,.bk 0,.sq (.kp [3] c_laws_FnRoomy_82)]
def s_laws_FnRoomy_63 (a:LZ×Int) (b:Int) (c:LI) (d:Int):St:=
 ⟨mkSl 145 [(3,.v false [cR 0 a.1]),(4,sI a.2),(5,.v false [cR 1 c]),(6,sI b),(7,sI d),(34,sI (a.1.length:Int)),(35,sI b)],[some ⟨[.sc,.sc,.ro [.sc]],(List.map rZa a.1)⟩,jI c],[]⟩
def K_laws_FnRoomy_132:List Fr:=[]
def s_laws_FnRoomy_132:St:=
 ⟨mkSl 145 [],[],[]⟩
def K_laws_FnRoomy_114:List Fr:=[.lp [136,137,138] c_laws_FnRoomy_114,.bk 6,.sq (.kp [] c_laws_FnRoomy_132)]
def s_laws_FnRoomy_114 (a:LI) (b:Int):St:=
 ⟨mkSl 145 [(136,.v false [cR 0 a]),(137,sI (a.length:Int)),(138,sI b)],[jI a],[]⟩
def K_laws_FnRoomy_101:List Fr:=[]
def s_laws_FnRoomy_101 (a:LZ×Int) (b:Int):St:=
 ⟨mkSl 145 [(3,.v false [cR 0 a.1]),(9,sI b)],[some ⟨[.sc,.sc,.ro [.sc]],(List.map rZa a.1)⟩],[]⟩
def K_laws_FnRoomy_89:List Fr:=[.lp [3,9,119,120] c_laws_FnRoomy_89,.bk 4,.sq (.kp [3,9] c_laws_FnRoomy_101)]
def s_laws_FnRoomy_89 (a:LZ×Int) (b c:Int):St:=
 ⟨mkSl 145 [(3,.v false [cR 0 a.1]),(9,sI b),(119,sI (a.1.length:Int)),(120,sI c)],[some ⟨[.sc,.sc,.ro [.sc]],(List.map rZa a.1)⟩],[]⟩
def K_laws_FnRoomy_82:List Fr:=[]
def s_laws_FnRoomy_82 (a:LZ×Int):St:=
 ⟨mkSl 145 [(3,.v false [cR 0 a.1])],[some ⟨[.sc,.sc,.ro [.sc]],(List.map rZa a.1)⟩],[]⟩
def K_laws_FnRoomy_35:List Fr:=[.lp [3,4,5,34,35] c_laws_FnRoomy_35,.bk 0,.sq (.kp [3] c_laws_FnRoomy_82)]
def s_laws_FnRoomy_35 (a:LZ×Int) (b:LI) (c:Int):St:=
 ⟨mkSl 145 [(3,.v false [cR 0 a.1]),(4,sI a.2),(5,.v false [cR 1 b]),(34,sI (a.1.length:Int)),(35,sI c)],[some ⟨[.sc,.sc,.ro [.sc]],(List.map rZa a.1)⟩,jI b],[]⟩
def K_laws_FnRoomy_0:List Fr:=[]
def s_laws_FnRoomy_0 (p0:LI):St:=
 ⟨mkSl 145 [(0,.v false [.ro [.sc] (p0.map (rI .u8))])],[],[]⟩
theorem ok_Sj_10 (p0:Zb) (b:Int) (r:Int×Zb) (hm:m_Sj_10 p0 b=some r):EE c_Sj_10 K_Sj_10 (s_Sj_10 p0 b) (Post vf_Sj (res_Sj r)):=by
 obtain ⟨a,hm⟩|⟨a,hm⟩:=split_ite hm
 ·exact ge (wL (rI .u8) p0.code<|u1 a<|z0) (congrArg res_Sj (qj hm)) (by kernel_rfl)
 ·exact ge (wL (rI .u8) p0.code<|v1 a<|wP (by decide:(0:Int)≤40)<|z0) (congrArg res_Sj (qj hm)) (by kernel_rfl)
theorem ok_Sj_0 (p0:Zb) (r:Int×Zb) (hm:m_Sj_0 p0=some r):EE c_Sj_0 K_Sj_0 (s_Sj_0 p0) (Post vf_Sj (res_Sj r)):=by
 obtain ⟨a,hm⟩|⟨a,hm⟩:=split_ite hm
 ·obtain ⟨c,b,hm⟩:=bind_some hm
  exact gw (ok_Sj_10 _ _ r hm) (wL (rI .u8) p0.code<|u1 a<|wO (.row ((rI .u8) c))<|wP (rd_nn b)<|wP (at_row (rI .u8) (rd_get b))<|z0) (by kernel_rfl)
 ·exact gw (ok_Sj_10 _ _ r hm) (wL (rI .u8) p0.code<|v1 a<|z0) (by kernel_rfl)
theorem ok_Sj (p0:Zb) (r:Int×Zb) (hm:m_Sj p0=some r):Runs ext tbl 44 (as_Sj p0) (res_Sj r):=
 runs_of (vf:=vf_Sj) (by kernel_rfl) rfl (st:=(enter vf_Sj (as_Sj p0)).getD default) (by kernel_rfl) (go_on [] 1000 J0 (ok_Sj_0 p0 r hm) (by kernel_rfl))
theorem ok_Sl_24 (p1 a:Int) (b:LI) (c d:Int) (r:Int×Zb) (hm:m_Sl_24 p1 a b c d=some r):EE c_Sl_24 K_Sl_24 (s_Sl_24 p1 a b c d) (Post vf_Sl (res_Sl r)):=by
 obtain ⟨f,e,hm⟩:=bind_some hm
 exact ge (wP (ck_p e)<|z0) (congrArg res_Sl (qj hm)) (by kernel_rfl)
theorem ok_Sl_18 (p1 e:Int) (a:LI) (b c:Int) (r:Int×Zb) (hm:m_Sl_18 p1 e a b c=some r):EE c_Sl_18 K_Sl_18 (s_Sl_18 p1 e a b c) (Post vf_Sl (res_Sl r)):=by
 obtain ⟨d,hm⟩|⟨d,hm⟩:=split_ite hm
 ·obtain ⟨f,g,hm⟩:=bind_some hm
  exact gw (ok_Sl_24 _ _ _ _ _ r hm) (u1 d<|wO (.res (res_Sj f))<|wP (ok_Sj (Zb.mk a b c) f g)<|z0) (by kernel_rfl)
 ·exact gw (ok_Sl_24 _ _ _ _ _ r hm) (v1 d<|z0) (by kernel_rfl)
theorem ok_Sl_0 (p1:Int) (p0:Zb) (r:Int×Zb) (hm:m_Sl_0 p1 p0=some r):EE c_Sl_0 K_Sl_0 (s_Sl_0 p1 p0) (Post vf_Sl (res_Sl r)):=by
 obtain ⟨b,hm⟩|⟨b,hm⟩:=split_ite hm
 ·exact ge (u1 b<|z0) (congrArg res_Sl (qj hm)) (by kernel_rfl)
 ·obtain ⟨a,d,hm⟩:=bind_some hm
  obtain ⟨c,hm⟩|⟨c,hm⟩:=split_ite hm
  ·obtain ⟨e,f,hm⟩:=bind_some hm
   exact gw (ok_Sl_18 _ _ _ _ _ r hm) (v1 b<|wO (.res (res_Sj a))<|wP (ok_Sj p0 a d)<|u1 c<|wO (.res (res_Sj e))<|wP (ok_Sj a.2 e f)<|z0) (by kernel_rfl)
  ·exact gw (ok_Sl_18 _ _ _ _ _ r hm) (v1 b<|wO (.res (res_Sj a))<|wP (ok_Sj p0 a d)<|v1 c<|z0) (by kernel_rfl)
theorem ok_Sl (p0:Zb) (p1:Int) (r:Int×Zb) (hm:m_Sl p0 p1=some r):Runs ext tbl 30 (as_Sl p0 p1) (res_Sl r):=
 runs_of (vf:=vf_Sl) (by kernel_rfl) rfl (st:=(enter vf_Sl (as_Sl p0 p1)).getD default) (by kernel_rfl) (go_on [] 1000 J0 (ok_Sl_0 p1 p0 r hm) (by kernel_rfl))
def O_Sm_9 (Q:VX→St→Prop) (e:(LI×Int×Int×LI)):Prop:=EE c_Sm_21 K_Sm_21 (s_Sm_21 e.1 e.2.1 e.2.2.1 e.2.2.2) Q
theorem ok_Sm_21 (b:LI) (c d:Int) (a:LI) (r:LI×Zb) (hm:m_Sm_21 b c d a=some r):EE c_Sm_21 K_Sm_21 (s_Sm_21 b c d a) (Post vf_Sm (res_Sm r)):=by
 exact ge (wR (rI .u8) a<|z0) (congrArg res_Sm (qj hm)) (by kernel_rfl)
theorem ok_Sm_9 (i c:Int) (d:LI) (f g:Int) (a:LI) (y) (hm:m_Sm_9 i c d f g a=some y) (Q)
  (hin:∀ s,y=.inl s→EE c_Sm_9 K_Sm_9 (s_Sm_9 s.1 s.2.1 s.2.2.1 s.2.2.2.1 s.2.2.2.2.1 s.2.2.2.2.2) Q) (hout:∀ e,y=.inr e→O_Sm_9 Q e):EE c_Sm_9 K_Sm_9 (s_Sm_9 i c d f g a) Q:=by
 obtain ⟨h,hm⟩|⟨h,hm⟩:=split_ite hm
 ·obtain ⟨b,k,hm⟩:=bind_some hm
  obtain ⟨l,j,hm⟩:=bind_some hm
  exact gw (hin _ (qj hm).symm) (u1 h<|wO (.res (res_Sl b))<|wO (.rows (List.map (rI .u8) (a.set (0+Int.toNat c) (wr .u8 (w64 (32+b.1))))))<|wO (zn ((a.set (0+Int.toNat c) (wr .u8 (w64 (32+b.1)))).length))<|wP (ok_Sl (Zb.mk d f g) 95 b k)<|wP (rd_in rfl j)<|wP (put_ob (rI .u8) (wr .u8 (w64 (32+b.1))) 0 (.lit (.int .u8 (wr .u8 (w64 (32+b.1))))) (rd_get0 j) (by kernel_rfl) (by kernel_rfl))<|wP (lens a.length ((a.set (0+Int.toNat c) (wr .u8 (w64 (32+b.1)))).length) (set_len rfl))<|z0) (by kernel_rfl)
 ·refine gm c_Sm_21 K_Sm_21 (s_Sm_21 d f g a) (v1 h<|wN a.length<|z0) ?_ (by kernel_rfl)
  exact hout (d,f,g,a) (qj hm).symm
theorem ok_Sm_0 (p1:Int) (p0:Zb) (r:LI×Zb) (hm:m_Sm_0 p1 p0=some r):EE c_Sm_0 K_Sm_0 (s_Sm_0 p1 p0) (Post vf_Sm (res_Sm r)):=by
 obtain ⟨d,a,hm⟩:=bind_some hm
 refine gm c_Sm_9 K_Sm_9 (s_Sm_9 ((Int.toNat p1):Int) 0 p0.code p0.at_ p0.seed (List.replicate (Int.toNat p1) (0:Int))) (wO (.rows (List.map (rI .u8) (List.replicate (Int.toNat p1) (0:Int))))<|wO (zn (Int.toNat p1))<|wO (zn ((List.replicate (Int.toNat p1) (0:Int)).length))<|wP (ck_p a)<|wP (rep_ob (rI .u8) (Int.toNat p1) (0:Int) [.lit (.int .u8 0)] (by kernel_rfl))<|wP (len_map (rI .u8) (show (Int.toNat p1)=(List.replicate (Int.toNat p1) (0:Int)).length from (rep_len (Int.toNat p1) (0:Int))))<|wP (lens (Int.toNat p1) ((List.replicate (Int.toNat p1) (0:Int)).length) (rep_len (Int.toNat p1) (0:Int)))<|z0) ?_ (by kernel_rfl)
 obtain ⟨e,he,hm⟩:=bind_some hm
 refine loop_rule (u:=.c c_Sm_9) (K:=K_Sm_9) (Q:=(Post vf_Sm (res_Sm r))) (b:=lp_Sm_9) (We:=O_Sm_9 (Post vf_Sm (res_Sm r))) (stJ:=fun s=>s_Sm_9 s.1 s.2.1 s.2.2.1 s.2.2.2.1 s.2.2.2.2.1 s.2.2.2.2.2) (s:=(((Int.toNat p1):Int),0,p0.code,p0.at_,p0.seed,(List.replicate (Int.toNat p1) (0:Int)))) (fun s y hb hin hout=>ok_Sm_9 s.1 s.2.1 s.2.2.1 s.2.2.2.1 s.2.2.2.2.1 s.2.2.2.2.2 y hb (Post vf_Sm (res_Sm r)) hin hout) he ?_
 show EE c_Sm_21 K_Sm_21 (s_Sm_21 e.1 e.2.1 e.2.2.1 e.2.2.2) _
 exact ok_Sm_21 e.1 e.2.1 e.2.2.1 e.2.2.2 r hm
theorem ok_Sm (p0:Zb) (p1:Int) (r:LI×Zb) (hm:m_Sm p0 p1=some r):Runs ext tbl 52 (as_Sm p0 p1) (res_Sm r):=
 runs_of (vf:=vf_Sm) (by kernel_rfl) rfl (st:=(enter vf_Sm (as_Sm p0 p1)).getD default) (by kernel_rfl) (go_on [] 1000 J0 (ok_Sm_0 p1 p0 r hm) (by kernel_rfl))
def O_Sf_7 (Q:VX→St→Prop) (e:(Bool)⊕((Unit))):Prop:=match e with | .inl e=>Q=Post vf_Sf (res_Sf e) | .inr e=>EE c_Sf_23 K_Sf_23 (s_Sf_23) Q
theorem ok_Sf_23 (r:Bool) (hm:m_Sf_23=some r):EE c_Sf_23 K_Sf_23 (s_Sf_23) (Post vf_Sf (res_Sf r)):=by
 exact ge (z0) (congrArg res_Sf (qj hm)) (by kernel_rfl)
theorem ok_Sf_7 (p0:ByteArray) (c:Int) (y) (hm:m_Sf_7 p0 c=some y) (Q)
  (hin:∀ s,y=.inl s→EE c_Sf_7 K_Sf_7 (s_Sf_7 p0 s) Q) (hout:∀ e,y=.inr e→O_Sf_7 Q e):EE c_Sf_7 K_Sf_7 (s_Sf_7 p0 c) Q:=by
 obtain ⟨a,hm⟩|⟨a,hm⟩:=split_ite hm
 ·obtain ⟨g,d,hm⟩:=bind_some hm
  obtain ⟨h,f,hm⟩:=bind_some hm
  obtain ⟨b,hm⟩|⟨b,hm⟩:=split_ite hm
  ·have hQ:Q=Post vf_Sf (res_Sf true):=hout (.inl true) (qj hm).symm
   subst hQ
   exact ge (u1 a<|wP (ck_p d)<|wP (ck_p f)<|u1 b<|z0) (rfl:res_Sf true=res_Sf true) (by kernel_rfl)
  ·exact gw (hin _ (qj hm).symm) (u1 a<|wP (ck_p d)<|wP (ck_p f)<|v1 b<|z0) (by kernel_rfl)
 ·refine gm c_Sf_23 K_Sf_23 (s_Sf_23) (v1 a<|z0) ?_ (by kernel_rfl)
  exact hout (.inr ()) (qj hm).symm
theorem ok_Sf_0 (p0:ByteArray) (r:Bool) (hm:m_Sf_0 p0=some r):EE c_Sf_0 K_Sf_0 (s_Sf_0 p0) (Post vf_Sf (res_Sf r)):=by
 refine gm c_Sf_7 K_Sf_7 (s_Sf_7 p0 0) (z0) ?_ (by kernel_rfl)
 obtain ⟨e,he,hm⟩:=bind_some hm
 refine loop_rule (u:=.c c_Sf_7) (K:=K_Sf_7) (Q:=(Post vf_Sf (res_Sf r))) (b:=lp_Sf_7 p0) (We:=O_Sf_7 (Post vf_Sf (res_Sf r))) (stJ:=fun s=>s_Sf_7 p0 s) (s:=0) (fun s y hb hin hout=>ok_Sf_7 p0 s y hb (Post vf_Sf (res_Sf r)) hin hout) he ?_
 rcases e with e | e
 ·exact congrArg (fun r=>Post vf_Sf (res_Sf r)) (qj hm).symm
 ·show EE c_Sf_23 K_Sf_23 (s_Sf_23) _
  exact ok_Sf_23 r hm
theorem ok_Sf (p0:ByteArray) (r:Bool) (hm:m_Sf p0=some r):Runs ext tbl 51 (as_Sf p0) (res_Sf r):=
 runs_of (vf:=vf_Sf) (by kernel_rfl) rfl (st:=(enter vf_Sf (as_Sf p0)).getD default) (by kernel_rfl) (go_on [] 1000 J0 (ok_Sf_0 p0 r hm) (by kernel_rfl))
def O_Si_28 (p1 a:Int) (b:LZ) (Q:VX→St→Prop) (e:(Int×LI×Int×Int×Int×Int×(List ByteArray))):Prop:=EE c_Si_44 K_Si_44 (s_Si_44 p1 a b e.1 e.2.1 e.2.2.1 e.2.2.2.1 e.2.2.2.2.1 e.2.2.2.2.2.1 e.2.2.2.2.2.2) Q
def O_Si_11 (Q:VX→St→Prop) (e:(LI×Int×Int×LZ)):Prop:=EE c_Si_46 K_Si_46 (s_Si_46 e.1 e.2.1 e.2.2.1 e.2.2.2) Q
theorem ok_Si_44 (p1 f:Int) (d:LZ) (g:Int) (h:LI) (i j b c:Int) (a:(List ByteArray)) (y) (hm:m_Si_44 p1 f d g h i j b c a=some y) (Q)
  (hin:∀ s,y=.inl s→EE c_Si_11 K_Si_11 (s_Si_11 p1 s.1 s.2.1 s.2.2.1 s.2.2.2.1 s.2.2.2.2.1 s.2.2.2.2.2) Q) (hout:∀ e,y=.inr e→O_Si_11 Q e):EE c_Si_44 K_Si_44 (s_Si_44 p1 f d g h i j b c a) Q:=by
 obtain ⟨l,k,hm⟩:=bind_some hm
 exact gw (hin _ (qj hm).symm) (wR rS a<|wO (.rows (List.map rZa ([(Za.mk b c a)]:LZ)))<|wO (zn 1)<|wO (.rows (List.map rZa (d++([(Za.mk b c a)]:LZ))))<|wO (zn ((d++([(Za.mk b c a)]:LZ)).length))<|wO (zn ((d++([(Za.mk b c a)]:LZ)).length))<|wP (Eq.refl (List.map rZa ([(Za.mk b c a)]:LZ)))<|wP (len_map rZa (show 1=([(Za.mk b c a)]:LZ).length from rfl))<|wP (all_eq rZa ([(Za.mk b c a)]:LZ) rfl)<|wP (all_le rZa ([(Za.mk b c a)]:LZ) rfl)<|wP (app_ck_ro rZa d ([(Za.mk b c a)]:LZ) rfl k)<|wP (app_tell_ro rZa d ([(Za.mk b c a)]:LZ) rfl)<|wP (len_map rZa (show (d++([(Za.mk b c a)]:LZ)).length=(d++([(Za.mk b c a)]:LZ)).length from rfl))<|wP (lens ((d++([(Za.mk b c a)]:LZ)).length) ((d++([(Za.mk b c a)]:LZ)).length) rfl)<|z0) (by kernel_rfl)
theorem ok_Si_28 (p1 k:Int) (d:LZ) (l t:Int) (g:LI) (h i m n:Int) (b:(List ByteArray)) (y) (hm:m_Si_28 p1 k d l t g h i m n b=some y) (Q)
  (hin:∀ s,y=.inl s→EE c_Si_28 K_Si_28 (s_Si_28 p1 k d s.1 s.2.1 s.2.2.1 s.2.2.2.1 s.2.2.2.2.1 s.2.2.2.2.2.1 s.2.2.2.2.2.2.1 s.2.2.2.2.2.2.2) Q) (hout:∀ e,y=.inr e→O_Si_28 p1 k d Q e):EE c_Si_28 K_Si_28 (s_Si_28 p1 k d l t g h i m n b) Q:=by
 obtain ⟨o,hm⟩|⟨o,hm⟩:=split_ite hm
 ·obtain ⟨f,u,hm⟩:=bind_some hm
  obtain ⟨c,v,hm⟩:=bind_some hm
  obtain ⟨a,w,hm⟩:=bind_some hm
  obtain ⟨B,x,hm⟩:=bind_some hm
  obtain ⟨C,z,hm⟩:=bind_some hm
  obtain ⟨p,j,hm⟩:=bind_some hm
  obtain ⟨q,A,hm⟩:=bind_some hm
  obtain ⟨r,hm⟩|⟨r,hm⟩:=split_ite hm
  ·exact gw (hin _ (qj hm).symm) (u1 o<|wO (.res (res_Sl f))<|wO (.res (res_Sm c))<|wP (ok_Sl (Zb.mk g h i) 12 f u)<|wP (ok_Sm f.2 f.1 c v)<|wL (rI .u8) c.1<|wO (.rows (List.map (rI .u8) c.1))<|wO (.str a)<|wO (.rows (List.map rS ([(a++(ByteArray.mk #[120]))]:List ByteArray)))<|wO (zn 1)<|wO (.rows (List.map rS (b++([(a++(ByteArray.mk #[120]))]:List ByteArray))))<|wO (zn ((b++([(a++(ByteArray.mk #[120]))]:List ByteArray)).length))<|wO (.row (rS p))<|wO (.res (res_Sf q))<|wO zT<|wO (.rows (List.map rS ((b++([(a++(ByteArray.mk #[120]))]:List ByteArray)).set (0+Int.toNat (w64 (((b++([(a++(ByteArray.mk #[120]))]:List ByteArray)).length:Int) - 1))) (ByteArray.mk #[121]))))<|wO (zn d.length)<|wO (zn (((b++([(a++(ByteArray.mk #[120]))]:List ByteArray)).set (0+Int.toNat (w64 (((b++([(a++(ByteArray.mk #[120]))]:List ByteArray)).length:Int) - 1))) (ByteArray.mk #[121])).length))<|wP (all_le (rI .u8) c.1 rfl)<|wP (all_dt (rI .u8) c.1 rfl)<|wP (bstr_t w)<|wP (ck_p x)<|wP (Eq.refl (List.map rS ([(a++(ByteArray.mk #[120]))]:List ByteArray)))<|wP (len_map rS (show 1=([(a++(ByteArray.mk #[120]))]:List ByteArray).length from rfl))<|wP (all_le rS ([(a++(ByteArray.mk #[120]))]:List ByteArray) rfl)<|wP (app_ck rS b ([(a++(ByteArray.mk #[120]))]:List ByteArray) rfl rfl z)<|wP (app_tell rS b ([(a++(ByteArray.mk #[120]))]:List ByteArray) rfl rfl)<|wP (len_map rS (show (b++([(a++(ByteArray.mk #[120]))]:List ByteArray)).length=(b++([(a++(ByteArray.mk #[120]))]:List ByteArray)).length from rfl))<|wP (rd_in rfl j)<|wP (at_row rS (rd_get0 j))<|wP (ok_Sf p q A)<|wP r<|wP (rd_in rfl j)<|wP (put_ob rS (ByteArray.mk #[121]) 0 (.lit (.string (ByteArray.mk #[121]))) (rd_get0 j) (by kernel_rfl) (by kernel_rfl))<|wP (ln d.length)<|wP (lens ((b++([(a++(ByteArray.mk #[120]))]:List ByteArray)).length) (((b++([(a++(ByteArray.mk #[120]))]:List ByteArray)).set (0+Int.toNat (w64 (((b++([(a++(ByteArray.mk #[120]))]:List ByteArray)).length:Int) - 1))) (ByteArray.mk #[121])).length) (set_len rfl))<|z0) (by kernel_rfl)
  ·exact gw (hin _ (qj hm).symm) (u1 o<|wO (.res (res_Sl f))<|wO (.res (res_Sm c))<|wP (ok_Sl (Zb.mk g h i) 12 f u)<|wP (ok_Sm f.2 f.1 c v)<|wL (rI .u8) c.1<|wO (.rows (List.map (rI .u8) c.1))<|wO (.str a)<|wO (.rows (List.map rS ([(a++(ByteArray.mk #[120]))]:List ByteArray)))<|wO (zn 1)<|wO (.rows (List.map rS (b++([(a++(ByteArray.mk #[120]))]:List ByteArray))))<|wO (zn ((b++([(a++(ByteArray.mk #[120]))]:List ByteArray)).length))<|wO (.row (rS p))<|wO (.res (res_Sf q))<|wO zF<|wO (zn d.length)<|wO (zn ((b++([(a++(ByteArray.mk #[120]))]:List ByteArray)).length))<|wP (all_le (rI .u8) c.1 rfl)<|wP (all_dt (rI .u8) c.1 rfl)<|wP (bstr_t w)<|wP (ck_p x)<|wP (Eq.refl (List.map rS ([(a++(ByteArray.mk #[120]))]:List ByteArray)))<|wP (len_map rS (show 1=([(a++(ByteArray.mk #[120]))]:List ByteArray).length from rfl))<|wP (all_le rS ([(a++(ByteArray.mk #[120]))]:List ByteArray) rfl)<|wP (app_ck rS b ([(a++(ByteArray.mk #[120]))]:List ByteArray) rfl rfl z)<|wP (app_tell rS b ([(a++(ByteArray.mk #[120]))]:List ByteArray) rfl rfl)<|wP (len_map rS (show (b++([(a++(ByteArray.mk #[120]))]:List ByteArray)).length=(b++([(a++(ByteArray.mk #[120]))]:List ByteArray)).length from rfl))<|wP (rd_in rfl j)<|wP (at_row rS (rd_get0 j))<|wP (ok_Sf p q A)<|wP r<|wP (ln d.length)<|wP (lens ((b++([(a++(ByteArray.mk #[120]))]:List ByteArray)).length) ((b++([(a++(ByteArray.mk #[120]))]:List ByteArray)).length) rfl)<|z0) (by kernel_rfl)
 ·refine gm c_Si_44 K_Si_44 (s_Si_44 p1 k d l g h i m n b) (v1 o<|wN d.length<|wN b.length<|z0) ?_ (by kernel_rfl)
  exact hout (l,g,h,i,m,n,b) (qj hm).symm
theorem ok_Si_46 (b:LI) (c d:Int) (a:LZ) (r:LZ×Zb) (hm:m_Si_46 b c d a=some r):EE c_Si_46 K_Si_46 (s_Si_46 b c d a) (Post vf_Si (res_Si r)):=by
 exact ge (wR rZa a<|z0) (congrArg res_Si (qj hm)) (by kernel_rfl)
theorem ok_Si_11 (p1 i f:Int) (j:LI) (k l:Int) (a:LZ) (y) (hm:m_Si_11 p1 i f j k l a=some y) (Q)
  (hin:∀ s,y=.inl s→EE c_Si_11 K_Si_11 (s_Si_11 p1 s.1 s.2.1 s.2.2.1 s.2.2.2.1 s.2.2.2.2.1 s.2.2.2.2.2) Q) (hout:∀ e,y=.inr e→O_Si_11 Q e):EE c_Si_11 K_Si_11 (s_Si_11 p1 i f j k l a) Q:=by
 obtain ⟨n,hm⟩|⟨n,hm⟩:=split_ite hm
 ·obtain ⟨g,o,hm⟩:=bind_some hm
  obtain ⟨h,p,hm⟩:=bind_some hm
  obtain ⟨m,q,hm⟩:=bind_some hm
  obtain ⟨d,r,hm⟩:=bind_some hm
  refine gm c_Si_28 K_Si_28 (s_Si_28 p1 f a (w64 (i+(w64 (g.1*h.1)))) (w64 (1+d.1)) d.2.code d.2.at_ d.2.seed (w64 (i+(w64 (g.1*h.1)))) (w64 ((w64 ((w64 (i+(w64 (g.1*h.1))))+1))+m.1)) ([]:List ByteArray)) (u1 n<|wO (.res (res_Sl g))<|wO (.res (res_Sl h))<|wO (.res (res_Sl m))<|wO (.res (res_Sl d))<|wP (ok_Sl (Zb.mk j k l) 3000 g o)<|wP (ok_Sl g.2 2 h p)<|wP (ok_Sl h.2 9000 m q)<|wP (ok_Sl m.2 4 d r)<|wN a.length<|wO (zn (([]:List ByteArray).length))<|wP (lens 0 (([]:List ByteArray).length) rfl)<|z0) ?_ (by kernel_rfl)
  obtain ⟨e,he,hm⟩:=bind_some hm
  refine loop_rule (u:=.c c_Si_28) (K:=K_Si_28) (Q:=Q) (b:=lp_Si_28 p1 f a) (We:=O_Si_28 p1 f a Q) (stJ:=fun s=>s_Si_28 p1 f a s.1 s.2.1 s.2.2.1 s.2.2.2.1 s.2.2.2.2.1 s.2.2.2.2.2.1 s.2.2.2.2.2.2.1 s.2.2.2.2.2.2.2) (s:=((w64 (i+(w64 (g.1*h.1)))),(w64 (1+d.1)),d.2.code,d.2.at_,d.2.seed,(w64 (i+(w64 (g.1*h.1)))),(w64 ((w64 ((w64 (i+(w64 (g.1*h.1))))+1))+m.1)),([]:List ByteArray))) (fun s y hb hin hout=>ok_Si_28 p1 f a s.1 s.2.1 s.2.2.1 s.2.2.2.1 s.2.2.2.2.1 s.2.2.2.2.2.1 s.2.2.2.2.2.2.1 s.2.2.2.2.2.2.2 y hb Q hin hout) he ?_
  show EE c_Si_44 K_Si_44 (s_Si_44 p1 f a e.1 e.2.1 e.2.2.1 e.2.2.2.1 e.2.2.2.2.1 e.2.2.2.2.2.1 e.2.2.2.2.2.2) _
  exact ok_Si_44 p1 f a e.1 e.2.1 e.2.2.1 e.2.2.2.1 e.2.2.2.2.1 e.2.2.2.2.2.1 e.2.2.2.2.2.2 y hm Q hin hout
 ·refine gm c_Si_46 K_Si_46 (s_Si_46 j k l a) (v1 n<|wN a.length<|z0) ?_ (by kernel_rfl)
  exact hout (j,k,l,a) (qj hm).symm
theorem ok_Si_0 (p1:Int) (p0:Zb) (r:LZ×Zb) (hm:m_Si_0 p1 p0=some r):EE c_Si_0 K_Si_0 (s_Si_0 p1 p0) (Post vf_Si (res_Si r)):=by
 obtain ⟨a,d,hm⟩:=bind_some hm
 refine gm c_Si_11 K_Si_11 (s_Si_11 p1 a.1 0 a.2.code a.2.at_ a.2.seed ([]:LZ)) (wO (.res (res_Sl a))<|wO (zn (([]:LZ).length))<|wP (ok_Sl p0 5000 a d)<|wP (lens 0 (([]:LZ).length) rfl)<|z0) ?_ (by kernel_rfl)
 obtain ⟨e,he,hm⟩:=bind_some hm
 refine loop_rule (u:=.c c_Si_11) (K:=K_Si_11) (Q:=(Post vf_Si (res_Si r))) (b:=lp_Si_11 p1) (We:=O_Si_11 (Post vf_Si (res_Si r))) (stJ:=fun s=>s_Si_11 p1 s.1 s.2.1 s.2.2.1 s.2.2.2.1 s.2.2.2.2.1 s.2.2.2.2.2) (s:=(a.1,0,a.2.code,a.2.at_,a.2.seed,([]:LZ))) (fun s y hb hin hout=>ok_Si_11 p1 s.1 s.2.1 s.2.2.1 s.2.2.2.1 s.2.2.2.2.1 s.2.2.2.2.2 y hb (Post vf_Si (res_Si r)) hin hout) he ?_
 show EE c_Si_46 K_Si_46 (s_Si_46 e.1 e.2.1 e.2.2.1 e.2.2.2) _
 exact ok_Si_46 e.1 e.2.1 e.2.2.1 e.2.2.2 r hm
theorem ok_Si (p0:Zb) (p1:Int) (r:LZ×Zb) (hm:m_Si p0 p1=some r):Runs ext tbl 43 (as_Si p0 p1) (res_Si r):=
 runs_of (vf:=vf_Si) (by kernel_rfl) rfl (st:=(enter vf_Si (as_Si p0 p1)).getD default) (by kernel_rfl) (go_on [] 1000 J0 (ok_Si_0 p1 p0 r hm) (by kernel_rfl))
theorem ok_Sk_0 (p1:Int) (p0:Zb) (r:Bool×Zb) (hm:m_Sk_0 p1 p0=some r):EE c_Sk_0 K_Sk_0 (s_Sk_0 p1 p0) (Post vf_Sk (res_Sk r)):=by
 obtain ⟨a,b,hm⟩:=bind_some hm
 exact ge (wO (.res (res_Sl a))<|wP (ok_Sl p0 p1 a b)<|z0) (congrArg res_Sk (qj hm)) (by kernel_rfl)
theorem ok_Sk (p0:Zb) (p1:Int) (r:Bool×Zb) (hm:m_Sk p0 p1=some r):Runs ext tbl 31 (as_Sk p0 p1) (res_Sk r):=
 runs_of (vf:=vf_Sk) (by kernel_rfl) rfl (st:=(enter vf_Sk (as_Sk p0 p1)).getD default) (by kernel_rfl) (go_on [] 1000 J0 (ok_Sk_0 p1 p0 r hm) (by kernel_rfl))
theorem ok_Se_43 (h:LI) (i j a b:Int) (e:(List ByteArray)) (d:LZ) (r:LZ×Zb) (hm:m_Se_43 h i j a b e d=some r):EE c_Se_43 K_Se_43 (s_Se_43 h i j a b e d) (Post vf_Se (res_Se r)):=by
 obtain ⟨f,k,hm⟩:=bind_some hm
 obtain ⟨c,g,hm⟩:=bind_some hm
 exact ge (wO (.res (res_Sl f))<|wO (.rows (List.map rZa (d.set (0+Int.toNat f.1) (Za.mk a c.to_ c.lines))))<|wO (.rows (List.map rZa (d.set (0+Int.toNat f.1) (Za.mk a b c.lines))))<|wO (.rows (List.map rZa (d.set (0+Int.toNat f.1) (Za.mk a b e))))<|wO (.rows (List.map rZa (d.set (0+Int.toNat f.1) (Za.mk a b e))))<|wP (ok_Sl (Zb.mk h i j) (d.length:Int) f k)<|wP (rd_in rfl g)<|wP (put_ob rZa (Za.mk a c.to_ c.lines) 0 (.lit (vI a)) (rd_get0 g) (by kernel_rfl) (by kernel_rfl))<|wP (put_ob2 rZa (Za.mk a b c.lines) 1 (.lit (vI b)) (set_at (Za.mk a c.to_ c.lines) (rd_get0 g)) (by kernel_rfl) (by kernel_rfl))<|wP (put_ob2 rZa (Za.mk a b e) 2 (.sl (e.map rS)) (set_at2 (Za.mk a b c.lines) (set_at (Za.mk a c.to_ c.lines) (rd_get0 g))) (by kernel_rfl) (by kernel_rfl))<|wP (all_le0 rZa (d.set (0+Int.toNat f.1) (Za.mk a b e)) (set_len rfl))<|wP (all_t rZa (d.set (0+Int.toNat f.1) (Za.mk a b e)) (set_len rfl))<|z0) (congrArg res_Se (qj hm)) (by kernel_rfl)
theorem ok_Se_15 (g:Bool×Zb) (d:LZ) (s:Bool) (r:LZ×Zb) (hm:m_Se_15 g d s=some r):EE c_Se_15 K_Se_15 (s_Se_15 g d s) (Post vf_Se (res_Se r)):=by
 obtain ⟨h,hm⟩|⟨h,hm⟩:=split_ite hm
 ·obtain ⟨e,k,hm⟩:=bind_some hm
  obtain ⟨a,b,hm⟩:=bind_some hm
  obtain ⟨f,l,hm⟩:=bind_some hm
  obtain ⟨i,hm⟩|⟨i,hm⟩:=split_ite hm
  ·exact gw (ok_Se_43 _ _ _ _ _ _ _ r hm) (u1 h<|wO (.res (res_Sl e))<|wO (.row (rZa a))<|wP (ok_Sl g.2 (d.length:Int) e k)<|wP (rd_in rfl b)<|wP (at_row rZa (rd_get0 b))<|wL rS a.lines<|wO (.res (res_Sl f))<|wP (ok_Sl e.2 6 f l)<|u1 i<|wO (.row (rZa a))<|wO (.rows (List.map rS a.lines))<|wO (.row (rZa a))<|wO (.rows (List.map rS a.lines))<|wO (zn d.length)<|wP (at_row rZa (rd_get0 b))<|wP (all_eq rS a.lines rfl)<|wP (Eq.refl (List.map rS a.lines))<|wP (at_row rZa (rd_get0 b))<|wP (all_eq rS a.lines rfl)<|wP (Eq.refl (List.map rS a.lines))<|wP (ln d.length)<|z0) (by kernel_rfl)
  ·obtain ⟨m,hm⟩|⟨m,hm⟩:=split_ite hm
   ·obtain ⟨u,j,hm⟩:=bind_some hm
    exact gw (ok_Se_43 _ _ _ _ _ _ _ r hm) (u1 h<|wO (.res (res_Sl e))<|wO (.row (rZa a))<|wP (ok_Sl g.2 (d.length:Int) e k)<|wP (rd_in rfl b)<|wP (at_row rZa (rd_get0 b))<|wL rS a.lines<|wO (.res (res_Sl f))<|wP (ok_Sl e.2 6 f l)<|v1 i<|u1 m<|wO (.rows (List.map rS ([(ByteArray.mk #[97,32,45,45,62,32,98])]:List ByteArray)))<|wO (zn 1)<|wO (.row (rZa a))<|wO (.row (rZa a))<|wO (.rows (List.map rS a.lines))<|wO (.row (rZa a))<|wO (.rows (List.map rS a.lines))<|wO (.row (rZa a))<|wO (.rows (List.map rS a.lines))<|wO (.rows (List.map rS (a.lines++([(ByteArray.mk #[97,32,45,45,62,32,98])]:List ByteArray))))<|wO (zn d.length)<|wP (Eq.refl (List.map rS ([(ByteArray.mk #[97,32,45,45,62,32,98])]:List ByteArray)))<|wP (len_map rS (show 1=([(ByteArray.mk #[97,32,45,45,62,32,98])]:List ByteArray).length from rfl))<|wP (all_le rS ([(ByteArray.mk #[97,32,45,45,62,32,98])]:List ByteArray) rfl)<|wP (at_row rZa (rd_get0 b))<|wP (appr_ck rS a.lines ([(ByteArray.mk #[97,32,45,45,62,32,98])]:List ByteArray) rfl rfl j)<|wP (at_row rZa (rd_get0 b))<|wP (all_eq rS a.lines rfl)<|wP (Eq.refl (List.map rS a.lines))<|wP (at_row rZa (rd_get0 b))<|wP (all_eq rS a.lines rfl)<|wP (Eq.refl (List.map rS a.lines))<|wP (at_row rZa (rd_get0 b))<|wP (all_eq rS a.lines rfl)<|wP (Eq.refl (List.map rS a.lines))<|wP (appr_tell rS a.lines ([(ByteArray.mk #[97,32,45,45,62,32,98])]:List ByteArray) rfl)<|wP (ln d.length)<|z0) (by kernel_rfl)
   ·obtain ⟨j,hm⟩|⟨j,hm⟩:=split_ite hm
    ·obtain ⟨t,n,hm⟩:=bind_some hm
     obtain ⟨c,o,hm⟩:=bind_some hm
     obtain ⟨q,p,hm⟩:=bind_some hm
     exact gw (ok_Se_43 _ _ _ _ _ _ _ r hm) (u1 h<|wO (.res (res_Sl e))<|wO (.row (rZa a))<|wP (ok_Sl g.2 (d.length:Int) e k)<|wP (rd_in rfl b)<|wP (at_row rZa (rd_get0 b))<|wL rS a.lines<|wO (.res (res_Sl f))<|wP (ok_Sl e.2 6 f l)<|v1 i<|v1 m<|u1 j<|wO (.rows (List.map rS ([(ByteArray.mk #[]),(ByteArray.mk #[101,110,100,32]),(ByteArray.mk #[97,9,98]),(ByteArray.mk #[32,32,108,101,100]),(ByteArray.mk #[45,45]),(ByteArray.mk #[45,62])]:List ByteArray)))<|wO (.res (res_Sl t))<|wO (.row (rS c))<|wO (.row (rZa a))<|wO (.rows (List.map rS (a.lines.set (0+Int.toNat 0) c)))<|wO (.row (rZa a))<|wO (.rows (List.map rZa (d.set (0+Int.toNat e.1) (Za.mk a.from_ a.to_ (a.lines.set (0+Int.toNat 0) c)))))<|wO (.row (rZa (Za.mk a.from_ a.to_ (a.lines.set (0+Int.toNat 0) c))))<|wO (.rows (List.map rS (a.lines.set (0+Int.toNat 0) c)))<|wO (.row (rZa (Za.mk a.from_ a.to_ (a.lines.set (0+Int.toNat 0) c))))<|wO (.rows (List.map rS (a.lines.set (0+Int.toNat 0) c)))<|wO (.row (rZa (Za.mk a.from_ a.to_ (a.lines.set (0+Int.toNat 0) c))))<|wO (.rows (List.map rS (a.lines.set (0+Int.toNat 0) c)))<|wO (zn ((d.set (0+Int.toNat e.1) (Za.mk a.from_ a.to_ (a.lines.set (0+Int.toNat 0) c))).length))<|wP (Eq.refl (List.map rS ([(ByteArray.mk #[]),(ByteArray.mk #[101,110,100,32]),(ByteArray.mk #[97,9,98]),(ByteArray.mk #[32,32,108,101,100]),(ByteArray.mk #[45,45]),(ByteArray.mk #[45,62])]:List ByteArray)))<|wP (ok_Sl f.2 6 t n)<|wP (rd_nn o)<|wP (at_row rS (rd_get o))<|wP (rd_in rfl p)<|wP (at_row rZa (rd_get0 b))<|wP (put_ob rS c 0 (.lit (.string c)) (rd_get0 p) (by kernel_rfl) (by kernel_rfl))<|wP (at_row rZa (rd_get0 b))<|wP (upd_ob rZa d (0+Int.toNat e.1) a (Za.mk a.from_ a.to_ (a.lines.set (0+Int.toNat 0) c)) 2 (.sl ((a.lines.set (0+Int.toNat 0) c).map rS)) (by kernel_rfl))<|wP (at_row rZa (set_at (Za.mk a.from_ a.to_ (a.lines.set (0+Int.toNat 0) c)) (rd_get0 b)))<|wP (all_eq rS (a.lines.set (0+Int.toNat 0) c) (set_len (rfl:a.lines.length=a.lines.length):a.lines.length=(a.lines.set (0+Int.toNat 0) c).length))<|wP (Eq.refl (List.map rS (a.lines.set (0+Int.toNat 0) c)))<|wP (at_row rZa (set_at (Za.mk a.from_ a.to_ (a.lines.set (0+Int.toNat 0) c)) (rd_get0 b)))<|wP (all_eq rS (a.lines.set (0+Int.toNat 0) c) (set_len (rfl:a.lines.length=a.lines.length):a.lines.length=(a.lines.set (0+Int.toNat 0) c).length))<|wP (Eq.refl (List.map rS (a.lines.set (0+Int.toNat 0) c)))<|wP (at_row rZa (set_at (Za.mk a.from_ a.to_ (a.lines.set (0+Int.toNat 0) c)) (rd_get0 b)))<|wP (all_eq rS (a.lines.set (0+Int.toNat 0) c) (set_len (rfl:a.lines.length=a.lines.length):a.lines.length=(a.lines.set (0+Int.toNat 0) c).length))<|wP (Eq.refl (List.map rS (a.lines.set (0+Int.toNat 0) c)))<|wP (lens d.length ((d.set (0+Int.toNat e.1) (Za.mk a.from_ a.to_ (a.lines.set (0+Int.toNat 0) c))).length) (set_len rfl))<|z0) (by kernel_rfl)
    ·obtain ⟨n,hm⟩|⟨n,hm⟩:=split_ite hm
     ·exact gw (ok_Se_43 _ _ _ _ _ _ _ r hm) (u1 h<|wO (.res (res_Sl e))<|wO (.row (rZa a))<|wP (ok_Sl g.2 (d.length:Int) e k)<|wP (rd_in rfl b)<|wP (at_row rZa (rd_get0 b))<|wL rS a.lines<|wO (.res (res_Sl f))<|wP (ok_Sl e.2 6 f l)<|v1 i<|v1 m<|v1 j<|u1 n<|wO (.row (rZa a))<|wO (.rows (List.map rS a.lines))<|wO (.rows (List.map rS ([]:List ByteArray)))<|wP (at_row rZa (rd_get0 b))<|wP (all_eq rS a.lines rfl)<|wP (Eq.refl (List.map rS a.lines))<|wP (all_le rS ([]:List ByteArray) rfl)<|wP (all_dt rS ([]:List ByteArray) rfl)<|wN d.length<|z0) (by kernel_rfl)
     ·obtain ⟨o,hm⟩|⟨o,hm⟩:=split_ite hm
      ·exact gw (ok_Se_43 _ _ _ _ _ _ _ r hm) (u1 h<|wO (.res (res_Sl e))<|wO (.row (rZa a))<|wP (ok_Sl g.2 (d.length:Int) e k)<|wP (rd_in rfl b)<|wP (at_row rZa (rd_get0 b))<|wL rS a.lines<|wO (.res (res_Sl f))<|wP (ok_Sl e.2 6 f l)<|v1 i<|v1 m<|v1 j<|v1 n<|u1 o<|wO (.row (rZa a))<|wO (.rows (List.map rS a.lines))<|wO (.row (rZa a))<|wO (.rows (List.map rS a.lines))<|wO (zn d.length)<|wP (at_row rZa (rd_get0 b))<|wP (all_eq rS a.lines rfl)<|wP (Eq.refl (List.map rS a.lines))<|wP (at_row rZa (rd_get0 b))<|wP (all_eq rS a.lines rfl)<|wP (Eq.refl (List.map rS a.lines))<|wP (ln d.length)<|z0) (by kernel_rfl)
      ·obtain ⟨q,p,hm⟩:=bind_some hm
       exact gw (ok_Se_43 _ _ _ _ _ _ _ r hm) (u1 h<|wO (.res (res_Sl e))<|wO (.row (rZa a))<|wP (ok_Sl g.2 (d.length:Int) e k)<|wP (rd_in rfl b)<|wP (at_row rZa (rd_get0 b))<|wL rS a.lines<|wO (.res (res_Sl f))<|wP (ok_Sl e.2 6 f l)<|v1 i<|v1 m<|v1 j<|v1 n<|v1 o<|wO (.res (res_Sl q))<|wO (.row (rZa a))<|wO (.rows (List.map rS a.lines))<|wO (.row (rZa a))<|wO (.rows (List.map rS a.lines))<|wO (zn d.length)<|wP (ok_Sl f.2 2 q p)<|wP (at_row rZa (rd_get0 b))<|wP (all_eq rS a.lines rfl)<|wP (Eq.refl (List.map rS a.lines))<|wP (at_row rZa (rd_get0 b))<|wP (all_eq rS a.lines rfl)<|wP (Eq.refl (List.map rS a.lines))<|wP (ln d.length)<|z0) (by kernel_rfl)
 ·exact ge (v1 h<|wR rZa d<|z0) (congrArg res_Se (qj hm)) (by kernel_rfl)
theorem ok_Se_12 (a:LI) (b c:Int) (d:LZ) (r:LZ×Zb) (hm:m_Se_12 a b c d=some r):EE c_Se_12 K_Se_12 (s_Se_12 a b c d) (Post vf_Se (res_Se r)):=by
 obtain ⟨e,g,hm⟩:=bind_some hm
 obtain ⟨f,hm⟩|⟨f,hm⟩:=split_ite hm
 ·exact gw (ok_Se_15 _ _ _ r hm) (wO (.res (res_Sk e))<|wP (ok_Sk (Zb.mk a b c) 4 e g)<|u4 f<|wN d.length<|z0) (by kernel_rfl)
 ·exact gw (ok_Se_15 _ _ _ r hm) (wO (.res (res_Sk e))<|wP (ok_Sk (Zb.mk a b c) 4 e g)<|v4 f<|wN d.length<|z0) (by kernel_rfl)
theorem ok_Se_0 (p0:LI) (r:LZ×Zb) (hm:m_Se_0 p0=some r):EE c_Se_0 K_Se_0 (s_Se_0 p0) (Post vf_Se (res_Se r)):=by
 obtain ⟨b,g,hm⟩:=bind_some hm
 obtain ⟨a,h,hm⟩:=bind_some hm
 obtain ⟨c,i,hm⟩:=bind_some hm
 obtain ⟨f,hm⟩|⟨f,hm⟩:=split_ite hm
 ·obtain ⟨d,j,hm⟩:=bind_some hm
  obtain ⟨e,k,hm⟩:=bind_some hm
  exact gw (ok_Se_12 _ _ _ _ r hm) (wO (.res (res_Sl b))<|wO (.res (res_Si a))<|wP (ok_Sl (Zb.mk p0 0 0) 8 b g)<|wP (ok_Si b.2 b.1 a h)<|wL rZa a.1<|wO (.res (res_Sk c))<|wP (ok_Sk a.2 40 c i)<|u1 f<|wO (.res (res_Sl d))<|wO (.res (res_Si e))<|wP (ok_Sl c.2 2 d j)<|wP (ok_Si d.2 (w64 (200+d.1)) e k)<|wL rZa e.1<|wN e.1.length<|z0) (by kernel_rfl)
 ·exact gw (ok_Se_12 _ _ _ _ r hm) (wO (.res (res_Sl b))<|wO (.res (res_Si a))<|wP (ok_Sl (Zb.mk p0 0 0) 8 b g)<|wP (ok_Si b.2 b.1 a h)<|wL rZa a.1<|wO (.res (res_Sk c))<|wP (ok_Sk a.2 40 c i)<|v1 f<|wN a.1.length<|z0) (by kernel_rfl)
theorem ok_Se (p0:LI) (r:LZ×Zb) (hm:m_Se p0=some r):Runs ext tbl 29 (as_Se p0) (res_Se r):=
 runs_of (vf:=vf_Se) (by kernel_rfl) rfl (st:=(enter vf_Se (as_Se p0)).getD default) (by kernel_rfl) (go_on [] 1000 J0 (ok_Se_0 p0 r hm) (by kernel_rfl))
theorem ok_Sa_12 (a:LZ×Zb) (b:Int) (r:LZ×Int) (hm:m_Sa_12 a b=some r):EE c_Sa_12 K_Sa_12 (s_Sa_12 a b) (Post vf_Sa (res_Sa r)):=by
 exact ge (wR rZa a.1<|z0) (congrArg res_Sa (qj hm)) (by kernel_rfl)
theorem ok_Sa_0 (p0:LI) (r:LZ×Int) (hm:m_Sa_0 p0=some r):EE c_Sa_0 K_Sa_0 (s_Sa_0 p0) (Post vf_Sa (res_Sa r)):=by
 obtain ⟨a,e,hm⟩:=bind_some hm
 obtain ⟨b,f,hm⟩:=bind_some hm
 obtain ⟨c,g,hm⟩:=bind_some hm
 obtain ⟨d,hm⟩|⟨d,hm⟩:=split_ite hm
 ·obtain ⟨h,j,hm⟩:=bind_some hm
  obtain ⟨k,i,hm⟩:=bind_some hm
  exact gw (ok_Sa_12 _ _ r hm) (wO (.res (res_Se a))<|wP (ok_Se p0 a e)<|wL rZa a.1<|wO (.res (res_Sl b))<|wO (.res (res_Sk c))<|wP (ok_Sl a.2 12 b f)<|wP (ok_Sk b.2 12 c g)<|u1 d<|wO (.rows (mi ([0,100,101]:LI)))<|wO (zn 3)<|wO (.res (res_Sl h))<|wO (.row ((rI .i64) k))<|wP (Eq.refl (mi ([0,100,101]:LI)))<|wP (len_map (rI .i64) (show 3=([0,100,101]:LI).length from rfl))<|wP (ok_Sl c.2 3 h j)<|wP (rd_in rfl i)<|wP (at_row (rI .i64) (rd_get0 i))<|wN a.1.length<|z0) (by kernel_rfl)
 ·exact gw (ok_Sa_12 _ _ r hm) (wO (.res (res_Se a))<|wP (ok_Se p0 a e)<|wL rZa a.1<|wO (.res (res_Sl b))<|wO (.res (res_Sk c))<|wP (ok_Sl a.2 12 b f)<|wP (ok_Sk b.2 12 c g)<|v1 d<|wN a.1.length<|z0) (by kernel_rfl)
theorem ok_Sa (p0:LI) (r:LZ×Int) (hm:m_Sa p0=some r):Runs ext tbl 8 (as_Sa p0) (res_Sa r):=
 runs_of (vf:=vf_Sa) (by kernel_rfl) rfl (st:=(enter vf_Sa (as_Sa p0)).getD default) (by kernel_rfl) (go_on [] 1000 J0 (ok_Sa_0 p0 r hm) (by kernel_rfl))
theorem ok_Ie_0 (p0:Int) (r:Bool) (hm:m_Ie_0 p0=some r):EE c_Ie_0 K_Ie_0 (s_Ie_0 p0) (Post vf_Ie (res_Ie r)):=by
 obtain ⟨a,hm⟩|⟨a,hm⟩:=split_ite hm
 ·exact ge (u3 a<|z0) (congrArg res_Ie (qj hm)) (by kernel_rfl)
 ·exact ge (v3 a<|z0) (congrArg res_Ie (qj hm)) (by kernel_rfl)
theorem ok_Ie (p0:Int) (r:Bool) (hm:m_Ie p0=some r):Runs ext tbl 35 (as_Ie p0) (res_Ie r):=
 runs_of (vf:=vf_Ie) (by kernel_rfl) rfl (st:=(enter vf_Ie (as_Ie p0)).getD default) (by kernel_rfl) (go_on [] 1000 J0 (ok_Ie_0 p0 r hm) (by kernel_rfl))
theorem ok_strings_Contains (p0 p1:ByteArray) (r:Bool) (hm:m_strings_Contains p0 p1=some r):Runs ext tbl 53 (as_strings_Contains p0 p1) (res_strings_Contains r):=by
 refine ⟨1,?_⟩
 have h:vrun ext tbl 1 53 (as_strings_Contains p0 p1)=(m_strings_Contains p0 p1).map res_strings_Contains:=by kernel_rfl
 rw [h,hm]
 rfl
def O_Id_7 (p0:ByteArray) (Q:VX→St→Prop) (e:(Int)⊕((Unit))):Prop:=match e with | .inl e=>Q=Post vf_Id (res_Id e) | .inr e=>EE c_Id_25 K_Id_25 (s_Id_25 p0) Q
theorem ok_Id_25 (p0:ByteArray) (r:Int) (hm:m_Id_25 p0=some r):EE c_Id_25 K_Id_25 (s_Id_25 p0) (Post vf_Id (res_Id r)):=by
 obtain ⟨a,c,hm⟩:=bind_some hm
 obtain ⟨b,hm⟩|⟨b,hm⟩:=split_ite hm
 ·exact ge (wO (.res (res_strings_Contains a))<|wP (ok_strings_Contains p0 (ByteArray.mk #[45,45,62]) a c)<|u1 b<|z0) (congrArg res_Id (qj hm)) (by kernel_rfl)
 ·obtain ⟨d,hm⟩|⟨d,hm⟩:=split_ite hm
  ·exact ge (wO (.res (res_strings_Contains a))<|wP (ok_strings_Contains p0 (ByteArray.mk #[45,45,62]) a c)<|v1 b<|u1 d<|z0) (congrArg res_Id (qj hm)) (by kernel_rfl)
  ·exact ge (wO (.res (res_strings_Contains a))<|wP (ok_strings_Contains p0 (ByteArray.mk #[45,45,62]) a c)<|v1 b<|v1 d<|z0) (congrArg res_Id (qj hm)) (by kernel_rfl)
theorem ok_Id_7 (p0:ByteArray) (g:Int) (y) (hm:m_Id_7 p0 g=some y) (Q)
  (hin:∀ s,y=.inl s→EE c_Id_7 K_Id_7 (s_Id_7 p0 s) Q) (hout:∀ e,y=.inr e→O_Id_7 p0 Q e):EE c_Id_7 K_Id_7 (s_Id_7 p0 g) Q:=by
 obtain ⟨c,hm⟩|⟨c,hm⟩:=split_ite hm
 ·obtain ⟨d,a,hm⟩:=bind_some hm
  obtain ⟨b,hm⟩|⟨b,hm⟩:=split_ite hm
  ·have hQ:Q=Post vf_Id (res_Id 4):=hout (.inl 4) (qj hm).symm
   subst hQ
   exact ge (u1 c<|wO (.int d)<|wP (sat_nn a)<|wP (sat_at a)<|u4 b<|u1 b<|u1 eT<|z0) (rfl:res_Id 4=res_Id 4) (by kernel_rfl)
  ·obtain ⟨f,hm⟩|⟨f,hm⟩:=split_ite hm
   ·have hQ:Q=Post vf_Id (res_Id 4):=hout (.inl 4) (qj hm).symm
    subst hQ
    exact ge (u1 c<|wO (.int d)<|wP (sat_nn a)<|wP (sat_at a)<|v3 b<|wO (.int d)<|wP (sat_nn a)<|wP (sat_at a)<|v2 b<|u1 f<|z0) (rfl:res_Id 4=res_Id 4) (by kernel_rfl)
   ·exact gw (hin _ (qj hm).symm) (u1 c<|wO (.int d)<|wP (sat_nn a)<|wP (sat_at a)<|v3 b<|wO (.int d)<|wP (sat_nn a)<|wP (sat_at a)<|v2 b<|v1 f<|z0) (by kernel_rfl)
 ·refine gm c_Id_25 K_Id_25 (s_Id_25 p0) (v1 c<|z0) ?_ (by kernel_rfl)
  exact hout (.inr ()) (qj hm).symm
theorem ok_Id_0 (p0:ByteArray) (r:Int) (hm:m_Id_0 p0=some r):EE c_Id_0 K_Id_0 (s_Id_0 p0) (Post vf_Id (res_Id r)):=by
 refine gm c_Id_7 K_Id_7 (s_Id_7 p0 0) (z0) ?_ (by kernel_rfl)
 obtain ⟨e,he,hm⟩:=bind_some hm
 refine loop_rule (u:=.c c_Id_7) (K:=K_Id_7) (Q:=(Post vf_Id (res_Id r))) (b:=lp_Id_7 p0) (We:=O_Id_7 p0 (Post vf_Id (res_Id r))) (stJ:=fun s=>s_Id_7 p0 s) (s:=0) (fun s y hb hin hout=>ok_Id_7 p0 s y hb (Post vf_Id (res_Id r)) hin hout) he ?_
 rcases e with e | e
 ·exact congrArg (fun r=>Post vf_Id (res_Id r)) (qj hm).symm
 ·show EE c_Id_25 K_Id_25 (s_Id_25 p0) _
  exact ok_Id_25 p0 r hm
theorem ok_Id (p0:ByteArray) (r:Int) (hm:m_Id p0=some r):Runs ext tbl 49 (as_Id p0) (res_Id r):=
 runs_of (vf:=vf_Id) (by kernel_rfl) rfl (st:=(enter vf_Id (as_Id p0)).getD default) (by kernel_rfl) (go_on [] 1000 J0 (ok_Id_0 p0 r hm) (by kernel_rfl))
def O_Ic_15 (Q:VX→St→Prop) (e:(Bool)⊕((Unit))):Prop:=match e with | .inl e=>Q=Post vf_Ic (res_Ic e) | .inr e=>EE c_Ic_33 K_Ic_33 (s_Ic_33) Q
theorem ok_Ic_33 (r:Bool) (hm:m_Ic_33=some r):EE c_Ic_33 K_Ic_33 (s_Ic_33) (Post vf_Ic (res_Ic r)):=by
 exact ge (z0) (congrArg res_Ic (qj hm)) (by kernel_rfl)
theorem ok_Ic_15 (p0:Za) (k:Int) (y) (hm:m_Ic_15 p0 k=some y) (Q)
  (hin:∀ s,y=.inl s→EE c_Ic_15 K_Ic_15 (s_Ic_15 p0 s) Q) (hout:∀ e,y=.inr e→O_Ic_15 Q e):EE c_Ic_15 K_Ic_15 (s_Ic_15 p0 k) Q:=by
 obtain ⟨c,hm⟩|⟨c,hm⟩:=split_ite hm
 ·obtain ⟨d,b,hm⟩:=bind_some hm
  obtain ⟨a,hm⟩|⟨a,hm⟩:=split_ite hm
  ·have hQ:Q=Post vf_Ic (res_Ic false):=hout (.inl false) (qj hm).symm
   subst hQ
   exact ge (u1 c<|wO (.row (rS d))<|wP (rd_nn b)<|wP (at_row rS (rd_get b))<|u4 a<|u3 a<|u4 eT<|u1 eT<|z0) (rfl:res_Ic false=res_Ic false) (by kernel_rfl)
  ·obtain ⟨i,f,hm⟩:=bind_some hm
   obtain ⟨g,hm⟩|⟨g,hm⟩:=split_ite hm
   ·have hQ:Q=Post vf_Ic (res_Ic false):=hout (.inl false) (qj hm).symm
    subst hQ
    exact ge (u1 c<|wO (.row (rS d))<|wP (rd_nn b)<|wP (at_row rS (rd_get b))<|v4 a<|v1 a<|wO (.int i)<|wP (sat_nn f)<|wP (sat_at f)<|v2 a<|u4 g<|u1 eT<|z0) (rfl:res_Ic false=res_Ic false) (by kernel_rfl)
   ·obtain ⟨h,l,hm⟩:=bind_some hm
    obtain ⟨j,hm⟩|⟨j,hm⟩:=split_ite hm
    ·have hQ:Q=Post vf_Ic (res_Ic false):=hout (.inl false) (qj hm).symm
     subst hQ
     exact ge (u1 c<|wO (.row (rS d))<|wP (rd_nn b)<|wP (at_row rS (rd_get b))<|v4 a<|v1 a<|wO (.int i)<|wP (sat_nn f)<|wP (sat_at f)<|v2 a<|v2 g<|wO (.res (res_Id h))<|wP (ok_Id d h l)<|v2 g<|u1 j<|z0) (rfl:res_Ic false=res_Ic false) (by kernel_rfl)
    ·exact gw (hin _ (qj hm).symm) (u1 c<|wO (.row (rS d))<|wP (rd_nn b)<|wP (at_row rS (rd_get b))<|v4 a<|v1 a<|wO (.int i)<|wP (sat_nn f)<|wP (sat_at f)<|v2 a<|v2 g<|wO (.res (res_Id h))<|wP (ok_Id d h l)<|v2 g<|v1 j<|z0) (by kernel_rfl)
 ·refine gm c_Ic_33 K_Ic_33 (s_Ic_33) (v1 c<|z0) ?_ (by kernel_rfl)
  exact hout (.inr ()) (qj hm).symm
theorem ok_Ic_0 (p0:Za) (r:Bool) (hm:m_Ic_0 p0=some r):EE c_Ic_0 K_Ic_0 (s_Ic_0 p0) (Post vf_Ic (res_Ic r)):=by
 obtain ⟨a,hm⟩|⟨a,hm⟩:=split_ite hm
 ·exact ge (wL rS p0.lines<|u4 a<|u1 a<|u1 eT<|z0) (congrArg res_Ic (qj hm)) (by kernel_rfl)
 ·obtain ⟨d,hm⟩|⟨d,hm⟩:=split_ite hm
  ·exact ge (wL rS p0.lines<|v3 a<|wL rS p0.lines<|v2 a<|u1 d<|z0) (congrArg res_Ic (qj hm)) (by kernel_rfl)
  ·refine gm c_Ic_15 K_Ic_15 (s_Ic_15 p0 0) (wL rS p0.lines<|v3 a<|wL rS p0.lines<|v2 a<|v1 d<|wL rS p0.lines<|z0) ?_ (by kernel_rfl)
   obtain ⟨e,he,hm⟩:=bind_some hm
   refine loop_rule (u:=.c c_Ic_15) (K:=K_Ic_15) (Q:=(Post vf_Ic (res_Ic r))) (b:=lp_Ic_15 p0) (We:=O_Ic_15 (Post vf_Ic (res_Ic r))) (stJ:=fun s=>s_Ic_15 p0 s) (s:=0) (fun s y hb hin hout=>ok_Ic_15 p0 s y hb (Post vf_Ic (res_Ic r)) hin hout) he ?_
   rcases e with e | e
   ·exact congrArg (fun r=>Post vf_Ic (res_Ic r)) (qj hm).symm
   ·show EE c_Ic_33 K_Ic_33 (s_Ic_33) _
    exact ok_Ic_33 r hm
theorem ok_Ic (p0:Za) (r:Bool) (hm:m_Ic p0=some r):Runs ext tbl 41 (as_Ic p0) (res_Ic r):=
 runs_of (vf:=vf_Ic) (by kernel_rfl) rfl (st:=(enter vf_Ic (as_Ic p0)).getD default) (by kernel_rfl) (go_on [] 1000 J0 (ok_Ic_0 p0 r hm) (by kernel_rfl))
def O_Ia_15 (Q:VX→St→Prop) (e:(Bool)⊕((Unit))):Prop:=match e with | .inl e=>Q=Post vf_Ia (res_Ia e) | .inr e=>EE c_Ia_33 K_Ia_33 (s_Ia_33) Q
theorem ok_Ia_33 (r:Bool) (hm:m_Ia_33=some r):EE c_Ia_33 K_Ia_33 (s_Ia_33) (Post vf_Ia (res_Ia r)):=by
 exact ge (z0) (congrArg res_Ia (qj hm)) (by kernel_rfl)
theorem ok_Ia_15 (p0:LZ) (r:Int) (y) (hm:m_Ia_15 p0 r=some y) (Q)
  (hin:∀ s,y=.inl s→EE c_Ia_15 K_Ia_15 (s_Ia_15 p0 s) Q) (hout:∀ e,y=.inr e→O_Ia_15 Q e):EE c_Ia_15 K_Ia_15 (s_Ia_15 p0 r) Q:=by
 obtain ⟨k,hm⟩|⟨k,hm⟩:=split_ite hm
 ·obtain ⟨a,c,hm⟩:=bind_some hm
  obtain ⟨d,m,hm⟩:=bind_some hm
  obtain ⟨b,hm⟩|⟨b,hm⟩:=split_ite hm
  ·obtain ⟨h,n,hm⟩:=bind_some hm
   obtain ⟨f,hm⟩|⟨f,hm⟩:=split_ite hm
   ·obtain ⟨j,hm⟩|⟨j,hm⟩:=split_ite hm
    ·have hQ:Q=Post vf_Ia (res_Ia false):=hout (.inl false) (qj hm).symm
     subst hQ
     exact ge (u1 k<|wO (.row (rZa a))<|wO (.res (res_Ie d))<|wP (rd_nn c)<|wP (at_row rZa (rd_get c))<|wP (ok_Ie a.from_ d m)<|v3 (not_f b)<|wO (.res (res_Ie h))<|wP (ok_Ie a.to_ h n)<|v2 (not_f b)<|v4 (not_f f)<|v2 (not_f f)<|u4 j<|u4 eT<|u2 eT<|z0) (rfl:res_Ia false=res_Ia false) (by kernel_rfl)
    ·obtain ⟨l,o,hm⟩:=bind_some hm
     obtain ⟨i,hm⟩|⟨i,hm⟩:=split_ite hm
     ·obtain ⟨g,hm⟩|⟨g,hm⟩:=split_ite hm
      ·obtain ⟨t,p,hm⟩:=bind_some hm
       obtain ⟨q,hm⟩|⟨q,hm⟩:=split_ite hm
       ·have hQ:Q=Post vf_Ia (res_Ia false):=hout (.inl false) (qj hm).symm
        subst hQ
        exact ge (u1 k<|wO (.row (rZa a))<|wO (.res (res_Ie d))<|wP (rd_nn c)<|wP (at_row rZa (rd_get c))<|wP (ok_Ie a.from_ d m)<|v3 (not_f b)<|wO (.res (res_Ie h))<|wP (ok_Ie a.to_ h n)<|v2 (not_f b)<|v4 (not_f f)<|v2 (not_f f)<|v2 j<|wO (.res (res_Ic l))<|wP (ok_Ic a l o)<|v2 j<|v3 (not_f i)<|u4 g<|u2 g<|wO (.row (rZa t))<|wP (rd_nn p)<|wP (at_row rZa (rd_get p))<|u3 g<|v1 (not_f i)<|u1 g<|v1 (not_f i)<|u1 q<|z0) (rfl:res_Ia false=res_Ia false) (by kernel_rfl)
       ·exact gw (hin _ (qj hm).symm) (u1 k<|wO (.row (rZa a))<|wO (.res (res_Ie d))<|wP (rd_nn c)<|wP (at_row rZa (rd_get c))<|wP (ok_Ie a.from_ d m)<|v3 (not_f b)<|wO (.res (res_Ie h))<|wP (ok_Ie a.to_ h n)<|v2 (not_f b)<|v4 (not_f f)<|v2 (not_f f)<|v2 j<|wO (.res (res_Ic l))<|wP (ok_Ic a l o)<|v2 j<|v3 (not_f i)<|u4 g<|u2 g<|wO (.row (rZa t))<|wP (rd_nn p)<|wP (at_row rZa (rd_get p))<|u3 g<|v1 (not_f i)<|u1 g<|v1 (not_f i)<|v1 q<|z0) (by kernel_rfl)
      ·exact gw (hin _ (qj hm).symm) (u1 k<|wO (.row (rZa a))<|wO (.res (res_Ie d))<|wP (rd_nn c)<|wP (at_row rZa (rd_get c))<|wP (ok_Ie a.from_ d m)<|v3 (not_f b)<|wO (.res (res_Ie h))<|wP (ok_Ie a.to_ h n)<|v2 (not_f b)<|v4 (not_f f)<|v2 (not_f f)<|v2 j<|wO (.res (res_Ic l))<|wP (ok_Ic a l o)<|v2 j<|v3 (not_f i)<|v4 g<|v4 g<|v1 g<|v1 (not_f i)<|v1 g<|v1 (not_f i)<|v1 eF<|z0) (by kernel_rfl)
     ·have hQ:Q=Post vf_Ia (res_Ia false):=hout (.inl false) (qj hm).symm
      subst hQ
      exact ge (u1 k<|wO (.row (rZa a))<|wO (.res (res_Ie d))<|wP (rd_nn c)<|wP (at_row rZa (rd_get c))<|wP (ok_Ie a.from_ d m)<|v3 (not_f b)<|wO (.res (res_Ie h))<|wP (ok_Ie a.to_ h n)<|v2 (not_f b)<|v4 (not_f f)<|v2 (not_f f)<|v2 j<|wO (.res (res_Ic l))<|wP (ok_Ic a l o)<|v2 j<|u4 (not_t i)<|u1 (not_t i)<|u1 eT<|z0) (rfl:res_Ia false=res_Ia false) (by kernel_rfl)
   ·have hQ:Q=Post vf_Ia (res_Ia false):=hout (.inl false) (qj hm).symm
    subst hQ
    exact ge (u1 k<|wO (.row (rZa a))<|wO (.res (res_Ie d))<|wP (rd_nn c)<|wP (at_row rZa (rd_get c))<|wP (ok_Ie a.from_ d m)<|v3 (not_f b)<|wO (.res (res_Ie h))<|wP (ok_Ie a.to_ h n)<|v2 (not_f b)<|u4 (not_t f)<|u2 (not_t f)<|u4 eT<|u4 eT<|u2 eT<|z0) (rfl:res_Ia false=res_Ia false) (by kernel_rfl)
  ·have hQ:Q=Post vf_Ia (res_Ia false):=hout (.inl false) (qj hm).symm
   subst hQ
   exact ge (u1 k<|wO (.row (rZa a))<|wO (.res (res_Ie d))<|wP (rd_nn c)<|wP (at_row rZa (rd_get c))<|wP (ok_Ie a.from_ d m)<|u4 (not_t b)<|u1 (not_t b)<|u4 eT<|u4 eT<|u4 eT<|u4 eT<|z0) (rfl:res_Ia false=res_Ia false) (by kernel_rfl)
 ·refine gm c_Ia_33 K_Ia_33 (s_Ia_33) (v1 k<|z0) ?_ (by kernel_rfl)
  exact hout (.inr ()) (qj hm).symm
theorem ok_Ia_0 (p0:LZ) (r:Bool) (hm:m_Ia_0 p0=some r):EE c_Ia_0 K_Ia_0 (s_Ia_0 p0) (Post vf_Ia (res_Ia r)):=by
 obtain ⟨a,hm⟩|⟨a,hm⟩:=split_ite hm
 ·exact ge (wL rZa p0<|u1 a<|z0) (congrArg res_Ia (qj hm)) (by kernel_rfl)
 ·refine gm c_Ia_15 K_Ia_15 (s_Ia_15 p0 0) (wL rZa p0<|v1 a<|wL rZa p0<|z0) ?_ (by kernel_rfl)
  obtain ⟨e,he,hm⟩:=bind_some hm
  refine loop_rule (u:=.c c_Ia_15) (K:=K_Ia_15) (Q:=(Post vf_Ia (res_Ia r))) (b:=lp_Ia_15 p0) (We:=O_Ia_15 (Post vf_Ia (res_Ia r))) (stJ:=fun s=>s_Ia_15 p0 s) (s:=0) (fun s y hb hin hout=>ok_Ia_15 p0 s y hb (Post vf_Ia (res_Ia r)) hin hout) he ?_
  rcases e with e | e
  ·exact congrArg (fun r=>Post vf_Ia (res_Ia r)) (qj hm).symm
  ·show EE c_Ia_33 K_Ia_33 (s_Ia_33) _
   exact ok_Ia_33 r hm
theorem ok_Ia (p0:LZ) (r:Bool) (hm:m_Ia p0=some r):Runs ext tbl 26 (as_Ia p0) (res_Ia r):=
 runs_of (vf:=vf_Ia) (by kernel_rfl) rfl (st:=(enter vf_Ia (as_Ia p0)).getD default) (by kernel_rfl) (go_on [] 1000 J0 (ok_Ia_0 p0 r hm) (by kernel_rfl))
def O_Ib_51 (p0:LZ) (p1 a b:Int) (c:Za) (d:LI) (Q:VX→St→Prop) (e:(LB)):Prop:=EE c_Ib_64 K_Ib_64 (s_Ib_64 p0 p1 a b c d e) Q
def O_Ib_87 (p0:LZ) (p1 a b c:Int) (d:Za) (f:LI) (g:LB) (Q:VX→St→Prop) (e:(Bool)):Prop:=EE c_Ib_99 K_Ib_99 (s_Ib_99 p0 p1 a b c d f g e) Q
def O_Ib_72 (p0:LZ) (p1 a:Int) (b:LI) (Q:VX→St→Prop) (e:(Int)):Prop:=EE c_Ib_105 K_Ib_105 (s_Ib_105 p0 p1 a b e) Q
def O_Ib_34 (p0:LZ) (p1 a:Int) (b:Za) (c:LI) (Q:VX→St→Prop) (e:(LB)):Prop:=EE c_Ib_65 K_Ib_65 (s_Ib_65 p0 p1 a b c e) Q
def O_Ib_17 (Q:VX→St→Prop) (e:(LI)):Prop:=EE c_Ib_107 K_Ib_107 (s_Ib_107 e) Q
theorem ok_Ib_64 (p0:LZ) (p1 b f:Int) (c:Za) (a:LI) (d:LB) (y) (hm:m_Ib_64 p0 p1 b f c a d=some y) (Q)
  (hin:∀ s,y=.inl s→EE c_Ib_34 K_Ib_34 (s_Ib_34 p0 p1 b c a s.1 s.2) Q) (hout:∀ e,y=.inr e→O_Ib_34 p0 p1 b c a Q e):EE c_Ib_64 K_Ib_64 (s_Ib_64 p0 p1 b f c a d) Q:=by
 exact gw (hin _ (qj hm).symm) (wN a.length<|wN d.length<|z0) (by kernel_rfl)
theorem ok_Ib_51 (p0:LZ) (p1 c d:Int) (i f:Za) (b:LI) (g:Int) (a:LB) (y) (hm:m_Ib_51 p0 p1 c d i f b g a=some y) (Q)
  (hin:∀ s,y=.inl s→EE c_Ib_51 K_Ib_51 (s_Ib_51 p0 p1 c d i f b s.1 s.2) Q) (hout:∀ e,y=.inr e→O_Ib_51 p0 p1 d c f b Q e):EE c_Ib_51 K_Ib_51 (s_Ib_51 p0 p1 c d i f b g a) Q:=by
 obtain ⟨j,hm⟩|⟨j,hm⟩:=split_ite hm
 ·obtain ⟨h,k,hm⟩:=bind_some hm
  obtain ⟨m,l,hm⟩:=bind_some hm
  exact gw (hin _ (qj hm).symm) (u1 j<|wO (.row ((rI .i64) h))<|wO (.rows (mb (a.set (0+Int.toNat (w64 (h+g))) true)))<|wP (rd_in rfl k)<|wP (at_row (rI .i64) (rd_get0 k))<|wP (rd_in rfl l)<|wP (put_ob rB true 0 (.lit (.bool true)) (rd_get0 l) (by kernel_rfl) (by kernel_rfl))<|wN b.length<|wO (zn ((a.set (0+Int.toNat (w64 (h+g))) true).length))<|wP (lens a.length ((a.set (0+Int.toNat (w64 (h+g))) true).length) (set_len rfl))<|z0) (by kernel_rfl)
 ·refine gm c_Ib_64 K_Ib_64 (s_Ib_64 p0 p1 d c f b a) (v1 j<|wN b.length<|wN a.length<|z0) ?_ (by kernel_rfl)
  exact hout a (qj hm).symm
theorem ok_Ib_46 (p0:LZ) (p1 g d:Int) (f:Za) (a:LI) (h:LB) (k:Bool) (y) (hm:m_Ib_46 p0 p1 g d f a h k=some y) (Q)
  (hin:∀ s,y=.inl s→EE c_Ib_34 K_Ib_34 (s_Ib_34 p0 p1 d f a s.1 s.2) Q) (hout:∀ e,y=.inr e→O_Ib_34 p0 p1 d f a Q e):EE c_Ib_46 K_Ib_46 (s_Ib_46 p0 p1 g d f a h k) Q:=by
 obtain ⟨j,hm⟩|⟨j,hm⟩:=split_ite hm
 ·obtain ⟨i,l,hm⟩:=bind_some hm
  refine gm c_Ib_51 K_Ib_51 (s_Ib_51 p0 p1 g d i f a 0 h) (u1 j<|wO (.row (rZa i))<|wP (rd_nn l)<|wP (at_row rZa (rd_get l))<|wL rS i.lines<|wN a.length<|wN h.length<|z0) ?_ (by kernel_rfl)
  obtain ⟨e,he,hm⟩:=bind_some hm
  refine loop_rule (u:=.c c_Ib_51) (K:=K_Ib_51) (Q:=Q) (b:=lp_Ib_51 p0 p1 g d i f a) (We:=O_Ib_51 p0 p1 d g f a Q) (stJ:=fun s=>s_Ib_51 p0 p1 g d i f a s.1 s.2) (s:=(0,h)) (fun s y hb hin hout=>ok_Ib_51 p0 p1 g d i f a s.1 s.2 y hb Q hin hout) he ?_
  show EE c_Ib_64 K_Ib_64 (s_Ib_64 p0 p1 d g f a e) _
  exact ok_Ib_64 p0 p1 d g f a e y hm Q hin hout
 ·exact gw (ok_Ib_64 _ _ _ _ _ _ _ y hm Q hin hout) (v1 j<|wN a.length<|wN h.length<|z0) (by kernel_rfl)
theorem ok_Ib_99 (p0:LZ) (p1 g h c:Int) (d:Za) (a:LI) (b:LB) (i:Bool) (y) (hm:m_Ib_99 p0 p1 g h c d a b i=some y) (Q)
  (hin:∀ s,y=.inl s→EE c_Ib_72 K_Ib_72 (s_Ib_72 p0 p1 c d a b s.1 s.2) Q) (hout:∀ e,y=.inr e→O_Ib_72 p0 p1 c a Q e):EE c_Ib_99 K_Ib_99 (s_Ib_99 p0 p1 g h c d a b i) Q:=by
 obtain ⟨f,hm⟩|⟨f,hm⟩:=split_ite hm
 ·exact gw (hin _ (qj hm).symm) (u1 f<|wN a.length<|wN b.length<|z0) (by kernel_rfl)
 ·exact gw (hin _ (qj hm).symm) (v1 f<|wN a.length<|wN b.length<|z0) (by kernel_rfl)
theorem ok_Ib_87 (p0:LZ) (p1 d f g:Int) (h:Za) (a:LI) (b:LB) (i:Bool) (k:Int) (y) (hm:m_Ib_87 p0 p1 d f g h a b i k=some y) (Q)
  (hin:∀ s,y=.inl s→EE c_Ib_87 K_Ib_87 (s_Ib_87 p0 p1 d f g h a b s.1 s.2) Q) (hout:∀ e,y=.inr e→O_Ib_87 p0 p1 d f g h a b Q e):EE c_Ib_87 K_Ib_87 (s_Ib_87 p0 p1 d f g h a b i k) Q:=by
 obtain ⟨j,hm⟩|⟨j,hm⟩:=split_ite hm
 ·obtain ⟨c,hm⟩|⟨c,hm⟩:=split_ite hm
  ·obtain ⟨m,l,hm⟩:=bind_some hm
   exact gw (hin _ (qj hm).symm) (u1 j<|u4 c<|u1 c<|wP (rd_in rfl l)<|u1 c<|wO (.row (rB m))<|wP (at_row rB (rd_get0 l))<|u2 c<|wN a.length<|wN b.length<|z0) (by kernel_rfl)
  ·exact gw (hin _ (qj hm).symm) (u1 j<|v4 c<|v4 c<|wN a.length<|wN b.length<|z0) (by kernel_rfl)
 ·refine gm c_Ib_99 K_Ib_99 (s_Ib_99 p0 p1 d f g h a b i) (v1 j<|wN a.length<|wN b.length<|z0) ?_ (by kernel_rfl)
  exact hout i (qj hm).symm
theorem ok_Ib_105 (p0:LZ) (p1 c:Int) (b:LI) (a:Int) (y) (hm:m_Ib_105 p0 p1 c b a=some y) (Q)
  (hin:∀ s,y=.inl s→EE c_Ib_17 K_Ib_17 (s_Ib_17 p0 p1 s.1 s.2) Q) (hout:∀ e,y=.inr e→O_Ib_17 Q e):EE c_Ib_105 K_Ib_105 (s_Ib_105 p0 p1 c b a) Q:=by
 obtain ⟨f,d,hm⟩:=bind_some hm
 exact gw (hin _ (qj hm).symm) (wO (.rows (mi ([a]:LI)))<|wO (zn 1)<|wO (.rows (mi (b++([a]:LI))))<|wO (zn ((b++([a]:LI)).length))<|wO (zn ((b++([a]:LI)).length))<|wP (Eq.refl (mi ([a]:LI)))<|wP (len_map (rI .i64) (show 1=([a]:LI).length from rfl))<|wP (all_le (rI .i64) ([a]:LI) rfl)<|wP (app_ck (rI .i64) b ([a]:LI) rfl rfl d)<|wP (app_tell (rI .i64) b ([a]:LI) rfl rfl)<|wP (len_map (rI .i64) (show (b++([a]:LI)).length=(b++([a]:LI)).length from rfl))<|wP (lens ((b++([a]:LI)).length) ((b++([a]:LI)).length) rfl)<|z0) (by kernel_rfl)
theorem ok_Ib_72 (p0:LZ) (p1 f:Int) (d:Za) (a:LI) (h:LB) (g i:Int) (y) (hm:m_Ib_72 p0 p1 f d a h g i=some y) (Q)
  (hin:∀ s,y=.inl s→EE c_Ib_72 K_Ib_72 (s_Ib_72 p0 p1 f d a h s.1 s.2) Q) (hout:∀ e,y=.inr e→O_Ib_72 p0 p1 f a Q e):EE c_Ib_72 K_Ib_72 (s_Ib_72 p0 p1 f d a h g i) Q:=by
 obtain ⟨j,hm⟩|⟨j,hm⟩:=split_ite hm
 ·obtain ⟨k,hm⟩|⟨k,hm⟩:=split_ite hm
  ·refine gm c_Ib_87 K_Ib_87 (s_Ib_87 p0 p1 g i f d a h true 0) (wL rS d.lines<|u3 j<|u1 k<|wL rS d.lines<|wN a.length<|wN h.length<|z0) ?_ (by kernel_rfl)
   obtain ⟨e,he,hm⟩:=bind_some hm
   refine loop_rule (u:=.c c_Ib_87) (K:=K_Ib_87) (Q:=Q) (b:=lp_Ib_87 p0 p1 g i f d a h) (We:=O_Ib_87 p0 p1 g i f d a h Q) (stJ:=fun s=>s_Ib_87 p0 p1 g i f d a h s.1 s.2) (s:=(true,0)) (fun s y hb hin hout=>ok_Ib_87 p0 p1 g i f d a h s.1 s.2 y hb Q hin hout) he ?_
   show EE c_Ib_99 K_Ib_99 (s_Ib_99 p0 p1 g i f d a h e) _
   exact ok_Ib_99 p0 p1 g i f d a h e y hm Q hin hout
  ·refine gm c_Ib_105 K_Ib_105 (s_Ib_105 p0 p1 f a g) (wL rS d.lines<|u3 j<|v1 k<|wN a.length<|z0) ?_ (by kernel_rfl)
   exact hout g (qj hm).symm
 ·refine gm c_Ib_105 K_Ib_105 (s_Ib_105 p0 p1 f a g) (wL rS d.lines<|v3 j<|v1 eF<|wN a.length<|z0) ?_ (by kernel_rfl)
  exact hout g (qj hm).symm
theorem ok_Ib_65 (p0:LZ) (p1 d:Int) (g:Za) (a:LI) (f:LB) (y) (hm:m_Ib_65 p0 p1 d g a f=some y) (Q)
  (hin:∀ s,y=.inl s→EE c_Ib_17 K_Ib_17 (s_Ib_17 p0 p1 s.1 s.2) Q) (hout:∀ e,y=.inr e→O_Ib_17 Q e):EE c_Ib_65 K_Ib_65 (s_Ib_65 p0 p1 d g a f) Q:=by
 refine gm c_Ib_72 K_Ib_72 (s_Ib_72 p0 p1 d g a f (-1) 0) (wN a.length<|wN f.length<|z0) ?_ (by kernel_rfl)
 obtain ⟨e,he,hm⟩:=bind_some hm
 refine loop_rule (u:=.c c_Ib_72) (K:=K_Ib_72) (Q:=Q) (b:=lp_Ib_72 p0 p1 d g a f) (We:=O_Ib_72 p0 p1 d a Q) (stJ:=fun s=>s_Ib_72 p0 p1 d g a f s.1 s.2) (s:=((-1),0)) (fun s y hb hin hout=>ok_Ib_72 p0 p1 d g a f s.1 s.2 y hb Q hin hout) he ?_
 show EE c_Ib_105 K_Ib_105 (s_Ib_105 p0 p1 d a e) _
 exact ok_Ib_105 p0 p1 d a e y hm Q hin hout
theorem ok_Ib_34 (p0:LZ) (p1 h:Int) (i:Za) (b:LI) (m:Int) (c:LB) (y) (hm:m_Ib_34 p0 p1 h i b m c=some y) (Q)
  (hin:∀ s,y=.inl s→EE c_Ib_34 K_Ib_34 (s_Ib_34 p0 p1 h i b s.1 s.2) Q) (hout:∀ e,y=.inr e→O_Ib_34 p0 p1 h i b Q e):EE c_Ib_34 K_Ib_34 (s_Ib_34 p0 p1 h i b m c) Q:=by
 obtain ⟨j,hm⟩|⟨j,hm⟩:=split_ite hm
 ·obtain ⟨k,f,hm⟩:=bind_some hm
  obtain ⟨a,hm⟩|⟨a,hm⟩:=split_ite hm
  ·obtain ⟨l,g,hm⟩:=bind_some hm
   obtain ⟨d,hm⟩|⟨d,hm⟩:=split_ite hm
   ·exact gw (ok_Ib_46 _ _ _ _ _ _ _ _ y hm Q hin hout) (u1 j<|wO (.row ((rI .i64) k))<|wP (rd_in rfl f)<|wP (at_row (rI .i64) (rd_get0 f))<|u3 a<|wO (.row (rZa l))<|wP (rd_nn g)<|wP (at_row rZa (rd_get g))<|u4 a<|u2 a<|u4 d<|u1 d<|wO (.row (rZa l))<|wP (rd_nn g)<|wP (at_row rZa (rd_get g))<|u4 d<|wN b.length<|wN c.length<|z0) (by kernel_rfl)
   ·exact gw (ok_Ib_46 _ _ _ _ _ _ _ _ y hm Q hin hout) (u1 j<|wO (.row ((rI .i64) k))<|wP (rd_in rfl f)<|wP (at_row (rI .i64) (rd_get0 f))<|u3 a<|wO (.row (rZa l))<|wP (rd_nn g)<|wP (at_row rZa (rd_get g))<|u4 a<|u2 a<|v4 d<|v4 d<|v1 d<|wN b.length<|wN c.length<|z0) (by kernel_rfl)
  ·exact gw (ok_Ib_46 _ _ _ _ _ _ _ _ y hm Q hin hout) (u1 j<|wO (.row ((rI .i64) k))<|wP (rd_in rfl f)<|wP (at_row (rI .i64) (rd_get0 f))<|v4 a<|v4 a<|v1 a<|v4 eF<|v4 eF<|v1 eF<|wN b.length<|wN c.length<|z0) (by kernel_rfl)
 ·refine gm c_Ib_65 K_Ib_65 (s_Ib_65 p0 p1 h i b c) (v1 j<|wN b.length<|wN c.length<|z0) ?_ (by kernel_rfl)
  exact hout c (qj hm).symm
theorem ok_Ib_107 (a r:LI) (hm:m_Ib_107 a=some r):EE c_Ib_107 K_Ib_107 (s_Ib_107 a) (Post vf_Ib (res_Ib r)):=by
 exact ge (wR (rI .i64) a<|z0) (congrArg res_Ib (qj hm)) (by kernel_rfl)
theorem ok_Ib_17 (p0:LZ) (p1 d:Int) (a:LI) (y) (hm:m_Ib_17 p0 p1 d a=some y) (Q)
  (hin:∀ s,y=.inl s→EE c_Ib_17 K_Ib_17 (s_Ib_17 p0 p1 s.1 s.2) Q) (hout:∀ e,y=.inr e→O_Ib_17 Q e):EE c_Ib_17 K_Ib_17 (s_Ib_17 p0 p1 d a) Q:=by
 obtain ⟨g,hm⟩|⟨g,hm⟩:=split_ite hm
 ·obtain ⟨f,h,hm⟩:=bind_some hm
  obtain ⟨j,i,hm⟩:=bind_some hm
  refine gm c_Ib_34 K_Ib_34 (s_Ib_34 p0 p1 d f a 0 (List.replicate (Int.toNat p1) (false:Bool))) (u1 g<|wO (.row (rZa f))<|wO (.rows (mb (List.replicate (Int.toNat p1) (false:Bool))))<|wO (zn (Int.toNat p1))<|wP (rd_nn h)<|wP (at_row rZa (rd_get h))<|wP (ck_p i)<|wP (rep_ob rB (Int.toNat p1) (false:Bool) [.lit (.bool false)] (by kernel_rfl))<|wP (len_map rB (show (Int.toNat p1)=(List.replicate (Int.toNat p1) (false:Bool)).length from (rep_len (Int.toNat p1) (false:Bool))))<|wN a.length<|wO (zn ((List.replicate (Int.toNat p1) (false:Bool)).length))<|wP (lens (Int.toNat p1) ((List.replicate (Int.toNat p1) (false:Bool)).length) (rep_len (Int.toNat p1) (false:Bool)))<|z0) ?_ (by kernel_rfl)
  obtain ⟨e,he,hm⟩:=bind_some hm
  refine loop_rule (u:=.c c_Ib_34) (K:=K_Ib_34) (Q:=Q) (b:=lp_Ib_34 p0 p1 d f a) (We:=O_Ib_34 p0 p1 d f a Q) (stJ:=fun s=>s_Ib_34 p0 p1 d f a s.1 s.2) (s:=(0,(List.replicate (Int.toNat p1) (false:Bool)))) (fun s y hb hin hout=>ok_Ib_34 p0 p1 d f a s.1 s.2 y hb Q hin hout) he ?_
  show EE c_Ib_65 K_Ib_65 (s_Ib_65 p0 p1 d f a e) _
  exact ok_Ib_65 p0 p1 d f a e y hm Q hin hout
 ·refine gm c_Ib_107 K_Ib_107 (s_Ib_107 a) (v1 g<|wN a.length<|z0) ?_ (by kernel_rfl)
  exact hout a (qj hm).symm
theorem ok_Ib_0 (p0:LZ) (p1:Int) (r:LI) (hm:m_Ib_0 p0 p1=some r):EE c_Ib_0 K_Ib_0 (s_Ib_0 p0 p1) (Post vf_Ib (res_Ib r)):=by
 obtain ⟨a,f,hm⟩:=bind_some hm
 obtain ⟨d,hm⟩|⟨d,hm⟩:=split_ite hm
 ·obtain ⟨g,hm⟩|⟨g,hm⟩:=split_ite hm
  ·exact ge (wO (.res (res_Ia a))<|wP (ok_Ia p0 a f)<|v3 (not_f d)<|u3 g<|u1 eT<|wO (.rows (mi ([]:LI)))<|wP (all_le0 (rI .i64) ([]:LI) rfl)<|wP (all_t (rI .i64) ([]:LI) rfl)<|z0) (congrArg res_Ib (qj hm)) (by kernel_rfl)
  ·obtain ⟨h,hm⟩|⟨h,hm⟩:=split_ite hm
   ·exact ge (wO (.res (res_Ia a))<|wP (ok_Ia p0 a f)<|v3 (not_f d)<|v3 g<|u1 h<|wO (.rows (mi ([]:LI)))<|wP (all_le0 (rI .i64) ([]:LI) rfl)<|wP (all_t (rI .i64) ([]:LI) rfl)<|z0) (congrArg res_Ib (qj hm)) (by kernel_rfl)
   ·refine gm c_Ib_17 K_Ib_17 (s_Ib_17 p0 p1 0 ([]:LI)) (wO (.res (res_Ia a))<|wP (ok_Ia p0 a f)<|v3 (not_f d)<|v3 g<|v1 h<|wL rZa p0<|wO (zn (([]:LI).length))<|wP (lens 0 (([]:LI).length) rfl)<|z0) ?_ (by kernel_rfl)
    obtain ⟨e,he,hm⟩:=bind_some hm
    refine loop_rule (u:=.c c_Ib_17) (K:=K_Ib_17) (Q:=(Post vf_Ib (res_Ib r))) (b:=lp_Ib_17 p0 p1) (We:=O_Ib_17 (Post vf_Ib (res_Ib r))) (stJ:=fun s=>s_Ib_17 p0 p1 s.1 s.2) (s:=(0,([]:LI))) (fun s y hb hin hout=>ok_Ib_17 p0 p1 s.1 s.2 y hb (Post vf_Ib (res_Ib r)) hin hout) he ?_
    show EE c_Ib_107 K_Ib_107 (s_Ib_107 e) _
    exact ok_Ib_107 e r hm
 ·exact ge (wO (.res (res_Ia a))<|wP (ok_Ia p0 a f)<|u3 (not_t d)<|u4 eT<|wO (.rows (mi ([]:LI)))<|wP (all_le0 (rI .i64) ([]:LI) rfl)<|wP (all_t (rI .i64) ([]:LI) rfl)<|z0) (congrArg res_Ib (qj hm)) (by kernel_rfl)
theorem ok_Ib (p0:LZ) (p1:Int) (r:LI) (hm:m_Ib p0 p1=some r):Runs ext tbl 9 (as_Ib p0 p1) (res_Ib r):=
 runs_of (vf:=vf_Ib) (by kernel_rfl) rfl (st:=(enter vf_Ib (as_Ib p0 p1)).getD default) (by kernel_rfl) (go_on [] 1000 J0 (ok_Ib_0 p0 p1 r hm) (by kernel_rfl))
theorem ok_Sh_0 (p0:Int) (r:Bool) (hm:m_Sh_0 p0=some r):EE c_Sh_0 K_Sh_0 (s_Sh_0 p0) (Post vf_Sh (res_Sh r)):=by
 obtain ⟨a,hm⟩|⟨a,hm⟩:=split_ite hm
 ·exact ge (u3 a<|z0) (congrArg res_Sh (qj hm)) (by kernel_rfl)
 ·exact ge (v3 a<|z0) (congrArg res_Sh (qj hm)) (by kernel_rfl)
theorem ok_Sh (p0:Int) (r:Bool) (hm:m_Sh p0=some r):Runs ext tbl 33 (as_Sh p0) (res_Sh r):=
 runs_of (vf:=vf_Sh) (by kernel_rfl) rfl (st:=(enter vf_Sh (as_Sh p0)).getD default) (by kernel_rfl) (go_on [] 1000 J0 (ok_Sh_0 p0 r hm) (by kernel_rfl))
def O_Sd_7 (Q:VX→St→Prop) (e:(Bool)⊕((Unit))):Prop:=match e with | .inl e=>Q=Post vf_Sd (res_Sd e) | .inr e=>EE c_Sd_23 K_Sd_23 (s_Sd_23) Q
theorem ok_Sd_23 (r:Bool) (hm:m_Sd_23=some r):EE c_Sd_23 K_Sd_23 (s_Sd_23) (Post vf_Sd (res_Sd r)):=by
 exact ge (z0) (congrArg res_Sd (qj hm)) (by kernel_rfl)
theorem ok_Sd_7 (p0:ByteArray) (g:Int) (y) (hm:m_Sd_7 p0 g=some y) (Q)
  (hin:∀ s,y=.inl s→EE c_Sd_7 K_Sd_7 (s_Sd_7 p0 s) Q) (hout:∀ e,y=.inr e→O_Sd_7 Q e):EE c_Sd_7 K_Sd_7 (s_Sd_7 p0 g) Q:=by
 obtain ⟨c,hm⟩|⟨c,hm⟩:=split_ite hm
 ·obtain ⟨d,a,hm⟩:=bind_some hm
  obtain ⟨b,hm⟩|⟨b,hm⟩:=split_ite hm
  ·have hQ:Q=Post vf_Sd (res_Sd false):=hout (.inl false) (qj hm).symm
   subst hQ
   exact ge (u1 c<|wO (.int d)<|wP (sat_nn a)<|wP (sat_at a)<|u4 b<|u1 b<|u1 eT<|z0) (rfl:res_Sd false=res_Sd false) (by kernel_rfl)
  ·obtain ⟨f,hm⟩|⟨f,hm⟩:=split_ite hm
   ·have hQ:Q=Post vf_Sd (res_Sd false):=hout (.inl false) (qj hm).symm
    subst hQ
    exact ge (u1 c<|wO (.int d)<|wP (sat_nn a)<|wP (sat_at a)<|v3 b<|wO (.int d)<|wP (sat_nn a)<|wP (sat_at a)<|v2 b<|u1 f<|z0) (rfl:res_Sd false=res_Sd false) (by kernel_rfl)
   ·exact gw (hin _ (qj hm).symm) (u1 c<|wO (.int d)<|wP (sat_nn a)<|wP (sat_at a)<|v3 b<|wO (.int d)<|wP (sat_nn a)<|wP (sat_at a)<|v2 b<|v1 f<|z0) (by kernel_rfl)
 ·refine gm c_Sd_23 K_Sd_23 (s_Sd_23) (v1 c<|z0) ?_ (by kernel_rfl)
  exact hout (.inr ()) (qj hm).symm
theorem ok_Sd_0 (p0:ByteArray) (r:Bool) (hm:m_Sd_0 p0=some r):EE c_Sd_0 K_Sd_0 (s_Sd_0 p0) (Post vf_Sd (res_Sd r)):=by
 refine gm c_Sd_7 K_Sd_7 (s_Sd_7 p0 0) (z0) ?_ (by kernel_rfl)
 obtain ⟨e,he,hm⟩:=bind_some hm
 refine loop_rule (u:=.c c_Sd_7) (K:=K_Sd_7) (Q:=(Post vf_Sd (res_Sd r))) (b:=lp_Sd_7 p0) (We:=O_Sd_7 (Post vf_Sd (res_Sd r))) (stJ:=fun s=>s_Sd_7 p0 s) (s:=0) (fun s y hb hin hout=>ok_Sd_7 p0 s y hb (Post vf_Sd (res_Sd r)) hin hout) he ?_
 rcases e with e | e
 ·exact congrArg (fun r=>Post vf_Sd (res_Sd r)) (qj hm).symm
 ·show EE c_Sd_23 K_Sd_23 (s_Sd_23) _
  exact ok_Sd_23 r hm
theorem ok_Sd (p0:ByteArray) (r:Bool) (hm:m_Sd p0=some r):Runs ext tbl 50 (as_Sd p0) (res_Sd r):=
 runs_of (vf:=vf_Sd) (by kernel_rfl) rfl (st:=(enter vf_Sd (as_Sd p0)).getD default) (by kernel_rfl) (go_on [] 1000 J0 (ok_Sd_0 p0 r hm) (by kernel_rfl))
def O_Sg_7 (p0:(List ByteArray)) (Q:VX→St→Prop) (e:(Bool)⊕((Unit))):Prop:=match e with | .inl e=>Q=Post vf_Sg (res_Sg e) | .inr e=>EE c_Sg_25 K_Sg_25 (s_Sg_25 p0) Q
theorem ok_Sg_25 (p0:(List ByteArray)) (r:Bool) (hm:m_Sg_25 p0=some r):EE c_Sg_25 K_Sg_25 (s_Sg_25 p0) (Post vf_Sg (res_Sg r)):=by
 obtain ⟨a,hm⟩|⟨a,hm⟩:=split_ite hm
 ·exact ge (wL rS p0<|u2 a<|wL rS p0<|u2 a<|z0) (congrArg res_Sg (qj hm)) (by kernel_rfl)
 ·exact ge (wL rS p0<|v4 a<|z0) (congrArg res_Sg (qj hm)) (by kernel_rfl)
theorem ok_Sg_7 (p0:(List ByteArray)) (o:Int) (y) (hm:m_Sg_7 p0 o=some y) (Q)
  (hin:∀ s,y=.inl s→EE c_Sg_7 K_Sg_7 (s_Sg_7 p0 s) Q) (hout:∀ e,y=.inr e→O_Sg_7 p0 Q e):EE c_Sg_7 K_Sg_7 (s_Sg_7 p0 o) Q:=by
 obtain ⟨f,hm⟩|⟨f,hm⟩:=split_ite hm
 ·obtain ⟨a,b,hm⟩:=bind_some hm
  obtain ⟨h,hm⟩|⟨h,hm⟩:=split_ite hm
  ·have hQ:Q=Post vf_Sg (res_Sg false):=hout (.inl false) (qj hm).symm
   subst hQ
   exact ge (u1 f<|wO (.row (rS a))<|wP (rd_nn b)<|wP (at_row rS (rd_get b))<|u4 h<|u4 eT<|u4 eT<|u4 eT<|u3 eT<|z0) (rfl:res_Sg false=res_Sg false) (by kernel_rfl)
  ·obtain ⟨d,hm⟩|⟨d,hm⟩:=split_ite hm
   ·have hQ:Q=Post vf_Sg (res_Sg false):=hout (.inl false) (qj hm).symm
    subst hQ
    exact ge (u1 f<|wO (.row (rS a))<|wP (rd_nn b)<|wP (at_row rS (rd_get b))<|v4 h<|u4 d<|u4 eT<|u4 eT<|u3 eT<|z0) (rfl:res_Sg false=res_Sg false) (by kernel_rfl)
   ·obtain ⟨g,k,hm⟩:=bind_some hm
    obtain ⟨c,hm⟩|⟨c,hm⟩:=split_ite hm
    ·obtain ⟨m,i,hm⟩:=bind_some hm
     obtain ⟨j,hm⟩|⟨j,hm⟩:=split_ite hm
     ·have hQ:Q=Post vf_Sg (res_Sg false):=hout (.inl false) (qj hm).symm
      subst hQ
      exact ge (u1 f<|wO (.row (rS a))<|wP (rd_nn b)<|wP (at_row rS (rd_get b))<|v4 h<|v2 d<|wO (.res (res_Sd g))<|wP (ok_Sd a g k)<|v2 d<|v4 (not_f c)<|v1 (not_f c)<|wO (.int m)<|wP (sat_nn i)<|wP (sat_at i)<|v2 (not_f c)<|u3 j<|u1 eT<|z0) (rfl:res_Sg false=res_Sg false) (by kernel_rfl)
     ·obtain ⟨l,p,hm⟩:=bind_some hm
      obtain ⟨n,hm⟩|⟨n,hm⟩:=split_ite hm
      ·have hQ:Q=Post vf_Sg (res_Sg false):=hout (.inl false) (qj hm).symm
       subst hQ
       exact ge (u1 f<|wO (.row (rS a))<|wP (rd_nn b)<|wP (at_row rS (rd_get b))<|v4 h<|v2 d<|wO (.res (res_Sd g))<|wP (ok_Sd a g k)<|v2 d<|v4 (not_f c)<|v1 (not_f c)<|wO (.int m)<|wP (sat_nn i)<|wP (sat_at i)<|v2 (not_f c)<|v2 j<|wO (.res (res_Sf l))<|wP (ok_Sf a l p)<|v1 j<|u1 n<|z0) (rfl:res_Sg false=res_Sg false) (by kernel_rfl)
      ·exact gw (hin _ (qj hm).symm) (u1 f<|wO (.row (rS a))<|wP (rd_nn b)<|wP (at_row rS (rd_get b))<|v4 h<|v2 d<|wO (.res (res_Sd g))<|wP (ok_Sd a g k)<|v2 d<|v4 (not_f c)<|v1 (not_f c)<|wO (.int m)<|wP (sat_nn i)<|wP (sat_at i)<|v2 (not_f c)<|v2 j<|wO (.res (res_Sf l))<|wP (ok_Sf a l p)<|v1 j<|v1 n<|z0) (by kernel_rfl)
    ·have hQ:Q=Post vf_Sg (res_Sg false):=hout (.inl false) (qj hm).symm
     subst hQ
     exact ge (u1 f<|wO (.row (rS a))<|wP (rd_nn b)<|wP (at_row rS (rd_get b))<|v4 h<|v2 d<|wO (.res (res_Sd g))<|wP (ok_Sd a g k)<|v2 d<|u4 (not_t c)<|u3 (not_t c)<|u4 eT<|z0) (rfl:res_Sg false=res_Sg false) (by kernel_rfl)
 ·refine gm c_Sg_25 K_Sg_25 (s_Sg_25 p0) (v1 f<|z0) ?_ (by kernel_rfl)
  exact hout (.inr ()) (qj hm).symm
theorem ok_Sg_0 (p0:(List ByteArray)) (r:Bool) (hm:m_Sg_0 p0=some r):EE c_Sg_0 K_Sg_0 (s_Sg_0 p0) (Post vf_Sg (res_Sg r)):=by
 refine gm c_Sg_7 K_Sg_7 (s_Sg_7 p0 0) (wL rS p0<|z0) ?_ (by kernel_rfl)
 obtain ⟨e,he,hm⟩:=bind_some hm
 refine loop_rule (u:=.c c_Sg_7) (K:=K_Sg_7) (Q:=(Post vf_Sg (res_Sg r))) (b:=lp_Sg_7 p0) (We:=O_Sg_7 p0 (Post vf_Sg (res_Sg r))) (stJ:=fun s=>s_Sg_7 p0 s) (s:=0) (fun s y hb hin hout=>ok_Sg_7 p0 s y hb (Post vf_Sg (res_Sg r)) hin hout) he ?_
 rcases e with e | e
 ·exact congrArg (fun r=>Post vf_Sg (res_Sg r)) (qj hm).symm
 ·show EE c_Sg_25 K_Sg_25 (s_Sg_25 p0) _
  exact ok_Sg_25 p0 r hm
theorem ok_Sg (p0:(List ByteArray)) (r:Bool) (hm:m_Sg p0=some r):Runs ext tbl 42 (as_Sg p0) (res_Sg r):=
 runs_of (vf:=vf_Sg) (by kernel_rfl) rfl (st:=(enter vf_Sg (as_Sg p0)).getD default) (by kernel_rfl) (go_on [] 1000 J0 (ok_Sg_0 p0 r hm) (by kernel_rfl))
def O_Sb_15 (Q:VX→St→Prop) (e:(Bool)⊕((Unit))):Prop:=match e with | .inl e=>Q=Post vf_Sb (res_Sb e) | .inr e=>EE c_Sb_33 K_Sb_33 (s_Sb_33) Q
theorem ok_Sb_33 (r:Bool) (hm:m_Sb_33=some r):EE c_Sb_33 K_Sb_33 (s_Sb_33) (Post vf_Sb (res_Sb r)):=by
 exact ge (z0) (congrArg res_Sb (qj hm)) (by kernel_rfl)
theorem ok_Sb_15 (p0:LZ) (r:Int) (y) (hm:m_Sb_15 p0 r=some y) (Q)
  (hin:∀ s,y=.inl s→EE c_Sb_15 K_Sb_15 (s_Sb_15 p0 s) Q) (hout:∀ e,y=.inr e→O_Sb_15 Q e):EE c_Sb_15 K_Sb_15 (s_Sb_15 p0 r) Q:=by
 obtain ⟨k,hm⟩|⟨k,hm⟩:=split_ite hm
 ·obtain ⟨a,c,hm⟩:=bind_some hm
  obtain ⟨d,m,hm⟩:=bind_some hm
  obtain ⟨b,hm⟩|⟨b,hm⟩:=split_ite hm
  ·obtain ⟨h,n,hm⟩:=bind_some hm
   obtain ⟨f,hm⟩|⟨f,hm⟩:=split_ite hm
   ·obtain ⟨j,hm⟩|⟨j,hm⟩:=split_ite hm
    ·have hQ:Q=Post vf_Sb (res_Sb false):=hout (.inl false) (qj hm).symm
     subst hQ
     exact ge (u1 k<|wO (.row (rZa a))<|wO (.res (res_Sh d))<|wP (rd_nn c)<|wP (at_row rZa (rd_get c))<|wP (ok_Sh a.from_ d m)<|v3 (not_f b)<|wO (.res (res_Sh h))<|wP (ok_Sh a.to_ h n)<|v2 (not_f b)<|v4 (not_f f)<|v2 (not_f f)<|u4 j<|u1 j<|u4 eT<|u2 eT<|z0) (rfl:res_Sb false=res_Sb false) (by kernel_rfl)
    ·obtain ⟨l,o,hm⟩:=bind_some hm
     obtain ⟨i,hm⟩|⟨i,hm⟩:=split_ite hm
     ·obtain ⟨g,hm⟩|⟨g,hm⟩:=split_ite hm
      ·obtain ⟨t,p,hm⟩:=bind_some hm
       obtain ⟨q,hm⟩|⟨q,hm⟩:=split_ite hm
       ·have hQ:Q=Post vf_Sb (res_Sb false):=hout (.inl false) (qj hm).symm
        subst hQ
        exact ge (u1 k<|wO (.row (rZa a))<|wO (.res (res_Sh d))<|wP (rd_nn c)<|wP (at_row rZa (rd_get c))<|wP (ok_Sh a.from_ d m)<|v3 (not_f b)<|wO (.res (res_Sh h))<|wP (ok_Sh a.to_ h n)<|v2 (not_f b)<|v4 (not_f f)<|v2 (not_f f)<|v3 j<|wO (.res (res_Sg l))<|wP (ok_Sg a.lines l o)<|v2 j<|v3 (not_f i)<|u4 g<|u2 g<|wO (.row (rZa t))<|wP (rd_nn p)<|wP (at_row rZa (rd_get p))<|u3 g<|v1 (not_f i)<|u1 g<|v1 (not_f i)<|u1 q<|z0) (rfl:res_Sb false=res_Sb false) (by kernel_rfl)
       ·exact gw (hin _ (qj hm).symm) (u1 k<|wO (.row (rZa a))<|wO (.res (res_Sh d))<|wP (rd_nn c)<|wP (at_row rZa (rd_get c))<|wP (ok_Sh a.from_ d m)<|v3 (not_f b)<|wO (.res (res_Sh h))<|wP (ok_Sh a.to_ h n)<|v2 (not_f b)<|v4 (not_f f)<|v2 (not_f f)<|v3 j<|wO (.res (res_Sg l))<|wP (ok_Sg a.lines l o)<|v2 j<|v3 (not_f i)<|u4 g<|u2 g<|wO (.row (rZa t))<|wP (rd_nn p)<|wP (at_row rZa (rd_get p))<|u3 g<|v1 (not_f i)<|u1 g<|v1 (not_f i)<|v1 q<|z0) (by kernel_rfl)
      ·exact gw (hin _ (qj hm).symm) (u1 k<|wO (.row (rZa a))<|wO (.res (res_Sh d))<|wP (rd_nn c)<|wP (at_row rZa (rd_get c))<|wP (ok_Sh a.from_ d m)<|v3 (not_f b)<|wO (.res (res_Sh h))<|wP (ok_Sh a.to_ h n)<|v2 (not_f b)<|v4 (not_f f)<|v2 (not_f f)<|v3 j<|wO (.res (res_Sg l))<|wP (ok_Sg a.lines l o)<|v2 j<|v3 (not_f i)<|v4 g<|v4 g<|v1 g<|v1 (not_f i)<|v1 g<|v1 (not_f i)<|v1 eF<|z0) (by kernel_rfl)
     ·have hQ:Q=Post vf_Sb (res_Sb false):=hout (.inl false) (qj hm).symm
      subst hQ
      exact ge (u1 k<|wO (.row (rZa a))<|wO (.res (res_Sh d))<|wP (rd_nn c)<|wP (at_row rZa (rd_get c))<|wP (ok_Sh a.from_ d m)<|v3 (not_f b)<|wO (.res (res_Sh h))<|wP (ok_Sh a.to_ h n)<|v2 (not_f b)<|v4 (not_f f)<|v2 (not_f f)<|v3 j<|wO (.res (res_Sg l))<|wP (ok_Sg a.lines l o)<|v2 j<|u4 (not_t i)<|u1 (not_t i)<|u1 eT<|z0) (rfl:res_Sb false=res_Sb false) (by kernel_rfl)
   ·have hQ:Q=Post vf_Sb (res_Sb false):=hout (.inl false) (qj hm).symm
    subst hQ
    exact ge (u1 k<|wO (.row (rZa a))<|wO (.res (res_Sh d))<|wP (rd_nn c)<|wP (at_row rZa (rd_get c))<|wP (ok_Sh a.from_ d m)<|v3 (not_f b)<|wO (.res (res_Sh h))<|wP (ok_Sh a.to_ h n)<|v2 (not_f b)<|u4 (not_t f)<|u2 (not_t f)<|u4 eT<|u4 eT<|u3 eT<|z0) (rfl:res_Sb false=res_Sb false) (by kernel_rfl)
  ·have hQ:Q=Post vf_Sb (res_Sb false):=hout (.inl false) (qj hm).symm
   subst hQ
   exact ge (u1 k<|wO (.row (rZa a))<|wO (.res (res_Sh d))<|wP (rd_nn c)<|wP (at_row rZa (rd_get c))<|wP (ok_Sh a.from_ d m)<|u4 (not_t b)<|u1 (not_t b)<|u4 eT<|u4 eT<|u4 eT<|u4 eT<|u1 eT<|z0) (rfl:res_Sb false=res_Sb false) (by kernel_rfl)
 ·refine gm c_Sb_33 K_Sb_33 (s_Sb_33) (v1 k<|z0) ?_ (by kernel_rfl)
  exact hout (.inr ()) (qj hm).symm
theorem ok_Sb_0 (p0:LZ) (r:Bool) (hm:m_Sb_0 p0=some r):EE c_Sb_0 K_Sb_0 (s_Sb_0 p0) (Post vf_Sb (res_Sb r)):=by
 obtain ⟨a,hm⟩|⟨a,hm⟩:=split_ite hm
 ·exact ge (wL rZa p0<|u1 a<|z0) (congrArg res_Sb (qj hm)) (by kernel_rfl)
 ·refine gm c_Sb_15 K_Sb_15 (s_Sb_15 p0 0) (wL rZa p0<|v1 a<|wL rZa p0<|z0) ?_ (by kernel_rfl)
  obtain ⟨e,he,hm⟩:=bind_some hm
  refine loop_rule (u:=.c c_Sb_15) (K:=K_Sb_15) (Q:=(Post vf_Sb (res_Sb r))) (b:=lp_Sb_15 p0) (We:=O_Sb_15 (Post vf_Sb (res_Sb r))) (stJ:=fun s=>s_Sb_15 p0 s) (s:=0) (fun s y hb hin hout=>ok_Sb_15 p0 s y hb (Post vf_Sb (res_Sb r)) hin hout) he ?_
  rcases e with e | e
  ·exact congrArg (fun r=>Post vf_Sb (res_Sb r)) (qj hm).symm
  ·show EE c_Sb_33 K_Sb_33 (s_Sb_33) _
   exact ok_Sb_33 r hm
theorem ok_Sb (p0:LZ) (r:Bool) (hm:m_Sb p0=some r):Runs ext tbl 27 (as_Sb p0) (res_Sb r):=
 runs_of (vf:=vf_Sb) (by kernel_rfl) rfl (st:=(enter vf_Sb (as_Sb p0)).getD default) (by kernel_rfl) (go_on [] 1000 J0 (ok_Sb_0 p0 r hm) (by kernel_rfl))
def O_Sc_49 (p0:LZ) (p1 a b:Int) (c:Za) (d:LI) (Q:VX→St→Prop) (e:(LB)):Prop:=EE c_Sc_62 K_Sc_62 (s_Sc_62 p0 p1 a b c d e) Q
def O_Sc_85 (p0:LZ) (p1 a b c:Int) (d:Za) (f:LI) (g:LB) (Q:VX→St→Prop) (e:(Bool)):Prop:=EE c_Sc_97 K_Sc_97 (s_Sc_97 p0 p1 a b c d f g e) Q
def O_Sc_70 (p0:LZ) (p1 a:Int) (b:LI) (Q:VX→St→Prop) (e:(Int)):Prop:=EE c_Sc_103 K_Sc_103 (s_Sc_103 p0 p1 a b e) Q
def O_Sc_34 (p0:LZ) (p1 a:Int) (b:Za) (c:LI) (Q:VX→St→Prop) (e:(LB)):Prop:=EE c_Sc_63 K_Sc_63 (s_Sc_63 p0 p1 a b c e) Q
def O_Sc_17 (Q:VX→St→Prop) (e:(LI)):Prop:=EE c_Sc_105 K_Sc_105 (s_Sc_105 e) Q
theorem ok_Sc_62 (p0:LZ) (p1 b f:Int) (c:Za) (a:LI) (d:LB) (y) (hm:m_Sc_62 p0 p1 b f c a d=some y) (Q)
  (hin:∀ s,y=.inl s→EE c_Sc_34 K_Sc_34 (s_Sc_34 p0 p1 b c a s.1 s.2) Q) (hout:∀ e,y=.inr e→O_Sc_34 p0 p1 b c a Q e):EE c_Sc_62 K_Sc_62 (s_Sc_62 p0 p1 b f c a d) Q:=by
 exact gw (hin _ (qj hm).symm) (wN a.length<|wN d.length<|z0) (by kernel_rfl)
theorem ok_Sc_49 (p0:LZ) (p1 c d:Int) (i f:Za) (b:LI) (g:Int) (a:LB) (y) (hm:m_Sc_49 p0 p1 c d i f b g a=some y) (Q)
  (hin:∀ s,y=.inl s→EE c_Sc_49 K_Sc_49 (s_Sc_49 p0 p1 c d i f b s.1 s.2) Q) (hout:∀ e,y=.inr e→O_Sc_49 p0 p1 c d f b Q e):EE c_Sc_49 K_Sc_49 (s_Sc_49 p0 p1 c d i f b g a) Q:=by
 obtain ⟨j,hm⟩|⟨j,hm⟩:=split_ite hm
 ·obtain ⟨h,k,hm⟩:=bind_some hm
  obtain ⟨m,l,hm⟩:=bind_some hm
  exact gw (hin _ (qj hm).symm) (u1 j<|wO (.row ((rI .i64) h))<|wO (.rows (mb (a.set (0+Int.toNat (w64 (h+g))) true)))<|wP (rd_in rfl k)<|wP (at_row (rI .i64) (rd_get0 k))<|wP (rd_in rfl l)<|wP (put_ob rB true 0 (.lit (.bool true)) (rd_get0 l) (by kernel_rfl) (by kernel_rfl))<|wN b.length<|wO (zn ((a.set (0+Int.toNat (w64 (h+g))) true).length))<|wP (lens a.length ((a.set (0+Int.toNat (w64 (h+g))) true).length) (set_len rfl))<|z0) (by kernel_rfl)
 ·refine gm c_Sc_62 K_Sc_62 (s_Sc_62 p0 p1 c d f b a) (v1 j<|wN b.length<|wN a.length<|z0) ?_ (by kernel_rfl)
  exact hout a (qj hm).symm
theorem ok_Sc_44 (p0:LZ) (p1 d g:Int) (f:Za) (a:LI) (h:LB) (k:Bool) (y) (hm:m_Sc_44 p0 p1 d g f a h k=some y) (Q)
  (hin:∀ s,y=.inl s→EE c_Sc_34 K_Sc_34 (s_Sc_34 p0 p1 d f a s.1 s.2) Q) (hout:∀ e,y=.inr e→O_Sc_34 p0 p1 d f a Q e):EE c_Sc_44 K_Sc_44 (s_Sc_44 p0 p1 d g f a h k) Q:=by
 obtain ⟨j,hm⟩|⟨j,hm⟩:=split_ite hm
 ·obtain ⟨i,l,hm⟩:=bind_some hm
  refine gm c_Sc_49 K_Sc_49 (s_Sc_49 p0 p1 d g i f a 0 h) (u1 j<|wO (.row (rZa i))<|wP (rd_nn l)<|wP (at_row rZa (rd_get l))<|wL rS i.lines<|wN a.length<|wN h.length<|z0) ?_ (by kernel_rfl)
  obtain ⟨e,he,hm⟩:=bind_some hm
  refine loop_rule (u:=.c c_Sc_49) (K:=K_Sc_49) (Q:=Q) (b:=lp_Sc_49 p0 p1 d g i f a) (We:=O_Sc_49 p0 p1 d g f a Q) (stJ:=fun s=>s_Sc_49 p0 p1 d g i f a s.1 s.2) (s:=(0,h)) (fun s y hb hin hout=>ok_Sc_49 p0 p1 d g i f a s.1 s.2 y hb Q hin hout) he ?_
  show EE c_Sc_62 K_Sc_62 (s_Sc_62 p0 p1 d g f a e) _
  exact ok_Sc_62 p0 p1 d g f a e y hm Q hin hout
 ·exact gw (ok_Sc_62 _ _ _ _ _ _ _ y hm Q hin hout) (v1 j<|wN a.length<|wN h.length<|z0) (by kernel_rfl)
theorem ok_Sc_97 (p0:LZ) (p1 g h c:Int) (d:Za) (a:LI) (b:LB) (i:Bool) (y) (hm:m_Sc_97 p0 p1 g h c d a b i=some y) (Q)
  (hin:∀ s,y=.inl s→EE c_Sc_70 K_Sc_70 (s_Sc_70 p0 p1 c d a b s.1 s.2) Q) (hout:∀ e,y=.inr e→O_Sc_70 p0 p1 c a Q e):EE c_Sc_97 K_Sc_97 (s_Sc_97 p0 p1 g h c d a b i) Q:=by
 obtain ⟨f,hm⟩|⟨f,hm⟩:=split_ite hm
 ·exact gw (hin _ (qj hm).symm) (u1 f<|wN a.length<|wN b.length<|z0) (by kernel_rfl)
 ·exact gw (hin _ (qj hm).symm) (v1 f<|wN a.length<|wN b.length<|z0) (by kernel_rfl)
end Go.Proofs.V

namespace Go.Proofs.V
open Go
theorem ok_Sc_85 (p0:LZ) (p1 d f g:Int) (h:Za) (a:LI) (b:LB) (i:Bool) (k:Int) (y) (hm:m_Sc_85 p0 p1 d f g h a b i k=some y) (Q)
  (hin:∀ s,y=.inl s→EE c_Sc_85 K_Sc_85 (s_Sc_85 p0 p1 d f g h a b s.1 s.2) Q) (hout:∀ e,y=.inr e→O_Sc_85 p0 p1 d f g h a b Q e):EE c_Sc_85 K_Sc_85 (s_Sc_85 p0 p1 d f g h a b i k) Q:=by
 obtain ⟨j,hm⟩|⟨j,hm⟩:=split_ite hm
 ·obtain ⟨c,hm⟩|⟨c,hm⟩:=split_ite hm
  ·obtain ⟨m,l,hm⟩:=bind_some hm
   exact gw (hin _ (qj hm).symm) (u1 j<|u4 c<|u1 c<|wP (rd_in rfl l)<|u1 c<|wO (.row (rB m))<|wP (at_row rB (rd_get0 l))<|u2 c<|wN a.length<|wN b.length<|z0) (by kernel_rfl)
  ·exact gw (hin _ (qj hm).symm) (u1 j<|v4 c<|v4 c<|wN a.length<|wN b.length<|z0) (by kernel_rfl)
 ·refine gm c_Sc_97 K_Sc_97 (s_Sc_97 p0 p1 d f g h a b i) (v1 j<|wN a.length<|wN b.length<|z0) ?_ (by kernel_rfl)
  exact hout i (qj hm).symm
theorem ok_Sc_103 (p0:LZ) (p1 c:Int) (b:LI) (a:Int) (y) (hm:m_Sc_103 p0 p1 c b a=some y) (Q)
  (hin:∀ s,y=.inl s→EE c_Sc_17 K_Sc_17 (s_Sc_17 p0 p1 s.1 s.2) Q) (hout:∀ e,y=.inr e→O_Sc_17 Q e):EE c_Sc_103 K_Sc_103 (s_Sc_103 p0 p1 c b a) Q:=by
 obtain ⟨f,d,hm⟩:=bind_some hm
 exact gw (hin _ (qj hm).symm) (wO (.rows (mi ([a]:LI)))<|wO (zn 1)<|wO (.rows (mi (b++([a]:LI))))<|wO (zn ((b++([a]:LI)).length))<|wO (zn ((b++([a]:LI)).length))<|wP (Eq.refl (mi ([a]:LI)))<|wP (len_map (rI .i64) (show 1=([a]:LI).length from rfl))<|wP (all_le (rI .i64) ([a]:LI) rfl)<|wP (app_ck (rI .i64) b ([a]:LI) rfl rfl d)<|wP (app_tell (rI .i64) b ([a]:LI) rfl rfl)<|wP (len_map (rI .i64) (show (b++([a]:LI)).length=(b++([a]:LI)).length from rfl))<|wP (lens ((b++([a]:LI)).length) ((b++([a]:LI)).length) rfl)<|z0) (by kernel_rfl)
theorem ok_Sc_70 (p0:LZ) (p1 d:Int) (f:Za) (a:LI) (g:LB) (h i:Int) (y) (hm:m_Sc_70 p0 p1 d f a g h i=some y) (Q)
  (hin:∀ s,y=.inl s→EE c_Sc_70 K_Sc_70 (s_Sc_70 p0 p1 d f a g s.1 s.2) Q) (hout:∀ e,y=.inr e→O_Sc_70 p0 p1 d a Q e):EE c_Sc_70 K_Sc_70 (s_Sc_70 p0 p1 d f a g h i) Q:=by
 obtain ⟨j,hm⟩|⟨j,hm⟩:=split_ite hm
 ·refine gm c_Sc_85 K_Sc_85 (s_Sc_85 p0 p1 h i d f a g true 0) (u1 j<|wL rS f.lines<|wN a.length<|wN g.length<|z0) ?_ (by kernel_rfl)
  obtain ⟨e,he,hm⟩:=bind_some hm
  refine loop_rule (u:=.c c_Sc_85) (K:=K_Sc_85) (Q:=Q) (b:=lp_Sc_85 p0 p1 h i d f a g) (We:=O_Sc_85 p0 p1 h i d f a g Q) (stJ:=fun s=>s_Sc_85 p0 p1 h i d f a g s.1 s.2) (s:=(true,0)) (fun s y hb hin hout=>ok_Sc_85 p0 p1 h i d f a g s.1 s.2 y hb Q hin hout) he ?_
  show EE c_Sc_97 K_Sc_97 (s_Sc_97 p0 p1 h i d f a g e) _
  exact ok_Sc_97 p0 p1 h i d f a g e y hm Q hin hout
 ·refine gm c_Sc_103 K_Sc_103 (s_Sc_103 p0 p1 d a h) (v1 j<|wN a.length<|z0) ?_ (by kernel_rfl)
  exact hout h (qj hm).symm
theorem ok_Sc_63 (p0:LZ) (p1 d:Int) (f:Za) (a:LI) (g:LB) (y) (hm:m_Sc_63 p0 p1 d f a g=some y) (Q)
  (hin:∀ s,y=.inl s→EE c_Sc_17 K_Sc_17 (s_Sc_17 p0 p1 s.1 s.2) Q) (hout:∀ e,y=.inr e→O_Sc_17 Q e):EE c_Sc_63 K_Sc_63 (s_Sc_63 p0 p1 d f a g) Q:=by
 refine gm c_Sc_70 K_Sc_70 (s_Sc_70 p0 p1 d f a g (-1) (w64 (p1 - (f.lines.length:Int)))) (wL rS f.lines<|wN a.length<|wN g.length<|z0) ?_ (by kernel_rfl)
 obtain ⟨e,he,hm⟩:=bind_some hm
 refine loop_rule (u:=.c c_Sc_70) (K:=K_Sc_70) (Q:=Q) (b:=lp_Sc_70 p0 p1 d f a g) (We:=O_Sc_70 p0 p1 d a Q) (stJ:=fun s=>s_Sc_70 p0 p1 d f a g s.1 s.2) (s:=((-1),(w64 (p1 - (f.lines.length:Int))))) (fun s y hb hin hout=>ok_Sc_70 p0 p1 d f a g s.1 s.2 y hb Q hin hout) he ?_
 show EE c_Sc_103 K_Sc_103 (s_Sc_103 p0 p1 d a e) _
 exact ok_Sc_103 p0 p1 d a e y hm Q hin hout
theorem ok_Sc_34 (p0:LZ) (p1 h:Int) (i:Za) (b:LI) (m:Int) (c:LB) (y) (hm:m_Sc_34 p0 p1 h i b m c=some y) (Q)
  (hin:∀ s,y=.inl s→EE c_Sc_34 K_Sc_34 (s_Sc_34 p0 p1 h i b s.1 s.2) Q) (hout:∀ e,y=.inr e→O_Sc_34 p0 p1 h i b Q e):EE c_Sc_34 K_Sc_34 (s_Sc_34 p0 p1 h i b m c) Q:=by
 obtain ⟨j,hm⟩|⟨j,hm⟩:=split_ite hm
 ·obtain ⟨k,f,hm⟩:=bind_some hm
  obtain ⟨a,hm⟩|⟨a,hm⟩:=split_ite hm
  ·obtain ⟨l,g,hm⟩:=bind_some hm
   obtain ⟨d,hm⟩|⟨d,hm⟩:=split_ite hm
   ·exact gw (ok_Sc_44 _ _ _ _ _ _ _ _ y hm Q hin hout) (u1 j<|wO (.row ((rI .i64) k))<|wP (rd_in rfl f)<|wP (at_row (rI .i64) (rd_get0 f))<|u3 a<|wO (.row (rZa l))<|wP (rd_nn g)<|wP (at_row rZa (rd_get g))<|u4 a<|u2 a<|u4 d<|u1 d<|wO (.row (rZa l))<|wP (rd_nn g)<|wP (at_row rZa (rd_get g))<|u4 d<|wN b.length<|wN c.length<|z0) (by kernel_rfl)
   ·exact gw (ok_Sc_44 _ _ _ _ _ _ _ _ y hm Q hin hout) (u1 j<|wO (.row ((rI .i64) k))<|wP (rd_in rfl f)<|wP (at_row (rI .i64) (rd_get0 f))<|u3 a<|wO (.row (rZa l))<|wP (rd_nn g)<|wP (at_row rZa (rd_get g))<|u4 a<|u2 a<|v4 d<|v4 d<|v1 d<|wN b.length<|wN c.length<|z0) (by kernel_rfl)
  ·exact gw (ok_Sc_44 _ _ _ _ _ _ _ _ y hm Q hin hout) (u1 j<|wO (.row ((rI .i64) k))<|wP (rd_in rfl f)<|wP (at_row (rI .i64) (rd_get0 f))<|v4 a<|v4 a<|v1 a<|v4 eF<|v4 eF<|v1 eF<|wN b.length<|wN c.length<|z0) (by kernel_rfl)
 ·refine gm c_Sc_63 K_Sc_63 (s_Sc_63 p0 p1 h i b c) (v1 j<|wN b.length<|wN c.length<|z0) ?_ (by kernel_rfl)
  exact hout c (qj hm).symm
theorem ok_Sc_105 (a r:LI) (hm:m_Sc_105 a=some r):EE c_Sc_105 K_Sc_105 (s_Sc_105 a) (Post vf_Sc (res_Sc r)):=by
 exact ge (wR (rI .i64) a<|z0) (congrArg res_Sc (qj hm)) (by kernel_rfl)
theorem ok_Sc_17 (p0:LZ) (p1 d:Int) (a:LI) (y) (hm:m_Sc_17 p0 p1 d a=some y) (Q)
  (hin:∀ s,y=.inl s→EE c_Sc_17 K_Sc_17 (s_Sc_17 p0 p1 s.1 s.2) Q) (hout:∀ e,y=.inr e→O_Sc_17 Q e):EE c_Sc_17 K_Sc_17 (s_Sc_17 p0 p1 d a) Q:=by
 obtain ⟨g,hm⟩|⟨g,hm⟩:=split_ite hm
 ·obtain ⟨f,h,hm⟩:=bind_some hm
  obtain ⟨j,i,hm⟩:=bind_some hm
  refine gm c_Sc_34 K_Sc_34 (s_Sc_34 p0 p1 d f a 0 (List.replicate (Int.toNat p1) (false:Bool))) (u1 g<|wO (.row (rZa f))<|wO (.rows (mb (List.replicate (Int.toNat p1) (false:Bool))))<|wO (zn (Int.toNat p1))<|wP (rd_nn h)<|wP (at_row rZa (rd_get h))<|wP (ck_p i)<|wP (rep_ob rB (Int.toNat p1) (false:Bool) [.lit (.bool false)] (by kernel_rfl))<|wP (len_map rB (show (Int.toNat p1)=(List.replicate (Int.toNat p1) (false:Bool)).length from (rep_len (Int.toNat p1) (false:Bool))))<|wN a.length<|wO (zn ((List.replicate (Int.toNat p1) (false:Bool)).length))<|wP (lens (Int.toNat p1) ((List.replicate (Int.toNat p1) (false:Bool)).length) (rep_len (Int.toNat p1) (false:Bool)))<|z0) ?_ (by kernel_rfl)
  obtain ⟨e,he,hm⟩:=bind_some hm
  refine loop_rule (u:=.c c_Sc_34) (K:=K_Sc_34) (Q:=Q) (b:=lp_Sc_34 p0 p1 d f a) (We:=O_Sc_34 p0 p1 d f a Q) (stJ:=fun s=>s_Sc_34 p0 p1 d f a s.1 s.2) (s:=(0,(List.replicate (Int.toNat p1) (false:Bool)))) (fun s y hb hin hout=>ok_Sc_34 p0 p1 d f a s.1 s.2 y hb Q hin hout) he ?_
  show EE c_Sc_63 K_Sc_63 (s_Sc_63 p0 p1 d f a e) _
  exact ok_Sc_63 p0 p1 d f a e y hm Q hin hout
 ·refine gm c_Sc_105 K_Sc_105 (s_Sc_105 a) (v1 g<|wN a.length<|z0) ?_ (by kernel_rfl)
  exact hout a (qj hm).symm
theorem ok_Sc_0 (p0:LZ) (p1:Int) (r:LI) (hm:m_Sc_0 p0 p1=some r):EE c_Sc_0 K_Sc_0 (s_Sc_0 p0 p1) (Post vf_Sc (res_Sc r)):=by
 obtain ⟨a,f,hm⟩:=bind_some hm
 obtain ⟨d,hm⟩|⟨d,hm⟩:=split_ite hm
 ·obtain ⟨g,hm⟩|⟨g,hm⟩:=split_ite hm
  ·exact ge (wO (.res (res_Sb a))<|wP (ok_Sb p0 a f)<|v3 (not_f d)<|u3 g<|u1 eT<|wO (.rows (mi ([]:LI)))<|wP (all_le0 (rI .i64) ([]:LI) rfl)<|wP (all_t (rI .i64) ([]:LI) rfl)<|z0) (congrArg res_Sc (qj hm)) (by kernel_rfl)
  ·obtain ⟨h,hm⟩|⟨h,hm⟩:=split_ite hm
   ·exact ge (wO (.res (res_Sb a))<|wP (ok_Sb p0 a f)<|v3 (not_f d)<|v3 g<|u1 h<|wO (.rows (mi ([]:LI)))<|wP (all_le0 (rI .i64) ([]:LI) rfl)<|wP (all_t (rI .i64) ([]:LI) rfl)<|z0) (congrArg res_Sc (qj hm)) (by kernel_rfl)
   ·refine gm c_Sc_17 K_Sc_17 (s_Sc_17 p0 p1 0 ([]:LI)) (wO (.res (res_Sb a))<|wP (ok_Sb p0 a f)<|v3 (not_f d)<|v3 g<|v1 h<|wL rZa p0<|wO (zn (([]:LI).length))<|wP (lens 0 (([]:LI).length) rfl)<|z0) ?_ (by kernel_rfl)
    obtain ⟨e,he,hm⟩:=bind_some hm
    refine loop_rule (u:=.c c_Sc_17) (K:=K_Sc_17) (Q:=(Post vf_Sc (res_Sc r))) (b:=lp_Sc_17 p0 p1) (We:=O_Sc_17 (Post vf_Sc (res_Sc r))) (stJ:=fun s=>s_Sc_17 p0 p1 s.1 s.2) (s:=(0,([]:LI))) (fun s y hb hin hout=>ok_Sc_17 p0 p1 s.1 s.2 y hb (Post vf_Sc (res_Sc r)) hin hout) he ?_
    show EE c_Sc_105 K_Sc_105 (s_Sc_105 e) _
    exact ok_Sc_105 e r hm
 ·exact ge (wO (.res (res_Sb a))<|wP (ok_Sb p0 a f)<|u3 (not_t d)<|u4 eT<|wO (.rows (mi ([]:LI)))<|wP (all_le0 (rI .i64) ([]:LI) rfl)<|wP (all_t (rI .i64) ([]:LI) rfl)<|z0) (congrArg res_Sc (qj hm)) (by kernel_rfl)
theorem ok_Sc (p0:LZ) (p1:Int) (r:LI) (hm:m_Sc p0 p1=some r):Runs ext tbl 11 (as_Sc p0 p1) (res_Sc r):=
 runs_of (vf:=vf_Sc) (by kernel_rfl) rfl (st:=(enter vf_Sc (as_Sc p0 p1)).getD default) (by kernel_rfl) (go_on [] 1000 J0 (ok_Sc_0 p0 p1 r hm) (by kernel_rfl))
def O_La_15 (Q:VX→St→Prop) (e:(Bool)⊕((Unit))):Prop:=match e with | .inl e=>Q=Post vf_La (res_La e) | .inr e=>EE c_La_33 K_La_33 (s_La_33) Q
theorem ok_La_33 (r:Bool) (hm:m_La_33=some r):EE c_La_33 K_La_33 (s_La_33) (Post vf_La (res_La r)):=by
 exact ge (z0) (congrArg res_La (qj hm)) (by kernel_rfl)
theorem ok_La_15 (p0 p1:LI) (f:Int) (y) (hm:m_La_15 p0 p1 f=some y) (Q)
  (hin:∀ s,y=.inl s→EE c_La_15 K_La_15 (s_La_15 p0 p1 s) Q) (hout:∀ e,y=.inr e→O_La_15 Q e):EE c_La_15 K_La_15 (s_La_15 p0 p1 f) Q:=by
 obtain ⟨a,hm⟩|⟨a,hm⟩:=split_ite hm
 ·obtain ⟨g,b,hm⟩:=bind_some hm
  obtain ⟨h,c,hm⟩:=bind_some hm
  obtain ⟨d,hm⟩|⟨d,hm⟩:=split_ite hm
  ·have hQ:Q=Post vf_La (res_La false):=hout (.inl false) (qj hm).symm
   subst hQ
   exact ge (u1 a<|wO (.row ((rI .i64) g))<|wO (.row ((rI .i64) h))<|wP (rd_nn b)<|wP (at_row (rI .i64) (rd_get b))<|wP (rd_nn c)<|wP (at_row (rI .i64) (rd_get c))<|u1 d<|z0) (rfl:res_La false=res_La false) (by kernel_rfl)
  ·exact gw (hin _ (qj hm).symm) (u1 a<|wO (.row ((rI .i64) g))<|wO (.row ((rI .i64) h))<|wP (rd_nn b)<|wP (at_row (rI .i64) (rd_get b))<|wP (rd_nn c)<|wP (at_row (rI .i64) (rd_get c))<|v1 d<|z0) (by kernel_rfl)
 ·refine gm c_La_33 K_La_33 (s_La_33) (v1 a<|z0) ?_ (by kernel_rfl)
  exact hout (.inr ()) (qj hm).symm
theorem ok_La_0 (p0 p1:LI) (r:Bool) (hm:m_La_0 p0 p1=some r):EE c_La_0 K_La_0 (s_La_0 p0 p1) (Post vf_La (res_La r)):=by
 obtain ⟨a,hm⟩|⟨a,hm⟩:=split_ite hm
 ·exact ge (wL (rI .i64) p0<|wL (rI .i64) p1<|u1 a<|z0) (congrArg res_La (qj hm)) (by kernel_rfl)
 ·refine gm c_La_15 K_La_15 (s_La_15 p0 p1 0) (wL (rI .i64) p0<|wL (rI .i64) p1<|v1 a<|wL (rI .i64) p0<|z0) ?_ (by kernel_rfl)
  obtain ⟨e,he,hm⟩:=bind_some hm
  refine loop_rule (u:=.c c_La_15) (K:=K_La_15) (Q:=(Post vf_La (res_La r))) (b:=lp_La_15 p0 p1) (We:=O_La_15 (Post vf_La (res_La r))) (stJ:=fun s=>s_La_15 p0 p1 s) (s:=0) (fun s y hb hin hout=>ok_La_15 p0 p1 s y hb (Post vf_La (res_La r)) hin hout) he ?_
  rcases e with e | e
  ·exact congrArg (fun r=>Post vf_La (res_La r)) (qj hm).symm
  ·show EE c_La_33 K_La_33 (s_La_33) _
   exact ok_La_33 r hm
theorem ok_La (p0 p1:LI) (r:Bool) (hm:m_La p0 p1=some r):Runs ext tbl 10 (as_La p0 p1) (res_La r):=
 runs_of (vf:=vf_La) (by kernel_rfl) rfl (st:=(enter vf_La (as_La p0 p1)).getD default) (by kernel_rfl) (go_on [] 1000 J0 (ok_La_0 p0 p1 r hm) (by kernel_rfl))
def O_laws_FnRoomy_63 (a:LZ×Int) (b:Int) (c:LI) (Q:VX→St→Prop) (e:((Unit))⊕(Bool)):Prop:=match e with | .inl e=>EE c_laws_FnRoomy_81 K_laws_FnRoomy_81 (s_laws_FnRoomy_81 a b c) Q | .inr e=>Q=Post vf_laws_FnRoomy (res_laws_FnRoomy e)
def O_laws_FnRoomy_114 (Q:VX→St→Prop) (e:(Bool)⊕((Unit))):Prop:=match e with | .inl e=>Q=Post vf_laws_FnRoomy (res_laws_FnRoomy e) | .inr e=>EE c_laws_FnRoomy_132 K_laws_FnRoomy_132 (s_laws_FnRoomy_132) Q
def O_laws_FnRoomy_89 (a:LZ×Int) (Q:VX→St→Prop) (e:(Int)):Prop:=EE c_laws_FnRoomy_101 K_laws_FnRoomy_101 (s_laws_FnRoomy_101 a e) Q
def O_laws_FnRoomy_35 (a:LZ×Int) (Q:VX→St→Prop) (e:(Bool)⊕((Unit))):Prop:=match e with | .inl e=>Q=Post vf_laws_FnRoomy (res_laws_FnRoomy e) | .inr e=>EE c_laws_FnRoomy_82 K_laws_FnRoomy_82 (s_laws_FnRoomy_82 a) Q
theorem ok_laws_FnRoomy_81 (a:LZ×Int) (c:Int) (b:LI) (y) (hm:m_laws_FnRoomy_81 a c b=some y) (Q)
  (hin:∀ s,y=.inl s→EE c_laws_FnRoomy_35 K_laws_FnRoomy_35 (s_laws_FnRoomy_35 a b s) Q) (hout:∀ e,y=.inr e→O_laws_FnRoomy_35 a Q e):EE c_laws_FnRoomy_81 K_laws_FnRoomy_81 (s_laws_FnRoomy_81 a c b) Q:=by
 exact gw (hin _ (qj hm).symm) (wN a.1.length<|wN b.length<|z0) (by kernel_rfl)
theorem ok_laws_FnRoomy_73 (c:LZ×Int) (h n:Int) (d:LI) (o:Bool) (y) (hm:m_laws_FnRoomy_73 c h n d o=some y) (Q)
  (hin:∀ s,y=.inl s→EE c_laws_FnRoomy_63 K_laws_FnRoomy_63 (s_laws_FnRoomy_63 c h d s) Q) (hout:∀ e,y=.inr e→O_laws_FnRoomy_63 c h d Q e):EE c_laws_FnRoomy_73 K_laws_FnRoomy_73 (s_laws_FnRoomy_73 c h n d o) Q:=by
 obtain ⟨i,b,hm⟩:=bind_some hm
 obtain ⟨a,hm⟩|⟨a,hm⟩:=split_ite hm
 ·obtain ⟨k,f,hm⟩:=bind_some hm
  obtain ⟨l,g,hm⟩:=bind_some hm
  obtain ⟨j,hm⟩|⟨j,hm⟩:=split_ite hm
  ·obtain ⟨m,hm⟩|⟨m,hm⟩:=split_ite hm
   ·exact gw (hin _ (qj hm).symm) (wO (.row ((rI .i64) i))<|wP (rd_in rfl b)<|wP (at_row (rI .i64) (rd_get0 b))<|u3 a<|wP (rd_in rfl f)<|u2 a<|wO (.row (rZa k))<|wP (at_row rZa (rd_get0 f))<|u3 a<|wP (rd_in rfl g)<|u2 a<|wO (.row (rZa l))<|wP (at_row rZa (rd_get0 g))<|u2 a<|u3 j<|v1 (not_f m)<|wN c.1.length<|wN d.length<|z0) (by kernel_rfl)
   ·have hQ:Q=Post vf_laws_FnRoomy (res_laws_FnRoomy false):=hout (.inr false) (qj hm).symm
    subst hQ
    exact ge (wO (.row ((rI .i64) i))<|wP (rd_in rfl b)<|wP (at_row (rI .i64) (rd_get0 b))<|u3 a<|wP (rd_in rfl f)<|u2 a<|wO (.row (rZa k))<|wP (at_row rZa (rd_get0 f))<|u3 a<|wP (rd_in rfl g)<|u2 a<|wO (.row (rZa l))<|wP (at_row rZa (rd_get0 g))<|u2 a<|u3 j<|u1 (not_t m)<|z0) (rfl:res_laws_FnRoomy false=res_laws_FnRoomy false) (by kernel_rfl)
  ·exact gw (hin _ (qj hm).symm) (wO (.row ((rI .i64) i))<|wP (rd_in rfl b)<|wP (at_row (rI .i64) (rd_get0 b))<|u3 a<|wP (rd_in rfl f)<|u2 a<|wO (.row (rZa k))<|wP (at_row rZa (rd_get0 f))<|u3 a<|wP (rd_in rfl g)<|u2 a<|wO (.row (rZa l))<|wP (at_row rZa (rd_get0 g))<|u2 a<|v3 j<|v1 eF<|wN c.1.length<|wN d.length<|z0) (by kernel_rfl)
 ·exact gw (hin _ (qj hm).symm) (wO (.row ((rI .i64) i))<|wP (rd_in rfl b)<|wP (at_row (rI .i64) (rd_get0 b))<|v4 a<|v4 a<|v4 a<|v4 eF<|wN c.1.length<|wN d.length<|z0) (by kernel_rfl)
theorem ok_laws_FnRoomy_63 (b:LZ×Int) (g:Int) (c:LI) (m:Int) (y) (hm:m_laws_FnRoomy_63 b g c m=some y) (Q)
  (hin:∀ s,y=.inl s→EE c_laws_FnRoomy_63 K_laws_FnRoomy_63 (s_laws_FnRoomy_63 b g c s) Q) (hout:∀ e,y=.inr e→O_laws_FnRoomy_63 b g c Q e):EE c_laws_FnRoomy_63 K_laws_FnRoomy_63 (s_laws_FnRoomy_63 b g c m) Q:=by
 obtain ⟨h,hm⟩|⟨h,hm⟩:=split_ite hm
 ·obtain ⟨k,d,hm⟩:=bind_some hm
  obtain ⟨i,j,hm⟩:=bind_some hm
  obtain ⟨l,f,hm⟩:=bind_some hm
  obtain ⟨a,hm⟩|⟨a,hm⟩:=split_ite hm
  ·exact gw (ok_laws_FnRoomy_73 _ _ _ _ _ y hm Q hin hout) (u1 h<|wO (.row ((rI .i64) k))<|wO (.row (rZa i))<|wP (rd_in rfl d)<|wP (at_row (rI .i64) (rd_get0 d))<|wP (rd_in rfl j)<|wP (at_row rZa (rd_get0 j))<|wL rS i.lines<|wO (.row ((rI .i64) l))<|wP (rd_in rfl f)<|wP (at_row (rI .i64) (rd_get0 f))<|u4 a<|u4 a<|u4 a<|u4 a<|u1 a<|wN b.1.length<|wN c.length<|z0) (by kernel_rfl)
  ·obtain ⟨n,o,hm⟩:=bind_some hm
   exact gw (ok_laws_FnRoomy_73 _ _ _ _ _ y hm Q hin hout) (u1 h<|wO (.row ((rI .i64) k))<|wO (.row (rZa i))<|wP (rd_in rfl d)<|wP (at_row (rI .i64) (rd_get0 d))<|wP (rd_in rfl j)<|wP (at_row rZa (rd_get0 j))<|wL rS i.lines<|wO (.row ((rI .i64) l))<|wP (rd_in rfl f)<|wP (at_row (rI .i64) (rd_get0 f))<|v3 a<|wP (rd_in rfl f)<|v1 a<|wO (.row ((rI .i64) l))<|wP (at_row (rI .i64) (rd_get0 f))<|v3 a<|wP (rd_in rfl o)<|v2 a<|wO (.row (rZa n))<|wP (at_row rZa (rd_get0 o))<|v1 a<|wL rS n.lines<|v4 a<|wP (rd_in rfl d)<|v1 a<|wO (.row ((rI .i64) k))<|wP (at_row (rI .i64) (rd_get0 d))<|v2 a<|wN b.1.length<|wN c.length<|z0) (by kernel_rfl)
 ·refine gm c_laws_FnRoomy_81 K_laws_FnRoomy_81 (s_laws_FnRoomy_81 b g c) (v1 h<|wN b.1.length<|wN c.length<|z0) ?_ (by kernel_rfl)
  exact hout (.inl ()) (qj hm).symm
theorem ok_laws_FnRoomy_132 (r:Bool) (hm:m_laws_FnRoomy_132=some r):EE c_laws_FnRoomy_132 K_laws_FnRoomy_132 (s_laws_FnRoomy_132) (Post vf_laws_FnRoomy (res_laws_FnRoomy r)):=by
 exact ge (z0) (congrArg res_laws_FnRoomy (qj hm)) (by kernel_rfl)
theorem ok_laws_FnRoomy_114 (a:LI) (f:Int) (y) (hm:m_laws_FnRoomy_114 a f=some y) (Q)
  (hin:∀ s,y=.inl s→EE c_laws_FnRoomy_114 K_laws_FnRoomy_114 (s_laws_FnRoomy_114 a s) Q) (hout:∀ e,y=.inr e→O_laws_FnRoomy_114 Q e):EE c_laws_FnRoomy_114 K_laws_FnRoomy_114 (s_laws_FnRoomy_114 a f) Q:=by
 obtain ⟨b,hm⟩|⟨b,hm⟩:=split_ite hm
 ·obtain ⟨g,c,hm⟩:=bind_some hm
  obtain ⟨d,hm⟩|⟨d,hm⟩:=split_ite hm
  ·have hQ:Q=Post vf_laws_FnRoomy (res_laws_FnRoomy false):=hout (.inl false) (qj hm).symm
   subst hQ
   exact ge (u1 b<|wO (.row ((rI .i64) g))<|wP (rd_in rfl c)<|wP (at_row (rI .i64) (rd_get0 c))<|u1 d<|z0) (rfl:res_laws_FnRoomy false=res_laws_FnRoomy false) (by kernel_rfl)
  ·exact gw (hin _ (qj hm).symm) (u1 b<|wO (.row ((rI .i64) g))<|wP (rd_in rfl c)<|wP (at_row (rI .i64) (rd_get0 c))<|v1 d<|wN a.length<|z0) (by kernel_rfl)
 ·refine gm c_laws_FnRoomy_132 K_laws_FnRoomy_132 (s_laws_FnRoomy_132) (v1 b<|z0) ?_ (by kernel_rfl)
  exact hout (.inr ()) (qj hm).symm
theorem ok_laws_FnRoomy_101 (d:LZ×Int) (f:Int) (r:Bool) (hm:m_laws_FnRoomy_101 d f=some r):EE c_laws_FnRoomy_101 K_laws_FnRoomy_101 (s_laws_FnRoomy_101 d f) (Post vf_laws_FnRoomy (res_laws_FnRoomy r)):=by
 obtain ⟨g,hm⟩|⟨g,hm⟩:=split_ite hm
 ·exact ge (u1 g<|z0) (congrArg res_laws_FnRoomy (qj hm)) (by kernel_rfl)
 ·obtain ⟨a,h,hm⟩:=bind_some hm
  refine gm c_laws_FnRoomy_114 K_laws_FnRoomy_114 (s_laws_FnRoomy_114 a 0) (v1 g<|wO (.rows (List.map rZa d.1))<|wO (.res (res_Ib a))<|wP (all_le rZa d.1 rfl)<|wP (all_dt rZa d.1 rfl)<|wP (ok_Ib d.1 f a h)<|wL (rI .i64) a<|wN a.length<|z0) ?_ (by kernel_rfl)
  obtain ⟨e,he,hm⟩:=bind_some hm
  refine loop_rule (u:=.c c_laws_FnRoomy_114) (K:=K_laws_FnRoomy_114) (Q:=(Post vf_laws_FnRoomy (res_laws_FnRoomy r))) (b:=lp_laws_FnRoomy_114 a) (We:=O_laws_FnRoomy_114 (Post vf_laws_FnRoomy (res_laws_FnRoomy r))) (stJ:=fun s=>s_laws_FnRoomy_114 a s) (s:=0) (fun s y hb hin hout=>ok_laws_FnRoomy_114 a s y hb (Post vf_laws_FnRoomy (res_laws_FnRoomy r)) hin hout) he ?_
  rcases e with e | e
  ·exact congrArg (fun r=>Post vf_laws_FnRoomy (res_laws_FnRoomy r)) (qj hm).symm
  ·show EE c_laws_FnRoomy_132 K_laws_FnRoomy_132 (s_laws_FnRoomy_132) _
   exact ok_laws_FnRoomy_132 r hm
theorem ok_laws_FnRoomy_89 (a:LZ×Int) (b d:Int) (y) (hm:m_laws_FnRoomy_89 a b d=some y) (Q)
  (hin:∀ s,y=.inl s→EE c_laws_FnRoomy_89 K_laws_FnRoomy_89 (s_laws_FnRoomy_89 a s.1 s.2) Q) (hout:∀ e,y=.inr e→O_laws_FnRoomy_89 a Q e):EE c_laws_FnRoomy_89 K_laws_FnRoomy_89 (s_laws_FnRoomy_89 a b d) Q:=by
 obtain ⟨c,hm⟩|⟨c,hm⟩:=split_ite hm
 ·obtain ⟨f,g,hm⟩:=bind_some hm
  exact gw (hin _ (qj hm).symm) (u1 c<|wO (.row (rZa f))<|wP (rd_in rfl g)<|wP (at_row rZa (rd_get0 g))<|wL rS f.lines<|wN a.1.length<|z0) (by kernel_rfl)
 ·refine gm c_laws_FnRoomy_101 K_laws_FnRoomy_101 (s_laws_FnRoomy_101 a b) (v1 c<|wN a.1.length<|z0) ?_ (by kernel_rfl)
  exact hout b (qj hm).symm
theorem ok_laws_FnRoomy_82 (a:LZ×Int) (r:Bool) (hm:m_laws_FnRoomy_82 a=some r):EE c_laws_FnRoomy_82 K_laws_FnRoomy_82 (s_laws_FnRoomy_82 a) (Post vf_laws_FnRoomy (res_laws_FnRoomy r)):=by
 refine gm c_laws_FnRoomy_89 K_laws_FnRoomy_89 (s_laws_FnRoomy_89 a 0 0) (wN a.1.length<|z0) ?_ (by kernel_rfl)
 obtain ⟨e,he,hm⟩:=bind_some hm
 refine loop_rule (u:=.c c_laws_FnRoomy_89) (K:=K_laws_FnRoomy_89) (Q:=(Post vf_laws_FnRoomy (res_laws_FnRoomy r))) (b:=lp_laws_FnRoomy_89 a) (We:=O_laws_FnRoomy_89 a (Post vf_laws_FnRoomy (res_laws_FnRoomy r))) (stJ:=fun s=>s_laws_FnRoomy_89 a s.1 s.2) (s:=(0,0)) (fun s y hb hin hout=>ok_laws_FnRoomy_89 a s.1 s.2 y hb (Post vf_laws_FnRoomy (res_laws_FnRoomy r)) hin hout) he ?_
 show EE c_laws_FnRoomy_101 K_laws_FnRoomy_101 (s_laws_FnRoomy_101 a e) _
 exact ok_laws_FnRoomy_101 a e r hm
theorem ok_laws_FnRoomy_35 (a:LZ×Int) (d:LI) (g:Int) (y) (hm:m_laws_FnRoomy_35 a d g=some y) (Q)
  (hin:∀ s,y=.inl s→EE c_laws_FnRoomy_35 K_laws_FnRoomy_35 (s_laws_FnRoomy_35 a d s) Q) (hout:∀ e,y=.inr e→O_laws_FnRoomy_35 a Q e):EE c_laws_FnRoomy_35 K_laws_FnRoomy_35 (s_laws_FnRoomy_35 a d g) Q:=by
 obtain ⟨h,hm⟩|⟨h,hm⟩:=split_ite hm
 ·obtain ⟨i,f,hm⟩:=bind_some hm
  obtain ⟨j,hm⟩|⟨j,hm⟩:=split_ite hm
  ·exact gw (ok_laws_FnRoomy_81 _ _ _ y hm Q hin hout) (u1 h<|wO (.row ((rI .i64) i))<|wP (rd_in rfl f)<|wP (at_row (rI .i64) (rd_get0 f))<|u1 j<|wN a.1.length<|wN d.length<|z0) (by kernel_rfl)
  ·obtain ⟨k,l,hm⟩:=bind_some hm
   obtain ⟨m,hm⟩|⟨m,hm⟩:=split_ite hm
   ·have hQ:Q=Post vf_laws_FnRoomy (res_laws_FnRoomy false):=hout (.inl false) (qj hm).symm
    subst hQ
    exact ge (u1 h<|wO (.row ((rI .i64) i))<|wP (rd_in rfl f)<|wP (at_row (rI .i64) (rd_get0 f))<|v1 j<|wO (.row ((rI .i64) i))<|wO (.row (rZa k))<|wP (rd_in rfl f)<|wP (at_row (rI .i64) (rd_get0 f))<|wP (rd_in rfl l)<|wP (at_row rZa (rd_get0 l))<|wL rS k.lines<|u1 m<|z0) (rfl:res_laws_FnRoomy false=res_laws_FnRoomy false) (by kernel_rfl)
   ·refine gm c_laws_FnRoomy_63 K_laws_FnRoomy_63 (s_laws_FnRoomy_63 a g d 0) (u1 h<|wO (.row ((rI .i64) i))<|wP (rd_in rfl f)<|wP (at_row (rI .i64) (rd_get0 f))<|v1 j<|wO (.row ((rI .i64) i))<|wO (.row (rZa k))<|wP (rd_in rfl f)<|wP (at_row (rI .i64) (rd_get0 f))<|wP (rd_in rfl l)<|wP (at_row rZa (rd_get0 l))<|wL rS k.lines<|v1 m<|wN a.1.length<|wN d.length<|z0) ?_ (by kernel_rfl)
    obtain ⟨e,he,hm⟩:=bind_some hm
    refine loop_rule (u:=.c c_laws_FnRoomy_63) (K:=K_laws_FnRoomy_63) (Q:=Q) (b:=lp_laws_FnRoomy_63 a g d) (We:=O_laws_FnRoomy_63 a g d Q) (stJ:=fun s=>s_laws_FnRoomy_63 a g d s) (s:=0) (fun s y hb hin hout=>ok_laws_FnRoomy_63 a g d s y hb Q hin hout) he ?_
    rcases e with e | e
    ·show EE c_laws_FnRoomy_81 K_laws_FnRoomy_81 (s_laws_FnRoomy_81 a g d) _
     exact ok_laws_FnRoomy_81 a g d y hm Q hin hout
    ·exact hout (.inl e) (qj hm).symm
 ·refine gm c_laws_FnRoomy_82 K_laws_FnRoomy_82 (s_laws_FnRoomy_82 a) (v1 h<|wN a.1.length<|z0) ?_ (by kernel_rfl)
  exact hout (.inr ()) (qj hm).symm
theorem ok_laws_FnRoomy_0 (p0:LI) (r:Bool) (hm:m_laws_FnRoomy_0 p0=some r):EE c_laws_FnRoomy_0 K_laws_FnRoomy_0 (s_laws_FnRoomy_0 p0) (Post vf_laws_FnRoomy (res_laws_FnRoomy r)):=by
 obtain ⟨h,hm⟩|⟨h,hm⟩:=split_ite hm
 ·exact ge (wL (rI .u8) p0<|u1 h<|z0) (congrArg res_laws_FnRoomy (qj hm)) (by kernel_rfl)
 ·obtain ⟨a,j,hm⟩:=bind_some hm
  obtain ⟨d,k,hm⟩:=bind_some hm
  obtain ⟨f,l,hm⟩:=bind_some hm
  obtain ⟨g,m,hm⟩:=bind_some hm
  obtain ⟨i,hm⟩|⟨i,hm⟩:=split_ite hm
  ·obtain ⟨n,hm⟩|⟨n,hm⟩:=split_ite hm
   ·exact ge (wL (rI .u8) p0<|v1 h<|wO (.res (res_Sa a))<|wP (ok_Sa p0 a j)<|wL rZa a.1<|wO (.rows (List.map rZa a.1))<|wO (.res (res_Ib d))<|wP (all_le rZa a.1 rfl)<|wP (all_dt rZa a.1 rfl)<|wP (ok_Ib a.1 a.2 d k)<|wL (rI .i64) d<|wO (.rows (List.map rZa a.1))<|wO (.res (res_Sc f))<|wP (all_le rZa a.1 rfl)<|wP (all_dt rZa a.1 rfl)<|wP (ok_Sc a.1 a.2 f l)<|wL (rI .i64) f<|wO (zi d)<|wO (zi f)<|wO (.res (res_La g))<|wP (all_le (rI .i64) d rfl)<|wP (all_dt (rI .i64) d rfl)<|wP (all_le (rI .i64) f rfl)<|wP (all_dt (rI .i64) f rfl)<|wP (ok_La d f g m)<|v1 (not_f i)<|u1 n<|z0) (congrArg res_laws_FnRoomy (qj hm)) (by kernel_rfl)
   ·refine gm c_laws_FnRoomy_35 K_laws_FnRoomy_35 (s_laws_FnRoomy_35 a d 0) (wL (rI .u8) p0<|v1 h<|wO (.res (res_Sa a))<|wP (ok_Sa p0 a j)<|wL rZa a.1<|wO (.rows (List.map rZa a.1))<|wO (.res (res_Ib d))<|wP (all_le rZa a.1 rfl)<|wP (all_dt rZa a.1 rfl)<|wP (ok_Ib a.1 a.2 d k)<|wL (rI .i64) d<|wO (.rows (List.map rZa a.1))<|wO (.res (res_Sc f))<|wP (all_le rZa a.1 rfl)<|wP (all_dt rZa a.1 rfl)<|wP (ok_Sc a.1 a.2 f l)<|wL (rI .i64) f<|wO (zi d)<|wO (zi f)<|wO (.res (res_La g))<|wP (all_le (rI .i64) d rfl)<|wP (all_dt (rI .i64) d rfl)<|wP (all_le (rI .i64) f rfl)<|wP (all_dt (rI .i64) f rfl)<|wP (ok_La d f g m)<|v1 (not_f i)<|v1 n<|wN a.1.length<|wN d.length<|z0) ?_ (by kernel_rfl)
    obtain ⟨e,he,hm⟩:=bind_some hm
    refine loop_rule (u:=.c c_laws_FnRoomy_35) (K:=K_laws_FnRoomy_35) (Q:=(Post vf_laws_FnRoomy (res_laws_FnRoomy r))) (b:=lp_laws_FnRoomy_35 a d) (We:=O_laws_FnRoomy_35 a (Post vf_laws_FnRoomy (res_laws_FnRoomy r))) (stJ:=fun s=>s_laws_FnRoomy_35 a d s) (s:=0) (fun s y hb hin hout=>ok_laws_FnRoomy_35 a d s y hb (Post vf_laws_FnRoomy (res_laws_FnRoomy r)) hin hout) he ?_
    rcases e with e | e
    ·exact congrArg (fun r=>Post vf_laws_FnRoomy (res_laws_FnRoomy r)) (qj hm).symm
    ·show EE c_laws_FnRoomy_82 K_laws_FnRoomy_82 (s_laws_FnRoomy_82 a) _
     exact ok_laws_FnRoomy_82 a r hm
  ·exact ge (wL (rI .u8) p0<|v1 h<|wO (.res (res_Sa a))<|wP (ok_Sa p0 a j)<|wL rZa a.1<|wO (.rows (List.map rZa a.1))<|wO (.res (res_Ib d))<|wP (all_le rZa a.1 rfl)<|wP (all_dt rZa a.1 rfl)<|wP (ok_Ib a.1 a.2 d k)<|wL (rI .i64) d<|wO (.rows (List.map rZa a.1))<|wO (.res (res_Sc f))<|wP (all_le rZa a.1 rfl)<|wP (all_dt rZa a.1 rfl)<|wP (ok_Sc a.1 a.2 f l)<|wL (rI .i64) f<|wO (zi d)<|wO (zi f)<|wO (.res (res_La g))<|wP (all_le (rI .i64) d rfl)<|wP (all_dt (rI .i64) d rfl)<|wP (all_le (rI .i64) f rfl)<|wP (all_dt (rI .i64) f rfl)<|wP (ok_La d f g m)<|u1 (not_t i)<|z0) (congrArg res_laws_FnRoomy (qj hm)) (by kernel_rfl)
theorem ok_laws_FnRoomy (p0:LI) (r:Bool) (hm:m_laws_FnRoomy p0=some r):Runs ext tbl 3 (as_laws_FnRoomy p0) (res_laws_FnRoomy r):=
 runs_of (vf:=vf_laws_FnRoomy) (by kernel_rfl) rfl (st:=(enter vf_laws_FnRoomy (as_laws_FnRoomy p0)).getD default) (by kernel_rfl) (go_on [] 1000 J0 (ok_laws_FnRoomy_0 p0 r hm) (by kernel_rfl))
end Go.Proofs.V

namespace Go.Proofs.V
open Go
theorem all_fi:∀ x ∈ tblL,x.2.given=false→funcIs Go.Proofs.Try.prog tbl x.1 x.2=true:=by
 simp only [tblL,List.forall_mem_cons]
 exact ⟨(fun _=>fi_Sj),(fun _=>fi_Sl),(fun _=>fi_Sm),(fun _=>fi_Sf),(fun _=>fi_Si),(fun _=>fi_Sk),(fun _=>fi_Se),(fun _=>fi_Sa),(fun _=>fi_Ie),(fun h=>by cases h),(fun _=>fi_Id),(fun _=>fi_Ic),(fun _=>fi_Ia),(fun _=>fi_Ib),(fun _=>fi_Sh),(fun _=>fi_Sd),(fun _=>fi_Sg),(fun _=>fi_Sb),(fun _=>fi_Sc),(fun _=>fi_La),(fun _=>fi_laws_FnRoomy),fun _ h=>by cases h⟩
theorem all_given:∀ x ∈ tblL,x.2.given=true→∀ ars res st0,enter x.2 ars=some st0→ext x.1 ars=some res→callable Go.Proofs.Try.prog x.1=true∧Does gI Go.Proofs.Try.prog x.1 x.2 st0 res:=by
 simp only [tblL,List.forall_mem_cons]
 exact ⟨(fun h=>by cases h),(fun h=>by cases h),(fun h=>by cases h),(fun h=>by cases h),(fun h=>by cases h),(fun h=>by cases h),(fun h=>by cases h),(fun h=>by cases h),(fun h=>by cases h),(fun _=>gv_strings_Contains),(fun h=>by cases h),(fun h=>by cases h),(fun h=>by cases h),(fun h=>by cases h),(fun h=>by cases h),(fun h=>by cases h),(fun h=>by cases h),(fun h=>by cases h),(fun h=>by cases h),(fun h=>by cases h),(fun h=>by cases h),fun _ h=>by cases h⟩
theorem sound:∀ n,FSound gI Go.Proofs.Try.prog tbl (vrun ext tbl n):=table_sound (fun _=>rfl) ext all_given all_fi
def lawPs:List (Bool×List Ty):=[(false,[.sl [.int .u8]])]
theorem pure_law:LawPure ext tbl 3 lawPs:=by
 intro tss hl hw
 match tss,hl with
 | [t0],_=>
  obtain ⟨x0,rfl,w0⟩ :=(dec_sl (dec_int .u8)) t0 (hw 0 _ t0 rfl rfl)
  exact ok_laws_FnRoomy x0 true (final_FnRoomy x0 w0)
end Go.Proofs.V
