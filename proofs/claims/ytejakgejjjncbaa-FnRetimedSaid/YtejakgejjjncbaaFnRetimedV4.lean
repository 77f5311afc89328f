import Derived.Test.YtejakgejjjncbaaFnRetimedV3
import Derived.KernelRfl
set_option linter.unusedVariables false
set_option maxRecDepth 100000
namespace Go.Proofs.V
open Go
abbrev EE (c : VC) (K : List Fr) (s : St) (Q : VX → St → Prop) : Prop := EvU ext tbl (.c c) K s Q
def as_Sn (p0:Zb):List Arg:=[.m (.pt [.sl (p0.code.map (rI .u8)),.lit (vI p0.at_),.lit (.int .u64 p0.seed)])]
def res_Sn (r:Int×Zb):FRes:=⟨[.v false [.lit (vI r.1)]],[.pt [.sl (r.2.code.map (rI .u8)),.lit (vI r.2.at_),.lit (.int .u64 r.2.seed)]]⟩
def as_Sp (p0:Zb) (p1:Int):List Arg:=[.m (.pt [.sl (p0.code.map (rI .u8)),.lit (vI p0.at_),.lit (.int .u64 p0.seed)]),.v false [.lit (vI p1)]]
def res_Sp (r:Int×Zb):FRes:=⟨[.v false [.lit (vI r.1)]],[.pt [.sl (r.2.code.map (rI .u8)),.lit (vI r.2.at_),.lit (.int .u64 r.2.seed)]]⟩
def as_Sq (p0:Zb) (p1:Int):List Arg:=[.m (.pt [.sl (p0.code.map (rI .u8)),.lit (vI p0.at_),.lit (.int .u64 p0.seed)]),.v false [.lit (vI p1)]]
def res_Sq (r:LI×Zb):FRes:=⟨[.v false [.sl (r.1.map (rI .u8))]],[.pt [.sl (r.2.code.map (rI .u8)),.lit (vI r.2.at_),.lit (.int .u64 r.2.seed)]]⟩
def as_Sj (p0:ByteArray):List Arg:=[.v false [.lit (.string p0)]]
def res_Sj (r:Bool):FRes:=⟨[.v false [.lit (.bool r)]],[]⟩
def as_Sm (p0:Zb) (p1:Int):List Arg:=[.m (.pt [.sl (p0.code.map (rI .u8)),.lit (vI p0.at_),.lit (.int .u64 p0.seed)]),.v false [.lit (vI p1)]]
def res_Sm (r:LZ×Zb):FRes:=⟨[.v false [.sl (r.1.map rZa)]],[.pt [.sl (r.2.code.map (rI .u8)),.lit (vI r.2.at_),.lit (.int .u64 r.2.seed)]]⟩
def as_So (p0:Zb) (p1:Int):List Arg:=[.m (.pt [.sl (p0.code.map (rI .u8)),.lit (vI p0.at_),.lit (.int .u64 p0.seed)]),.v false [.lit (vI p1)]]
def res_So (r:Bool×Zb):FRes:=⟨[.v false [.lit (.bool r.1)]],[.pt [.sl (r.2.code.map (rI .u8)),.lit (vI r.2.at_),.lit (.int .u64 r.2.seed)]]⟩
def as_Sh (p0:LI):List Arg:=[.v false [.sl (p0.map (rI .u8))]]
def res_Sh (r:LZ×Zb):FRes:=⟨[.v false [.sl (r.1.map rZa)],.m (.pt [.sl (r.2.code.map (rI .u8)),.lit (vI r.2.at_),.lit (.int .u64 r.2.seed)])],[]⟩
def as_Sa (p0:LI):List Arg:=[.v false [.sl (p0.map (rI .u8))]]
def res_Sa (r:LZ×Int×Int×Int):FRes:=⟨[.v false [.sl (r.1.map rZa)],.v false [.lit (vI r.2.1)],.v false [.lit (vI r.2.2.1)],.v false [.lit (vI r.2.2.2)]],[]⟩
def as_Ig (p0:Int):List Arg:=[.v false [.lit (vI p0)]]
def res_Ig (r:Bool):FRes:=⟨[.v false [.lit (.bool r)]],[]⟩
def as_strings_Contains (p0 p1:ByteArray):List Arg:=[.v false [.lit (.string p0)],.v false [.lit (.string p1)]]
def res_strings_Contains (r:Bool):FRes:=⟨[.v false [.lit (.bool r)]],[]⟩
def as_Ie (p0:ByteArray):List Arg:=[.v false [.lit (.string p0)]]
def res_Ie (r:Int):FRes:=⟨[.v false [.lit (vI r)]],[]⟩
def as_Id (p0:Za):List Arg:=[.v true [.lit (vI p0.from_),.lit (vI p0.to_),.sl (p0.lines.map rS)]]
def res_Id (r:Bool):FRes:=⟨[.v false [.lit (.bool r)]],[]⟩
def as_Ia (p0:LZ):List Arg:=[.v false [.sl (p0.map rZa)]]
def res_Ia (r:Bool):FRes:=⟨[.v false [.lit (.bool r)]],[]⟩
def as_If (p0 p1:Int):List Arg:=[.v false [.lit (vI p0)],.v false [.lit (vI p1)]]
def res_If (r:Int):FRes:=⟨[.v false [.lit (vI r)]],[]⟩
def as_Ib (p0:LZ) (p1 p2 p3:Int):List Arg:=[.v false [.sl (p0.map rZa)],.v false [.lit (vI p1)],.v false [.lit (vI p2)],.v false [.lit (vI p3)]]
def res_Ib (r:LZ):FRes:=⟨[.v false [.sl (r.map rZa)]],[]⟩
def as_Sl (p0:Int):List Arg:=[.v false [.lit (vI p0)]]
def res_Sl (r:Bool):FRes:=⟨[.v false [.lit (.bool r)]],[]⟩
def as_Sg (p0:ByteArray):List Arg:=[.v false [.lit (.string p0)]]
def res_Sg (r:Bool):FRes:=⟨[.v false [.lit (.bool r)]],[]⟩
def as_Sk (p0:(List ByteArray)):List Arg:=[.v false [.sl (p0.map rS)]]
def res_Sk (r:Bool):FRes:=⟨[.v false [.lit (.bool r)]],[]⟩
def as_Sc (p0:LZ):List Arg:=[.v false [.sl (p0.map rZa)]]
def res_Sc (r:Bool):FRes:=⟨[.v false [.lit (.bool r)]],[]⟩
def as_Si (p0 p1:Int):List Arg:=[.v false [.lit (vI p0)],.v false [.lit (vI p1)]]
def res_Si (r:Int):FRes:=⟨[.v false [.lit (vI r)]],[]⟩
def as_Sd (p0:LZ) (p1 p2 p3:Int):List Arg:=[.v false [.sl (p0.map rZa)],.v false [.lit (vI p1)],.v false [.lit (vI p2)],.v false [.lit (vI p3)]]
def res_Sd (r:LZ):FRes:=⟨[.v false [.sl (r.map rZa)]],[]⟩
def as_Se (p0 p1:LZ):List Arg:=[.v false [.sl (p0.map rZa)],.v false [.sl (p1.map rZa)]]
def res_Se (r:Bool):FRes:=⟨[.v false [.lit (.bool r)]],[]⟩
def as_Sb (p0:LI):List Arg:=[.v false [.sl (p0.map (rI .u8))]]
def res_Sb (r:LZ×Int):FRes:=⟨[.v false [.sl (r.1.map rZa)],.v false [.lit (vI r.2)]],[]⟩
def as_Ic (p0:LZ) (p1:Int):List Arg:=[.v false [.sl (p0.map rZa)],.v false [.lit (vI p1)]]
def res_Ic (r:LI):FRes:=⟨[.v false [.sl (r.map (rI .i64))]],[]⟩
def as_Sf (p0:LZ) (p1:Int):List Arg:=[.v false [.sl (p0.map rZa)],.v false [.lit (vI p1)]]
def res_Sf (r:LI):FRes:=⟨[.v false [.sl (r.map (rI .i64))]],[]⟩
def as_La (p0 p1:LI):List Arg:=[.v false [.sl (p0.map (rI .i64))],.v false [.sl (p1.map (rI .i64))]]
def res_La (r:Bool):FRes:=⟨[.v false [.lit (.bool r)]],[]⟩
def as_laws_FnRetimed (p0:LI):List Arg:=[.v false [.sl (p0.map (rI .u8))]]
def res_laws_FnRetimed (r:Bool):FRes:=⟨[.v false [.lit (.bool r)]],[]⟩
def K_Sn_10:List Fr:=[]
def s_Sn_10 (p0:Zb) (a:Int):St:=
 ⟨mkSl 62 [(0,sP 0 0),(3,sI a)],[],[some [.ro [.sc] (p0.code.map (rI .u8)),cI p0.at_,.lit (.int .u64 p0.seed)]]⟩
def K_Sn_0:List Fr:=[]
def s_Sn_0 (p0:Zb):St:=
 ⟨mkSl 62 [(0,sP 0 0)],[],[some [.ro [.sc] (p0.code.map (rI .u8)),cI p0.at_,.lit (.int .u64 p0.seed)]]⟩
def K_Sp_24:List Fr:=[]
def s_Sp_24 (p1 a:Int) (b:LI) (c d:Int):St:=
 ⟨mkSl 27 [(0,sP 0 0),(1,sI p1),(5,sI a)],[],[some [.ro [.sc] (b.map (rI .u8)),cI c,.lit (.int .u64 d)]]⟩
def K_Sp_18:List Fr:=[]
def s_Sp_18 (p1 a:Int) (b:LI) (c d:Int):St:=
 ⟨mkSl 27 [(0,sP 0 0),(1,sI p1),(5,sI a)],[],[some [.ro [.sc] (b.map (rI .u8)),cI c,.lit (.int .u64 d)]]⟩
def K_Sp_0:List Fr:=[]
def s_Sp_0 (p1:Int) (p0:Zb):St:=
 ⟨mkSl 27 [(0,sP 0 0),(1,sI p1)],[],[some [.ro [.sc] (p0.code.map (rI .u8)),cI p0.at_,.lit (.int .u64 p0.seed)]]⟩
def K_Sq_21:List Fr:=[]
def s_Sq_21 (b:LI) (c d:Int) (a:LI):St:=
 ⟨mkSl 23 [(0,sP 0 0),(5,.v false [cR 0 a])],[some ⟨[.sc],(List.map (rI .u8) a)⟩],[some [.ro [.sc] (b.map (rI .u8)),cI c,.lit (.int .u64 d)]]⟩
def K_Sq_9:List Fr:=[.lp [0,5,10,11] c_Sq_9,.bk 0,.sq (.kp [0,5] c_Sq_21)]
def s_Sq_9 (b c:Int) (d:LI) (e f:Int) (a:LI):St:=
 ⟨mkSl 23 [(0,sP 0 0),(5,.v false [cR 0 a]),(10,sI b),(11,sI c)],[some ⟨[.sc],(List.map (rI .u8) a)⟩],[some [.ro [.sc] (d.map (rI .u8)),cI e,.lit (.int .u64 f)]]⟩
def K_Sq_0:List Fr:=[]
def s_Sq_0 (p1:Int) (p0:Zb):St:=
 ⟨mkSl 23 [(0,sP 0 0),(1,sI p1)],[],[some [.ro [.sc] (p0.code.map (rI .u8)),cI p0.at_,.lit (.int .u64 p0.seed)]]⟩
def K_Sj_23:List Fr:=[]
def s_Sj_23:St:=
 ⟨mkSl 17 [],[],[]⟩
def K_Sj_7:List Fr:=[.lp [0,3] c_Sj_7,.bk 0,.sq (.kp [] c_Sj_23)]
def s_Sj_7 (p0:ByteArray) (a:Int):St:=
 ⟨mkSl 17 [(0,.v false [.lit (.string p0)]),(3,sI a)],[],[]⟩
def K_Sj_0:List Fr:=[]
def s_Sj_0 (p0:ByteArray):St:=
 ⟨mkSl 17 [(0,.v false [.lit (.string p0)])],[],[]⟩
def K_Sm_44:List Fr:=[.bk 1,.sq c_Sm_45,.lp [0,1,5,6,7] c_Sm_11,.bk 0,.sq (.kp [0,5] c_Sm_46)]
def s_Sm_44 (p1 c:Int) (a:LZ) (d:Int) (e:LI) (f g h i:Int) (b:(List ByteArray)):St:=
 ⟨mkSl 70 [(0,sP 0 0),(1,sI p1),(5,.v false [cR 0 a]),(6,sI d),(7,sI c),(8,sP 1 0)],[some ⟨[.sc,.sc,.own [.sc]],(List.map rZa a)⟩,some ⟨[.sc],(List.map rS b)⟩],[some [.ro [.sc] (e.map (rI .u8)),cI f,.lit (.int .u64 g)],some [cI h,cI i,cR 1 b]]⟩
def K_Sm_28:List Fr:=[.lp [0,1,5,6,7,8,9] c_Sm_28,.bk 2,.sq (.kp [0,1,5,6,7,8] c_Sm_44),.bk 1,.sq c_Sm_45,.lp [0,1,5,6,7] c_Sm_11,.bk 0,.sq (.kp [0,5] c_Sm_46)]
def s_Sm_28 (p1 c:Int) (a:LZ) (d e:Int) (f:LI) (g h i j:Int) (b:(List ByteArray)):St:=
 ⟨mkSl 70 [(0,sP 0 0),(1,sI p1),(5,.v false [cR 0 a]),(6,sI d),(7,sI c),(8,sP 1 0),(9,sI e)],[some ⟨[.sc,.sc,.own [.sc]],(List.map rZa a)⟩,some ⟨[.sc],(List.map rS b)⟩],[some [.ro [.sc] (f.map (rI .u8)),cI g,.lit (.int .u64 h)],some [cI i,cI j,cR 1 b]]⟩
def K_Sm_46:List Fr:=[]
def s_Sm_46 (b:LI) (c d:Int) (a:LZ):St:=
 ⟨mkSl 70 [(0,sP 0 0),(5,.v false [cR 0 a])],[some ⟨[.sc,.sc,.own [.sc]],(List.map rZa a)⟩],[some [.ro [.sc] (b.map (rI .u8)),cI c,.lit (.int .u64 d)]]⟩
def K_Sm_11:List Fr:=[.lp [0,1,5,6,7] c_Sm_11,.bk 0,.sq (.kp [0,5] c_Sm_46)]
def s_Sm_11 (p1 b c:Int) (d:LI) (e f:Int) (a:LZ):St:=
 ⟨mkSl 70 [(0,sP 0 0),(1,sI p1),(5,.v false [cR 0 a]),(6,sI b),(7,sI c)],[some ⟨[.sc,.sc,.own [.sc]],(List.map rZa a)⟩],[some [.ro [.sc] (d.map (rI .u8)),cI e,.lit (.int .u64 f)]]⟩
def K_Sm_0:List Fr:=[]
def s_Sm_0 (p1:Int) (p0:Zb):St:=
 ⟨mkSl 70 [(0,sP 0 0),(1,sI p1)],[],[some [.ro [.sc] (p0.code.map (rI .u8)),cI p0.at_,.lit (.int .u64 p0.seed)]]⟩
def K_So_0:List Fr:=[]
def s_So_0 (p1:Int) (p0:Zb):St:=
 ⟨mkSl 9 [(0,sP 0 0),(1,sI p1)],[],[some [.ro [.sc] (p0.code.map (rI .u8)),cI p0.at_,.lit (.int .u64 p0.seed)]]⟩
def K_Sh_43:List Fr:=[.sq c_Sh_45]
def s_Sh_43 (b:LI) (c d e f:Int) (g:(List ByteArray)) (a:LZ):St:=
 ⟨mkSl 78 [(4,sP 0 0),(5,.v false [cR 0 a]),(6,sP 1 0)],[some ⟨[.sc,.sc,.ro [.sc]],(List.map rZa a)⟩],[some [.ro [.sc] (b.map (rI .u8)),cI c,.lit (.int .u64 d)],some [cI e,cI f,.ro [.sc] (g.map rS)]]⟩
def K_Sh_15:List Fr:=[.sq c_Sh_45]
def s_Sh_15 (a:Bool×Zb) (b:LZ) (c:Bool):St:=
 ⟨mkSl 78 [(4,sP 0 0),(5,.v false [cR 0 b]),(27,sB c)],[some ⟨[.sc,.sc,.own [.sc]],(List.map rZa b)⟩],[some [.ro [.sc] (a.2.code.map (rI .u8)),cI a.2.at_,.lit (.int .u64 a.2.seed)]]⟩
def K_Sh_12:List Fr:=[]
def s_Sh_12 (b:LI) (c d:Int) (a:LZ):St:=
 ⟨mkSl 78 [(4,sP 0 0),(5,.v false [cR 0 a])],[some ⟨[.sc,.sc,.own [.sc]],(List.map rZa a)⟩],[some [.ro [.sc] (b.map (rI .u8)),cI c,.lit (.int .u64 d)]]⟩
def K_Sh_0:List Fr:=[]
def s_Sh_0 (p0:LI):St:=
 ⟨mkSl 78 [(0,.v false [.ro [.sc] (p0.map (rI .u8))])],[],[]⟩
def K_Sa_23:List Fr:=[]
def s_Sa_23 (a:LZ×Zb) (b c d:Int):St:=
 ⟨mkSl 45 [(6,.v false [cR 0 a.1]),(8,sI b),(9,sI c),(10,sI d)],[some ⟨[.sc,.sc,.ro [.sc]],(List.map rZa a.1)⟩],[]⟩
def K_Sa_0:List Fr:=[]
def s_Sa_0 (p0:LI):St:=
 ⟨mkSl 45 [(0,.v false [.ro [.sc] (p0.map (rI .u8))])],[],[]⟩
def K_Ig_0:List Fr:=[]
def s_Ig_0 (p0:Int):St:=
 ⟨mkSl 9 [(0,sI p0)],[],[]⟩
def K_Ie_25:List Fr:=[]
def s_Ie_25 (p0:ByteArray):St:=
 ⟨mkSl 25 [(0,.v false [.lit (.string p0)])],[],[]⟩
def K_Ie_7:List Fr:=[.lp [0,5,6] c_Ie_7,.bk 0,.sq (.kp [0] c_Ie_25)]
def s_Ie_7 (p0:ByteArray) (a:Int):St:=
 ⟨mkSl 25 [(0,.v false [.lit (.string p0)]),(5,sI (p0.size:Int)),(6,sI a)],[],[]⟩
def K_Ie_0:List Fr:=[]
def s_Ie_0 (p0:ByteArray):St:=
 ⟨mkSl 25 [(0,.v false [.lit (.string p0)])],[],[]⟩
def K_Id_33:List Fr:=[]
def s_Id_33:St:=
 ⟨mkSl 38 [],[],[]⟩
def K_Id_15:List Fr:=[.lp [16,17,18] c_Id_15,.bk 0,.sq (.kp [] c_Id_33)]
def s_Id_15 (p0:Za) (a:Int):St:=
 ⟨mkSl 38 [(16,.v false [.ro [.sc] (p0.lines.map rS)]),(17,sI (p0.lines.length:Int)),(18,sI a)],[],[]⟩
def K_Id_0:List Fr:=[]
def s_Id_0 (p0:Za):St:=
 ⟨mkSl 38 [(0,.v true [cI p0.from_,cI p0.to_,.ro [.sc] (p0.lines.map rS)])],[],[]⟩
def K_Ia_33:List Fr:=[]
def s_Ia_33:St:=
 ⟨mkSl 53 [],[],[]⟩
def K_Ia_15:List Fr:=[.lp [0,8,9,10] c_Ia_15,.bk 0,.sq (.kp [] c_Ia_33)]
def s_Ia_15 (p0:LZ) (a:Int):St:=
 ⟨mkSl 53 [(0,.v false [.ro [.sc,.sc,.ro [.sc]] (p0.map rZa)]),(8,.v false [.ro [.sc,.sc,.ro [.sc]] (p0.map rZa)]),(9,sI (p0.length:Int)),(10,sI a)],[],[]⟩
def K_Ia_0:List Fr:=[]
def s_Ia_0 (p0:LZ):St:=
 ⟨mkSl 53 [(0,.v false [.ro [.sc,.sc,.ro [.sc]] (p0.map rZa)])],[],[]⟩
def K_If_7:List Fr:=[.sq c_If_10]
def s_If_7 (a:Int) (b:Bool):St:=
 ⟨mkSl 23 [(5,sI a),(19,sB b)],[],[]⟩
def K_If_0:List Fr:=[]
def s_If_0 (p0 p1:Int):St:=
 ⟨mkSl 23 [(0,sI p0),(1,sI p1)],[],[]⟩
def K_Ib_37:List Fr:=[]
def s_Ib_37 (a:LZ):St:=
 ⟨mkSl 87 [(9,.v false [cR 0 a])],[some ⟨[.sc,.sc,.own [.sc]],(List.map rZa a)⟩],[]⟩
def K_Ib_17:List Fr:=[.lp [1,2,3,9,41,42,43] c_Ib_17,.bk 0,.sq (.kp [9] c_Ib_37)]
def s_Ib_17 (p1 p2 p3:Int) (p0:LZ) (b:Int) (a:LZ):St:=
 ⟨mkSl 87 [(1,sI p1),(2,sI p2),(3,sI p3),(9,.v false [cR 0 a]),(41,.v false [.ro [.sc,.sc,.ro [.sc]] (p0.map rZa)]),(42,sI (p0.length:Int)),(43,sI b)],[some ⟨[.sc,.sc,.own [.sc]],(List.map rZa a)⟩],[]⟩
def K_Ib_0:List Fr:=[]
def s_Ib_0 (p0:LZ) (p1 p2 p3:Int):St:=
 ⟨mkSl 87 [(0,.v false [.ro [.sc,.sc,.ro [.sc]] (p0.map rZa)]),(1,sI p1),(2,sI p2),(3,sI p3)],[],[]⟩
def K_Sl_0:List Fr:=[]
def s_Sl_0 (p0:Int):St:=
 ⟨mkSl 9 [(0,sI p0)],[],[]⟩
def K_Sg_23:List Fr:=[]
def s_Sg_23:St:=
 ⟨mkSl 20 [],[],[]⟩
def K_Sg_7:List Fr:=[.lp [0,3] c_Sg_7,.bk 0,.sq (.kp [] c_Sg_23)]
def s_Sg_7 (p0:ByteArray) (a:Int):St:=
 ⟨mkSl 20 [(0,.v false [.lit (.string p0)]),(3,sI a)],[],[]⟩
def K_Sg_0:List Fr:=[]
def s_Sg_0 (p0:ByteArray):St:=
 ⟨mkSl 20 [(0,.v false [.lit (.string p0)])],[],[]⟩
def K_Sk_25:List Fr:=[]
def s_Sk_25 (p0:(List ByteArray)):St:=
 ⟨mkSl 45 [(0,.v false [.ro [.sc] (p0.map rS)])],[],[]⟩
def K_Sk_7:List Fr:=[.lp [0,5,6,7] c_Sk_7,.bk 0,.sq (.kp [0] c_Sk_25)]
def s_Sk_7 (p0:(List ByteArray)) (a:Int):St:=
 ⟨mkSl 45 [(0,.v false [.ro [.sc] (p0.map rS)]),(5,.v false [.ro [.sc] (p0.map rS)]),(6,sI (p0.length:Int)),(7,sI a)],[],[]⟩
def K_Sk_0:List Fr:=[]
def s_Sk_0 (p0:(List ByteArray)):St:=
 ⟨mkSl 45 [(0,.v false [.ro [.sc] (p0.map rS)])],[],[]⟩
def K_Sc_33:List Fr:=[]
def s_Sc_33:St:=
 ⟨mkSl 54 [],[],[]⟩
def K_Sc_15:List Fr:=[.lp [0,8,9,10] c_Sc_15,.bk 0,.sq (.kp [] c_Sc_33)]
def s_Sc_15 (p0:LZ) (a:Int):St:=
 ⟨mkSl 54 [(0,.v false [.ro [.sc,.sc,.ro [.sc]] (p0.map rZa)]),(8,.v false [.ro [.sc,.sc,.ro [.sc]] (p0.map rZa)]),(9,sI (p0.length:Int)),(10,sI a)],[],[]⟩
def K_Sc_0:List Fr:=[]
def s_Sc_0 (p0:LZ):St:=
 ⟨mkSl 54 [(0,.v false [.ro [.sc,.sc,.ro [.sc]] (p0.map rZa)])],[],[]⟩
def K_Si_0:List Fr:=[]
def s_Si_0 (p0 p1:Int):St:=
 ⟨mkSl 16 [(0,sI p0),(1,sI p1)],[],[]⟩
def K_Sd_43:List Fr:=[.bk 1,.sq c_Sd_48,.lp [1,2,3,9,42,43,44] c_Sd_17,.bk 0,.sq (.kp [9] c_Sd_49)]
def s_Sd_43 (p1 p2 p3:Int) (p0:LZ) (c:Int) (a:Za) (b:LZ) (d e:Int):St:=
 ⟨mkSl 90 [(1,sI p1),(2,sI p2),(3,sI p3),(9,.v false [cR 0 b]),(11,sP 0 0),(12,sI d),(13,sI e),(42,.v false [.ro [.sc,.sc,.ro [.sc]] (p0.map rZa)]),(43,sI (p0.length:Int)),(44,sI c)],[some ⟨[.sc,.sc,.own [.sc]],(List.map rZa b)⟩],[some [cI a.from_,cI a.to_,.ro [.sc] (a.lines.map rS)]]⟩
def K_Sd_49:List Fr:=[]
def s_Sd_49 (a:LZ):St:=
 ⟨mkSl 90 [(9,.v false [cR 0 a])],[some ⟨[.sc,.sc,.own [.sc]],(List.map rZa a)⟩],[]⟩
def K_Sd_17:List Fr:=[.lp [1,2,3,9,42,43,44] c_Sd_17,.bk 0,.sq (.kp [9] c_Sd_49)]
def s_Sd_17 (p1 p2 p3:Int) (p0:LZ) (b:Int) (a:LZ):St:=
 ⟨mkSl 90 [(1,sI p1),(2,sI p2),(3,sI p3),(9,.v false [cR 0 a]),(42,.v false [.ro [.sc,.sc,.ro [.sc]] (p0.map rZa)]),(43,sI (p0.length:Int)),(44,sI b)],[some ⟨[.sc,.sc,.own [.sc]],(List.map rZa a)⟩],[]⟩
def K_Sd_0:List Fr:=[]
def s_Sd_0 (p0:LZ) (p1 p2 p3:Int):St:=
 ⟨mkSl 90 [(0,.v false [.ro [.sc,.sc,.ro [.sc]] (p0.map rZa)]),(1,sI p1),(2,sI p2),(3,sI p3)],[],[]⟩
def K_Se_55:List Fr:=[.lp [0,1,13,14] c_Se_15,.bk 0,.sq (.kp [] c_Se_56)]
def s_Se_55 (p0 p1:LZ) (a:Int):St:=
 ⟨mkSl 84 [(0,.v false [.ro [.sc,.sc,.ro [.sc]] (p0.map rZa)]),(1,.v false [.ro [.sc,.sc,.ro [.sc]] (p1.map rZa)]),(13,sI (p0.length:Int)),(14,sI a)],[],[]⟩
def K_Se_37:List Fr:=[.lp [0,1,5,13,14,61,62] c_Se_37,.bk 2,.bk 1,.sq (.kp [0,1,13,14] c_Se_55),.lp [0,1,13,14] c_Se_15,.bk 0,.sq (.kp [] c_Se_56)]
def s_Se_37 (p0 p1:LZ) (a:Int) (b:Za) (c:Int):St:=
 ⟨mkSl 84 [(0,.v false [.ro [.sc,.sc,.ro [.sc]] (p0.map rZa)]),(1,.v false [.ro [.sc,.sc,.ro [.sc]] (p1.map rZa)]),(5,sI a),(13,sI (p0.length:Int)),(14,sI a),(61,sI (b.lines.length:Int)),(62,sI c)],[],[]⟩
def K_Se_56:List Fr:=[]
def s_Se_56:St:=
 ⟨mkSl 84 [],[],[]⟩
def K_Se_15:List Fr:=[.lp [0,1,13,14] c_Se_15,.bk 0,.sq (.kp [] c_Se_56)]
def s_Se_15 (p0 p1:LZ) (a:Int):St:=
 ⟨mkSl 84 [(0,.v false [.ro [.sc,.sc,.ro [.sc]] (p0.map rZa)]),(1,.v false [.ro [.sc,.sc,.ro [.sc]] (p1.map rZa)]),(13,sI (p0.length:Int)),(14,sI a)],[],[]⟩
def K_Se_0:List Fr:=[]
def s_Se_0 (p0 p1:LZ):St:=
 ⟨mkSl 84 [(0,.v false [.ro [.sc,.sc,.ro [.sc]] (p0.map rZa)]),(1,.v false [.ro [.sc,.sc,.ro [.sc]] (p1.map rZa)])],[],[]⟩
def K_Sb_20:List Fr:=[]
def s_Sb_20 (a:LZ×Zb) (b:Int):St:=
 ⟨mkSl 45 [(4,.v false [cR 0 a.1]),(6,sI b)],[some ⟨[.sc,.sc,.ro [.sc]],(List.map rZa a.1)⟩],[]⟩
def K_Sb_9:List Fr:=[.sq (.kp [4,6] c_Sb_20)]
def s_Sb_9 (b:Int×Zb) (a:LZ×Zb) (c:Bool) (d:LI) (e f:Int):St:=
 ⟨mkSl 45 [(4,.v false [cR 0 a.1]),(5,sP 0 0),(6,sI b.1),(21,sB c)],[some ⟨[.sc,.sc,.ro [.sc]],(List.map rZa a.1)⟩],[some [.ro [.sc] (d.map (rI .u8)),cI e,.lit (.int .u64 f)]]⟩
def K_Sb_0:List Fr:=[]
def s_Sb_0 (p0:LI):St:=
 ⟨mkSl 45 [(0,.v false [.ro [.sc] (p0.map (rI .u8))])],[],[]⟩
def K_Ic_29:List Fr:=[.bk 1,.sq c_Ic_32,.lp [1,5,16,17,18] c_Ic_17,.bk 0,.sq (.kp [5] c_Ic_33)]
def s_Ic_29 (p1 a:Int) (p0:LZ) (b:LI) (c:Bool):St:=
 ⟨mkSl 39 [(1,sI p1),(5,.v false [cR 0 b]),(6,sI a),(16,.v false [.ro [.sc,.sc,.ro [.sc]] (p0.map rZa)]),(17,sI (p0.length:Int)),(18,sI a),(32,sB c)],[jI b],[]⟩
def K_Ic_33:List Fr:=[]
def s_Ic_33 (a:LI):St:=
 ⟨mkSl 39 [(5,.v false [cR 0 a])],[jI a],[]⟩
def K_Ic_17:List Fr:=[.lp [1,5,16,17,18] c_Ic_17,.bk 0,.sq (.kp [5] c_Ic_33)]
def s_Ic_17 (p1:Int) (p0:LZ) (b:Int) (a:LI):St:=
 ⟨mkSl 39 [(1,sI p1),(5,.v false [cR 0 a]),(16,.v false [.ro [.sc,.sc,.ro [.sc]] (p0.map rZa)]),(17,sI (p0.length:Int)),(18,sI b)],[jI a],[]⟩
def K_Ic_0:List Fr:=[]
def s_Ic_0 (p0:LZ) (p1:Int):St:=
 ⟨mkSl 39 [(0,.v false [.ro [.sc,.sc,.ro [.sc]] (p0.map rZa)]),(1,sI p1)],[],[]⟩
def K_Sf_29:List Fr:=[.bk 1,.sq c_Sf_32,.lp [1,5,16,17,18] c_Sf_17,.bk 0,.sq (.kp [5] c_Sf_33)]
def s_Sf_29 (p1 a:Int) (p0:LZ) (b:LI) (c:Bool):St:=
 ⟨mkSl 39 [(1,sI p1),(5,.v false [cR 0 b]),(6,sI a),(16,.v false [.ro [.sc,.sc,.ro [.sc]] (p0.map rZa)]),(17,sI (p0.length:Int)),(18,sI a),(32,sB c)],[jI b],[]⟩
def K_Sf_33:List Fr:=[]
def s_Sf_33 (a:LI):St:=
 ⟨mkSl 39 [(5,.v false [cR 0 a])],[jI a],[]⟩
def K_Sf_17:List Fr:=[.lp [1,5,16,17,18] c_Sf_17,.bk 0,.sq (.kp [5] c_Sf_33)]
def s_Sf_17 (p1:Int) (p0:LZ) (b:Int) (a:LI):St:=
 ⟨mkSl 39 [(1,sI p1),(5,.v false [cR 0 a]),(16,.v false [.ro [.sc,.sc,.ro [.sc]] (p0.map rZa)]),(17,sI (p0.length:Int)),(18,sI b)],[jI a],[]⟩
def K_Sf_0:List Fr:=[]
def s_Sf_0 (p0:LZ) (p1:Int):St:=
 ⟨mkSl 39 [(0,.v false [.ro [.sc,.sc,.ro [.sc]] (p0.map rZa)]),(1,sI p1)],[],[]⟩
def K_La_33:List Fr:=[]
def s_La_33:St:=
 ⟨mkSl 26 [],[],[]⟩
def K_La_15:List Fr:=[.lp [0,1,12,13] c_La_15,.bk 0,.sq (.kp [] c_La_33)]
def s_La_15 (p0 p1:LI) (a:Int):St:=
 ⟨mkSl 26 [(0,.v false [.ro [.sc] (p0.map (rI .i64))]),(1,.v false [.ro [.sc] (p1.map (rI .i64))]),(12,sI (p0.length:Int)),(13,sI a)],[],[]⟩
def K_La_0:List Fr:=[]
def s_La_0 (p0 p1:LI):St:=
 ⟨mkSl 26 [(0,.v false [.ro [.sc] (p0.map (rI .i64))]),(1,.v false [.ro [.sc] (p1.map (rI .i64))])],[],[]⟩
def K_laws_FnRetimed_42:List Fr:=[]
def s_laws_FnRetimed_42 (p0:LI) (a:LZ×Int×Int×Int):St:=
 ⟨mkSl 86 [(0,.v false [.ro [.sc] (p0.map (rI .u8))]),(3,.v false [cR 0 a.1])],[some ⟨[.sc,.sc,.ro [.sc]],(List.map rZa a.1)⟩],[]⟩
def K_laws_FnRetimed_22:List Fr:=[]
def s_laws_FnRetimed_22 (p0:LI) (a:LZ×Int×Int×Int) (b:LZ):St:=
 ⟨mkSl 86 [(0,.v false [.ro [.sc] (p0.map (rI .u8))]),(3,.v false [cR 0 a.1]),(7,.v false [cR 1 b])],[some ⟨[.sc,.sc,.ro [.sc]],(List.map rZa a.1)⟩,some ⟨[.sc,.sc,.own [.sc]],(List.map rZa b)⟩],[]⟩
def K_laws_FnRetimed_0:List Fr:=[]
def s_laws_FnRetimed_0 (p0:LI):St:=
 ⟨mkSl 86 [(0,.v false [.ro [.sc] (p0.map (rI .u8))])],[],[]⟩
theorem ok_Sn_10 (p0:Zb) (b:Int) (r:Int×Zb) (hm:m_Sn_10 p0 b=some r):EE c_Sn_10 K_Sn_10 (s_Sn_10 p0 b) (Post vf_Sn (res_Sn r)):=by
 obtain ⟨a,hm⟩|⟨a,hm⟩:=split_ite hm
 ·exact ge (wL (rI .u8) p0.code<|u1 a<|z0) (congrArg res_Sn (qj hm)) (by kernel_rfl)
 ·exact ge (wL (rI .u8) p0.code<|v1 a<|wP (by decide:(0:Int)≤40)<|z0) (congrArg res_Sn (qj hm)) (by kernel_rfl)
theorem ok_Sn_0 (p0:Zb) (r:Int×Zb) (hm:m_Sn_0 p0=some r):EE c_Sn_0 K_Sn_0 (s_Sn_0 p0) (Post vf_Sn (res_Sn r)):=by
 obtain ⟨a,hm⟩|⟨a,hm⟩:=split_ite hm
 ·obtain ⟨c,b,hm⟩:=bind_some hm
  exact gw (ok_Sn_10 _ _ r hm) (wL (rI .u8) p0.code<|u1 a<|wO (.row ((rI .u8) c))<|wP (rd_nn b)<|wP (at_row (rI .u8) (rd_get b))<|z0) (by kernel_rfl)
 ·exact gw (ok_Sn_10 _ _ r hm) (wL (rI .u8) p0.code<|v1 a<|z0) (by kernel_rfl)
theorem ok_Sn (p0:Zb) (r:Int×Zb) (hm:m_Sn p0=some r):Runs ext tbl 44 (as_Sn p0) (res_Sn r):=
 runs_of (vf:=vf_Sn) (by kernel_rfl) rfl (st:=(enter vf_Sn (as_Sn p0)).getD default) (by kernel_rfl) (go_on [] 1000 J0 (ok_Sn_0 p0 r hm) (by kernel_rfl))
theorem ok_Sp_24 (p1 a:Int) (b:LI) (c d:Int) (r:Int×Zb) (hm:m_Sp_24 p1 a b c d=some r):EE c_Sp_24 K_Sp_24 (s_Sp_24 p1 a b c d) (Post vf_Sp (res_Sp r)):=by
 obtain ⟨f,e,hm⟩:=bind_some hm
 exact ge (wP (ck_p e)<|z0) (congrArg res_Sp (qj hm)) (by kernel_rfl)
theorem ok_Sp_18 (p1 e:Int) (a:LI) (b c:Int) (r:Int×Zb) (hm:m_Sp_18 p1 e a b c=some r):EE c_Sp_18 K_Sp_18 (s_Sp_18 p1 e a b c) (Post vf_Sp (res_Sp r)):=by
 obtain ⟨d,hm⟩|⟨d,hm⟩:=split_ite hm
 ·obtain ⟨f,g,hm⟩:=bind_some hm
  exact gw (ok_Sp_24 _ _ _ _ _ r hm) (u1 d<|wO (.res (res_Sn f))<|wP (ok_Sn (Zb.mk a b c) f g)<|z0) (by kernel_rfl)
 ·exact gw (ok_Sp_24 _ _ _ _ _ r hm) (v1 d<|z0) (by kernel_rfl)
theorem ok_Sp_0 (p1:Int) (p0:Zb) (r:Int×Zb) (hm:m_Sp_0 p1 p0=some r):EE c_Sp_0 K_Sp_0 (s_Sp_0 p1 p0) (Post vf_Sp (res_Sp r)):=by
 obtain ⟨b,hm⟩|⟨b,hm⟩:=split_ite hm
 ·exact ge (u1 b<|z0) (congrArg res_Sp (qj hm)) (by kernel_rfl)
 ·obtain ⟨a,d,hm⟩:=bind_some hm
  obtain ⟨c,hm⟩|⟨c,hm⟩:=split_ite hm
  ·obtain ⟨e,f,hm⟩:=bind_some hm
   exact gw (ok_Sp_18 _ _ _ _ _ r hm) (v1 b<|wO (.res (res_Sn a))<|wP (ok_Sn p0 a d)<|u1 c<|wO (.res (res_Sn e))<|wP (ok_Sn a.2 e f)<|z0) (by kernel_rfl)
  ·exact gw (ok_Sp_18 _ _ _ _ _ r hm) (v1 b<|wO (.res (res_Sn a))<|wP (ok_Sn p0 a d)<|v1 c<|z0) (by kernel_rfl)
theorem ok_Sp (p0:Zb) (p1:Int) (r:Int×Zb) (hm:m_Sp p0 p1=some r):Runs ext tbl 30 (as_Sp p0 p1) (res_Sp r):=
 runs_of (vf:=vf_Sp) (by kernel_rfl) rfl (st:=(enter vf_Sp (as_Sp p0 p1)).getD default) (by kernel_rfl) (go_on [] 1000 J0 (ok_Sp_0 p1 p0 r hm) (by kernel_rfl))
def O_Sq_9 (Q:VX→St→Prop) (e:(LI×Int×Int×LI)):Prop:=EE c_Sq_21 K_Sq_21 (s_Sq_21 e.1 e.2.1 e.2.2.1 e.2.2.2) Q
theorem ok_Sq_21 (b:LI) (c d:Int) (a:LI) (r:LI×Zb) (hm:m_Sq_21 b c d a=some r):EE c_Sq_21 K_Sq_21 (s_Sq_21 b c d a) (Post vf_Sq (res_Sq r)):=by
 exact ge (wR (rI .u8) a<|z0) (congrArg res_Sq (qj hm)) (by kernel_rfl)
theorem ok_Sq_9 (i c:Int) (d:LI) (f g:Int) (a:LI) (y) (hm:m_Sq_9 i c d f g a=some y) (Q)
  (hin:∀ s,y=.inl s→EE c_Sq_9 K_Sq_9 (s_Sq_9 s.1 s.2.1 s.2.2.1 s.2.2.2.1 s.2.2.2.2.1 s.2.2.2.2.2) Q) (hout:∀ e,y=.inr e→O_Sq_9 Q e):EE c_Sq_9 K_Sq_9 (s_Sq_9 i c d f g a) Q:=by
 obtain ⟨h,hm⟩|⟨h,hm⟩:=split_ite hm
 ·obtain ⟨b,k,hm⟩:=bind_some hm
  obtain ⟨l,j,hm⟩:=bind_some hm
  exact gw (hin _ (qj hm).symm) (u1 h<|wO (.res (res_Sp b))<|wO (.rows (List.map (rI .u8) (a.set (0+Int.toNat c) (wr .u8 (w64 (32+b.1))))))<|wO (zn ((a.set (0+Int.toNat c) (wr .u8 (w64 (32+b.1)))).length))<|wP (ok_Sp (Zb.mk d f g) 95 b k)<|wP (rd_in rfl j)<|wP (put_ob (rI .u8) (wr .u8 (w64 (32+b.1))) 0 (.lit (.int .u8 (wr .u8 (w64 (32+b.1))))) (rd_get0 j) (by kernel_rfl) (by kernel_rfl))<|wP (lens a.length ((a.set (0+Int.toNat c) (wr .u8 (w64 (32+b.1)))).length) (set_len rfl))<|z0) (by kernel_rfl)
 ·refine gm c_Sq_21 K_Sq_21 (s_Sq_21 d f g a) (v1 h<|wN a.length<|z0) ?_ (by kernel_rfl)
  exact hout (d,f,g,a) (qj hm).symm
theorem ok_Sq_0 (p1:Int) (p0:Zb) (r:LI×Zb) (hm:m_Sq_0 p1 p0=some r):EE c_Sq_0 K_Sq_0 (s_Sq_0 p1 p0) (Post vf_Sq (res_Sq r)):=by
 obtain ⟨d,a,hm⟩:=bind_some hm
 refine gm c_Sq_9 K_Sq_9 (s_Sq_9 ((Int.toNat p1):Int) 0 p0.code p0.at_ p0.seed (List.replicate (Int.toNat p1) (0:Int))) (wO (.rows (List.map (rI .u8) (List.replicate (Int.toNat p1) (0:Int))))<|wO (zn (Int.toNat p1))<|wO (zn ((List.replicate (Int.toNat p1) (0:Int)).length))<|wP (ck_p a)<|wP (rep_ob (rI .u8) (Int.toNat p1) (0:Int) [.lit (.int .u8 0)] (by kernel_rfl))<|wP (len_map (rI .u8) (show (Int.toNat p1)=(List.replicate (Int.toNat p1) (0:Int)).length from (rep_len (Int.toNat p1) (0:Int))))<|wP (lens (Int.toNat p1) ((List.replicate (Int.toNat p1) (0:Int)).length) (rep_len (Int.toNat p1) (0:Int)))<|z0) ?_ (by kernel_rfl)
 obtain ⟨e,he,hm⟩:=bind_some hm
 refine loop_rule (u:=.c c_Sq_9) (K:=K_Sq_9) (Q:=(Post vf_Sq (res_Sq r))) (b:=lp_Sq_9) (We:=O_Sq_9 (Post vf_Sq (res_Sq r))) (stJ:=fun s=>s_Sq_9 s.1 s.2.1 s.2.2.1 s.2.2.2.1 s.2.2.2.2.1 s.2.2.2.2.2) (s:=(((Int.toNat p1):Int),0,p0.code,p0.at_,p0.seed,(List.replicate (Int.toNat p1) (0:Int)))) (fun s y hb hin hout=>ok_Sq_9 s.1 s.2.1 s.2.2.1 s.2.2.2.1 s.2.2.2.2.1 s.2.2.2.2.2 y hb (Post vf_Sq (res_Sq r)) hin hout) he ?_
 show EE c_Sq_21 K_Sq_21 (s_Sq_21 e.1 e.2.1 e.2.2.1 e.2.2.2) _
 exact ok_Sq_21 e.1 e.2.1 e.2.2.1 e.2.2.2 r hm
theorem ok_Sq (p0:Zb) (p1:Int) (r:LI×Zb) (hm:m_Sq p0 p1=some r):Runs ext tbl 52 (as_Sq p0 p1) (res_Sq r):=
 runs_of (vf:=vf_Sq) (by kernel_rfl) rfl (st:=(enter vf_Sq (as_Sq p0 p1)).getD default) (by kernel_rfl) (go_on [] 1000 J0 (ok_Sq_0 p1 p0 r hm) (by kernel_rfl))
def O_Sj_7 (Q:VX→St→Prop) (e:(Bool)⊕((Unit))):Prop:=match e with | .inl e=>Q=Post vf_Sj (res_Sj e) | .inr e=>EE c_Sj_23 K_Sj_23 (s_Sj_23) Q
theorem ok_Sj_23 (r:Bool) (hm:m_Sj_23=some r):EE c_Sj_23 K_Sj_23 (s_Sj_23) (Post vf_Sj (res_Sj r)):=by
 exact ge (z0) (congrArg res_Sj (qj hm)) (by kernel_rfl)
theorem ok_Sj_7 (p0:ByteArray) (c:Int) (y) (hm:m_Sj_7 p0 c=some y) (Q)
  (hin:∀ s,y=.inl s→EE c_Sj_7 K_Sj_7 (s_Sj_7 p0 s) Q) (hout:∀ e,y=.inr e→O_Sj_7 Q e):EE c_Sj_7 K_Sj_7 (s_Sj_7 p0 c) Q:=by
 obtain ⟨a,hm⟩|⟨a,hm⟩:=split_ite hm
 ·obtain ⟨g,d,hm⟩:=bind_some hm
  obtain ⟨h,f,hm⟩:=bind_some hm
  obtain ⟨b,hm⟩|⟨b,hm⟩:=split_ite hm
  ·have hQ:Q=Post vf_Sj (res_Sj true):=hout (.inl true) (qj hm).symm
   subst hQ
   exact ge (u1 a<|wP (ck_p d)<|wP (ck_p f)<|u1 b<|z0) (rfl:res_Sj true=res_Sj true) (by kernel_rfl)
  ·exact gw (hin _ (qj hm).symm) (u1 a<|wP (ck_p d)<|wP (ck_p f)<|v1 b<|z0) (by kernel_rfl)
 ·refine gm c_Sj_23 K_Sj_23 (s_Sj_23) (v1 a<|z0) ?_ (by kernel_rfl)
  exact hout (.inr ()) (qj hm).symm
theorem ok_Sj_0 (p0:ByteArray) (r:Bool) (hm:m_Sj_0 p0=some r):EE c_Sj_0 K_Sj_0 (s_Sj_0 p0) (Post vf_Sj (res_Sj r)):=by
 refine gm c_Sj_7 K_Sj_7 (s_Sj_7 p0 0) (z0) ?_ (by kernel_rfl)
 obtain ⟨e,he,hm⟩:=bind_some hm
 refine loop_rule (u:=.c c_Sj_7) (K:=K_Sj_7) (Q:=(Post vf_Sj (res_Sj r))) (b:=lp_Sj_7 p0) (We:=O_Sj_7 (Post vf_Sj (res_Sj r))) (stJ:=fun s=>s_Sj_7 p0 s) (s:=0) (fun s y hb hin hout=>ok_Sj_7 p0 s y hb (Post vf_Sj (res_Sj r)) hin hout) he ?_
 rcases e with e | e
 ·exact congrArg (fun r=>Post vf_Sj (res_Sj r)) (qj hm).symm
 ·show EE c_Sj_23 K_Sj_23 (s_Sj_23) _
  exact ok_Sj_23 r hm
theorem ok_Sj (p0:ByteArray) (r:Bool) (hm:m_Sj p0=some r):Runs ext tbl 51 (as_Sj p0) (res_Sj r):=
 runs_of (vf:=vf_Sj) (by kernel_rfl) rfl (st:=(enter vf_Sj (as_Sj p0)).getD default) (by kernel_rfl) (go_on [] 1000 J0 (ok_Sj_0 p0 r hm) (by kernel_rfl))
def O_Sm_28 (p1 a:Int) (b:LZ) (Q:VX→St→Prop) (e:(Int×LI×Int×Int×Int×Int×(List ByteArray))):Prop:=EE c_Sm_44 K_Sm_44 (s_Sm_44 p1 a b e.1 e.2.1 e.2.2.1 e.2.2.2.1 e.2.2.2.2.1 e.2.2.2.2.2.1 e.2.2.2.2.2.2) Q
def O_Sm_11 (Q:VX→St→Prop) (e:(LI×Int×Int×LZ)):Prop:=EE c_Sm_46 K_Sm_46 (s_Sm_46 e.1 e.2.1 e.2.2.1 e.2.2.2) Q
theorem ok_Sm_44 (p1 f:Int) (d:LZ) (g:Int) (h:LI) (i j b c:Int) (a:(List ByteArray)) (y) (hm:m_Sm_44 p1 f d g h i j b c a=some y) (Q)
  (hin:∀ s,y=.inl s→EE c_Sm_11 K_Sm_11 (s_Sm_11 p1 s.1 s.2.1 s.2.2.1 s.2.2.2.1 s.2.2.2.2.1 s.2.2.2.2.2) Q) (hout:∀ e,y=.inr e→O_Sm_11 Q e):EE c_Sm_44 K_Sm_44 (s_Sm_44 p1 f d g h i j b c a) Q:=by
 obtain ⟨l,k,hm⟩:=bind_some hm
 exact gw (hin _ (qj hm).symm) (wR rS a<|wO (.rows (List.map rZa ([(Za.mk b c a)]:LZ)))<|wO (zn 1)<|wO (.rows (List.map rZa (d++([(Za.mk b c a)]:LZ))))<|wO (zn ((d++([(Za.mk b c a)]:LZ)).length))<|wO (zn ((d++([(Za.mk b c a)]:LZ)).length))<|wP (Eq.refl (List.map rZa ([(Za.mk b c a)]:LZ)))<|wP (len_map rZa (show 1=([(Za.mk b c a)]:LZ).length from rfl))<|wP (all_eq rZa ([(Za.mk b c a)]:LZ) rfl)<|wP (all_le rZa ([(Za.mk b c a)]:LZ) rfl)<|wP (app_ck_ro rZa d ([(Za.mk b c a)]:LZ) rfl k)<|wP (app_tell_ro rZa d ([(Za.mk b c a)]:LZ) rfl)<|wP (len_map rZa (show (d++([(Za.mk b c a)]:LZ)).length=(d++([(Za.mk b c a)]:LZ)).length from rfl))<|wP (lens ((d++([(Za.mk b c a)]:LZ)).length) ((d++([(Za.mk b c a)]:LZ)).length) rfl)<|z0) (by kernel_rfl)
theorem ok_Sm_28 (p1 k:Int) (d:LZ) (l t:Int) (g:LI) (h i m n:Int) (b:(List ByteArray)) (y) (hm:m_Sm_28 p1 k d l t g h i m n b=some y) (Q)
  (hin:∀ s,y=.inl s→EE c_Sm_28 K_Sm_28 (s_Sm_28 p1 k d s.1 s.2.1 s.2.2.1 s.2.2.2.1 s.2.2.2.2.1 s.2.2.2.2.2.1 s.2.2.2.2.2.2.1 s.2.2.2.2.2.2.2) Q) (hout:∀ e,y=.inr e→O_Sm_28 p1 k d Q e):EE c_Sm_28 K_Sm_28 (s_Sm_28 p1 k d l t g h i m n b) Q:=by
 obtain ⟨o,hm⟩|⟨o,hm⟩:=split_ite hm
 ·obtain ⟨f,u,hm⟩:=bind_some hm
  obtain ⟨c,v,hm⟩:=bind_some hm
  obtain ⟨a,w,hm⟩:=bind_some hm
  obtain ⟨B,x,hm⟩:=bind_some hm
  obtain ⟨C,z,hm⟩:=bind_some hm
  obtain ⟨p,j,hm⟩:=bind_some hm
  obtain ⟨q,A,hm⟩:=bind_some hm
  obtain ⟨r,hm⟩|⟨r,hm⟩:=split_ite hm
  ·exact gw (hin _ (qj hm).symm) (u1 o<|wO (.res (res_Sp f))<|wO (.res (res_Sq c))<|wP (ok_Sp (Zb.mk g h i) 12 f u)<|wP (ok_Sq f.2 f.1 c v)<|wL (rI .u8) c.1<|wO (.rows (List.map (rI .u8) c.1))<|wO (.str a)<|wO (.rows (List.map rS ([(a++(ByteArray.mk #[120]))]:List ByteArray)))<|wO (zn 1)<|wO (.rows (List.map rS (b++([(a++(ByteArray.mk #[120]))]:List ByteArray))))<|wO (zn ((b++([(a++(ByteArray.mk #[120]))]:List ByteArray)).length))<|wO (.row (rS p))<|wO (.res (res_Sj q))<|wO zT<|wO (.rows (List.map rS ((b++([(a++(ByteArray.mk #[120]))]:List ByteArray)).set (0+Int.toNat (w64 (((b++([(a++(ByteArray.mk #[120]))]:List ByteArray)).length:Int) - 1))) (ByteArray.mk #[121]))))<|wO (zn d.length)<|wO (zn (((b++([(a++(ByteArray.mk #[120]))]:List ByteArray)).set (0+Int.toNat (w64 (((b++([(a++(ByteArray.mk #[120]))]:List ByteArray)).length:Int) - 1))) (ByteArray.mk #[121])).length))<|wP (all_le (rI .u8) c.1 rfl)<|wP (all_dt (rI .u8) c.1 rfl)<|wP (bstr_t w)<|wP (ck_p x)<|wP (Eq.refl (List.map rS ([(a++(ByteArray.mk #[120]))]:List ByteArray)))<|wP (len_map rS (show 1=([(a++(ByteArray.mk #[120]))]:List ByteArray).length from rfl))<|wP (all_le rS ([(a++(ByteArray.mk #[120]))]:List ByteArray) rfl)<|wP (app_ck rS b ([(a++(ByteArray.mk #[120]))]:List ByteArray) rfl rfl z)<|wP (app_tell rS b ([(a++(ByteArray.mk #[120]))]:List ByteArray) rfl rfl)<|wP (len_map rS (show (b++([(a++(ByteArray.mk #[120]))]:List ByteArray)).length=(b++([(a++(ByteArray.mk #[120]))]:List ByteArray)).length from rfl))<|wP (rd_in rfl j)<|wP (at_row rS (rd_get0 j))<|wP (ok_Sj p q A)<|wP r<|wP (rd_in rfl j)<|wP (put_ob rS (ByteArray.mk #[121]) 0 (.lit (.string (ByteArray.mk #[121]))) (rd_get0 j) (by kernel_rfl) (by kernel_rfl))<|wP (ln d.length)<|wP (lens ((b++([(a++(ByteArray.mk #[120]))]:List ByteArray)).length) (((b++([(a++(ByteArray.mk #[120]))]:List ByteArray)).set (0+Int.toNat (w64 (((b++([(a++(ByteArray.mk #[120]))]:List ByteArray)).length:Int) - 1))) (ByteArray.mk #[121])).length) (set_len rfl))<|z0) (by kernel_rfl)
  ·exact gw (hin _ (qj hm).symm) (u1 o<|wO (.res (res_Sp f))<|wO (.res (res_Sq c))<|wP (ok_Sp (Zb.mk g h i) 12 f u)<|wP (ok_Sq f.2 f.1 c v)<|wL (rI .u8) c.1<|wO (.rows (List.map (rI .u8) c.1))<|wO (.str a)<|wO (.rows (List.map rS ([(a++(ByteArray.mk #[120]))]:List ByteArray)))<|wO (zn 1)<|wO (.rows (List.map rS (b++([(a++(ByteArray.mk #[120]))]:List ByteArray))))<|wO (zn ((b++([(a++(ByteArray.mk #[120]))]:List ByteArray)).length))<|wO (.row (rS p))<|wO (.res (res_Sj q))<|wO zF<|wO (zn d.length)<|wO (zn ((b++([(a++(ByteArray.mk #[120]))]:List ByteArray)).length))<|wP (all_le (rI .u8) c.1 rfl)<|wP (all_dt (rI .u8) c.1 rfl)<|wP (bstr_t w)<|wP (ck_p x)<|wP (Eq.refl (List.map rS ([(a++(ByteArray.mk #[120]))]:List ByteArray)))<|wP (len_map rS (show 1=([(a++(ByteArray.mk #[120]))]:List ByteArray).length from rfl))<|wP (all_le rS ([(a++(ByteArray.mk #[120]))]:List ByteArray) rfl)<|wP (app_ck rS b ([(a++(ByteArray.mk #[120]))]:List ByteArray) rfl rfl z)<|wP (app_tell rS b ([(a++(ByteArray.mk #[120]))]:List ByteArray) rfl rfl)<|wP (len_map rS (show (b++([(a++(ByteArray.mk #[120]))]:List ByteArray)).length=(b++([(a++(ByteArray.mk #[120]))]:List ByteArray)).length from rfl))<|wP (rd_in rfl j)<|wP (at_row rS (rd_get0 j))<|wP (ok_Sj p q A)<|wP r<|wP (ln d.length)<|wP (lens ((b++([(a++(ByteArray.mk #[120]))]:List ByteArray)).length) ((b++([(a++(ByteArray.mk #[120]))]:List ByteArray)).length) rfl)<|z0) (by kernel_rfl)
 ·refine gm c_Sm_44 K_Sm_44 (s_Sm_44 p1 k d l g h i m n b) (v1 o<|wN d.length<|wN b.length<|z0) ?_ (by kernel_rfl)
  exact hout (l,g,h,i,m,n,b) (qj hm).symm
theorem ok_Sm_46 (b:LI) (c d:Int) (a:LZ) (r:LZ×Zb) (hm:m_Sm_46 b c d a=some r):EE c_Sm_46 K_Sm_46 (s_Sm_46 b c d a) (Post vf_Sm (res_Sm r)):=by
 exact ge (wR rZa a<|z0) (congrArg res_Sm (qj hm)) (by kernel_rfl)
theorem ok_Sm_11 (p1 i f:Int) (j:LI) (k l:Int) (a:LZ) (y) (hm:m_Sm_11 p1 i f j k l a=some y) (Q)
  (hin:∀ s,y=.inl s→EE c_Sm_11 K_Sm_11 (s_Sm_11 p1 s.1 s.2.1 s.2.2.1 s.2.2.2.1 s.2.2.2.2.1 s.2.2.2.2.2) Q) (hout:∀ e,y=.inr e→O_Sm_11 Q e):EE c_Sm_11 K_Sm_11 (s_Sm_11 p1 i f j k l a) Q:=by
 obtain ⟨n,hm⟩|⟨n,hm⟩:=split_ite hm
 ·obtain ⟨g,o,hm⟩:=bind_some hm
  obtain ⟨h,p,hm⟩:=bind_some hm
  obtain ⟨m,q,hm⟩:=bind_some hm
  obtain ⟨d,r,hm⟩:=bind_some hm
  refine gm c_Sm_28 K_Sm_28 (s_Sm_28 p1 f a (w64 (i+(w64 (g.1*h.1)))) (w64 (1+d.1)) d.2.code d.2.at_ d.2.seed (w64 (i+(w64 (g.1*h.1)))) (w64 ((w64 ((w64 (i+(w64 (g.1*h.1))))+1))+m.1)) ([]:List ByteArray)) (u1 n<|wO (.res (res_Sp g))<|wO (.res (res_Sp h))<|wO (.res (res_Sp m))<|wO (.res (res_Sp d))<|wP (ok_Sp (Zb.mk j k l) 3000 g o)<|wP (ok_Sp g.2 2 h p)<|wP (ok_Sp h.2 9000 m q)<|wP (ok_Sp m.2 4 d r)<|wN a.length<|wO (zn (([]:List ByteArray).length))<|wP (lens 0 (([]:List ByteArray).length) rfl)<|z0) ?_ (by kernel_rfl)
  obtain ⟨e,he,hm⟩:=bind_some hm
  refine loop_rule (u:=.c c_Sm_28) (K:=K_Sm_28) (Q:=Q) (b:=lp_Sm_28 p1 f a) (We:=O_Sm_28 p1 f a Q) (stJ:=fun s=>s_Sm_28 p1 f a s.1 s.2.1 s.2.2.1 s.2.2.2.1 s.2.2.2.2.1 s.2.2.2.2.2.1 s.2.2.2.2.2.2.1 s.2.2.2.2.2.2.2) (s:=((w64 (i+(w64 (g.1*h.1)))),(w64 (1+d.1)),d.2.code,d.2.at_,d.2.seed,(w64 (i+(w64 (g.1*h.1)))),(w64 ((w64 ((w64 (i+(w64 (g.1*h.1))))+1))+m.1)),([]:List ByteArray))) (fun s y hb hin hout=>ok_Sm_28 p1 f a s.1 s.2.1 s.2.2.1 s.2.2.2.1 s.2.2.2.2.1 s.2.2.2.2.2.1 s.2.2.2.2.2.2.1 s.2.2.2.2.2.2.2 y hb Q hin hout) he ?_
  show EE c_Sm_44 K_Sm_44 (s_Sm_44 p1 f a e.1 e.2.1 e.2.2.1 e.2.2.2.1 e.2.2.2.2.1 e.2.2.2.2.2.1 e.2.2.2.2.2.2) _
  exact ok_Sm_44 p1 f a e.1 e.2.1 e.2.2.1 e.2.2.2.1 e.2.2.2.2.1 e.2.2.2.2.2.1 e.2.2.2.2.2.2 y hm Q hin hout
 ·refine gm c_Sm_46 K_Sm_46 (s_Sm_46 j k l a) (v1 n<|wN a.length<|z0) ?_ (by kernel_rfl)
  exact hout (j,k,l,a) (qj hm).symm
theorem ok_Sm_0 (p1:Int) (p0:Zb) (r:LZ×Zb) (hm:m_Sm_0 p1 p0=some r):EE c_Sm_0 K_Sm_0 (s_Sm_0 p1 p0) (Post vf_Sm (res_Sm r)):=by
 obtain ⟨a,d,hm⟩:=bind_some hm
 refine gm c_Sm_11 K_Sm_11 (s_Sm_11 p1 a.1 0 a.2.code a.2.at_ a.2.seed ([]:LZ)) (wO (.res (res_Sp a))<|wO (zn (([]:LZ).length))<|wP (ok_Sp p0 5000 a d)<|wP (lens 0 (([]:LZ).length) rfl)<|z0) ?_ (by kernel_rfl)
 obtain ⟨e,he,hm⟩:=bind_some hm
 refine loop_rule (u:=.c c_Sm_11) (K:=K_Sm_11) (Q:=(Post vf_Sm (res_Sm r))) (b:=lp_Sm_11 p1) (We:=O_Sm_11 (Post vf_Sm (res_Sm r))) (stJ:=fun s=>s_Sm_11 p1 s.1 s.2.1 s.2.2.1 s.2.2.2.1 s.2.2.2.2.1 s.2.2.2.2.2) (s:=(a.1,0,a.2.code,a.2.at_,a.2.seed,([]:LZ))) (fun s y hb hin hout=>ok_Sm_11 p1 s.1 s.2.1 s.2.2.1 s.2.2.2.1 s.2.2.2.2.1 s.2.2.2.2.2 y hb (Post vf_Sm (res_Sm r)) hin hout) he ?_
 show EE c_Sm_46 K_Sm_46 (s_Sm_46 e.1 e.2.1 e.2.2.1 e.2.2.2) _
 exact ok_Sm_46 e.1 e.2.1 e.2.2.1 e.2.2.2 r hm
theorem ok_Sm (p0:Zb) (p1:Int) (r:LZ×Zb) (hm:m_Sm p0 p1=some r):Runs ext tbl 43 (as_Sm p0 p1) (res_Sm r):=
 runs_of (vf:=vf_Sm) (by kernel_rfl) rfl (st:=(enter vf_Sm (as_Sm p0 p1)).getD default) (by kernel_rfl) (go_on [] 1000 J0 (ok_Sm_0 p1 p0 r hm) (by kernel_rfl))
theorem ok_So_0 (p1:Int) (p0:Zb) (r:Bool×Zb) (hm:m_So_0 p1 p0=some r):EE c_So_0 K_So_0 (s_So_0 p1 p0) (Post vf_So (res_So r)):=by
 obtain ⟨a,b,hm⟩:=bind_some hm
 exact ge (wO (.res (res_Sp a))<|wP (ok_Sp p0 p1 a b)<|z0) (congrArg res_So (qj hm)) (by kernel_rfl)
theorem ok_So (p0:Zb) (p1:Int) (r:Bool×Zb) (hm:m_So p0 p1=some r):Runs ext tbl 31 (as_So p0 p1) (res_So r):=
 runs_of (vf:=vf_So) (by kernel_rfl) rfl (st:=(enter vf_So (as_So p0 p1)).getD default) (by kernel_rfl) (go_on [] 1000 J0 (ok_So_0 p1 p0 r hm) (by kernel_rfl))
theorem ok_Sh_43 (h:LI) (i j a b:Int) (e:(List ByteArray)) (d:LZ) (r:LZ×Zb) (hm:m_Sh_43 h i j a b e d=some r):EE c_Sh_43 K_Sh_43 (s_Sh_43 h i j a b e d) (Post vf_Sh (res_Sh r)):=by
 obtain ⟨f,k,hm⟩:=bind_some hm
 obtain ⟨c,g,hm⟩:=bind_some hm
 exact ge (wO (.res (res_Sp f))<|wO (.rows (List.map rZa (d.set (0+Int.toNat f.1) (Za.mk a c.to_ c.lines))))<|wO (.rows (List.map rZa (d.set (0+Int.toNat f.1) (Za.mk a b c.lines))))<|wO (.rows (List.map rZa (d.set (0+Int.toNat f.1) (Za.mk a b e))))<|wO (.rows (List.map rZa (d.set (0+Int.toNat f.1) (Za.mk a b e))))<|wP (ok_Sp (Zb.mk h i j) (d.length:Int) f k)<|wP (rd_in rfl g)<|wP (put_ob rZa (Za.mk a c.to_ c.lines) 0 (.lit (vI a)) (rd_get0 g) (by kernel_rfl) (by kernel_rfl))<|wP (put_ob2 rZa (Za.mk a b c.lines) 1 (.lit (vI b)) (set_at (Za.mk a c.to_ c.lines) (rd_get0 g)) (by kernel_rfl) (by kernel_rfl))<|wP (put_ob2 rZa (Za.mk a b e) 2 (.sl (e.map rS)) (set_at2 (Za.mk a b c.lines) (set_at (Za.mk a c.to_ c.lines) (rd_get0 g))) (by kernel_rfl) (by kernel_rfl))<|wP (all_le0 rZa (d.set (0+Int.toNat f.1) (Za.mk a b e)) (set_len rfl))<|wP (all_t rZa (d.set (0+Int.toNat f.1) (Za.mk a b e)) (set_len rfl))<|z0) (congrArg res_Sh (qj hm)) (by kernel_rfl)
theorem ok_Sh_15 (g:Bool×Zb) (d:LZ) (s:Bool) (r:LZ×Zb) (hm:m_Sh_15 g d s=some r):EE c_Sh_15 K_Sh_15 (s_Sh_15 g d s) (Post vf_Sh (res_Sh r)):=by
 obtain ⟨h,hm⟩|⟨h,hm⟩:=split_ite hm
 ·obtain ⟨e,k,hm⟩:=bind_some hm
  obtain ⟨a,b,hm⟩:=bind_some hm
  obtain ⟨f,l,hm⟩:=bind_some hm
  obtain ⟨i,hm⟩|⟨i,hm⟩:=split_ite hm
  ·exact gw (ok_Sh_43 _ _ _ _ _ _ _ r hm) (u1 h<|wO (.res (res_Sp e))<|wO (.row (rZa a))<|wP (ok_Sp g.2 (d.length:Int) e k)<|wP (rd_in rfl b)<|wP (at_row rZa (rd_get0 b))<|wL rS a.lines<|wO (.res (res_Sp f))<|wP (ok_Sp e.2 6 f l)<|u1 i<|wO (.row (rZa a))<|wO (.rows (List.map rS a.lines))<|wO (.row (rZa a))<|wO (.rows (List.map rS a.lines))<|wO (zn d.length)<|wP (at_row rZa (rd_get0 b))<|wP (all_eq rS a.lines rfl)<|wP (Eq.refl (List.map rS a.lines))<|wP (at_row rZa (rd_get0 b))<|wP (all_eq rS a.lines rfl)<|wP (Eq.refl (List.map rS a.lines))<|wP (ln d.length)<|z0) (by kernel_rfl)
  ·obtain ⟨m,hm⟩|⟨m,hm⟩:=split_ite hm
   ·obtain ⟨u,j,hm⟩:=bind_some hm
    exact gw (ok_Sh_43 _ _ _ _ _ _ _ r hm) (u1 h<|wO (.res (res_Sp e))<|wO (.row (rZa a))<|wP (ok_Sp g.2 (d.length:Int) e k)<|wP (rd_in rfl b)<|wP (at_row rZa (rd_get0 b))<|wL rS a.lines<|wO (.res (res_Sp f))<|wP (ok_Sp e.2 6 f l)<|v1 i<|u1 m<|wO (.rows (List.map rS ([(ByteArray.mk #[97,32,45,45,62,32,98])]:List ByteArray)))<|wO (zn 1)<|wO (.row (rZa a))<|wO (.row (rZa a))<|wO (.rows (List.map rS a.lines))<|wO (.row (rZa a))<|wO (.rows (List.map rS a.lines))<|wO (.row (rZa a))<|wO (.rows (List.map rS a.lines))<|wO (.rows (List.map rS (a.lines++([(ByteArray.mk #[97,32,45,45,62,32,98])]:List ByteArray))))<|wO (zn d.length)<|wP (Eq.refl (List.map rS ([(ByteArray.mk #[97,32,45,45,62,32,98])]:List ByteArray)))<|wP (len_map rS (show 1=([(ByteArray.mk #[97,32,45,45,62,32,98])]:List ByteArray).length from rfl))<|wP (all_le rS ([(ByteArray.mk #[97,32,45,45,62,32,98])]:List ByteArray) rfl)<|wP (at_row rZa (rd_get0 b))<|wP (appr_ck rS a.lines ([(ByteArray.mk #[97,32,45,45,62,32,98])]:List ByteArray) rfl rfl j)<|wP (at_row rZa (rd_get0 b))<|wP (all_eq rS a.lines rfl)<|wP (Eq.refl (List.map rS a.lines))<|wP (at_row rZa (rd_get0 b))<|wP (all_eq rS a.lines rfl)<|wP (Eq.refl (List.map rS a.lines))<|wP (at_row rZa (rd_get0 b))<|wP (all_eq rS a.lines rfl)<|wP (Eq.refl (List.map rS a.lines))<|wP (appr_tell rS a.lines ([(ByteArray.mk #[97,32,45,45,62,32,98])]:List ByteArray) rfl)<|wP (ln d.length)<|z0) (by kernel_rfl)
   ·obtain ⟨j,hm⟩|⟨j,hm⟩:=split_ite hm
    ·obtain ⟨t,n,hm⟩:=bind_some hm
     obtain ⟨c,o,hm⟩:=bind_some hm
     obtain ⟨q,p,hm⟩:=bind_some hm
     exact gw (ok_Sh_43 _ _ _ _ _ _ _ r hm) (u1 h<|wO (.res (res_Sp e))<|wO (.row (rZa a))<|wP (ok_Sp g.2 (d.length:Int) e k)<|wP (rd_in rfl b)<|wP (at_row rZa (rd_get0 b))<|wL rS a.lines<|wO (.res (res_Sp f))<|wP (ok_Sp e.2 6 f l)<|v1 i<|v1 m<|u1 j<|wO (.rows (List.map rS ([(ByteArray.mk #[]),(ByteArray.mk #[101,110,100,32]),(ByteArray.mk #[97,9,98]),(ByteArray.mk #[32,32,108,101,100]),(ByteArray.mk #[45,45]),(ByteArray.mk #[45,62])]:List ByteArray)))<|wO (.res (res_Sp t))<|wO (.row (rS c))<|wO (.row (rZa a))<|wO (.rows (List.map rS (a.lines.set (0+Int.toNat 0) c)))<|wO (.row (rZa a))<|wO (.rows (List.map rZa (d.set (0+Int.toNat e.1) (Za.mk a.from_ a.to_ (a.lines.set (0+Int.toNat 0) c)))))<|wO (.row (rZa (Za.mk a.from_ a.to_ (a.lines.set (0+Int.toNat 0) c))))<|wO (.rows (List.map rS (a.lines.set (0+Int.toNat 0) c)))<|wO (.row (rZa (Za.mk a.from_ a.to_ (a.lines.set (0+Int.toNat 0) c))))<|wO (.rows (List.map rS (a.lines.set (0+Int.toNat 0) c)))<|wO (.row (rZa (Za.mk a.from_ a.to_ (a.lines.set (0+Int.toNat 0) c))))<|wO (.rows (List.map rS (a.lines.set (0+Int.toNat 0) c)))<|wO (zn ((d.set (0+Int.toNat e.1) (Za.mk a.from_ a.to_ (a.lines.set (0+Int.toNat 0) c))).length))<|wP (Eq.refl (List.map rS ([(ByteArray.mk #[]),(ByteArray.mk #[101,110,100,32]),(ByteArray.mk #[97,9,98]),(ByteArray.mk #[32,32,108,101,100]),(ByteArray.mk #[45,45]),(ByteArray.mk #[45,62])]:List ByteArray)))<|wP (ok_Sp f.2 6 t n)<|wP (rd_nn o)<|wP (at_row rS (rd_get o))<|wP (rd_in rfl p)<|wP (at_row rZa (rd_get0 b))<|wP (put_ob rS c 0 (.lit (.string c)) (rd_get0 p) (by kernel_rfl) (by kernel_rfl))<|wP (at_row rZa (rd_get0 b))<|wP (upd_ob rZa d (0+Int.toNat e.1) a (Za.mk a.from_ a.to_ (a.lines.set (0+Int.toNat 0) c)) 2 (.sl ((a.lines.set (0+Int.toNat 0) c).map rS)) (by kernel_rfl))<|wP (at_row rZa (set_at (Za.mk a.from_ a.to_ (a.lines.set (0+Int.toNat 0) c)) (rd_get0 b)))<|wP (all_eq rS (a.lines.set (0+Int.toNat 0) c) (set_len (rfl:a.lines.length=a.lines.length):a.lines.length=(a.lines.set (0+Int.toNat 0) c).length))<|wP (Eq.refl (List.map rS (a.lines.set (0+Int.toNat 0) c)))<|wP (at_row rZa (set_at (Za.mk a.from_ a.to_ (a.lines.set (0+Int.toNat 0) c)) (rd_get0 b)))<|wP (all_eq rS (a.lines.set (0+Int.toNat 0) c) (set_len (rfl:a.lines.length=a.lines.length):a.lines.length=(a.lines.set (0+Int.toNat 0) c).length))<|wP (Eq.refl (List.map rS (a.lines.set (0+Int.toNat 0) c)))<|wP (at_row rZa (set_at (Za.mk a.from_ a.to_ (a.lines.set (0+Int.toNat 0) c)) (rd_get0 b)))<|wP (all_eq rS (a.lines.set (0+Int.toNat 0) c) (set_len (rfl:a.lines.length=a.lines.length):a.lines.length=(a.lines.set (0+Int.toNat 0) c).length))<|wP (Eq.refl (List.map rS (a.lines.set (0+Int.toNat 0) c)))<|wP (lens d.length ((d.set (0+Int.toNat e.1) (Za.mk a.from_ a.to_ (a.lines.set (0+Int.toNat 0) c))).length) (set_len rfl))<|z0) (by kernel_rfl)
    ·obtain ⟨n,hm⟩|⟨n,hm⟩:=split_ite hm
     ·exact gw (ok_Sh_43 _ _ _ _ _ _ _ r hm) (u1 h<|wO (.res (res_Sp e))<|wO (.row (rZa a))<|wP (ok_Sp g.2 (d.length:Int) e k)<|wP (rd_in rfl b)<|wP (at_row rZa (rd_get0 b))<|wL rS a.lines<|wO (.res (res_Sp f))<|wP (ok_Sp e.2 6 f l)<|v1 i<|v1 m<|v1 j<|u1 n<|wO (.row (rZa a))<|wO (.rows (List.map rS a.lines))<|wO (.rows (List.map rS ([]:List ByteArray)))<|wP (at_row rZa (rd_get0 b))<|wP (all_eq rS a.lines rfl)<|wP (Eq.refl (List.map rS a.lines))<|wP (all_le rS ([]:List ByteArray) rfl)<|wP (all_dt rS ([]:List ByteArray) rfl)<|wN d.length<|z0) (by kernel_rfl)
     ·obtain ⟨o,hm⟩|⟨o,hm⟩:=split_ite hm
      ·exact gw (ok_Sh_43 _ _ _ _ _ _ _ r hm) (u1 h<|wO (.res (res_Sp e))<|wO (.row (rZa a))<|wP (ok_Sp g.2 (d.length:Int) e k)<|wP (rd_in rfl b)<|wP (at_row rZa (rd_get0 b))<|wL rS a.lines<|wO (.res (res_Sp f))<|wP (ok_Sp e.2 6 f l)<|v1 i<|v1 m<|v1 j<|v1 n<|u1 o<|wO (.row (rZa a))<|wO (.rows (List.map rS a.lines))<|wO (.row (rZa a))<|wO (.rows (List.map rS a.lines))<|wO (zn d.length)<|wP (at_row rZa (rd_get0 b))<|wP (all_eq rS a.lines rfl)<|wP (Eq.refl (List.map rS a.lines))<|wP (at_row rZa (rd_get0 b))<|wP (all_eq rS a.lines rfl)<|wP (Eq.refl (List.map rS a.lines))<|wP (ln d.length)<|z0) (by kernel_rfl)
      ·obtain ⟨q,p,hm⟩:=bind_some hm
       exact gw (ok_Sh_43 _ _ _ _ _ _ _ r hm) (u1 h<|wO (.res (res_Sp e))<|wO (.row (rZa a))<|wP (ok_Sp g.2 (d.length:Int) e k)<|wP (rd_in rfl b)<|wP (at_row rZa (rd_get0 b))<|wL rS a.lines<|wO (.res (res_Sp f))<|wP (ok_Sp e.2 6 f l)<|v1 i<|v1 m<|v1 j<|v1 n<|v1 o<|wO (.res (res_Sp q))<|wO (.row (rZa a))<|wO (.rows (List.map rS a.lines))<|wO (.row (rZa a))<|wO (.rows (List.map rS a.lines))<|wO (zn d.length)<|wP (ok_Sp f.2 2 q p)<|wP (at_row rZa (rd_get0 b))<|wP (all_eq rS a.lines rfl)<|wP (Eq.refl (List.map rS a.lines))<|wP (at_row rZa (rd_get0 b))<|wP (all_eq rS a.lines rfl)<|wP (Eq.refl (List.map rS a.lines))<|wP (ln d.length)<|z0) (by kernel_rfl)
 ·exact ge (v1 h<|wR rZa d<|z0) (congrArg res_Sh (qj hm)) (by kernel_rfl)
theorem ok_Sh_12 (a:LI) (b c:Int) (d:LZ) (r:LZ×Zb) (hm:m_Sh_12 a b c d=some r):EE c_Sh_12 K_Sh_12 (s_Sh_12 a b c d) (Post vf_Sh (res_Sh r)):=by
 obtain ⟨e,g,hm⟩:=bind_some hm
 obtain ⟨f,hm⟩|⟨f,hm⟩:=split_ite hm
 ·exact gw (ok_Sh_15 _ _ _ r hm) (wO (.res (res_So e))<|wP (ok_So (Zb.mk a b c) 4 e g)<|u4 f<|wN d.length<|z0) (by kernel_rfl)
 ·exact gw (ok_Sh_15 _ _ _ r hm) (wO (.res (res_So e))<|wP (ok_So (Zb.mk a b c) 4 e g)<|v4 f<|wN d.length<|z0) (by kernel_rfl)
theorem ok_Sh_0 (p0:LI) (r:LZ×Zb) (hm:m_Sh_0 p0=some r):EE c_Sh_0 K_Sh_0 (s_Sh_0 p0) (Post vf_Sh (res_Sh r)):=by
 obtain ⟨b,g,hm⟩:=bind_some hm
 obtain ⟨a,h,hm⟩:=bind_some hm
 obtain ⟨c,i,hm⟩:=bind_some hm
 obtain ⟨f,hm⟩|⟨f,hm⟩:=split_ite hm
 ·obtain ⟨d,j,hm⟩:=bind_some hm
  obtain ⟨e,k,hm⟩:=bind_some hm
  exact gw (ok_Sh_12 _ _ _ _ r hm) (wO (.res (res_Sp b))<|wO (.res (res_Sm a))<|wP (ok_Sp (Zb.mk p0 0 0) 8 b g)<|wP (ok_Sm b.2 b.1 a h)<|wL rZa a.1<|wO (.res (res_So c))<|wP (ok_So a.2 40 c i)<|u1 f<|wO (.res (res_Sp d))<|wO (.res (res_Sm e))<|wP (ok_Sp c.2 2 d j)<|wP (ok_Sm d.2 (w64 (200+d.1)) e k)<|wL rZa e.1<|wN e.1.length<|z0) (by kernel_rfl)
 ·exact gw (ok_Sh_12 _ _ _ _ r hm) (wO (.res (res_Sp b))<|wO (.res (res_Sm a))<|wP (ok_Sp (Zb.mk p0 0 0) 8 b g)<|wP (ok_Sm b.2 b.1 a h)<|wL rZa a.1<|wO (.res (res_So c))<|wP (ok_So a.2 40 c i)<|v1 f<|wN a.1.length<|z0) (by kernel_rfl)
theorem ok_Sh (p0:LI) (r:LZ×Zb) (hm:m_Sh p0=some r):Runs ext tbl 29 (as_Sh p0) (res_Sh r):=
 runs_of (vf:=vf_Sh) (by kernel_rfl) rfl (st:=(enter vf_Sh (as_Sh p0)).getD default) (by kernel_rfl) (go_on [] 1000 J0 (ok_Sh_0 p0 r hm) (by kernel_rfl))
theorem ok_Sa_23 (a:LZ×Zb) (b c d:Int) (r:LZ×Int×Int×Int) (hm:m_Sa_23 a b c d=some r):EE c_Sa_23 K_Sa_23 (s_Sa_23 a b c d) (Post vf_Sa (res_Sa r)):=by
 exact ge (wR rZa a.1<|z0) (congrArg res_Sa (qj hm)) (by kernel_rfl)
theorem ok_Sa_0 (p0:LI) (r:LZ×Int×Int×Int) (hm:m_Sa_0 p0=some r):EE c_Sa_0 K_Sa_0 (s_Sa_0 p0) (Post vf_Sa (res_Sa r)):=by
 obtain ⟨a,j,hm⟩:=bind_some hm
 obtain ⟨b,k,hm⟩:=bind_some hm
 obtain ⟨c,l,hm⟩:=bind_some hm
 obtain ⟨d,m,hm⟩:=bind_some hm
 obtain ⟨e,n,hm⟩:=bind_some hm
 obtain ⟨g,hm⟩|⟨g,hm⟩:=split_ite hm
 ·obtain ⟨o,f,hm⟩:=bind_some hm
  obtain ⟨h,i,hm⟩:=bind_some hm
  exact gw (ok_Sa_23 _ _ _ _ r hm) (wO (.res (res_Sh a))<|wP (ok_Sh p0 a j)<|wL rZa a.1<|wO (.res (res_Sp b))<|wO (.res (res_Sp c))<|wO (.res (res_Sp d))<|wO (.res (res_Sp e))<|wP (ok_Sp a.2 30 b k)<|wP (ok_Sp b.2 30 c l)<|wP (ok_Sp c.2 9000 d m)<|wP (ok_Sp d.2 12 e n)<|u1 g<|wO (.rows (mi ([0,1000000,1000001]:LI)))<|wO (zn 3)<|wO (.res (res_Sp o))<|wO (.row ((rI .i64) h))<|wP (Eq.refl (mi ([0,1000000,1000001]:LI)))<|wP (len_map (rI .i64) (show 3=([0,1000000,1000001]:LI).length from rfl))<|wP (ok_Sp e.2 3 o f)<|wP (rd_in rfl i)<|wP (at_row (rI .i64) (rd_get0 i))<|wN a.1.length<|z0) (by kernel_rfl)
 ·obtain ⟨f,hm⟩|⟨f,hm⟩:=split_ite hm
  ·obtain ⟨h,i,hm⟩:=bind_some hm
   obtain ⟨q,p,hm⟩:=bind_some hm
   exact gw (ok_Sa_23 _ _ _ _ r hm) (wO (.res (res_Sh a))<|wP (ok_Sh p0 a j)<|wL rZa a.1<|wO (.res (res_Sp b))<|wO (.res (res_Sp c))<|wO (.res (res_Sp d))<|wO (.res (res_Sp e))<|wP (ok_Sp a.2 30 b k)<|wP (ok_Sp b.2 30 c l)<|wP (ok_Sp c.2 9000 d m)<|wP (ok_Sp d.2 12 e n)<|v1 g<|u1 f<|wO (.rows (mi ([(-359999999),359999999,360000000]:LI)))<|wO (zn 3)<|wO (.res (res_Sp h))<|wO (.row ((rI .i64) q))<|wP (Eq.refl (mi ([(-359999999),359999999,360000000]:LI)))<|wP (len_map (rI .i64) (show 3=([(-359999999),359999999,360000000]:LI).length from rfl))<|wP (ok_Sp e.2 3 h i)<|wP (rd_in rfl p)<|wP (at_row (rI .i64) (rd_get0 p))<|wN a.1.length<|z0) (by kernel_rfl)
  ·exact gw (ok_Sa_23 _ _ _ _ r hm) (wO (.res (res_Sh a))<|wP (ok_Sh p0 a j)<|wL rZa a.1<|wO (.res (res_Sp b))<|wO (.res (res_Sp c))<|wO (.res (res_Sp d))<|wO (.res (res_Sp e))<|wP (ok_Sp a.2 30 b k)<|wP (ok_Sp b.2 30 c l)<|wP (ok_Sp c.2 9000 d m)<|wP (ok_Sp d.2 12 e n)<|v1 g<|v1 f<|wN a.1.length<|z0) (by kernel_rfl)
theorem ok_Sa (p0:LI) (r:LZ×Int×Int×Int) (hm:m_Sa p0=some r):Runs ext tbl 24 (as_Sa p0) (res_Sa r):=
 runs_of (vf:=vf_Sa) (by kernel_rfl) rfl (st:=(enter vf_Sa (as_Sa p0)).getD default) (by kernel_rfl) (go_on [] 1000 J0 (ok_Sa_0 p0 r hm) (by kernel_rfl))
theorem ok_Ig_0 (p0:Int) (r:Bool) (hm:m_Ig_0 p0=some r):EE c_Ig_0 K_Ig_0 (s_Ig_0 p0) (Post vf_Ig (res_Ig r)):=by
 obtain ⟨a,hm⟩|⟨a,hm⟩:=split_ite hm
 ·exact ge (u3 a<|z0) (congrArg res_Ig (qj hm)) (by kernel_rfl)
 ·exact ge (v3 a<|z0) (congrArg res_Ig (qj hm)) (by kernel_rfl)
theorem ok_Ig (p0:Int) (r:Bool) (hm:m_Ig p0=some r):Runs ext tbl 35 (as_Ig p0) (res_Ig r):=
 runs_of (vf:=vf_Ig) (by kernel_rfl) rfl (st:=(enter vf_Ig (as_Ig p0)).getD default) (by kernel_rfl) (go_on [] 1000 J0 (ok_Ig_0 p0 r hm) (by kernel_rfl))
theorem ok_strings_Contains (p0 p1:ByteArray) (r:Bool) (hm:m_strings_Contains p0 p1=some r):Runs ext tbl 53 (as_strings_Contains p0 p1) (res_strings_Contains r):=by
 refine ⟨1,?_⟩
 have h:vrun ext tbl 1 53 (as_strings_Contains p0 p1)=(m_strings_Contains p0 p1).map res_strings_Contains:=by kernel_rfl
 rw [h,hm]
 rfl
def O_Ie_7 (p0:ByteArray) (Q:VX→St→Prop) (e:(Int)⊕((Unit))):Prop:=match e with | .inl e=>Q=Post vf_Ie (res_Ie e) | .inr e=>EE c_Ie_25 K_Ie_25 (s_Ie_25 p0) Q
theorem ok_Ie_25 (p0:ByteArray) (r:Int) (hm:m_Ie_25 p0=some r):EE c_Ie_25 K_Ie_25 (s_Ie_25 p0) (Post vf_Ie (res_Ie r)):=by
 obtain ⟨a,c,hm⟩:=bind_some hm
 obtain ⟨b,hm⟩|⟨b,hm⟩:=split_ite hm
 ·exact ge (wO (.res (res_strings_Contains a))<|wP (ok_strings_Contains p0 (ByteArray.mk #[45,45,62]) a c)<|u1 b<|z0) (congrArg res_Ie (qj hm)) (by kernel_rfl)
 ·obtain ⟨d,hm⟩|⟨d,hm⟩:=split_ite hm
  ·exact ge (wO (.res (res_strings_Contains a))<|wP (ok_strings_Contains p0 (ByteArray.mk #[45,45,62]) a c)<|v1 b<|u1 d<|z0) (congrArg res_Ie (qj hm)) (by kernel_rfl)
  ·exact ge (wO (.res (res_strings_Contains a))<|wP (ok_strings_Contains p0 (ByteArray.mk #[45,45,62]) a c)<|v1 b<|v1 d<|z0) (congrArg res_Ie (qj hm)) (by kernel_rfl)
theorem ok_Ie_7 (p0:ByteArray) (g:Int) (y) (hm:m_Ie_7 p0 g=some y) (Q)
  (hin:∀ s,y=.inl s→EE c_Ie_7 K_Ie_7 (s_Ie_7 p0 s) Q) (hout:∀ e,y=.inr e→O_Ie_7 p0 Q e):EE c_Ie_7 K_Ie_7 (s_Ie_7 p0 g) Q:=by
 obtain ⟨c,hm⟩|⟨c,hm⟩:=split_ite hm
 ·obtain ⟨d,a,hm⟩:=bind_some hm
  obtain ⟨b,hm⟩|⟨b,hm⟩:=split_ite hm
  ·have hQ:Q=Post vf_Ie (res_Ie 4):=hout (.inl 4) (qj hm).symm
   subst hQ
   exact ge (u1 c<|wO (.int d)<|wP (sat_nn a)<|wP (sat_at a)<|u4 b<|u1 b<|u1 eT<|z0) (rfl:res_Ie 4=res_Ie 4) (by kernel_rfl)
  ·obtain ⟨f,hm⟩|⟨f,hm⟩:=split_ite hm
   ·have hQ:Q=Post vf_Ie (res_Ie 4):=hout (.inl 4) (qj hm).symm
    subst hQ
    exact ge (u1 c<|wO (.int d)<|wP (sat_nn a)<|wP (sat_at a)<|v3 b<|wO (.int d)<|wP (sat_nn a)<|wP (sat_at a)<|v2 b<|u1 f<|z0) (rfl:res_Ie 4=res_Ie 4) (by kernel_rfl)
   ·exact gw (hin _ (qj hm).symm) (u1 c<|wO (.int d)<|wP (sat_nn a)<|wP (sat_at a)<|v3 b<|wO (.int d)<|wP (sat_nn a)<|wP (sat_at a)<|v2 b<|v1 f<|z0) (by kernel_rfl)
 ·refine gm c_Ie_25 K_Ie_25 (s_Ie_25 p0) (v1 c<|z0) ?_ (by kernel_rfl)
  exact hout (.inr ()) (qj hm).symm
theorem ok_Ie_0 (p0:ByteArray) (r:Int) (hm:m_Ie_0 p0=some r):EE c_Ie_0 K_Ie_0 (s_Ie_0 p0) (Post vf_Ie (res_Ie r)):=by
 refine gm c_Ie_7 K_Ie_7 (s_Ie_7 p0 0) (z0) ?_ (by kernel_rfl)
 obtain ⟨e,he,hm⟩:=bind_some hm
 refine loop_rule (u:=.c c_Ie_7) (K:=K_Ie_7) (Q:=(Post vf_Ie (res_Ie r))) (b:=lp_Ie_7 p0) (We:=O_Ie_7 p0 (Post vf_Ie (res_Ie r))) (stJ:=fun s=>s_Ie_7 p0 s) (s:=0) (fun s y hb hin hout=>ok_Ie_7 p0 s y hb (Post vf_Ie (res_Ie r)) hin hout) he ?_
 rcases e with e | e
 ·exact congrArg (fun r=>Post vf_Ie (res_Ie r)) (qj hm).symm
 ·show EE c_Ie_25 K_Ie_25 (s_Ie_25 p0) _
  exact ok_Ie_25 p0 r hm
theorem ok_Ie (p0:ByteArray) (r:Int) (hm:m_Ie p0=some r):Runs ext tbl 49 (as_Ie p0) (res_Ie r):=
 runs_of (vf:=vf_Ie) (by kernel_rfl) rfl (st:=(enter vf_Ie (as_Ie p0)).getD default) (by kernel_rfl) (go_on [] 1000 J0 (ok_Ie_0 p0 r hm) (by kernel_rfl))
def O_Id_15 (Q:VX→St→Prop) (e:(Bool)⊕((Unit))):Prop:=match e with | .inl e=>Q=Post vf_Id (res_Id e) | .inr e=>EE c_Id_33 K_Id_33 (s_Id_33) Q
theorem ok_Id_33 (r:Bool) (hm:m_Id_33=some r):EE c_Id_33 K_Id_33 (s_Id_33) (Post vf_Id (res_Id r)):=by
 exact ge (z0) (congrArg res_Id (qj hm)) (by kernel_rfl)
theorem ok_Id_15 (p0:Za) (k:Int) (y) (hm:m_Id_15 p0 k=some y) (Q)
  (hin:∀ s,y=.inl s→EE c_Id_15 K_Id_15 (s_Id_15 p0 s) Q) (hout:∀ e,y=.inr e→O_Id_15 Q e):EE c_Id_15 K_Id_15 (s_Id_15 p0 k) Q:=by
 obtain ⟨c,hm⟩|⟨c,hm⟩:=split_ite hm
 ·obtain ⟨d,b,hm⟩:=bind_some hm
  obtain ⟨a,hm⟩|⟨a,hm⟩:=split_ite hm
  ·have hQ:Q=Post vf_Id (res_Id false):=hout (.inl false) (qj hm).symm
   subst hQ
   exact ge (u1 c<|wO (.row (rS d))<|wP (rd_nn b)<|wP (at_row rS (rd_get b))<|u4 a<|u3 a<|u4 eT<|u1 eT<|z0) (rfl:res_Id false=res_Id false) (by kernel_rfl)
  ·obtain ⟨i,f,hm⟩:=bind_some hm
   obtain ⟨g,hm⟩|⟨g,hm⟩:=split_ite hm
   ·have hQ:Q=Post vf_Id (res_Id false):=hout (.inl false) (qj hm).symm
    subst hQ
    exact ge (u1 c<|wO (.row (rS d))<|wP (rd_nn b)<|wP (at_row rS (rd_get b))<|v4 a<|v1 a<|wO (.int i)<|wP (sat_nn f)<|wP (sat_at f)<|v2 a<|u4 g<|u1 eT<|z0) (rfl:res_Id false=res_Id false) (by kernel_rfl)
   ·obtain ⟨h,l,hm⟩:=bind_some hm
    obtain ⟨j,hm⟩|⟨j,hm⟩:=split_ite hm
    ·have hQ:Q=Post vf_Id (res_Id false):=hout (.inl false) (qj hm).symm
     subst hQ
     exact ge (u1 c<|wO (.row (rS d))<|wP (rd_nn b)<|wP (at_row rS (rd_get b))<|v4 a<|v1 a<|wO (.int i)<|wP (sat_nn f)<|wP (sat_at f)<|v2 a<|v2 g<|wO (.res (res_Ie h))<|wP (ok_Ie d h l)<|v2 g<|u1 j<|z0) (rfl:res_Id false=res_Id false) (by kernel_rfl)
    ·exact gw (hin _ (qj hm).symm) (u1 c<|wO (.row (rS d))<|wP (rd_nn b)<|wP (at_row rS (rd_get b))<|v4 a<|v1 a<|wO (.int i)<|wP (sat_nn f)<|wP (sat_at f)<|v2 a<|v2 g<|wO (.res (res_Ie h))<|wP (ok_Ie d h l)<|v2 g<|v1 j<|z0) (by kernel_rfl)
 ·refine gm c_Id_33 K_Id_33 (s_Id_33) (v1 c<|z0) ?_ (by kernel_rfl)
  exact hout (.inr ()) (qj hm).symm
theorem ok_Id_0 (p0:Za) (r:Bool) (hm:m_Id_0 p0=some r):EE c_Id_0 K_Id_0 (s_Id_0 p0) (Post vf_Id (res_Id r)):=by
 obtain ⟨a,hm⟩|⟨a,hm⟩:=split_ite hm
 ·exact ge (wL rS p0.lines<|u4 a<|u1 a<|u1 eT<|z0) (congrArg res_Id (qj hm)) (by kernel_rfl)
 ·obtain ⟨d,hm⟩|⟨d,hm⟩:=split_ite hm
  ·exact ge (wL rS p0.lines<|v3 a<|wL rS p0.lines<|v2 a<|u1 d<|z0) (congrArg res_Id (qj hm)) (by kernel_rfl)
  ·refine gm c_Id_15 K_Id_15 (s_Id_15 p0 0) (wL rS p0.lines<|v3 a<|wL rS p0.lines<|v2 a<|v1 d<|wL rS p0.lines<|z0) ?_ (by kernel_rfl)
   obtain ⟨e,he,hm⟩:=bind_some hm
   refine loop_rule (u:=.c c_Id_15) (K:=K_Id_15) (Q:=(Post vf_Id (res_Id r))) (b:=lp_Id_15 p0) (We:=O_Id_15 (Post vf_Id (res_Id r))) (stJ:=fun s=>s_Id_15 p0 s) (s:=0) (fun s y hb hin hout=>ok_Id_15 p0 s y hb (Post vf_Id (res_Id r)) hin hout) he ?_
   rcases e with e | e
   ·exact congrArg (fun r=>Post vf_Id (res_Id r)) (qj hm).symm
   ·show EE c_Id_33 K_Id_33 (s_Id_33) _
    exact ok_Id_33 r hm
theorem ok_Id (p0:Za) (r:Bool) (hm:m_Id p0=some r):Runs ext tbl 41 (as_Id p0) (res_Id r):=
 runs_of (vf:=vf_Id) (by kernel_rfl) rfl (st:=(enter vf_Id (as_Id p0)).getD default) (by kernel_rfl) (go_on [] 1000 J0 (ok_Id_0 p0 r hm) (by kernel_rfl))
def O_Ia_15 (Q:VX→St→Prop) (e:(Bool)⊕((Unit))):Prop:=match e with | .inl e=>Q=Post vf_Ia (res_Ia e) | .inr e=>EE c_Ia_33 K_Ia_33 (s_Ia_33) Q
theorem ok_Ia_33 (r:Bool) (hm:m_Ia_33=some r):EE c_Ia_33 K_Ia_33 (s_Ia_33) (Post vf_Ia (res_Ia r)):=by
 exact ge (z0) (congrArg res_Ia (qj hm)) (by kernel_rfl)
theorem ok_Ia_15 (p0:LZ) (r:Int) (y) (hm:m_Ia_15 p0 r=some y) (Q)
  (hin:∀ s,y=.inl s→EE c_Ia_15 K_Ia_15 (s_Ia_15 p0 s) Q) (hout:∀ e,y=.inr e→O_Ia_15 Q e):EE c_Ia_15 K_Ia_15 (s_Ia_15 p0 r) Q:=by
 obtain ⟨k,hm⟩|⟨k,hm⟩:=split_ite hm
 ·obtain ⟨a,c,hm⟩:=bind_some hm
  obtain ⟨d,m,hm⟩:=bind_some hm
  obtain ⟨b,hm⟩|⟨b,hm⟩:=split_ite hm
  ·obtain ⟨h,n,hm⟩:=bind_some hm
   obtain ⟨f,hm⟩|⟨f,hm⟩:=split_ite hm
   ·obtain ⟨j,hm⟩|⟨j,hm⟩:=split_ite hm
    ·have hQ:Q=Post vf_Ia (res_Ia false):=hout (.inl false) (qj hm).symm
     subst hQ
     exact ge (u1 k<|wO (.row (rZa a))<|wO (.res (res_Ig d))<|wP (rd_nn c)<|wP (at_row rZa (rd_get c))<|wP (ok_Ig a.from_ d m)<|v3 (not_f b)<|wO (.res (res_Ig h))<|wP (ok_Ig a.to_ h n)<|v2 (not_f b)<|v4 (not_f f)<|v2 (not_f f)<|u4 j<|u4 eT<|u2 eT<|z0) (rfl:res_Ia false=res_Ia false) (by kernel_rfl)
    ·obtain ⟨l,o,hm⟩:=bind_some hm
     obtain ⟨i,hm⟩|⟨i,hm⟩:=split_ite hm
     ·obtain ⟨g,hm⟩|⟨g,hm⟩:=split_ite hm
      ·obtain ⟨t,p,hm⟩:=bind_some hm
       obtain ⟨q,hm⟩|⟨q,hm⟩:=split_ite hm
       ·have hQ:Q=Post vf_Ia (res_Ia false):=hout (.inl false) (qj hm).symm
        subst hQ
        exact ge (u1 k<|wO (.row (rZa a))<|wO (.res (res_Ig d))<|wP (rd_nn c)<|wP (at_row rZa (rd_get c))<|wP (ok_Ig a.from_ d m)<|v3 (not_f b)<|wO (.res (res_Ig h))<|wP (ok_Ig a.to_ h n)<|v2 (not_f b)<|v4 (not_f f)<|v2 (not_f f)<|v2 j<|wO (.res (res_Id l))<|wP (ok_Id a l o)<|v2 j<|v3 (not_f i)<|u4 g<|u2 g<|wO (.row (rZa t))<|wP (rd_nn p)<|wP (at_row rZa (rd_get p))<|u3 g<|v1 (not_f i)<|u1 g<|v1 (not_f i)<|u1 q<|z0) (rfl:res_Ia false=res_Ia false) (by kernel_rfl)
       ·exact gw (hin _ (qj hm).symm) (u1 k<|wO (.row (rZa a))<|wO (.res (res_Ig d))<|wP (rd_nn c)<|wP (at_row rZa (rd_get c))<|wP (ok_Ig a.from_ d m)<|v3 (not_f b)<|wO (.res (res_Ig h))<|wP (ok_Ig a.to_ h n)<|v2 (not_f b)<|v4 (not_f f)<|v2 (not_f f)<|v2 j<|wO (.res (res_Id l))<|wP (ok_Id a l o)<|v2 j<|v3 (not_f i)<|u4 g<|u2 g<|wO (.row (rZa t))<|wP (rd_nn p)<|wP (at_row rZa (rd_get p))<|u3 g<|v1 (not_f i)<|u1 g<|v1 (not_f i)<|v1 q<|z0) (by kernel_rfl)
      ·exact gw (hin _ (qj hm).symm) (u1 k<|wO (.row (rZa a))<|wO (.res (res_Ig d))<|wP (rd_nn c)<|wP (at_row rZa (rd_get c))<|wP (ok_Ig a.from_ d m)<|v3 (not_f b)<|wO (.res (res_Ig h))<|wP (ok_Ig a.to_ h n)<|v2 (not_f b)<|v4 (not_f f)<|v2 (not_f f)<|v2 j<|wO (.res (res_Id l))<|wP (ok_Id a l o)<|v2 j<|v3 (not_f i)<|v4 g<|v4 g<|v1 g<|v1 (not_f i)<|v1 g<|v1 (not_f i)<|v1 eF<|z0) (by kernel_rfl)
     ·have hQ:Q=Post vf_Ia (res_Ia false):=hout (.inl false) (qj hm).symm
      subst hQ
      exact ge (u1 k<|wO (.row (rZa a))<|wO (.res (res_Ig d))<|wP (rd_nn c)<|wP (at_row rZa (rd_get c))<|wP (ok_Ig a.from_ d m)<|v3 (not_f b)<|wO (.res (res_Ig h))<|wP (ok_Ig a.to_ h n)<|v2 (not_f b)<|v4 (not_f f)<|v2 (not_f f)<|v2 j<|wO (.res (res_Id l))<|wP (ok_Id a l o)<|v2 j<|u4 (not_t i)<|u1 (not_t i)<|u1 eT<|z0) (rfl:res_Ia false=res_Ia false) (by kernel_rfl)
   ·have hQ:Q=Post vf_Ia (res_Ia false):=hout (.inl false) (qj hm).symm
    subst hQ
    exact ge (u1 k<|wO (.row (rZa a))<|wO (.res (res_Ig d))<|wP (rd_nn c)<|wP (at_row rZa (rd_get c))<|wP (ok_Ig a.from_ d m)<|v3 (not_f b)<|wO (.res (res_Ig h))<|wP (ok_Ig a.to_ h n)<|v2 (not_f b)<|u4 (not_t f)<|u2 (not_t f)<|u4 eT<|u4 eT<|u2 eT<|z0) (rfl:res_Ia false=res_Ia false) (by kernel_rfl)
  ·have hQ:Q=Post vf_Ia (res_Ia false):=hout (.inl false) (qj hm).symm
   subst hQ
   exact ge (u1 k<|wO (.row (rZa a))<|wO (.res (res_Ig d))<|wP (rd_nn c)<|wP (at_row rZa (rd_get c))<|wP (ok_Ig a.from_ d m)<|u4 (not_t b)<|u1 (not_t b)<|u4 eT<|u4 eT<|u4 eT<|u4 eT<|z0) (rfl:res_Ia false=res_Ia false) (by kernel_rfl)
 ·refine gm c_Ia_33 K_Ia_33 (s_Ia_33) (v1 k<|z0) ?_ (by kernel_rfl)
  exact hout (.inr ()) (qj hm).symm
theorem ok_Ia_0 (p0:LZ) (r:Bool) (hm:m_Ia_0 p0=some r):EE c_Ia_0 K_Ia_0 (s_Ia_0 p0) (Post vf_Ia (res_Ia r)):=by
 obtain ⟨a,hm⟩|⟨a,hm⟩:=split_ite hm
 ·exact ge (wL rZa p0<|u1 a<|z0) (congrArg res_Ia (qj hm)) (by kernel_rfl)
 ·refine gm c_Ia_15 K_Ia_15 (s_Ia_15 p0 0) (wL rZa p0<|v1 a<|wL rZa p0<|z0) ?_ (by kernel_rfl)
  obtain ⟨e,he,hm⟩:=bind_some hm
  refine loop_rule (u:=.c c_Ia_15) (K:=K_Ia_15) (Q:=(Post vf_Ia (res_Ia r))) (b:=lp_Ia_15 p0) (We:=O_Ia_15 (Post vf_Ia (res_Ia r))) (stJ:=fun s=>s_Ia_15 p0 s) (s:=0) (fun s y hb hin hout=>ok_Ia_15 p0 s y hb (Post vf_Ia (res_Ia r)) hin hout) he ?_
  rcases e with e | e
  ·exact congrArg (fun r=>Post vf_Ia (res_Ia r)) (qj hm).symm
  ·show EE c_Ia_33 K_Ia_33 (s_Ia_33) _
   exact ok_Ia_33 r hm
theorem ok_Ia (p0:LZ) (r:Bool) (hm:m_Ia p0=some r):Runs ext tbl 26 (as_Ia p0) (res_Ia r):=
 runs_of (vf:=vf_Ia) (by kernel_rfl) rfl (st:=(enter vf_Ia (as_Ia p0)).getD default) (by kernel_rfl) (go_on [] 1000 J0 (ok_Ia_0 p0 r hm) (by kernel_rfl))
theorem ok_If_7 (b:Int) (c:Bool) (r:Int) (hm:m_If_7 b c=some r):EE c_If_7 K_If_7 (s_If_7 b c) (Post vf_If (res_If r)):=by
 obtain ⟨a,hm⟩|⟨a,hm⟩:=split_ite hm
 ·exact ge (u1 a<|z0) (congrArg res_If (qj hm)) (by kernel_rfl)
 ·exact ge (v1 a<|z0) (congrArg res_If (qj hm)) (by kernel_rfl)
theorem ok_If_0 (p0 p1 r:Int) (hm:m_If_0 p0 p1=some r):EE c_If_0 K_If_0 (s_If_0 p0 p1) (Post vf_If (res_If r)):=by
 obtain ⟨c,b,hm⟩:=bind_some hm
 obtain ⟨a,hm⟩|⟨a,hm⟩:=split_ite hm
 ·exact gw (ok_If_7 _ _ r hm) (wP (ck_p b)<|wP (ck_p b)<|u4 a<|u2 a<|z0) (by kernel_rfl)
 ·exact gw (ok_If_7 _ _ r hm) (wP (ck_p b)<|wP (ck_p b)<|v4 a<|v2 a<|z0) (by kernel_rfl)
theorem ok_If (p0 p1 r:Int) (hm:m_If p0 p1=some r):Runs ext tbl 39 (as_If p0 p1) (res_If r):=
 runs_of (vf:=vf_If) (by kernel_rfl) rfl (st:=(enter vf_If (as_If p0 p1)).getD default) (by kernel_rfl) (go_on [] 1000 J0 (ok_If_0 p0 p1 r hm) (by kernel_rfl))
def O_Ib_17 (Q:VX→St→Prop) (e:(LZ)):Prop:=EE c_Ib_37 K_Ib_37 (s_Ib_37 e) Q
theorem ok_Ib_37 (a r:LZ) (hm:m_Ib_37 a=some r):EE c_Ib_37 K_Ib_37 (s_Ib_37 a) (Post vf_Ib (res_Ib r)):=by
 exact ge (wR rZa a<|z0) (congrArg res_Ib (qj hm)) (by kernel_rfl)
theorem ok_Ib_17 (p1 p2 p3:Int) (p0:LZ) (m:Int) (d:LZ) (y) (hm:m_Ib_17 p1 p2 p3 p0 m d=some y) (Q)
  (hin:∀ s,y=.inl s→EE c_Ib_17 K_Ib_17 (s_Ib_17 p1 p2 p3 p0 s.1 s.2) Q) (hout:∀ e,y=.inr e→O_Ib_17 Q e):EE c_Ib_17 K_Ib_17 (s_Ib_17 p1 p2 p3 p0 m d) Q:=by
 obtain ⟨g,hm⟩|⟨g,hm⟩:=split_ite hm
 ·obtain ⟨a,f,hm⟩:=bind_some hm
  obtain ⟨b,i,hm⟩:=bind_some hm
  obtain ⟨c,j,hm⟩:=bind_some hm
  obtain ⟨h,hm⟩|⟨h,hm⟩:=split_ite hm
  ·exact gw (hin _ (qj hm).symm) (u1 g<|wO (.row (rZa a))<|wO (.res (res_If b))<|wO (.res (res_If c))<|wP (rd_nn f)<|wP (at_row rZa (rd_get f))<|wP (ok_If (w64 (a.from_*p1)) p2 b i)<|wP (ok_If (w64 (a.to_*p1)) p2 c j)<|u4 h<|u4 eT<|wN d.length<|z0) (by kernel_rfl)
  ·obtain ⟨k,hm⟩|⟨k,hm⟩:=split_ite hm
   ·exact gw (hin _ (qj hm).symm) (u1 g<|wO (.row (rZa a))<|wO (.res (res_If b))<|wO (.res (res_If c))<|wP (rd_nn f)<|wP (at_row rZa (rd_get f))<|wP (ok_If (w64 (a.from_*p1)) p2 b i)<|wP (ok_If (w64 (a.to_*p1)) p2 c j)<|v4 h<|u3 k<|u1 eT<|wN d.length<|z0) (by kernel_rfl)
   ·obtain ⟨l,hm⟩|⟨l,hm⟩:=split_ite hm
    ·exact gw (hin _ (qj hm).symm) (u1 g<|wO (.row (rZa a))<|wO (.res (res_If b))<|wO (.res (res_If c))<|wP (rd_nn f)<|wP (at_row rZa (rd_get f))<|wP (ok_If (w64 (a.from_*p1)) p2 b i)<|wP (ok_If (w64 (a.to_*p1)) p2 c j)<|v4 h<|v3 k<|u1 l<|wN d.length<|z0) (by kernel_rfl)
    ·obtain ⟨p,n,hm⟩:=bind_some hm
     obtain ⟨q,o,hm⟩:=bind_some hm
     exact gw (hin _ (qj hm).symm) (u1 g<|wO (.row (rZa a))<|wO (.res (res_If b))<|wO (.res (res_If c))<|wP (rd_nn f)<|wP (at_row rZa (rd_get f))<|wP (ok_If (w64 (a.from_*p1)) p2 b i)<|wP (ok_If (w64 (a.to_*p1)) p2 c j)<|v4 h<|v3 k<|v1 l<|wO (.rows (List.map rS ([]:List ByteArray)))<|wO (zn 0)<|wO (.rows (List.map rS (([]:List ByteArray)++a.lines)))<|wO (zn ((([]:List ByteArray)++a.lines).length))<|wO (.rows (List.map rS (([]:List ByteArray)++a.lines)))<|wO (.rows (List.map rZa ([(Za.mk (mxI (w64 (b+p3)) 0) (w64 (c+p3)) (([]:List ByteArray)++a.lines))]:LZ)))<|wO (zn 1)<|wO (.rows (List.map rZa (d++([(Za.mk (mxI (w64 (b+p3)) 0) (w64 (c+p3)) (([]:List ByteArray)++a.lines))]:LZ))))<|wO (zn ((d++([(Za.mk (mxI (w64 (b+p3)) 0) (w64 (c+p3)) (([]:List ByteArray)++a.lines))]:LZ)).length))<|wO (zn ((d++([(Za.mk (mxI (w64 (b+p3)) 0) (w64 (c+p3)) (([]:List ByteArray)++a.lines))]:LZ)).length))<|wP (Eq.refl (List.map rS ([]:List ByteArray)))<|wP (len_map rS (show 0=([]:List ByteArray).length from rfl))<|wP (app_ck_ro rS ([]:List ByteArray) a.lines rfl n)<|wP (app_tell_ro rS ([]:List ByteArray) a.lines rfl)<|wP (len_map rS (show (([]:List ByteArray)++a.lines).length=(([]:List ByteArray)++a.lines).length from rfl))<|wP (all_le0 rS (([]:List ByteArray)++a.lines) rfl)<|wP (all_t rS (([]:List ByteArray)++a.lines) rfl)<|wP (Eq.refl (List.map rZa ([(Za.mk (mxI (w64 (b+p3)) 0) (w64 (c+p3)) (([]:List ByteArray)++a.lines))]:LZ)))<|wP (len_map rZa (show 1=([(Za.mk (mxI (w64 (b+p3)) 0) (w64 (c+p3)) (([]:List ByteArray)++a.lines))]:LZ).length from rfl))<|wP (all_eq rZa ([(Za.mk (mxI (w64 (b+p3)) 0) (w64 (c+p3)) (([]:List ByteArray)++a.lines))]:LZ) rfl)<|wP (all_le rZa ([(Za.mk (mxI (w64 (b+p3)) 0) (w64 (c+p3)) (([]:List ByteArray)++a.lines))]:LZ) rfl)<|wP (app_ck_ro rZa d ([(Za.mk (mxI (w64 (b+p3)) 0) (w64 (c+p3)) (([]:List ByteArray)++a.lines))]:LZ) rfl o)<|wP (app_tell_ro rZa d ([(Za.mk (mxI (w64 (b+p3)) 0) (w64 (c+p3)) (([]:List ByteArray)++a.lines))]:LZ) rfl)<|wP (len_map rZa (show (d++([(Za.mk (mxI (w64 (b+p3)) 0) (w64 (c+p3)) (([]:List ByteArray)++a.lines))]:LZ)).length=(d++([(Za.mk (mxI (w64 (b+p3)) 0) (w64 (c+p3)) (([]:List ByteArray)++a.lines))]:LZ)).length from rfl))<|wP (lens ((d++([(Za.mk (mxI (w64 (b+p3)) 0) (w64 (c+p3)) (([]:List ByteArray)++a.lines))]:LZ)).length) ((d++([(Za.mk (mxI (w64 (b+p3)) 0) (w64 (c+p3)) (([]:List ByteArray)++a.lines))]:LZ)).length) rfl)<|z0) (by kernel_rfl)
 ·refine gm c_Ib_37 K_Ib_37 (s_Ib_37 d) (v1 g<|wN d.length<|z0) ?_ (by kernel_rfl)
  exact hout d (qj hm).symm
theorem ok_Ib_0 (p0:LZ) (p1 p2 p3:Int) (r:LZ) (hm:m_Ib_0 p0 p1 p2 p3=some r):EE c_Ib_0 K_Ib_0 (s_Ib_0 p0 p1 p2 p3) (Post vf_Ib (res_Ib r)):=by
 obtain ⟨a,f,hm⟩:=bind_some hm
 obtain ⟨d,hm⟩|⟨d,hm⟩:=split_ite hm
 ·obtain ⟨g,hm⟩|⟨g,hm⟩:=split_ite hm
  ·exact ge (wO (.res (res_Ia a))<|wP (ok_Ia p0 a f)<|v3 (not_f d)<|u3 g<|u4 eT<|u4 eT<|u4 eT<|u1 eT<|wO (.rows (List.map rZa ([]:LZ)))<|wP (all_le0 rZa ([]:LZ) rfl)<|wP (all_t rZa ([]:LZ) rfl)<|z0) (congrArg res_Ib (qj hm)) (by kernel_rfl)
  ·obtain ⟨h,hm⟩|⟨h,hm⟩:=split_ite hm
   ·exact ge (wO (.res (res_Ia a))<|wP (ok_Ia p0 a f)<|v3 (not_f d)<|v3 g<|u3 h<|u4 eT<|u4 eT<|u2 eT<|wO (.rows (List.map rZa ([]:LZ)))<|wP (all_le0 rZa ([]:LZ) rfl)<|wP (all_t rZa ([]:LZ) rfl)<|z0) (congrArg res_Ib (qj hm)) (by kernel_rfl)
   ·obtain ⟨i,hm⟩|⟨i,hm⟩:=split_ite hm
    ·exact ge (wO (.res (res_Ia a))<|wP (ok_Ia p0 a f)<|v3 (not_f d)<|v3 g<|v3 h<|u3 i<|u4 eT<|u3 eT<|wO (.rows (List.map rZa ([]:LZ)))<|wP (all_le0 rZa ([]:LZ) rfl)<|wP (all_t rZa ([]:LZ) rfl)<|z0) (congrArg res_Ib (qj hm)) (by kernel_rfl)
    ·obtain ⟨j,hm⟩|⟨j,hm⟩:=split_ite hm
     ·exact ge (wO (.res (res_Ia a))<|wP (ok_Ia p0 a f)<|v3 (not_f d)<|v3 g<|v3 h<|v3 i<|u3 j<|u4 eT<|wO (.rows (List.map rZa ([]:LZ)))<|wP (all_le0 rZa ([]:LZ) rfl)<|wP (all_t rZa ([]:LZ) rfl)<|z0) (congrArg res_Ib (qj hm)) (by kernel_rfl)
     ·obtain ⟨k,hm⟩|⟨k,hm⟩:=split_ite hm
      ·exact ge (wO (.res (res_Ia a))<|wP (ok_Ia p0 a f)<|v3 (not_f d)<|v3 g<|v3 h<|v3 i<|v3 j<|u3 k<|u1 eT<|wO (.rows (List.map rZa ([]:LZ)))<|wP (all_le0 rZa ([]:LZ) rfl)<|wP (all_t rZa ([]:LZ) rfl)<|z0) (congrArg res_Ib (qj hm)) (by kernel_rfl)
      ·obtain ⟨l,hm⟩|⟨l,hm⟩:=split_ite hm
       ·exact ge (wO (.res (res_Ia a))<|wP (ok_Ia p0 a f)<|v3 (not_f d)<|v3 g<|v3 h<|v3 i<|v3 j<|v3 k<|u1 l<|wO (.rows (List.map rZa ([]:LZ)))<|wP (all_le0 rZa ([]:LZ) rfl)<|wP (all_t rZa ([]:LZ) rfl)<|z0) (congrArg res_Ib (qj hm)) (by kernel_rfl)
       ·refine gm c_Ib_17 K_Ib_17 (s_Ib_17 p1 p2 p3 p0 0 ([]:LZ)) (wO (.res (res_Ia a))<|wP (ok_Ia p0 a f)<|v3 (not_f d)<|v3 g<|v3 h<|v3 i<|v3 j<|v3 k<|v1 l<|wL rZa p0<|wO (zn (([]:LZ).length))<|wP (lens 0 (([]:LZ).length) rfl)<|z0) ?_ (by kernel_rfl)
        obtain ⟨e,he,hm⟩:=bind_some hm
        refine loop_rule (u:=.c c_Ib_17) (K:=K_Ib_17) (Q:=(Post vf_Ib (res_Ib r))) (b:=lp_Ib_17 p1 p2 p3 p0) (We:=O_Ib_17 (Post vf_Ib (res_Ib r))) (stJ:=fun s=>s_Ib_17 p1 p2 p3 p0 s.1 s.2) (s:=(0,([]:LZ))) (fun s y hb hin hout=>ok_Ib_17 p1 p2 p3 p0 s.1 s.2 y hb (Post vf_Ib (res_Ib r)) hin hout) he ?_
        show EE c_Ib_37 K_Ib_37 (s_Ib_37 e) _
        exact ok_Ib_37 e r hm
 ·exact ge (wO (.res (res_Ia a))<|wP (ok_Ia p0 a f)<|u3 (not_t d)<|u4 eT<|u4 eT<|u4 eT<|u4 eT<|wO (.rows (List.map rZa ([]:LZ)))<|wP (all_le0 rZa ([]:LZ) rfl)<|wP (all_t rZa ([]:LZ) rfl)<|z0) (congrArg res_Ib (qj hm)) (by kernel_rfl)
theorem ok_Ib (p0:LZ) (p1 p2 p3:Int) (r:LZ) (hm:m_Ib p0 p1 p2 p3=some r):Runs ext tbl 22 (as_Ib p0 p1 p2 p3) (res_Ib r):=
 runs_of (vf:=vf_Ib) (by kernel_rfl) rfl (st:=(enter vf_Ib (as_Ib p0 p1 p2 p3)).getD default) (by kernel_rfl) (go_on [] 1000 J0 (ok_Ib_0 p0 p1 p2 p3 r hm) (by kernel_rfl))
theorem ok_Sl_0 (p0:Int) (r:Bool) (hm:m_Sl_0 p0=some r):EE c_Sl_0 K_Sl_0 (s_Sl_0 p0) (Post vf_Sl (res_Sl r)):=by
 obtain ⟨a,hm⟩|⟨a,hm⟩:=split_ite hm
 ·exact ge (u3 a<|z0) (congrArg res_Sl (qj hm)) (by kernel_rfl)
 ·exact ge (v3 a<|z0) (congrArg res_Sl (qj hm)) (by kernel_rfl)
theorem ok_Sl (p0:Int) (r:Bool) (hm:m_Sl p0=some r):Runs ext tbl 33 (as_Sl p0) (res_Sl r):=
 runs_of (vf:=vf_Sl) (by kernel_rfl) rfl (st:=(enter vf_Sl (as_Sl p0)).getD default) (by kernel_rfl) (go_on [] 1000 J0 (ok_Sl_0 p0 r hm) (by kernel_rfl))
def O_Sg_7 (Q:VX→St→Prop) (e:(Bool)⊕((Unit))):Prop:=match e with | .inl e=>Q=Post vf_Sg (res_Sg e) | .inr e=>EE c_Sg_23 K_Sg_23 (s_Sg_23) Q
theorem ok_Sg_23 (r:Bool) (hm:m_Sg_23=some r):EE c_Sg_23 K_Sg_23 (s_Sg_23) (Post vf_Sg (res_Sg r)):=by
 exact ge (z0) (congrArg res_Sg (qj hm)) (by kernel_rfl)
theorem ok_Sg_7 (p0:ByteArray) (g:Int) (y) (hm:m_Sg_7 p0 g=some y) (Q)
  (hin:∀ s,y=.inl s→EE c_Sg_7 K_Sg_7 (s_Sg_7 p0 s) Q) (hout:∀ e,y=.inr e→O_Sg_7 Q e):EE c_Sg_7 K_Sg_7 (s_Sg_7 p0 g) Q:=by
 obtain ⟨c,hm⟩|⟨c,hm⟩:=split_ite hm
 ·obtain ⟨d,a,hm⟩:=bind_some hm
  obtain ⟨b,hm⟩|⟨b,hm⟩:=split_ite hm
  ·have hQ:Q=Post vf_Sg (res_Sg false):=hout (.inl false) (qj hm).symm
   subst hQ
   exact ge (u1 c<|wO (.int d)<|wP (sat_nn a)<|wP (sat_at a)<|u4 b<|u1 b<|u1 eT<|z0) (rfl:res_Sg false=res_Sg false) (by kernel_rfl)
  ·obtain ⟨f,hm⟩|⟨f,hm⟩:=split_ite hm
   ·have hQ:Q=Post vf_Sg (res_Sg false):=hout (.inl false) (qj hm).symm
    subst hQ
    exact ge (u1 c<|wO (.int d)<|wP (sat_nn a)<|wP (sat_at a)<|v3 b<|wO (.int d)<|wP (sat_nn a)<|wP (sat_at a)<|v2 b<|u1 f<|z0) (rfl:res_Sg false=res_Sg false) (by kernel_rfl)
   ·exact gw (hin _ (qj hm).symm) (u1 c<|wO (.int d)<|wP (sat_nn a)<|wP (sat_at a)<|v3 b<|wO (.int d)<|wP (sat_nn a)<|wP (sat_at a)<|v2 b<|v1 f<|z0) (by kernel_rfl)
 ·refine gm c_Sg_23 K_Sg_23 (s_Sg_23) (v1 c<|z0) ?_ (by kernel_rfl)
  exact hout (.inr ()) (qj hm).symm
theorem ok_Sg_0 (p0:ByteArray) (r:Bool) (hm:m_Sg_0 p0=some r):EE c_Sg_0 K_Sg_0 (s_Sg_0 p0) (Post vf_Sg (res_Sg r)):=by
 refine gm c_Sg_7 K_Sg_7 (s_Sg_7 p0 0) (z0) ?_ (by kernel_rfl)
 obtain ⟨e,he,hm⟩:=bind_some hm
 refine loop_rule (u:=.c c_Sg_7) (K:=K_Sg_7) (Q:=(Post vf_Sg (res_Sg r))) (b:=lp_Sg_7 p0) (We:=O_Sg_7 (Post vf_Sg (res_Sg r))) (stJ:=fun s=>s_Sg_7 p0 s) (s:=0) (fun s y hb hin hout=>ok_Sg_7 p0 s y hb (Post vf_Sg (res_Sg r)) hin hout) he ?_
 rcases e with e | e
 ·exact congrArg (fun r=>Post vf_Sg (res_Sg r)) (qj hm).symm
 ·show EE c_Sg_23 K_Sg_23 (s_Sg_23) _
  exact ok_Sg_23 r hm
theorem ok_Sg (p0:ByteArray) (r:Bool) (hm:m_Sg p0=some r):Runs ext tbl 50 (as_Sg p0) (res_Sg r):=
 runs_of (vf:=vf_Sg) (by kernel_rfl) rfl (st:=(enter vf_Sg (as_Sg p0)).getD default) (by kernel_rfl) (go_on [] 1000 J0 (ok_Sg_0 p0 r hm) (by kernel_rfl))
def O_Sk_7 (p0:(List ByteArray)) (Q:VX→St→Prop) (e:(Bool)⊕((Unit))):Prop:=match e with | .inl e=>Q=Post vf_Sk (res_Sk e) | .inr e=>EE c_Sk_25 K_Sk_25 (s_Sk_25 p0) Q
theorem ok_Sk_25 (p0:(List ByteArray)) (r:Bool) (hm:m_Sk_25 p0=some r):EE c_Sk_25 K_Sk_25 (s_Sk_25 p0) (Post vf_Sk (res_Sk r)):=by
 obtain ⟨a,hm⟩|⟨a,hm⟩:=split_ite hm
 ·exact ge (wL rS p0<|u2 a<|wL rS p0<|u2 a<|z0) (congrArg res_Sk (qj hm)) (by kernel_rfl)
 ·exact ge (wL rS p0<|v4 a<|z0) (congrArg res_Sk (qj hm)) (by kernel_rfl)
theorem ok_Sk_7 (p0:(List ByteArray)) (o:Int) (y) (hm:m_Sk_7 p0 o=some y) (Q)
  (hin:∀ s,y=.inl s→EE c_Sk_7 K_Sk_7 (s_Sk_7 p0 s) Q) (hout:∀ e,y=.inr e→O_Sk_7 p0 Q e):EE c_Sk_7 K_Sk_7 (s_Sk_7 p0 o) Q:=by
 obtain ⟨f,hm⟩|⟨f,hm⟩:=split_ite hm
 ·obtain ⟨a,b,hm⟩:=bind_some hm
  obtain ⟨h,hm⟩|⟨h,hm⟩:=split_ite hm
  ·have hQ:Q=Post vf_Sk (res_Sk false):=hout (.inl false) (qj hm).symm
   subst hQ
   exact ge (u1 f<|wO (.row (rS a))<|wP (rd_nn b)<|wP (at_row rS (rd_get b))<|u4 h<|u4 eT<|u4 eT<|u4 eT<|u3 eT<|z0) (rfl:res_Sk false=res_Sk false) (by kernel_rfl)
  ·obtain ⟨d,hm⟩|⟨d,hm⟩:=split_ite hm
   ·have hQ:Q=Post vf_Sk (res_Sk false):=hout (.inl false) (qj hm).symm
    subst hQ
    exact ge (u1 f<|wO (.row (rS a))<|wP (rd_nn b)<|wP (at_row rS (rd_get b))<|v4 h<|u4 d<|u4 eT<|u4 eT<|u3 eT<|z0) (rfl:res_Sk false=res_Sk false) (by kernel_rfl)
   ·obtain ⟨g,k,hm⟩:=bind_some hm
    obtain ⟨c,hm⟩|⟨c,hm⟩:=split_ite hm
    ·obtain ⟨m,i,hm⟩:=bind_some hm
     obtain ⟨j,hm⟩|⟨j,hm⟩:=split_ite hm
     ·have hQ:Q=Post vf_Sk (res_Sk false):=hout (.inl false) (qj hm).symm
      subst hQ
      exact ge (u1 f<|wO (.row (rS a))<|wP (rd_nn b)<|wP (at_row rS (rd_get b))<|v4 h<|v2 d<|wO (.res (res_Sg g))<|wP (ok_Sg a g k)<|v2 d<|v4 (not_f c)<|v1 (not_f c)<|wO (.int m)<|wP (sat_nn i)<|wP (sat_at i)<|v2 (not_f c)<|u3 j<|u1 eT<|z0) (rfl:res_Sk false=res_Sk false) (by kernel_rfl)
     ·obtain ⟨l,p,hm⟩:=bind_some hm
      obtain ⟨n,hm⟩|⟨n,hm⟩:=split_ite hm
      ·have hQ:Q=Post vf_Sk (res_Sk false):=hout (.inl false) (qj hm).symm
       subst hQ
       exact ge (u1 f<|wO (.row (rS a))<|wP (rd_nn b)<|wP (at_row rS (rd_get b))<|v4 h<|v2 d<|wO (.res (res_Sg g))<|wP (ok_Sg a g k)<|v2 d<|v4 (not_f c)<|v1 (not_f c)<|wO (.int m)<|wP (sat_nn i)<|wP (sat_at i)<|v2 (not_f c)<|v2 j<|wO (.res (res_Sj l))<|wP (ok_Sj a l p)<|v1 j<|u1 n<|z0) (rfl:res_Sk false=res_Sk false) (by kernel_rfl)
      ·exact gw (hin _ (qj hm).symm) (u1 f<|wO (.row (rS a))<|wP (rd_nn b)<|wP (at_row rS (rd_get b))<|v4 h<|v2 d<|wO (.res (res_Sg g))<|wP (ok_Sg a g k)<|v2 d<|v4 (not_f c)<|v1 (not_f c)<|wO (.int m)<|wP (sat_nn i)<|wP (sat_at i)<|v2 (not_f c)<|v2 j<|wO (.res (res_Sj l))<|wP (ok_Sj a l p)<|v1 j<|v1 n<|z0) (by kernel_rfl)
    ·have hQ:Q=Post vf_Sk (res_Sk false):=hout (.inl false) (qj hm).symm
     subst hQ
     exact ge (u1 f<|wO (.row (rS a))<|wP (rd_nn b)<|wP (at_row rS (rd_get b))<|v4 h<|v2 d<|wO (.res (res_Sg g))<|wP (ok_Sg a g k)<|v2 d<|u4 (not_t c)<|u3 (not_t c)<|u4 eT<|z0) (rfl:res_Sk false=res_Sk false) (by kernel_rfl)
 ·refine gm c_Sk_25 K_Sk_25 (s_Sk_25 p0) (v1 f<|z0) ?_ (by kernel_rfl)
  exact hout (.inr ()) (qj hm).symm
theorem ok_Sk_0 (p0:(List ByteArray)) (r:Bool) (hm:m_Sk_0 p0=some r):EE c_Sk_0 K_Sk_0 (s_Sk_0 p0) (Post vf_Sk (res_Sk r)):=by
 refine gm c_Sk_7 K_Sk_7 (s_Sk_7 p0 0) (wL rS p0<|z0) ?_ (by kernel_rfl)
 obtain ⟨e,he,hm⟩:=bind_some hm
 refine loop_rule (u:=.c c_Sk_7) (K:=K_Sk_7) (Q:=(Post vf_Sk (res_Sk r))) (b:=lp_Sk_7 p0) (We:=O_Sk_7 p0 (Post vf_Sk (res_Sk r))) (stJ:=fun s=>s_Sk_7 p0 s) (s:=0) (fun s y hb hin hout=>ok_Sk_7 p0 s y hb (Post vf_Sk (res_Sk r)) hin hout) he ?_
 rcases e with e | e
 ·exact congrArg (fun r=>Post vf_Sk (res_Sk r)) (qj hm).symm
 ·show EE c_Sk_25 K_Sk_25 (s_Sk_25 p0) _
  exact ok_Sk_25 p0 r hm
theorem ok_Sk (p0:(List ByteArray)) (r:Bool) (hm:m_Sk p0=some r):Runs ext tbl 42 (as_Sk p0) (res_Sk r):=
 runs_of (vf:=vf_Sk) (by kernel_rfl) rfl (st:=(enter vf_Sk (as_Sk p0)).getD default) (by kernel_rfl) (go_on [] 1000 J0 (ok_Sk_0 p0 r hm) (by kernel_rfl))
def O_Sc_15 (Q:VX→St→Prop) (e:(Bool)⊕((Unit))):Prop:=match e with | .inl e=>Q=Post vf_Sc (res_Sc e) | .inr e=>EE c_Sc_33 K_Sc_33 (s_Sc_33) Q
theorem ok_Sc_33 (r:Bool) (hm:m_Sc_33=some r):EE c_Sc_33 K_Sc_33 (s_Sc_33) (Post vf_Sc (res_Sc r)):=by
 exact ge (z0) (congrArg res_Sc (qj hm)) (by kernel_rfl)
theorem ok_Sc_15 (p0:LZ) (r:Int) (y) (hm:m_Sc_15 p0 r=some y) (Q)
  (hin:∀ s,y=.inl s→EE c_Sc_15 K_Sc_15 (s_Sc_15 p0 s) Q) (hout:∀ e,y=.inr e→O_Sc_15 Q e):EE c_Sc_15 K_Sc_15 (s_Sc_15 p0 r) Q:=by
 obtain ⟨k,hm⟩|⟨k,hm⟩:=split_ite hm
 ·obtain ⟨a,c,hm⟩:=bind_some hm
  obtain ⟨d,m,hm⟩:=bind_some hm
  obtain ⟨b,hm⟩|⟨b,hm⟩:=split_ite hm
  ·obtain ⟨h,n,hm⟩:=bind_some hm
   obtain ⟨f,hm⟩|⟨f,hm⟩:=split_ite hm
   ·obtain ⟨j,hm⟩|⟨j,hm⟩:=split_ite hm
    ·have hQ:Q=Post vf_Sc (res_Sc false):=hout (.inl false) (qj hm).symm
     subst hQ
     exact ge (u1 k<|wO (.row (rZa a))<|wO (.res (res_Sl d))<|wP (rd_nn c)<|wP (at_row rZa (rd_get c))<|wP (ok_Sl a.from_ d m)<|v3 (not_f b)<|wO (.res (res_Sl h))<|wP (ok_Sl a.to_ h n)<|v2 (not_f b)<|v4 (not_f f)<|v2 (not_f f)<|u4 j<|u1 j<|u4 eT<|u2 eT<|z0) (rfl:res_Sc false=res_Sc false) (by kernel_rfl)
    ·obtain ⟨l,o,hm⟩:=bind_some hm
     obtain ⟨i,hm⟩|⟨i,hm⟩:=split_ite hm
     ·obtain ⟨g,hm⟩|⟨g,hm⟩:=split_ite hm
      ·obtain ⟨t,p,hm⟩:=bind_some hm
       obtain ⟨q,hm⟩|⟨q,hm⟩:=split_ite hm
       ·have hQ:Q=Post vf_Sc (res_Sc false):=hout (.inl false) (qj hm).symm
        subst hQ
        exact ge (u1 k<|wO (.row (rZa a))<|wO (.res (res_Sl d))<|wP (rd_nn c)<|wP (at_row rZa (rd_get c))<|wP (ok_Sl a.from_ d m)<|v3 (not_f b)<|wO (.res (res_Sl h))<|wP (ok_Sl a.to_ h n)<|v2 (not_f b)<|v4 (not_f f)<|v2 (not_f f)<|v3 j<|wO (.res (res_Sk l))<|wP (ok_Sk a.lines l o)<|v2 j<|v3 (not_f i)<|u4 g<|u2 g<|wO (.row (rZa t))<|wP (rd_nn p)<|wP (at_row rZa (rd_get p))<|u3 g<|v1 (not_f i)<|u1 g<|v1 (not_f i)<|u1 q<|z0) (rfl:res_Sc false=res_Sc false) (by kernel_rfl)
       ·exact gw (hin _ (qj hm).symm) (u1 k<|wO (.row (rZa a))<|wO (.res (res_Sl d))<|wP (rd_nn c)<|wP (at_row rZa (rd_get c))<|wP (ok_Sl a.from_ d m)<|v3 (not_f b)<|wO (.res (res_Sl h))<|wP (ok_Sl a.to_ h n)<|v2 (not_f b)<|v4 (not_f f)<|v2 (not_f f)<|v3 j<|wO (.res (res_Sk l))<|wP (ok_Sk a.lines l o)<|v2 j<|v3 (not_f i)<|u4 g<|u2 g<|wO (.row (rZa t))<|wP (rd_nn p)<|wP (at_row rZa (rd_get p))<|u3 g<|v1 (not_f i)<|u1 g<|v1 (not_f i)<|v1 q<|z0) (by kernel_rfl)
      ·exact gw (hin _ (qj hm).symm) (u1 k<|wO (.row (rZa a))<|wO (.res (res_Sl d))<|wP (rd_nn c)<|wP (at_row rZa (rd_get c))<|wP (ok_Sl a.from_ d m)<|v3 (not_f b)<|wO (.res (res_Sl h))<|wP (ok_Sl a.to_ h n)<|v2 (not_f b)<|v4 (not_f f)<|v2 (not_f f)<|v3 j<|wO (.res (res_Sk l))<|wP (ok_Sk a.lines l o)<|v2 j<|v3 (not_f i)<|v4 g<|v4 g<|v1 g<|v1 (not_f i)<|v1 g<|v1 (not_f i)<|v1 eF<|z0) (by kernel_rfl)
     ·have hQ:Q=Post vf_Sc (res_Sc false):=hout (.inl false) (qj hm).symm
      subst hQ
      exact ge (u1 k<|wO (.row (rZa a))<|wO (.res (res_Sl d))<|wP (rd_nn c)<|wP (at_row rZa (rd_get c))<|wP (ok_Sl a.from_ d m)<|v3 (not_f b)<|wO (.res (res_Sl h))<|wP (ok_Sl a.to_ h n)<|v2 (not_f b)<|v4 (not_f f)<|v2 (not_f f)<|v3 j<|wO (.res (res_Sk l))<|wP (ok_Sk a.lines l o)<|v2 j<|u4 (not_t i)<|u1 (not_t i)<|u1 eT<|z0) (rfl:res_Sc false=res_Sc false) (by kernel_rfl)
   ·have hQ:Q=Post vf_Sc (res_Sc false):=hout (.inl false) (qj hm).symm
    subst hQ
    exact ge (u1 k<|wO (.row (rZa a))<|wO (.res (res_Sl d))<|wP (rd_nn c)<|wP (at_row rZa (rd_get c))<|wP (ok_Sl a.from_ d m)<|v3 (not_f b)<|wO (.res (res_Sl h))<|wP (ok_Sl a.to_ h n)<|v2 (not_f b)<|u4 (not_t f)<|u2 (not_t f)<|u4 eT<|u4 eT<|u3 eT<|z0) (rfl:res_Sc false=res_Sc false) (by kernel_rfl)
  ·have hQ:Q=Post vf_Sc (res_Sc false):=hout (.inl false) (qj hm).symm
   subst hQ
   exact ge (u1 k<|wO (.row (rZa a))<|wO (.res (res_Sl d))<|wP (rd_nn c)<|wP (at_row rZa (rd_get c))<|wP (ok_Sl a.from_ d m)<|u4 (not_t b)<|u1 (not_t b)<|u4 eT<|u4 eT<|u4 eT<|u4 eT<|u1 eT<|z0) (rfl:res_Sc false=res_Sc false) (by kernel_rfl)
 ·refine gm c_Sc_33 K_Sc_33 (s_Sc_33) (v1 k<|z0) ?_ (by kernel_rfl)
  exact hout (.inr ()) (qj hm).symm
theorem ok_Sc_0 (p0:LZ) (r:Bool) (hm:m_Sc_0 p0=some r):EE c_Sc_0 K_Sc_0 (s_Sc_0 p0) (Post vf_Sc (res_Sc r)):=by
 obtain ⟨a,hm⟩|⟨a,hm⟩:=split_ite hm
 ·exact ge (wL rZa p0<|u1 a<|z0) (congrArg res_Sc (qj hm)) (by kernel_rfl)
 ·refine gm c_Sc_15 K_Sc_15 (s_Sc_15 p0 0) (wL rZa p0<|v1 a<|wL rZa p0<|z0) ?_ (by kernel_rfl)
  obtain ⟨e,he,hm⟩:=bind_some hm
  refine loop_rule (u:=.c c_Sc_15) (K:=K_Sc_15) (Q:=(Post vf_Sc (res_Sc r))) (b:=lp_Sc_15 p0) (We:=O_Sc_15 (Post vf_Sc (res_Sc r))) (stJ:=fun s=>s_Sc_15 p0 s) (s:=0) (fun s y hb hin hout=>ok_Sc_15 p0 s y hb (Post vf_Sc (res_Sc r)) hin hout) he ?_
  rcases e with e | e
  ·exact congrArg (fun r=>Post vf_Sc (res_Sc r)) (qj hm).symm
  ·show EE c_Sc_33 K_Sc_33 (s_Sc_33) _
   exact ok_Sc_33 r hm
theorem ok_Sc (p0:LZ) (r:Bool) (hm:m_Sc p0=some r):Runs ext tbl 27 (as_Sc p0) (res_Sc r):=
 runs_of (vf:=vf_Sc) (by kernel_rfl) rfl (st:=(enter vf_Sc (as_Sc p0)).getD default) (by kernel_rfl) (go_on [] 1000 J0 (ok_Sc_0 p0 r hm) (by kernel_rfl))
theorem ok_Si_0 (p0 p1 r:Int) (hm:m_Si_0 p0 p1=some r):EE c_Si_0 K_Si_0 (s_Si_0 p0 p1) (Post vf_Si (res_Si r)):=by
 obtain ⟨c,a,hm⟩:=bind_some hm
 obtain ⟨b,hm⟩|⟨b,hm⟩:=split_ite hm
 ·exact ge (wP (ck_p a)<|wP (ck_p a)<|u1 b<|z0) (congrArg res_Si (qj hm)) (by kernel_rfl)
 ·exact ge (wP (ck_p a)<|wP (ck_p a)<|v1 b<|z0) (congrArg res_Si (qj hm)) (by kernel_rfl)
theorem ok_Si (p0 p1 r:Int) (hm:m_Si p0 p1=some r):Runs ext tbl 38 (as_Si p0 p1) (res_Si r):=
 runs_of (vf:=vf_Si) (by kernel_rfl) rfl (st:=(enter vf_Si (as_Si p0 p1)).getD default) (by kernel_rfl) (go_on [] 1000 J0 (ok_Si_0 p0 p1 r hm) (by kernel_rfl))
def O_Sd_17 (Q:VX→St→Prop) (e:(LZ)):Prop:=EE c_Sd_49 K_Sd_49 (s_Sd_49 e) Q
theorem ok_Sd_43 (p1 p2 p3:Int) (p0:LZ) (f:Int) (a:Za) (d:LZ) (b c:Int) (y) (hm:m_Sd_43 p1 p2 p3 p0 f a d b c=some y) (Q)
  (hin:∀ s,y=.inl s→EE c_Sd_17 K_Sd_17 (s_Sd_17 p1 p2 p3 p0 s.1 s.2) Q) (hout:∀ e,y=.inr e→O_Sd_17 Q e):EE c_Sd_43 K_Sd_43 (s_Sd_43 p1 p2 p3 p0 f a d b c) Q:=by
 obtain ⟨i,g,hm⟩:=bind_some hm
 obtain ⟨j,h,hm⟩:=bind_some hm
 exact gw (hin _ (qj hm).symm) (wO (.rows (List.map rS (([]:List ByteArray)++a.lines)))<|wO (zn ((([]:List ByteArray)++a.lines).length))<|wO (.rows (List.map rS (([]:List ByteArray)++a.lines)))<|wO (.rows (List.map rZa ([(Za.mk b c (([]:List ByteArray)++a.lines))]:LZ)))<|wO (zn 1)<|wO (.rows (List.map rZa (d++([(Za.mk b c (([]:List ByteArray)++a.lines))]:LZ))))<|wO (zn ((d++([(Za.mk b c (([]:List ByteArray)++a.lines))]:LZ)).length))<|wO (zn ((d++([(Za.mk b c (([]:List ByteArray)++a.lines))]:LZ)).length))<|wP (app_ck_ro rS ([]:List ByteArray) a.lines rfl g)<|wP (app_tell_ro rS ([]:List ByteArray) a.lines rfl)<|wP (len_map rS (show (([]:List ByteArray)++a.lines).length=(([]:List ByteArray)++a.lines).length from rfl))<|wP (all_le0 rS (([]:List ByteArray)++a.lines) rfl)<|wP (all_t rS (([]:List ByteArray)++a.lines) rfl)<|wP (Eq.refl (List.map rZa ([(Za.mk b c (([]:List ByteArray)++a.lines))]:LZ)))<|wP (len_map rZa (show 1=([(Za.mk b c (([]:List ByteArray)++a.lines))]:LZ).length from rfl))<|wP (all_eq rZa ([(Za.mk b c (([]:List ByteArray)++a.lines))]:LZ) rfl)<|wP (all_le rZa ([(Za.mk b c (([]:List ByteArray)++a.lines))]:LZ) rfl)<|wP (app_ck_ro rZa d ([(Za.mk b c (([]:List ByteArray)++a.lines))]:LZ) rfl h)<|wP (app_tell_ro rZa d ([(Za.mk b c (([]:List ByteArray)++a.lines))]:LZ) rfl)<|wP (len_map rZa (show (d++([(Za.mk b c (([]:List ByteArray)++a.lines))]:LZ)).length=(d++([(Za.mk b c (([]:List ByteArray)++a.lines))]:LZ)).length from rfl))<|wP (lens ((d++([(Za.mk b c (([]:List ByteArray)++a.lines))]:LZ)).length) ((d++([(Za.mk b c (([]:List ByteArray)++a.lines))]:LZ)).length) rfl)<|z0) (by kernel_rfl)
theorem ok_Sd_49 (a r:LZ) (hm:m_Sd_49 a=some r):EE c_Sd_49 K_Sd_49 (s_Sd_49 a) (Post vf_Sd (res_Sd r)):=by
 exact ge (wR rZa a<|z0) (congrArg res_Sd (qj hm)) (by kernel_rfl)
theorem ok_Sd_17 (p1 p2 p3:Int) (p0:LZ) (n:Int) (b:LZ) (y) (hm:m_Sd_17 p1 p2 p3 p0 n b=some y) (Q)
  (hin:∀ s,y=.inl s→EE c_Sd_17 K_Sd_17 (s_Sd_17 p1 p2 p3 p0 s.1 s.2) Q) (hout:∀ e,y=.inr e→O_Sd_17 Q e):EE c_Sd_17 K_Sd_17 (s_Sd_17 p1 p2 p3 p0 n b) Q:=by
 obtain ⟨g,hm⟩|⟨g,hm⟩:=split_ite hm
 ·obtain ⟨a,c,hm⟩:=bind_some hm
  obtain ⟨d,i,hm⟩:=bind_some hm
  obtain ⟨f,j,hm⟩:=bind_some hm
  obtain ⟨h,hm⟩|⟨h,hm⟩:=split_ite hm
  ·exact gw (hin _ (qj hm).symm) (u1 g<|wO (.row (rZa a))<|wO (.res (res_Si d))<|wO (.res (res_Si f))<|wP (rd_nn c)<|wP (at_row rZa (rd_get c))<|wP (ok_Si (w64 (a.from_*p1)) p2 d i)<|wP (ok_Si (w64 (a.to_*p1)) p2 f j)<|u4 h<|u4 eT<|wN b.length<|z0) (by kernel_rfl)
  ·obtain ⟨k,hm⟩|⟨k,hm⟩:=split_ite hm
   ·exact gw (hin _ (qj hm).symm) (u1 g<|wO (.row (rZa a))<|wO (.res (res_Si d))<|wO (.res (res_Si f))<|wP (rd_nn c)<|wP (at_row rZa (rd_get c))<|wP (ok_Si (w64 (a.from_*p1)) p2 d i)<|wP (ok_Si (w64 (a.to_*p1)) p2 f j)<|v4 h<|u3 k<|u1 eT<|wN b.length<|z0) (by kernel_rfl)
   ·obtain ⟨l,hm⟩|⟨l,hm⟩:=split_ite hm
    ·exact gw (hin _ (qj hm).symm) (u1 g<|wO (.row (rZa a))<|wO (.res (res_Si d))<|wO (.res (res_Si f))<|wP (rd_nn c)<|wP (at_row rZa (rd_get c))<|wP (ok_Si (w64 (a.from_*p1)) p2 d i)<|wP (ok_Si (w64 (a.to_*p1)) p2 f j)<|v4 h<|v3 k<|u1 l<|wN b.length<|z0) (by kernel_rfl)
    ·obtain ⟨m,hm⟩|⟨m,hm⟩:=split_ite hm
     ·exact gw (ok_Sd_43 _ _ _ _ _ _ _ _ _ y hm Q hin hout) (u1 g<|wO (.row (rZa a))<|wO (.res (res_Si d))<|wO (.res (res_Si f))<|wP (rd_nn c)<|wP (at_row rZa (rd_get c))<|wP (ok_Si (w64 (a.from_*p1)) p2 d i)<|wP (ok_Si (w64 (a.to_*p1)) p2 f j)<|v4 h<|v3 k<|v1 l<|u1 m<|wN b.length<|z0) (by kernel_rfl)
     ·exact gw (ok_Sd_43 _ _ _ _ _ _ _ _ _ y hm Q hin hout) (u1 g<|wO (.row (rZa a))<|wO (.res (res_Si d))<|wO (.res (res_Si f))<|wP (rd_nn c)<|wP (at_row rZa (rd_get c))<|wP (ok_Si (w64 (a.from_*p1)) p2 d i)<|wP (ok_Si (w64 (a.to_*p1)) p2 f j)<|v4 h<|v3 k<|v1 l<|v1 m<|wN b.length<|z0) (by kernel_rfl)
 ·refine gm c_Sd_49 K_Sd_49 (s_Sd_49 b) (v1 g<|wN b.length<|z0) ?_ (by kernel_rfl)
  exact hout b (qj hm).symm
theorem ok_Sd_0 (p0:LZ) (p1 p2 p3:Int) (r:LZ) (hm:m_Sd_0 p0 p1 p2 p3=some r):EE c_Sd_0 K_Sd_0 (s_Sd_0 p0 p1 p2 p3) (Post vf_Sd (res_Sd r)):=by
 obtain ⟨a,f,hm⟩:=bind_some hm
 obtain ⟨d,hm⟩|⟨d,hm⟩:=split_ite hm
 ·obtain ⟨g,hm⟩|⟨g,hm⟩:=split_ite hm
  ·exact ge (wO (.res (res_Sc a))<|wP (ok_Sc p0 a f)<|v3 (not_f d)<|u3 g<|u4 eT<|u4 eT<|u4 eT<|u1 eT<|wO (.rows (List.map rZa ([]:LZ)))<|wP (all_le0 rZa ([]:LZ) rfl)<|wP (all_t rZa ([]:LZ) rfl)<|z0) (congrArg res_Sd (qj hm)) (by kernel_rfl)
  ·obtain ⟨h,hm⟩|⟨h,hm⟩:=split_ite hm
   ·exact ge (wO (.res (res_Sc a))<|wP (ok_Sc p0 a f)<|v3 (not_f d)<|v3 g<|u3 h<|u4 eT<|u4 eT<|u2 eT<|wO (.rows (List.map rZa ([]:LZ)))<|wP (all_le0 rZa ([]:LZ) rfl)<|wP (all_t rZa ([]:LZ) rfl)<|z0) (congrArg res_Sd (qj hm)) (by kernel_rfl)
   ·obtain ⟨i,hm⟩|⟨i,hm⟩:=split_ite hm
    ·exact ge (wO (.res (res_Sc a))<|wP (ok_Sc p0 a f)<|v3 (not_f d)<|v3 g<|v3 h<|u3 i<|u4 eT<|u3 eT<|wO (.rows (List.map rZa ([]:LZ)))<|wP (all_le0 rZa ([]:LZ) rfl)<|wP (all_t rZa ([]:LZ) rfl)<|z0) (congrArg res_Sd (qj hm)) (by kernel_rfl)
    ·obtain ⟨j,hm⟩|⟨j,hm⟩:=split_ite hm
     ·exact ge (wO (.res (res_Sc a))<|wP (ok_Sc p0 a f)<|v3 (not_f d)<|v3 g<|v3 h<|v3 i<|u3 j<|u4 eT<|wO (.rows (List.map rZa ([]:LZ)))<|wP (all_le0 rZa ([]:LZ) rfl)<|wP (all_t rZa ([]:LZ) rfl)<|z0) (congrArg res_Sd (qj hm)) (by kernel_rfl)
     ·obtain ⟨k,hm⟩|⟨k,hm⟩:=split_ite hm
      ·exact ge (wO (.res (res_Sc a))<|wP (ok_Sc p0 a f)<|v3 (not_f d)<|v3 g<|v3 h<|v3 i<|v3 j<|u3 k<|u1 eT<|wO (.rows (List.map rZa ([]:LZ)))<|wP (all_le0 rZa ([]:LZ) rfl)<|wP (all_t rZa ([]:LZ) rfl)<|z0) (congrArg res_Sd (qj hm)) (by kernel_rfl)
      ·obtain ⟨l,hm⟩|⟨l,hm⟩:=split_ite hm
       ·exact ge (wO (.res (res_Sc a))<|wP (ok_Sc p0 a f)<|v3 (not_f d)<|v3 g<|v3 h<|v3 i<|v3 j<|v3 k<|u1 l<|wO (.rows (List.map rZa ([]:LZ)))<|wP (all_le0 rZa ([]:LZ) rfl)<|wP (all_t rZa ([]:LZ) rfl)<|z0) (congrArg res_Sd (qj hm)) (by kernel_rfl)
       ·refine gm c_Sd_17 K_Sd_17 (s_Sd_17 p1 p2 p3 p0 0 ([]:LZ)) (wO (.res (res_Sc a))<|wP (ok_Sc p0 a f)<|v3 (not_f d)<|v3 g<|v3 h<|v3 i<|v3 j<|v3 k<|v1 l<|wL rZa p0<|wO (zn (([]:LZ).length))<|wP (lens 0 (([]:LZ).length) rfl)<|z0) ?_ (by kernel_rfl)
        obtain ⟨e,he,hm⟩:=bind_some hm
        refine loop_rule (u:=.c c_Sd_17) (K:=K_Sd_17) (Q:=(Post vf_Sd (res_Sd r))) (b:=lp_Sd_17 p1 p2 p3 p0) (We:=O_Sd_17 (Post vf_Sd (res_Sd r))) (stJ:=fun s=>s_Sd_17 p1 p2 p3 p0 s.1 s.2) (s:=(0,([]:LZ))) (fun s y hb hin hout=>ok_Sd_17 p1 p2 p3 p0 s.1 s.2 y hb (Post vf_Sd (res_Sd r)) hin hout) he ?_
        show EE c_Sd_49 K_Sd_49 (s_Sd_49 e) _
        exact ok_Sd_49 e r hm
 ·exact ge (wO (.res (res_Sc a))<|wP (ok_Sc p0 a f)<|u3 (not_t d)<|u4 eT<|u4 eT<|u4 eT<|u4 eT<|wO (.rows (List.map rZa ([]:LZ)))<|wP (all_le0 rZa ([]:LZ) rfl)<|wP (all_t rZa ([]:LZ) rfl)<|z0) (congrArg res_Sd (qj hm)) (by kernel_rfl)
theorem ok_Sd (p0:LZ) (p1 p2 p3:Int) (r:LZ) (hm:m_Sd p0 p1 p2 p3=some r):Runs ext tbl 21 (as_Sd p0 p1 p2 p3) (res_Sd r):=
 runs_of (vf:=vf_Sd) (by kernel_rfl) rfl (st:=(enter vf_Sd (as_Sd p0 p1 p2 p3)).getD default) (by kernel_rfl) (go_on [] 1000 J0 (ok_Sd_0 p0 p1 p2 p3 r hm) (by kernel_rfl))
def O_Se_37 (p0 p1:LZ) (a:Int) (Q:VX→St→Prop) (e:(Bool)⊕((Unit))):Prop:=match e with | .inl e=>Q=Post vf_Se (res_Se e) | .inr e=>EE c_Se_55 K_Se_55 (s_Se_55 p0 p1 a) Q
def O_Se_15 (Q:VX→St→Prop) (e:(Bool)⊕((Unit))):Prop:=match e with | .inl e=>Q=Post vf_Se (res_Se e) | .inr e=>EE c_Se_56 K_Se_56 (s_Se_56) Q
theorem ok_Se_55 (p0 p1:LZ) (a:Int) (y) (hm:m_Se_55 p0 p1 a=some y) (Q)
  (hin:∀ s,y=.inl s→EE c_Se_15 K_Se_15 (s_Se_15 p0 p1 s) Q) (hout:∀ e,y=.inr e→O_Se_15 Q e):EE c_Se_55 K_Se_55 (s_Se_55 p0 p1 a) Q:=by
 exact gw (hin _ (qj hm).symm) (z0) (by kernel_rfl)
theorem ok_Se_37 (p0 p1:LZ) (a:Int) (h:Za) (j:Int) (y) (hm:m_Se_37 p0 p1 a h j=some y) (Q)
  (hin:∀ s,y=.inl s→EE c_Se_37 K_Se_37 (s_Se_37 p0 p1 a h s) Q) (hout:∀ e,y=.inr e→O_Se_37 p0 p1 a Q e):EE c_Se_37 K_Se_37 (s_Se_37 p0 p1 a h j) Q:=by
 obtain ⟨b,hm⟩|⟨b,hm⟩:=split_ite hm
 ·obtain ⟨k,c,hm⟩:=bind_some hm
  obtain ⟨l,d,hm⟩:=bind_some hm
  obtain ⟨m,f,hm⟩:=bind_some hm
  obtain ⟨n,g,hm⟩:=bind_some hm
  obtain ⟨i,hm⟩|⟨i,hm⟩:=split_ite hm
  ·exact gw (hin _ (qj hm).symm) (u1 b<|wO (.row (rZa k))<|wO (.row (rS l))<|wO (.row (rZa m))<|wO (.row (rS n))<|wO zF<|wP (rd_nn c)<|wP (at_row rZa (rd_get c))<|wP (rd_nn d)<|wP (at_row rS (rd_get d))<|wP (rd_nn f)<|wP (at_row rZa (rd_get f))<|wP (rd_nn g)<|wP (at_row rS (rd_get g))<|wP (not_f i)<|z0) (by kernel_rfl)
  ·have hQ:Q=Post vf_Se (res_Se false):=hout (.inl false) (qj hm).symm
   subst hQ
   exact ge (u1 b<|wO (.row (rZa k))<|wO (.row (rS l))<|wO (.row (rZa m))<|wO (.row (rS n))<|wO zT<|wP (rd_nn c)<|wP (at_row rZa (rd_get c))<|wP (rd_nn d)<|wP (at_row rS (rd_get d))<|wP (rd_nn f)<|wP (at_row rZa (rd_get f))<|wP (rd_nn g)<|wP (at_row rS (rd_get g))<|wP (not_t i)<|z0) (rfl:res_Se false=res_Se false) (by kernel_rfl)
 ·refine gm c_Se_55 K_Se_55 (s_Se_55 p0 p1 a) (v1 b<|z0) ?_ (by kernel_rfl)
  exact hout (.inr ()) (qj hm).symm
theorem ok_Se_56 (r:Bool) (hm:m_Se_56=some r):EE c_Se_56 K_Se_56 (s_Se_56) (Post vf_Se (res_Se r)):=by
 exact ge (z0) (congrArg res_Se (qj hm)) (by kernel_rfl)
end Go.Proofs.V

namespace Go.Proofs.V
open Go
theorem ok_Se_15 (p0 p1:LZ) (j:Int) (y) (hm:m_Se_15 p0 p1 j=some y) (Q)
  (hin:∀ s,y=.inl s→EE c_Se_15 K_Se_15 (s_Se_15 p0 p1 s) Q) (hout:∀ e,y=.inr e→O_Se_15 Q e):EE c_Se_15 K_Se_15 (s_Se_15 p0 p1 j) Q:=by
 obtain ⟨k,hm⟩|⟨k,hm⟩:=split_ite hm
 ·obtain ⟨f,a,hm⟩:=bind_some hm
  obtain ⟨i,d,hm⟩:=bind_some hm
  obtain ⟨g,hm⟩|⟨g,hm⟩:=split_ite hm
  ·have hQ:Q=Post vf_Se (res_Se false):=hout (.inl false) (qj hm).symm
   subst hQ
   exact ge (u1 k<|wO (.row (rZa f))<|wO (.row (rZa i))<|wP (rd_nn a)<|wP (at_row rZa (rd_get a))<|wP (rd_nn d)<|wP (at_row rZa (rd_get d))<|u4 g<|u4 g<|u4 g<|u4 eT<|u4 eT<|u4 eT<|u3 eT<|z0) (rfl:res_Se false=res_Se false) (by kernel_rfl)
  ·obtain ⟨h,hm⟩|⟨h,hm⟩:=split_ite hm
   ·have hQ:Q=Post vf_Se (res_Se false):=hout (.inl false) (qj hm).symm
    subst hQ
    exact ge (u1 k<|wO (.row (rZa f))<|wO (.row (rZa i))<|wP (rd_nn a)<|wP (at_row rZa (rd_get a))<|wP (rd_nn d)<|wP (at_row rZa (rd_get d))<|v3 g<|wO (.row (rZa f))<|wP (rd_nn a)<|wP (at_row rZa (rd_get a))<|v4 g<|v1 g<|wO (.row (rZa i))<|wP (rd_nn d)<|wP (at_row rZa (rd_get d))<|v4 g<|u4 h<|u4 h<|u4 h<|u2 h<|u1 eT<|z0) (rfl:res_Se false=res_Se false) (by kernel_rfl)
   ·obtain ⟨l,hm⟩|⟨l,hm⟩:=split_ite hm
    ·have hQ:Q=Post vf_Se (res_Se false):=hout (.inl false) (qj hm).symm
     subst hQ
     exact ge (u1 k<|wO (.row (rZa f))<|wO (.row (rZa i))<|wP (rd_nn a)<|wP (at_row rZa (rd_get a))<|wP (rd_nn d)<|wP (at_row rZa (rd_get d))<|v3 g<|wO (.row (rZa f))<|wP (rd_nn a)<|wP (at_row rZa (rd_get a))<|v4 g<|v1 g<|wO (.row (rZa i))<|wP (rd_nn d)<|wP (at_row rZa (rd_get d))<|v4 g<|v3 h<|wO (.row (rZa f))<|wP (rd_nn a)<|wP (at_row rZa (rd_get a))<|v3 h<|wL rS f.lines<|v3 h<|wO (.row (rZa i))<|wP (rd_nn d)<|wP (at_row rZa (rd_get d))<|v3 h<|wL rS i.lines<|v2 h<|u1 l<|z0) (rfl:res_Se false=res_Se false) (by kernel_rfl)
    ·refine gm c_Se_37 K_Se_37 (s_Se_37 p0 p1 j f 0) (u1 k<|wO (.row (rZa f))<|wO (.row (rZa i))<|wP (rd_nn a)<|wP (at_row rZa (rd_get a))<|wP (rd_nn d)<|wP (at_row rZa (rd_get d))<|v3 g<|wO (.row (rZa f))<|wP (rd_nn a)<|wP (at_row rZa (rd_get a))<|v4 g<|v1 g<|wO (.row (rZa i))<|wP (rd_nn d)<|wP (at_row rZa (rd_get d))<|v4 g<|v3 h<|wO (.row (rZa f))<|wP (rd_nn a)<|wP (at_row rZa (rd_get a))<|v3 h<|wL rS f.lines<|v3 h<|wO (.row (rZa i))<|wP (rd_nn d)<|wP (at_row rZa (rd_get d))<|v3 h<|wL rS i.lines<|v2 h<|v1 l<|wO (.row (rZa f))<|wP (rd_nn a)<|wP (at_row rZa (rd_get a))<|wL rS f.lines<|z0) ?_ (by kernel_rfl)
     obtain ⟨e,he,hm⟩:=bind_some hm
     refine loop_rule (u:=.c c_Se_37) (K:=K_Se_37) (Q:=Q) (b:=lp_Se_37 p0 p1 j f) (We:=O_Se_37 p0 p1 j Q) (stJ:=fun s=>s_Se_37 p0 p1 j f s) (s:=0) (fun s y hb hin hout=>ok_Se_37 p0 p1 j f s y hb Q hin hout) he ?_
     rcases e with e | e
     ·exact hout (.inl e) (qj hm).symm
     ·show EE c_Se_55 K_Se_55 (s_Se_55 p0 p1 j) _
      exact ok_Se_55 p0 p1 j y hm Q hin hout
 ·refine gm c_Se_56 K_Se_56 (s_Se_56) (v1 k<|z0) ?_ (by kernel_rfl)
  exact hout (.inr ()) (qj hm).symm
theorem ok_Se_0 (p0 p1:LZ) (r:Bool) (hm:m_Se_0 p0 p1=some r):EE c_Se_0 K_Se_0 (s_Se_0 p0 p1) (Post vf_Se (res_Se r)):=by
 obtain ⟨a,hm⟩|⟨a,hm⟩:=split_ite hm
 ·exact ge (wL rZa p0<|wL rZa p1<|u1 a<|z0) (congrArg res_Se (qj hm)) (by kernel_rfl)
 ·refine gm c_Se_15 K_Se_15 (s_Se_15 p0 p1 0) (wL rZa p0<|wL rZa p1<|v1 a<|wL rZa p0<|z0) ?_ (by kernel_rfl)
  obtain ⟨e,he,hm⟩:=bind_some hm
  refine loop_rule (u:=.c c_Se_15) (K:=K_Se_15) (Q:=(Post vf_Se (res_Se r))) (b:=lp_Se_15 p0 p1) (We:=O_Se_15 (Post vf_Se (res_Se r))) (stJ:=fun s=>s_Se_15 p0 p1 s) (s:=0) (fun s y hb hin hout=>ok_Se_15 p0 p1 s y hb (Post vf_Se (res_Se r)) hin hout) he ?_
  rcases e with e | e
  ·exact congrArg (fun r=>Post vf_Se (res_Se r)) (qj hm).symm
  ·show EE c_Se_56 K_Se_56 (s_Se_56) _
   exact ok_Se_56 r hm
theorem ok_Se (p0 p1:LZ) (r:Bool) (hm:m_Se p0 p1=some r):Runs ext tbl 25 (as_Se p0 p1) (res_Se r):=
 runs_of (vf:=vf_Se) (by kernel_rfl) rfl (st:=(enter vf_Se (as_Se p0 p1)).getD default) (by kernel_rfl) (go_on [] 1000 J0 (ok_Se_0 p0 p1 r hm) (by kernel_rfl))
theorem ok_Sb_20 (a:LZ×Zb) (b:Int) (r:LZ×Int) (hm:m_Sb_20 a b=some r):EE c_Sb_20 K_Sb_20 (s_Sb_20 a b) (Post vf_Sb (res_Sb r)):=by
 exact ge (wR rZa a.1<|z0) (congrArg res_Sb (qj hm)) (by kernel_rfl)
theorem ok_Sb_9 (k:Int×Zb) (a:LZ×Zb) (l:Bool) (e:LI) (f g:Int) (r:LZ×Int) (hm:m_Sb_9 k a l e f g=some r):EE c_Sb_9 K_Sb_9 (s_Sb_9 k a l e f g) (Post vf_Sb (res_Sb r)):=by
 obtain ⟨h,hm⟩|⟨h,hm⟩:=split_ite hm
 ·obtain ⟨b,m,hm⟩:=bind_some hm
  obtain ⟨n,i,hm⟩:=bind_some hm
  obtain ⟨c,o,hm⟩:=bind_some hm
  obtain ⟨d,p,hm⟩:=bind_some hm
  obtain ⟨j,hm⟩|⟨j,hm⟩:=split_ite hm
  ·obtain ⟨q,s,hm⟩:=bind_some hm
   exact gw (ok_Sb_20 _ _ r hm) (u1 h<|wO (.res (res_Sp b))<|wO (.row (rZa n))<|wO (.res (res_Sp c))<|wO (.res (res_So d))<|wP (ok_Sp (Zb.mk e f g) (a.1.length:Int) b m)<|wP (rd_in rfl i)<|wP (at_row rZa (rd_get0 i))<|wP (ok_Sp b.2 3 c o)<|wP (ok_So c.2 2 d p)<|u1 j<|wO (.res (res_Sp q))<|wP (ok_Sp d.2 2 q s)<|wN a.1.length<|z0) (by kernel_rfl)
  ·exact gw (ok_Sb_20 _ _ r hm) (u1 h<|wO (.res (res_Sp b))<|wO (.row (rZa n))<|wO (.res (res_Sp c))<|wO (.res (res_So d))<|wP (ok_Sp (Zb.mk e f g) (a.1.length:Int) b m)<|wP (rd_in rfl i)<|wP (at_row rZa (rd_get0 i))<|wP (ok_Sp b.2 3 c o)<|wP (ok_So c.2 2 d p)<|v1 j<|wN a.1.length<|z0) (by kernel_rfl)
 ·exact gw (ok_Sb_20 _ _ r hm) (v1 h<|wN a.1.length<|z0) (by kernel_rfl)
theorem ok_Sb_0 (p0:LI) (r:LZ×Int) (hm:m_Sb_0 p0=some r):EE c_Sb_0 K_Sb_0 (s_Sb_0 p0) (Post vf_Sb (res_Sb r)):=by
 obtain ⟨a,d,hm⟩:=bind_some hm
 obtain ⟨b,e,hm⟩:=bind_some hm
 obtain ⟨c,hm⟩|⟨c,hm⟩:=split_ite hm
 ·obtain ⟨f,g,hm⟩:=bind_some hm
  exact gw (ok_Sb_9 _ _ _ _ _ _ r hm) (wO (.res (res_Sh a))<|wP (ok_Sh p0 a d)<|wL rZa a.1<|wO (.res (res_Sp b))<|wP (ok_Sp a.2 20000 b e)<|u2 c<|wO (.res (res_So f))<|wP (ok_So b.2 2 f g)<|u1 c<|wN a.1.length<|z0) (by kernel_rfl)
 ·exact gw (ok_Sb_9 _ _ _ _ _ _ r hm) (wO (.res (res_Sh a))<|wP (ok_Sh p0 a d)<|wL rZa a.1<|wO (.res (res_Sp b))<|wP (ok_Sp a.2 20000 b e)<|v3 c<|wN a.1.length<|z0) (by kernel_rfl)
theorem ok_Sb (p0:LI) (r:LZ×Int) (hm:m_Sb p0=some r):Runs ext tbl 28 (as_Sb p0) (res_Sb r):=
 runs_of (vf:=vf_Sb) (by kernel_rfl) rfl (st:=(enter vf_Sb (as_Sb p0)).getD default) (by kernel_rfl) (go_on [] 1000 J0 (ok_Sb_0 p0 r hm) (by kernel_rfl))
def O_Ic_17 (Q:VX→St→Prop) (e:(LI)):Prop:=EE c_Ic_33 K_Ic_33 (s_Ic_33 e) Q
theorem ok_Ic_29 (p1 a:Int) (p0:LZ) (b:LI) (d:Bool) (y) (hm:m_Ic_29 p1 a p0 b d=some y) (Q)
  (hin:∀ s,y=.inl s→EE c_Ic_17 K_Ic_17 (s_Ic_17 p1 p0 s.1 s.2) Q) (hout:∀ e,y=.inr e→O_Ic_17 Q e):EE c_Ic_29 K_Ic_29 (s_Ic_29 p1 a p0 b d) Q:=by
 obtain ⟨c,hm⟩|⟨c,hm⟩:=split_ite hm
 ·obtain ⟨g,f,hm⟩:=bind_some hm
  exact gw (hin _ (qj hm).symm) (u1 c<|wO (.rows (mi ([a]:LI)))<|wO (zn 1)<|wO (.rows (mi (b++([a]:LI))))<|wO (zn ((b++([a]:LI)).length))<|wO (zn ((b++([a]:LI)).length))<|wP (Eq.refl (mi ([a]:LI)))<|wP (len_map (rI .i64) (show 1=([a]:LI).length from rfl))<|wP (all_le (rI .i64) ([a]:LI) rfl)<|wP (app_ck (rI .i64) b ([a]:LI) rfl rfl f)<|wP (app_tell (rI .i64) b ([a]:LI) rfl rfl)<|wP (len_map (rI .i64) (show (b++([a]:LI)).length=(b++([a]:LI)).length from rfl))<|wP (lens ((b++([a]:LI)).length) ((b++([a]:LI)).length) rfl)<|z0) (by kernel_rfl)
 ·exact gw (hin _ (qj hm).symm) (v1 c<|wN b.length<|z0) (by kernel_rfl)
theorem ok_Ic_33 (a r:LI) (hm:m_Ic_33 a=some r):EE c_Ic_33 K_Ic_33 (s_Ic_33 a) (Post vf_Ic (res_Ic r)):=by
 exact ge (wR (rI .i64) a<|z0) (congrArg res_Ic (qj hm)) (by kernel_rfl)
theorem ok_Ic_17 (p1:Int) (p0:LZ) (f:Int) (a:LI) (y) (hm:m_Ic_17 p1 p0 f a=some y) (Q)
  (hin:∀ s,y=.inl s→EE c_Ic_17 K_Ic_17 (s_Ic_17 p1 p0 s.1 s.2) Q) (hout:∀ e,y=.inr e→O_Ic_17 Q e):EE c_Ic_17 K_Ic_17 (s_Ic_17 p1 p0 f a) Q:=by
 obtain ⟨c,hm⟩|⟨c,hm⟩:=split_ite hm
 ·obtain ⟨g,d,hm⟩:=bind_some hm
  obtain ⟨b,hm⟩|⟨b,hm⟩:=split_ite hm
  ·exact gw (ok_Ic_29 _ _ _ _ _ y hm Q hin hout) (u1 c<|wO (.row (rZa g))<|wP (rd_nn d)<|wP (at_row rZa (rd_get d))<|u4 b<|u1 b<|wN a.length<|z0) (by kernel_rfl)
  ·exact gw (ok_Ic_29 _ _ _ _ _ y hm Q hin hout) (u1 c<|wO (.row (rZa g))<|wP (rd_nn d)<|wP (at_row rZa (rd_get d))<|v4 b<|v1 b<|wN a.length<|z0) (by kernel_rfl)
 ·refine gm c_Ic_33 K_Ic_33 (s_Ic_33 a) (v1 c<|wN a.length<|z0) ?_ (by kernel_rfl)
  exact hout a (qj hm).symm
theorem ok_Ic_0 (p0:LZ) (p1:Int) (r:LI) (hm:m_Ic_0 p0 p1=some r):EE c_Ic_0 K_Ic_0 (s_Ic_0 p0 p1) (Post vf_Ic (res_Ic r)):=by
 obtain ⟨a,g,hm⟩:=bind_some hm
 obtain ⟨d,hm⟩|⟨d,hm⟩:=split_ite hm
 ·obtain ⟨f,i,hm⟩:=bind_some hm
  obtain ⟨h,hm⟩|⟨h,hm⟩:=split_ite hm
  ·refine gm c_Ic_17 K_Ic_17 (s_Ic_17 p1 p0 0 ([]:LI)) (wO (.res (res_Ia a))<|wP (ok_Ia p0 a g)<|v2 (not_f d)<|wO (.res (res_Ig f))<|wP (ok_Ig p1 f i)<|v2 (not_f d)<|v1 (not_f h)<|wL rZa p0<|wO (zn (([]:LI).length))<|wP (lens 0 (([]:LI).length) rfl)<|z0) ?_ (by kernel_rfl)
   obtain ⟨e,he,hm⟩:=bind_some hm
   refine loop_rule (u:=.c c_Ic_17) (K:=K_Ic_17) (Q:=(Post vf_Ic (res_Ic r))) (b:=lp_Ic_17 p1 p0) (We:=O_Ic_17 (Post vf_Ic (res_Ic r))) (stJ:=fun s=>s_Ic_17 p1 p0 s.1 s.2) (s:=(0,([]:LI))) (fun s y hb hin hout=>ok_Ic_17 p1 p0 s.1 s.2 y hb (Post vf_Ic (res_Ic r)) hin hout) he ?_
   show EE c_Ic_33 K_Ic_33 (s_Ic_33 e) _
   exact ok_Ic_33 e r hm
  ·exact ge (wO (.res (res_Ia a))<|wP (ok_Ia p0 a g)<|v2 (not_f d)<|wO (.res (res_Ig f))<|wP (ok_Ig p1 f i)<|v2 (not_f d)<|u1 (not_t h)<|wO (.rows (mi ([]:LI)))<|wP (all_le0 (rI .i64) ([]:LI) rfl)<|wP (all_t (rI .i64) ([]:LI) rfl)<|z0) (congrArg res_Ic (qj hm)) (by kernel_rfl)
 ·exact ge (wO (.res (res_Ia a))<|wP (ok_Ia p0 a g)<|u4 (not_t d)<|u1 eT<|wO (.rows (mi ([]:LI)))<|wP (all_le0 (rI .i64) ([]:LI) rfl)<|wP (all_t (rI .i64) ([]:LI) rfl)<|z0) (congrArg res_Ic (qj hm)) (by kernel_rfl)
theorem ok_Ic (p0:LZ) (p1:Int) (r:LI) (hm:m_Ic p0 p1=some r):Runs ext tbl 15 (as_Ic p0 p1) (res_Ic r):=
 runs_of (vf:=vf_Ic) (by kernel_rfl) rfl (st:=(enter vf_Ic (as_Ic p0 p1)).getD default) (by kernel_rfl) (go_on [] 1000 J0 (ok_Ic_0 p0 p1 r hm) (by kernel_rfl))
def O_Sf_17 (Q:VX→St→Prop) (e:(LI)):Prop:=EE c_Sf_33 K_Sf_33 (s_Sf_33 e) Q
theorem ok_Sf_29 (p1 a:Int) (p0:LZ) (b:LI) (d:Bool) (y) (hm:m_Sf_29 p1 a p0 b d=some y) (Q)
  (hin:∀ s,y=.inl s→EE c_Sf_17 K_Sf_17 (s_Sf_17 p1 p0 s.1 s.2) Q) (hout:∀ e,y=.inr e→O_Sf_17 Q e):EE c_Sf_29 K_Sf_29 (s_Sf_29 p1 a p0 b d) Q:=by
 obtain ⟨c,hm⟩|⟨c,hm⟩:=split_ite hm
 ·obtain ⟨g,f,hm⟩:=bind_some hm
  exact gw (hin _ (qj hm).symm) (u1 c<|wO (.rows (mi ([a]:LI)))<|wO (zn 1)<|wO (.rows (mi (b++([a]:LI))))<|wO (zn ((b++([a]:LI)).length))<|wO (zn ((b++([a]:LI)).length))<|wP (Eq.refl (mi ([a]:LI)))<|wP (len_map (rI .i64) (show 1=([a]:LI).length from rfl))<|wP (all_le (rI .i64) ([a]:LI) rfl)<|wP (app_ck (rI .i64) b ([a]:LI) rfl rfl f)<|wP (app_tell (rI .i64) b ([a]:LI) rfl rfl)<|wP (len_map (rI .i64) (show (b++([a]:LI)).length=(b++([a]:LI)).length from rfl))<|wP (lens ((b++([a]:LI)).length) ((b++([a]:LI)).length) rfl)<|z0) (by kernel_rfl)
 ·exact gw (hin _ (qj hm).symm) (v1 c<|wN b.length<|z0) (by kernel_rfl)
theorem ok_Sf_33 (a r:LI) (hm:m_Sf_33 a=some r):EE c_Sf_33 K_Sf_33 (s_Sf_33 a) (Post vf_Sf (res_Sf r)):=by
 exact ge (wR (rI .i64) a<|z0) (congrArg res_Sf (qj hm)) (by kernel_rfl)
theorem ok_Sf_17 (p1:Int) (p0:LZ) (f:Int) (a:LI) (y) (hm:m_Sf_17 p1 p0 f a=some y) (Q)
  (hin:∀ s,y=.inl s→EE c_Sf_17 K_Sf_17 (s_Sf_17 p1 p0 s.1 s.2) Q) (hout:∀ e,y=.inr e→O_Sf_17 Q e):EE c_Sf_17 K_Sf_17 (s_Sf_17 p1 p0 f a) Q:=by
 obtain ⟨c,hm⟩|⟨c,hm⟩:=split_ite hm
 ·obtain ⟨g,d,hm⟩:=bind_some hm
  obtain ⟨b,hm⟩|⟨b,hm⟩:=split_ite hm
  ·exact gw (ok_Sf_29 _ _ _ _ _ y hm Q hin hout) (u1 c<|wO (.row (rZa g))<|wP (rd_nn d)<|wP (at_row rZa (rd_get d))<|u4 b<|u1 b<|wN a.length<|z0) (by kernel_rfl)
  ·exact gw (ok_Sf_29 _ _ _ _ _ y hm Q hin hout) (u1 c<|wO (.row (rZa g))<|wP (rd_nn d)<|wP (at_row rZa (rd_get d))<|v4 b<|v1 b<|wN a.length<|z0) (by kernel_rfl)
 ·refine gm c_Sf_33 K_Sf_33 (s_Sf_33 a) (v1 c<|wN a.length<|z0) ?_ (by kernel_rfl)
  exact hout a (qj hm).symm
theorem ok_Sf_0 (p0:LZ) (p1:Int) (r:LI) (hm:m_Sf_0 p0 p1=some r):EE c_Sf_0 K_Sf_0 (s_Sf_0 p0 p1) (Post vf_Sf (res_Sf r)):=by
 obtain ⟨a,g,hm⟩:=bind_some hm
 obtain ⟨d,hm⟩|⟨d,hm⟩:=split_ite hm
 ·obtain ⟨f,i,hm⟩:=bind_some hm
  obtain ⟨h,hm⟩|⟨h,hm⟩:=split_ite hm
  ·refine gm c_Sf_17 K_Sf_17 (s_Sf_17 p1 p0 0 ([]:LI)) (wO (.res (res_Sc a))<|wP (ok_Sc p0 a g)<|v2 (not_f d)<|wO (.res (res_Sl f))<|wP (ok_Sl p1 f i)<|v2 (not_f d)<|v1 (not_f h)<|wL rZa p0<|wO (zn (([]:LI).length))<|wP (lens 0 (([]:LI).length) rfl)<|z0) ?_ (by kernel_rfl)
   obtain ⟨e,he,hm⟩:=bind_some hm
   refine loop_rule (u:=.c c_Sf_17) (K:=K_Sf_17) (Q:=(Post vf_Sf (res_Sf r))) (b:=lp_Sf_17 p1 p0) (We:=O_Sf_17 (Post vf_Sf (res_Sf r))) (stJ:=fun s=>s_Sf_17 p1 p0 s.1 s.2) (s:=(0,([]:LI))) (fun s y hb hin hout=>ok_Sf_17 p1 p0 s.1 s.2 y hb (Post vf_Sf (res_Sf r)) hin hout) he ?_
   show EE c_Sf_33 K_Sf_33 (s_Sf_33 e) _
   exact ok_Sf_33 e r hm
  ·exact ge (wO (.res (res_Sc a))<|wP (ok_Sc p0 a g)<|v2 (not_f d)<|wO (.res (res_Sl f))<|wP (ok_Sl p1 f i)<|v2 (not_f d)<|u1 (not_t h)<|wO (.rows (mi ([]:LI)))<|wP (all_le0 (rI .i64) ([]:LI) rfl)<|wP (all_t (rI .i64) ([]:LI) rfl)<|z0) (congrArg res_Sf (qj hm)) (by kernel_rfl)
 ·exact ge (wO (.res (res_Sc a))<|wP (ok_Sc p0 a g)<|u4 (not_t d)<|u1 eT<|wO (.rows (mi ([]:LI)))<|wP (all_le0 (rI .i64) ([]:LI) rfl)<|wP (all_t (rI .i64) ([]:LI) rfl)<|z0) (congrArg res_Sf (qj hm)) (by kernel_rfl)
theorem ok_Sf (p0:LZ) (p1:Int) (r:LI) (hm:m_Sf p0 p1=some r):Runs ext tbl 13 (as_Sf p0 p1) (res_Sf r):=
 runs_of (vf:=vf_Sf) (by kernel_rfl) rfl (st:=(enter vf_Sf (as_Sf p0 p1)).getD default) (by kernel_rfl) (go_on [] 1000 J0 (ok_Sf_0 p0 p1 r hm) (by kernel_rfl))
def O_La_15 (Q:VX→St→Prop) (e:(Bool)⊕((Unit))):Prop:=match e with | .inl e=>Q=Post vf_La (res_La e) | .inr e=>EE c_La_33 K_La_33 (s_La_33) Q
theorem ok_La_33 (r:Bool) (hm:m_La_33=some r):EE c_La_33 K_La_33 (s_La_33) (Post vf_La (res_La r)):=by
 exact ge (z0) (congrArg res_La (qj hm)) (by kernel_rfl)
theorem ok_La_15 (p0 p1:LI) (f:Int) (y) (hm:m_La_15 p0 p1 f=some y) (Q)
  (hin:∀ s,y=.inl s→EE c_La_15 K_La_15 (s_La_15 p0 p1 s) Q) (hout:∀ e,y=.inr e→O_La_15 Q e):EE c_La_15 K_La_15 (s_La_15 p0 p1 f) Q:=by
 obtain ⟨a,hm⟩|⟨a,hm⟩:=split_ite hm
 ·obtain ⟨g,b,hm⟩:=bind_some hm
  obtain ⟨h,c,hm⟩:=bind_some hm
  obtain ⟨d,hm⟩|⟨d,hm⟩:=split_ite hm
  ·have hQ:Q=Post vf_La (res_La false):=hout (.inl false) (qj hm).symm
   subst hQ
   exact ge (u1 a<|wO (.row ((rI .i64) g))<|wO (.row ((rI .i64) h))<|wP (rd_nn b)<|wP (at_row (rI .i64) (rd_get b))<|wP (rd_nn c)<|wP (at_row (rI .i64) (rd_get c))<|u1 d<|z0) (rfl:res_La false=res_La false) (by kernel_rfl)
  ·exact gw (hin _ (qj hm).symm) (u1 a<|wO (.row ((rI .i64) g))<|wO (.row ((rI .i64) h))<|wP (rd_nn b)<|wP (at_row (rI .i64) (rd_get b))<|wP (rd_nn c)<|wP (at_row (rI .i64) (rd_get c))<|v1 d<|z0) (by kernel_rfl)
 ·refine gm c_La_33 K_La_33 (s_La_33) (v1 a<|z0) ?_ (by kernel_rfl)
  exact hout (.inr ()) (qj hm).symm
theorem ok_La_0 (p0 p1:LI) (r:Bool) (hm:m_La_0 p0 p1=some r):EE c_La_0 K_La_0 (s_La_0 p0 p1) (Post vf_La (res_La r)):=by
 obtain ⟨a,hm⟩|⟨a,hm⟩:=split_ite hm
 ·exact ge (wL (rI .i64) p0<|wL (rI .i64) p1<|u1 a<|z0) (congrArg res_La (qj hm)) (by kernel_rfl)
 ·refine gm c_La_15 K_La_15 (s_La_15 p0 p1 0) (wL (rI .i64) p0<|wL (rI .i64) p1<|v1 a<|wL (rI .i64) p0<|z0) ?_ (by kernel_rfl)
  obtain ⟨e,he,hm⟩:=bind_some hm
  refine loop_rule (u:=.c c_La_15) (K:=K_La_15) (Q:=(Post vf_La (res_La r))) (b:=lp_La_15 p0 p1) (We:=O_La_15 (Post vf_La (res_La r))) (stJ:=fun s=>s_La_15 p0 p1 s) (s:=0) (fun s y hb hin hout=>ok_La_15 p0 p1 s y hb (Post vf_La (res_La r)) hin hout) he ?_
  rcases e with e | e
  ·exact congrArg (fun r=>Post vf_La (res_La r)) (qj hm).symm
  ·show EE c_La_33 K_La_33 (s_La_33) _
   exact ok_La_33 r hm
theorem ok_La (p0 p1:LI) (r:Bool) (hm:m_La p0 p1=some r):Runs ext tbl 10 (as_La p0 p1) (res_La r):=
 runs_of (vf:=vf_La) (by kernel_rfl) rfl (st:=(enter vf_La (as_La p0 p1)).getD default) (by kernel_rfl) (go_on [] 1000 J0 (ok_La_0 p0 p1 r hm) (by kernel_rfl))
theorem ok_laws_FnRetimed_42 (p0:LI) (a:LZ×Int×Int×Int) (r:Bool) (hm:m_laws_FnRetimed_42 p0 a=some r):EE c_laws_FnRetimed_42 K_laws_FnRetimed_42 (s_laws_FnRetimed_42 p0 a) (Post vf_laws_FnRetimed (res_laws_FnRetimed r)):=by
 obtain ⟨d,f,hm⟩:=bind_some hm
 obtain ⟨b,g,hm⟩:=bind_some hm
 obtain ⟨c,h,hm⟩:=bind_some hm
 obtain ⟨e,i,hm⟩:=bind_some hm
 exact ge (wO (.res (res_Sb d))<|wP (ok_Sb p0 d f)<|wL rZa d.1<|wO (.rows (List.map rZa a.1))<|wO (.res (res_Ic b))<|wP (all_le rZa a.1 rfl)<|wP (all_dt rZa a.1 rfl)<|wP (ok_Ic a.1 d.2 b g)<|wL (rI .i64) b<|wO (.rows (List.map rZa a.1))<|wO (.res (res_Sf c))<|wP (all_le rZa a.1 rfl)<|wP (all_dt rZa a.1 rfl)<|wP (ok_Sf a.1 d.2 c h)<|wL (rI .i64) c<|wO (zi b)<|wO (zi c)<|wO (.res (res_La e))<|wP (all_le (rI .i64) b rfl)<|wP (all_dt (rI .i64) b rfl)<|wP (all_le (rI .i64) c rfl)<|wP (all_dt (rI .i64) c rfl)<|wP (ok_La b c e i)<|z0) (congrArg res_laws_FnRetimed (qj hm)) (by kernel_rfl)
theorem ok_laws_FnRetimed_22 (p0:LI) (a:LZ×Int×Int×Int) (k:LZ) (r:Bool) (hm:m_laws_FnRetimed_22 p0 a k=some r):EE c_laws_FnRetimed_22 K_laws_FnRetimed_22 (s_laws_FnRetimed_22 p0 a k) (Post vf_laws_FnRetimed (res_laws_FnRetimed r)):=by
 obtain ⟨e,g,hm⟩:=bind_some hm
 obtain ⟨f,hm⟩|⟨f,hm⟩:=split_ite hm
 ·obtain ⟨b,i,hm⟩:=bind_some hm
  obtain ⟨d,hm⟩|⟨d,hm⟩:=split_ite hm
  ·obtain ⟨c,l,hm⟩:=bind_some hm
   obtain ⟨h,m,hm⟩:=bind_some hm
   obtain ⟨j,hm⟩|⟨j,hm⟩:=split_ite hm
   ·exact gw (ok_laws_FnRetimed_42 _ _ r hm) (wO (.rows (List.map rZa a.1))<|wO (.res (res_Sc e))<|wP (all_le rZa a.1 rfl)<|wP (all_dt rZa a.1 rfl)<|wP (ok_Sc a.1 e g)<|v1 (not_f f)<|wL (rI .u8) p0<|wO (.rows (List.map rZa a.1))<|wO (.res (res_Ib b))<|wP (by decide:(1000:Int)≠0)<|wP (all_le rZa a.1 rfl)<|wP (all_dt rZa a.1 rfl)<|wP (ok_Ib a.1 1 1 (w64 (1+(Int.tmod (p0.length:Int) 1000))) b i)<|wL rZa b<|u4 d<|wO (.rows (List.map rZa b))<|wO (.res (res_Ib c))<|wP (all_le rZa b rfl)<|wP (all_dt rZa b rfl)<|wP (ok_Ib b 1 1 (w64 (0 - (w64 (1+(Int.tmod (p0.length:Int) 1000))))) c l)<|wL rZa c<|u2 d<|wO (.rows (List.map rZa c))<|wO (.rows (List.map rZa a.1))<|wO (.res (res_Se h))<|wP (all_le rZa c rfl)<|wP (all_dt rZa c rfl)<|wP (all_le rZa a.1 rfl)<|wP (all_dt rZa a.1 rfl)<|wP (ok_Se c a.1 h m)<|u2 d<|v1 (not_f j)<|wN a.1.length<|z0) (by kernel_rfl)
   ·exact ge (wO (.rows (List.map rZa a.1))<|wO (.res (res_Sc e))<|wP (all_le rZa a.1 rfl)<|wP (all_dt rZa a.1 rfl)<|wP (ok_Sc a.1 e g)<|v1 (not_f f)<|wL (rI .u8) p0<|wO (.rows (List.map rZa a.1))<|wO (.res (res_Ib b))<|wP (by decide:(1000:Int)≠0)<|wP (all_le rZa a.1 rfl)<|wP (all_dt rZa a.1 rfl)<|wP (ok_Ib a.1 1 1 (w64 (1+(Int.tmod (p0.length:Int) 1000))) b i)<|wL rZa b<|u4 d<|wO (.rows (List.map rZa b))<|wO (.res (res_Ib c))<|wP (all_le rZa b rfl)<|wP (all_dt rZa b rfl)<|wP (ok_Ib b 1 1 (w64 (0 - (w64 (1+(Int.tmod (p0.length:Int) 1000))))) c l)<|wL rZa c<|u2 d<|wO (.rows (List.map rZa c))<|wO (.rows (List.map rZa a.1))<|wO (.res (res_Se h))<|wP (all_le rZa c rfl)<|wP (all_dt rZa c rfl)<|wP (all_le rZa a.1 rfl)<|wP (all_dt rZa a.1 rfl)<|wP (ok_Se c a.1 h m)<|u2 d<|u1 (not_t j)<|z0) (congrArg res_laws_FnRetimed (qj hm)) (by kernel_rfl)
  ·exact gw (ok_laws_FnRetimed_42 _ _ r hm) (wO (.rows (List.map rZa a.1))<|wO (.res (res_Sc e))<|wP (all_le rZa a.1 rfl)<|wP (all_dt rZa a.1 rfl)<|wP (ok_Sc a.1 e g)<|v1 (not_f f)<|wL (rI .u8) p0<|wO (.rows (List.map rZa a.1))<|wO (.res (res_Ib b))<|wP (by decide:(1000:Int)≠0)<|wP (all_le rZa a.1 rfl)<|wP (all_dt rZa a.1 rfl)<|wP (ok_Ib a.1 1 1 (w64 (1+(Int.tmod (p0.length:Int) 1000))) b i)<|wL rZa b<|v4 d<|v4 d<|v1 eF<|wN a.1.length<|z0) (by kernel_rfl)
 ·exact ge (wO (.rows (List.map rZa a.1))<|wO (.res (res_Sc e))<|wP (all_le rZa a.1 rfl)<|wP (all_dt rZa a.1 rfl)<|wP (ok_Sc a.1 e g)<|u1 (not_t f)<|z0) (congrArg res_laws_FnRetimed (qj hm)) (by kernel_rfl)
theorem ok_laws_FnRetimed_0 (p0:LI) (r:Bool) (hm:m_laws_FnRetimed_0 p0=some r):EE c_laws_FnRetimed_0 K_laws_FnRetimed_0 (s_laws_FnRetimed_0 p0) (Post vf_laws_FnRetimed (res_laws_FnRetimed r)):=by
 obtain ⟨g,hm⟩|⟨g,hm⟩:=split_ite hm
 ·exact ge (wL (rI .u8) p0<|u1 g<|z0) (congrArg res_laws_FnRetimed (qj hm)) (by kernel_rfl)
 ·obtain ⟨a,h,hm⟩:=bind_some hm
  obtain ⟨b,i,hm⟩:=bind_some hm
  obtain ⟨c,j,hm⟩:=bind_some hm
  obtain ⟨f,k,hm⟩:=bind_some hm
  obtain ⟨d,hm⟩|⟨d,hm⟩:=split_ite hm
  ·obtain ⟨e,hm⟩|⟨e,hm⟩:=split_ite hm
   ·obtain ⟨l,n,hm⟩:=bind_some hm
    obtain ⟨m,hm⟩|⟨m,hm⟩:=split_ite hm
    ·exact gw (ok_laws_FnRetimed_22 _ _ _ r hm) (wL (rI .u8) p0<|v1 g<|wO (.res (res_Sa a))<|wP (ok_Sa p0 a h)<|wL rZa a.1<|wO (.rows (List.map rZa a.1))<|wO (.res (res_Ib b))<|wP (all_le rZa a.1 rfl)<|wP (all_dt rZa a.1 rfl)<|wP (ok_Ib a.1 a.2.1 a.2.2.1 a.2.2.2 b i)<|wL rZa b<|wO (.rows (List.map rZa a.1))<|wO (.res (res_Sd c))<|wP (all_le rZa a.1 rfl)<|wP (all_dt rZa a.1 rfl)<|wP (ok_Sd a.1 a.2.1 a.2.2.1 a.2.2.2 c j)<|wL rZa c<|wO (.rows (List.map rZa b))<|wO (.rows (List.map rZa c))<|wO (.res (res_Se f))<|wP (all_le rZa b rfl)<|wP (all_dt rZa b rfl)<|wP (all_le rZa c rfl)<|wP (all_dt rZa c rfl)<|wP (ok_Se b c f k)<|v4 (not_f d)<|u2 e<|wO (.rows (List.map rZa b))<|wO (.res (res_Ia l))<|wP (all_le rZa b rfl)<|wP (all_dt rZa b rfl)<|wP (ok_Ia b l n)<|u1 e<|v1 (not_f d)<|u1 e<|v1 (not_f d)<|v1 (not_f m)<|wN a.1.length<|wN b.length<|z0) (by kernel_rfl)
    ·exact ge (wL (rI .u8) p0<|v1 g<|wO (.res (res_Sa a))<|wP (ok_Sa p0 a h)<|wL rZa a.1<|wO (.rows (List.map rZa a.1))<|wO (.res (res_Ib b))<|wP (all_le rZa a.1 rfl)<|wP (all_dt rZa a.1 rfl)<|wP (ok_Ib a.1 a.2.1 a.2.2.1 a.2.2.2 b i)<|wL rZa b<|wO (.rows (List.map rZa a.1))<|wO (.res (res_Sd c))<|wP (all_le rZa a.1 rfl)<|wP (all_dt rZa a.1 rfl)<|wP (ok_Sd a.1 a.2.1 a.2.2.1 a.2.2.2 c j)<|wL rZa c<|wO (.rows (List.map rZa b))<|wO (.rows (List.map rZa c))<|wO (.res (res_Se f))<|wP (all_le rZa b rfl)<|wP (all_dt rZa b rfl)<|wP (all_le rZa c rfl)<|wP (all_dt rZa c rfl)<|wP (ok_Se b c f k)<|v4 (not_f d)<|u2 e<|wO (.rows (List.map rZa b))<|wO (.res (res_Ia l))<|wP (all_le rZa b rfl)<|wP (all_dt rZa b rfl)<|wP (ok_Ia b l n)<|u1 e<|v1 (not_f d)<|u1 e<|v1 (not_f d)<|u1 (not_t m)<|z0) (congrArg res_laws_FnRetimed (qj hm)) (by kernel_rfl)
   ·exact gw (ok_laws_FnRetimed_22 _ _ _ r hm) (wL (rI .u8) p0<|v1 g<|wO (.res (res_Sa a))<|wP (ok_Sa p0 a h)<|wL rZa a.1<|wO (.rows (List.map rZa a.1))<|wO (.res (res_Ib b))<|wP (all_le rZa a.1 rfl)<|wP (all_dt rZa a.1 rfl)<|wP (ok_Ib a.1 a.2.1 a.2.2.1 a.2.2.2 b i)<|wL rZa b<|wO (.rows (List.map rZa a.1))<|wO (.res (res_Sd c))<|wP (all_le rZa a.1 rfl)<|wP (all_dt rZa a.1 rfl)<|wP (ok_Sd a.1 a.2.1 a.2.2.1 a.2.2.2 c j)<|wL rZa c<|wO (.rows (List.map rZa b))<|wO (.rows (List.map rZa c))<|wO (.res (res_Se f))<|wP (all_le rZa b rfl)<|wP (all_dt rZa b rfl)<|wP (all_le rZa c rfl)<|wP (all_dt rZa c rfl)<|wP (ok_Se b c f k)<|v4 (not_f d)<|v3 e<|v1 (not_f d)<|v1 e<|v1 (not_f d)<|v1 eF<|wN a.1.length<|wN b.length<|z0) (by kernel_rfl)
  ·exact ge (wL (rI .u8) p0<|v1 g<|wO (.res (res_Sa a))<|wP (ok_Sa p0 a h)<|wL rZa a.1<|wO (.rows (List.map rZa a.1))<|wO (.res (res_Ib b))<|wP (all_le rZa a.1 rfl)<|wP (all_dt rZa a.1 rfl)<|wP (ok_Ib a.1 a.2.1 a.2.2.1 a.2.2.2 b i)<|wL rZa b<|wO (.rows (List.map rZa a.1))<|wO (.res (res_Sd c))<|wP (all_le rZa a.1 rfl)<|wP (all_dt rZa a.1 rfl)<|wP (ok_Sd a.1 a.2.1 a.2.2.1 a.2.2.2 c j)<|wL rZa c<|wO (.rows (List.map rZa b))<|wO (.rows (List.map rZa c))<|wO (.res (res_Se f))<|wP (all_le rZa b rfl)<|wP (all_dt rZa b rfl)<|wP (all_le rZa c rfl)<|wP (all_dt rZa c rfl)<|wP (ok_Se b c f k)<|u4 (not_t d)<|u2 (not_t d)<|u1 eT<|z0) (congrArg res_laws_FnRetimed (qj hm)) (by kernel_rfl)
theorem ok_laws_FnRetimed (p0:LI) (r:Bool) (hm:m_laws_FnRetimed p0=some r):Runs ext tbl 6 (as_laws_FnRetimed p0) (res_laws_FnRetimed r):=
 runs_of (vf:=vf_laws_FnRetimed) (by kernel_rfl) rfl (st:=(enter vf_laws_FnRetimed (as_laws_FnRetimed p0)).getD default) (by kernel_rfl) (go_on [] 1000 J0 (ok_laws_FnRetimed_0 p0 r hm) (by kernel_rfl))
end Go.Proofs.V

namespace Go.Proofs.V
open Go
theorem all_fi:∀ x ∈ tblL,x.2.given=false→funcIs Go.Proofs.Try.prog tbl x.1 x.2=true:=by
 simp only [tblL,List.forall_mem_cons]
 exact ⟨(fun _=>fi_Sn),(fun _=>fi_Sp),(fun _=>fi_Sq),(fun _=>fi_Sj),(fun _=>fi_Sm),(fun _=>fi_So),(fun _=>fi_Sh),(fun _=>fi_Sa),(fun _=>fi_Ig),(fun h=>by cases h),(fun _=>fi_Ie),(fun _=>fi_Id),(fun _=>fi_Ia),(fun _=>fi_If),(fun _=>fi_Ib),(fun _=>fi_Sl),(fun _=>fi_Sg),(fun _=>fi_Sk),(fun _=>fi_Sc),(fun _=>fi_Si),(fun _=>fi_Sd),(fun _=>fi_Se),(fun _=>fi_Sb),(fun _=>fi_Ic),(fun _=>fi_Sf),(fun _=>fi_La),(fun _=>fi_laws_FnRetimed),fun _ h=>by cases h⟩
theorem all_given:∀ x ∈ tblL,x.2.given=true→∀ ars res st0,enter x.2 ars=some st0→ext x.1 ars=some res→callable Go.Proofs.Try.prog x.1=true∧Does gI Go.Proofs.Try.prog x.1 x.2 st0 res:=by
 simp only [tblL,List.forall_mem_cons]
 exact ⟨(fun h=>by cases h),(fun h=>by cases h),(fun h=>by cases h),(fun h=>by cases h),(fun h=>by cases h),(fun h=>by cases h),(fun h=>by cases h),(fun h=>by cases h),(fun h=>by cases h),(fun _=>gv_strings_Contains),(fun h=>by cases h),(fun h=>by cases h),(fun h=>by cases h),(fun h=>by cases h),(fun h=>by cases h),(fun h=>by cases h),(fun h=>by cases h),(fun h=>by cases h),(fun h=>by cases h),(fun h=>by cases h),(fun h=>by cases h),(fun h=>by cases h),(fun h=>by cases h),(fun h=>by cases h),(fun h=>by cases h),(fun h=>by cases h),(fun h=>by cases h),fun _ h=>by cases h⟩
theorem sound:∀ n,FSound gI Go.Proofs.Try.prog tbl (vrun ext tbl n):=table_sound (fun _=>rfl) ext all_given all_fi
def lawPs:List (Bool×List Ty):=[(false,[.sl [.int .u8]])]
theorem pure_law:LawPure ext tbl 6 lawPs:=by
 intro tss hl hw
 match tss,hl with
 | [t0],_=>
  obtain ⟨x0,rfl,w0⟩ :=(dec_sl (dec_int .u8)) t0 (hw 0 _ t0 rfl rfl)
  exact ok_laws_FnRetimed x0 true (final_FnRetimed x0 w0)
end Go.Proofs.V
