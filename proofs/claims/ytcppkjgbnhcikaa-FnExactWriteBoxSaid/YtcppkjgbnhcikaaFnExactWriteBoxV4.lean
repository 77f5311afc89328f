import Derived.Test.YtcppkjgbnhcikaaFnExactWriteBoxV3
import Derived.KernelRfl
set_option linter.unusedVariables false
set_option maxRecDepth 100000
namespace Go.Proofs.V
open Go
abbrev EE (c : VC) (K : List Fr) (s : St) (Q : VX → St → Prop) : Prop := EvU ext tbl (.c c) K s Q
def as_Lq (p0:Za) (p1:Int):List Arg:=[.v true [.lit (vI p0.kind),.lit (vI p0.scale),.lit (.string p0.name)],.v false [.lit (vI p1)]]
def res_Lq (r:Int):FRes:=⟨[.v false [.lit (vI r)]],[]⟩
def as_Lr (p0:LZ) (p1:Int):List Arg:=[.v false [.sl (p0.map rZa)],.v false [.lit (vI p1)]]
def res_Lr (r:Int):FRes:=⟨[.v false [.lit (vI r)]],[]⟩
def as_Ln (p0:LI) (p1:Int):List Arg:=[.v false [.sl (p0.map (rI .u8))],.v false [.lit (vI p1)]]
def res_Ln (r:Int):FRes:=⟨[.v false [.lit (vI r)]],[]⟩
def as_Lo (p0:Zb) (p1:Int):List Arg:=[.v true [.lit (vI p0.track),.lit (vI p0.time),.lit (vI p0.span),.lit (.bool p0.key),.sl (p0.data.map (rI .u8))],.v false [.lit (vI p1)]]
def res_Lo (r:Int):FRes:=⟨[.v false [.lit (vI r)]],[]⟩
def as_Lp (p0:LZa) (p1:Int):List Arg:=[.v false [.sl (p0.map rZb)],.v false [.lit (vI p1)]]
def res_Lp (r:Int):FRes:=⟨[.v false [.lit (vI r)]],[]⟩
def as_Lm (p0:Zc) (p1:Int):List Arg:=[.v true [.sl (p0.tracks.map rZa),.sl (p0.packets.map rZb)],.v false [.lit (vI p1)]]
def res_Lm (r:Int):FRes:=⟨[.v false [.lit (vI r)]],[]⟩
def as_Lw (p0:Za):List Arg:=[.v true [.lit (vI p0.kind),.lit (vI p0.scale),.lit (.string p0.name)]]
def res_Lw (r:Za):FRes:=⟨[.v true [.lit (vI r.kind),.lit (vI r.scale),.lit (.string r.name)]],[]⟩
def as_Lx (p0:LZ):List Arg:=[.v false [.sl (p0.map rZa)]]
def res_Lx (r:LZ):FRes:=⟨[.v false [.sl (r.map rZa)]],[]⟩
def as_Lt (p0:LI):List Arg:=[.v false [.sl (p0.map (rI .u8))]]
def res_Lt (r:LI):FRes:=⟨[.v false [.sl (r.map (rI .u8))]],[]⟩
def as_Lu (p0:Zb):List Arg:=[.v true [.lit (vI p0.track),.lit (vI p0.time),.lit (vI p0.span),.lit (.bool p0.key),.sl (p0.data.map (rI .u8))]]
def res_Lu (r:Zb):FRes:=⟨[.v true [.lit (vI r.track),.lit (vI r.time),.lit (vI r.span),.lit (.bool r.key),.sl (r.data.map (rI .u8))]],[]⟩
def as_Lv (p0:LZa):List Arg:=[.v false [.sl (p0.map rZb)]]
def res_Lv (r:LZa):FRes:=⟨[.v false [.sl (r.map rZb)]],[]⟩
def as_Ls (p0:Zc):List Arg:=[.v true [.sl (p0.tracks.map rZa),.sl (p0.packets.map rZb)]]
def res_Ls (r:Zc):FRes:=⟨[.v true [.sl (r.tracks.map rZa),.sl (r.packets.map rZb)]],[]⟩
def as_Sf (p0:ByteArray):List Arg:=[.v false [.lit (.string p0)]]
def res_Sf (r:Bool):FRes:=⟨[.v false [.lit (.bool r)]],[]⟩
def as_Sp (p0:Za):List Arg:=[.v true [.lit (vI p0.kind),.lit (vI p0.scale),.lit (.string p0.name)]]
def res_Sp (r:Bool):FRes:=⟨[.v false [.lit (.bool r)]],[]⟩
def as_Sq (p0:LZ):List Arg:=[.v false [.sl (p0.map rZa)]]
def res_Sq (r:Bool):FRes:=⟨[.v false [.lit (.bool r)]],[]⟩
def as_So (p0:Int):List Arg:=[.v false [.lit (vI p0)]]
def res_So (r:Bool):FRes:=⟨[.v false [.lit (.bool r)]],[]⟩
def as_Sn (p0:Zc):List Arg:=[.v true [.sl (p0.tracks.map rZa),.sl (p0.packets.map rZb)]]
def res_Sn (r:Bool):FRes:=⟨[.v false [.lit (.bool r)]],[]⟩
def as_Sg (p0:Zc) (p1 p2:Int):List Arg:=[.v true [.sl (p0.tracks.map rZa),.sl (p0.packets.map rZb)],.v false [.lit (vI p1)],.v false [.lit (vI p2)]]
def res_Sg (r:Bool):FRes:=⟨[.v false [.lit (.bool r)]],[]⟩
def as_Sb (p0:Zc):List Arg:=[.v true [.sl (p0.tracks.map rZa),.sl (p0.packets.map rZb)]]
def res_Sb (r:Bool):FRes:=⟨[.v false [.lit (.bool r)]],[]⟩
def as_Sc (p0:Int):List Arg:=[.v false [.lit (.int .u64 p0)]]
def res_Sc (r:LI):FRes:=⟨[.v false [.sl (r.map (rI .u8))]],[]⟩
def as_Sm (p0 p1:LI):List Arg:=[.v false [.sl (p0.map (rI .u8))],.v false [.sl (p1.map (rI .i64))]]
def res_Sm (r:LI):FRes:=⟨[.v false [.sl (r.map (rI .u8))]],[]⟩
def as_Sa (p0:LI):List Arg:=[.v false [.sl (p0.map (rI .u8))]]
def res_Sa (r:Int):FRes:=⟨[.v false [.lit (.int .u32 r)]],[]⟩
def as_Sr (p0:Int):List Arg:=[.v false [.lit (.int .u32 p0)]]
def res_Sr (r:LI):FRes:=⟨[.v false [.sl (r.map (rI .u8))]],[]⟩
def as_Sh (p0:LZ):List Arg:=[.v false [.sl (p0.map rZa)]]
def res_Sh (r:LI):FRes:=⟨[.v false [.sl (r.map (rI .u8))]],[]⟩
def as_Sl:List Arg:=[]
def res_Sl (r:LI):FRes:=⟨[.v false [.sl (r.map (rI .u8))]],[]⟩
def as_Se (p0:Bool):List Arg:=[.v false [.lit (.bool p0)]]
def res_Se (r:Int):FRes:=⟨[.v false [.lit (vI r)]],[]⟩
def as_Sk (p0:Int) (p1:LZa):List Arg:=[.v false [.lit (vI p0)],.v false [.sl (p1.map rZb)]]
def res_Sk (r:LI):FRes:=⟨[.v false [.sl (r.map (rI .u8))]],[]⟩
def as_Sj:List Arg:=[]
def res_Sj (r:LI):FRes:=⟨[.v false [.sl (r.map (rI .u8))]],[]⟩
def as_Si (p0:LZb) (p1:Int):List Arg:=[.v false [.sl (p0.map rZd)],.v false [.lit (vI p1)]]
def res_Si (r:LI):FRes:=⟨[.v false [.sl (r.map (rI .u8))]],[]⟩
def as_Sd (p0:Zc) (p1:Int):List Arg:=[.v true [.sl (p0.tracks.map rZa),.sl (p0.packets.map rZb)],.v false [.lit (vI p1)]]
def res_Sd (r:LI):FRes:=⟨[.v false [.sl (r.map (rI .u8))]],[]⟩
def as_Ik (p0:Za):List Arg:=[.v true [.lit (vI p0.kind),.lit (vI p0.scale),.lit (.string p0.name)]]
def res_Ik (r:Bool):FRes:=⟨[.v false [.lit (.bool r)]],[]⟩
def as_Ij (p0:Int):List Arg:=[.v false [.lit (vI p0)]]
def res_Ij (r:Bool):FRes:=⟨[.v false [.lit (.bool r)]],[]⟩
def as_Ii (p0:Zc):List Arg:=[.v true [.sl (p0.tracks.map rZa),.sl (p0.packets.map rZb)]]
def res_Ii (r:Bool):FRes:=⟨[.v false [.lit (.bool r)]],[]⟩
def as_Ig (p0:Zc) (p1 p2:Int):List Arg:=[.v true [.sl (p0.tracks.map rZa),.sl (p0.packets.map rZb)],.v false [.lit (vI p1)],.v false [.lit (vI p2)]]
def res_Ig (r:Bool):FRes:=⟨[.v false [.lit (.bool r)]],[]⟩
def as_Ib (p0:Zc):List Arg:=[.v true [.sl (p0.tracks.map rZa),.sl (p0.packets.map rZb)]]
def res_Ib (r:Bool):FRes:=⟨[.v false [.lit (.bool r)]],[]⟩
def as_Ic (p0:Int):List Arg:=[.v false [.lit (.int .u64 p0)]]
def res_Ic (r:LI):FRes:=⟨[.v false [.sl (r.map (rI .u8))]],[]⟩
def as_Ie (p0:Int) (p1:LI):List Arg:=[.v false [.lit (vI p0)],.m (.pt [.sl (p1.map (rI .u8))])]
def res_Ie (r:LI):FRes:=⟨[],[.pt [.sl (r.map (rI .u8))]]⟩
def as_Ia (p0:LI):List Arg:=[.v false [.sl (p0.map (rI .u8))]]
def res_Ia (r:Int):FRes:=⟨[.v false [.lit (.int .u32 r)]],[]⟩
def as_Ih (p0:Int):List Arg:=[.v false [.lit (vI p0)]]
def res_Ih (r:LI):FRes:=⟨[.v false [.sl (r.map (rI .u8))]],[]⟩
def as_If (p0:Int) (p1:LI):List Arg:=[.v false [.lit (vI p0)],.m (.pt [.sl (p1.map (rI .u8))])]
def res_If (r:LI):FRes:=⟨[],[.pt [.sl (r.map (rI .u8))]]⟩
def as_Id (p0:Zc) (p1:Int):List Arg:=[.v true [.sl (p0.tracks.map rZa),.sl (p0.packets.map rZb)],.v false [.lit (vI p1)]]
def res_Id (r:LI):FRes:=⟨[.v false [.sl (r.map (rI .u8))]],[]⟩
def as_Lb (p0 p1:LI):List Arg:=[.v false [.sl (p0.map (rI .u8))],.v false [.sl (p1.map (rI .u8))]]
def res_Lb (r:Bool):FRes:=⟨[.v false [.lit (.bool r)]],[]⟩
def as_Le (p0 p1:Za):List Arg:=[.v true [.lit (vI p0.kind),.lit (vI p0.scale),.lit (.string p0.name)],.v true [.lit (vI p1.kind),.lit (vI p1.scale),.lit (.string p1.name)]]
def res_Le (r:Bool):FRes:=⟨[.v false [.lit (.bool r)]],[]⟩
def as_Lf (p0 p1:LZ):List Arg:=[.v false [.sl (p0.map rZa)],.v false [.sl (p1.map rZa)]]
def res_Lf (r:Bool):FRes:=⟨[.v false [.lit (.bool r)]],[]⟩
def as_Lc (p0 p1:Zb):List Arg:=[.v true [.lit (vI p0.track),.lit (vI p0.time),.lit (vI p0.span),.lit (.bool p0.key),.sl (p0.data.map (rI .u8))],.v true [.lit (vI p1.track),.lit (vI p1.time),.lit (vI p1.span),.lit (.bool p1.key),.sl (p1.data.map (rI .u8))]]
def res_Lc (r:Bool):FRes:=⟨[.v false [.lit (.bool r)]],[]⟩
def as_Ld (p0 p1:LZa):List Arg:=[.v false [.sl (p0.map rZb)],.v false [.sl (p1.map rZb)]]
def res_Ld (r:Bool):FRes:=⟨[.v false [.lit (.bool r)]],[]⟩
def as_La (p0 p1:Zc):List Arg:=[.v true [.sl (p0.tracks.map rZa),.sl (p0.packets.map rZb)],.v true [.sl (p1.tracks.map rZa),.sl (p1.packets.map rZb)]]
def res_La (r:Bool):FRes:=⟨[.v false [.lit (.bool r)]],[]⟩
def as_Lk (p0:Int):List Arg:=[.v false [.lit (vI p0)]]
def res_Lk (r:ByteArray):FRes:=⟨[.v false [.lit (.string r)]],[]⟩
def as_Ll (p0:LZ) (p1:Int):List Arg:=[.m (.sl (p0.map rZa)),.v false [.lit (vI p1)]]
def res_Ll (r:Int×LZ):FRes:=⟨[.v false [.lit (vI r.1)]],[.sl (r.2.map rZa)]⟩
def as_Li (p0:LI) (p1:Int):List Arg:=[.m (.sl (p0.map (rI .u8))),.v false [.lit (vI p1)]]
def res_Li (r:Int×LI):FRes:=⟨[.v false [.lit (vI r.1)]],[.sl (r.2.map (rI .u8))]⟩
def as_Lj (p0:LZa) (p1:Int):List Arg:=[.m (.sl (p0.map rZb)),.v false [.lit (vI p1)]]
def res_Lj (r:Int×LZa):FRes:=⟨[.v false [.lit (vI r.1)]],[.sl (r.2.map rZb)]⟩
def as_Lh (p0:Zc) (p1:Int):List Arg:=[.v true [.sl (p0.tracks.map rZa),.sl (p0.packets.map rZb)],.v false [.lit (vI p1)]]
def res_Lh (r:Int×Zc):FRes:=⟨[.v false [.lit (vI r.1)]],[.sl (r.2.tracks.map rZa),.sl (r.2.packets.map rZb)]⟩
def as_Lg (p0:LI) (p1:Int):List Arg:=[.v false [.sl (p0.map (rI .u8))],.v false [.lit (vI p1)]]
def res_Lg (r:Int):FRes:=⟨[.v false [.lit (vI r)]],[]⟩
def as_laws_FnExactWriteBox (p0:Zc) (p1:Int):List Arg:=[.v true [.sl (p0.tracks.map rZa),.sl (p0.packets.map rZb)],.v false [.lit (vI p1)]]
def res_laws_FnExactWriteBox (r:Bool):FRes:=⟨[.v false [.lit (.bool r)]],[]⟩
def K_Lq_0:List Fr:=[]
def s_Lq_0 (p0:Za) (p1:Int):St:=
 ⟨mkSl 13 [(0,.v true [cI p0.kind,cI p0.scale,.lit (.string p0.name)]),(1,sI p1)],[],[]⟩
def K_Lr_35:List Fr:=[]
def s_Lr_35 (a:Int):St:=
 ⟨mkSl 27 [(1,sI a)],[],[]⟩
def K_Lr_17:List Fr:=[.lp [0,1,5] c_Lr_17,.bk 0,.sq (.kp [1] c_Lr_35)]
def s_Lr_17 (p0:LZ) (a b:Int):St:=
 ⟨mkSl 27 [(0,.v false [.ro q3 (p0.map rZa)]),(1,sI a),(5,sI b)],[],[]⟩
def K_Lr_0:List Fr:=[]
def s_Lr_0 (p0:LZ) (p1:Int):St:=
 ⟨mkSl 27 [(0,.v false [.ro q3 (p0.map rZa)]),(1,sI p1)],[],[]⟩
def K_Ln_0:List Fr:=[]
def s_Ln_0 (p0:LI) (p1:Int):St:=
 ⟨mkSl 12 [(0,.v false [.ro [.sc] (p0.map (rI .u8))]),(1,sI p1)],[],[]⟩
def K_Lo_0:List Fr:=[]
def s_Lo_0 (p0:Zb) (p1:Int):St:=
 ⟨mkSl 12 [(0,.v true [cI p0.track,cI p0.time,cI p0.span,cB p0.key,.ro [.sc] (p0.data.map (rI .u8))]),(1,sI p1)],[],[]⟩
def K_Lp_35:List Fr:=[]
def s_Lp_35 (a:Int):St:=
 ⟨mkSl 27 [(1,sI a)],[],[]⟩
def K_Lp_17:List Fr:=[.lp [0,1,5] c_Lp_17,.bk 0,.sq (.kp [1] c_Lp_35)]
def s_Lp_17 (p0:LZa) (a b:Int):St:=
 ⟨mkSl 27 [(0,.v false [.ro q5 (p0.map rZb)]),(1,sI a),(5,sI b)],[],[]⟩
def K_Lp_0:List Fr:=[]
def s_Lp_0 (p0:LZa) (p1:Int):St:=
 ⟨mkSl 27 [(0,.v false [.ro q5 (p0.map rZb)]),(1,sI p1)],[],[]⟩
def K_Lm_0:List Fr:=[]
def s_Lm_0 (p0:Zc) (p1:Int):St:=
 ⟨mkSl 18 [(0,.v true [.ro q3 (p0.tracks.map rZa),.ro q5 (p0.packets.map rZb)]),(1,sI p1)],[],[]⟩
def K_Lw_0:List Fr:=[]
def s_Lw_0 (p0:Za):St:=
 ⟨mkSl 14 [(0,.v true [cI p0.kind,cI p0.scale,.lit (.string p0.name)])],[],[]⟩
def K_Lx_19:List Fr:=[]
def s_Lx_19 (a:LZ):St:=
 ⟨mkSl 23 [(3,.v false [cR 0 a])],[some ⟨q3,(List.map rZa a)⟩],[]⟩
def K_Lx_9:List Fr:=[.lp [0,3,4] c_Lx_9,.bk 0,.sq (.kp [3] c_Lx_19)]
def s_Lx_9 (p0:LZ) (b:Int) (a:LZ):St:=
 ⟨mkSl 23 [(0,.v false [.ro q3 (p0.map rZa)]),(3,.v false [cR 0 a]),(4,sI b)],[some ⟨q3,(List.map rZa a)⟩],[]⟩
def K_Lx_0:List Fr:=[]
def s_Lx_0 (p0:LZ):St:=
 ⟨mkSl 23 [(0,.v false [.ro q3 (p0.map rZa)])],[],[]⟩
def K_Lt_19:List Fr:=[]
def s_Lt_19 (a:LI):St:=
 ⟨mkSl 22 [(3,.v false [cR 0 a])],[some ⟨[.sc],(List.map (rI .u8) a)⟩],[]⟩
def K_Lt_9:List Fr:=[.lp [0,3,4] c_Lt_9,.bk 0,.sq (.kp [3] c_Lt_19)]
def s_Lt_9 (p0:LI) (b:Int) (a:LI):St:=
 ⟨mkSl 22 [(0,.v false [.ro [.sc] (p0.map (rI .u8))]),(3,.v false [cR 0 a]),(4,sI b)],[some ⟨[.sc],(List.map (rI .u8) a)⟩],[]⟩
def K_Lt_0:List Fr:=[]
def s_Lt_0 (p0:LI):St:=
 ⟨mkSl 22 [(0,.v false [.ro [.sc] (p0.map (rI .u8))])],[],[]⟩
def K_Lu_0:List Fr:=[]
def s_Lu_0 (p0:Zb):St:=
 ⟨mkSl 21 [(0,.v true [cI p0.track,cI p0.time,cI p0.span,cB p0.key,.ro [.sc] (p0.data.map (rI .u8))])],[],[]⟩
def K_Lv_19:List Fr:=[]
def s_Lv_19 (a:LZa):St:=
 ⟨mkSl 23 [(3,.v false [cR 0 a])],[some ⟨[.sc,.sc,.sc,.sc,.own [.sc]],(List.map rZb a)⟩],[]⟩
def K_Lv_9:List Fr:=[.lp [0,3,4] c_Lv_9,.bk 0,.sq (.kp [3] c_Lv_19)]
def s_Lv_9 (p0:LZa) (b:Int) (a:LZa):St:=
 ⟨mkSl 23 [(0,.v false [.ro q5 (p0.map rZb)]),(3,.v false [cR 0 a]),(4,sI b)],[some ⟨[.sc,.sc,.sc,.sc,.own [.sc]],(List.map rZb a)⟩],[]⟩
def K_Lv_0:List Fr:=[]
def s_Lv_0 (p0:LZa):St:=
 ⟨mkSl 23 [(0,.v false [.ro q5 (p0.map rZb)])],[],[]⟩
def K_Ls_0:List Fr:=[]
def s_Ls_0 (p0:Zc):St:=
 ⟨mkSl 13 [(0,.v true [.ro q3 (p0.tracks.map rZa),.ro q5 (p0.packets.map rZb)])],[],[]⟩
def K_Sf_23:List Fr:=[]
def s_Sf_23:St:=
 ⟨mkSl 20 [],[],[]⟩
def K_Sf_7:List Fr:=[.lp [0,3] c_Sf_7,.bk 0,.sq (.kp [] c_Sf_23)]
def s_Sf_7 (p0:ByteArray) (a:Int):St:=
 ⟨mkSl 20 [(0,.v false [.lit (.string p0)]),(3,sI a)],[],[]⟩
def K_Sf_0:List Fr:=[]
def s_Sf_0 (p0:ByteArray):St:=
 ⟨mkSl 20 [(0,.v false [.lit (.string p0)])],[],[]⟩
def K_Sp_0:List Fr:=[]
def s_Sp_0 (p0:Za):St:=
 ⟨mkSl 32 [(0,.v true [cI p0.kind,cI p0.scale,.lit (.string p0.name)])],[],[]⟩
def K_Sq_25:List Fr:=[]
def s_Sq_25 (p0:LZ):St:=
 ⟨mkSl 23 [(0,.v false [.ro q3 (p0.map rZa)])],[],[]⟩
def K_Sq_7:List Fr:=[.lp [0,5,6,7] c_Sq_7,.bk 0,.sq (.kp [0] c_Sq_25)]
def s_Sq_7 (p0:LZ) (a:Int):St:=
 ⟨mkSl 23 [(0,.v false [.ro q3 (p0.map rZa)]),(5,.v false [.ro q3 (p0.map rZa)]),(6,sI (p0.length:Int)),(7,sI a)],[],[]⟩
def K_Sq_0:List Fr:=[]
def s_Sq_0 (p0:LZ):St:=
 ⟨mkSl 23 [(0,.v false [.ro q3 (p0.map rZa)])],[],[]⟩
def K_So_0:List Fr:=[]
def s_So_0 (p0:Int):St:=
 ⟨mkSl 9 [(0,sI p0)],[],[]⟩
def K_Sn_62:List Fr:=[.bk 3,.sq c_Sn_73,.lp [1,3,5,32,33,34] c_Sn_36,.bk 2,.sq (.kp [] c_Sn_74)]
def s_Sn_62 (c:Int) (p0:Zc) (d:Int) (a:Zb) (b:LI):St:=
 ⟨mkSl 96 [(1,sP 0 0),(3,.v false [cR 0 b]),(5,sI c),(7,sP 1 0),(32,.v false [.ro q5 (p0.packets.map rZb)]),(33,sI (p0.packets.length:Int)),(34,sI d)],[jI b],[some [.ro q3 (p0.tracks.map rZa),.ro q5 (p0.packets.map rZb)],some [cI a.track,cI a.time,cI a.span,cB a.key,.ro [.sc] (a.data.map (rI .u8))]]⟩
def K_Sn_74:List Fr:=[]
def s_Sn_74:St:=
 ⟨mkSl 96 [],[],[]⟩
def K_Sn_36:List Fr:=[.lp [1,3,5,32,33,34] c_Sn_36,.bk 2,.sq (.kp [] c_Sn_74)]
def s_Sn_36 (p0:Zc) (b c:Int) (a:LI):St:=
 ⟨mkSl 96 [(1,sP 0 0),(3,.v false [cR 0 a]),(5,sI b),(32,.v false [.ro q5 (p0.packets.map rZb)]),(33,sI (p0.packets.length:Int)),(34,sI c)],[jI a],[some [.ro q3 (p0.tracks.map rZa),.ro q5 (p0.packets.map rZb)]]⟩
def K_Sn_29:List Fr:=[]
def s_Sn_29 (p0:Zc) (a:LI):St:=
 ⟨mkSl 96 [(1,sP 0 0),(3,.v false [cR 0 a])],[jI a],[some [.ro q3 (p0.tracks.map rZa),.ro q5 (p0.packets.map rZb)]]⟩
def K_Sn_17:List Fr:=[.lp [1,3,23,24] c_Sn_17,.bk 0,.sq (.kp [1,3] c_Sn_29)]
def s_Sn_17 (p0:Zc) (b c:Int) (a:LI):St:=
 ⟨mkSl 96 [(1,sP 0 0),(3,.v false [cR 0 a]),(23,sI b),(24,sI c)],[jI a],[some [.ro q3 (p0.tracks.map rZa),.ro q5 (p0.packets.map rZb)]]⟩
def K_Sn_0:List Fr:=[]
def s_Sn_0 (p0:Zc):St:=
 ⟨mkSl 96 [(0,.v true [.ro q3 (p0.tracks.map rZa),.ro q5 (p0.packets.map rZb)])],[],[]⟩
def K_Sg_0:List Fr:=[]
def s_Sg_0 (p0:Zc) (p1 p2:Int):St:=
 ⟨mkSl 62 [(0,.v true [.ro q3 (p0.tracks.map rZa),.ro q5 (p0.packets.map rZb)]),(1,sI p1),(2,sI p2)],[],[]⟩
def K_Sb_31:List Fr:=[]
def s_Sb_31:St:=
 ⟨mkSl 20 [],[],[]⟩
def K_Sb_15:List Fr:=[.lp [1,3] c_Sb_15,.bk 0,.sq (.kp [] c_Sb_31)]
def s_Sb_15 (p0:Zc) (a:Int):St:=
 ⟨mkSl 20 [(1,sP 0 0),(3,sI a)],[],[some [.ro q3 (p0.tracks.map rZa),.ro q5 (p0.packets.map rZb)]]⟩
def K_Sb_0:List Fr:=[]
def s_Sb_0 (p0:Zc):St:=
 ⟨mkSl 20 [(0,.v true [.ro q3 (p0.tracks.map rZa),.ro q5 (p0.packets.map rZb)])],[],[]⟩
def K_Sc_17:List Fr:=[]
def s_Sc_17 (b:Int) (a:LI):St:=
 ⟨mkSl 20 [(0,.v false [.lit (.int .u64 b)]),(3,.v false [cR 0 a])],[some ⟨[.sc],(List.map (rI .u8) a)⟩],[]⟩
def K_Sc_7:List Fr:=[.lp [0,3] c_Sc_7,.bk 0,.sq (.kp [0,3] c_Sc_17)]
def s_Sc_7 (b:Int) (a:LI):St:=
 ⟨mkSl 20 [(0,.v false [.lit (.int .u64 b)]),(3,.v false [cR 0 a])],[some ⟨[.sc],(List.map (rI .u8) a)⟩],[]⟩
def K_Sc_0:List Fr:=[]
def s_Sc_0 (p0:Int):St:=
 ⟨mkSl 20 [(0,.v false [.lit (.int .u64 p0)])],[],[]⟩
def K_Sm_19:List Fr:=[]
def s_Sm_19 (a:LI):St:=
 ⟨mkSl 20 [(0,.v false [cR 0 a])],[some ⟨[.sc],(List.map (rI .u8) a)⟩],[]⟩
def K_Sm_7:List Fr:=[.lp [0,7,8,9] c_Sm_7,.bk 0,.sq (.kp [0] c_Sm_19)]
def s_Sm_7 (p1:LI) (b:Int) (a:LI):St:=
 ⟨mkSl 20 [(0,.v false [cR 0 a]),(7,.v false [.ro [.sc] (p1.map (rI .i64))]),(8,sI (p1.length:Int)),(9,sI b)],[some ⟨[.sc],(List.map (rI .u8) a)⟩],[]⟩
def K_Sm_0:List Fr:=[]
def s_Sm_0 (p1 p0:LI):St:=
 ⟨mkSl 20 [(0,.v false [cR 0 p0]),(1,.v false [.ro [.sc] (p1.map (rI .i64))])],[some ⟨[.sc],(List.map (rI .u8) p0)⟩],[]⟩
def K_Sa_43:List Fr:=[.lp [3,8,9,10] c_Sa_9,.bk 0,.sq (.kp [3] c_Sa_44)]
def s_Sa_43 (p0:LI) (a b:Int):St:=
 ⟨mkSl 33 [(3,.v false [.lit (.int .u32 b)]),(8,.v false [.ro [.sc] (p0.map (rI .u8))]),(9,sI (p0.length:Int)),(10,sI a)],[],[]⟩
def K_Sa_25:List Fr:=[.lp [3,6,8,9,10] c_Sa_25,.bk 2,.bk 1,.sq (.kp [3,8,9,10] c_Sa_43),.lp [3,8,9,10] c_Sa_9,.bk 0,.sq (.kp [3] c_Sa_44)]
def s_Sa_25 (p0:LI) (a b c:Int):St:=
 ⟨mkSl 33 [(3,.v false [.lit (.int .u32 b)]),(6,sI c),(8,.v false [.ro [.sc] (p0.map (rI .u8))]),(9,sI (p0.length:Int)),(10,sI a)],[],[]⟩
def K_Sa_44:List Fr:=[]
def s_Sa_44 (a:Int):St:=
 ⟨mkSl 33 [(3,.v false [.lit (.int .u32 a)])],[],[]⟩
def K_Sa_9:List Fr:=[.lp [3,8,9,10] c_Sa_9,.bk 0,.sq (.kp [3] c_Sa_44)]
def s_Sa_9 (p0:LI) (a b:Int):St:=
 ⟨mkSl 33 [(3,.v false [.lit (.int .u32 a)]),(8,.v false [.ro [.sc] (p0.map (rI .u8))]),(9,sI (p0.length:Int)),(10,sI b)],[],[]⟩
def K_Sa_0:List Fr:=[]
def s_Sa_0 (p0:LI):St:=
 ⟨mkSl 33 [(0,.v false [.ro [.sc] (p0.map (rI .u8))])],[],[]⟩
def K_Sr_0:List Fr:=[]
def s_Sr_0 (p0:Int):St:=
 ⟨mkSl 15 [(0,.v false [.lit (.int .u32 p0)])],[],[]⟩
def K_Sh_27:List Fr:=[]
def s_Sh_27 (a:LI):St:=
 ⟨mkSl 44 [(3,.v false [cR 0 a])],[some ⟨[.sc],(List.map (rI .u8) a)⟩],[]⟩
def K_Sh_9:List Fr:=[.lp [3,10,11,12] c_Sh_9,.bk 0,.sq (.kp [3] c_Sh_27)]
def s_Sh_9 (p0:LZ) (b:Int) (a:LI):St:=
 ⟨mkSl 44 [(3,.v false [cR 0 a]),(10,.v false [.ro q3 (p0.map rZa)]),(11,sI (p0.length:Int)),(12,sI b)],[some ⟨[.sc],(List.map (rI .u8) a)⟩],[]⟩
def K_Sh_0:List Fr:=[]
def s_Sh_0 (p0:LZ):St:=
 ⟨mkSl 44 [(0,.v false [.ro q3 (p0.map rZa)])],[],[]⟩
def K_Sl_0:List Fr:=[]
def s_Sl_0:St:=
 ⟨mkSl 2 [],[],[]⟩
def K_Se_0:List Fr:=[]
def s_Se_0 (p0:Bool):St:=
 ⟨mkSl 4 [(0,sB p0)],[],[]⟩
def K_Sk_40:List Fr:=[]
def s_Sk_40 (a:LI):St:=
 ⟨mkSl 55 [(5,.v false [cR 0 a])],[some ⟨[.sc],(List.map (rI .u8) a)⟩],[]⟩
def K_Sk_28:List Fr:=[.lp [5,39,40,41] c_Sk_28,.bk 2,.sq (.kp [5] c_Sk_40)]
def s_Sk_28 (p1:LZa) (b:Int) (a:LI):St:=
 ⟨mkSl 55 [(5,.v false [cR 0 a]),(39,.v false [.ro q5 (p1.map rZb)]),(40,sI (p1.length:Int)),(41,sI b)],[some ⟨[.sc],(List.map (rI .u8) a)⟩],[]⟩
def K_Sk_23:List Fr:=[]
def s_Sk_23 (p1:LZa) (a:LI):St:=
 ⟨mkSl 55 [(1,.v false [.ro q5 (p1.map rZb)]),(5,.v false [cR 0 a])],[some ⟨[.sc],(List.map (rI .u8) a)⟩],[]⟩
def K_Sk_11:List Fr:=[.lp [1,5,17,18,19] c_Sk_11,.bk 0,.sq (.kp [1,5] c_Sk_23)]
def s_Sk_11 (p1:LZa) (b:Int) (a:LI):St:=
 ⟨mkSl 55 [(1,.v false [.ro q5 (p1.map rZb)]),(5,.v false [cR 0 a]),(17,.v false [.ro q5 (p1.map rZb)]),(18,sI (p1.length:Int)),(19,sI b)],[some ⟨[.sc],(List.map (rI .u8) a)⟩],[]⟩
def K_Sk_0:List Fr:=[]
def s_Sk_0 (p0:Int) (p1:LZa):St:=
 ⟨mkSl 55 [(0,sI p0),(1,.v false [.ro q5 (p1.map rZb)])],[],[]⟩
def K_Sj_0:List Fr:=[]
def s_Sj_0:St:=
 ⟨mkSl 2 [],[],[]⟩
def K_Si_23:List Fr:=[]
def s_Si_23 (p1:Int) (a:LI):St:=
 ⟨mkSl 39 [(1,sI p1),(5,.v false [cR 0 a])],[some ⟨[.sc],(List.map (rI .u8) a)⟩],[]⟩
def K_Si_11:List Fr:=[.lp [1,5,14,15,16] c_Si_11,.bk 0,.sq (.kp [1,5] c_Si_23)]
def s_Si_11 (p1:Int) (p0:LZb) (b:Int) (a:LI):St:=
 ⟨mkSl 39 [(1,sI p1),(5,.v false [cR 0 a]),(14,.v false [.ro q3 (p0.map rZd)]),(15,sI (p0.length:Int)),(16,sI b)],[some ⟨[.sc],(List.map (rI .u8) a)⟩],[]⟩
def K_Si_0:List Fr:=[]
def s_Si_0 (p0:LZb) (p1:Int):St:=
 ⟨mkSl 39 [(0,.v false [.ro q3 (p0.map rZd)]),(1,sI p1)],[],[]⟩
def K_Sd_56:List Fr:=[.bk 1,.sq c_Sd_57,.lp [1,2,5,6,7] c_Sd_19,.bk 0,.sq (.kp [5,6] c_Sd_58)]
def s_Sd_56 (p1 c d:Int) (p0:Zc) (a:LI) (b:LZb):St:=
 ⟨mkSl 88 [(1,sI p1),(2,sP 0 0),(5,.v false [cR 0 a]),(6,.v false [cR 1 b]),(7,sI c),(8,sI d)],[some ⟨[.sc],(List.map (rI .u8) a)⟩,some ⟨q3,(List.map rZd b)⟩],[some [.ro q3 (p0.tracks.map rZa),.ro q5 (p0.packets.map rZb)]]⟩
def K_Sd_40:List Fr:=[.lp [1,2,5,6,7,8,48,49,50] c_Sd_40,.bk 2,.sq (.kp [1,2,5,6,7,8] c_Sd_56),.bk 1,.sq c_Sd_57,.lp [1,2,5,6,7] c_Sd_19,.bk 0,.sq (.kp [5,6] c_Sd_58)]
def s_Sd_40 (p1 c d:Int) (p0:Zc) (a:LI) (e:LZa) (f g:Int) (b:LZb):St:=
 ⟨mkSl 88 [(1,sI p1),(2,sP 0 0),(5,.v false [cR 0 a]),(6,.v false [cR 1 b]),(7,sI c),(8,sI d),(48,.v false [.ro q5 (e.map rZb)]),(49,sI f),(50,sI g)],[some ⟨[.sc],(List.map (rI .u8) a)⟩,some ⟨q3,(List.map rZd b)⟩],[some [.ro q3 (p0.tracks.map rZa),.ro q5 (p0.packets.map rZb)]]⟩
def K_Sd_35:List Fr:=[.bk 1,.sq c_Sd_57,.lp [1,2,5,6,7] c_Sd_19,.bk 0,.sq (.kp [5,6] c_Sd_58)]
def s_Sd_35 (p1 c:Int) (p0:Zc) (a:LI) (b:LZb) (d:Int):St:=
 ⟨mkSl 88 [(1,sI p1),(2,sP 0 0),(5,.v false [cR 0 a]),(6,.v false [cR 1 b]),(7,sI c),(8,sI d)],[some ⟨[.sc],(List.map (rI .u8) a)⟩,some ⟨q3,(List.map rZd b)⟩],[some [.ro q3 (p0.tracks.map rZa),.ro q5 (p0.packets.map rZb)]]⟩
def K_Sd_58:List Fr:=[]
def s_Sd_58 (a:LI) (b:LZb):St:=
 ⟨mkSl 88 [(5,.v false [cR 0 a]),(6,.v false [cR 1 b])],[some ⟨[.sc],(List.map (rI .u8) a)⟩,some ⟨q3,(List.map rZd b)⟩],[]⟩
def K_Sd_19:List Fr:=[.lp [1,2,5,6,7] c_Sd_19,.bk 0,.sq (.kp [5,6] c_Sd_58)]
def s_Sd_19 (p1:Int) (p0:Zc) (c:Int) (a:LI) (b:LZb):St:=
 ⟨mkSl 88 [(1,sI p1),(2,sP 0 0),(5,.v false [cR 0 a]),(6,.v false [cR 1 b]),(7,sI c)],[some ⟨[.sc],(List.map (rI .u8) a)⟩,some ⟨q3,(List.map rZd b)⟩],[some [.ro q3 (p0.tracks.map rZa),.ro q5 (p0.packets.map rZb)]]⟩
def K_Sd_0:List Fr:=[]
def s_Sd_0 (p0:Zc) (p1:Int):St:=
 ⟨mkSl 88 [(0,.v true [.ro q3 (p0.tracks.map rZa),.ro q5 (p0.packets.map rZb)]),(1,sI p1)],[],[]⟩
def K_Ik_33:List Fr:=[]
def s_Ik_33:St:=
 ⟨mkSl 47 [],[],[]⟩
def K_Ik_15:List Fr:=[.lp [1,30,31] c_Ik_15,.bk 0,.sq (.kp [] c_Ik_33)]
def s_Ik_15 (p0:Za) (a:Int):St:=
 ⟨mkSl 47 [(1,sP 0 0),(30,sI (p0.name.size:Int)),(31,sI a)],[],[some [cI p0.kind,cI p0.scale,.lit (.string p0.name)]]⟩
def K_Ik_0:List Fr:=[]
def s_Ik_0 (p0:Za):St:=
 ⟨mkSl 47 [(0,.v true [cI p0.kind,cI p0.scale,.lit (.string p0.name)])],[],[]⟩
def K_Ij_0:List Fr:=[]
def s_Ij_0 (p0:Int):St:=
 ⟨mkSl 9 [(0,sI p0)],[],[]⟩
def K_Ii_77:List Fr:=[.bk 5,.sq c_Ii_80,.lp [1,5,6,51,52,53] c_Ii_59,.bk 4,.sq (.kp [5] c_Ii_81)]
def s_Ii_77 (c:Int) (p0:Zc) (d:Int) (a:Zb) (b:LI):St:=
 ⟨mkSl 117 [(1,sP 0 0),(5,sI c),(6,.v false [cR 0 b]),(9,sP 1 0),(51,.v false [.ro q5 (p0.packets.map rZb)]),(52,sI (p0.packets.length:Int)),(53,sI d)],[jI b],[some [.ro q3 (p0.tracks.map rZa),.ro q5 (p0.packets.map rZb)],some [cI a.track,cI a.time,cI a.span,cB a.key,.ro [.sc] (a.data.map (rI .u8))]]⟩
def K_Ii_81:List Fr:=[]
def s_Ii_81 (a:Int):St:=
 ⟨mkSl 117 [(5,sI a)],[],[]⟩
def K_Ii_59:List Fr:=[.lp [1,5,6,51,52,53] c_Ii_59,.bk 4,.sq (.kp [5] c_Ii_81)]
def s_Ii_59 (p0:Zc) (b c:Int) (a:LI):St:=
 ⟨mkSl 117 [(1,sP 0 0),(5,sI b),(6,.v false [cR 0 a]),(51,.v false [.ro q5 (p0.packets.map rZb)]),(52,sI (p0.packets.length:Int)),(53,sI c)],[jI a],[some [.ro q3 (p0.tracks.map rZa),.ro q5 (p0.packets.map rZb)]]⟩
def K_Ii_54:List Fr:=[]
def s_Ii_54 (p0:Zc) (a:LI):St:=
 ⟨mkSl 117 [(1,sP 0 0),(5,sI 0),(6,.v false [cR 0 a])],[jI a],[some [.ro q3 (p0.tracks.map rZa),.ro q5 (p0.packets.map rZb)]]⟩
def K_Ii_42:List Fr:=[.lp [1,5,6,42,43] c_Ii_42,.bk 2,.sq (.kp [1,5,6] c_Ii_54)]
def s_Ii_42 (p0:Zc) (b c:Int) (a:LI):St:=
 ⟨mkSl 117 [(1,sP 0 0),(5,sI 0),(6,.v false [cR 0 a]),(42,sI b),(43,sI c)],[jI a],[some [.ro q3 (p0.tracks.map rZa),.ro q5 (p0.packets.map rZb)]]⟩
def K_Ii_33:List Fr:=[]
def s_Ii_33 (p0:Zc):St:=
 ⟨mkSl 117 [(1,sP 0 0)],[],[some [.ro q3 (p0.tracks.map rZa),.ro q5 (p0.packets.map rZb)]]⟩
def K_Ii_15:List Fr:=[.lp [1,27,28,29] c_Ii_15,.bk 0,.sq (.kp [1] c_Ii_33)]
def s_Ii_15 (p0:Zc) (a:Int):St:=
 ⟨mkSl 117 [(1,sP 0 0),(27,.v false [.ro q3 (p0.tracks.map rZa)]),(28,sI (p0.tracks.length:Int)),(29,sI a)],[],[some [.ro q3 (p0.tracks.map rZa),.ro q5 (p0.packets.map rZb)]]⟩
def K_Ii_0:List Fr:=[]
def s_Ii_0 (p0:Zc):St:=
 ⟨mkSl 117 [(0,.v true [.ro q3 (p0.tracks.map rZa),.ro q5 (p0.packets.map rZb)])],[],[]⟩
def K_Ig_0:List Fr:=[]
def s_Ig_0 (p0:Zc) (p1 p2:Int):St:=
 ⟨mkSl 60 [(0,.v true [.ro q3 (p0.tracks.map rZa),.ro q5 (p0.packets.map rZb)]),(1,sI p1),(2,sI p2)],[],[]⟩
def K_Ib_31:List Fr:=[]
def s_Ib_31:St:=
 ⟨mkSl 19 [],[],[]⟩
def K_Ib_15:List Fr:=[.lp [1,3] c_Ib_15,.bk 0,.sq (.kp [] c_Ib_31)]
def s_Ib_15 (p0:Zc) (a:Int):St:=
 ⟨mkSl 19 [(1,sP 0 0),(3,sI a)],[],[some [.ro q3 (p0.tracks.map rZa),.ro q5 (p0.packets.map rZb)]]⟩
def K_Ib_0:List Fr:=[]
def s_Ib_0 (p0:Zc):St:=
 ⟨mkSl 19 [(0,.v true [.ro q3 (p0.tracks.map rZa),.ro q5 (p0.packets.map rZb)])],[],[]⟩
def K_Ic_17:List Fr:=[]
def s_Ic_17 (b:Int) (a:LI):St:=
 ⟨mkSl 19 [(0,.v false [.lit (.int .u64 b)]),(3,.v false [cR 0 a])],[some ⟨[.sc],(List.map (rI .u8) a)⟩],[]⟩
def K_Ic_7:List Fr:=[.lp [0,3] c_Ic_7,.bk 0,.sq (.kp [0,3] c_Ic_17)]
def s_Ic_7 (b:Int) (a:LI):St:=
 ⟨mkSl 19 [(0,.v false [.lit (.int .u64 b)]),(3,.v false [cR 0 a])],[some ⟨[.sc],(List.map (rI .u8) a)⟩],[]⟩
def K_Ic_0:List Fr:=[]
def s_Ic_0 (p0:Int):St:=
 ⟨mkSl 19 [(0,.v false [.lit (.int .u64 p0)])],[],[]⟩
def K_Ie_0:List Fr:=[]
def s_Ie_0 (p0:Int) (p1:LI):St:=
 ⟨mkSl 8 [(0,sI p0),(1,sP 0 0)],[some ⟨[.sc],(List.map (rI .u8) p1)⟩],[some [cR 0 p1]]⟩
def K_Ia_35:List Fr:=[.lp [3,6,7,8] c_Ia_9,.bk 0,.sq (.kp [3] c_Ia_36)]
def s_Ia_35 (p0:LI) (a b:Int):St:=
 ⟨mkSl 28 [(3,.v false [.lit (.int .u32 b)]),(6,.v false [.ro [.sc] (p0.map (rI .u8))]),(7,sI (p0.length:Int)),(8,sI a)],[],[]⟩
def K_Ia_25:List Fr:=[.lp [3,6,7,8,16] c_Ia_25,.bk 2,.bk 1,.sq (.kp [3,6,7,8] c_Ia_35),.lp [3,6,7,8] c_Ia_9,.bk 0,.sq (.kp [3] c_Ia_36)]
def s_Ia_25 (p0:LI) (a b c:Int):St:=
 ⟨mkSl 28 [(3,.v false [.lit (.int .u32 b)]),(6,.v false [.ro [.sc] (p0.map (rI .u8))]),(7,sI (p0.length:Int)),(8,sI a),(16,sI c)],[],[]⟩
def K_Ia_36:List Fr:=[]
def s_Ia_36 (a:Int):St:=
 ⟨mkSl 28 [(3,.v false [.lit (.int .u32 a)])],[],[]⟩
def K_Ia_9:List Fr:=[.lp [3,6,7,8] c_Ia_9,.bk 0,.sq (.kp [3] c_Ia_36)]
def s_Ia_9 (p0:LI) (a b:Int):St:=
 ⟨mkSl 28 [(3,.v false [.lit (.int .u32 a)]),(6,.v false [.ro [.sc] (p0.map (rI .u8))]),(7,sI (p0.length:Int)),(8,sI b)],[],[]⟩
def K_Ia_0:List Fr:=[]
def s_Ia_0 (p0:LI):St:=
 ⟨mkSl 28 [(0,.v false [.ro [.sc] (p0.map (rI .u8))])],[],[]⟩
def K_Ih_0:List Fr:=[]
def s_Ih_0 (p0:Int):St:=
 ⟨mkSl 15 [(0,sI p0)],[],[]⟩
def K_If_0:List Fr:=[]
def s_If_0 (p0:Int) (p1:LI):St:=
 ⟨mkSl 11 [(0,sI p0),(1,sP 0 0)],[some ⟨[.sc],(List.map (rI .u8) p1)⟩],[some [cR 0 p1]]⟩
def K_Id_105:List Fr:=[.lp [1,2,5,6,7,10,11,12,13,107,108,109] c_Id_69,.bk 4,.sq (.kp [1,2,5,6,7,10,11,12,13] c_Id_106),.bk 3,.sq c_Id_124,.lp [1,2,5,6,7,10,11] c_Id_46,.bk 2,.sq (.kp [5,6,7,10] c_Id_125)]
def s_Id_105 (p1 c:Int) (d:LI) (e f:LZa) (g h:Int) (p0:Zc) (a:LZb) (b:LI):St:=
 ⟨mkSl 196 [(1,sI p1),(2,sP 0 0),(5,sP 1 0),(6,.v false [.clo 55 [1]]),(7,.v false [.clo 57 [1]]),(10,.v false [cR 0 a]),(11,sI c),(12,sI (d.length:Int)),(13,.v false [.ro q5 (e.map rZb)]),(107,.v false [.ro q5 (f.map rZb)]),(108,sI g),(109,sI h)],[some ⟨q3,(List.map rZd a)⟩,some ⟨[.sc],(List.map (rI .u8) b)⟩],[some [.ro q3 (p0.tracks.map rZa),.ro q5 (p0.packets.map rZb)],some [cR 1 b]]⟩
def K_Id_93:List Fr:=[.lp [1,2,5,6,7,10,11,12,13,107,108,109,134,135,136] c_Id_93,.bk 6,.bk 5,.sq (.kp [1,2,5,6,7,10,11,12,13,107,108,109] c_Id_105),.lp [1,2,5,6,7,10,11,12,13,107,108,109] c_Id_69,.bk 4,.sq (.kp [1,2,5,6,7,10,11,12,13] c_Id_106),.bk 3,.sq c_Id_124,.lp [1,2,5,6,7,10,11] c_Id_46,.bk 2,.sq (.kp [5,6,7,10] c_Id_125)]
def s_Id_93 (p1 d:Int) (e:LI) (f g:LZa) (h i:Int) (p0:Zc) (a:LZb) (j:Int) (b c:LI):St:=
 ⟨mkSl 196 [(1,sI p1),(2,sP 0 0),(5,sP 1 0),(6,.v false [.clo 55 [1]]),(7,.v false [.clo 57 [1]]),(10,.v false [cR 0 a]),(11,sI d),(12,sI (e.length:Int)),(13,.v false [.ro q5 (f.map rZb)]),(107,.v false [.ro q5 (g.map rZb)]),(108,sI h),(109,sI i),(134,.v false [cR 1 b]),(135,sI 5),(136,sI j)],[some ⟨q3,(List.map rZd a)⟩,jI b,some ⟨[.sc],(List.map (rI .u8) c)⟩],[some [.ro q3 (p0.tracks.map rZa),.ro q5 (p0.packets.map rZb)],some [cR 2 c]]⟩
def K_Id_89:List Fr:=[.bk 5,.sq (.kp [1,2,5,6,7,10,11,12,13,107,108,109] c_Id_105),.lp [1,2,5,6,7,10,11,12,13,107,108,109] c_Id_69,.bk 4,.sq (.kp [1,2,5,6,7,10,11,12,13] c_Id_106),.bk 3,.sq c_Id_124,.lp [1,2,5,6,7,10,11] c_Id_46,.bk 2,.sq (.kp [5,6,7,10] c_Id_125)]
def s_Id_89 (p1 d:Int) (e:LI) (f g:LZa) (h i:Int) (p0:Zc) (a:Zb) (b:LI) (j:Int) (c:LZb):St:=
 ⟨mkSl 196 [(1,sI p1),(2,sP 0 0),(5,sP 1 0),(6,.v false [.clo 55 [1]]),(7,.v false [.clo 57 [1]]),(10,.v false [cR 0 c]),(11,sI d),(12,sI (e.length:Int)),(13,.v false [.ro q5 (f.map rZb)]),(15,sP 2 0),(16,sI j),(107,.v false [.ro q5 (g.map rZb)]),(108,sI h),(109,sI i)],[some ⟨q3,(List.map rZd c)⟩,some ⟨[.sc],(List.map (rI .u8) b)⟩],[some [.ro q3 (p0.tracks.map rZa),.ro q5 (p0.packets.map rZb)],some [cR 1 b],some [cI a.track,cI a.time,cI a.span,cB a.key,.ro [.sc] (a.data.map (rI .u8))]]⟩
def K_Id_123:List Fr:=[.bk 3,.sq c_Id_124,.lp [1,2,5,6,7,10,11] c_Id_46,.bk 2,.sq (.kp [5,6,7,10] c_Id_125)]
def s_Id_123 (p1 c:Int) (d:LI) (p0:Zc) (a:LZb) (b:LI):St:=
 ⟨mkSl 196 [(1,sI p1),(2,sP 0 0),(5,sP 1 0),(6,.v false [.clo 55 [1]]),(7,.v false [.clo 57 [1]]),(10,.v false [cR 0 a]),(11,sI c),(12,sI (d.length:Int))],[some ⟨q3,(List.map rZd a)⟩,some ⟨[.sc],(List.map (rI .u8) b)⟩],[some [.ro q3 (p0.tracks.map rZa),.ro q5 (p0.packets.map rZb)],some [cR 1 b]]⟩
def K_Id_111:List Fr:=[.lp [1,2,5,6,7,10,11,12,145,146,147] c_Id_111,.bk 8,.sq (.kp [1,2,5,6,7,10,11,12] c_Id_123),.bk 3,.sq c_Id_124,.lp [1,2,5,6,7,10,11] c_Id_46,.bk 2,.sq (.kp [5,6,7,10] c_Id_125)]
def s_Id_111 (p1 d:Int) (e:LI) (a:LZa) (p0:Zc) (b:LZb) (f:Int) (c:LI):St:=
 ⟨mkSl 196 [(1,sI p1),(2,sP 0 0),(5,sP 1 0),(6,.v false [.clo 55 [1]]),(7,.v false [.clo 57 [1]]),(10,.v false [cR 0 b]),(11,sI d),(12,sI (e.length:Int)),(145,.v false [.ro q5 (a.map rZb)]),(146,sI (a.length:Int)),(147,sI f)],[some ⟨q3,(List.map rZd b)⟩,some ⟨[.sc],(List.map (rI .u8) c)⟩],[some [.ro q3 (p0.tracks.map rZa),.ro q5 (p0.packets.map rZb)],some [cR 1 c]]⟩
def K_Id_106:List Fr:=[.bk 3,.sq c_Id_124,.lp [1,2,5,6,7,10,11] c_Id_46,.bk 2,.sq (.kp [5,6,7,10] c_Id_125)]
def s_Id_106 (p1 c:Int) (d:LI) (p0:Zc) (e:LZa) (a:LZb) (b:LI):St:=
 ⟨mkSl 196 [(1,sI p1),(2,sP 0 0),(5,sP 1 0),(6,.v false [.clo 55 [1]]),(7,.v false [.clo 57 [1]]),(10,.v false [cR 0 a]),(11,sI c),(12,sI (d.length:Int)),(13,.v false [.ro q5 (e.map rZb)])],[some ⟨q3,(List.map rZd a)⟩,some ⟨[.sc],(List.map (rI .u8) b)⟩],[some [.ro q3 (p0.tracks.map rZa),.ro q5 (p0.packets.map rZb)],some [cR 1 b]]⟩
def K_Id_69:List Fr:=[.lp [1,2,5,6,7,10,11,12,13,107,108,109] c_Id_69,.bk 4,.sq (.kp [1,2,5,6,7,10,11,12,13] c_Id_106),.bk 3,.sq c_Id_124,.lp [1,2,5,6,7,10,11] c_Id_46,.bk 2,.sq (.kp [5,6,7,10] c_Id_125)]
def s_Id_69 (p1 c:Int) (d:LI) (p0:Zc) (e f:LZa) (g h:Int) (a:LZb) (b:LI):St:=
 ⟨mkSl 196 [(1,sI p1),(2,sP 0 0),(5,sP 1 0),(6,.v false [.clo 55 [1]]),(7,.v false [.clo 57 [1]]),(10,.v false [cR 0 a]),(11,sI c),(12,sI (d.length:Int)),(13,.v false [.ro q5 (e.map rZb)]),(107,.v false [.ro q5 (f.map rZb)]),(108,sI g),(109,sI h)],[some ⟨q3,(List.map rZd a)⟩,some ⟨[.sc],(List.map (rI .u8) b)⟩],[some [.ro q3 (p0.tracks.map rZa),.ro q5 (p0.packets.map rZb)],some [cR 1 b]]⟩
def K_Id_152:List Fr:=[]
def s_Id_152 (b a:LI):St:=
 ⟨mkSl 196 [(5,sP 0 0),(6,.v false [.clo 55 [0]]),(7,.v false [.clo 57 [0]]),(21,sI (b.length:Int))],[some ⟨[.sc],(List.map (rI .u8) a)⟩],[some [cR 0 a]]⟩
def K_Id_136:List Fr:=[.lp [5,6,7,21,167,168,169] c_Id_136,.bk 10,.sq (.kp [5,6,7,21] c_Id_152)]
def s_Id_136 (c:LI) (a:LZb) (d:Int) (b:LI):St:=
 ⟨mkSl 196 [(5,sP 0 0),(6,.v false [.clo 55 [0]]),(7,.v false [.clo 57 [0]]),(21,sI (c.length:Int)),(167,.v false [cR 0 a]),(168,sI (a.length:Int)),(169,sI d)],[some ⟨q3,(List.map rZd a)⟩,some ⟨[.sc],(List.map (rI .u8) b)⟩],[some [cR 1 b]]⟩
def K_Id_125:List Fr:=[]
def s_Id_125 (a:LZb) (b:LI):St:=
 ⟨mkSl 196 [(5,sP 0 0),(6,.v false [.clo 55 [0]]),(7,.v false [.clo 57 [0]]),(10,.v false [cR 0 a])],[some ⟨q3,(List.map rZd a)⟩,some ⟨[.sc],(List.map (rI .u8) b)⟩],[some [cR 1 b]]⟩
def K_Id_46:List Fr:=[.lp [1,2,5,6,7,10,11] c_Id_46,.bk 2,.sq (.kp [5,6,7,10] c_Id_125)]
def s_Id_46 (p1:Int) (p0:Zc) (c:Int) (a:LZb) (b:LI):St:=
 ⟨mkSl 196 [(1,sI p1),(2,sP 0 0),(5,sP 1 0),(6,.v false [.clo 55 [1]]),(7,.v false [.clo 57 [1]]),(10,.v false [cR 0 a]),(11,sI c)],[some ⟨q3,(List.map rZd a)⟩,some ⟨[.sc],(List.map (rI .u8) b)⟩],[some [.ro q3 (p0.tracks.map rZa),.ro q5 (p0.packets.map rZb)],some [cR 1 b]]⟩
def K_Id_37:List Fr:=[]
def s_Id_37 (p1:Int) (p0:Zc) (a:LI):St:=
 ⟨mkSl 196 [(1,sI p1),(2,sP 0 0),(5,sP 1 0),(6,.v false [.clo 55 [1]]),(7,.v false [.clo 57 [1]])],[some ⟨[.sc],(List.map (rI .u8) a)⟩],[some [.ro q3 (p0.tracks.map rZa),.ro q5 (p0.packets.map rZb)],some [cR 0 a]]⟩
def K_Id_21:List Fr:=[.lp [1,2,5,6,7,46,47,48] c_Id_21,.bk 0,.sq (.kp [1,2,5,6,7] c_Id_37)]
def s_Id_21 (p1:Int) (p0:Zc) (b:Int) (a:LI):St:=
 ⟨mkSl 196 [(1,sI p1),(2,sP 0 0),(5,sP 1 0),(6,.v false [.clo 55 [1]]),(7,.v false [.clo 57 [1]]),(46,.v false [.ro q3 (p0.tracks.map rZa)]),(47,sI (p0.tracks.length:Int)),(48,sI b)],[some ⟨[.sc],(List.map (rI .u8) a)⟩],[some [.ro q3 (p0.tracks.map rZa),.ro q5 (p0.packets.map rZb)],some [cR 0 a]]⟩
def K_Id_0:List Fr:=[]
def s_Id_0 (p0:Zc) (p1:Int):St:=
 ⟨mkSl 196 [(0,.v true [.ro q3 (p0.tracks.map rZa),.ro q5 (p0.packets.map rZb)]),(1,sI p1)],[],[]⟩
def K_Lb_31:List Fr:=[]
def s_Lb_31:St:=
 ⟨mkSl 26 [],[],[]⟩
def K_Lb_15:List Fr:=[.lp [0,1,5] c_Lb_15,.bk 0,.sq (.kp [] c_Lb_31)]
def s_Lb_15 (p0 p1:LI) (a:Int):St:=
 ⟨mkSl 26 [(0,.v false [.ro [.sc] (p0.map (rI .u8))]),(1,.v false [.ro [.sc] (p1.map (rI .u8))]),(5,sI a)],[],[]⟩
def K_Lb_0:List Fr:=[]
def s_Lb_0 (p0 p1:LI):St:=
 ⟨mkSl 26 [(0,.v false [.ro [.sc] (p0.map (rI .u8))]),(1,.v false [.ro [.sc] (p1.map (rI .u8))])],[],[]⟩
def K_Le_0:List Fr:=[]
def s_Le_0 (p0 p1:Za):St:=
 ⟨mkSl 20 [(0,.v true [cI p0.kind,cI p0.scale,.lit (.string p0.name)]),(1,.v true [cI p1.kind,cI p1.scale,.lit (.string p1.name)])],[],[]⟩
def K_Lf_31:List Fr:=[]
def s_Lf_31:St:=
 ⟨mkSl 27 [],[],[]⟩
def K_Lf_15:List Fr:=[.lp [0,1,5] c_Lf_15,.bk 0,.sq (.kp [] c_Lf_31)]
def s_Lf_15 (p0 p1:LZ) (a:Int):St:=
 ⟨mkSl 27 [(0,.v false [.ro q3 (p0.map rZa)]),(1,.v false [.ro q3 (p1.map rZa)]),(5,sI a)],[],[]⟩
def K_Lf_0:List Fr:=[]
def s_Lf_0 (p0 p1:LZ):St:=
 ⟨mkSl 27 [(0,.v false [.ro q3 (p0.map rZa)]),(1,.v false [.ro q3 (p1.map rZa)])],[],[]⟩
def K_Lc_0:List Fr:=[]
def s_Lc_0 (p0 p1:Zb):St:=
 ⟨mkSl 31 [(0,.v true [cI p0.track,cI p0.time,cI p0.span,cB p0.key,.ro [.sc] (p0.data.map (rI .u8))]),(1,.v true [cI p1.track,cI p1.time,cI p1.span,cB p1.key,.ro [.sc] (p1.data.map (rI .u8))])],[],[]⟩
def K_Ld_31:List Fr:=[]
def s_Ld_31:St:=
 ⟨mkSl 27 [],[],[]⟩
def K_Ld_15:List Fr:=[.lp [0,1,5] c_Ld_15,.bk 0,.sq (.kp [] c_Ld_31)]
def s_Ld_15 (p0 p1:LZa) (a:Int):St:=
 ⟨mkSl 27 [(0,.v false [.ro q5 (p0.map rZb)]),(1,.v false [.ro q5 (p1.map rZb)]),(5,sI a)],[],[]⟩
def K_Ld_0:List Fr:=[]
def s_Ld_0 (p0 p1:LZa):St:=
 ⟨mkSl 27 [(0,.v false [.ro q5 (p0.map rZb)]),(1,.v false [.ro q5 (p1.map rZb)])],[],[]⟩
def K_La_0:List Fr:=[]
def s_La_0 (p0 p1:Zc):St:=
 ⟨mkSl 17 [(0,.v true [.ro q3 (p0.tracks.map rZa),.ro q5 (p0.packets.map rZb)]),(1,.v true [.ro q3 (p1.tracks.map rZa),.ro q5 (p1.packets.map rZb)])],[],[]⟩
def K_Lk_25:List Fr:=[]
def s_Lk_25 (a:ByteArray):St:=
 ⟨mkSl 20 [(3,.v false [.lit (.string a)])],[],[]⟩
def K_Lk_15:List Fr:=[.lp [0,3] c_Lk_15,.bk 0,.sq (.kp [3] c_Lk_25)]
def s_Lk_15 (a:Int) (b:ByteArray):St:=
 ⟨mkSl 20 [(0,sI a),(3,.v false [.lit (.string b)])],[],[]⟩
def K_Lk_0:List Fr:=[]
def s_Lk_0 (p0:Int):St:=
 ⟨mkSl 20 [(0,sI p0)],[],[]⟩
def K_Ll_27:List Fr:=[]
def s_Ll_27 (b:Int) (a:LZ):St:=
 ⟨mkSl 35 [(0,.v false [cR 0 a]),(1,sI b)],[some ⟨q3,(List.map rZa a)⟩],[]⟩
def K_Ll_7:List Fr:=[.lp [0,1,5] c_Ll_7,.bk 0,.sq (.kp [0,1] c_Ll_27)]
def s_Ll_7 (b c:Int) (a:LZ):St:=
 ⟨mkSl 35 [(0,.v false [cR 0 a]),(1,sI b),(5,sI c)],[some ⟨q3,(List.map rZa a)⟩],[]⟩
def K_Ll_0:List Fr:=[]
def s_Ll_0 (p1:Int) (p0:LZ):St:=
 ⟨mkSl 35 [(0,.v false [cR 0 p0]),(1,sI p1)],[some ⟨q3,(List.map rZa p0)⟩],[]⟩
def K_Li_19:List Fr:=[]
def s_Li_19 (b:Int) (a:LI):St:=
 ⟨mkSl 20 [(0,.v false [cR 0 a]),(1,sI b)],[some ⟨[.sc],(List.map (rI .u8) a)⟩],[]⟩
def K_Li_7:List Fr:=[.lp [0,1,5] c_Li_7,.bk 0,.sq (.kp [0,1] c_Li_19)]
def s_Li_7 (b c:Int) (a:LI):St:=
 ⟨mkSl 20 [(0,.v false [cR 0 a]),(1,sI b),(5,sI c)],[some ⟨[.sc],(List.map (rI .u8) a)⟩],[]⟩
def K_Li_0:List Fr:=[]
def s_Li_0 (p1:Int) (p0:LI):St:=
 ⟨mkSl 20 [(0,.v false [cR 0 p0]),(1,sI p1)],[some ⟨[.sc],(List.map (rI .u8) p0)⟩],[]⟩
def K_Lj_33:List Fr:=[]
def s_Lj_33 (b:Int) (a:LZa):St:=
 ⟨mkSl 50 [(0,.v false [cR 0 a]),(1,sI b)],[some ⟨[.sc,.sc,.sc,.sc,.own [.sc]],(List.map rZb a)⟩],[]⟩
def K_Lj_7:List Fr:=[.lp [0,1,5] c_Lj_7,.bk 0,.sq (.kp [0,1] c_Lj_33)]
def s_Lj_7 (b c:Int) (a:LZa):St:=
 ⟨mkSl 50 [(0,.v false [cR 0 a]),(1,sI b),(5,sI c)],[some ⟨[.sc,.sc,.sc,.sc,.own [.sc]],(List.map rZb a)⟩],[]⟩
def K_Lj_0:List Fr:=[]
def s_Lj_0 (p1:Int) (p0:LZa):St:=
 ⟨mkSl 50 [(0,.v false [cR 0 p0]),(1,sI p1)],[some ⟨[.sc,.sc,.sc,.sc,.own [.sc]],(List.map rZb p0)⟩],[]⟩
def K_Lh_0:List Fr:=[]
def s_Lh_0 (p1:Int) (p0:Zc):St:=
 ⟨mkSl 14 [(0,.v true [cR 0 p0.tracks,cR 1 p0.packets]),(1,sI p1)],[some ⟨q3,(List.map rZa p0.tracks)⟩,some ⟨[.sc,.sc,.sc,.sc,.own [.sc]],(List.map rZb p0.packets)⟩],[]⟩
def K_Lg_25:List Fr:=[]
def s_Lg_25 (a:Int):St:=
 ⟨mkSl 22 [(1,sI a)],[],[]⟩
def K_Lg_7:List Fr:=[.lp [0,1,5] c_Lg_7,.bk 0,.sq (.kp [1] c_Lg_25)]
def s_Lg_7 (p0:LI) (a b:Int):St:=
 ⟨mkSl 22 [(0,.v false [.ro [.sc] (p0.map (rI .u8))]),(1,sI a),(5,sI b)],[],[]⟩
def K_Lg_0:List Fr:=[]
def s_Lg_0 (p0:LI) (p1:Int):St:=
 ⟨mkSl 22 [(0,.v false [.ro [.sc] (p0.map (rI .u8))]),(1,sI p1)],[],[]⟩
def K_laws_FnExactWriteBox_0:List Fr:=[]
def s_laws_FnExactWriteBox_0 (p0:Zc) (p1:Int):St:=
 ⟨mkSl 74 [(0,.v true [.ro q3 (p0.tracks.map rZa),.ro q5 (p0.packets.map rZb)]),(1,sI p1)],[],[]⟩
theorem ok_Lq_0 (p0:Za) (p1 r:Int) (hm:m_Lq_0 p0 p1=some r):EE c_Lq_0 K_Lq_0 (s_Lq_0 p0 p1) (Post vf_Lq (res_Lq r)):=by
 obtain ⟨a,hm⟩|⟨a,hm⟩:=split_ite hm
 ·exact ge (u1 a<|z0) (congrArg res_Lq (qj hm)) (by kernel_rfl)
 ·exact ge (v1 a<|z0) (congrArg res_Lq (qj hm)) (by kernel_rfl)
theorem ok_Lq (p0:Za) (p1 r:Int) (hm:m_Lq p0 p1=some r):Runs ext tbl 101 (as_Lq p0 p1) (res_Lq r):=
 runs_of (vf:=vf_Lq) (by kernel_rfl) rfl (st:=(enter vf_Lq (as_Lq p0 p1)).getD default) (by kernel_rfl) (go_on [] 1000 J0 (ok_Lq_0 p0 p1 r hm) (by kernel_rfl))
def O_Lr_17 (Q:VX→St→Prop) (e:(Int)⊕((Int))):Prop:=match e with | .inl e=>Q=Post vf_Lr (res_Lr e) | .inr e=>EE c_Lr_35 K_Lr_35 (s_Lr_35 e) Q
theorem ok_Lr_35 (a r:Int) (hm:m_Lr_35 a=some r):EE c_Lr_35 K_Lr_35 (s_Lr_35 a) (Post vf_Lr (res_Lr r)):=by
 exact ge (z0) (congrArg res_Lr (qj hm)) (by kernel_rfl)
theorem ok_Lr_17 (p0:LZ) (a h:Int) (y) (hm:m_Lr_17 p0 a h=some y) (Q)
  (hin:∀ s,y=.inl s→EE c_Lr_17 K_Lr_17 (s_Lr_17 p0 s.1 s.2) Q) (hout:∀ e,y=.inr e→O_Lr_17 Q e):EE c_Lr_17 K_Lr_17 (s_Lr_17 p0 a h) Q:=by
 obtain ⟨b,hm⟩|⟨b,hm⟩:=split_ite hm
 ·obtain ⟨c,d,hm⟩:=bind_some hm
  obtain ⟨f,i,hm⟩:=bind_some hm
  obtain ⟨g,hm⟩|⟨g,hm⟩:=split_ite hm
  ·have hQ:Q=Post vf_Lr (res_Lr (-1)):=hout (.inl (-1)) (qj hm).symm
   subst hQ
   exact ge (wL rZa p0<|u1 b<|wO (.row (rZa c))<|wO (.res (res_Lq f))<|wP (rd_nn d)<|wP (at_row rZa (rd_get d))<|wP (ok_Lq c a f i)<|u1 g<|z0) (rfl:res_Lr (-1)=res_Lr (-1)) (by kernel_rfl)
  ·exact gw (hin _ (qj hm).symm) (wL rZa p0<|u1 b<|wO (.row (rZa c))<|wO (.res (res_Lq f))<|wP (rd_nn d)<|wP (at_row rZa (rd_get d))<|wP (ok_Lq c a f i)<|v1 g<|z0) (by kernel_rfl)
 ·refine gm c_Lr_35 K_Lr_35 (s_Lr_35 a) (wL rZa p0<|v1 b<|z0) ?_ (by kernel_rfl)
  exact hout (.inr a) (qj hm).symm
theorem ok_Lr_0 (p0:LZ) (p1 r:Int) (hm:m_Lr_0 p0 p1=some r):EE c_Lr_0 K_Lr_0 (s_Lr_0 p0 p1) (Post vf_Lr (res_Lr r)):=by
 obtain ⟨a,hm⟩|⟨a,hm⟩:=split_ite hm
 ·exact ge (wL rZa p0<|u1 a<|z0) (congrArg res_Lr (qj hm)) (by kernel_rfl)
 ·refine gm c_Lr_17 K_Lr_17 (s_Lr_17 p0 (w64 (p1 - (p0.length:Int))) 0) (wL rZa p0<|v1 a<|z0) ?_ (by kernel_rfl)
  obtain ⟨e,he,hm⟩:=bind_some hm
  refine loop_rule (u:=.c c_Lr_17) (K:=K_Lr_17) (Q:=(Post vf_Lr (res_Lr r))) (b:=lp_Lr_17 p0) (We:=O_Lr_17 (Post vf_Lr (res_Lr r))) (stJ:=fun s=>s_Lr_17 p0 s.1 s.2) (s:=((w64 (p1 - (p0.length:Int))),0)) (fun s y hb hin hout=>ok_Lr_17 p0 s.1 s.2 y hb (Post vf_Lr (res_Lr r)) hin hout) he ?_
  rcases e with e | e
  ·exact congrArg (fun r=>Post vf_Lr (res_Lr r)) (qj hm).symm
  ·show EE c_Lr_35 K_Lr_35 (s_Lr_35 e) _
   exact ok_Lr_35 e r hm
theorem ok_Lr (p0:LZ) (p1 r:Int) (hm:m_Lr p0 p1=some r):Runs ext tbl 46 (as_Lr p0 p1) (res_Lr r):=
 runs_of (vf:=vf_Lr) (by kernel_rfl) rfl (st:=(enter vf_Lr (as_Lr p0 p1)).getD default) (by kernel_rfl) (go_on [] 1000 J0 (ok_Lr_0 p0 p1 r hm) (by kernel_rfl))
theorem ok_Ln_0 (p0:LI) (p1 r:Int) (hm:m_Ln_0 p0 p1=some r):EE c_Ln_0 K_Ln_0 (s_Ln_0 p0 p1) (Post vf_Ln (res_Ln r)):=by
 obtain ⟨a,hm⟩|⟨a,hm⟩:=split_ite hm
 ·exact ge (wL (rI .u8) p0<|u1 a<|z0) (congrArg res_Ln (qj hm)) (by kernel_rfl)
 ·exact ge (wL (rI .u8) p0<|v1 a<|z0) (congrArg res_Ln (qj hm)) (by kernel_rfl)
theorem ok_Ln (p0:LI) (p1 r:Int) (hm:m_Ln p0 p1=some r):Runs ext tbl 141 (as_Ln p0 p1) (res_Ln r):=
 runs_of (vf:=vf_Ln) (by kernel_rfl) rfl (st:=(enter vf_Ln (as_Ln p0 p1)).getD default) (by kernel_rfl) (go_on [] 1000 J0 (ok_Ln_0 p0 p1 r hm) (by kernel_rfl))
theorem ok_Lo_0 (p0:Zb) (p1 r:Int) (hm:m_Lo_0 p0 p1=some r):EE c_Lo_0 K_Lo_0 (s_Lo_0 p0 p1) (Post vf_Lo (res_Lo r)):=by
 obtain ⟨a,c,hm⟩:=bind_some hm
 obtain ⟨b,hm⟩|⟨b,hm⟩:=split_ite hm
 ·exact ge (wO (.res (res_Ln a))<|wP (ok_Ln p0.data p1 a c)<|u1 b<|z0) (congrArg res_Lo (qj hm)) (by kernel_rfl)
 ·exact ge (wO (.res (res_Ln a))<|wP (ok_Ln p0.data p1 a c)<|v1 b<|z0) (congrArg res_Lo (qj hm)) (by kernel_rfl)
theorem ok_Lo (p0:Zb) (p1 r:Int) (hm:m_Lo p0 p1=some r):Runs ext tbl 102 (as_Lo p0 p1) (res_Lo r):=
 runs_of (vf:=vf_Lo) (by kernel_rfl) rfl (st:=(enter vf_Lo (as_Lo p0 p1)).getD default) (by kernel_rfl) (go_on [] 1000 J0 (ok_Lo_0 p0 p1 r hm) (by kernel_rfl))
def O_Lp_17 (Q:VX→St→Prop) (e:(Int)⊕((Int))):Prop:=match e with | .inl e=>Q=Post vf_Lp (res_Lp e) | .inr e=>EE c_Lp_35 K_Lp_35 (s_Lp_35 e) Q
theorem ok_Lp_35 (a r:Int) (hm:m_Lp_35 a=some r):EE c_Lp_35 K_Lp_35 (s_Lp_35 a) (Post vf_Lp (res_Lp r)):=by
 exact ge (z0) (congrArg res_Lp (qj hm)) (by kernel_rfl)
theorem ok_Lp_17 (p0:LZa) (a h:Int) (y) (hm:m_Lp_17 p0 a h=some y) (Q)
  (hin:∀ s,y=.inl s→EE c_Lp_17 K_Lp_17 (s_Lp_17 p0 s.1 s.2) Q) (hout:∀ e,y=.inr e→O_Lp_17 Q e):EE c_Lp_17 K_Lp_17 (s_Lp_17 p0 a h) Q:=by
 obtain ⟨b,hm⟩|⟨b,hm⟩:=split_ite hm
 ·obtain ⟨c,d,hm⟩:=bind_some hm
  obtain ⟨f,i,hm⟩:=bind_some hm
  obtain ⟨g,hm⟩|⟨g,hm⟩:=split_ite hm
  ·have hQ:Q=Post vf_Lp (res_Lp (-1)):=hout (.inl (-1)) (qj hm).symm
   subst hQ
   exact ge (wL rZb p0<|u1 b<|wO (.row (rZb c))<|wO (.res (res_Lo f))<|wP (rd_nn d)<|wP (at_row rZb (rd_get d))<|wP (ok_Lo c a f i)<|u1 g<|z0) (rfl:res_Lp (-1)=res_Lp (-1)) (by kernel_rfl)
  ·exact gw (hin _ (qj hm).symm) (wL rZb p0<|u1 b<|wO (.row (rZb c))<|wO (.res (res_Lo f))<|wP (rd_nn d)<|wP (at_row rZb (rd_get d))<|wP (ok_Lo c a f i)<|v1 g<|z0) (by kernel_rfl)
 ·refine gm c_Lp_35 K_Lp_35 (s_Lp_35 a) (wL rZb p0<|v1 b<|z0) ?_ (by kernel_rfl)
  exact hout (.inr a) (qj hm).symm
theorem ok_Lp_0 (p0:LZa) (p1 r:Int) (hm:m_Lp_0 p0 p1=some r):EE c_Lp_0 K_Lp_0 (s_Lp_0 p0 p1) (Post vf_Lp (res_Lp r)):=by
 obtain ⟨a,hm⟩|⟨a,hm⟩:=split_ite hm
 ·exact ge (wL rZb p0<|u1 a<|z0) (congrArg res_Lp (qj hm)) (by kernel_rfl)
 ·refine gm c_Lp_17 K_Lp_17 (s_Lp_17 p0 (w64 (p1 - (p0.length:Int))) 0) (wL rZb p0<|v1 a<|z0) ?_ (by kernel_rfl)
  obtain ⟨e,he,hm⟩:=bind_some hm
  refine loop_rule (u:=.c c_Lp_17) (K:=K_Lp_17) (Q:=(Post vf_Lp (res_Lp r))) (b:=lp_Lp_17 p0) (We:=O_Lp_17 (Post vf_Lp (res_Lp r))) (stJ:=fun s=>s_Lp_17 p0 s.1 s.2) (s:=((w64 (p1 - (p0.length:Int))),0)) (fun s y hb hin hout=>ok_Lp_17 p0 s.1 s.2 y hb (Post vf_Lp (res_Lp r)) hin hout) he ?_
  rcases e with e | e
  ·exact congrArg (fun r=>Post vf_Lp (res_Lp r)) (qj hm).symm
  ·show EE c_Lp_35 K_Lp_35 (s_Lp_35 e) _
   exact ok_Lp_35 e r hm
theorem ok_Lp (p0:LZa) (p1 r:Int) (hm:m_Lp p0 p1=some r):Runs ext tbl 47 (as_Lp p0 p1) (res_Lp r):=
 runs_of (vf:=vf_Lp) (by kernel_rfl) rfl (st:=(enter vf_Lp (as_Lp p0 p1)).getD default) (by kernel_rfl) (go_on [] 1000 J0 (ok_Lp_0 p0 p1 r hm) (by kernel_rfl))
theorem ok_Lm_0 (p0:Zc) (p1 r:Int) (hm:m_Lm_0 p0 p1=some r):EE c_Lm_0 K_Lm_0 (s_Lm_0 p0 p1) (Post vf_Lm (res_Lm r)):=by
 obtain ⟨a,d,hm⟩:=bind_some hm
 obtain ⟨b,hm⟩|⟨b,hm⟩:=split_ite hm
 ·exact ge (wO (.res (res_Lr a))<|wP (ok_Lr p0.tracks p1 a d)<|u1 b<|z0) (congrArg res_Lm (qj hm)) (by kernel_rfl)
 ·obtain ⟨c,f,hm⟩:=bind_some hm
  obtain ⟨e,hm⟩|⟨e,hm⟩:=split_ite hm
  ·exact ge (wO (.res (res_Lr a))<|wP (ok_Lr p0.tracks p1 a d)<|v1 b<|wO (.res (res_Lp c))<|wP (ok_Lp p0.packets a c f)<|u1 e<|z0) (congrArg res_Lm (qj hm)) (by kernel_rfl)
  ·exact ge (wO (.res (res_Lr a))<|wP (ok_Lr p0.tracks p1 a d)<|v1 b<|wO (.res (res_Lp c))<|wP (ok_Lp p0.packets a c f)<|v1 e<|z0) (congrArg res_Lm (qj hm)) (by kernel_rfl)
theorem ok_Lm (p0:Zc) (p1 r:Int) (hm:m_Lm p0 p1=some r):Runs ext tbl 17 (as_Lm p0 p1) (res_Lm r):=
 runs_of (vf:=vf_Lm) (by kernel_rfl) rfl (st:=(enter vf_Lm (as_Lm p0 p1)).getD default) (by kernel_rfl) (go_on [] 1000 J0 (ok_Lm_0 p0 p1 r hm) (by kernel_rfl))
theorem ok_Lw_0 (p0 r:Za) (hm:m_Lw_0 p0=some r):EE c_Lw_0 K_Lw_0 (s_Lw_0 p0) (Post vf_Lw (res_Lw r)):=by
 exact ge (z0) (congrArg res_Lw (qj hm)) (by kernel_rfl)
theorem ok_Lw (p0 r:Za) (hm:m_Lw p0=some r):Runs ext tbl 110 (as_Lw p0) (res_Lw r):=
 runs_of (vf:=vf_Lw) (by kernel_rfl) rfl (st:=(enter vf_Lw (as_Lw p0)).getD default) (by kernel_rfl) (go_on [] 1000 J0 (ok_Lw_0 p0 r hm) (by kernel_rfl))
def O_Lx_9 (Q:VX→St→Prop) (e:(LZ)):Prop:=EE c_Lx_19 K_Lx_19 (s_Lx_19 e) Q
theorem ok_Lx_19 (a r:LZ) (hm:m_Lx_19 a=some r):EE c_Lx_19 K_Lx_19 (s_Lx_19 a) (Post vf_Lx (res_Lx r)):=by
 exact ge (wR rZa a<|z0) (congrArg res_Lx (qj hm)) (by kernel_rfl)
theorem ok_Lx_9 (p0:LZ) (d:Int) (b:LZ) (y) (hm:m_Lx_9 p0 d b=some y) (Q)
  (hin:∀ s,y=.inl s→EE c_Lx_9 K_Lx_9 (s_Lx_9 p0 s.1 s.2) Q) (hout:∀ e,y=.inr e→O_Lx_9 Q e):EE c_Lx_9 K_Lx_9 (s_Lx_9 p0 d b) Q:=by
 obtain ⟨g,hm⟩|⟨g,hm⟩:=split_ite hm
 ·obtain ⟨h,i,hm⟩:=bind_some hm
  obtain ⟨a,j,hm⟩:=bind_some hm
  obtain ⟨c,f,hm⟩:=bind_some hm
  exact gw (hin _ (qj hm).symm) (wL rZa p0<|u1 g<|wO (.row (rZa h))<|wO (.res (res_Lw a))<|wO (.rows (List.map rZa (b.set (0+Int.toNat d) (Za.mk a.kind c.scale c.name))))<|wO (.rows (List.map rZa (b.set (0+Int.toNat d) (Za.mk a.kind a.scale c.name))))<|wO (.rows (List.map rZa (b.set (0+Int.toNat d) a)))<|wO (zn ((b.set (0+Int.toNat d) a).length))<|wP (rd_nn i)<|wP (at_row rZa (rd_get i))<|wP (ok_Lw h a j)<|wP (rd_in rfl f)<|wP (put_ob rZa (Za.mk a.kind c.scale c.name) 0 (.lit (vI a.kind)) (rd_get0 f) (by kernel_rfl) (by kernel_rfl))<|wP (put_ob2 rZa (Za.mk a.kind a.scale c.name) 1 (.lit (vI a.scale)) (set_at (Za.mk a.kind c.scale c.name) (rd_get0 f)) (by kernel_rfl) (by kernel_rfl))<|wP (put_ob2 rZa a 2 (.lit (.string a.name)) (set_at2 (Za.mk a.kind a.scale c.name) (set_at (Za.mk a.kind c.scale c.name) (rd_get0 f))) (by kernel_rfl) (by kernel_rfl))<|wP (lens b.length ((b.set (0+Int.toNat d) a).length) (set_len rfl))<|z0) (by kernel_rfl)
 ·refine gm c_Lx_19 K_Lx_19 (s_Lx_19 b) (wL rZa p0<|v1 g<|wN b.length<|z0) ?_ (by kernel_rfl)
  exact hout b (qj hm).symm
theorem ok_Lx_0 (p0 r:LZ) (hm:m_Lx_0 p0=some r):EE c_Lx_0 K_Lx_0 (s_Lx_0 p0) (Post vf_Lx (res_Lx r)):=by
 obtain ⟨d,a,hm⟩:=bind_some hm
 refine gm c_Lx_9 K_Lx_9 (s_Lx_9 p0 0 (List.replicate (Int.toNat (p0.length:Int)) ((Za.mk 0 0 (ByteArray.mk #[])):Za))) (wL rZa p0<|wO (.rows (List.map rZa (List.replicate (Int.toNat (p0.length:Int)) ((Za.mk 0 0 (ByteArray.mk #[])):Za))))<|wO (zn (Int.toNat (p0.length:Int)))<|wO (zn ((List.replicate (Int.toNat (p0.length:Int)) ((Za.mk 0 0 (ByteArray.mk #[])):Za)).length))<|wP (ck_p a)<|wP (rep_ob rZa (Int.toNat (p0.length:Int)) ((Za.mk 0 0 (ByteArray.mk #[])):Za) [.lit (vI 0),.lit (vI 0),.lit (.string (ByteArray.mk #[]))] (by kernel_rfl))<|wP (len_map rZa (show (Int.toNat (p0.length:Int))=(List.replicate (Int.toNat (p0.length:Int)) ((Za.mk 0 0 (ByteArray.mk #[])):Za)).length from (rep_len (Int.toNat (p0.length:Int)) ((Za.mk 0 0 (ByteArray.mk #[])):Za))))<|wP (lens (Int.toNat (p0.length:Int)) ((List.replicate (Int.toNat (p0.length:Int)) ((Za.mk 0 0 (ByteArray.mk #[])):Za)).length) (rep_len (Int.toNat (p0.length:Int)) ((Za.mk 0 0 (ByteArray.mk #[])):Za)))<|z0) ?_ (by kernel_rfl)
 obtain ⟨e,he,hm⟩:=bind_some hm
 refine loop_rule (u:=.c c_Lx_9) (K:=K_Lx_9) (Q:=(Post vf_Lx (res_Lx r))) (b:=lp_Lx_9 p0) (We:=O_Lx_9 (Post vf_Lx (res_Lx r))) (stJ:=fun s=>s_Lx_9 p0 s.1 s.2) (s:=(0,(List.replicate (Int.toNat (p0.length:Int)) ((Za.mk 0 0 (ByteArray.mk #[])):Za)))) (fun s y hb hin hout=>ok_Lx_9 p0 s.1 s.2 y hb (Post vf_Lx (res_Lx r)) hin hout) he ?_
 show EE c_Lx_19 K_Lx_19 (s_Lx_19 e) _
 exact ok_Lx_19 e r hm
theorem ok_Lx (p0 r:LZ) (hm:m_Lx p0=some r):Runs ext tbl 52 (as_Lx p0) (res_Lx r):=
 runs_of (vf:=vf_Lx) (by kernel_rfl) rfl (st:=(enter vf_Lx (as_Lx p0)).getD default) (by kernel_rfl) (go_on [] 1000 J0 (ok_Lx_0 p0 r hm) (by kernel_rfl))
def O_Lt_9 (Q:VX→St→Prop) (e:(LI)):Prop:=EE c_Lt_19 K_Lt_19 (s_Lt_19 e) Q
theorem ok_Lt_19 (a r:LI) (hm:m_Lt_19 a=some r):EE c_Lt_19 K_Lt_19 (s_Lt_19 a) (Post vf_Lt (res_Lt r)):=by
 exact ge (wR (rI .u8) a<|z0) (congrArg res_Lt (qj hm)) (by kernel_rfl)
theorem ok_Lt_9 (p0:LI) (c:Int) (a:LI) (y) (hm:m_Lt_9 p0 c a=some y) (Q)
  (hin:∀ s,y=.inl s→EE c_Lt_9 K_Lt_9 (s_Lt_9 p0 s.1 s.2) Q) (hout:∀ e,y=.inr e→O_Lt_9 Q e):EE c_Lt_9 K_Lt_9 (s_Lt_9 p0 c a) Q:=by
 obtain ⟨d,hm⟩|⟨d,hm⟩:=split_ite hm
 ·obtain ⟨b,f,hm⟩:=bind_some hm
  obtain ⟨h,g,hm⟩:=bind_some hm
  exact gw (hin _ (qj hm).symm) (wL (rI .u8) p0<|u1 d<|wO (.row ((rI .u8) b))<|wO (.rows (List.map (rI .u8) (a.set (0+Int.toNat c) b)))<|wO (zn ((a.set (0+Int.toNat c) b).length))<|wP (rd_nn f)<|wP (at_row (rI .u8) (rd_get f))<|wP (rd_in rfl g)<|wP (put_ob (rI .u8) b 0 (.lit (.int .u8 b)) (rd_get0 g) (by kernel_rfl) (by kernel_rfl))<|wP (lens a.length ((a.set (0+Int.toNat c) b).length) (set_len rfl))<|z0) (by kernel_rfl)
 ·refine gm c_Lt_19 K_Lt_19 (s_Lt_19 a) (wL (rI .u8) p0<|v1 d<|wN a.length<|z0) ?_ (by kernel_rfl)
  exact hout a (qj hm).symm
theorem ok_Lt_0 (p0 r:LI) (hm:m_Lt_0 p0=some r):EE c_Lt_0 K_Lt_0 (s_Lt_0 p0) (Post vf_Lt (res_Lt r)):=by
 obtain ⟨d,a,hm⟩:=bind_some hm
 refine gm c_Lt_9 K_Lt_9 (s_Lt_9 p0 0 (List.replicate (Int.toNat (p0.length:Int)) (0:Int))) (wL (rI .u8) p0<|wO (.rows (List.map (rI .u8) (List.replicate (Int.toNat (p0.length:Int)) (0:Int))))<|wO (zn (Int.toNat (p0.length:Int)))<|wO (zn ((List.replicate (Int.toNat (p0.length:Int)) (0:Int)).length))<|wP (ck_p a)<|wP (rep_ob (rI .u8) (Int.toNat (p0.length:Int)) (0:Int) [.lit (.int .u8 0)] (by kernel_rfl))<|wP (len_map (rI .u8) (show (Int.toNat (p0.length:Int))=(List.replicate (Int.toNat (p0.length:Int)) (0:Int)).length from (rep_len (Int.toNat (p0.length:Int)) (0:Int))))<|wP (lens (Int.toNat (p0.length:Int)) ((List.replicate (Int.toNat (p0.length:Int)) (0:Int)).length) (rep_len (Int.toNat (p0.length:Int)) (0:Int)))<|z0) ?_ (by kernel_rfl)
 obtain ⟨e,he,hm⟩:=bind_some hm
 refine loop_rule (u:=.c c_Lt_9) (K:=K_Lt_9) (Q:=(Post vf_Lt (res_Lt r))) (b:=lp_Lt_9 p0) (We:=O_Lt_9 (Post vf_Lt (res_Lt r))) (stJ:=fun s=>s_Lt_9 p0 s.1 s.2) (s:=(0,(List.replicate (Int.toNat (p0.length:Int)) (0:Int)))) (fun s y hb hin hout=>ok_Lt_9 p0 s.1 s.2 y hb (Post vf_Lt (res_Lt r)) hin hout) he ?_
 show EE c_Lt_19 K_Lt_19 (s_Lt_19 e) _
 exact ok_Lt_19 e r hm
theorem ok_Lt (p0 r:LI) (hm:m_Lt p0=some r):Runs ext tbl 10 (as_Lt p0) (res_Lt r):=
 runs_of (vf:=vf_Lt) (by kernel_rfl) rfl (st:=(enter vf_Lt (as_Lt p0)).getD default) (by kernel_rfl) (go_on [] 1000 J0 (ok_Lt_0 p0 r hm) (by kernel_rfl))
theorem ok_Lu_0 (p0 r:Zb) (hm:m_Lu_0 p0=some r):EE c_Lu_0 K_Lu_0 (s_Lu_0 p0) (Post vf_Lu (res_Lu r)):=by
 obtain ⟨a,b,hm⟩:=bind_some hm
 exact ge (wO (.res (res_Lt a))<|wP (ok_Lt p0.data a b)<|wL (rI .u8) a<|wR (rI .u8) a<|z0) (congrArg res_Lu (qj hm)) (by kernel_rfl)
theorem ok_Lu (p0 r:Zb) (hm:m_Lu p0=some r):Runs ext tbl 111 (as_Lu p0) (res_Lu r):=
 runs_of (vf:=vf_Lu) (by kernel_rfl) rfl (st:=(enter vf_Lu (as_Lu p0)).getD default) (by kernel_rfl) (go_on [] 1000 J0 (ok_Lu_0 p0 r hm) (by kernel_rfl))
def O_Lv_9 (Q:VX→St→Prop) (e:(LZa)):Prop:=EE c_Lv_19 K_Lv_19 (s_Lv_19 e) Q
theorem ok_Lv_19 (a r:LZa) (hm:m_Lv_19 a=some r):EE c_Lv_19 K_Lv_19 (s_Lv_19 a) (Post vf_Lv (res_Lv r)):=by
 exact ge (wR rZb a<|z0) (congrArg res_Lv (qj hm)) (by kernel_rfl)
theorem ok_Lv_9 (p0:LZa) (d:Int) (c:LZa) (y) (hm:m_Lv_9 p0 d c=some y) (Q)
  (hin:∀ s,y=.inl s→EE c_Lv_9 K_Lv_9 (s_Lv_9 p0 s.1 s.2) Q) (hout:∀ e,y=.inr e→O_Lv_9 Q e):EE c_Lv_9 K_Lv_9 (s_Lv_9 p0 d c) Q:=by
 obtain ⟨g,hm⟩|⟨g,hm⟩:=split_ite hm
 ·obtain ⟨h,i,hm⟩:=bind_some hm
  obtain ⟨a,j,hm⟩:=bind_some hm
  obtain ⟨b,f,hm⟩:=bind_some hm
  exact gw (hin _ (qj hm).symm) (wL rZb p0<|u1 g<|wO (.row (rZb h))<|wO (.res (res_Lu a))<|wP (rd_nn i)<|wP (at_row rZb (rd_get i))<|wP (ok_Lu h a j)<|wL (rI .u8) a.data<|wO (.rows (List.map rZb (c.set (0+Int.toNat d) (Zb.mk a.track b.time b.span b.key b.data))))<|wO (.rows (List.map rZb (c.set (0+Int.toNat d) (Zb.mk a.track a.time b.span b.key b.data))))<|wO (.rows (List.map rZb (c.set (0+Int.toNat d) (Zb.mk a.track a.time a.span b.key b.data))))<|wO (.rows (List.map rZb (c.set (0+Int.toNat d) (Zb.mk a.track a.time a.span a.key b.data))))<|wP (rd_in rfl f)<|wP (put_ob rZb (Zb.mk a.track b.time b.span b.key b.data) 0 (.lit (vI a.track)) (rd_get0 f) (by kernel_rfl) (by kernel_rfl))<|wP (put_ob2 rZb (Zb.mk a.track a.time b.span b.key b.data) 1 (.lit (vI a.time)) (set_at (Zb.mk a.track b.time b.span b.key b.data) (rd_get0 f)) (by kernel_rfl) (by kernel_rfl))<|wP (put_ob2 rZb (Zb.mk a.track a.time a.span b.key b.data) 2 (.lit (vI a.span)) (set_at2 (Zb.mk a.track a.time b.span b.key b.data) (set_at (Zb.mk a.track b.time b.span b.key b.data) (rd_get0 f))) (by kernel_rfl) (by kernel_rfl))<|wP (put_ob2 rZb (Zb.mk a.track a.time a.span a.key b.data) 3 (.lit (.bool a.key)) (set_at2 (Zb.mk a.track a.time a.span b.key b.data) (set_at2 (Zb.mk a.track a.time b.span b.key b.data) (set_at (Zb.mk a.track b.time b.span b.key b.data) (rd_get0 f)))) (by kernel_rfl) (by kernel_rfl))<|wR (rI .u8) a.data<|wO (.rows (List.map rZb (c.set (0+Int.toNat d) a)))<|wO (zn ((c.set (0+Int.toNat d) a).length))<|wP (put_ob2 rZb a 4 (.sl (a.data.map (rI .u8))) (set_at2 (Zb.mk a.track a.time a.span a.key b.data) (set_at2 (Zb.mk a.track a.time a.span b.key b.data) (set_at2 (Zb.mk a.track a.time b.span b.key b.data) (set_at (Zb.mk a.track b.time b.span b.key b.data) (rd_get0 f))))) (by kernel_rfl) (by kernel_rfl))<|wP (lens c.length ((c.set (0+Int.toNat d) a).length) (set_len rfl))<|z0) (by kernel_rfl)
 ·refine gm c_Lv_19 K_Lv_19 (s_Lv_19 c) (wL rZb p0<|v1 g<|wN c.length<|z0) ?_ (by kernel_rfl)
  exact hout c (qj hm).symm
theorem ok_Lv_0 (p0 r:LZa) (hm:m_Lv_0 p0=some r):EE c_Lv_0 K_Lv_0 (s_Lv_0 p0) (Post vf_Lv (res_Lv r)):=by
 obtain ⟨d,a,hm⟩:=bind_some hm
 refine gm c_Lv_9 K_Lv_9 (s_Lv_9 p0 0 (List.replicate (Int.toNat (p0.length:Int)) ((Zb.mk 0 0 0 false []):Zb))) (wL rZb p0<|wO (.rows (List.map rZb (List.replicate (Int.toNat (p0.length:Int)) ((Zb.mk 0 0 0 false []):Zb))))<|wO (zn (Int.toNat (p0.length:Int)))<|wO (zn ((List.replicate (Int.toNat (p0.length:Int)) ((Zb.mk 0 0 0 false []):Zb)).length))<|wP (ck_p a)<|wP (rep_ob rZb (Int.toNat (p0.length:Int)) ((Zb.mk 0 0 0 false []):Zb) [.lit (vI 0),.lit (vI 0),.lit (vI 0),.lit (.bool false),.sl []] (by kernel_rfl))<|wP (len_map rZb (show (Int.toNat (p0.length:Int))=(List.replicate (Int.toNat (p0.length:Int)) ((Zb.mk 0 0 0 false []):Zb)).length from (rep_len (Int.toNat (p0.length:Int)) ((Zb.mk 0 0 0 false []):Zb))))<|wP (lens (Int.toNat (p0.length:Int)) ((List.replicate (Int.toNat (p0.length:Int)) ((Zb.mk 0 0 0 false []):Zb)).length) (rep_len (Int.toNat (p0.length:Int)) ((Zb.mk 0 0 0 false []):Zb)))<|z0) ?_ (by kernel_rfl)
 obtain ⟨e,he,hm⟩:=bind_some hm
 refine loop_rule (u:=.c c_Lv_9) (K:=K_Lv_9) (Q:=(Post vf_Lv (res_Lv r))) (b:=lp_Lv_9 p0) (We:=O_Lv_9 (Post vf_Lv (res_Lv r))) (stJ:=fun s=>s_Lv_9 p0 s.1 s.2) (s:=(0,(List.replicate (Int.toNat (p0.length:Int)) ((Zb.mk 0 0 0 false []):Zb)))) (fun s y hb hin hout=>ok_Lv_9 p0 s.1 s.2 y hb (Post vf_Lv (res_Lv r)) hin hout) he ?_
 show EE c_Lv_19 K_Lv_19 (s_Lv_19 e) _
 exact ok_Lv_19 e r hm
theorem ok_Lv (p0 r:LZa) (hm:m_Lv p0=some r):Runs ext tbl 53 (as_Lv p0) (res_Lv r):=
 runs_of (vf:=vf_Lv) (by kernel_rfl) rfl (st:=(enter vf_Lv (as_Lv p0)).getD default) (by kernel_rfl) (go_on [] 1000 J0 (ok_Lv_0 p0 r hm) (by kernel_rfl))
theorem ok_Ls_0 (p0 r:Zc) (hm:m_Ls_0 p0=some r):EE c_Ls_0 K_Ls_0 (s_Ls_0 p0) (Post vf_Ls (res_Ls r)):=by
 obtain ⟨a,c,hm⟩:=bind_some hm
 obtain ⟨b,d,hm⟩:=bind_some hm
 exact ge (wO (.res (res_Lx a))<|wP (ok_Lx p0.tracks a c)<|wL rZa a<|wO (.res (res_Lv b))<|wP (ok_Lv p0.packets b d)<|wL rZb b<|wR rZa a<|wR rZb b<|z0) (congrArg res_Ls (qj hm)) (by kernel_rfl)
theorem ok_Ls (p0 r:Zc) (hm:m_Ls p0=some r):Runs ext tbl 19 (as_Ls p0) (res_Ls r):=
 runs_of (vf:=vf_Ls) (by kernel_rfl) rfl (st:=(enter vf_Ls (as_Ls p0)).getD default) (by kernel_rfl) (go_on [] 1000 J0 (ok_Ls_0 p0 r hm) (by kernel_rfl))
def O_Sf_7 (Q:VX→St→Prop) (e:(Bool)⊕((Unit))):Prop:=match e with | .inl e=>Q=Post vf_Sf (res_Sf e) | .inr e=>EE c_Sf_23 K_Sf_23 (s_Sf_23) Q
theorem ok_Sf_23 (r:Bool) (hm:m_Sf_23=some r):EE c_Sf_23 K_Sf_23 (s_Sf_23) (Post vf_Sf (res_Sf r)):=by
 exact ge (z0) (congrArg res_Sf (qj hm)) (by kernel_rfl)
theorem ok_Sf_7 (p0:ByteArray) (g:Int) (y) (hm:m_Sf_7 p0 g=some y) (Q)
  (hin:∀ s,y=.inl s→EE c_Sf_7 K_Sf_7 (s_Sf_7 p0 s) Q) (hout:∀ e,y=.inr e→O_Sf_7 Q e):EE c_Sf_7 K_Sf_7 (s_Sf_7 p0 g) Q:=by
 obtain ⟨c,hm⟩|⟨c,hm⟩:=split_ite hm
 ·obtain ⟨d,a,hm⟩:=bind_some hm
  obtain ⟨b,hm⟩|⟨b,hm⟩:=split_ite hm
  ·have hQ:Q=Post vf_Sf (res_Sf false):=hout (.inl false) (qj hm).symm
   subst hQ
   exact ge (u1 c<|wO (.int d)<|wP (sat_nn a)<|wP (sat_at a)<|u4 b<|u1 b<|u1 eT<|z0) (rfl:res_Sf false=res_Sf false) (by kernel_rfl)
  ·obtain ⟨f,hm⟩|⟨f,hm⟩:=split_ite hm
   ·have hQ:Q=Post vf_Sf (res_Sf false):=hout (.inl false) (qj hm).symm
    subst hQ
    exact ge (u1 c<|wO (.int d)<|wP (sat_nn a)<|wP (sat_at a)<|v3 b<|wO (.int d)<|wP (sat_nn a)<|wP (sat_at a)<|v2 b<|u1 f<|z0) (rfl:res_Sf false=res_Sf false) (by kernel_rfl)
   ·exact gw (hin _ (qj hm).symm) (u1 c<|wO (.int d)<|wP (sat_nn a)<|wP (sat_at a)<|v3 b<|wO (.int d)<|wP (sat_nn a)<|wP (sat_at a)<|v2 b<|v1 f<|z0) (by kernel_rfl)
 ·refine gm c_Sf_23 K_Sf_23 (s_Sf_23) (v1 c<|z0) ?_ (by kernel_rfl)
  exact hout (.inr ()) (qj hm).symm
theorem ok_Sf_0 (p0:ByteArray) (r:Bool) (hm:m_Sf_0 p0=some r):EE c_Sf_0 K_Sf_0 (s_Sf_0 p0) (Post vf_Sf (res_Sf r)):=by
 refine gm c_Sf_7 K_Sf_7 (s_Sf_7 p0 0) (z0) ?_ (by kernel_rfl)
 obtain ⟨e,he,hm⟩:=bind_some hm
 refine loop_rule (u:=.c c_Sf_7) (K:=K_Sf_7) (Q:=(Post vf_Sf (res_Sf r))) (b:=lp_Sf_7 p0) (We:=O_Sf_7 (Post vf_Sf (res_Sf r))) (stJ:=fun s=>s_Sf_7 p0 s) (s:=0) (fun s y hb hin hout=>ok_Sf_7 p0 s y hb (Post vf_Sf (res_Sf r)) hin hout) he ?_
 rcases e with e | e
 ·exact congrArg (fun r=>Post vf_Sf (res_Sf r)) (qj hm).symm
 ·show EE c_Sf_23 K_Sf_23 (s_Sf_23) _
  exact ok_Sf_23 r hm
theorem ok_Sf (p0:ByteArray) (r:Bool) (hm:m_Sf p0=some r):Runs ext tbl 139 (as_Sf p0) (res_Sf r):=
 runs_of (vf:=vf_Sf) (by kernel_rfl) rfl (st:=(enter vf_Sf (as_Sf p0)).getD default) (by kernel_rfl) (go_on [] 1000 J0 (ok_Sf_0 p0 r hm) (by kernel_rfl))
theorem ok_Sp_0 (p0:Za) (r:Bool) (hm:m_Sp_0 p0=some r):EE c_Sp_0 K_Sp_0 (s_Sp_0 p0) (Post vf_Sp (res_Sp r)):=by
 obtain ⟨a,hm⟩|⟨a,hm⟩:=split_ite hm
 ·obtain ⟨c,hm⟩|⟨c,hm⟩:=split_ite hm
  ·obtain ⟨d,hm⟩|⟨d,hm⟩:=split_ite hm
   ·obtain ⟨b,hm⟩|⟨b,hm⟩:=split_ite hm
    ·obtain ⟨e,hm⟩|⟨e,hm⟩:=split_ite hm
     ·obtain ⟨f,g,hm⟩:=bind_some hm
      exact ge (u4 a<|u4 c<|u4 d<|u4 b<|u1 b<|u3 e<|wO (.res (res_Sf f))<|wP (ok_Sf p0.name f g)<|u1 e<|z0) (congrArg res_Sp (qj hm)) (by kernel_rfl)
     ·exact ge (u4 a<|u4 c<|u4 d<|u4 b<|u1 b<|v4 e<|z0) (congrArg res_Sp (qj hm)) (by kernel_rfl)
    ·exact ge (u4 a<|u4 c<|u4 d<|v4 b<|v1 b<|v4 eF<|z0) (congrArg res_Sp (qj hm)) (by kernel_rfl)
   ·exact ge (u4 a<|u4 c<|v4 d<|v4 eF<|v4 eF<|v1 eF<|z0) (congrArg res_Sp (qj hm)) (by kernel_rfl)
  ·exact ge (u4 a<|v4 c<|v4 eF<|v4 eF<|v4 eF<|v1 eF<|z0) (congrArg res_Sp (qj hm)) (by kernel_rfl)
 ·exact ge (v4 a<|v4 eF<|v4 eF<|v4 eF<|v4 eF<|v1 eF<|z0) (congrArg res_Sp (qj hm)) (by kernel_rfl)
theorem ok_Sp (p0:Za) (r:Bool) (hm:m_Sp p0=some r):Runs ext tbl 97 (as_Sp p0) (res_Sp r):=
 runs_of (vf:=vf_Sp) (by kernel_rfl) rfl (st:=(enter vf_Sp (as_Sp p0)).getD default) (by kernel_rfl) (go_on [] 1000 J0 (ok_Sp_0 p0 r hm) (by kernel_rfl))
def O_Sq_7 (p0:LZ) (Q:VX→St→Prop) (e:(Bool)⊕((Unit))):Prop:=match e with | .inl e=>Q=Post vf_Sq (res_Sq e) | .inr e=>EE c_Sq_25 K_Sq_25 (s_Sq_25 p0) Q
theorem ok_Sq_25 (p0:LZ) (r:Bool) (hm:m_Sq_25 p0=some r):EE c_Sq_25 K_Sq_25 (s_Sq_25 p0) (Post vf_Sq (res_Sq r)):=by
 obtain ⟨a,hm⟩|⟨a,hm⟩:=split_ite hm
 ·exact ge (wL rZa p0<|u2 a<|wL rZa p0<|u2 a<|z0) (congrArg res_Sq (qj hm)) (by kernel_rfl)
 ·exact ge (wL rZa p0<|v4 a<|z0) (congrArg res_Sq (qj hm)) (by kernel_rfl)
theorem ok_Sq_7 (p0:LZ) (g:Int) (y) (hm:m_Sq_7 p0 g=some y) (Q)
  (hin:∀ s,y=.inl s→EE c_Sq_7 K_Sq_7 (s_Sq_7 p0 s) Q) (hout:∀ e,y=.inr e→O_Sq_7 p0 Q e):EE c_Sq_7 K_Sq_7 (s_Sq_7 p0 g) Q:=by
 obtain ⟨a,hm⟩|⟨a,hm⟩:=split_ite hm
 ·obtain ⟨b,c,hm⟩:=bind_some hm
  obtain ⟨d,h,hm⟩:=bind_some hm
  obtain ⟨f,hm⟩|⟨f,hm⟩:=split_ite hm
  ·exact gw (hin _ (qj hm).symm) (u1 a<|wO (.row (rZa b))<|wO (.res (res_Sp d))<|wP (rd_nn c)<|wP (at_row rZa (rd_get c))<|wP (ok_Sp b d h)<|v1 (not_f f)<|z0) (by kernel_rfl)
  ·have hQ:Q=Post vf_Sq (res_Sq false):=hout (.inl false) (qj hm).symm
   subst hQ
   exact ge (u1 a<|wO (.row (rZa b))<|wO (.res (res_Sp d))<|wP (rd_nn c)<|wP (at_row rZa (rd_get c))<|wP (ok_Sp b d h)<|u1 (not_t f)<|z0) (rfl:res_Sq false=res_Sq false) (by kernel_rfl)
 ·refine gm c_Sq_25 K_Sq_25 (s_Sq_25 p0) (v1 a<|z0) ?_ (by kernel_rfl)
  exact hout (.inr ()) (qj hm).symm
theorem ok_Sq_0 (p0:LZ) (r:Bool) (hm:m_Sq_0 p0=some r):EE c_Sq_0 K_Sq_0 (s_Sq_0 p0) (Post vf_Sq (res_Sq r)):=by
 refine gm c_Sq_7 K_Sq_7 (s_Sq_7 p0 0) (wL rZa p0<|z0) ?_ (by kernel_rfl)
 obtain ⟨e,he,hm⟩:=bind_some hm
 refine loop_rule (u:=.c c_Sq_7) (K:=K_Sq_7) (Q:=(Post vf_Sq (res_Sq r))) (b:=lp_Sq_7 p0) (We:=O_Sq_7 p0 (Post vf_Sq (res_Sq r))) (stJ:=fun s=>s_Sq_7 p0 s) (s:=0) (fun s y hb hin hout=>ok_Sq_7 p0 s y hb (Post vf_Sq (res_Sq r)) hin hout) he ?_
 rcases e with e | e
 ·exact congrArg (fun r=>Post vf_Sq (res_Sq r)) (qj hm).symm
 ·show EE c_Sq_25 K_Sq_25 (s_Sq_25 p0) _
  exact ok_Sq_25 p0 r hm
theorem ok_Sq (p0:LZ) (r:Bool) (hm:m_Sq p0=some r):Runs ext tbl 142 (as_Sq p0) (res_Sq r):=
 runs_of (vf:=vf_Sq) (by kernel_rfl) rfl (st:=(enter vf_Sq (as_Sq p0)).getD default) (by kernel_rfl) (go_on [] 1000 J0 (ok_Sq_0 p0 r hm) (by kernel_rfl))
theorem ok_So_0 (p0:Int) (r:Bool) (hm:m_So_0 p0=some r):EE c_So_0 K_So_0 (s_So_0 p0) (Post vf_So (res_So r)):=by
 obtain ⟨a,hm⟩|⟨a,hm⟩:=split_ite hm
 ·exact ge (u3 a<|z0) (congrArg res_So (qj hm)) (by kernel_rfl)
 ·exact ge (v3 a<|z0) (congrArg res_So (qj hm)) (by kernel_rfl)
theorem ok_So (p0:Int) (r:Bool) (hm:m_So p0=some r):Runs ext tbl 127 (as_So p0) (res_So r):=
 runs_of (vf:=vf_So) (by kernel_rfl) rfl (st:=(enter vf_So (as_So p0)).getD default) (by kernel_rfl) (go_on [] 1000 J0 (ok_So_0 p0 r hm) (by kernel_rfl))
def O_Sn_36 (Q:VX→St→Prop) (e:(Bool)⊕((Unit))):Prop:=match e with | .inl e=>Q=Post vf_Sn (res_Sn e) | .inr e=>EE c_Sn_74 K_Sn_74 (s_Sn_74) Q
def O_Sn_17 (p0:Zc) (Q:VX→St→Prop) (e:(LI)):Prop:=EE c_Sn_29 K_Sn_29 (s_Sn_29 p0 e) Q
theorem ok_Sn_62 (f:Int) (p0:Zc) (g:Int) (a:Zb) (b:LI) (y) (hm:m_Sn_62 f p0 g a b=some y) (Q)
  (hin:∀ s,y=.inl s→EE c_Sn_36 K_Sn_36 (s_Sn_36 p0 s.1 s.2.1 s.2.2) Q) (hout:∀ e,y=.inr e→O_Sn_36 Q e):EE c_Sn_62 K_Sn_62 (s_Sn_62 f p0 g a b) Q:=by
 obtain ⟨h,c,hm⟩:=bind_some hm
 obtain ⟨d,hm⟩|⟨d,hm⟩:=split_ite hm
 ·have hQ:Q=Post vf_Sn (res_Sn false):=hout (.inl false) (qj hm).symm
  subst hQ
  exact ge (wO (.rows (mi (b.set (0+Int.toNat a.track) a.time)))<|wP (rd_in rfl c)<|wP (put_ob (rI .i64) a.time 0 (.lit (vI a.time)) (rd_get0 c) (by kernel_rfl) (by kernel_rfl))<|wL (rI .u8) a.data<|u1 d<|z0) (rfl:res_Sn false=res_Sn false) (by kernel_rfl)
 ·exact gw (hin _ (qj hm).symm) (wO (.rows (mi (b.set (0+Int.toNat a.track) a.time)))<|wP (rd_in rfl c)<|wP (put_ob (rI .i64) a.time 0 (.lit (vI a.time)) (rd_get0 c) (by kernel_rfl) (by kernel_rfl))<|wL (rI .u8) a.data<|v1 d<|wO (zn ((b.set (0+Int.toNat a.track) a.time).length))<|wP (lens b.length ((b.set (0+Int.toNat a.track) a.time).length) (set_len rfl))<|z0) (by kernel_rfl)
theorem ok_Sn_74 (r:Bool) (hm:m_Sn_74=some r):EE c_Sn_74 K_Sn_74 (s_Sn_74) (Post vf_Sn (res_Sn r)):=by
 exact ge (z0) (congrArg res_Sn (qj hm)) (by kernel_rfl)
theorem ok_Sn_36 (p0:Zc) (t u:Int) (q:LI) (y) (hm:m_Sn_36 p0 t u q=some y) (Q)
  (hin:∀ s,y=.inl s→EE c_Sn_36 K_Sn_36 (s_Sn_36 p0 s.1 s.2.1 s.2.2) Q) (hout:∀ e,y=.inr e→O_Sn_36 Q e):EE c_Sn_36 K_Sn_36 (s_Sn_36 p0 t u q) Q:=by
 obtain ⟨j,hm⟩|⟨j,hm⟩:=split_ite hm
 ·obtain ⟨b,d,hm⟩:=bind_some hm
  obtain ⟨a,hm⟩|⟨a,hm⟩:=split_ite hm
  ·have hQ:Q=Post vf_Sn (res_Sn false):=hout (.inl false) (qj hm).symm
   subst hQ
   exact ge (u1 j<|wO (.row (rZb b))<|wP (rd_nn d)<|wP (at_row rZb (rd_get d))<|u4 a<|u3 a<|u4 eT<|u4 eT<|u3 eT<|z0) (rfl:res_Sn false=res_Sn false) (by kernel_rfl)
  ·obtain ⟨f,hm⟩|⟨f,hm⟩:=split_ite hm
   ·have hQ:Q=Post vf_Sn (res_Sn false):=hout (.inl false) (qj hm).symm
    subst hQ
    exact ge (u1 j<|wO (.row (rZb b))<|wP (rd_nn d)<|wP (at_row rZb (rd_get d))<|v4 a<|v1 a<|wL rZa p0.tracks<|v2 a<|u4 f<|u1 f<|u4 eT<|u2 eT<|z0) (rfl:res_Sn false=res_Sn false) (by kernel_rfl)
   ·obtain ⟨i,n,hm⟩:=bind_some hm
    obtain ⟨h,hm⟩|⟨h,hm⟩:=split_ite hm
    ·obtain ⟨k,p,hm⟩:=bind_some hm
     obtain ⟨o,hm⟩|⟨o,hm⟩:=split_ite hm
     ·obtain ⟨l,g,hm⟩:=bind_some hm
      obtain ⟨c,hm⟩|⟨c,hm⟩:=split_ite hm
      ·have hQ:Q=Post vf_Sn (res_Sn false):=hout (.inl false) (qj hm).symm
       subst hQ
       exact ge (u1 j<|wO (.row (rZb b))<|wP (rd_nn d)<|wP (at_row rZb (rd_get d))<|v4 a<|v1 a<|wL rZa p0.tracks<|v2 a<|v3 f<|wO (.res (res_So i))<|wP (ok_So b.time i n)<|v2 f<|v3 (not_f h)<|wO (.res (res_So k))<|wP (ok_So b.span k p)<|v2 (not_f h)<|v1 (not_f o)<|wO (.row ((rI .i64) l))<|wP (rd_in rfl g)<|wP (at_row (rI .i64) (rd_get0 g))<|u4 c<|u4 c<|u1 c<|u1 eT<|z0) (rfl:res_Sn false=res_Sn false) (by kernel_rfl)
      ·obtain ⟨m,hm⟩|⟨m,hm⟩:=split_ite hm
       ·obtain ⟨r,hm⟩|⟨r,hm⟩:=split_ite hm
        ·exact gw (ok_Sn_62 _ _ _ _ _ y hm Q hin hout) (u1 j<|wO (.row (rZb b))<|wP (rd_nn d)<|wP (at_row rZb (rd_get d))<|v4 a<|v1 a<|wL rZa p0.tracks<|v2 a<|v3 f<|wO (.res (res_So i))<|wP (ok_So b.time i n)<|v2 f<|v3 (not_f h)<|wO (.res (res_So k))<|wP (ok_So b.span k p)<|v2 (not_f h)<|v1 (not_f o)<|wO (.row ((rI .i64) l))<|wP (rd_in rfl g)<|wP (at_row (rI .i64) (rd_get0 g))<|v4 c<|wP (rd_in rfl g)<|v1 c<|wO (.row ((rI .i64) l))<|wP (at_row (rI .i64) (rd_get0 g))<|v2 c<|u3 m<|v1 c<|u1 m<|v1 c<|v1 (not_f r)<|wN q.length<|z0) (by kernel_rfl)
        ·have hQ:Q=Post vf_Sn (res_Sn false):=hout (.inl false) (qj hm).symm
         subst hQ
         exact ge (u1 j<|wO (.row (rZb b))<|wP (rd_nn d)<|wP (at_row rZb (rd_get d))<|v4 a<|v1 a<|wL rZa p0.tracks<|v2 a<|v3 f<|wO (.res (res_So i))<|wP (ok_So b.time i n)<|v2 f<|v3 (not_f h)<|wO (.res (res_So k))<|wP (ok_So b.span k p)<|v2 (not_f h)<|v1 (not_f o)<|wO (.row ((rI .i64) l))<|wP (rd_in rfl g)<|wP (at_row (rI .i64) (rd_get0 g))<|v4 c<|wP (rd_in rfl g)<|v1 c<|wO (.row ((rI .i64) l))<|wP (at_row (rI .i64) (rd_get0 g))<|v2 c<|u3 m<|v1 c<|u1 m<|v1 c<|u1 (not_t r)<|z0) (rfl:res_Sn false=res_Sn false) (by kernel_rfl)
       ·exact gw (ok_Sn_62 _ _ _ _ _ y hm Q hin hout) (u1 j<|wO (.row (rZb b))<|wP (rd_nn d)<|wP (at_row rZb (rd_get d))<|v4 a<|v1 a<|wL rZa p0.tracks<|v2 a<|v3 f<|wO (.res (res_So i))<|wP (ok_So b.time i n)<|v2 f<|v3 (not_f h)<|wO (.res (res_So k))<|wP (ok_So b.span k p)<|v2 (not_f h)<|v1 (not_f o)<|wO (.row ((rI .i64) l))<|wP (rd_in rfl g)<|wP (at_row (rI .i64) (rd_get0 g))<|v4 c<|wP (rd_in rfl g)<|v1 c<|wO (.row ((rI .i64) l))<|wP (at_row (rI .i64) (rd_get0 g))<|v2 c<|v3 m<|v1 c<|v1 m<|v1 c<|v1 eF<|wN q.length<|z0) (by kernel_rfl)
     ·have hQ:Q=Post vf_Sn (res_Sn false):=hout (.inl false) (qj hm).symm
      subst hQ
      exact ge (u1 j<|wO (.row (rZb b))<|wP (rd_nn d)<|wP (at_row rZb (rd_get d))<|v4 a<|v1 a<|wL rZa p0.tracks<|v2 a<|v3 f<|wO (.res (res_So i))<|wP (ok_So b.time i n)<|v2 f<|v3 (not_f h)<|wO (.res (res_So k))<|wP (ok_So b.span k p)<|v2 (not_f h)<|u1 (not_t o)<|z0) (rfl:res_Sn false=res_Sn false) (by kernel_rfl)
    ·have hQ:Q=Post vf_Sn (res_Sn false):=hout (.inl false) (qj hm).symm
     subst hQ
     exact ge (u1 j<|wO (.row (rZb b))<|wP (rd_nn d)<|wP (at_row rZb (rd_get d))<|v4 a<|v1 a<|wL rZa p0.tracks<|v2 a<|v3 f<|wO (.res (res_So i))<|wP (ok_So b.time i n)<|v2 f<|u4 (not_t h)<|u1 (not_t h)<|u1 eT<|z0) (rfl:res_Sn false=res_Sn false) (by kernel_rfl)
 ·refine gm c_Sn_74 K_Sn_74 (s_Sn_74) (v1 j<|z0) ?_ (by kernel_rfl)
  exact hout (.inr ()) (qj hm).symm
theorem ok_Sn_29 (p0:Zc) (a:LI) (r:Bool) (hm:m_Sn_29 p0 a=some r):EE c_Sn_29 K_Sn_29 (s_Sn_29 p0 a) (Post vf_Sn (res_Sn r)):=by
 refine gm c_Sn_36 K_Sn_36 (s_Sn_36 p0 0 0 a) (wL rZb p0.packets<|wN a.length<|z0) ?_ (by kernel_rfl)
 obtain ⟨e,he,hm⟩:=bind_some hm
 refine loop_rule (u:=.c c_Sn_36) (K:=K_Sn_36) (Q:=(Post vf_Sn (res_Sn r))) (b:=lp_Sn_36 p0) (We:=O_Sn_36 (Post vf_Sn (res_Sn r))) (stJ:=fun s=>s_Sn_36 p0 s.1 s.2.1 s.2.2) (s:=(0,0,a)) (fun s y hb hin hout=>ok_Sn_36 p0 s.1 s.2.1 s.2.2 y hb (Post vf_Sn (res_Sn r)) hin hout) he ?_
 rcases e with e | e
 ·exact congrArg (fun r=>Post vf_Sn (res_Sn r)) (qj hm).symm
 ·show EE c_Sn_74 K_Sn_74 (s_Sn_74) _
  exact ok_Sn_74 r hm
theorem ok_Sn_17 (p0:Zc) (d b:Int) (a:LI) (y) (hm:m_Sn_17 p0 d b a=some y) (Q)
  (hin:∀ s,y=.inl s→EE c_Sn_17 K_Sn_17 (s_Sn_17 p0 s.1 s.2.1 s.2.2) Q) (hout:∀ e,y=.inr e→O_Sn_17 p0 Q e):EE c_Sn_17 K_Sn_17 (s_Sn_17 p0 d b a) Q:=by
 obtain ⟨c,hm⟩|⟨c,hm⟩:=split_ite hm
 ·obtain ⟨g,f,hm⟩:=bind_some hm
  exact gw (hin _ (qj hm).symm) (u1 c<|wO (.rows (mi (a.set (0+Int.toNat b) (-1))))<|wO (zn ((a.set (0+Int.toNat b) (-1)).length))<|wP (rd_in rfl f)<|wP (put_ob (rI .i64) (-1) 0 (.lit (vI (-1))) (rd_get0 f) (by kernel_rfl) (by kernel_rfl))<|wP (lens a.length ((a.set (0+Int.toNat b) (-1)).length) (set_len rfl))<|z0) (by kernel_rfl)
 ·refine gm c_Sn_29 K_Sn_29 (s_Sn_29 p0 a) (v1 c<|wN a.length<|z0) ?_ (by kernel_rfl)
  exact hout a (qj hm).symm
theorem ok_Sn_0 (p0:Zc) (r:Bool) (hm:m_Sn_0 p0=some r):EE c_Sn_0 K_Sn_0 (s_Sn_0 p0) (Post vf_Sn (res_Sn r)):=by
 obtain ⟨d,f,hm⟩:=bind_some hm
 obtain ⟨a,hm⟩|⟨a,hm⟩:=split_ite hm
 ·obtain ⟨g,hm⟩|⟨g,hm⟩:=split_ite hm
  ·exact ge (wO (.res (res_Sq d))<|wP (ok_Sq p0.tracks d f)<|v3 (not_f a)<|wL rZb p0.packets<|v2 (not_f a)<|u1 g<|z0) (congrArg res_Sn (qj hm)) (by kernel_rfl)
  ·obtain ⟨i,h,hm⟩:=bind_some hm
   refine gm c_Sn_17 K_Sn_17 (s_Sn_17 p0 ((Int.toNat (p0.tracks.length:Int)):Int) 0 (List.replicate (Int.toNat (p0.tracks.length:Int)) (0:Int))) (wO (.res (res_Sq d))<|wP (ok_Sq p0.tracks d f)<|v3 (not_f a)<|wL rZb p0.packets<|v2 (not_f a)<|v1 g<|wL rZa p0.tracks<|wO (.rows (mi (List.replicate (Int.toNat (p0.tracks.length:Int)) (0:Int))))<|wO (zn (Int.toNat (p0.tracks.length:Int)))<|wO (zn ((List.replicate (Int.toNat (p0.tracks.length:Int)) (0:Int)).length))<|wP (ck_p h)<|wP (rep_ob (rI .i64) (Int.toNat (p0.tracks.length:Int)) (0:Int) [.lit (vI 0)] (by kernel_rfl))<|wP (len_map (rI .i64) (show (Int.toNat (p0.tracks.length:Int))=(List.replicate (Int.toNat (p0.tracks.length:Int)) (0:Int)).length from (rep_len (Int.toNat (p0.tracks.length:Int)) (0:Int))))<|wP (lens (Int.toNat (p0.tracks.length:Int)) ((List.replicate (Int.toNat (p0.tracks.length:Int)) (0:Int)).length) (rep_len (Int.toNat (p0.tracks.length:Int)) (0:Int)))<|z0) ?_ (by kernel_rfl)
   obtain ⟨e,he,hm⟩:=bind_some hm
   refine loop_rule (u:=.c c_Sn_17) (K:=K_Sn_17) (Q:=(Post vf_Sn (res_Sn r))) (b:=lp_Sn_17 p0) (We:=O_Sn_17 p0 (Post vf_Sn (res_Sn r))) (stJ:=fun s=>s_Sn_17 p0 s.1 s.2.1 s.2.2) (s:=(((Int.toNat (p0.tracks.length:Int)):Int),0,(List.replicate (Int.toNat (p0.tracks.length:Int)) (0:Int)))) (fun s y hb hin hout=>ok_Sn_17 p0 s.1 s.2.1 s.2.2 y hb (Post vf_Sn (res_Sn r)) hin hout) he ?_
   show EE c_Sn_29 K_Sn_29 (s_Sn_29 p0 e) _
   exact ok_Sn_29 p0 e r hm
 ·exact ge (wO (.res (res_Sq d))<|wP (ok_Sq p0.tracks d f)<|u4 (not_t a)<|u1 (not_t a)<|u1 eT<|z0) (congrArg res_Sn (qj hm)) (by kernel_rfl)
theorem ok_Sn (p0:Zc) (r:Bool) (hm:m_Sn p0=some r):Runs ext tbl 103 (as_Sn p0) (res_Sn r):=
 runs_of (vf:=vf_Sn) (by kernel_rfl) rfl (st:=(enter vf_Sn (as_Sn p0)).getD default) (by kernel_rfl) (go_on [] 1000 J0 (ok_Sn_0 p0 r hm) (by kernel_rfl))
theorem ok_Sg_0 (p0:Zc) (p1 p2:Int) (r:Bool) (hm:m_Sg_0 p0 p1 p2=some r):EE c_Sg_0 K_Sg_0 (s_Sg_0 p0 p1 p2) (Post vf_Sg (res_Sg r)):=by
 obtain ⟨f,a,hm⟩:=bind_some hm
 obtain ⟨g,b,hm⟩:=bind_some hm
 obtain ⟨h,c,hm⟩:=bind_some hm
 obtain ⟨i,d,hm⟩:=bind_some hm
 obtain ⟨e,hm⟩|⟨e,hm⟩:=split_ite hm
 ·exact ge (wO (.row (rZb f))<|wO (.row (rZb g))<|wO (.row (rZa h))<|wO (.row (rZa i))<|wO zT<|wP (rd_nn a)<|wP (at_row rZb (rd_get a))<|wP (rd_nn b)<|wP (at_row rZb (rd_get b))<|wP (rd_nn c)<|wP (at_row rZa (rd_get c))<|wP (rd_nn d)<|wP (at_row rZa (rd_get d))<|wP e<|z0) (congrArg res_Sg (qj hm)) (by kernel_rfl)
 ·obtain ⟨j,hm⟩|⟨j,hm⟩:=split_ite hm
  ·exact ge (wO (.row (rZb f))<|wO (.row (rZb g))<|wO (.row (rZa h))<|wO (.row (rZa i))<|wO zF<|wO zT<|wP (rd_nn a)<|wP (at_row rZb (rd_get a))<|wP (rd_nn b)<|wP (at_row rZb (rd_get b))<|wP (rd_nn c)<|wP (at_row rZa (rd_get c))<|wP (rd_nn d)<|wP (at_row rZa (rd_get d))<|wP e<|wP j<|z0) (congrArg res_Sg (qj hm)) (by kernel_rfl)
  ·exact ge (wO (.row (rZb f))<|wO (.row (rZb g))<|wO (.row (rZa h))<|wO (.row (rZa i))<|wO zF<|wO zF<|wP (rd_nn a)<|wP (at_row rZb (rd_get a))<|wP (rd_nn b)<|wP (at_row rZb (rd_get b))<|wP (rd_nn c)<|wP (at_row rZa (rd_get c))<|wP (rd_nn d)<|wP (at_row rZa (rd_get d))<|wP e<|wP j<|z0) (congrArg res_Sg (qj hm)) (by kernel_rfl)
theorem ok_Sg (p0:Zc) (p1 p2:Int) (r:Bool) (hm:m_Sg p0 p1 p2=some r):Runs ext tbl 104 (as_Sg p0 p1 p2) (res_Sg r):=
 runs_of (vf:=vf_Sg) (by kernel_rfl) rfl (st:=(enter vf_Sg (as_Sg p0 p1 p2)).getD default) (by kernel_rfl) (go_on [] 1000 J0 (ok_Sg_0 p0 p1 p2 r hm) (by kernel_rfl))
def O_Sb_15 (Q:VX→St→Prop) (e:(Bool)⊕((Unit))):Prop:=match e with | .inl e=>Q=Post vf_Sb (res_Sb e) | .inr e=>EE c_Sb_31 K_Sb_31 (s_Sb_31) Q
theorem ok_Sb_31 (r:Bool) (hm:m_Sb_31=some r):EE c_Sb_31 K_Sb_31 (s_Sb_31) (Post vf_Sb (res_Sb r)):=by
 exact ge (z0) (congrArg res_Sb (qj hm)) (by kernel_rfl)
theorem ok_Sb_15 (p0:Zc) (a:Int) (y) (hm:m_Sb_15 p0 a=some y) (Q)
  (hin:∀ s,y=.inl s→EE c_Sb_15 K_Sb_15 (s_Sb_15 p0 s) Q) (hout:∀ e,y=.inr e→O_Sb_15 Q e):EE c_Sb_15 K_Sb_15 (s_Sb_15 p0 a) Q:=by
 obtain ⟨b,hm⟩|⟨b,hm⟩:=split_ite hm
 ·obtain ⟨c,f,hm⟩:=bind_some hm
  obtain ⟨d,hm⟩|⟨d,hm⟩:=split_ite hm
  ·exact gw (hin _ (qj hm).symm) (wL rZb p0.packets<|u1 b<|wO (.res (res_Sg c))<|wP (ok_Sg p0 (w64 (a - 1)) a c f)<|v1 (not_f d)<|z0) (by kernel_rfl)
  ·have hQ:Q=Post vf_Sb (res_Sb false):=hout (.inl false) (qj hm).symm
   subst hQ
   exact ge (wL rZb p0.packets<|u1 b<|wO (.res (res_Sg c))<|wP (ok_Sg p0 (w64 (a - 1)) a c f)<|u1 (not_t d)<|z0) (rfl:res_Sb false=res_Sb false) (by kernel_rfl)
 ·refine gm c_Sb_31 K_Sb_31 (s_Sb_31) (wL rZb p0.packets<|v1 b<|z0) ?_ (by kernel_rfl)
  exact hout (.inr ()) (qj hm).symm
theorem ok_Sb_0 (p0:Zc) (r:Bool) (hm:m_Sb_0 p0=some r):EE c_Sb_0 K_Sb_0 (s_Sb_0 p0) (Post vf_Sb (res_Sb r)):=by
 obtain ⟨a,f,hm⟩:=bind_some hm
 obtain ⟨d,hm⟩|⟨d,hm⟩:=split_ite hm
 ·refine gm c_Sb_15 K_Sb_15 (s_Sb_15 p0 1) (wO (.res (res_Sn a))<|wP (ok_Sn p0 a f)<|v1 (not_f d)<|z0) ?_ (by kernel_rfl)
  obtain ⟨e,he,hm⟩:=bind_some hm
  refine loop_rule (u:=.c c_Sb_15) (K:=K_Sb_15) (Q:=(Post vf_Sb (res_Sb r))) (b:=lp_Sb_15 p0) (We:=O_Sb_15 (Post vf_Sb (res_Sb r))) (stJ:=fun s=>s_Sb_15 p0 s) (s:=1) (fun s y hb hin hout=>ok_Sb_15 p0 s y hb (Post vf_Sb (res_Sb r)) hin hout) he ?_
  rcases e with e | e
  ·exact congrArg (fun r=>Post vf_Sb (res_Sb r)) (qj hm).symm
  ·show EE c_Sb_31 K_Sb_31 (s_Sb_31) _
   exact ok_Sb_31 r hm
 ·exact ge (wO (.res (res_Sn a))<|wP (ok_Sn p0 a f)<|u1 (not_t d)<|z0) (congrArg res_Sb (qj hm)) (by kernel_rfl)
theorem ok_Sb (p0:Zc) (r:Bool) (hm:m_Sb p0=some r):Runs ext tbl 48 (as_Sb p0) (res_Sb r):=
 runs_of (vf:=vf_Sb) (by kernel_rfl) rfl (st:=(enter vf_Sb (as_Sb p0)).getD default) (by kernel_rfl) (go_on [] 1000 J0 (ok_Sb_0 p0 r hm) (by kernel_rfl))
def O_Sc_7 (Q:VX→St→Prop) (e:(Int×LI)):Prop:=EE c_Sc_17 K_Sc_17 (s_Sc_17 e.1 e.2) Q
theorem ok_Sc_17 (a:Int) (b r:LI) (hm:m_Sc_17 a b=some r):EE c_Sc_17 K_Sc_17 (s_Sc_17 a b) (Post vf_Sc (res_Sc r)):=by
 obtain ⟨d,c,hm⟩:=bind_some hm
 exact ge (wO (.rows (List.map (rI .u8) ([(wr .u8 a)]:LI)))<|wO (zn 1)<|wO (.rows (List.map (rI .u8) (b++([(wr .u8 a)]:LI))))<|wO (zn ((b++([(wr .u8 a)]:LI)).length))<|wO (.rows (List.map (rI .u8) (b++([(wr .u8 a)]:LI))))<|wP (Eq.refl (List.map (rI .u8) ([(wr .u8 a)]:LI)))<|wP (len_map (rI .u8) (show 1=([(wr .u8 a)]:LI).length from rfl))<|wP (all_le (rI .u8) ([(wr .u8 a)]:LI) rfl)<|wP (app_ck (rI .u8) b ([(wr .u8 a)]:LI) rfl rfl c)<|wP (app_tell (rI .u8) b ([(wr .u8 a)]:LI) rfl rfl)<|wP (len_map (rI .u8) (show (b++([(wr .u8 a)]:LI)).length=(b++([(wr .u8 a)]:LI)).length from rfl))<|wP (all_le0 (rI .u8) (b++([(wr .u8 a)]:LI)) rfl)<|wP (all_t (rI .u8) (b++([(wr .u8 a)]:LI)) rfl)<|z0) (congrArg res_Sc (qj hm)) (by kernel_rfl)
theorem ok_Sc_7 (a:Int) (b:LI) (y) (hm:m_Sc_7 a b=some y) (Q)
  (hin:∀ s,y=.inl s→EE c_Sc_7 K_Sc_7 (s_Sc_7 s.1 s.2) Q) (hout:∀ e,y=.inr e→O_Sc_7 Q e):EE c_Sc_7 K_Sc_7 (s_Sc_7 a b) Q:=by
 obtain ⟨c,hm⟩|⟨c,hm⟩:=split_ite hm
 ·obtain ⟨f,d,hm⟩:=bind_some hm
  exact gw (hin _ (qj hm).symm) (u1 c<|wO (.rows (List.map (rI .u8) ([(wr .u8 ((wr .u8 (Int.tmod a 128))+128))]:LI)))<|wO (zn 1)<|wO (.rows (List.map (rI .u8) (b++([(wr .u8 ((wr .u8 (Int.tmod a 128))+128))]:LI))))<|wO (zn ((b++([(wr .u8 ((wr .u8 (Int.tmod a 128))+128))]:LI)).length))<|wO (zn ((b++([(wr .u8 ((wr .u8 (Int.tmod a 128))+128))]:LI)).length))<|wP (by decide:(128:Int)≠0)<|wP (Eq.refl (List.map (rI .u8) ([(wr .u8 ((wr .u8 (Int.tmod a 128))+128))]:LI)))<|wP (len_map (rI .u8) (show 1=([(wr .u8 ((wr .u8 (Int.tmod a 128))+128))]:LI).length from rfl))<|wP (all_le (rI .u8) ([(wr .u8 ((wr .u8 (Int.tmod a 128))+128))]:LI) rfl)<|wP (app_ck (rI .u8) b ([(wr .u8 ((wr .u8 (Int.tmod a 128))+128))]:LI) rfl rfl d)<|wP (app_tell (rI .u8) b ([(wr .u8 ((wr .u8 (Int.tmod a 128))+128))]:LI) rfl rfl)<|wP (len_map (rI .u8) (show (b++([(wr .u8 ((wr .u8 (Int.tmod a 128))+128))]:LI)).length=(b++([(wr .u8 ((wr .u8 (Int.tmod a 128))+128))]:LI)).length from rfl))<|wP (by decide:(128:Int)≠0)<|wP (lens ((b++([(wr .u8 ((wr .u8 (Int.tmod a 128))+128))]:LI)).length) ((b++([(wr .u8 ((wr .u8 (Int.tmod a 128))+128))]:LI)).length) rfl)<|z0) (by kernel_rfl)
 ·refine gm c_Sc_17 K_Sc_17 (s_Sc_17 a b) (v1 c<|wN b.length<|z0) ?_ (by kernel_rfl)
  exact hout (a,b) (qj hm).symm
theorem ok_Sc_0 (p0:Int) (r:LI) (hm:m_Sc_0 p0=some r):EE c_Sc_0 K_Sc_0 (s_Sc_0 p0) (Post vf_Sc (res_Sc r)):=by
 refine gm c_Sc_7 K_Sc_7 (s_Sc_7 p0 ([]:LI)) (wO (zn (([]:LI).length))<|wP (lens 0 (([]:LI).length) rfl)<|z0) ?_ (by kernel_rfl)
 obtain ⟨e,he,hm⟩:=bind_some hm
 refine loop_rule (u:=.c c_Sc_7) (K:=K_Sc_7) (Q:=(Post vf_Sc (res_Sc r))) (b:=lp_Sc_7) (We:=O_Sc_7 (Post vf_Sc (res_Sc r))) (stJ:=fun s=>s_Sc_7 s.1 s.2) (s:=(p0,([]:LI))) (fun s y hb hin hout=>ok_Sc_7 s.1 s.2 y hb (Post vf_Sc (res_Sc r)) hin hout) he ?_
 show EE c_Sc_17 K_Sc_17 (s_Sc_17 e.1 e.2) _
 exact ok_Sc_17 e.1 e.2 r hm
theorem ok_Sc (p0:Int) (r:LI) (hm:m_Sc p0=some r):Runs ext tbl 143 (as_Sc p0) (res_Sc r):=
 runs_of (vf:=vf_Sc) (by kernel_rfl) rfl (st:=(enter vf_Sc (as_Sc p0)).getD default) (by kernel_rfl) (go_on [] 1000 J0 (ok_Sc_0 p0 r hm) (by kernel_rfl))
def O_Sm_7 (Q:VX→St→Prop) (e:(LI)):Prop:=EE c_Sm_19 K_Sm_19 (s_Sm_19 e) Q
theorem ok_Sm_19 (a r:LI) (hm:m_Sm_19 a=some r):EE c_Sm_19 K_Sm_19 (s_Sm_19 a) (Post vf_Sm (res_Sm r)):=by
 exact ge (wR (rI .u8) a<|z0) (congrArg res_Sm (qj hm)) (by kernel_rfl)
theorem ok_Sm_7 (p1:LI) (d:Int) (a:LI) (y) (hm:m_Sm_7 p1 d a=some y) (Q)
  (hin:∀ s,y=.inl s→EE c_Sm_7 K_Sm_7 (s_Sm_7 p1 s.1 s.2) Q) (hout:∀ e,y=.inr e→O_Sm_7 Q e):EE c_Sm_7 K_Sm_7 (s_Sm_7 p1 d a) Q:=by
 obtain ⟨c,hm⟩|⟨c,hm⟩:=split_ite hm
 ·obtain ⟨f,g,hm⟩:=bind_some hm
  obtain ⟨b,h,hm⟩:=bind_some hm
  obtain ⟨j,i,hm⟩:=bind_some hm
  exact gw (hin _ (qj hm).symm) (u1 c<|wO (.row ((rI .i64) f))<|wO (.res (res_Sc b))<|wP (rd_nn g)<|wP (at_row (rI .i64) (rd_get g))<|wP (ok_Sc (wr .u64 f) b h)<|wL (rI .u8) b<|wO (.rows (List.map (rI .u8) (a++b)))<|wO (zn ((a++b).length))<|wO (zn ((a++b).length))<|wP (all_le (rI .u8) b rfl)<|wP (app_ck (rI .u8) a b rfl rfl i)<|wP (app_tell (rI .u8) a b rfl rfl)<|wP (len_map (rI .u8) (show (a++b).length=(a++b).length from rfl))<|wP (lens ((a++b).length) ((a++b).length) rfl)<|z0) (by kernel_rfl)
 ·refine gm c_Sm_19 K_Sm_19 (s_Sm_19 a) (v1 c<|wN a.length<|z0) ?_ (by kernel_rfl)
  exact hout a (qj hm).symm
theorem ok_Sm_0 (p1 p0 r:LI) (hm:m_Sm_0 p1 p0=some r):EE c_Sm_0 K_Sm_0 (s_Sm_0 p1 p0) (Post vf_Sm (res_Sm r)):=by
 refine gm c_Sm_7 K_Sm_7 (s_Sm_7 p1 0 p0) (wL (rI .i64) p1<|wN p0.length<|z0) ?_ (by kernel_rfl)
 obtain ⟨e,he,hm⟩:=bind_some hm
 refine loop_rule (u:=.c c_Sm_7) (K:=K_Sm_7) (Q:=(Post vf_Sm (res_Sm r))) (b:=lp_Sm_7 p1) (We:=O_Sm_7 (Post vf_Sm (res_Sm r))) (stJ:=fun s=>s_Sm_7 p1 s.1 s.2) (s:=(0,p0)) (fun s y hb hin hout=>ok_Sm_7 p1 s.1 s.2 y hb (Post vf_Sm (res_Sm r)) hin hout) he ?_
 show EE c_Sm_19 K_Sm_19 (s_Sm_19 e) _
 exact ok_Sm_19 e r hm
theorem ok_Sm (p0 p1 r:LI) (hm:m_Sm p0 p1=some r):Runs ext tbl 105 (as_Sm p0 p1) (res_Sm r):=
 runs_of (vf:=vf_Sm) (by kernel_rfl) rfl (st:=(enter vf_Sm (as_Sm p0 p1)).getD default) (by kernel_rfl) (go_on [zn p0.length] 1000 (J (len_map (rI .u8) (rfl:p0.length=p0.length)) J0) (ok_Sm_0 p1 p0 r hm) (by kernel_rfl))
def O_Sa_25 (p0:LI) (a:Int) (Q:VX→St→Prop) (e:(Int)):Prop:=EE c_Sa_43 K_Sa_43 (s_Sa_43 p0 a e) Q
def O_Sa_9 (Q:VX→St→Prop) (e:(Int)):Prop:=EE c_Sa_44 K_Sa_44 (s_Sa_44 e) Q
theorem ok_Sa_43 (p0:LI) (a b:Int) (y) (hm:m_Sa_43 p0 a b=some y) (Q)
  (hin:∀ s,y=.inl s→EE c_Sa_9 K_Sa_9 (s_Sa_9 p0 s.1 s.2) Q) (hout:∀ e,y=.inr e→O_Sa_9 Q e):EE c_Sa_43 K_Sa_43 (s_Sa_43 p0 a b) Q:=by
 exact gw (hin _ (qj hm).symm) (z0) (by kernel_rfl)
theorem ok_Sa_25 (p0:LI) (a b f:Int) (y) (hm:m_Sa_25 p0 a b f=some y) (Q)
  (hin:∀ s,y=.inl s→EE c_Sa_25 K_Sa_25 (s_Sa_25 p0 a s.1 s.2) Q) (hout:∀ e,y=.inr e→O_Sa_25 p0 a Q e):EE c_Sa_25 K_Sa_25 (s_Sa_25 p0 a b f) Q:=by
 obtain ⟨c,hm⟩|⟨c,hm⟩:=split_ite hm
 ·obtain ⟨d,hm⟩|⟨d,hm⟩:=split_ite hm
  ·exact gw (hin _ (qj hm).symm) (u1 c<|wP (by decide:(0:Int)≤1)<|u1 d<|z0) (by kernel_rfl)
  ·exact gw (hin _ (qj hm).symm) (u1 c<|wP (by decide:(0:Int)≤1)<|v1 d<|z0) (by kernel_rfl)
 ·refine gm c_Sa_43 K_Sa_43 (s_Sa_43 p0 a b) (v1 c<|z0) ?_ (by kernel_rfl)
  exact hout b (qj hm).symm
theorem ok_Sa_44 (a r:Int) (hm:m_Sa_44 a=some r):EE c_Sa_44 K_Sa_44 (s_Sa_44 a) (Post vf_Sa (res_Sa r)):=by
 exact ge (z0) (congrArg res_Sa (qj hm)) (by kernel_rfl)
theorem ok_Sa_9 (p0:LI) (d a:Int) (y) (hm:m_Sa_9 p0 d a=some y) (Q)
  (hin:∀ s,y=.inl s→EE c_Sa_9 K_Sa_9 (s_Sa_9 p0 s.1 s.2) Q) (hout:∀ e,y=.inr e→O_Sa_9 Q e):EE c_Sa_9 K_Sa_9 (s_Sa_9 p0 d a) Q:=by
 obtain ⟨f,hm⟩|⟨f,hm⟩:=split_ite hm
 ·obtain ⟨g,h,hm⟩:=bind_some hm
  refine gm c_Sa_25 K_Sa_25 (s_Sa_25 p0 a (xorI .u32 d (wr .u32 g)) 0) (u1 f<|wO (.row ((rI .u8) g))<|wP (rd_nn h)<|wP (at_row (rI .u8) (rd_get h))<|z0) ?_ (by kernel_rfl)
  obtain ⟨e,he,hm⟩:=bind_some hm
  refine loop_rule (u:=.c c_Sa_25) (K:=K_Sa_25) (Q:=Q) (b:=lp_Sa_25 p0 a) (We:=O_Sa_25 p0 a Q) (stJ:=fun s=>s_Sa_25 p0 a s.1 s.2) (s:=((xorI .u32 d (wr .u32 g)),0)) (fun s y hb hin hout=>ok_Sa_25 p0 a s.1 s.2 y hb Q hin hout) he ?_
  show EE c_Sa_43 K_Sa_43 (s_Sa_43 p0 a e) _
  exact ok_Sa_43 p0 a e y hm Q hin hout
 ·refine gm c_Sa_44 K_Sa_44 (s_Sa_44 d) (v1 f<|z0) ?_ (by kernel_rfl)
  exact hout d (qj hm).symm
theorem ok_Sa_0 (p0:LI) (r:Int) (hm:m_Sa_0 p0=some r):EE c_Sa_0 K_Sa_0 (s_Sa_0 p0) (Post vf_Sa (res_Sa r)):=by
 refine gm c_Sa_9 K_Sa_9 (s_Sa_9 p0 4294967295 0) (wL (rI .u8) p0<|z0) ?_ (by kernel_rfl)
 obtain ⟨e,he,hm⟩:=bind_some hm
 refine loop_rule (u:=.c c_Sa_9) (K:=K_Sa_9) (Q:=(Post vf_Sa (res_Sa r))) (b:=lp_Sa_9 p0) (We:=O_Sa_9 (Post vf_Sa (res_Sa r))) (stJ:=fun s=>s_Sa_9 p0 s.1 s.2) (s:=(4294967295,0)) (fun s y hb hin hout=>ok_Sa_9 p0 s.1 s.2 y hb (Post vf_Sa (res_Sa r)) hin hout) he ?_
 show EE c_Sa_44 K_Sa_44 (s_Sa_44 e) _
 exact ok_Sa_44 e r hm
theorem ok_Sa (p0:LI) (r:Int) (hm:m_Sa p0=some r):Runs ext tbl 107 (as_Sa p0) (res_Sa r):=
 runs_of (vf:=vf_Sa) (by kernel_rfl) rfl (st:=(enter vf_Sa (as_Sa p0)).getD default) (by kernel_rfl) (go_on [] 1000 J0 (ok_Sa_0 p0 r hm) (by kernel_rfl))
theorem ok_Sr_0 (p0:Int) (r:LI) (hm:m_Sr_0 p0=some r):EE c_Sr_0 K_Sr_0 (s_Sr_0 p0) (Post vf_Sr (res_Sr r)):=by
 exact ge (wO (.rows (List.map (rI .u8) ([(wr .u8 (shrI .u32 p0 24)),(wr .u8 (shrI .u32 p0 16)),(wr .u8 (shrI .u32 p0 8)),(wr .u8 p0)]:LI)))<|wO (zn 4)<|wO (.rows (List.map (rI .u8) ([(wr .u8 (shrI .u32 p0 24)),(wr .u8 (shrI .u32 p0 16)),(wr .u8 (shrI .u32 p0 8)),(wr .u8 p0)]:LI)))<|wP (by decide:(0:Int)≤24)<|wP (by decide:(0:Int)≤16)<|wP (by decide:(0:Int)≤8)<|wP (Eq.refl (List.map (rI .u8) ([(wr .u8 (shrI .u32 p0 24)),(wr .u8 (shrI .u32 p0 16)),(wr .u8 (shrI .u32 p0 8)),(wr .u8 p0)]:LI)))<|wP (len_map (rI .u8) (show 4=([(wr .u8 (shrI .u32 p0 24)),(wr .u8 (shrI .u32 p0 16)),(wr .u8 (shrI .u32 p0 8)),(wr .u8 p0)]:LI).length from rfl))<|wP (all_le0 (rI .u8) ([(wr .u8 (shrI .u32 p0 24)),(wr .u8 (shrI .u32 p0 16)),(wr .u8 (shrI .u32 p0 8)),(wr .u8 p0)]:LI) rfl)<|wP (all_t (rI .u8) ([(wr .u8 (shrI .u32 p0 24)),(wr .u8 (shrI .u32 p0 16)),(wr .u8 (shrI .u32 p0 8)),(wr .u8 p0)]:LI) rfl)<|z0) (congrArg res_Sr (qj hm)) (by kernel_rfl)
theorem ok_Sr (p0:Int) (r:LI) (hm:m_Sr p0=some r):Runs ext tbl 106 (as_Sr p0) (res_Sr r):=
 runs_of (vf:=vf_Sr) (by kernel_rfl) rfl (st:=(enter vf_Sr (as_Sr p0)).getD default) (by kernel_rfl) (go_on [] 1000 J0 (ok_Sr_0 p0 r hm) (by kernel_rfl))
def O_Sh_9 (Q:VX→St→Prop) (e:(LI)):Prop:=EE c_Sh_27 K_Sh_27 (s_Sh_27 e) Q
theorem ok_Sh_27 (a r:LI) (hm:m_Sh_27 a=some r):EE c_Sh_27 K_Sh_27 (s_Sh_27 a) (Post vf_Sh (res_Sh r)):=by
 obtain ⟨c,d,hm⟩:=bind_some hm
 obtain ⟨b,e,hm⟩:=bind_some hm
 obtain ⟨g,f,hm⟩:=bind_some hm
 exact ge (wO (.rows (List.map (rI .u8) a))<|wO (.res (res_Sa c))<|wO (.res (res_Sr b))<|wP (all_le (rI .u8) a rfl)<|wP (all_dt (rI .u8) a rfl)<|wP (ok_Sa a c d)<|wP (ok_Sr c b e)<|wL (rI .u8) b<|wO (.rows (List.map (rI .u8) (a++b)))<|wO (zn ((a++b).length))<|wO (.rows (List.map (rI .u8) (a++b)))<|wP (all_le (rI .u8) b rfl)<|wP (app_ck (rI .u8) a b rfl rfl f)<|wP (app_tell (rI .u8) a b rfl rfl)<|wP (len_map (rI .u8) (show (a++b).length=(a++b).length from rfl))<|wP (all_le0 (rI .u8) (a++b) rfl)<|wP (all_t (rI .u8) (a++b) rfl)<|z0) (congrArg res_Sh (qj hm)) (by kernel_rfl)
theorem ok_Sh_9 (p0:LZ) (f:Int) (c:LI) (y) (hm:m_Sh_9 p0 f c=some y) (Q)
  (hin:∀ s,y=.inl s→EE c_Sh_9 K_Sh_9 (s_Sh_9 p0 s.1 s.2) Q) (hout:∀ e,y=.inr e→O_Sh_9 Q e):EE c_Sh_9 K_Sh_9 (s_Sh_9 p0 f c) Q:=by
 obtain ⟨d,hm⟩|⟨d,hm⟩:=split_ite hm
 ·obtain ⟨a,g,hm⟩:=bind_some hm
  obtain ⟨l,h,hm⟩:=bind_some hm
  obtain ⟨b,i,hm⟩:=bind_some hm
  obtain ⟨m,j,hm⟩:=bind_some hm
  obtain ⟨n,k,hm⟩:=bind_some hm
  exact gw (hin _ (qj hm).symm) (u1 d<|wO (.row (rZa a))<|wO (.rows (List.map (rI .u8) ([(wr .u8 a.kind)]:LI)))<|wO (zn 1)<|wO (.rows (List.map (rI .u8) (c++([(wr .u8 a.kind)]:LI))))<|wO (zn ((c++([(wr .u8 a.kind)]:LI)).length))<|wO (.rows (mi ([a.scale]:LI)))<|wO (zn 1)<|wO (.rows (List.map (rI .u8) (c++([(wr .u8 a.kind)]:LI))))<|wO (.rows (mi ([a.scale]:LI)))<|wO (.res (res_Sm b))<|wO (zn b.length)<|wO (.rows (List.map (rI .u8) ([(wr .u8 (a.name.size:Int))]:LI)))<|wO (zn 1)<|wO (.rows (List.map (rI .u8) (b++([(wr .u8 (a.name.size:Int))]:LI))))<|wO (zn ((b++([(wr .u8 (a.name.size:Int))]:LI)).length))<|wO (.rows (List.map (rI .u8) ((b++([(wr .u8 (a.name.size:Int))]:LI))++(bl a.name))))<|wO (zn (((b++([(wr .u8 (a.name.size:Int))]:LI))++(bl a.name)).length))<|wO (zn (((b++([(wr .u8 (a.name.size:Int))]:LI))++(bl a.name)).length))<|wP (rd_nn g)<|wP (at_row rZa (rd_get g))<|wP (Eq.refl (List.map (rI .u8) ([(wr .u8 a.kind)]:LI)))<|wP (len_map (rI .u8) (show 1=([(wr .u8 a.kind)]:LI).length from rfl))<|wP (all_le (rI .u8) ([(wr .u8 a.kind)]:LI) rfl)<|wP (app_ck (rI .u8) c ([(wr .u8 a.kind)]:LI) rfl rfl h)<|wP (app_tell (rI .u8) c ([(wr .u8 a.kind)]:LI) rfl rfl)<|wP (len_map (rI .u8) (show (c++([(wr .u8 a.kind)]:LI)).length=(c++([(wr .u8 a.kind)]:LI)).length from rfl))<|wP (Eq.refl (mi ([a.scale]:LI)))<|wP (len_map (rI .i64) (show 1=([a.scale]:LI).length from rfl))<|wP (all_le0 (rI .u8) (c++([(wr .u8 a.kind)]:LI)) rfl)<|wP (all_t (rI .u8) (c++([(wr .u8 a.kind)]:LI)) rfl)<|wP (all_le (rI .i64) ([a.scale]:LI) rfl)<|wP (all_dt (rI .i64) ([a.scale]:LI) rfl)<|wP (ok_Sm (c++([(wr .u8 a.kind)]:LI)) ([a.scale]:LI) b i)<|wP (lm (rI .u8) b)<|wP (Eq.refl (List.map (rI .u8) ([(wr .u8 (a.name.size:Int))]:LI)))<|wP (len_map (rI .u8) (show 1=([(wr .u8 (a.name.size:Int))]:LI).length from rfl))<|wP (all_le (rI .u8) ([(wr .u8 (a.name.size:Int))]:LI) rfl)<|wP (app_ck (rI .u8) b ([(wr .u8 (a.name.size:Int))]:LI) rfl rfl j)<|wP (app_tell (rI .u8) b ([(wr .u8 (a.name.size:Int))]:LI) rfl rfl)<|wP (len_map (rI .u8) (show (b++([(wr .u8 (a.name.size:Int))]:LI)).length=(b++([(wr .u8 (a.name.size:Int))]:LI)).length from rfl))<|wP (apps_ck (b++([(wr .u8 (a.name.size:Int))]:LI)) a.name rfl k)<|wP (apps_tell (b++([(wr .u8 (a.name.size:Int))]:LI)) a.name rfl)<|wP (len_map (rI .u8) (show ((b++([(wr .u8 (a.name.size:Int))]:LI))++(bl a.name)).length=((b++([(wr .u8 (a.name.size:Int))]:LI))++(bl a.name)).length from rfl))<|wP (lens (((b++([(wr .u8 (a.name.size:Int))]:LI))++(bl a.name)).length) (((b++([(wr .u8 (a.name.size:Int))]:LI))++(bl a.name)).length) rfl)<|z0) (by kernel_rfl)
 ·refine gm c_Sh_27 K_Sh_27 (s_Sh_27 c) (v1 d<|wN c.length<|z0) ?_ (by kernel_rfl)
  exact hout c (qj hm).symm
theorem ok_Sh_0 (p0:LZ) (r:LI) (hm:m_Sh_0 p0=some r):EE c_Sh_0 K_Sh_0 (s_Sh_0 p0) (Post vf_Sh (res_Sh r)):=by
 refine gm c_Sh_9 K_Sh_9 (s_Sh_9 p0 0 ([66,79,88,49,(wr .u8 (p0.length:Int))]:LI)) (wL rZa p0<|wO (.rows (List.map (rI .u8) ([66,79,88,49,(wr .u8 (p0.length:Int))]:LI)))<|wO (zn 5)<|wP (Eq.refl (List.map (rI .u8) ([66,79,88,49,(wr .u8 (p0.length:Int))]:LI)))<|wP (len_map (rI .u8) (show 5=([66,79,88,49,(wr .u8 (p0.length:Int))]:LI).length from rfl))<|wL rZa p0<|wO (zn (([66,79,88,49,(wr .u8 (p0.length:Int))]:LI).length))<|wP (lens 5 (([66,79,88,49,(wr .u8 (p0.length:Int))]:LI).length) rfl)<|z0) ?_ (by kernel_rfl)
 obtain ⟨e,he,hm⟩:=bind_some hm
 refine loop_rule (u:=.c c_Sh_9) (K:=K_Sh_9) (Q:=(Post vf_Sh (res_Sh r))) (b:=lp_Sh_9 p0) (We:=O_Sh_9 (Post vf_Sh (res_Sh r))) (stJ:=fun s=>s_Sh_9 p0 s.1 s.2) (s:=(0,([66,79,88,49,(wr .u8 (p0.length:Int))]:LI))) (fun s y hb hin hout=>ok_Sh_9 p0 s.1 s.2 y hb (Post vf_Sh (res_Sh r)) hin hout) he ?_
 show EE c_Sh_27 K_Sh_27 (s_Sh_27 e) _
 exact ok_Sh_27 e r hm
theorem ok_Sh (p0:LZ) (r:LI) (hm:m_Sh p0=some r):Runs ext tbl 49 (as_Sh p0) (res_Sh r):=
 runs_of (vf:=vf_Sh) (by kernel_rfl) rfl (st:=(enter vf_Sh (as_Sh p0)).getD default) (by kernel_rfl) (go_on [] 1000 J0 (ok_Sh_0 p0 r hm) (by kernel_rfl))
theorem ok_Sl_0 (r:LI) (hm:m_Sl_0=some r):EE c_Sl_0 K_Sl_0 (s_Sl_0) (Post vf_Sl (res_Sl r)):=by
 exact ge (wO (.rows (List.map (rI .u8) ([27,80,73,69,67,69,10,0]:LI)))<|wO (zn 8)<|wO (.rows (List.map (rI .u8) ([27,80,73,69,67,69,10,0]:LI)))<|wP (Eq.refl (List.map (rI .u8) ([27,80,73,69,67,69,10,0]:LI)))<|wP (len_map (rI .u8) (show 8=([27,80,73,69,67,69,10,0]:LI).length from rfl))<|wP (all_le0 (rI .u8) ([27,80,73,69,67,69,10,0]:LI) rfl)<|wP (all_t (rI .u8) ([27,80,73,69,67,69,10,0]:LI) rfl)<|z0) (congrArg res_Sl (qj hm)) (by kernel_rfl)
theorem ok_Sl (r:LI) (hm:m_Sl=some r):Runs ext tbl 80 (as_Sl) (res_Sl r):=
 runs_of (vf:=vf_Sl) (by kernel_rfl) rfl (st:=(enter vf_Sl (as_Sl)).getD default) (by kernel_rfl) (go_on [] 1000 J0 (ok_Sl_0 r hm) (by kernel_rfl))
theorem ok_Se_0 (p0:Bool) (r:Int) (hm:m_Se_0 p0=some r):EE c_Se_0 K_Se_0 (s_Se_0 p0) (Post vf_Se (res_Se r)):=by
 obtain ⟨a,hm⟩|⟨a,hm⟩:=split_ite hm
 ·exact ge (u1 a<|z0) (congrArg res_Se (qj hm)) (by kernel_rfl)
 ·exact ge (v1 a<|z0) (congrArg res_Se (qj hm)) (by kernel_rfl)
theorem ok_Se (p0:Bool) (r:Int) (hm:m_Se p0=some r):Runs ext tbl 108 (as_Se p0) (res_Se r):=
 runs_of (vf:=vf_Se) (by kernel_rfl) rfl (st:=(enter vf_Se (as_Se p0)).getD default) (by kernel_rfl) (go_on [] 1000 J0 (ok_Se_0 p0 r hm) (by kernel_rfl))
def O_Sk_28 (Q:VX→St→Prop) (e:(LI)):Prop:=EE c_Sk_40 K_Sk_40 (s_Sk_40 e) Q
def O_Sk_11 (p1:LZa) (Q:VX→St→Prop) (e:(LI)):Prop:=EE c_Sk_23 K_Sk_23 (s_Sk_23 p1 e) Q
theorem ok_Sk_40 (a r:LI) (hm:m_Sk_40 a=some r):EE c_Sk_40 K_Sk_40 (s_Sk_40 a) (Post vf_Sk (res_Sk r)):=by
 obtain ⟨c,d,hm⟩:=bind_some hm
 obtain ⟨b,e,hm⟩:=bind_some hm
 obtain ⟨g,f,hm⟩:=bind_some hm
 exact ge (wO (.rows (List.map (rI .u8) a))<|wO (.res (res_Sa c))<|wO (.res (res_Sr b))<|wP (all_le (rI .u8) a rfl)<|wP (all_dt (rI .u8) a rfl)<|wP (ok_Sa a c d)<|wP (ok_Sr c b e)<|wL (rI .u8) b<|wO (.rows (List.map (rI .u8) (a++b)))<|wO (zn ((a++b).length))<|wO (.rows (List.map (rI .u8) (a++b)))<|wP (all_le (rI .u8) b rfl)<|wP (app_ck (rI .u8) a b rfl rfl f)<|wP (app_tell (rI .u8) a b rfl rfl)<|wP (len_map (rI .u8) (show (a++b).length=(a++b).length from rfl))<|wP (all_le0 (rI .u8) (a++b) rfl)<|wP (all_t (rI .u8) (a++b) rfl)<|z0) (congrArg res_Sk (qj hm)) (by kernel_rfl)
theorem ok_Sk_28 (p1:LZa) (d:Int) (a:LI) (y) (hm:m_Sk_28 p1 d a=some y) (Q)
  (hin:∀ s,y=.inl s→EE c_Sk_28 K_Sk_28 (s_Sk_28 p1 s.1 s.2) Q) (hout:∀ e,y=.inr e→O_Sk_28 Q e):EE c_Sk_28 K_Sk_28 (s_Sk_28 p1 d a) Q:=by
 obtain ⟨c,hm⟩|⟨c,hm⟩:=split_ite hm
 ·obtain ⟨b,f,hm⟩:=bind_some hm
  obtain ⟨h,g,hm⟩:=bind_some hm
  exact gw (hin _ (qj hm).symm) (u1 c<|wO (.row (rZb b))<|wO (.rows (List.map (rI .u8) (a++b.data)))<|wO (zn ((a++b.data).length))<|wO (zn ((a++b.data).length))<|wP (rd_nn f)<|wP (at_row rZb (rd_get f))<|wP (app_ck_ro (rI .u8) a b.data rfl g)<|wP (app_tell_ro (rI .u8) a b.data rfl)<|wP (len_map (rI .u8) (show (a++b.data).length=(a++b.data).length from rfl))<|wP (lens ((a++b.data).length) ((a++b.data).length) rfl)<|z0) (by kernel_rfl)
 ·refine gm c_Sk_40 K_Sk_40 (s_Sk_40 a) (v1 c<|wN a.length<|z0) ?_ (by kernel_rfl)
  exact hout a (qj hm).symm
theorem ok_Sk_23 (p1:LZa) (a r:LI) (hm:m_Sk_23 p1 a=some r):EE c_Sk_23 K_Sk_23 (s_Sk_23 p1 a) (Post vf_Sk (res_Sk r)):=by
 refine gm c_Sk_28 K_Sk_28 (s_Sk_28 p1 0 a) (wL rZb p1<|wN a.length<|z0) ?_ (by kernel_rfl)
 obtain ⟨e,he,hm⟩:=bind_some hm
 refine loop_rule (u:=.c c_Sk_28) (K:=K_Sk_28) (Q:=(Post vf_Sk (res_Sk r))) (b:=lp_Sk_28 p1) (We:=O_Sk_28 (Post vf_Sk (res_Sk r))) (stJ:=fun s=>s_Sk_28 p1 s.1 s.2) (s:=(0,a)) (fun s y hb hin hout=>ok_Sk_28 p1 s.1 s.2 y hb (Post vf_Sk (res_Sk r)) hin hout) he ?_
 show EE c_Sk_40 K_Sk_40 (s_Sk_40 e) _
 exact ok_Sk_40 e r hm
theorem ok_Sk_11 (p1:LZa) (g:Int) (c:LI) (y) (hm:m_Sk_11 p1 g c=some y) (Q)
  (hin:∀ s,y=.inl s→EE c_Sk_11 K_Sk_11 (s_Sk_11 p1 s.1 s.2) Q) (hout:∀ e,y=.inr e→O_Sk_11 p1 Q e):EE c_Sk_11 K_Sk_11 (s_Sk_11 p1 g c) Q:=by
 obtain ⟨f,hm⟩|⟨f,hm⟩:=split_ite hm
 ·obtain ⟨a,h,hm⟩:=bind_some hm
  obtain ⟨b,i,hm⟩:=bind_some hm
  obtain ⟨d,j,hm⟩:=bind_some hm
  exact gw (hin _ (qj hm).symm) (u1 f<|wO (.row (rZb a))<|wO (.res (res_Se b))<|wP (rd_nn h)<|wP (at_row rZb (rd_get h))<|wP (ok_Se a.key b i)<|wL (rI .u8) a.data<|wO (.rows (mi ([a.track,a.time,a.span,b,(a.data.length:Int)]:LI)))<|wO (zn 5)<|wP (Eq.refl (mi ([a.track,a.time,a.span,b,(a.data.length:Int)]:LI)))<|wP (len_map (rI .i64) (show 5=([a.track,a.time,a.span,b,(a.data.length:Int)]:LI).length from rfl))<|wR (rI .u8) c<|wO (.rows (mi ([a.track,a.time,a.span,b,(a.data.length:Int)]:LI)))<|wO (.res (res_Sm d))<|wP (all_le (rI .i64) ([a.track,a.time,a.span,b,(a.data.length:Int)]:LI) rfl)<|wP (all_dt (rI .i64) ([a.track,a.time,a.span,b,(a.data.length:Int)]:LI) rfl)<|wP (ok_Sm c ([a.track,a.time,a.span,b,(a.data.length:Int)]:LI) d j)<|wL (rI .u8) d<|wN d.length<|z0) (by kernel_rfl)
 ·refine gm c_Sk_23 K_Sk_23 (s_Sk_23 p1 c) (v1 f<|wN c.length<|z0) ?_ (by kernel_rfl)
  exact hout c (qj hm).symm
theorem ok_Sk_0 (p0:Int) (p1:LZa) (r:LI) (hm:m_Sk_0 p0 p1=some r):EE c_Sk_0 K_Sk_0 (s_Sk_0 p0 p1) (Post vf_Sk (res_Sk r)):=by
 obtain ⟨d,f,hm⟩:=bind_some hm
 obtain ⟨a,g,hm⟩:=bind_some hm
 refine gm c_Sk_11 K_Sk_11 (s_Sk_11 p1 0 a) (wO (.res (res_Sl d))<|wP (ok_Sl  d f)<|wL (rI .u8) d<|wL rZb p1<|wO (.rows (mi ([p0,(p1.length:Int)]:LI)))<|wO (zn 2)<|wP (Eq.refl (mi ([p0,(p1.length:Int)]:LI)))<|wP (len_map (rI .i64) (show 2=([p0,(p1.length:Int)]:LI).length from rfl))<|wR (rI .u8) d<|wO (.rows (mi ([p0,(p1.length:Int)]:LI)))<|wO (.res (res_Sm a))<|wP (all_le (rI .i64) ([p0,(p1.length:Int)]:LI) rfl)<|wP (all_dt (rI .i64) ([p0,(p1.length:Int)]:LI) rfl)<|wP (ok_Sm d ([p0,(p1.length:Int)]:LI) a g)<|wL (rI .u8) a<|wL rZb p1<|wN a.length<|z0) ?_ (by kernel_rfl)
 obtain ⟨e,he,hm⟩:=bind_some hm
 refine loop_rule (u:=.c c_Sk_11) (K:=K_Sk_11) (Q:=(Post vf_Sk (res_Sk r))) (b:=lp_Sk_11 p1) (We:=O_Sk_11 p1 (Post vf_Sk (res_Sk r))) (stJ:=fun s=>s_Sk_11 p1 s.1 s.2) (s:=(0,a)) (fun s y hb hin hout=>ok_Sk_11 p1 s.1 s.2 y hb (Post vf_Sk (res_Sk r)) hin hout) he ?_
 show EE c_Sk_23 K_Sk_23 (s_Sk_23 p1 e) _
 exact ok_Sk_23 p1 e r hm
theorem ok_Sk (p0:Int) (p1:LZa) (r:LI) (hm:m_Sk p0 p1=some r):Runs ext tbl 50 (as_Sk p0 p1) (res_Sk r):=
 runs_of (vf:=vf_Sk) (by kernel_rfl) rfl (st:=(enter vf_Sk (as_Sk p0 p1)).getD default) (by kernel_rfl) (go_on [] 1000 J0 (ok_Sk_0 p0 p1 r hm) (by kernel_rfl))
theorem ok_Sj_0 (r:LI) (hm:m_Sj_0=some r):EE c_Sj_0 K_Sj_0 (s_Sj_0) (Post vf_Sj (res_Sj r)):=by
 exact ge (wO (.rows (List.map (rI .u8) ([27,73,78,68,69,88,10,0]:LI)))<|wO (zn 8)<|wO (.rows (List.map (rI .u8) ([27,73,78,68,69,88,10,0]:LI)))<|wP (Eq.refl (List.map (rI .u8) ([27,73,78,68,69,88,10,0]:LI)))<|wP (len_map (rI .u8) (show 8=([27,73,78,68,69,88,10,0]:LI).length from rfl))<|wP (all_le0 (rI .u8) ([27,73,78,68,69,88,10,0]:LI) rfl)<|wP (all_t (rI .u8) ([27,73,78,68,69,88,10,0]:LI) rfl)<|z0) (congrArg res_Sj (qj hm)) (by kernel_rfl)
theorem ok_Sj (r:LI) (hm:m_Sj=some r):Runs ext tbl 109 (as_Sj) (res_Sj r):=
 runs_of (vf:=vf_Sj) (by kernel_rfl) rfl (st:=(enter vf_Sj (as_Sj)).getD default) (by kernel_rfl) (go_on [] 1000 J0 (ok_Sj_0 r hm) (by kernel_rfl))
def O_Si_11 (p1:Int) (Q:VX→St→Prop) (e:(LI)):Prop:=EE c_Si_23 K_Si_23 (s_Si_23 p1 e) Q
theorem ok_Si_23 (p1:Int) (c r:LI) (hm:m_Si_23 p1 c=some r):EE c_Si_23 K_Si_23 (s_Si_23 p1 c) (Post vf_Si (res_Si r)):=by
 obtain ⟨a,e,hm⟩:=bind_some hm
 obtain ⟨d,f,hm⟩:=bind_some hm
 obtain ⟨b,g,hm⟩:=bind_some hm
 obtain ⟨i,h,hm⟩:=bind_some hm
 exact ge (wO (.rows (mi ([p1]:LI)))<|wO (zn 1)<|wP (Eq.refl (mi ([p1]:LI)))<|wP (len_map (rI .i64) (show 1=([p1]:LI).length from rfl))<|wR (rI .u8) c<|wO (.rows (mi ([p1]:LI)))<|wO (.res (res_Sm a))<|wP (all_le (rI .i64) ([p1]:LI) rfl)<|wP (all_dt (rI .i64) ([p1]:LI) rfl)<|wP (ok_Sm c ([p1]:LI) a e)<|wL (rI .u8) a<|wO (.rows (List.map (rI .u8) a))<|wO (.res (res_Sa d))<|wO (.res (res_Sr b))<|wP (all_le (rI .u8) a rfl)<|wP (all_dt (rI .u8) a rfl)<|wP (ok_Sa a d f)<|wP (ok_Sr d b g)<|wL (rI .u8) b<|wO (.rows (List.map (rI .u8) (a++b)))<|wO (zn ((a++b).length))<|wO (.rows (List.map (rI .u8) (a++b)))<|wP (all_le (rI .u8) b rfl)<|wP (app_ck (rI .u8) a b rfl rfl h)<|wP (app_tell (rI .u8) a b rfl rfl)<|wP (len_map (rI .u8) (show (a++b).length=(a++b).length from rfl))<|wP (all_le0 (rI .u8) (a++b) rfl)<|wP (all_t (rI .u8) (a++b) rfl)<|z0) (congrArg res_Si (qj hm)) (by kernel_rfl)
theorem ok_Si_11 (p1:Int) (p0:LZb) (f:Int) (b:LI) (y) (hm:m_Si_11 p1 p0 f b=some y) (Q)
  (hin:∀ s,y=.inl s→EE c_Si_11 K_Si_11 (s_Si_11 p1 p0 s.1 s.2) Q) (hout:∀ e,y=.inr e→O_Si_11 p1 Q e):EE c_Si_11 K_Si_11 (s_Si_11 p1 p0 f b) Q:=by
 obtain ⟨d,hm⟩|⟨d,hm⟩:=split_ite hm
 ·obtain ⟨a,g,hm⟩:=bind_some hm
  obtain ⟨c,h,hm⟩:=bind_some hm
  exact gw (hin _ (qj hm).symm) (u1 d<|wO (.row (rZd a))<|wO (.rows (mi ([a.track,a.time,a.at_]:LI)))<|wO (zn 3)<|wP (rd_nn g)<|wP (at_row rZd (rd_get g))<|wP (Eq.refl (mi ([a.track,a.time,a.at_]:LI)))<|wP (len_map (rI .i64) (show 3=([a.track,a.time,a.at_]:LI).length from rfl))<|wR (rI .u8) b<|wO (.rows (mi ([a.track,a.time,a.at_]:LI)))<|wO (.res (res_Sm c))<|wP (all_le (rI .i64) ([a.track,a.time,a.at_]:LI) rfl)<|wP (all_dt (rI .i64) ([a.track,a.time,a.at_]:LI) rfl)<|wP (ok_Sm b ([a.track,a.time,a.at_]:LI) c h)<|wL (rI .u8) c<|wN c.length<|z0) (by kernel_rfl)
 ·refine gm c_Si_23 K_Si_23 (s_Si_23 p1 b) (v1 d<|wN b.length<|z0) ?_ (by kernel_rfl)
  exact hout b (qj hm).symm
theorem ok_Si_0 (p0:LZb) (p1:Int) (r:LI) (hm:m_Si_0 p0 p1=some r):EE c_Si_0 K_Si_0 (s_Si_0 p0 p1) (Post vf_Si (res_Si r)):=by
 obtain ⟨d,f,hm⟩:=bind_some hm
 obtain ⟨a,g,hm⟩:=bind_some hm
 refine gm c_Si_11 K_Si_11 (s_Si_11 p1 p0 0 a) (wO (.res (res_Sj d))<|wP (ok_Sj  d f)<|wL (rI .u8) d<|wL rZd p0<|wO (.rows (mi ([(p0.length:Int)]:LI)))<|wO (zn 1)<|wP (Eq.refl (mi ([(p0.length:Int)]:LI)))<|wP (len_map (rI .i64) (show 1=([(p0.length:Int)]:LI).length from rfl))<|wR (rI .u8) d<|wO (.rows (mi ([(p0.length:Int)]:LI)))<|wO (.res (res_Sm a))<|wP (all_le (rI .i64) ([(p0.length:Int)]:LI) rfl)<|wP (all_dt (rI .i64) ([(p0.length:Int)]:LI) rfl)<|wP (ok_Sm d ([(p0.length:Int)]:LI) a g)<|wL (rI .u8) a<|wL rZd p0<|wN a.length<|z0) ?_ (by kernel_rfl)
 obtain ⟨e,he,hm⟩:=bind_some hm
 refine loop_rule (u:=.c c_Si_11) (K:=K_Si_11) (Q:=(Post vf_Si (res_Si r))) (b:=lp_Si_11 p1 p0) (We:=O_Si_11 p1 (Post vf_Si (res_Si r))) (stJ:=fun s=>s_Si_11 p1 p0 s.1 s.2) (s:=(0,a)) (fun s y hb hin hout=>ok_Si_11 p1 p0 s.1 s.2 y hb (Post vf_Si (res_Si r)) hin hout) he ?_
 show EE c_Si_23 K_Si_23 (s_Si_23 p1 e) _
 exact ok_Si_23 p1 e r hm
theorem ok_Si (p0:LZb) (p1:Int) (r:LI) (hm:m_Si p0 p1=some r):Runs ext tbl 51 (as_Si p0 p1) (res_Si r):=
 runs_of (vf:=vf_Si) (by kernel_rfl) rfl (st:=(enter vf_Si (as_Si p0 p1)).getD default) (by kernel_rfl) (go_on [] 1000 J0 (ok_Si_0 p0 p1 r hm) (by kernel_rfl))
def O_Sd_40 (p1 a b:Int) (p0:Zc) (c:LI) (Q:VX→St→Prop) (e:(LZb)):Prop:=EE c_Sd_56 K_Sd_56 (s_Sd_56 p1 a b p0 c e) Q
def O_Sd_19 (Q:VX→St→Prop) (e:(LI×LZb)):Prop:=EE c_Sd_58 K_Sd_58 (s_Sd_58 e.1 e.2) Q
theorem ok_Sd_56 (p1 c d:Int) (p0:Zc) (b:LI) (f:LZb) (y) (hm:m_Sd_56 p1 c d p0 b f=some y) (Q)
  (hin:∀ s,y=.inl s→EE c_Sd_19 K_Sd_19 (s_Sd_19 p1 p0 s.1 s.2.1 s.2.2) Q) (hout:∀ e,y=.inr e→O_Sd_19 Q e):EE c_Sd_56 K_Sd_56 (s_Sd_56 p1 c d p0 b f) Q:=by
 obtain ⟨l,g,hm⟩:=bind_some hm
 obtain ⟨m,h,hm⟩:=bind_some hm
 obtain ⟨n,i,hm⟩:=bind_some hm
 obtain ⟨a,j,hm⟩:=bind_some hm
 obtain ⟨o,k,hm⟩:=bind_some hm
 exact gw (hin _ (qj hm).symm) (wO (.rows (List.map rZb ((p0.packets.take (Int.toNat d)).drop (Int.toNat c))))<|wO (.res (res_Sk a))<|wP (ck_p g)<|wP (slc_hi rZb p0.packets (ck_p h))<|wP (ck_p i)<|wP (slc_tell rZb p0.packets (Int.toNat c) (Int.toNat d))<|wP (ok_Sk (w64 (Int.tdiv c p1)) ((p0.packets.take (Int.toNat d)).drop (Int.toNat c)) a j)<|wL (rI .u8) a<|wO (.rows (List.map (rI .u8) (b++a)))<|wO (zn ((b++a).length))<|wO (zn ((b++a).length))<|wP (all_le (rI .u8) a rfl)<|wP (app_ck (rI .u8) b a rfl rfl k)<|wP (app_tell (rI .u8) b a rfl rfl)<|wP (len_map (rI .u8) (show (b++a).length=(b++a).length from rfl))<|wP (lens ((b++a).length) ((b++a).length) rfl)<|wN f.length<|z0) (by kernel_rfl)
theorem ok_Sd_40 (p1 d f:Int) (p0:Zc) (b:LI) (j:LZa) (k l:Int) (c:LZb) (y) (hm:m_Sd_40 p1 d f p0 b j k l c=some y) (Q)
  (hin:∀ s,y=.inl s→EE c_Sd_40 K_Sd_40 (s_Sd_40 p1 d f p0 b s.1 s.2.1 s.2.2.1 s.2.2.2) Q) (hout:∀ e,y=.inr e→O_Sd_40 p1 d f p0 b Q e):EE c_Sd_40 K_Sd_40 (s_Sd_40 p1 d f p0 b j k l c) Q:=by
 obtain ⟨g,hm⟩|⟨g,hm⟩:=split_ite hm
 ·obtain ⟨a,h,hm⟩:=bind_some hm
  obtain ⟨i,hm⟩|⟨i,hm⟩:=split_ite hm
  ·obtain ⟨n,m,hm⟩:=bind_some hm
   exact gw (hin _ (qj hm).symm) (u1 g<|wO (.row (rZb a))<|wP (rd_nn h)<|wP (at_row rZb (rd_get h))<|u1 i<|wO (.rows (List.map rZd ([(Zd.mk a.track a.time (b.length:Int))]:LZb)))<|wO (zn 1)<|wO (.rows (List.map rZd (c++([(Zd.mk a.track a.time (b.length:Int))]:LZb))))<|wO (zn ((c++([(Zd.mk a.track a.time (b.length:Int))]:LZb)).length))<|wO (zn b.length)<|wO (zn ((c++([(Zd.mk a.track a.time (b.length:Int))]:LZb)).length))<|wP (Eq.refl (List.map rZd ([(Zd.mk a.track a.time (b.length:Int))]:LZb)))<|wP (len_map rZd (show 1=([(Zd.mk a.track a.time (b.length:Int))]:LZb).length from rfl))<|wP (all_le rZd ([(Zd.mk a.track a.time (b.length:Int))]:LZb) rfl)<|wP (app_ck rZd c ([(Zd.mk a.track a.time (b.length:Int))]:LZb) rfl rfl m)<|wP (app_tell rZd c ([(Zd.mk a.track a.time (b.length:Int))]:LZb) rfl rfl)<|wP (len_map rZd (show (c++([(Zd.mk a.track a.time (b.length:Int))]:LZb)).length=(c++([(Zd.mk a.track a.time (b.length:Int))]:LZb)).length from rfl))<|wP (ln b.length)<|wP (lens ((c++([(Zd.mk a.track a.time (b.length:Int))]:LZb)).length) ((c++([(Zd.mk a.track a.time (b.length:Int))]:LZb)).length) rfl)<|z0) (by kernel_rfl)
  ·exact gw (hin _ (qj hm).symm) (u1 g<|wO (.row (rZb a))<|wP (rd_nn h)<|wP (at_row rZb (rd_get h))<|v1 i<|wN b.length<|wN c.length<|z0) (by kernel_rfl)
 ·refine gm c_Sd_56 K_Sd_56 (s_Sd_56 p1 d f p0 b c) (v1 g<|wN b.length<|wN c.length<|z0) ?_ (by kernel_rfl)
  exact hout c (qj hm).symm
end Go.Proofs.V

namespace Go.Proofs.V
open Go
theorem ok_Sd_35 (p1 a:Int) (p0:Zc) (f:LI) (g:LZb) (d:Int) (y) (hm:m_Sd_35 p1 a p0 f g d=some y) (Q)
  (hin:∀ s,y=.inl s→EE c_Sd_19 K_Sd_19 (s_Sd_19 p1 p0 s.1 s.2.1 s.2.2) Q) (hout:∀ e,y=.inr e→O_Sd_19 Q e):EE c_Sd_35 K_Sd_35 (s_Sd_35 p1 a p0 f g d) Q:=by
 obtain ⟨j,h,hm⟩:=bind_some hm
 obtain ⟨k,i,hm⟩:=bind_some hm
 refine gm c_Sd_40 K_Sd_40 (s_Sd_40 p1 a d p0 f ((p0.packets.take (Int.toNat d)).drop (Int.toNat a)) (((p0.packets.take (Int.toNat d)).drop (Int.toNat a)).length:Int) 0 g) (wO (.rows (List.map rZb ((p0.packets.take (Int.toNat d)).drop (Int.toNat a))))<|wO (zn (((p0.packets.take (Int.toNat d)).drop (Int.toNat a)).length))<|wP (slc_hi rZb p0.packets (ck_p h))<|wP (ck_p i)<|wP (slc_tell rZb p0.packets (Int.toNat a) (Int.toNat d))<|wP (len_map rZb (show ((p0.packets.take (Int.toNat d)).drop (Int.toNat a)).length=((p0.packets.take (Int.toNat d)).drop (Int.toNat a)).length from rfl))<|wN f.length<|wN g.length<|z0) ?_ (by kernel_rfl)
 obtain ⟨e,he,hm⟩:=bind_some hm
 refine loop_rule (u:=.c c_Sd_40) (K:=K_Sd_40) (Q:=Q) (b:=lp_Sd_40 p1 a d p0 f) (We:=O_Sd_40 p1 a d p0 f Q) (stJ:=fun s=>s_Sd_40 p1 a d p0 f s.1 s.2.1 s.2.2.1 s.2.2.2) (s:=(((p0.packets.take (Int.toNat d)).drop (Int.toNat a)),(((p0.packets.take (Int.toNat d)).drop (Int.toNat a)).length:Int),0,g)) (fun s y hb hin hout=>ok_Sd_40 p1 a d p0 f s.1 s.2.1 s.2.2.1 s.2.2.2 y hb Q hin hout) he ?_
 show EE c_Sd_56 K_Sd_56 (s_Sd_56 p1 a d p0 f e) _
 exact ok_Sd_56 p1 a d p0 f e y hm Q hin hout
theorem ok_Sd_58 (b:LI) (c:LZb) (r:LI) (hm:m_Sd_58 b c=some r):EE c_Sd_58 K_Sd_58 (s_Sd_58 b c) (Post vf_Sd (res_Sd r)):=by
 obtain ⟨a,e,hm⟩:=bind_some hm
 obtain ⟨g,f,hm⟩:=bind_some hm
 obtain ⟨d,hm⟩|⟨d,hm⟩:=split_ite hm
 ·exact ge (wO (.rows (List.map rZd c))<|wO (.res (res_Si a))<|wP (all_le rZd c rfl)<|wP (all_dt rZd c rfl)<|wP (ok_Si c (b.length:Int) a e)<|wL (rI .u8) a<|wO (.rows (List.map (rI .u8) (b++a)))<|wO (zn ((b++a).length))<|wP (all_le (rI .u8) a rfl)<|wP (app_ck (rI .u8) b a rfl rfl f)<|wP (app_tell (rI .u8) b a rfl rfl)<|wP (len_map (rI .u8) (show (b++a).length=(b++a).length from rfl))<|u1 d<|wO (.rows (List.map (rI .u8) ([]:LI)))<|wP (all_le0 (rI .u8) ([]:LI) rfl)<|wP (all_t (rI .u8) ([]:LI) rfl)<|z0) (congrArg res_Sd (qj hm)) (by kernel_rfl)
 ·exact ge (wO (.rows (List.map rZd c))<|wO (.res (res_Si a))<|wP (all_le rZd c rfl)<|wP (all_dt rZd c rfl)<|wP (ok_Si c (b.length:Int) a e)<|wL (rI .u8) a<|wO (.rows (List.map (rI .u8) (b++a)))<|wO (zn ((b++a).length))<|wP (all_le (rI .u8) a rfl)<|wP (app_ck (rI .u8) b a rfl rfl f)<|wP (app_tell (rI .u8) b a rfl rfl)<|wP (len_map (rI .u8) (show (b++a).length=(b++a).length from rfl))<|v1 d<|wO (.rows (List.map (rI .u8) (b++a)))<|wP (all_le0 (rI .u8) (b++a) rfl)<|wP (all_t (rI .u8) (b++a) rfl)<|z0) (congrArg res_Sd (qj hm)) (by kernel_rfl)
theorem ok_Sd_19 (p1:Int) (p0:Zc) (f:Int) (a:LI) (b:LZb) (y) (hm:m_Sd_19 p1 p0 f a b=some y) (Q)
  (hin:∀ s,y=.inl s→EE c_Sd_19 K_Sd_19 (s_Sd_19 p1 p0 s.1 s.2.1 s.2.2) Q) (hout:∀ e,y=.inr e→O_Sd_19 Q e):EE c_Sd_19 K_Sd_19 (s_Sd_19 p1 p0 f a b) Q:=by
 obtain ⟨c,hm⟩|⟨c,hm⟩:=split_ite hm
 ·obtain ⟨d,hm⟩|⟨d,hm⟩:=split_ite hm
  ·exact gw (ok_Sd_35 _ _ _ _ _ _ y hm Q hin hout) (wL rZb p0.packets<|u1 c<|wL rZb p0.packets<|u1 d<|wL rZb p0.packets<|wN a.length<|wN b.length<|z0) (by kernel_rfl)
  ·exact gw (ok_Sd_35 _ _ _ _ _ _ y hm Q hin hout) (wL rZb p0.packets<|u1 c<|wL rZb p0.packets<|v1 d<|wN a.length<|wN b.length<|z0) (by kernel_rfl)
 ·refine gm c_Sd_58 K_Sd_58 (s_Sd_58 a b) (wL rZb p0.packets<|v1 c<|wN a.length<|wN b.length<|z0) ?_ (by kernel_rfl)
  exact hout (a,b) (qj hm).symm
theorem ok_Sd_0 (p0:Zc) (p1:Int) (r:LI) (hm:m_Sd_0 p0 p1=some r):EE c_Sd_0 K_Sd_0 (s_Sd_0 p0 p1) (Post vf_Sd (res_Sd r)):=by
 obtain ⟨a,g,hm⟩:=bind_some hm
 obtain ⟨f,hm⟩|⟨f,hm⟩:=split_ite hm
 ·obtain ⟨h,hm⟩|⟨h,hm⟩:=split_ite hm
  ·exact ge (wO (.res (res_Sb a))<|wP (ok_Sb p0 a g)<|v3 (not_f f)<|u3 h<|u1 eT<|wO (.rows (List.map (rI .u8) ([]:LI)))<|wP (all_le0 (rI .u8) ([]:LI) rfl)<|wP (all_t (rI .u8) ([]:LI) rfl)<|z0) (congrArg res_Sd (qj hm)) (by kernel_rfl)
  ·obtain ⟨i,hm⟩|⟨i,hm⟩:=split_ite hm
   ·exact ge (wO (.res (res_Sb a))<|wP (ok_Sb p0 a g)<|v3 (not_f f)<|v3 h<|u1 i<|wO (.rows (List.map (rI .u8) ([]:LI)))<|wP (all_le0 (rI .u8) ([]:LI) rfl)<|wP (all_t (rI .u8) ([]:LI) rfl)<|z0) (congrArg res_Sd (qj hm)) (by kernel_rfl)
   ·obtain ⟨d,j,hm⟩:=bind_some hm
    refine gm c_Sd_19 K_Sd_19 (s_Sd_19 p1 p0 0 d ([]:LZb)) (wO (.res (res_Sb a))<|wP (ok_Sb p0 a g)<|v3 (not_f f)<|v3 h<|v1 i<|wO (.res (res_Sh d))<|wP (ok_Sh p0.tracks d j)<|wL (rI .u8) d<|wN d.length<|wO (zn (([]:LZb).length))<|wP (lens 0 (([]:LZb).length) rfl)<|z0) ?_ (by kernel_rfl)
    obtain ⟨e,he,hm⟩:=bind_some hm
    refine loop_rule (u:=.c c_Sd_19) (K:=K_Sd_19) (Q:=(Post vf_Sd (res_Sd r))) (b:=lp_Sd_19 p1 p0) (We:=O_Sd_19 (Post vf_Sd (res_Sd r))) (stJ:=fun s=>s_Sd_19 p1 p0 s.1 s.2.1 s.2.2) (s:=(0,d,([]:LZb))) (fun s y hb hin hout=>ok_Sd_19 p1 p0 s.1 s.2.1 s.2.2 y hb (Post vf_Sd (res_Sd r)) hin hout) he ?_
    show EE c_Sd_58 K_Sd_58 (s_Sd_58 e.1 e.2) _
    exact ok_Sd_58 e.1 e.2 r hm
 ·exact ge (wO (.res (res_Sb a))<|wP (ok_Sb p0 a g)<|u3 (not_t f)<|u4 eT<|wO (.rows (List.map (rI .u8) ([]:LI)))<|wP (all_le0 (rI .u8) ([]:LI) rfl)<|wP (all_t (rI .u8) ([]:LI) rfl)<|z0) (congrArg res_Sd (qj hm)) (by kernel_rfl)
theorem ok_Sd (p0:Zc) (p1:Int) (r:LI) (hm:m_Sd p0 p1=some r):Runs ext tbl 18 (as_Sd p0 p1) (res_Sd r):=
 runs_of (vf:=vf_Sd) (by kernel_rfl) rfl (st:=(enter vf_Sd (as_Sd p0 p1)).getD default) (by kernel_rfl) (go_on [] 1000 J0 (ok_Sd_0 p0 p1 r hm) (by kernel_rfl))
def O_Ik_15 (Q:VX→St→Prop) (e:(Bool)⊕((Unit))):Prop:=match e with | .inl e=>Q=Post vf_Ik (res_Ik e) | .inr e=>EE c_Ik_33 K_Ik_33 (s_Ik_33) Q
theorem ok_Ik_33 (r:Bool) (hm:m_Ik_33=some r):EE c_Ik_33 K_Ik_33 (s_Ik_33) (Post vf_Ik (res_Ik r)):=by
 exact ge (z0) (congrArg res_Ik (qj hm)) (by kernel_rfl)
theorem ok_Ik_15 (p0:Za) (g:Int) (y) (hm:m_Ik_15 p0 g=some y) (Q)
  (hin:∀ s,y=.inl s→EE c_Ik_15 K_Ik_15 (s_Ik_15 p0 s) Q) (hout:∀ e,y=.inr e→O_Ik_15 Q e):EE c_Ik_15 K_Ik_15 (s_Ik_15 p0 g) Q:=by
 obtain ⟨c,hm⟩|⟨c,hm⟩:=split_ite hm
 ·obtain ⟨d,a,hm⟩:=bind_some hm
  obtain ⟨b,hm⟩|⟨b,hm⟩:=split_ite hm
  ·have hQ:Q=Post vf_Ik (res_Ik false):=hout (.inl false) (qj hm).symm
   subst hQ
   exact ge (u1 c<|wO (.int d)<|wP (sat_nn a)<|wP (sat_at a)<|u4 b<|u2 b<|u1 eT<|z0) (rfl:res_Ik false=res_Ik false) (by kernel_rfl)
  ·obtain ⟨f,hm⟩|⟨f,hm⟩:=split_ite hm
   ·have hQ:Q=Post vf_Ik (res_Ik false):=hout (.inl false) (qj hm).symm
    subst hQ
    exact ge (u1 c<|wO (.int d)<|wP (sat_nn a)<|wP (sat_at a)<|v4 b<|wO (.int d)<|wP (sat_nn a)<|wP (sat_at a)<|v2 b<|u1 f<|z0) (rfl:res_Ik false=res_Ik false) (by kernel_rfl)
   ·exact gw (hin _ (qj hm).symm) (u1 c<|wO (.int d)<|wP (sat_nn a)<|wP (sat_at a)<|v4 b<|wO (.int d)<|wP (sat_nn a)<|wP (sat_at a)<|v2 b<|v1 f<|z0) (by kernel_rfl)
 ·refine gm c_Ik_33 K_Ik_33 (s_Ik_33) (v1 c<|z0) ?_ (by kernel_rfl)
  exact hout (.inr ()) (qj hm).symm
theorem ok_Ik_0 (p0:Za) (r:Bool) (hm:m_Ik_0 p0=some r):EE c_Ik_0 K_Ik_0 (s_Ik_0 p0) (Post vf_Ik (res_Ik r)):=by
 obtain ⟨a,hm⟩|⟨a,hm⟩:=split_ite hm
 ·exact ge (u4 a<|u4 eT<|u4 eT<|u4 eT<|u2 eT<|z0) (congrArg res_Ik (qj hm)) (by kernel_rfl)
 ·obtain ⟨f,hm⟩|⟨f,hm⟩:=split_ite hm
  ·exact ge (v4 a<|u4 f<|u4 eT<|u4 eT<|u2 eT<|z0) (congrArg res_Ik (qj hm)) (by kernel_rfl)
  ·obtain ⟨g,hm⟩|⟨g,hm⟩:=split_ite hm
   ·exact ge (v4 a<|v4 f<|u4 g<|u4 eT<|u2 eT<|z0) (congrArg res_Ik (qj hm)) (by kernel_rfl)
   ·obtain ⟨d,hm⟩|⟨d,hm⟩:=split_ite hm
    ·exact ge (v4 a<|v4 f<|v4 g<|u4 d<|u1 d<|u1 eT<|z0) (congrArg res_Ik (qj hm)) (by kernel_rfl)
    ·obtain ⟨h,hm⟩|⟨h,hm⟩:=split_ite hm
     ·exact ge (v4 a<|v4 f<|v4 g<|v4 d<|v1 d<|u1 h<|z0) (congrArg res_Ik (qj hm)) (by kernel_rfl)
     ·refine gm c_Ik_15 K_Ik_15 (s_Ik_15 p0 0) (v4 a<|v4 f<|v4 g<|v4 d<|v1 d<|v1 h<|z0) ?_ (by kernel_rfl)
      obtain ⟨e,he,hm⟩:=bind_some hm
      refine loop_rule (u:=.c c_Ik_15) (K:=K_Ik_15) (Q:=(Post vf_Ik (res_Ik r))) (b:=lp_Ik_15 p0) (We:=O_Ik_15 (Post vf_Ik (res_Ik r))) (stJ:=fun s=>s_Ik_15 p0 s) (s:=0) (fun s y hb hin hout=>ok_Ik_15 p0 s y hb (Post vf_Ik (res_Ik r)) hin hout) he ?_
      rcases e with e | e
      ·exact congrArg (fun r=>Post vf_Ik (res_Ik r)) (qj hm).symm
      ·show EE c_Ik_33 K_Ik_33 (s_Ik_33) _
       exact ok_Ik_33 r hm
theorem ok_Ik (p0:Za) (r:Bool) (hm:m_Ik p0=some r):Runs ext tbl 131 (as_Ik p0) (res_Ik r):=
 runs_of (vf:=vf_Ik) (by kernel_rfl) rfl (st:=(enter vf_Ik (as_Ik p0)).getD default) (by kernel_rfl) (go_on [] 1000 J0 (ok_Ik_0 p0 r hm) (by kernel_rfl))
theorem ok_Ij_0 (p0:Int) (r:Bool) (hm:m_Ij_0 p0=some r):EE c_Ij_0 K_Ij_0 (s_Ij_0 p0) (Post vf_Ij (res_Ij r)):=by
 obtain ⟨a,hm⟩|⟨a,hm⟩:=split_ite hm
 ·exact ge (u3 a<|z0) (congrArg res_Ij (qj hm)) (by kernel_rfl)
 ·exact ge (v3 a<|z0) (congrArg res_Ij (qj hm)) (by kernel_rfl)
theorem ok_Ij (p0:Int) (r:Bool) (hm:m_Ij p0=some r):Runs ext tbl 133 (as_Ij p0) (res_Ij r):=
 runs_of (vf:=vf_Ij) (by kernel_rfl) rfl (st:=(enter vf_Ij (as_Ij p0)).getD default) (by kernel_rfl) (go_on [] 1000 J0 (ok_Ij_0 p0 r hm) (by kernel_rfl))
def O_Ii_59 (Q:VX→St→Prop) (e:(Bool)⊕((Int))):Prop:=match e with | .inl e=>Q=Post vf_Ii (res_Ii e) | .inr e=>EE c_Ii_81 K_Ii_81 (s_Ii_81 e) Q
def O_Ii_42 (p0:Zc) (Q:VX→St→Prop) (e:(LI)):Prop:=EE c_Ii_54 K_Ii_54 (s_Ii_54 p0 e) Q
def O_Ii_15 (p0:Zc) (Q:VX→St→Prop) (e:(Bool)⊕((Unit))):Prop:=match e with | .inl e=>Q=Post vf_Ii (res_Ii e) | .inr e=>EE c_Ii_33 K_Ii_33 (s_Ii_33 p0) Q
theorem ok_Ii_77 (c:Int) (p0:Zc) (d:Int) (a:Zb) (b:LI) (y) (hm:m_Ii_77 c p0 d a b=some y) (Q)
  (hin:∀ s,y=.inl s→EE c_Ii_59 K_Ii_59 (s_Ii_59 p0 s.1 s.2.1 s.2.2) Q) (hout:∀ e,y=.inr e→O_Ii_59 Q e):EE c_Ii_77 K_Ii_77 (s_Ii_77 c p0 d a b) Q:=by
 obtain ⟨g,f,hm⟩:=bind_some hm
 exact gw (hin _ (qj hm).symm) (wO (.rows (mi (b.set (0+Int.toNat a.track) a.time)))<|wP (rd_in rfl f)<|wP (put_ob (rI .i64) a.time 0 (.lit (vI a.time)) (rd_get0 f) (by kernel_rfl) (by kernel_rfl))<|wL (rI .u8) a.data<|wO (zn ((b.set (0+Int.toNat a.track) a.time).length))<|wP (lens b.length ((b.set (0+Int.toNat a.track) a.time).length) (set_len rfl))<|z0) (by kernel_rfl)
theorem ok_Ii_81 (a:Int) (r:Bool) (hm:m_Ii_81 a=some r):EE c_Ii_81 K_Ii_81 (s_Ii_81 a) (Post vf_Ii (res_Ii r)):=by
 exact ge (z0) (congrArg res_Ii (qj hm)) (by kernel_rfl)
theorem ok_Ii_59 (p0:Zc) (q u:Int) (r:LI) (y) (hm:m_Ii_59 p0 q u r=some y) (Q)
  (hin:∀ s,y=.inl s→EE c_Ii_59 K_Ii_59 (s_Ii_59 p0 s.1 s.2.1 s.2.2) Q) (hout:∀ e,y=.inr e→O_Ii_59 Q e):EE c_Ii_59 K_Ii_59 (s_Ii_59 p0 q u r) Q:=by
 obtain ⟨k,hm⟩|⟨k,hm⟩:=split_ite hm
 ·obtain ⟨c,f,hm⟩:=bind_some hm
  obtain ⟨a,hm⟩|⟨a,hm⟩:=split_ite hm
  ·have hQ:Q=Post vf_Ii (res_Ii false):=hout (.inl false) (qj hm).symm
   subst hQ
   exact ge (u1 k<|wO (.row (rZb c))<|wP (rd_nn f)<|wP (at_row rZb (rd_get f))<|u4 a<|u3 a<|u4 eT<|u4 eT<|u4 eT<|u4 eT<|u4 eT<|u4 eT<|u4 eT<|u1 eT<|z0) (rfl:res_Ii false=res_Ii false) (by kernel_rfl)
  ·obtain ⟨g,hm⟩|⟨g,hm⟩:=split_ite hm
   ·have hQ:Q=Post vf_Ii (res_Ii false):=hout (.inl false) (qj hm).symm
    subst hQ
    exact ge (u1 k<|wO (.row (rZb c))<|wP (rd_nn f)<|wP (at_row rZb (rd_get f))<|v4 a<|v1 a<|wL rZa p0.tracks<|v2 a<|u4 g<|u1 g<|u4 eT<|u4 eT<|u4 eT<|u4 eT<|u4 eT<|u4 eT<|z0) (rfl:res_Ii false=res_Ii false) (by kernel_rfl)
   ·obtain ⟨j,o,hm⟩:=bind_some hm
    obtain ⟨i,hm⟩|⟨i,hm⟩:=split_ite hm
    ·obtain ⟨l,p,hm⟩:=bind_some hm
     obtain ⟨b,hm⟩|⟨b,hm⟩:=split_ite hm
     ·obtain ⟨m,h,hm⟩:=bind_some hm
      obtain ⟨d,hm⟩|⟨d,hm⟩:=split_ite hm
      ·have hQ:Q=Post vf_Ii (res_Ii false):=hout (.inl false) (qj hm).symm
       subst hQ
       exact ge (u1 k<|wO (.row (rZb c))<|wP (rd_nn f)<|wP (at_row rZb (rd_get f))<|v4 a<|v1 a<|wL rZa p0.tracks<|v2 a<|v3 g<|wO (.res (res_Ij j))<|wP (ok_Ij c.time j o)<|v2 g<|v3 (not_f i)<|wO (.res (res_Ij l))<|wP (ok_Ij c.span l p)<|v2 (not_f i)<|v4 (not_f b)<|v2 (not_f b)<|wP (rd_in rfl h)<|v1 (not_f b)<|wO (.row ((rI .i64) m))<|wP (at_row (rI .i64) (rd_get0 h))<|v2 (not_f b)<|u4 d<|u4 d<|u1 d<|u1 eT<|z0) (rfl:res_Ii false=res_Ii false) (by kernel_rfl)
      ·obtain ⟨n,hm⟩|⟨n,hm⟩:=split_ite hm
       ·obtain ⟨t,hm⟩|⟨t,hm⟩:=split_ite hm
        ·exact gw (ok_Ii_77 _ _ _ _ _ y hm Q hin hout) (u1 k<|wO (.row (rZb c))<|wP (rd_nn f)<|wP (at_row rZb (rd_get f))<|v4 a<|v1 a<|wL rZa p0.tracks<|v2 a<|v3 g<|wO (.res (res_Ij j))<|wP (ok_Ij c.time j o)<|v2 g<|v3 (not_f i)<|wO (.res (res_Ij l))<|wP (ok_Ij c.span l p)<|v2 (not_f i)<|v4 (not_f b)<|v2 (not_f b)<|wP (rd_in rfl h)<|v1 (not_f b)<|wO (.row ((rI .i64) m))<|wP (at_row (rI .i64) (rd_get0 h))<|v2 (not_f b)<|v4 d<|wP (rd_in rfl h)<|v1 d<|wO (.row ((rI .i64) m))<|wP (at_row (rI .i64) (rd_get0 h))<|v2 d<|u3 n<|v1 d<|u1 n<|v1 d<|v1 (not_f t)<|wN r.length<|z0) (by kernel_rfl)
        ·have hQ:Q=Post vf_Ii (res_Ii false):=hout (.inl false) (qj hm).symm
         subst hQ
         exact ge (u1 k<|wO (.row (rZb c))<|wP (rd_nn f)<|wP (at_row rZb (rd_get f))<|v4 a<|v1 a<|wL rZa p0.tracks<|v2 a<|v3 g<|wO (.res (res_Ij j))<|wP (ok_Ij c.time j o)<|v2 g<|v3 (not_f i)<|wO (.res (res_Ij l))<|wP (ok_Ij c.span l p)<|v2 (not_f i)<|v4 (not_f b)<|v2 (not_f b)<|wP (rd_in rfl h)<|v1 (not_f b)<|wO (.row ((rI .i64) m))<|wP (at_row (rI .i64) (rd_get0 h))<|v2 (not_f b)<|v4 d<|wP (rd_in rfl h)<|v1 d<|wO (.row ((rI .i64) m))<|wP (at_row (rI .i64) (rd_get0 h))<|v2 d<|u3 n<|v1 d<|u1 n<|v1 d<|u1 (not_t t)<|z0) (rfl:res_Ii false=res_Ii false) (by kernel_rfl)
       ·exact gw (ok_Ii_77 _ _ _ _ _ y hm Q hin hout) (u1 k<|wO (.row (rZb c))<|wP (rd_nn f)<|wP (at_row rZb (rd_get f))<|v4 a<|v1 a<|wL rZa p0.tracks<|v2 a<|v3 g<|wO (.res (res_Ij j))<|wP (ok_Ij c.time j o)<|v2 g<|v3 (not_f i)<|wO (.res (res_Ij l))<|wP (ok_Ij c.span l p)<|v2 (not_f i)<|v4 (not_f b)<|v2 (not_f b)<|wP (rd_in rfl h)<|v1 (not_f b)<|wO (.row ((rI .i64) m))<|wP (at_row (rI .i64) (rd_get0 h))<|v2 (not_f b)<|v4 d<|wP (rd_in rfl h)<|v1 d<|wO (.row ((rI .i64) m))<|wP (at_row (rI .i64) (rd_get0 h))<|v2 d<|v3 n<|v1 d<|v1 n<|v1 d<|v1 eF<|wN r.length<|z0) (by kernel_rfl)
     ·have hQ:Q=Post vf_Ii (res_Ii false):=hout (.inl false) (qj hm).symm
      subst hQ
      exact ge (u1 k<|wO (.row (rZb c))<|wP (rd_nn f)<|wP (at_row rZb (rd_get f))<|v4 a<|v1 a<|wL rZa p0.tracks<|v2 a<|v3 g<|wO (.res (res_Ij j))<|wP (ok_Ij c.time j o)<|v2 g<|v3 (not_f i)<|wO (.res (res_Ij l))<|wP (ok_Ij c.span l p)<|v2 (not_f i)<|u4 (not_t b)<|u4 (not_t b)<|u1 (not_t b)<|u4 eT<|u4 eT<|u2 eT<|z0) (rfl:res_Ii false=res_Ii false) (by kernel_rfl)
    ·have hQ:Q=Post vf_Ii (res_Ii false):=hout (.inl false) (qj hm).symm
     subst hQ
     exact ge (u1 k<|wO (.row (rZb c))<|wP (rd_nn f)<|wP (at_row rZb (rd_get f))<|v4 a<|v1 a<|wL rZa p0.tracks<|v2 a<|v3 g<|wO (.res (res_Ij j))<|wP (ok_Ij c.time j o)<|v2 g<|u4 (not_t i)<|u1 (not_t i)<|u4 eT<|u4 eT<|u4 eT<|u4 eT<|u3 eT<|z0) (rfl:res_Ii false=res_Ii false) (by kernel_rfl)
 ·refine gm c_Ii_81 K_Ii_81 (s_Ii_81 q) (v1 k<|z0) ?_ (by kernel_rfl)
  exact hout (.inr q) (qj hm).symm
theorem ok_Ii_54 (p0:Zc) (a:LI) (r:Bool) (hm:m_Ii_54 p0 a=some r):EE c_Ii_54 K_Ii_54 (s_Ii_54 p0 a) (Post vf_Ii (res_Ii r)):=by
 refine gm c_Ii_59 K_Ii_59 (s_Ii_59 p0 0 0 a) (wL rZb p0.packets<|wN a.length<|z0) ?_ (by kernel_rfl)
 obtain ⟨e,he,hm⟩:=bind_some hm
 refine loop_rule (u:=.c c_Ii_59) (K:=K_Ii_59) (Q:=(Post vf_Ii (res_Ii r))) (b:=lp_Ii_59 p0) (We:=O_Ii_59 (Post vf_Ii (res_Ii r))) (stJ:=fun s=>s_Ii_59 p0 s.1 s.2.1 s.2.2) (s:=(0,0,a)) (fun s y hb hin hout=>ok_Ii_59 p0 s.1 s.2.1 s.2.2 y hb (Post vf_Ii (res_Ii r)) hin hout) he ?_
 rcases e with e | e
 ·exact congrArg (fun r=>Post vf_Ii (res_Ii r)) (qj hm).symm
 ·show EE c_Ii_81 K_Ii_81 (s_Ii_81 e) _
  exact ok_Ii_81 e r hm
theorem ok_Ii_42 (p0:Zc) (d b:Int) (a:LI) (y) (hm:m_Ii_42 p0 d b a=some y) (Q)
  (hin:∀ s,y=.inl s→EE c_Ii_42 K_Ii_42 (s_Ii_42 p0 s.1 s.2.1 s.2.2) Q) (hout:∀ e,y=.inr e→O_Ii_42 p0 Q e):EE c_Ii_42 K_Ii_42 (s_Ii_42 p0 d b a) Q:=by
 obtain ⟨c,hm⟩|⟨c,hm⟩:=split_ite hm
 ·obtain ⟨g,f,hm⟩:=bind_some hm
  exact gw (hin _ (qj hm).symm) (u1 c<|wO (.rows (mi (a.set (0+Int.toNat b) (-1))))<|wO (zn ((a.set (0+Int.toNat b) (-1)).length))<|wP (rd_in rfl f)<|wP (put_ob (rI .i64) (-1) 0 (.lit (vI (-1))) (rd_get0 f) (by kernel_rfl) (by kernel_rfl))<|wP (lens a.length ((a.set (0+Int.toNat b) (-1)).length) (set_len rfl))<|z0) (by kernel_rfl)
 ·refine gm c_Ii_54 K_Ii_54 (s_Ii_54 p0 a) (v1 c<|wN a.length<|z0) ?_ (by kernel_rfl)
  exact hout a (qj hm).symm
theorem ok_Ii_33 (p0:Zc) (r:Bool) (hm:m_Ii_33 p0=some r):EE c_Ii_33 K_Ii_33 (s_Ii_33 p0) (Post vf_Ii (res_Ii r)):=by
 obtain ⟨d,a,hm⟩:=bind_some hm
 refine gm c_Ii_42 K_Ii_42 (s_Ii_42 p0 ((Int.toNat (p0.tracks.length:Int)):Int) 0 (List.replicate (Int.toNat (p0.tracks.length:Int)) (0:Int))) (wL rZa p0.tracks<|wO (.rows (mi (List.replicate (Int.toNat (p0.tracks.length:Int)) (0:Int))))<|wO (zn (Int.toNat (p0.tracks.length:Int)))<|wO (zn ((List.replicate (Int.toNat (p0.tracks.length:Int)) (0:Int)).length))<|wP (ck_p a)<|wP (rep_ob (rI .i64) (Int.toNat (p0.tracks.length:Int)) (0:Int) [.lit (vI 0)] (by kernel_rfl))<|wP (len_map (rI .i64) (show (Int.toNat (p0.tracks.length:Int))=(List.replicate (Int.toNat (p0.tracks.length:Int)) (0:Int)).length from (rep_len (Int.toNat (p0.tracks.length:Int)) (0:Int))))<|wP (lens (Int.toNat (p0.tracks.length:Int)) ((List.replicate (Int.toNat (p0.tracks.length:Int)) (0:Int)).length) (rep_len (Int.toNat (p0.tracks.length:Int)) (0:Int)))<|z0) ?_ (by kernel_rfl)
 obtain ⟨e,he,hm⟩:=bind_some hm
 refine loop_rule (u:=.c c_Ii_42) (K:=K_Ii_42) (Q:=(Post vf_Ii (res_Ii r))) (b:=lp_Ii_42 p0) (We:=O_Ii_42 p0 (Post vf_Ii (res_Ii r))) (stJ:=fun s=>s_Ii_42 p0 s.1 s.2.1 s.2.2) (s:=(((Int.toNat (p0.tracks.length:Int)):Int),0,(List.replicate (Int.toNat (p0.tracks.length:Int)) (0:Int)))) (fun s y hb hin hout=>ok_Ii_42 p0 s.1 s.2.1 s.2.2 y hb (Post vf_Ii (res_Ii r)) hin hout) he ?_
 show EE c_Ii_54 K_Ii_54 (s_Ii_54 p0 e) _
 exact ok_Ii_54 p0 e r hm
theorem ok_Ii_15 (p0:Zc) (g:Int) (y) (hm:m_Ii_15 p0 g=some y) (Q)
  (hin:∀ s,y=.inl s→EE c_Ii_15 K_Ii_15 (s_Ii_15 p0 s) Q) (hout:∀ e,y=.inr e→O_Ii_15 p0 Q e):EE c_Ii_15 K_Ii_15 (s_Ii_15 p0 g) Q:=by
 obtain ⟨a,hm⟩|⟨a,hm⟩:=split_ite hm
 ·obtain ⟨b,c,hm⟩:=bind_some hm
  obtain ⟨d,h,hm⟩:=bind_some hm
  obtain ⟨f,hm⟩|⟨f,hm⟩:=split_ite hm
  ·exact gw (hin _ (qj hm).symm) (u1 a<|wO (.row (rZa b))<|wO (.res (res_Ik d))<|wP (rd_nn c)<|wP (at_row rZa (rd_get c))<|wP (ok_Ik b d h)<|v1 (not_f f)<|z0) (by kernel_rfl)
  ·have hQ:Q=Post vf_Ii (res_Ii false):=hout (.inl false) (qj hm).symm
   subst hQ
   exact ge (u1 a<|wO (.row (rZa b))<|wO (.res (res_Ik d))<|wP (rd_nn c)<|wP (at_row rZa (rd_get c))<|wP (ok_Ik b d h)<|u1 (not_t f)<|z0) (rfl:res_Ii false=res_Ii false) (by kernel_rfl)
 ·refine gm c_Ii_33 K_Ii_33 (s_Ii_33 p0) (v1 a<|z0) ?_ (by kernel_rfl)
  exact hout (.inr ()) (qj hm).symm
theorem ok_Ii_0 (p0:Zc) (r:Bool) (hm:m_Ii_0 p0=some r):EE c_Ii_0 K_Ii_0 (s_Ii_0 p0) (Post vf_Ii (res_Ii r)):=by
 obtain ⟨a,hm⟩|⟨a,hm⟩:=split_ite hm
 ·exact ge (wL rZa p0.tracks<|u4 a<|u1 a<|u4 eT<|u2 eT<|z0) (congrArg res_Ii (qj hm)) (by kernel_rfl)
 ·obtain ⟨d,hm⟩|⟨d,hm⟩:=split_ite hm
  ·exact ge (wL rZa p0.tracks<|v3 a<|wL rZa p0.tracks<|v2 a<|u4 d<|u1 d<|u1 eT<|z0) (congrArg res_Ii (qj hm)) (by kernel_rfl)
  ·obtain ⟨f,hm⟩|⟨f,hm⟩:=split_ite hm
   ·exact ge (wL rZa p0.tracks<|v3 a<|wL rZa p0.tracks<|v2 a<|v3 d<|wL rZb p0.packets<|v2 d<|u1 f<|z0) (congrArg res_Ii (qj hm)) (by kernel_rfl)
   ·refine gm c_Ii_15 K_Ii_15 (s_Ii_15 p0 0) (wL rZa p0.tracks<|v3 a<|wL rZa p0.tracks<|v2 a<|v3 d<|wL rZb p0.packets<|v2 d<|v1 f<|wL rZa p0.tracks<|z0) ?_ (by kernel_rfl)
    obtain ⟨e,he,hm⟩:=bind_some hm
    refine loop_rule (u:=.c c_Ii_15) (K:=K_Ii_15) (Q:=(Post vf_Ii (res_Ii r))) (b:=lp_Ii_15 p0) (We:=O_Ii_15 p0 (Post vf_Ii (res_Ii r))) (stJ:=fun s=>s_Ii_15 p0 s) (s:=0) (fun s y hb hin hout=>ok_Ii_15 p0 s y hb (Post vf_Ii (res_Ii r)) hin hout) he ?_
    rcases e with e | e
    ·exact congrArg (fun r=>Post vf_Ii (res_Ii r)) (qj hm).symm
    ·show EE c_Ii_33 K_Ii_33 (s_Ii_33 p0) _
     exact ok_Ii_33 p0 r hm
theorem ok_Ii (p0:Zc) (r:Bool) (hm:m_Ii p0=some r):Runs ext tbl 112 (as_Ii p0) (res_Ii r):=
 runs_of (vf:=vf_Ii) (by kernel_rfl) rfl (st:=(enter vf_Ii (as_Ii p0)).getD default) (by kernel_rfl) (go_on [] 1000 J0 (ok_Ii_0 p0 r hm) (by kernel_rfl))
theorem ok_Ig_0 (p0:Zc) (p1 p2:Int) (r:Bool) (hm:m_Ig_0 p0 p1 p2=some r):EE c_Ig_0 K_Ig_0 (s_Ig_0 p0 p1 p2) (Post vf_Ig (res_Ig r)):=by
 obtain ⟨f,a,hm⟩:=bind_some hm
 obtain ⟨g,b,hm⟩:=bind_some hm
 obtain ⟨h,c,hm⟩:=bind_some hm
 obtain ⟨i,d,hm⟩:=bind_some hm
 obtain ⟨e,hm⟩|⟨e,hm⟩:=split_ite hm
 ·exact ge (wO (.row (rZb f))<|wO (.row (rZb g))<|wO (.row (rZa h))<|wO (.row (rZa i))<|wO zT<|wP (rd_nn a)<|wP (at_row rZb (rd_get a))<|wP (rd_nn b)<|wP (at_row rZb (rd_get b))<|wP (rd_nn c)<|wP (at_row rZa (rd_get c))<|wP (rd_nn d)<|wP (at_row rZa (rd_get d))<|wP e<|z0) (congrArg res_Ig (qj hm)) (by kernel_rfl)
 ·obtain ⟨j,hm⟩|⟨j,hm⟩:=split_ite hm
  ·exact ge (wO (.row (rZb f))<|wO (.row (rZb g))<|wO (.row (rZa h))<|wO (.row (rZa i))<|wO zF<|wO zT<|wP (rd_nn a)<|wP (at_row rZb (rd_get a))<|wP (rd_nn b)<|wP (at_row rZb (rd_get b))<|wP (rd_nn c)<|wP (at_row rZa (rd_get c))<|wP (rd_nn d)<|wP (at_row rZa (rd_get d))<|wP e<|wP j<|z0) (congrArg res_Ig (qj hm)) (by kernel_rfl)
  ·exact ge (wO (.row (rZb f))<|wO (.row (rZb g))<|wO (.row (rZa h))<|wO (.row (rZa i))<|wO zF<|wO zF<|wP (rd_nn a)<|wP (at_row rZb (rd_get a))<|wP (rd_nn b)<|wP (at_row rZb (rd_get b))<|wP (rd_nn c)<|wP (at_row rZa (rd_get c))<|wP (rd_nn d)<|wP (at_row rZa (rd_get d))<|wP e<|wP j<|z0) (congrArg res_Ig (qj hm)) (by kernel_rfl)
theorem ok_Ig (p0:Zc) (p1 p2:Int) (r:Bool) (hm:m_Ig p0 p1 p2=some r):Runs ext tbl 113 (as_Ig p0 p1 p2) (res_Ig r):=
 runs_of (vf:=vf_Ig) (by kernel_rfl) rfl (st:=(enter vf_Ig (as_Ig p0 p1 p2)).getD default) (by kernel_rfl) (go_on [] 1000 J0 (ok_Ig_0 p0 p1 p2 r hm) (by kernel_rfl))
def O_Ib_15 (Q:VX→St→Prop) (e:(Bool)⊕((Unit))):Prop:=match e with | .inl e=>Q=Post vf_Ib (res_Ib e) | .inr e=>EE c_Ib_31 K_Ib_31 (s_Ib_31) Q
theorem ok_Ib_31 (r:Bool) (hm:m_Ib_31=some r):EE c_Ib_31 K_Ib_31 (s_Ib_31) (Post vf_Ib (res_Ib r)):=by
 exact ge (z0) (congrArg res_Ib (qj hm)) (by kernel_rfl)
theorem ok_Ib_15 (p0:Zc) (a:Int) (y) (hm:m_Ib_15 p0 a=some y) (Q)
  (hin:∀ s,y=.inl s→EE c_Ib_15 K_Ib_15 (s_Ib_15 p0 s) Q) (hout:∀ e,y=.inr e→O_Ib_15 Q e):EE c_Ib_15 K_Ib_15 (s_Ib_15 p0 a) Q:=by
 obtain ⟨b,hm⟩|⟨b,hm⟩:=split_ite hm
 ·obtain ⟨c,f,hm⟩:=bind_some hm
  obtain ⟨d,hm⟩|⟨d,hm⟩:=split_ite hm
  ·have hQ:Q=Post vf_Ib (res_Ib false):=hout (.inl false) (qj hm).symm
   subst hQ
   exact ge (wL rZb p0.packets<|u1 b<|wO (.res (res_Ig c))<|wP (ok_Ig p0 a (w64 (a - 1)) c f)<|u1 d<|z0) (rfl:res_Ib false=res_Ib false) (by kernel_rfl)
  ·exact gw (hin _ (qj hm).symm) (wL rZb p0.packets<|u1 b<|wO (.res (res_Ig c))<|wP (ok_Ig p0 a (w64 (a - 1)) c f)<|v1 d<|z0) (by kernel_rfl)
 ·refine gm c_Ib_31 K_Ib_31 (s_Ib_31) (wL rZb p0.packets<|v1 b<|z0) ?_ (by kernel_rfl)
  exact hout (.inr ()) (qj hm).symm
theorem ok_Ib_0 (p0:Zc) (r:Bool) (hm:m_Ib_0 p0=some r):EE c_Ib_0 K_Ib_0 (s_Ib_0 p0) (Post vf_Ib (res_Ib r)):=by
 obtain ⟨a,f,hm⟩:=bind_some hm
 obtain ⟨d,hm⟩|⟨d,hm⟩:=split_ite hm
 ·refine gm c_Ib_15 K_Ib_15 (s_Ib_15 p0 1) (wO (.res (res_Ii a))<|wP (ok_Ii p0 a f)<|v1 (not_f d)<|z0) ?_ (by kernel_rfl)
  obtain ⟨e,he,hm⟩:=bind_some hm
  refine loop_rule (u:=.c c_Ib_15) (K:=K_Ib_15) (Q:=(Post vf_Ib (res_Ib r))) (b:=lp_Ib_15 p0) (We:=O_Ib_15 (Post vf_Ib (res_Ib r))) (stJ:=fun s=>s_Ib_15 p0 s) (s:=1) (fun s y hb hin hout=>ok_Ib_15 p0 s y hb (Post vf_Ib (res_Ib r)) hin hout) he ?_
  rcases e with e | e
  ·exact congrArg (fun r=>Post vf_Ib (res_Ib r)) (qj hm).symm
  ·show EE c_Ib_31 K_Ib_31 (s_Ib_31) _
   exact ok_Ib_31 r hm
 ·exact ge (wO (.res (res_Ii a))<|wP (ok_Ii p0 a f)<|u1 (not_t d)<|z0) (congrArg res_Ib (qj hm)) (by kernel_rfl)
theorem ok_Ib (p0:Zc) (r:Bool) (hm:m_Ib p0=some r):Runs ext tbl 54 (as_Ib p0) (res_Ib r):=
 runs_of (vf:=vf_Ib) (by kernel_rfl) rfl (st:=(enter vf_Ib (as_Ib p0)).getD default) (by kernel_rfl) (go_on [] 1000 J0 (ok_Ib_0 p0 r hm) (by kernel_rfl))
def O_Ic_7 (Q:VX→St→Prop) (e:(Int×LI)):Prop:=EE c_Ic_17 K_Ic_17 (s_Ic_17 e.1 e.2) Q
theorem ok_Ic_17 (a:Int) (b r:LI) (hm:m_Ic_17 a b=some r):EE c_Ic_17 K_Ic_17 (s_Ic_17 a b) (Post vf_Ic (res_Ic r)):=by
 obtain ⟨d,c,hm⟩:=bind_some hm
 exact ge (wO (.rows (List.map (rI .u8) ([(wr .u8 a)]:LI)))<|wO (zn 1)<|wO (.rows (List.map (rI .u8) (b++([(wr .u8 a)]:LI))))<|wO (zn ((b++([(wr .u8 a)]:LI)).length))<|wO (.rows (List.map (rI .u8) (b++([(wr .u8 a)]:LI))))<|wP (Eq.refl (List.map (rI .u8) ([(wr .u8 a)]:LI)))<|wP (len_map (rI .u8) (show 1=([(wr .u8 a)]:LI).length from rfl))<|wP (all_le (rI .u8) ([(wr .u8 a)]:LI) rfl)<|wP (app_ck (rI .u8) b ([(wr .u8 a)]:LI) rfl rfl c)<|wP (app_tell (rI .u8) b ([(wr .u8 a)]:LI) rfl rfl)<|wP (len_map (rI .u8) (show (b++([(wr .u8 a)]:LI)).length=(b++([(wr .u8 a)]:LI)).length from rfl))<|wP (all_le0 (rI .u8) (b++([(wr .u8 a)]:LI)) rfl)<|wP (all_t (rI .u8) (b++([(wr .u8 a)]:LI)) rfl)<|z0) (congrArg res_Ic (qj hm)) (by kernel_rfl)
theorem ok_Ic_7 (a:Int) (b:LI) (y) (hm:m_Ic_7 a b=some y) (Q)
  (hin:∀ s,y=.inl s→EE c_Ic_7 K_Ic_7 (s_Ic_7 s.1 s.2) Q) (hout:∀ e,y=.inr e→O_Ic_7 Q e):EE c_Ic_7 K_Ic_7 (s_Ic_7 a b) Q:=by
 obtain ⟨c,hm⟩|⟨c,hm⟩:=split_ite hm
 ·obtain ⟨f,d,hm⟩:=bind_some hm
  exact gw (hin _ (qj hm).symm) (u1 c<|wO (.rows (List.map (rI .u8) ([(orI .u8 (wr .u8 a) 128)]:LI)))<|wO (zn 1)<|wO (.rows (List.map (rI .u8) (b++([(orI .u8 (wr .u8 a) 128)]:LI))))<|wO (zn ((b++([(orI .u8 (wr .u8 a) 128)]:LI)).length))<|wO (zn ((b++([(orI .u8 (wr .u8 a) 128)]:LI)).length))<|wP (Eq.refl (List.map (rI .u8) ([(orI .u8 (wr .u8 a) 128)]:LI)))<|wP (len_map (rI .u8) (show 1=([(orI .u8 (wr .u8 a) 128)]:LI).length from rfl))<|wP (all_le (rI .u8) ([(orI .u8 (wr .u8 a) 128)]:LI) rfl)<|wP (app_ck (rI .u8) b ([(orI .u8 (wr .u8 a) 128)]:LI) rfl rfl d)<|wP (app_tell (rI .u8) b ([(orI .u8 (wr .u8 a) 128)]:LI) rfl rfl)<|wP (len_map (rI .u8) (show (b++([(orI .u8 (wr .u8 a) 128)]:LI)).length=(b++([(orI .u8 (wr .u8 a) 128)]:LI)).length from rfl))<|wP (by decide:(0:Int)≤7)<|wP (lens ((b++([(orI .u8 (wr .u8 a) 128)]:LI)).length) ((b++([(orI .u8 (wr .u8 a) 128)]:LI)).length) rfl)<|z0) (by kernel_rfl)
 ·refine gm c_Ic_17 K_Ic_17 (s_Ic_17 a b) (v1 c<|wN b.length<|z0) ?_ (by kernel_rfl)
  exact hout (a,b) (qj hm).symm
theorem ok_Ic_0 (p0:Int) (r:LI) (hm:m_Ic_0 p0=some r):EE c_Ic_0 K_Ic_0 (s_Ic_0 p0) (Post vf_Ic (res_Ic r)):=by
 refine gm c_Ic_7 K_Ic_7 (s_Ic_7 p0 ([]:LI)) (wO (zn (([]:LI).length))<|wP (lens 0 (([]:LI).length) rfl)<|z0) ?_ (by kernel_rfl)
 obtain ⟨e,he,hm⟩:=bind_some hm
 refine loop_rule (u:=.c c_Ic_7) (K:=K_Ic_7) (Q:=(Post vf_Ic (res_Ic r))) (b:=lp_Ic_7) (We:=O_Ic_7 (Post vf_Ic (res_Ic r))) (stJ:=fun s=>s_Ic_7 s.1 s.2) (s:=(p0,([]:LI))) (fun s y hb hin hout=>ok_Ic_7 s.1 s.2 y hb (Post vf_Ic (res_Ic r)) hin hout) he ?_
 show EE c_Ic_17 K_Ic_17 (s_Ic_17 e.1 e.2) _
 exact ok_Ic_17 e.1 e.2 r hm
theorem ok_Ic (p0:Int) (r:LI) (hm:m_Ic p0=some r):Runs ext tbl 56 (as_Ic p0) (res_Ic r):=
 runs_of (vf:=vf_Ic) (by kernel_rfl) rfl (st:=(enter vf_Ic (as_Ic p0)).getD default) (by kernel_rfl) (go_on [] 1000 J0 (ok_Ic_0 p0 r hm) (by kernel_rfl))
theorem ok_Ie_0 (p0:Int) (p1 r:LI) (hm:m_Ie_0 p0 p1=some r):EE c_Ie_0 K_Ie_0 (s_Ie_0 p0 p1) (Post vf_Ie (res_Ie r)):=by
 obtain ⟨a,b,hm⟩:=bind_some hm
 obtain ⟨d,c,hm⟩:=bind_some hm
 exact ge (wO (.res (res_Ic a))<|wP (ok_Ic (wr .u64 p0) a b)<|wL (rI .u8) a<|wO (.rows (List.map (rI .u8) (p1++a)))<|wO (zn ((p1++a).length))<|wO (.rows (List.map (rI .u8) (p1++a)))<|wP (all_le (rI .u8) a rfl)<|wP (app_ck (rI .u8) p1 a rfl rfl c)<|wP (app_tell (rI .u8) p1 a rfl rfl)<|wP (len_map (rI .u8) (show (p1++a).length=(p1++a).length from rfl))<|wP (all_le0 (rI .u8) (p1++a) rfl)<|wP (all_t (rI .u8) (p1++a) rfl)<|z0) (congrArg res_Ie (qj hm)) (by kernel_rfl)
theorem ok_Ie (p0:Int) (p1 r:LI) (hm:m_Ie p0 p1=some r):Runs ext tbl 55 (as_Ie p0 p1) (res_Ie r):=
 runs_of (vf:=vf_Ie) (by kernel_rfl) rfl (st:=(enter vf_Ie (as_Ie p0 p1)).getD default) (by kernel_rfl) (go_on [zn p1.length] 1000 (J (len_map (rI .u8) (rfl:p1.length=p1.length)) J0) (ok_Ie_0 p0 p1 r hm) (by kernel_rfl))
def O_Ia_25 (p0:LI) (a:Int) (Q:VX→St→Prop) (e:(Int)):Prop:=EE c_Ia_35 K_Ia_35 (s_Ia_35 p0 a e) Q
def O_Ia_9 (Q:VX→St→Prop) (e:(Int)):Prop:=EE c_Ia_36 K_Ia_36 (s_Ia_36 e) Q
theorem ok_Ia_35 (p0:LI) (a b:Int) (y) (hm:m_Ia_35 p0 a b=some y) (Q)
  (hin:∀ s,y=.inl s→EE c_Ia_9 K_Ia_9 (s_Ia_9 p0 s.1 s.2) Q) (hout:∀ e,y=.inr e→O_Ia_9 Q e):EE c_Ia_35 K_Ia_35 (s_Ia_35 p0 a b) Q:=by
 exact gw (hin _ (qj hm).symm) (z0) (by kernel_rfl)
theorem ok_Ia_25 (p0:LI) (a b d:Int) (y) (hm:m_Ia_25 p0 a b d=some y) (Q)
  (hin:∀ s,y=.inl s→EE c_Ia_25 K_Ia_25 (s_Ia_25 p0 a s.1 s.2) Q) (hout:∀ e,y=.inr e→O_Ia_25 p0 a Q e):EE c_Ia_25 K_Ia_25 (s_Ia_25 p0 a b d) Q:=by
 obtain ⟨c,hm⟩|⟨c,hm⟩:=split_ite hm
 ·exact gw (hin _ (qj hm).symm) (u1 c<|wP (by decide:(0:Int)≤1)<|z0) (by kernel_rfl)
 ·refine gm c_Ia_35 K_Ia_35 (s_Ia_35 p0 a b) (v1 c<|z0) ?_ (by kernel_rfl)
  exact hout b (qj hm).symm
theorem ok_Ia_36 (a r:Int) (hm:m_Ia_36 a=some r):EE c_Ia_36 K_Ia_36 (s_Ia_36 a) (Post vf_Ia (res_Ia r)):=by
 exact ge (z0) (congrArg res_Ia (qj hm)) (by kernel_rfl)
theorem ok_Ia_9 (p0:LI) (d a:Int) (y) (hm:m_Ia_9 p0 d a=some y) (Q)
  (hin:∀ s,y=.inl s→EE c_Ia_9 K_Ia_9 (s_Ia_9 p0 s.1 s.2) Q) (hout:∀ e,y=.inr e→O_Ia_9 Q e):EE c_Ia_9 K_Ia_9 (s_Ia_9 p0 d a) Q:=by
 obtain ⟨f,hm⟩|⟨f,hm⟩:=split_ite hm
 ·obtain ⟨g,h,hm⟩:=bind_some hm
  refine gm c_Ia_25 K_Ia_25 (s_Ia_25 p0 a (xorI .u32 d (wr .u32 g)) 0) (u1 f<|wO (.row ((rI .u8) g))<|wP (rd_nn h)<|wP (at_row (rI .u8) (rd_get h))<|z0) ?_ (by kernel_rfl)
  obtain ⟨e,he,hm⟩:=bind_some hm
  refine loop_rule (u:=.c c_Ia_25) (K:=K_Ia_25) (Q:=Q) (b:=lp_Ia_25 p0 a) (We:=O_Ia_25 p0 a Q) (stJ:=fun s=>s_Ia_25 p0 a s.1 s.2) (s:=((xorI .u32 d (wr .u32 g)),0)) (fun s y hb hin hout=>ok_Ia_25 p0 a s.1 s.2 y hb Q hin hout) he ?_
  show EE c_Ia_35 K_Ia_35 (s_Ia_35 p0 a e) _
  exact ok_Ia_35 p0 a e y hm Q hin hout
 ·refine gm c_Ia_36 K_Ia_36 (s_Ia_36 d) (v1 f<|z0) ?_ (by kernel_rfl)
  exact hout d (qj hm).symm
theorem ok_Ia_0 (p0:LI) (r:Int) (hm:m_Ia_0 p0=some r):EE c_Ia_0 K_Ia_0 (s_Ia_0 p0) (Post vf_Ia (res_Ia r)):=by
 refine gm c_Ia_9 K_Ia_9 (s_Ia_9 p0 4294967295 0) (wL (rI .u8) p0<|z0) ?_ (by kernel_rfl)
 obtain ⟨e,he,hm⟩:=bind_some hm
 refine loop_rule (u:=.c c_Ia_9) (K:=K_Ia_9) (Q:=(Post vf_Ia (res_Ia r))) (b:=lp_Ia_9 p0) (We:=O_Ia_9 (Post vf_Ia (res_Ia r))) (stJ:=fun s=>s_Ia_9 p0 s.1 s.2) (s:=(4294967295,0)) (fun s y hb hin hout=>ok_Ia_9 p0 s.1 s.2 y hb (Post vf_Ia (res_Ia r)) hin hout) he ?_
 show EE c_Ia_36 K_Ia_36 (s_Ia_36 e) _
 exact ok_Ia_36 e r hm
theorem ok_Ia (p0:LI) (r:Int) (hm:m_Ia p0=some r):Runs ext tbl 59 (as_Ia p0) (res_Ia r):=
 runs_of (vf:=vf_Ia) (by kernel_rfl) rfl (st:=(enter vf_Ia (as_Ia p0)).getD default) (by kernel_rfl) (go_on [] 1000 J0 (ok_Ia_0 p0 r hm) (by kernel_rfl))
theorem ok_Ih_0 (p0:Int) (r:LI) (hm:m_Ih_0 p0=some r):EE c_Ih_0 K_Ih_0 (s_Ih_0 p0) (Post vf_Ih (res_Ih r)):=by
 exact ge (wO (.rows (List.map (rI .u8) ([(wr .u8 (shrI .i64 p0 24)),(wr .u8 (shrI .i64 p0 16)),(wr .u8 (shrI .i64 p0 8)),(wr .u8 p0)]:LI)))<|wO (zn 4)<|wO (.rows (List.map (rI .u8) ([(wr .u8 (shrI .i64 p0 24)),(wr .u8 (shrI .i64 p0 16)),(wr .u8 (shrI .i64 p0 8)),(wr .u8 p0)]:LI)))<|wP (by decide:(0:Int)≤24)<|wP (by decide:(0:Int)≤16)<|wP (by decide:(0:Int)≤8)<|wP (Eq.refl (List.map (rI .u8) ([(wr .u8 (shrI .i64 p0 24)),(wr .u8 (shrI .i64 p0 16)),(wr .u8 (shrI .i64 p0 8)),(wr .u8 p0)]:LI)))<|wP (len_map (rI .u8) (show 4=([(wr .u8 (shrI .i64 p0 24)),(wr .u8 (shrI .i64 p0 16)),(wr .u8 (shrI .i64 p0 8)),(wr .u8 p0)]:LI).length from rfl))<|wP (all_le0 (rI .u8) ([(wr .u8 (shrI .i64 p0 24)),(wr .u8 (shrI .i64 p0 16)),(wr .u8 (shrI .i64 p0 8)),(wr .u8 p0)]:LI) rfl)<|wP (all_t (rI .u8) ([(wr .u8 (shrI .i64 p0 24)),(wr .u8 (shrI .i64 p0 16)),(wr .u8 (shrI .i64 p0 8)),(wr .u8 p0)]:LI) rfl)<|z0) (congrArg res_Ih (qj hm)) (by kernel_rfl)
theorem ok_Ih (p0:Int) (r:LI) (hm:m_Ih p0=some r):Runs ext tbl 58 (as_Ih p0) (res_Ih r):=
 runs_of (vf:=vf_Ih) (by kernel_rfl) rfl (st:=(enter vf_Ih (as_Ih p0)).getD default) (by kernel_rfl) (go_on [] 1000 J0 (ok_Ih_0 p0 r hm) (by kernel_rfl))
theorem ok_If_0 (p0:Int) (p1 r:LI) (hm:m_If_0 p0 p1=some r):EE c_If_0 K_If_0 (s_If_0 p0 p1) (Post vf_If (res_If r)):=by
 obtain ⟨h,c,hm⟩:=bind_some hm
 obtain ⟨i,d,hm⟩:=bind_some hm
 obtain ⟨b,e,hm⟩:=bind_some hm
 obtain ⟨a,f,hm⟩:=bind_some hm
 obtain ⟨j,g,hm⟩:=bind_some hm
 exact ge (wO (.rows (List.map (rI .u8) ((p1.drop (0+(Int.toNat p0))).take (p1.length - (Int.toNat p0)))))<|wO (.res (res_Ia b))<|wO (.res (res_Ih a))<|wP (ck_p c)<|wP (part_le (rI .u8) p1 (ck_p d))<|wP (part_dt (rI .u8) p1 (0+(Int.toNat p0)) (p1.length - (Int.toNat p0)))<|wP (ok_Ia ((p1.drop (0+(Int.toNat p0))).take (p1.length - (Int.toNat p0))) b e)<|wP (ok_Ih (w64 b) a f)<|wL (rI .u8) a<|wO (.rows (List.map (rI .u8) (p1++a)))<|wO (zn ((p1++a).length))<|wO (.rows (List.map (rI .u8) (p1++a)))<|wP (all_le (rI .u8) a rfl)<|wP (app_ck (rI .u8) p1 a rfl rfl g)<|wP (app_tell (rI .u8) p1 a rfl rfl)<|wP (len_map (rI .u8) (show (p1++a).length=(p1++a).length from rfl))<|wP (all_le0 (rI .u8) (p1++a) rfl)<|wP (all_t (rI .u8) (p1++a) rfl)<|z0) (congrArg res_If (qj hm)) (by kernel_rfl)
theorem ok_If (p0:Int) (p1 r:LI) (hm:m_If p0 p1=some r):Runs ext tbl 57 (as_If p0 p1) (res_If r):=
 runs_of (vf:=vf_If) (by kernel_rfl) rfl (st:=(enter vf_If (as_If p0 p1)).getD default) (by kernel_rfl) (go_on [zn p1.length] 1000 (J (len_map (rI .u8) (rfl:p1.length=p1.length)) J0) (ok_If_0 p0 p1 r hm) (by kernel_rfl))
def O_Id_93 (p1 a:Int) (b:LI) (c d:LZa) (f g:Int) (p0:Zc) (h:LZb) (Q:VX→St→Prop) (e:(LI)):Prop:=EE c_Id_105 K_Id_105 (s_Id_105 p1 a b c d f g p0 h e) Q
def O_Id_111 (p1 a:Int) (b:LI) (p0:Zc) (c:LZb) (Q:VX→St→Prop) (e:(LI)):Prop:=EE c_Id_123 K_Id_123 (s_Id_123 p1 a b p0 c e) Q
def O_Id_69 (p1 a:Int) (b:LI) (p0:Zc) (Q:VX→St→Prop) (e:(LZa×LZb×LI)):Prop:=EE c_Id_106 K_Id_106 (s_Id_106 p1 a b p0 e.1 e.2.1 e.2.2) Q
def O_Id_136 (a:LI) (Q:VX→St→Prop) (e:(LI)):Prop:=EE c_Id_152 K_Id_152 (s_Id_152 a e) Q
def O_Id_46 (Q:VX→St→Prop) (e:(LZb×LI)):Prop:=EE c_Id_125 K_Id_125 (s_Id_125 e.1 e.2) Q
def O_Id_21 (p1:Int) (p0:Zc) (Q:VX→St→Prop) (e:(LI)):Prop:=EE c_Id_37 K_Id_37 (s_Id_37 p1 p0 e) Q
theorem ok_Id_105 (p1 a:Int) (b:LI) (f g:LZa) (h i:Int) (p0:Zc) (c:LZb) (d:LI) (y) (hm:m_Id_105 p1 a b f g h i p0 c d=some y) (Q)
  (hin:∀ s,y=.inl s→EE c_Id_69 K_Id_69 (s_Id_69 p1 a b p0 s.1 s.2.1 s.2.2.1 s.2.2.2.1 s.2.2.2.2.1 s.2.2.2.2.2) Q) (hout:∀ e,y=.inr e→O_Id_69 p1 a b p0 Q e):EE c_Id_105 K_Id_105 (s_Id_105 p1 a b f g h i p0 c d) Q:=by
 exact gw (hin _ (qj hm).symm) (wN c.length<|wN d.length<|z0) (by kernel_rfl)
theorem ok_Id_93 (p1 c:Int) (d:LI) (f g:LZa) (h i:Int) (p0:Zc) (a:LZb) (m:Int) (k b:LI) (y) (hm:m_Id_93 p1 c d f g h i p0 a m k b=some y) (Q)
  (hin:∀ s,y=.inl s→EE c_Id_93 K_Id_93 (s_Id_93 p1 c d f g h i p0 a s.1 s.2.1 s.2.2) Q) (hout:∀ e,y=.inr e→O_Id_93 p1 c d f g h i p0 a Q e):EE c_Id_93 K_Id_93 (s_Id_93 p1 c d f g h i p0 a m k b) Q:=by
 obtain ⟨l,hm⟩|⟨l,hm⟩:=split_ite hm
 ·obtain ⟨n,o,hm⟩:=bind_some hm
  obtain ⟨j,p,hm⟩:=bind_some hm
  exact gw (hin _ (qj hm).symm) (u1 l<|wO (.row ((rI .i64) n))<|wP (rd_in rfl o)<|wP (at_row (rI .i64) (rd_get0 o))<|wR (rI .u8) b<|wO (.res (res_Ie j))<|wP (ok_Ie n b j p)<|wL (rI .u8) j<|wK a.length k.length j.length<|z0) (by kernel_rfl)
 ·refine gm c_Id_105 K_Id_105 (s_Id_105 p1 c d f g h i p0 a b) (v1 l<|wN a.length<|wN b.length<|z0) ?_ (by kernel_rfl)
  exact hout b (qj hm).symm
theorem ok_Id_89 (p1 d:Int) (f:LI) (h i:LZa) (j k:Int) (p0:Zc) (a:Zb) (m:LI) (l:Int) (g:LZb) (y) (hm:m_Id_89 p1 d f h i j k p0 a m l g=some y) (Q)
  (hin:∀ s,y=.inl s→EE c_Id_69 K_Id_69 (s_Id_69 p1 d f p0 s.1 s.2.1 s.2.2.1 s.2.2.2.1 s.2.2.2.2.1 s.2.2.2.2.2) Q) (hout:∀ e,y=.inr e→O_Id_69 p1 d f p0 Q e):EE c_Id_89 K_Id_89 (s_Id_89 p1 d f h i j k p0 a m l g) Q:=by
 refine gm c_Id_93 K_Id_93 (s_Id_93 p1 d f h i j k p0 g 0 ([a.track,a.time,a.span,l,(a.data.length:Int)]:LI) m) (wL (rI .u8) a.data<|wO (.rows (mi ([a.track,a.time,a.span,l,(a.data.length:Int)]:LI)))<|wO (zn 5)<|wP (Eq.refl (mi ([a.track,a.time,a.span,l,(a.data.length:Int)]:LI)))<|wP (len_map (rI .i64) (show 5=([a.track,a.time,a.span,l,(a.data.length:Int)]:LI).length from rfl))<|wN g.length<|wO (zn (([a.track,a.time,a.span,l,(a.data.length:Int)]:LI).length))<|wP (lens 5 (([a.track,a.time,a.span,l,(a.data.length:Int)]:LI).length) rfl)<|wN m.length<|z0) ?_ (by kernel_rfl)
 obtain ⟨e,he,hm⟩:=bind_some hm
 refine loop_rule (u:=.c c_Id_93) (K:=K_Id_93) (Q:=Q) (b:=lp_Id_93 p1 d f h i j k p0 g) (We:=O_Id_93 p1 d f h i j k p0 g Q) (stJ:=fun s=>s_Id_93 p1 d f h i j k p0 g s.1 s.2.1 s.2.2) (s:=(0,([a.track,a.time,a.span,l,(a.data.length:Int)]:LI),m)) (fun s y hb hin hout=>ok_Id_93 p1 d f h i j k p0 g s.1 s.2.1 s.2.2 y hb Q hin hout) he ?_
 show EE c_Id_105 K_Id_105 (s_Id_105 p1 d f h i j k p0 g e) _
 exact ok_Id_105 p1 d f h i j k p0 g e y hm Q hin hout
theorem ok_Id_123 (p1 f:Int) (c:LI) (p0:Zc) (d:LZb) (a:LI) (y) (hm:m_Id_123 p1 f c p0 d a=some y) (Q)
  (hin:∀ s,y=.inl s→EE c_Id_46 K_Id_46 (s_Id_46 p1 p0 s.1 s.2.1 s.2.2) Q) (hout:∀ e,y=.inr e→O_Id_46 Q e):EE c_Id_123 K_Id_123 (s_Id_123 p1 f c p0 d a) Q:=by
 obtain ⟨b,g,hm⟩:=bind_some hm
 exact gw (hin _ (qj hm).symm) (wR (rI .u8) a<|wO (.res (res_If b))<|wP (ok_If (c.length:Int) a b g)<|wL (rI .u8) b<|wN d.length<|wN b.length<|z0) (by kernel_rfl)
theorem ok_Id_111 (p1 d:Int) (f:LI) (g:LZa) (p0:Zc) (c:LZb) (i:Int) (a:LI) (y) (hm:m_Id_111 p1 d f g p0 c i a=some y) (Q)
  (hin:∀ s,y=.inl s→EE c_Id_111 K_Id_111 (s_Id_111 p1 d f g p0 c s.1 s.2) Q) (hout:∀ e,y=.inr e→O_Id_111 p1 d f p0 c Q e):EE c_Id_111 K_Id_111 (s_Id_111 p1 d f g p0 c i a) Q:=by
 obtain ⟨h,hm⟩|⟨h,hm⟩:=split_ite hm
 ·obtain ⟨b,j,hm⟩:=bind_some hm
  obtain ⟨l,k,hm⟩:=bind_some hm
  exact gw (hin _ (qj hm).symm) (u1 h<|wO (.row (rZb b))<|wO (.rows (List.map (rI .u8) (a++b.data)))<|wO (zn ((a++b.data).length))<|wP (rd_nn j)<|wP (at_row rZb (rd_get j))<|wP (app_ck_ro (rI .u8) a b.data rfl k)<|wP (app_tell_ro (rI .u8) a b.data rfl)<|wP (len_map (rI .u8) (show (a++b.data).length=(a++b.data).length from rfl))<|wN c.length<|wO (zn ((a++b.data).length))<|wP (lens ((a++b.data).length) ((a++b.data).length) rfl)<|z0) (by kernel_rfl)
 ·refine gm c_Id_123 K_Id_123 (s_Id_123 p1 d f p0 c a) (v1 h<|wN c.length<|wN a.length<|z0) ?_ (by kernel_rfl)
  exact hout a (qj hm).symm
theorem ok_Id_106 (p1 d:Int) (f:LI) (p0:Zc) (g:LZa) (a:LZb) (h:LI) (y) (hm:m_Id_106 p1 d f p0 g a h=some y) (Q)
  (hin:∀ s,y=.inl s→EE c_Id_46 K_Id_46 (s_Id_46 p1 p0 s.1 s.2.1 s.2.2) Q) (hout:∀ e,y=.inr e→O_Id_46 Q e):EE c_Id_106 K_Id_106 (s_Id_106 p1 d f p0 g a h) Q:=by
 refine gm c_Id_111 K_Id_111 (s_Id_111 p1 d f g p0 a 0 h) (wL rZb g<|wN a.length<|wN h.length<|z0) ?_ (by kernel_rfl)
 obtain ⟨e,he,hm⟩:=bind_some hm
 refine loop_rule (u:=.c c_Id_111) (K:=K_Id_111) (Q:=Q) (b:=lp_Id_111 p1 d f g p0 a) (We:=O_Id_111 p1 d f p0 a Q) (stJ:=fun s=>s_Id_111 p1 d f g p0 a s.1 s.2) (s:=(0,h)) (fun s y hb hin hout=>ok_Id_111 p1 d f g p0 a s.1 s.2 y hb Q hin hout) he ?_
 show EE c_Id_123 K_Id_123 (s_Id_123 p1 d f p0 a e) _
 exact ok_Id_123 p1 d f p0 a e y hm Q hin hout
theorem ok_Id_69 (p1 f:Int) (b:LI) (p0:Zc) (g k:LZa) (l m:Int) (c:LZb) (d:LI) (y) (hm:m_Id_69 p1 f b p0 g k l m c d=some y) (Q)
  (hin:∀ s,y=.inl s→EE c_Id_69 K_Id_69 (s_Id_69 p1 f b p0 s.1 s.2.1 s.2.2.1 s.2.2.2.1 s.2.2.2.2.1 s.2.2.2.2.2) Q) (hout:∀ e,y=.inr e→O_Id_69 p1 f b p0 Q e):EE c_Id_69 K_Id_69 (s_Id_69 p1 f b p0 g k l m c d) Q:=by
 obtain ⟨h,hm⟩|⟨h,hm⟩:=split_ite hm
 ·obtain ⟨a,i,hm⟩:=bind_some hm
  obtain ⟨j,hm⟩|⟨j,hm⟩:=split_ite hm
  ·obtain ⟨o,n,hm⟩:=bind_some hm
   exact gw (ok_Id_89 _ _ _ _ _ _ _ _ _ _ _ _ y hm Q hin hout) (u1 h<|wO (.row (rZb a))<|wP (rd_nn i)<|wP (at_row rZb (rd_get i))<|u1 j<|wO (.rows (List.map rZd ([(Zd.mk a.track a.time (b.length:Int))]:LZb)))<|wO (zn 1)<|wO (.rows (List.map rZd (c++([(Zd.mk a.track a.time (b.length:Int))]:LZb))))<|wO (zn ((c++([(Zd.mk a.track a.time (b.length:Int))]:LZb)).length))<|wO (zn ((c++([(Zd.mk a.track a.time (b.length:Int))]:LZb)).length))<|wO (zn d.length)<|wP (Eq.refl (List.map rZd ([(Zd.mk a.track a.time (b.length:Int))]:LZb)))<|wP (len_map rZd (show 1=([(Zd.mk a.track a.time (b.length:Int))]:LZb).length from rfl))<|wP (all_le rZd ([(Zd.mk a.track a.time (b.length:Int))]:LZb) rfl)<|wP (app_ck rZd c ([(Zd.mk a.track a.time (b.length:Int))]:LZb) rfl rfl n)<|wP (app_tell rZd c ([(Zd.mk a.track a.time (b.length:Int))]:LZb) rfl rfl)<|wP (len_map rZd (show (c++([(Zd.mk a.track a.time (b.length:Int))]:LZb)).length=(c++([(Zd.mk a.track a.time (b.length:Int))]:LZb)).length from rfl))<|wP (lens ((c++([(Zd.mk a.track a.time (b.length:Int))]:LZb)).length) ((c++([(Zd.mk a.track a.time (b.length:Int))]:LZb)).length) rfl)<|wP (ln d.length)<|z0) (by kernel_rfl)
  ·exact gw (ok_Id_89 _ _ _ _ _ _ _ _ _ _ _ _ y hm Q hin hout) (u1 h<|wO (.row (rZb a))<|wP (rd_nn i)<|wP (at_row rZb (rd_get i))<|v1 j<|wN c.length<|wN d.length<|z0) (by kernel_rfl)
 ·refine gm c_Id_106 K_Id_106 (s_Id_106 p1 f b p0 g c d) (v1 h<|wN c.length<|wN d.length<|z0) ?_ (by kernel_rfl)
  exact hout (g,c,d) (qj hm).symm
theorem ok_Id_152 (c d r:LI) (hm:m_Id_152 c d=some r):EE c_Id_152 K_Id_152 (s_Id_152 c d) (Post vf_Id (res_Id r)):=by
 obtain ⟨a,f,hm⟩:=bind_some hm
 obtain ⟨b,g,hm⟩:=bind_some hm
 obtain ⟨e,hm⟩|⟨e,hm⟩:=split_ite hm
 ·exact ge (wR (rI .u8) d<|wO (.res (res_Ie a))<|wP (ok_Ie (c.length:Int) d a f)<|wL (rI .u8) a<|wR (rI .u8) a<|wO (.res (res_If b))<|wP (ok_If (c.length:Int) a b g)<|wL (rI .u8) b<|u1 e<|wO (.rows (List.map (rI .u8) ([]:LI)))<|wP (all_le0 (rI .u8) ([]:LI) rfl)<|wP (all_t (rI .u8) ([]:LI) rfl)<|z0) (congrArg res_Id (qj hm)) (by kernel_rfl)
 ·exact ge (wR (rI .u8) d<|wO (.res (res_Ie a))<|wP (ok_Ie (c.length:Int) d a f)<|wL (rI .u8) a<|wR (rI .u8) a<|wO (.res (res_If b))<|wP (ok_If (c.length:Int) a b g)<|wL (rI .u8) b<|v1 e<|wR (rI .u8) b<|z0) (congrArg res_Id (qj hm)) (by kernel_rfl)
theorem ok_Id_136 (b:LI) (f:LZb) (j:Int) (a:LI) (y) (hm:m_Id_136 b f j a=some y) (Q)
  (hin:∀ s,y=.inl s→EE c_Id_136 K_Id_136 (s_Id_136 b f s.1 s.2) Q) (hout:∀ e,y=.inr e→O_Id_136 b Q e):EE c_Id_136 K_Id_136 (s_Id_136 b f j a) Q:=by
 obtain ⟨i,hm⟩|⟨i,hm⟩:=split_ite hm
 ·obtain ⟨g,k,hm⟩:=bind_some hm
  obtain ⟨c,l,hm⟩:=bind_some hm
  obtain ⟨d,m,hm⟩:=bind_some hm
  obtain ⟨h,n,hm⟩:=bind_some hm
  exact gw (hin _ (qj hm).symm) (u1 i<|wO (.row (rZd g))<|wP (rd_in rfl k)<|wP (at_row rZd (rd_get0 k))<|wR (rI .u8) a<|wO (.res (res_Ie c))<|wP (ok_Ie g.track a c l)<|wL (rI .u8) c<|wR (rI .u8) c<|wO (.res (res_Ie d))<|wP (ok_Ie g.time c d m)<|wL (rI .u8) d<|wR (rI .u8) d<|wO (.res (res_Ie h))<|wP (ok_Ie g.at_ d h n)<|wL (rI .u8) h<|wN f.length<|wN h.length<|z0) (by kernel_rfl)
 ·refine gm c_Id_152 K_Id_152 (s_Id_152 b a) (v1 i<|wN a.length<|z0) ?_ (by kernel_rfl)
  exact hout a (qj hm).symm
theorem ok_Id_125 (d:LZb) (a r:LI) (hm:m_Id_125 d a=some r):EE c_Id_125 K_Id_125 (s_Id_125 d a) (Post vf_Id (res_Id r)):=by
 obtain ⟨i,g,hm⟩:=bind_some hm
 obtain ⟨f,h,hm⟩:=bind_some hm
 refine gm c_Id_136 K_Id_136 (s_Id_136 a d 0 f) (wO (.rows (List.map (rI .u8) (a++(bl (ByteArray.mk #[27,73,78,68,69,88,10,0])))))<|wO (zn ((a++(bl (ByteArray.mk #[27,73,78,68,69,88,10,0]))).length))<|wO (.rows (List.map (rI .u8) (a++(bl (ByteArray.mk #[27,73,78,68,69,88,10,0])))))<|wO (.res (res_Ie f))<|wO (zn f.length)<|wO (zn d.length)<|wO (zn f.length)<|wP (apps_ck a (ByteArray.mk #[27,73,78,68,69,88,10,0]) rfl g)<|wP (apps_tell a (ByteArray.mk #[27,73,78,68,69,88,10,0]) rfl)<|wP (len_map (rI .u8) (show (a++(bl (ByteArray.mk #[27,73,78,68,69,88,10,0]))).length=(a++(bl (ByteArray.mk #[27,73,78,68,69,88,10,0]))).length from rfl))<|wP (all_le0 (rI .u8) (a++(bl (ByteArray.mk #[27,73,78,68,69,88,10,0]))) rfl)<|wP (all_t (rI .u8) (a++(bl (ByteArray.mk #[27,73,78,68,69,88,10,0]))) rfl)<|wP (ok_Ie (d.length:Int) (a++(bl (ByteArray.mk #[27,73,78,68,69,88,10,0]))) f h)<|wP (lm (rI .u8) f)<|wP (ln d.length)<|wP (ln f.length)<|z0) ?_ (by kernel_rfl)
 obtain ⟨e,he,hm⟩:=bind_some hm
 refine loop_rule (u:=.c c_Id_136) (K:=K_Id_136) (Q:=(Post vf_Id (res_Id r))) (b:=lp_Id_136 a d) (We:=O_Id_136 a (Post vf_Id (res_Id r))) (stJ:=fun s=>s_Id_136 a d s.1 s.2) (s:=(0,f)) (fun s y hb hin hout=>ok_Id_136 a d s.1 s.2 y hb (Post vf_Id (res_Id r)) hin hout) he ?_
 show EE c_Id_152 K_Id_152 (s_Id_152 a e) _
 exact ok_Id_152 a e r hm
theorem ok_Id_46 (p1:Int) (p0:Zc) (a:Int) (f:LZb) (d:LI) (y) (hm:m_Id_46 p1 p0 a f d=some y) (Q)
  (hin:∀ s,y=.inl s→EE c_Id_46 K_Id_46 (s_Id_46 p1 p0 s.1 s.2.1 s.2.2) Q) (hout:∀ e,y=.inr e→O_Id_46 Q e):EE c_Id_46 K_Id_46 (s_Id_46 p1 p0 a f d) Q:=by
 obtain ⟨i,hm⟩|⟨i,hm⟩:=split_ite hm
 ·obtain ⟨p,j,hm⟩:=bind_some hm
  obtain ⟨q,k,hm⟩:=bind_some hm
  obtain ⟨r,l,hm⟩:=bind_some hm
  obtain ⟨t,m,hm⟩:=bind_some hm
  obtain ⟨h,n,hm⟩:=bind_some hm
  obtain ⟨g,o,hm⟩:=bind_some hm
  refine gm c_Id_69 K_Id_69 (s_Id_69 p1 a d p0 ((p0.packets.take (Int.toNat (mnI (w64 (a+p1)) (p0.packets.length:Int)))).drop (Int.toNat a)) ((p0.packets.take (Int.toNat (mnI (w64 (a+p1)) (p0.packets.length:Int)))).drop (Int.toNat a)) (((p0.packets.take (Int.toNat (mnI (w64 (a+p1)) (p0.packets.length:Int)))).drop (Int.toNat a)).length:Int) 0 f g) (wL rZb p0.packets<|u1 i<|wL rZb p0.packets<|wO (.rows (List.map rZb ((p0.packets.take (Int.toNat (mnI (w64 (a+p1)) (p0.packets.length:Int)))).drop (Int.toNat a))))<|wO (.rows (List.map (rI .u8) (d++(bl (ByteArray.mk #[27,80,73,69,67,69,10,0])))))<|wO (zn ((d++(bl (ByteArray.mk #[27,80,73,69,67,69,10,0]))).length))<|wO (.rows (List.map (rI .u8) (d++(bl (ByteArray.mk #[27,80,73,69,67,69,10,0])))))<|wO (.res (res_Ie h))<|wO (zn h.length)<|wO (zn (((p0.packets.take (Int.toNat (mnI (w64 (a+p1)) (p0.packets.length:Int)))).drop (Int.toNat a)).length))<|wO (.rows (List.map (rI .u8) h))<|wO (.res (res_Ie g))<|wO (zn g.length)<|wO (zn (((p0.packets.take (Int.toNat (mnI (w64 (a+p1)) (p0.packets.length:Int)))).drop (Int.toNat a)).length))<|wO (zn f.length)<|wO (zn g.length)<|wP (slc_hi rZb p0.packets (ck_p j))<|wP (ck_p k)<|wP (slc_tell rZb p0.packets (Int.toNat a) (Int.toNat (mnI (w64 (a+p1)) (p0.packets.length:Int))))<|wP (apps_ck d (ByteArray.mk #[27,80,73,69,67,69,10,0]) rfl l)<|wP (apps_tell d (ByteArray.mk #[27,80,73,69,67,69,10,0]) rfl)<|wP (len_map (rI .u8) (show (d++(bl (ByteArray.mk #[27,80,73,69,67,69,10,0]))).length=(d++(bl (ByteArray.mk #[27,80,73,69,67,69,10,0]))).length from rfl))<|wP (ck_p m)<|wP (all_le0 (rI .u8) (d++(bl (ByteArray.mk #[27,80,73,69,67,69,10,0]))) rfl)<|wP (all_t (rI .u8) (d++(bl (ByteArray.mk #[27,80,73,69,67,69,10,0]))) rfl)<|wP (ok_Ie (w64 (Int.tdiv a p1)) (d++(bl (ByteArray.mk #[27,80,73,69,67,69,10,0]))) h n)<|wP (lm (rI .u8) h)<|wP (len_map rZb (show ((p0.packets.take (Int.toNat (mnI (w64 (a+p1)) (p0.packets.length:Int)))).drop (Int.toNat a)).length=((p0.packets.take (Int.toNat (mnI (w64 (a+p1)) (p0.packets.length:Int)))).drop (Int.toNat a)).length from rfl))<|wA (rI .u8) h<|wP (ok_Ie (((p0.packets.take (Int.toNat (mnI (w64 (a+p1)) (p0.packets.length:Int)))).drop (Int.toNat a)).length:Int) h g o)<|wP (lm (rI .u8) g)<|wP (len_map rZb (show ((p0.packets.take (Int.toNat (mnI (w64 (a+p1)) (p0.packets.length:Int)))).drop (Int.toNat a)).length=((p0.packets.take (Int.toNat (mnI (w64 (a+p1)) (p0.packets.length:Int)))).drop (Int.toNat a)).length from rfl))<|wP (ln f.length)<|wP (ln g.length)<|z0) ?_ (by kernel_rfl)
  obtain ⟨e,he,hm⟩:=bind_some hm
  refine loop_rule (u:=.c c_Id_69) (K:=K_Id_69) (Q:=Q) (b:=lp_Id_69 p1 a d p0) (We:=O_Id_69 p1 a d p0 Q) (stJ:=fun s=>s_Id_69 p1 a d p0 s.1 s.2.1 s.2.2.1 s.2.2.2.1 s.2.2.2.2.1 s.2.2.2.2.2) (s:=(((p0.packets.take (Int.toNat (mnI (w64 (a+p1)) (p0.packets.length:Int)))).drop (Int.toNat a)),((p0.packets.take (Int.toNat (mnI (w64 (a+p1)) (p0.packets.length:Int)))).drop (Int.toNat a)),(((p0.packets.take (Int.toNat (mnI (w64 (a+p1)) (p0.packets.length:Int)))).drop (Int.toNat a)).length:Int),0,f,g)) (fun s y hb hin hout=>ok_Id_69 p1 a d p0 s.1 s.2.1 s.2.2.1 s.2.2.2.1 s.2.2.2.2.1 s.2.2.2.2.2 y hb Q hin hout) he ?_
  show EE c_Id_106 K_Id_106 (s_Id_106 p1 a d p0 e.1 e.2.1 e.2.2) _
  exact ok_Id_106 p1 a d p0 e.1 e.2.1 e.2.2 y hm Q hin hout
 ·refine gm c_Id_125 K_Id_125 (s_Id_125 f d) (wL rZb p0.packets<|v1 i<|wN f.length<|wN d.length<|z0) ?_ (by kernel_rfl)
  exact hout (f,d) (qj hm).symm
theorem ok_Id_37 (p1:Int) (p0:Zc) (d r:LI) (hm:m_Id_37 p1 p0 d=some r):EE c_Id_37 K_Id_37 (s_Id_37 p1 p0 d) (Post vf_Id (res_Id r)):=by
 obtain ⟨a,f,hm⟩:=bind_some hm
 refine gm c_Id_46 K_Id_46 (s_Id_46 p1 p0 0 ([]:LZb) a) (wR (rI .u8) d<|wO (.res (res_If a))<|wP (ok_If 0 d a f)<|wL (rI .u8) a<|wO (zn (([]:LZb).length))<|wP (lens 0 (([]:LZb).length) rfl)<|wN a.length<|z0) ?_ (by kernel_rfl)
 obtain ⟨e,he,hm⟩:=bind_some hm
 refine loop_rule (u:=.c c_Id_46) (K:=K_Id_46) (Q:=(Post vf_Id (res_Id r))) (b:=lp_Id_46 p1 p0) (We:=O_Id_46 (Post vf_Id (res_Id r))) (stJ:=fun s=>s_Id_46 p1 p0 s.1 s.2.1 s.2.2) (s:=(0,([]:LZb),a)) (fun s y hb hin hout=>ok_Id_46 p1 p0 s.1 s.2.1 s.2.2 y hb (Post vf_Id (res_Id r)) hin hout) he ?_
 show EE c_Id_125 K_Id_125 (s_Id_125 e.1 e.2) _
 exact ok_Id_125 e.1 e.2 r hm
theorem ok_Id_21 (p1:Int) (p0:Zc) (f:Int) (c:LI) (y) (hm:m_Id_21 p1 p0 f c=some y) (Q)
  (hin:∀ s,y=.inl s→EE c_Id_21 K_Id_21 (s_Id_21 p1 p0 s.1 s.2) Q) (hout:∀ e,y=.inr e→O_Id_21 p1 p0 Q e):EE c_Id_21 K_Id_21 (s_Id_21 p1 p0 f c) Q:=by
 obtain ⟨d,hm⟩|⟨d,hm⟩:=split_ite hm
 ·obtain ⟨a,g,hm⟩:=bind_some hm
  obtain ⟨l,h,hm⟩:=bind_some hm
  obtain ⟨b,i,hm⟩:=bind_some hm
  obtain ⟨m,j,hm⟩:=bind_some hm
  obtain ⟨n,k,hm⟩:=bind_some hm
  exact gw (hin _ (qj hm).symm) (u1 d<|wO (.row (rZa a))<|wO (.rows (List.map (rI .u8) ([(wr .u8 a.kind)]:LI)))<|wO (zn 1)<|wO (.rows (List.map (rI .u8) (c++([(wr .u8 a.kind)]:LI))))<|wO (zn ((c++([(wr .u8 a.kind)]:LI)).length))<|wO (.rows (List.map (rI .u8) (c++([(wr .u8 a.kind)]:LI))))<|wO (.res (res_Ie b))<|wO (zn b.length)<|wO (.rows (List.map (rI .u8) ([(wr .u8 (a.name.size:Int))]:LI)))<|wO (zn 1)<|wO (.rows (List.map (rI .u8) (b++([(wr .u8 (a.name.size:Int))]:LI))))<|wO (zn ((b++([(wr .u8 (a.name.size:Int))]:LI)).length))<|wO (.rows (List.map (rI .u8) ((b++([(wr .u8 (a.name.size:Int))]:LI))++(bl a.name))))<|wO (zn (((b++([(wr .u8 (a.name.size:Int))]:LI))++(bl a.name)).length))<|wO (zn (((b++([(wr .u8 (a.name.size:Int))]:LI))++(bl a.name)).length))<|wP (rd_nn g)<|wP (at_row rZa (rd_get g))<|wP (Eq.refl (List.map (rI .u8) ([(wr .u8 a.kind)]:LI)))<|wP (len_map (rI .u8) (show 1=([(wr .u8 a.kind)]:LI).length from rfl))<|wP (all_le (rI .u8) ([(wr .u8 a.kind)]:LI) rfl)<|wP (app_ck (rI .u8) c ([(wr .u8 a.kind)]:LI) rfl rfl h)<|wP (app_tell (rI .u8) c ([(wr .u8 a.kind)]:LI) rfl rfl)<|wP (len_map (rI .u8) (show (c++([(wr .u8 a.kind)]:LI)).length=(c++([(wr .u8 a.kind)]:LI)).length from rfl))<|wP (all_le0 (rI .u8) (c++([(wr .u8 a.kind)]:LI)) rfl)<|wP (all_t (rI .u8) (c++([(wr .u8 a.kind)]:LI)) rfl)<|wP (ok_Ie a.scale (c++([(wr .u8 a.kind)]:LI)) b i)<|wP (lm (rI .u8) b)<|wP (Eq.refl (List.map (rI .u8) ([(wr .u8 (a.name.size:Int))]:LI)))<|wP (len_map (rI .u8) (show 1=([(wr .u8 (a.name.size:Int))]:LI).length from rfl))<|wP (all_le (rI .u8) ([(wr .u8 (a.name.size:Int))]:LI) rfl)<|wP (app_ck (rI .u8) b ([(wr .u8 (a.name.size:Int))]:LI) rfl rfl j)<|wP (app_tell (rI .u8) b ([(wr .u8 (a.name.size:Int))]:LI) rfl rfl)<|wP (len_map (rI .u8) (show (b++([(wr .u8 (a.name.size:Int))]:LI)).length=(b++([(wr .u8 (a.name.size:Int))]:LI)).length from rfl))<|wP (apps_ck (b++([(wr .u8 (a.name.size:Int))]:LI)) a.name rfl k)<|wP (apps_tell (b++([(wr .u8 (a.name.size:Int))]:LI)) a.name rfl)<|wP (len_map (rI .u8) (show ((b++([(wr .u8 (a.name.size:Int))]:LI))++(bl a.name)).length=((b++([(wr .u8 (a.name.size:Int))]:LI))++(bl a.name)).length from rfl))<|wP (lens (((b++([(wr .u8 (a.name.size:Int))]:LI))++(bl a.name)).length) (((b++([(wr .u8 (a.name.size:Int))]:LI))++(bl a.name)).length) rfl)<|z0) (by kernel_rfl)
 ·refine gm c_Id_37 K_Id_37 (s_Id_37 p1 p0 c) (v1 d<|wN c.length<|z0) ?_ (by kernel_rfl)
  exact hout c (qj hm).symm
theorem ok_Id_0 (p0:Zc) (p1:Int) (r:LI) (hm:m_Id_0 p0 p1=some r):EE c_Id_0 K_Id_0 (s_Id_0 p0 p1) (Post vf_Id (res_Id r)):=by
 obtain ⟨a,f,hm⟩:=bind_some hm
 obtain ⟨d,hm⟩|⟨d,hm⟩:=split_ite hm
 ·obtain ⟨g,hm⟩|⟨g,hm⟩:=split_ite hm
  ·exact ge (wO (.res (res_Ib a))<|wP (ok_Ib p0 a f)<|v3 (not_f d)<|u3 g<|u1 eT<|wO (.rows (List.map (rI .u8) ([]:LI)))<|wP (all_le0 (rI .u8) ([]:LI) rfl)<|wP (all_t (rI .u8) ([]:LI) rfl)<|z0) (congrArg res_Id (qj hm)) (by kernel_rfl)
  ·obtain ⟨h,hm⟩|⟨h,hm⟩:=split_ite hm
   ·exact ge (wO (.res (res_Ib a))<|wP (ok_Ib p0 a f)<|v3 (not_f d)<|v3 g<|u1 h<|wO (.rows (List.map (rI .u8) ([]:LI)))<|wP (all_le0 (rI .u8) ([]:LI) rfl)<|wP (all_t (rI .u8) ([]:LI) rfl)<|z0) (congrArg res_Id (qj hm)) (by kernel_rfl)
   ·obtain ⟨j,i,hm⟩:=bind_some hm
    refine gm c_Id_21 K_Id_21 (s_Id_21 p1 p0 0 (([66,79,88,49]:LI)++([(wr .u8 (p0.tracks.length:Int))]:LI))) (wO (.res (res_Ib a))<|wP (ok_Ib p0 a f)<|v3 (not_f d)<|v3 g<|v1 h<|wO (.rows (List.map (rI .u8) ([66,79,88,49]:LI)))<|wO (zn 4)<|wP (Eq.refl (List.map (rI .u8) ([66,79,88,49]:LI)))<|wP (len_map (rI .u8) (show 4=([66,79,88,49]:LI).length from rfl))<|wL rZa p0.tracks<|wO (.rows (List.map (rI .u8) ([(wr .u8 (p0.tracks.length:Int))]:LI)))<|wO (zn 1)<|wO (.rows (List.map (rI .u8) (([66,79,88,49]:LI)++([(wr .u8 (p0.tracks.length:Int))]:LI))))<|wO (zn ((([66,79,88,49]:LI)++([(wr .u8 (p0.tracks.length:Int))]:LI)).length))<|wO (zn p0.tracks.length)<|wO (zn ((([66,79,88,49]:LI)++([(wr .u8 (p0.tracks.length:Int))]:LI)).length))<|wP (Eq.refl (List.map (rI .u8) ([(wr .u8 (p0.tracks.length:Int))]:LI)))<|wP (len_map (rI .u8) (show 1=([(wr .u8 (p0.tracks.length:Int))]:LI).length from rfl))<|wP (all_le (rI .u8) ([(wr .u8 (p0.tracks.length:Int))]:LI) rfl)<|wP (app_ck (rI .u8) ([66,79,88,49]:LI) ([(wr .u8 (p0.tracks.length:Int))]:LI) rfl rfl i)<|wP (app_tell (rI .u8) ([66,79,88,49]:LI) ([(wr .u8 (p0.tracks.length:Int))]:LI) rfl rfl)<|wP (len_map (rI .u8) (show (([66,79,88,49]:LI)++([(wr .u8 (p0.tracks.length:Int))]:LI)).length=(([66,79,88,49]:LI)++([(wr .u8 (p0.tracks.length:Int))]:LI)).length from rfl))<|wP (lm rZa p0.tracks)<|wP (lens ((([66,79,88,49]:LI)++([(wr .u8 (p0.tracks.length:Int))]:LI)).length) ((([66,79,88,49]:LI)++([(wr .u8 (p0.tracks.length:Int))]:LI)).length) rfl)<|z0) ?_ (by kernel_rfl)
    obtain ⟨e,he,hm⟩:=bind_some hm
    refine loop_rule (u:=.c c_Id_21) (K:=K_Id_21) (Q:=(Post vf_Id (res_Id r))) (b:=lp_Id_21 p1 p0) (We:=O_Id_21 p1 p0 (Post vf_Id (res_Id r))) (stJ:=fun s=>s_Id_21 p1 p0 s.1 s.2) (s:=(0,(([66,79,88,49]:LI)++([(wr .u8 (p0.tracks.length:Int))]:LI)))) (fun s y hb hin hout=>ok_Id_21 p1 p0 s.1 s.2 y hb (Post vf_Id (res_Id r)) hin hout) he ?_
    show EE c_Id_37 K_Id_37 (s_Id_37 p1 p0 e) _
    exact ok_Id_37 p1 p0 e r hm
 ·exact ge (wO (.res (res_Ib a))<|wP (ok_Ib p0 a f)<|u3 (not_t d)<|u4 eT<|wO (.rows (List.map (rI .u8) ([]:LI)))<|wP (all_le0 (rI .u8) ([]:LI) rfl)<|wP (all_t (rI .u8) ([]:LI) rfl)<|z0) (congrArg res_Id (qj hm)) (by kernel_rfl)
theorem ok_Id (p0:Zc) (p1:Int) (r:LI) (hm:m_Id p0 p1=some r):Runs ext tbl 20 (as_Id p0 p1) (res_Id r):=
 runs_of (vf:=vf_Id) (by kernel_rfl) rfl (st:=(enter vf_Id (as_Id p0 p1)).getD default) (by kernel_rfl) (go_on [] 1000 J0 (ok_Id_0 p0 p1 r hm) (by kernel_rfl))
def O_Lb_15 (Q:VX→St→Prop) (e:(Bool)⊕((Unit))):Prop:=match e with | .inl e=>Q=Post vf_Lb (res_Lb e) | .inr e=>EE c_Lb_31 K_Lb_31 (s_Lb_31) Q
theorem ok_Lb_31 (r:Bool) (hm:m_Lb_31=some r):EE c_Lb_31 K_Lb_31 (s_Lb_31) (Post vf_Lb (res_Lb r)):=by
 exact ge (z0) (congrArg res_Lb (qj hm)) (by kernel_rfl)
theorem ok_Lb_15 (p0 p1:LI) (f:Int) (y) (hm:m_Lb_15 p0 p1 f=some y) (Q)
  (hin:∀ s,y=.inl s→EE c_Lb_15 K_Lb_15 (s_Lb_15 p0 p1 s) Q) (hout:∀ e,y=.inr e→O_Lb_15 Q e):EE c_Lb_15 K_Lb_15 (s_Lb_15 p0 p1 f) Q:=by
 obtain ⟨a,hm⟩|⟨a,hm⟩:=split_ite hm
 ·obtain ⟨g,b,hm⟩:=bind_some hm
  obtain ⟨h,c,hm⟩:=bind_some hm
  obtain ⟨d,hm⟩|⟨d,hm⟩:=split_ite hm
  ·have hQ:Q=Post vf_Lb (res_Lb false):=hout (.inl false) (qj hm).symm
   subst hQ
   exact ge (wL (rI .u8) p0<|u1 a<|wO (.row ((rI .u8) g))<|wO (.row ((rI .u8) h))<|wP (rd_nn b)<|wP (at_row (rI .u8) (rd_get b))<|wP (rd_nn c)<|wP (at_row (rI .u8) (rd_get c))<|u1 d<|z0) (rfl:res_Lb false=res_Lb false) (by kernel_rfl)
  ·exact gw (hin _ (qj hm).symm) (wL (rI .u8) p0<|u1 a<|wO (.row ((rI .u8) g))<|wO (.row ((rI .u8) h))<|wP (rd_nn b)<|wP (at_row (rI .u8) (rd_get b))<|wP (rd_nn c)<|wP (at_row (rI .u8) (rd_get c))<|v1 d<|z0) (by kernel_rfl)
 ·refine gm c_Lb_31 K_Lb_31 (s_Lb_31) (wL (rI .u8) p0<|v1 a<|z0) ?_ (by kernel_rfl)
  exact hout (.inr ()) (qj hm).symm
theorem ok_Lb_0 (p0 p1:LI) (r:Bool) (hm:m_Lb_0 p0 p1=some r):EE c_Lb_0 K_Lb_0 (s_Lb_0 p0 p1) (Post vf_Lb (res_Lb r)):=by
 obtain ⟨a,hm⟩|⟨a,hm⟩:=split_ite hm
 ·exact ge (wL (rI .u8) p0<|wL (rI .u8) p1<|u1 a<|z0) (congrArg res_Lb (qj hm)) (by kernel_rfl)
 ·refine gm c_Lb_15 K_Lb_15 (s_Lb_15 p0 p1 0) (wL (rI .u8) p0<|wL (rI .u8) p1<|v1 a<|z0) ?_ (by kernel_rfl)
  obtain ⟨e,he,hm⟩:=bind_some hm
  refine loop_rule (u:=.c c_Lb_15) (K:=K_Lb_15) (Q:=(Post vf_Lb (res_Lb r))) (b:=lp_Lb_15 p0 p1) (We:=O_Lb_15 (Post vf_Lb (res_Lb r))) (stJ:=fun s=>s_Lb_15 p0 p1 s) (s:=0) (fun s y hb hin hout=>ok_Lb_15 p0 p1 s y hb (Post vf_Lb (res_Lb r)) hin hout) he ?_
  rcases e with e | e
  ·exact congrArg (fun r=>Post vf_Lb (res_Lb r)) (qj hm).symm
  ·show EE c_Lb_31 K_Lb_31 (s_Lb_31) _
   exact ok_Lb_31 r hm
theorem ok_Lb (p0 p1:LI) (r:Bool) (hm:m_Lb p0 p1=some r):Runs ext tbl 13 (as_Lb p0 p1) (res_Lb r):=
 runs_of (vf:=vf_Lb) (by kernel_rfl) rfl (st:=(enter vf_Lb (as_Lb p0 p1)).getD default) (by kernel_rfl) (go_on [] 1000 J0 (ok_Lb_0 p0 p1 r hm) (by kernel_rfl))
theorem ok_Le_0 (p0 p1:Za) (r:Bool) (hm:m_Le_0 p0 p1=some r):EE c_Le_0 K_Le_0 (s_Le_0 p0 p1) (Post vf_Le (res_Le r)):=by
 obtain ⟨a,hm⟩|⟨a,hm⟩:=split_ite hm
 ·exact ge (u1 a<|z0) (congrArg res_Le (qj hm)) (by kernel_rfl)
 ·obtain ⟨b,hm⟩|⟨b,hm⟩:=split_ite hm
  ·exact ge (v1 a<|u1 b<|z0) (congrArg res_Le (qj hm)) (by kernel_rfl)
  ·obtain ⟨c,hm⟩|⟨c,hm⟩:=split_ite hm
   ·exact ge (v1 a<|v1 b<|v1 (not_f c)<|z0) (congrArg res_Le (qj hm)) (by kernel_rfl)
   ·exact ge (v1 a<|v1 b<|u1 (not_t c)<|z0) (congrArg res_Le (qj hm)) (by kernel_rfl)
theorem ok_Le (p0 p1:Za) (r:Bool) (hm:m_Le p0 p1=some r):Runs ext tbl 114 (as_Le p0 p1) (res_Le r):=
 runs_of (vf:=vf_Le) (by kernel_rfl) rfl (st:=(enter vf_Le (as_Le p0 p1)).getD default) (by kernel_rfl) (go_on [] 1000 J0 (ok_Le_0 p0 p1 r hm) (by kernel_rfl))
def O_Lf_15 (Q:VX→St→Prop) (e:(Bool)⊕((Unit))):Prop:=match e with | .inl e=>Q=Post vf_Lf (res_Lf e) | .inr e=>EE c_Lf_31 K_Lf_31 (s_Lf_31) Q
theorem ok_Lf_31 (r:Bool) (hm:m_Lf_31=some r):EE c_Lf_31 K_Lf_31 (s_Lf_31) (Post vf_Lf (res_Lf r)):=by
 exact ge (z0) (congrArg res_Lf (qj hm)) (by kernel_rfl)
theorem ok_Lf_15 (p0 p1:LZ) (i:Int) (y) (hm:m_Lf_15 p0 p1 i=some y) (Q)
  (hin:∀ s,y=.inl s→EE c_Lf_15 K_Lf_15 (s_Lf_15 p0 p1 s) Q) (hout:∀ e,y=.inr e→O_Lf_15 Q e):EE c_Lf_15 K_Lf_15 (s_Lf_15 p0 p1 i) Q:=by
 obtain ⟨a,hm⟩|⟨a,hm⟩:=split_ite hm
 ·obtain ⟨b,c,hm⟩:=bind_some hm
  obtain ⟨d,f,hm⟩:=bind_some hm
  obtain ⟨g,j,hm⟩:=bind_some hm
  obtain ⟨h,hm⟩|⟨h,hm⟩:=split_ite hm
  ·exact gw (hin _ (qj hm).symm) (wL rZa p0<|u1 a<|wO (.row (rZa b))<|wO (.row (rZa d))<|wO (.res (res_Le g))<|wP (rd_nn c)<|wP (at_row rZa (rd_get c))<|wP (rd_nn f)<|wP (at_row rZa (rd_get f))<|wP (ok_Le b d g j)<|v1 (not_f h)<|z0) (by kernel_rfl)
  ·have hQ:Q=Post vf_Lf (res_Lf false):=hout (.inl false) (qj hm).symm
   subst hQ
   exact ge (wL rZa p0<|u1 a<|wO (.row (rZa b))<|wO (.row (rZa d))<|wO (.res (res_Le g))<|wP (rd_nn c)<|wP (at_row rZa (rd_get c))<|wP (rd_nn f)<|wP (at_row rZa (rd_get f))<|wP (ok_Le b d g j)<|u1 (not_t h)<|z0) (rfl:res_Lf false=res_Lf false) (by kernel_rfl)
 ·refine gm c_Lf_31 K_Lf_31 (s_Lf_31) (wL rZa p0<|v1 a<|z0) ?_ (by kernel_rfl)
  exact hout (.inr ()) (qj hm).symm
theorem ok_Lf_0 (p0 p1:LZ) (r:Bool) (hm:m_Lf_0 p0 p1=some r):EE c_Lf_0 K_Lf_0 (s_Lf_0 p0 p1) (Post vf_Lf (res_Lf r)):=by
 obtain ⟨a,hm⟩|⟨a,hm⟩:=split_ite hm
 ·exact ge (wL rZa p0<|wL rZa p1<|u1 a<|z0) (congrArg res_Lf (qj hm)) (by kernel_rfl)
 ·refine gm c_Lf_15 K_Lf_15 (s_Lf_15 p0 p1 0) (wL rZa p0<|wL rZa p1<|v1 a<|z0) ?_ (by kernel_rfl)
  obtain ⟨e,he,hm⟩:=bind_some hm
  refine loop_rule (u:=.c c_Lf_15) (K:=K_Lf_15) (Q:=(Post vf_Lf (res_Lf r))) (b:=lp_Lf_15 p0 p1) (We:=O_Lf_15 (Post vf_Lf (res_Lf r))) (stJ:=fun s=>s_Lf_15 p0 p1 s) (s:=0) (fun s y hb hin hout=>ok_Lf_15 p0 p1 s y hb (Post vf_Lf (res_Lf r)) hin hout) he ?_
  rcases e with e | e
  ·exact congrArg (fun r=>Post vf_Lf (res_Lf r)) (qj hm).symm
  ·show EE c_Lf_31 K_Lf_31 (s_Lf_31) _
   exact ok_Lf_31 r hm
theorem ok_Lf (p0 p1:LZ) (r:Bool) (hm:m_Lf p0 p1=some r):Runs ext tbl 60 (as_Lf p0 p1) (res_Lf r):=
 runs_of (vf:=vf_Lf) (by kernel_rfl) rfl (st:=(enter vf_Lf (as_Lf p0 p1)).getD default) (by kernel_rfl) (go_on [] 1000 J0 (ok_Lf_0 p0 p1 r hm) (by kernel_rfl))
theorem ok_Lc_0 (p0 p1:Zb) (r:Bool) (hm:m_Lc_0 p0 p1=some r):EE c_Lc_0 K_Lc_0 (s_Lc_0 p0 p1) (Post vf_Lc (res_Lc r)):=by
 obtain ⟨a,hm⟩|⟨a,hm⟩:=split_ite hm
 ·exact ge (u1 a<|z0) (congrArg res_Lc (qj hm)) (by kernel_rfl)
 ·obtain ⟨b,hm⟩|⟨b,hm⟩:=split_ite hm
  ·exact ge (v1 a<|u1 b<|z0) (congrArg res_Lc (qj hm)) (by kernel_rfl)
  ·obtain ⟨c,hm⟩|⟨c,hm⟩:=split_ite hm
   ·exact ge (v1 a<|v1 b<|u1 c<|z0) (congrArg res_Lc (qj hm)) (by kernel_rfl)
   ·obtain ⟨d,hm⟩|⟨d,hm⟩:=split_ite hm
    ·obtain ⟨e,g,hm⟩:=bind_some hm
     obtain ⟨f,hm⟩|⟨f,hm⟩:=split_ite hm
     ·exact ge (v1 a<|v1 b<|v1 c<|v1 (not_f d)<|wO (.res (res_Lb e))<|wP (ok_Lb p0.data p1.data e g)<|v1 (not_f f)<|z0) (congrArg res_Lc (qj hm)) (by kernel_rfl)
     ·exact ge (v1 a<|v1 b<|v1 c<|v1 (not_f d)<|wO (.res (res_Lb e))<|wP (ok_Lb p0.data p1.data e g)<|u1 (not_t f)<|z0) (congrArg res_Lc (qj hm)) (by kernel_rfl)
    ·exact ge (v1 a<|v1 b<|v1 c<|u1 (not_t d)<|z0) (congrArg res_Lc (qj hm)) (by kernel_rfl)
theorem ok_Lc (p0 p1:Zb) (r:Bool) (hm:m_Lc p0 p1=some r):Runs ext tbl 115 (as_Lc p0 p1) (res_Lc r):=
 runs_of (vf:=vf_Lc) (by kernel_rfl) rfl (st:=(enter vf_Lc (as_Lc p0 p1)).getD default) (by kernel_rfl) (go_on [] 1000 J0 (ok_Lc_0 p0 p1 r hm) (by kernel_rfl))
def O_Ld_15 (Q:VX→St→Prop) (e:(Bool)⊕((Unit))):Prop:=match e with | .inl e=>Q=Post vf_Ld (res_Ld e) | .inr e=>EE c_Ld_31 K_Ld_31 (s_Ld_31) Q
theorem ok_Ld_31 (r:Bool) (hm:m_Ld_31=some r):EE c_Ld_31 K_Ld_31 (s_Ld_31) (Post vf_Ld (res_Ld r)):=by
 exact ge (z0) (congrArg res_Ld (qj hm)) (by kernel_rfl)
theorem ok_Ld_15 (p0 p1:LZa) (i:Int) (y) (hm:m_Ld_15 p0 p1 i=some y) (Q)
  (hin:∀ s,y=.inl s→EE c_Ld_15 K_Ld_15 (s_Ld_15 p0 p1 s) Q) (hout:∀ e,y=.inr e→O_Ld_15 Q e):EE c_Ld_15 K_Ld_15 (s_Ld_15 p0 p1 i) Q:=by
 obtain ⟨a,hm⟩|⟨a,hm⟩:=split_ite hm
 ·obtain ⟨b,c,hm⟩:=bind_some hm
  obtain ⟨d,f,hm⟩:=bind_some hm
  obtain ⟨g,j,hm⟩:=bind_some hm
  obtain ⟨h,hm⟩|⟨h,hm⟩:=split_ite hm
  ·exact gw (hin _ (qj hm).symm) (wL rZb p0<|u1 a<|wO (.row (rZb b))<|wO (.row (rZb d))<|wO (.res (res_Lc g))<|wP (rd_nn c)<|wP (at_row rZb (rd_get c))<|wP (rd_nn f)<|wP (at_row rZb (rd_get f))<|wP (ok_Lc b d g j)<|v1 (not_f h)<|z0) (by kernel_rfl)
  ·have hQ:Q=Post vf_Ld (res_Ld false):=hout (.inl false) (qj hm).symm
   subst hQ
   exact ge (wL rZb p0<|u1 a<|wO (.row (rZb b))<|wO (.row (rZb d))<|wO (.res (res_Lc g))<|wP (rd_nn c)<|wP (at_row rZb (rd_get c))<|wP (rd_nn f)<|wP (at_row rZb (rd_get f))<|wP (ok_Lc b d g j)<|u1 (not_t h)<|z0) (rfl:res_Ld false=res_Ld false) (by kernel_rfl)
 ·refine gm c_Ld_31 K_Ld_31 (s_Ld_31) (wL rZb p0<|v1 a<|z0) ?_ (by kernel_rfl)
  exact hout (.inr ()) (qj hm).symm
theorem ok_Ld_0 (p0 p1:LZa) (r:Bool) (hm:m_Ld_0 p0 p1=some r):EE c_Ld_0 K_Ld_0 (s_Ld_0 p0 p1) (Post vf_Ld (res_Ld r)):=by
 obtain ⟨a,hm⟩|⟨a,hm⟩:=split_ite hm
 ·exact ge (wL rZb p0<|wL rZb p1<|u1 a<|z0) (congrArg res_Ld (qj hm)) (by kernel_rfl)
 ·refine gm c_Ld_15 K_Ld_15 (s_Ld_15 p0 p1 0) (wL rZb p0<|wL rZb p1<|v1 a<|z0) ?_ (by kernel_rfl)
  obtain ⟨e,he,hm⟩:=bind_some hm
  refine loop_rule (u:=.c c_Ld_15) (K:=K_Ld_15) (Q:=(Post vf_Ld (res_Ld r))) (b:=lp_Ld_15 p0 p1) (We:=O_Ld_15 (Post vf_Ld (res_Ld r))) (stJ:=fun s=>s_Ld_15 p0 p1 s) (s:=0) (fun s y hb hin hout=>ok_Ld_15 p0 p1 s y hb (Post vf_Ld (res_Ld r)) hin hout) he ?_
  rcases e with e | e
  ·exact congrArg (fun r=>Post vf_Ld (res_Ld r)) (qj hm).symm
  ·show EE c_Ld_31 K_Ld_31 (s_Ld_31) _
   exact ok_Ld_31 r hm
theorem ok_Ld (p0 p1:LZa) (r:Bool) (hm:m_Ld p0 p1=some r):Runs ext tbl 61 (as_Ld p0 p1) (res_Ld r):=
 runs_of (vf:=vf_Ld) (by kernel_rfl) rfl (st:=(enter vf_Ld (as_Ld p0 p1)).getD default) (by kernel_rfl) (go_on [] 1000 J0 (ok_Ld_0 p0 p1 r hm) (by kernel_rfl))
theorem ok_La_0 (p0 p1:Zc) (r:Bool) (hm:m_La_0 p0 p1=some r):EE c_La_0 K_La_0 (s_La_0 p0 p1) (Post vf_La (res_La r)):=by
 obtain ⟨a,d,hm⟩:=bind_some hm
 obtain ⟨b,hm⟩|⟨b,hm⟩:=split_ite hm
 ·obtain ⟨c,f,hm⟩:=bind_some hm
  obtain ⟨e,hm⟩|⟨e,hm⟩:=split_ite hm
  ·exact ge (wO (.res (res_Lf a))<|wP (ok_Lf p0.tracks p1.tracks a d)<|v1 (not_f b)<|wO (.res (res_Ld c))<|wP (ok_Ld p0.packets p1.packets c f)<|v1 (not_f e)<|z0) (congrArg res_La (qj hm)) (by kernel_rfl)
  ·exact ge (wO (.res (res_Lf a))<|wP (ok_Lf p0.tracks p1.tracks a d)<|v1 (not_f b)<|wO (.res (res_Ld c))<|wP (ok_Ld p0.packets p1.packets c f)<|u1 (not_t e)<|z0) (congrArg res_La (qj hm)) (by kernel_rfl)
 ·exact ge (wO (.res (res_Lf a))<|wP (ok_Lf p0.tracks p1.tracks a d)<|u1 (not_t b)<|z0) (congrArg res_La (qj hm)) (by kernel_rfl)
theorem ok_La (p0 p1:Zc) (r:Bool) (hm:m_La p0 p1=some r):Runs ext tbl 21 (as_La p0 p1) (res_La r):=
 runs_of (vf:=vf_La) (by kernel_rfl) rfl (st:=(enter vf_La (as_La p0 p1)).getD default) (by kernel_rfl) (go_on [] 1000 J0 (ok_La_0 p0 p1 r hm) (by kernel_rfl))
def O_Lk_15 (Q:VX→St→Prop) (e:(ByteArray)):Prop:=EE c_Lk_25 K_Lk_25 (s_Lk_25 e) Q
theorem ok_Lk_25 (a r:ByteArray) (hm:m_Lk_25 a=some r):EE c_Lk_25 K_Lk_25 (s_Lk_25 a) (Post vf_Lk (res_Lk r)):=by
 obtain ⟨c,b,hm⟩:=bind_some hm
 exact ge (wP (ck_p b)<|z0) (congrArg res_Lk (qj hm)) (by kernel_rfl)
theorem ok_Lk_15 (a:Int) (b:ByteArray) (y) (hm:m_Lk_15 a b=some y) (Q)
  (hin:∀ s,y=.inl s→EE c_Lk_15 K_Lk_15 (s_Lk_15 s.1 s.2) Q) (hout:∀ e,y=.inr e→O_Lk_15 Q e):EE c_Lk_15 K_Lk_15 (s_Lk_15 a b) Q:=by
 obtain ⟨c,hm⟩|⟨c,hm⟩:=split_ite hm
 ·obtain ⟨d,f,hm⟩:=bind_some hm
  obtain ⟨h,g,hm⟩:=bind_some hm
  exact gw (hin _ (qj hm).symm) (u1 c<|wO (.rows (List.map (rI .u8) ([(wr .u8 (w64 (48+(Int.tmod a 10))))]:LI)))<|wO (zn 1)<|wO (.rows (List.map (rI .u8) ([(wr .u8 (w64 (48+(Int.tmod a 10))))]:LI)))<|wO (.str d)<|wP (by decide:(10:Int)≠0)<|wP (Eq.refl (List.map (rI .u8) ([(wr .u8 (w64 (48+(Int.tmod a 10))))]:LI)))<|wP (len_map (rI .u8) (show 1=([(wr .u8 (w64 (48+(Int.tmod a 10))))]:LI).length from rfl))<|wP (all_le (rI .u8) ([(wr .u8 (w64 (48+(Int.tmod a 10))))]:LI) rfl)<|wP (all_dt (rI .u8) ([(wr .u8 (w64 (48+(Int.tmod a 10))))]:LI) rfl)<|wP (bstr_t f)<|wP (ck_p g)<|wP (by decide:(10:Int)≠0)<|z0) (by kernel_rfl)
 ·refine gm c_Lk_25 K_Lk_25 (s_Lk_25 b) (v1 c<|z0) ?_ (by kernel_rfl)
  exact hout b (qj hm).symm
theorem ok_Lk_0 (p0:Int) (r:ByteArray) (hm:m_Lk_0 p0=some r):EE c_Lk_0 K_Lk_0 (s_Lk_0 p0) (Post vf_Lk (res_Lk r)):=by
 obtain ⟨a,hm⟩|⟨a,hm⟩:=split_ite hm
 ·exact ge (u1 a<|z0) (congrArg res_Lk (qj hm)) (by kernel_rfl)
 ·refine gm c_Lk_15 K_Lk_15 (s_Lk_15 p0 (ByteArray.mk #[])) (v1 a<|z0) ?_ (by kernel_rfl)
  obtain ⟨e,he,hm⟩:=bind_some hm
  refine loop_rule (u:=.c c_Lk_15) (K:=K_Lk_15) (Q:=(Post vf_Lk (res_Lk r))) (b:=lp_Lk_15) (We:=O_Lk_15 (Post vf_Lk (res_Lk r))) (stJ:=fun s=>s_Lk_15 s.1 s.2) (s:=(p0,(ByteArray.mk #[]))) (fun s y hb hin hout=>ok_Lk_15 s.1 s.2 y hb (Post vf_Lk (res_Lk r)) hin hout) he ?_
  show EE c_Lk_25 K_Lk_25 (s_Lk_25 e) _
  exact ok_Lk_25 e r hm
theorem ok_Lk (p0:Int) (r:ByteArray) (hm:m_Lk p0=some r):Runs ext tbl 116 (as_Lk p0) (res_Lk r):=
 runs_of (vf:=vf_Lk) (by kernel_rfl) rfl (st:=(enter vf_Lk (as_Lk p0)).getD default) (by kernel_rfl) (go_on [] 1000 J0 (ok_Lk_0 p0 r hm) (by kernel_rfl))
def O_Ll_7 (Q:VX→St→Prop) (e:(Int×LZ)):Prop:=EE c_Ll_27 K_Ll_27 (s_Ll_27 e.1 e.2) Q
theorem ok_Ll_27 (a:Int) (b:LZ) (r:Int×LZ) (hm:m_Ll_27 a b=some r):EE c_Ll_27 K_Ll_27 (s_Ll_27 a b) (Post vf_Ll (res_Ll r)):=by
 exact ge (z0) (congrArg res_Ll (qj hm)) (by kernel_rfl)
theorem ok_Ll_7 (a d:Int) (b:LZ) (y) (hm:m_Ll_7 a d b=some y) (Q)
  (hin:∀ s,y=.inl s→EE c_Ll_7 K_Ll_7 (s_Ll_7 s.1 s.2.1 s.2.2) Q) (hout:∀ e,y=.inr e→O_Ll_7 Q e):EE c_Ll_7 K_Ll_7 (s_Ll_7 a d b) Q:=by
 obtain ⟨h,hm⟩|⟨h,hm⟩:=split_ite hm
 ·obtain ⟨c,g,hm⟩:=bind_some hm
  obtain ⟨f,i,hm⟩:=bind_some hm
  exact gw (hin _ (qj hm).symm) (u1 h<|wO (.rows (List.map rZa (b.set (0+Int.toNat d) (Za.mk a c.scale c.name))))<|wO (.rows (List.map rZa (b.set (0+Int.toNat d) (Za.mk a (w64 (a+1)) c.name))))<|wO (.res (res_Lk f))<|wO (.rows (List.map rZa (b.set (0+Int.toNat d) (Za.mk a (w64 (a+1)) f))))<|wO (zn ((b.set (0+Int.toNat d) (Za.mk a (w64 (a+1)) f)).length))<|wP (rd_in rfl g)<|wP (put_ob rZa (Za.mk a c.scale c.name) 0 (.lit (vI a)) (rd_get0 g) (by kernel_rfl) (by kernel_rfl))<|wP (rd_in rfl g)<|wP (put_ob2 rZa (Za.mk a (w64 (a+1)) c.name) 1 (.lit (vI (w64 (a+1)))) (set_at (Za.mk a c.scale c.name) (rd_get0 g)) (by kernel_rfl) (by kernel_rfl))<|wP (ok_Lk (w64 ((w64 (a+1))+1)) f i)<|wP (rd_in rfl g)<|wP (put_ob2 rZa (Za.mk a (w64 (a+1)) f) 2 (.lit (.string f)) (set_at2 (Za.mk a (w64 (a+1)) c.name) (set_at (Za.mk a c.scale c.name) (rd_get0 g))) (by kernel_rfl) (by kernel_rfl))<|wP (lens b.length ((b.set (0+Int.toNat d) (Za.mk a (w64 (a+1)) f)).length) (set_len rfl))<|z0) (by kernel_rfl)
 ·refine gm c_Ll_27 K_Ll_27 (s_Ll_27 a b) (v1 h<|wN b.length<|z0) ?_ (by kernel_rfl)
  exact hout (a,b) (qj hm).symm
theorem ok_Ll_0 (p1:Int) (p0:LZ) (r:Int×LZ) (hm:m_Ll_0 p1 p0=some r):EE c_Ll_0 K_Ll_0 (s_Ll_0 p1 p0) (Post vf_Ll (res_Ll r)):=by
 refine gm c_Ll_7 K_Ll_7 (s_Ll_7 p1 0 p0) (wN p0.length<|z0) ?_ (by kernel_rfl)
 obtain ⟨e,he,hm⟩:=bind_some hm
 refine loop_rule (u:=.c c_Ll_7) (K:=K_Ll_7) (Q:=(Post vf_Ll (res_Ll r))) (b:=lp_Ll_7) (We:=O_Ll_7 (Post vf_Ll (res_Ll r))) (stJ:=fun s=>s_Ll_7 s.1 s.2.1 s.2.2) (s:=(p1,0,p0)) (fun s y hb hin hout=>ok_Ll_7 s.1 s.2.1 s.2.2 y hb (Post vf_Ll (res_Ll r)) hin hout) he ?_
 show EE c_Ll_27 K_Ll_27 (s_Ll_27 e.1 e.2) _
 exact ok_Ll_27 e.1 e.2 r hm
theorem ok_Ll (p0:LZ) (p1:Int) (r:Int×LZ) (hm:m_Ll p0 p1=some r):Runs ext tbl 62 (as_Ll p0 p1) (res_Ll r):=
 runs_of (vf:=vf_Ll) (by kernel_rfl) rfl (st:=(enter vf_Ll (as_Ll p0 p1)).getD default) (by kernel_rfl) (go_on [zn p0.length] 1000 (J (len_map rZa (rfl:p0.length=p0.length)) J0) (ok_Ll_0 p1 p0 r hm) (by kernel_rfl))
def O_Li_7 (Q:VX→St→Prop) (e:(Int×LI)):Prop:=EE c_Li_19 K_Li_19 (s_Li_19 e.1 e.2) Q
theorem ok_Li_19 (a:Int) (b:LI) (r:Int×LI) (hm:m_Li_19 a b=some r):EE c_Li_19 K_Li_19 (s_Li_19 a b) (Post vf_Li (res_Li r)):=by
 exact ge (z0) (congrArg res_Li (qj hm)) (by kernel_rfl)
theorem ok_Li_7 (a c:Int) (b:LI) (y) (hm:m_Li_7 a c b=some y) (Q)
  (hin:∀ s,y=.inl s→EE c_Li_7 K_Li_7 (s_Li_7 s.1 s.2.1 s.2.2) Q) (hout:∀ e,y=.inr e→O_Li_7 Q e):EE c_Li_7 K_Li_7 (s_Li_7 a c b) Q:=by
 obtain ⟨d,hm⟩|⟨d,hm⟩:=split_ite hm
 ·obtain ⟨g,f,hm⟩:=bind_some hm
  exact gw (hin _ (qj hm).symm) (u1 d<|wO (.rows (List.map (rI .u8) (b.set (0+Int.toNat c) (wr .u8 a))))<|wO (zn ((b.set (0+Int.toNat c) (wr .u8 a)).length))<|wP (rd_in rfl f)<|wP (put_ob (rI .u8) (wr .u8 a) 0 (.lit (.int .u8 (wr .u8 a))) (rd_get0 f) (by kernel_rfl) (by kernel_rfl))<|wP (lens b.length ((b.set (0+Int.toNat c) (wr .u8 a)).length) (set_len rfl))<|z0) (by kernel_rfl)
 ·refine gm c_Li_19 K_Li_19 (s_Li_19 a b) (v1 d<|wN b.length<|z0) ?_ (by kernel_rfl)
  exact hout (a,b) (qj hm).symm
theorem ok_Li_0 (p1:Int) (p0:LI) (r:Int×LI) (hm:m_Li_0 p1 p0=some r):EE c_Li_0 K_Li_0 (s_Li_0 p1 p0) (Post vf_Li (res_Li r)):=by
 refine gm c_Li_7 K_Li_7 (s_Li_7 p1 0 p0) (wN p0.length<|z0) ?_ (by kernel_rfl)
 obtain ⟨e,he,hm⟩:=bind_some hm
 refine loop_rule (u:=.c c_Li_7) (K:=K_Li_7) (Q:=(Post vf_Li (res_Li r))) (b:=lp_Li_7) (We:=O_Li_7 (Post vf_Li (res_Li r))) (stJ:=fun s=>s_Li_7 s.1 s.2.1 s.2.2) (s:=(p1,0,p0)) (fun s y hb hin hout=>ok_Li_7 s.1 s.2.1 s.2.2 y hb (Post vf_Li (res_Li r)) hin hout) he ?_
 show EE c_Li_19 K_Li_19 (s_Li_19 e.1 e.2) _
 exact ok_Li_19 e.1 e.2 r hm
theorem ok_Li (p0:LI) (p1:Int) (r:Int×LI) (hm:m_Li p0 p1=some r):Runs ext tbl 14 (as_Li p0 p1) (res_Li r):=
 runs_of (vf:=vf_Li) (by kernel_rfl) rfl (st:=(enter vf_Li (as_Li p0 p1)).getD default) (by kernel_rfl) (go_on [zn p0.length] 1000 (J (len_map (rI .u8) (rfl:p0.length=p0.length)) J0) (ok_Li_0 p1 p0 r hm) (by kernel_rfl))
def O_Lj_7 (Q:VX→St→Prop) (e:(Int×LZa)):Prop:=EE c_Lj_33 K_Lj_33 (s_Lj_33 e.1 e.2) Q
theorem ok_Lj_33 (a:Int) (b:LZa) (r:Int×LZa) (hm:m_Lj_33 a b=some r):EE c_Lj_33 K_Lj_33 (s_Lj_33 a b) (Post vf_Lj (res_Lj r)):=by
 exact ge (z0) (congrArg res_Lj (qj hm)) (by kernel_rfl)
theorem ok_Lj_7 (a f:Int) (c:LZa) (y) (hm:m_Lj_7 a f c=some y) (Q)
  (hin:∀ s,y=.inl s→EE c_Lj_7 K_Lj_7 (s_Lj_7 s.1 s.2.1 s.2.2) Q) (hout:∀ e,y=.inr e→O_Lj_7 Q e):EE c_Lj_7 K_Lj_7 (s_Lj_7 a f c) Q:=by
 obtain ⟨h,hm⟩|⟨h,hm⟩:=split_ite hm
 ·obtain ⟨b,d,hm⟩:=bind_some hm
  obtain ⟨g,i,hm⟩:=bind_some hm
  obtain ⟨k,j,hm⟩:=bind_some hm
  exact gw (hin _ (qj hm).symm) (u1 h<|wO (.rows (List.map rZb (c.set (0+Int.toNat f) (Zb.mk a b.time b.span b.key b.data))))<|wO (.rows (List.map rZb (c.set (0+Int.toNat f) (Zb.mk a (w64 (a+1)) b.span b.key b.data))))<|wO (.rows (List.map rZb (c.set (0+Int.toNat f) (Zb.mk a (w64 (a+1)) (w64 ((w64 (a+1))+1)) b.key b.data))))<|wO (.rows (List.map rZb (c.set (0+Int.toNat f) (Zb.mk a (w64 (a+1)) (w64 ((w64 (a+1))+1)) ((Int.tmod (w64 ((w64 ((w64 (a+1))+1))+1)) 3) == 0) b.data))))<|wO (.row (rZb (Zb.mk a (w64 (a+1)) (w64 ((w64 (a+1))+1)) ((Int.tmod (w64 ((w64 ((w64 (a+1))+1))+1)) 3) == 0) b.data)))<|wO (zn b.data.length)<|wO (.row (rZb (Zb.mk a (w64 (a+1)) (w64 ((w64 (a+1))+1)) ((Int.tmod (w64 ((w64 ((w64 (a+1))+1))+1)) 3) == 0) b.data)))<|wO (.res (res_Li g))<|wO (.row (rZb (Zb.mk a (w64 (a+1)) (w64 ((w64 (a+1))+1)) ((Int.tmod (w64 ((w64 ((w64 (a+1))+1))+1)) 3) == 0) b.data)))<|wO (.row (rZb (Zb.mk a (w64 (a+1)) (w64 ((w64 (a+1))+1)) ((Int.tmod (w64 ((w64 ((w64 (a+1))+1))+1)) 3) == 0) b.data)))<|wO (.rows (List.map rZb (c.set (0+Int.toNat f) (Zb.mk a (w64 (a+1)) (w64 ((w64 (a+1))+1)) ((Int.tmod (w64 ((w64 ((w64 (a+1))+1))+1)) 3) == 0) g.2))))<|wO (zn ((c.set (0+Int.toNat f) (Zb.mk a (w64 (a+1)) (w64 ((w64 (a+1))+1)) ((Int.tmod (w64 ((w64 ((w64 (a+1))+1))+1)) 3) == 0) g.2)).length))<|wP (rd_in rfl d)<|wP (put_ob rZb (Zb.mk a b.time b.span b.key b.data) 0 (.lit (vI a)) (rd_get0 d) (by kernel_rfl) (by kernel_rfl))<|wP (rd_in rfl d)<|wP (put_ob2 rZb (Zb.mk a (w64 (a+1)) b.span b.key b.data) 1 (.lit (vI (w64 (a+1)))) (set_at (Zb.mk a b.time b.span b.key b.data) (rd_get0 d)) (by kernel_rfl) (by kernel_rfl))<|wP (rd_in rfl d)<|wP (put_ob2 rZb (Zb.mk a (w64 (a+1)) (w64 ((w64 (a+1))+1)) b.key b.data) 2 (.lit (vI (w64 ((w64 (a+1))+1)))) (set_at2 (Zb.mk a (w64 (a+1)) b.span b.key b.data) (set_at (Zb.mk a b.time b.span b.key b.data) (rd_get0 d))) (by kernel_rfl) (by kernel_rfl))<|wP (by decide:(3:Int)≠0)<|wP (rd_in rfl d)<|wP (put_ob2 rZb (Zb.mk a (w64 (a+1)) (w64 ((w64 (a+1))+1)) ((Int.tmod (w64 ((w64 ((w64 (a+1))+1))+1)) 3) == 0) b.data) 3 (.lit (.bool ((Int.tmod (w64 ((w64 ((w64 (a+1))+1))+1)) 3) == 0))) (set_at2 (Zb.mk a (w64 (a+1)) (w64 ((w64 (a+1))+1)) b.key b.data) (set_at2 (Zb.mk a (w64 (a+1)) b.span b.key b.data) (set_at (Zb.mk a b.time b.span b.key b.data) (rd_get0 d)))) (by kernel_rfl) (by kernel_rfl))<|wP (rd_in rfl d)<|wP (at_row rZb (set_at2 (Zb.mk a (w64 (a+1)) (w64 ((w64 (a+1))+1)) ((Int.tmod (w64 ((w64 ((w64 (a+1))+1))+1)) 3) == 0) b.data) (set_at2 (Zb.mk a (w64 (a+1)) (w64 ((w64 (a+1))+1)) b.key b.data) (set_at2 (Zb.mk a (w64 (a+1)) b.span b.key b.data) (set_at (Zb.mk a b.time b.span b.key b.data) (rd_get0 d))))))<|wP (lm (rI .u8) b.data)<|wP (at_row rZb (set_at2 (Zb.mk a (w64 (a+1)) (w64 ((w64 (a+1))+1)) ((Int.tmod (w64 ((w64 ((w64 (a+1))+1))+1)) 3) == 0) b.data) (set_at2 (Zb.mk a (w64 (a+1)) (w64 ((w64 (a+1))+1)) b.key b.data) (set_at2 (Zb.mk a (w64 (a+1)) b.span b.key b.data) (set_at (Zb.mk a b.time b.span b.key b.data) (rd_get0 d))))))<|wP (all_eq (rI .u8) b.data rfl)<|wP (ok_Li b.data (w64 ((w64 ((w64 ((w64 (a+1))+1))+1))+1)) g i)<|wP (at_row rZb (set_at2 (Zb.mk a (w64 (a+1)) (w64 ((w64 (a+1))+1)) ((Int.tmod (w64 ((w64 ((w64 (a+1))+1))+1)) 3) == 0) b.data) (set_at2 (Zb.mk a (w64 (a+1)) (w64 ((w64 (a+1))+1)) b.key b.data) (set_at2 (Zb.mk a (w64 (a+1)) b.span b.key b.data) (set_at (Zb.mk a b.time b.span b.key b.data) (rd_get0 d))))))<|wP (len2 (rI .u8) g.2 b.data (ck_p j))<|wP (at_row rZb (set_at2 (Zb.mk a (w64 (a+1)) (w64 ((w64 (a+1))+1)) ((Int.tmod (w64 ((w64 ((w64 (a+1))+1))+1)) 3) == 0) b.data) (set_at2 (Zb.mk a (w64 (a+1)) (w64 ((w64 (a+1))+1)) b.key b.data) (set_at2 (Zb.mk a (w64 (a+1)) b.span b.key b.data) (set_at (Zb.mk a b.time b.span b.key b.data) (rd_get0 d))))))<|wP (upd_ob2 rZb c (0+Int.toNat f) (Zb.mk a (w64 (a+1)) (w64 ((w64 (a+1))+1)) ((Int.tmod (w64 ((w64 ((w64 (a+1))+1))+1)) 3) == 0) b.data) (Zb.mk a (w64 (a+1)) (w64 ((w64 (a+1))+1)) ((Int.tmod (w64 ((w64 ((w64 (a+1))+1))+1)) 3) == 0) b.data) (Zb.mk a (w64 (a+1)) (w64 ((w64 (a+1))+1)) ((Int.tmod (w64 ((w64 ((w64 (a+1))+1))+1)) 3) == 0) g.2) 4 (.sl (g.2.map (rI .u8))) (by kernel_rfl))<|wP (lens c.length ((c.set (0+Int.toNat f) (Zb.mk a (w64 (a+1)) (w64 ((w64 (a+1))+1)) ((Int.tmod (w64 ((w64 ((w64 (a+1))+1))+1)) 3) == 0) g.2)).length) (set_len rfl))<|z0) (by kernel_rfl)
 ·refine gm c_Lj_33 K_Lj_33 (s_Lj_33 a c) (v1 h<|wN c.length<|z0) ?_ (by kernel_rfl)
  exact hout (a,c) (qj hm).symm
theorem ok_Lj_0 (p1:Int) (p0:LZa) (r:Int×LZa) (hm:m_Lj_0 p1 p0=some r):EE c_Lj_0 K_Lj_0 (s_Lj_0 p1 p0) (Post vf_Lj (res_Lj r)):=by
 refine gm c_Lj_7 K_Lj_7 (s_Lj_7 p1 0 p0) (wN p0.length<|z0) ?_ (by kernel_rfl)
 obtain ⟨e,he,hm⟩:=bind_some hm
 refine loop_rule (u:=.c c_Lj_7) (K:=K_Lj_7) (Q:=(Post vf_Lj (res_Lj r))) (b:=lp_Lj_7) (We:=O_Lj_7 (Post vf_Lj (res_Lj r))) (stJ:=fun s=>s_Lj_7 s.1 s.2.1 s.2.2) (s:=(p1,0,p0)) (fun s y hb hin hout=>ok_Lj_7 s.1 s.2.1 s.2.2 y hb (Post vf_Lj (res_Lj r)) hin hout) he ?_
 show EE c_Lj_33 K_Lj_33 (s_Lj_33 e.1 e.2) _
 exact ok_Lj_33 e.1 e.2 r hm
theorem ok_Lj (p0:LZa) (p1:Int) (r:Int×LZa) (hm:m_Lj p0 p1=some r):Runs ext tbl 63 (as_Lj p0 p1) (res_Lj r):=
 runs_of (vf:=vf_Lj) (by kernel_rfl) rfl (st:=(enter vf_Lj (as_Lj p0 p1)).getD default) (by kernel_rfl) (go_on [zn p0.length] 1000 (J (len_map rZb (rfl:p0.length=p0.length)) J0) (ok_Lj_0 p1 p0 r hm) (by kernel_rfl))
theorem ok_Lh_0 (p1:Int) (p0:Zc) (r:Int×Zc) (hm:m_Lh_0 p1 p0=some r):EE c_Lh_0 K_Lh_0 (s_Lh_0 p1 p0) (Post vf_Lh (res_Lh r)):=by
 obtain ⟨a,c,hm⟩:=bind_some hm
 obtain ⟨g,d,hm⟩:=bind_some hm
 obtain ⟨b,e,hm⟩:=bind_some hm
 obtain ⟨h,f,hm⟩:=bind_some hm
 exact ge (wO (.res (res_Ll a))<|wO (.res (res_Lj b))<|wP (all_eq rZa p0.tracks rfl)<|wP (ok_Ll p0.tracks p1 a c)<|wP (len2 rZa a.2 p0.tracks (ck_p d))<|wP (all_eq rZb p0.packets rfl)<|wP (ok_Lj p0.packets a.1 b e)<|wP (len2 rZb b.2 p0.packets (ck_p f))<|z0) (congrArg res_Lh (qj hm)) (by kernel_rfl)
theorem ok_Lh (p0:Zc) (p1:Int) (r:Int×Zc) (hm:m_Lh p0 p1=some r):Runs ext tbl 22 (as_Lh p0 p1) (res_Lh r):=
 runs_of (vf:=vf_Lh) (by kernel_rfl) rfl (st:=(enter vf_Lh (as_Lh p0 p1)).getD default) (by kernel_rfl) (go_on [zn p0.tracks.length,zn p0.packets.length] 1000 (J (len_map rZa (rfl:p0.tracks.length=p0.tracks.length)) (J (len_map rZb (rfl:p0.packets.length=p0.packets.length)) J0)) (ok_Lh_0 p1 p0 r hm) (by kernel_rfl))
def O_Lg_7 (Q:VX→St→Prop) (e:(Int)⊕((Int))):Prop:=match e with | .inl e=>Q=Post vf_Lg (res_Lg e) | .inr e=>EE c_Lg_25 K_Lg_25 (s_Lg_25 e) Q
theorem ok_Lg_25 (a r:Int) (hm:m_Lg_25 a=some r):EE c_Lg_25 K_Lg_25 (s_Lg_25 a) (Post vf_Lg (res_Lg r)):=by
 exact ge (z0) (congrArg res_Lg (qj hm)) (by kernel_rfl)
theorem ok_Lg_7 (p0:LI) (a f:Int) (y) (hm:m_Lg_7 p0 a f=some y) (Q)
  (hin:∀ s,y=.inl s→EE c_Lg_7 K_Lg_7 (s_Lg_7 p0 s.1 s.2) Q) (hout:∀ e,y=.inr e→O_Lg_7 Q e):EE c_Lg_7 K_Lg_7 (s_Lg_7 p0 a f) Q:=by
 obtain ⟨b,hm⟩|⟨b,hm⟩:=split_ite hm
 ·obtain ⟨g,c,hm⟩:=bind_some hm
  obtain ⟨d,hm⟩|⟨d,hm⟩:=split_ite hm
  ·have hQ:Q=Post vf_Lg (res_Lg (-1)):=hout (.inl (-1)) (qj hm).symm
   subst hQ
   exact ge (wL (rI .u8) p0<|u1 b<|wO (.row ((rI .u8) g))<|wP (rd_nn c)<|wP (at_row (rI .u8) (rd_get c))<|u1 d<|z0) (rfl:res_Lg (-1)=res_Lg (-1)) (by kernel_rfl)
  ·exact gw (hin _ (qj hm).symm) (wL (rI .u8) p0<|u1 b<|wO (.row ((rI .u8) g))<|wP (rd_nn c)<|wP (at_row (rI .u8) (rd_get c))<|v1 d<|z0) (by kernel_rfl)
 ·refine gm c_Lg_25 K_Lg_25 (s_Lg_25 a) (wL (rI .u8) p0<|v1 b<|z0) ?_ (by kernel_rfl)
  exact hout (.inr a) (qj hm).symm
theorem ok_Lg_0 (p0:LI) (p1 r:Int) (hm:m_Lg_0 p0 p1=some r):EE c_Lg_0 K_Lg_0 (s_Lg_0 p0 p1) (Post vf_Lg (res_Lg r)):=by
 refine gm c_Lg_7 K_Lg_7 (s_Lg_7 p0 p1 0) (z0) ?_ (by kernel_rfl)
 obtain ⟨e,he,hm⟩:=bind_some hm
 refine loop_rule (u:=.c c_Lg_7) (K:=K_Lg_7) (Q:=(Post vf_Lg (res_Lg r))) (b:=lp_Lg_7 p0) (We:=O_Lg_7 (Post vf_Lg (res_Lg r))) (stJ:=fun s=>s_Lg_7 p0 s.1 s.2) (s:=(p1,0)) (fun s y hb hin hout=>ok_Lg_7 p0 s.1 s.2 y hb (Post vf_Lg (res_Lg r)) hin hout) he ?_
 rcases e with e | e
 ·exact congrArg (fun r=>Post vf_Lg (res_Lg r)) (qj hm).symm
 ·show EE c_Lg_25 K_Lg_25 (s_Lg_25 e) _
  exact ok_Lg_25 e r hm
theorem ok_Lg (p0:LI) (p1 r:Int) (hm:m_Lg p0 p1=some r):Runs ext tbl 23 (as_Lg p0 p1) (res_Lg r):=
 runs_of (vf:=vf_Lg) (by kernel_rfl) rfl (st:=(enter vf_Lg (as_Lg p0 p1)).getD default) (by kernel_rfl) (go_on [] 1000 J0 (ok_Lg_0 p0 p1 r hm) (by kernel_rfl))
theorem ok_laws_FnExactWriteBox_0 (p0:Zc) (p1:Int) (r:Bool) (hm:m_laws_FnExactWriteBox_0 p0 p1=some r):EE c_laws_FnExactWriteBox_0 K_laws_FnExactWriteBox_0 (s_laws_FnExactWriteBox_0 p0 p1) (Post vf_laws_FnExactWriteBox (res_laws_FnExactWriteBox r)):=by
 obtain ⟨i,p,hm⟩:=bind_some hm
 obtain ⟨n,hm⟩|⟨n,hm⟩:=split_ite hm
 ·exact ge (wO (.res (res_Lm i))<|wP (ok_Lm p0 1048576 i p)<|u1 n<|z0) (congrArg res_laws_FnExactWriteBox (qj hm)) (by kernel_rfl)
 ·obtain ⟨a,g,hm⟩:=bind_some hm
  obtain ⟨c,s,hm⟩:=bind_some hm
  obtain ⟨b,q,hm⟩:=bind_some hm
  obtain ⟨f,l,hm⟩:=bind_some hm
  obtain ⟨j,hm⟩|⟨j,hm⟩:=split_ite hm
  ·obtain ⟨m,u,hm⟩:=bind_some hm
   obtain ⟨t,hm⟩|⟨t,hm⟩:=split_ite hm
   ·obtain ⟨h,w,hm⟩:=bind_some hm
    obtain ⟨C,x,hm⟩:=bind_some hm
    obtain ⟨D,y,hm⟩:=bind_some hm
    obtain ⟨e,hm⟩|⟨e,hm⟩:=split_ite hm
    ·exact ge (wO (.res (res_Lm i))<|wP (ok_Lm p0 1048576 i p)<|v1 n<|wO (.res (res_Ls a))<|wP (ok_Ls p0 a g)<|wL rZa a.tracks<|wL rZb a.packets<|wO (.rows (List.map rZa a.tracks))<|wO (.rows (List.map rZb a.packets))<|wO (.res (res_Sd c))<|wP (all_le rZa a.tracks rfl)<|wP (all_dt rZa a.tracks rfl)<|wP (all_le rZb a.packets rfl)<|wP (all_dt rZb a.packets rfl)<|wP (ok_Sd a p1 c s)<|wL (rI .u8) c<|wO (.res (res_Ls a))<|wP (ok_Ls p0 a g)<|wL rZa a.tracks<|wL rZb a.packets<|wO (.rows (List.map rZa a.tracks))<|wO (.rows (List.map rZb a.packets))<|wO (.res (res_Id b))<|wP (all_le rZa a.tracks rfl)<|wP (all_dt rZa a.tracks rfl)<|wP (all_le rZb a.packets rfl)<|wP (all_dt rZb a.packets rfl)<|wP (ok_Id a p1 b q)<|wL (rI .u8) b<|wO (.rows (List.map (rI .u8) b))<|wO (.rows (List.map (rI .u8) c))<|wO (.res (res_Lb f))<|wP (all_le (rI .u8) b rfl)<|wP (all_dt (rI .u8) b rfl)<|wP (all_le (rI .u8) c rfl)<|wP (all_dt (rI .u8) c rfl)<|wP (ok_Lb b c f l)<|v1 (not_f j)<|wO (.res (res_Ls a))<|wP (ok_Ls p0 a g)<|wL rZa a.tracks<|wL rZb a.packets<|wO (.rows (List.map rZa a.tracks))<|wO (.rows (List.map rZb a.packets))<|wO (.rows (List.map rZa a.tracks))<|wO (.rows (List.map rZb a.packets))<|wO (.res (res_La m))<|wO zF<|wO (.rows (List.map rZa a.tracks))<|wO (.rows (List.map rZb a.packets))<|wO (.res (res_Lh h))<|wO zT<|wO zT<|wO zT<|wO zT<|wO zT<|wO zT<|wP (all_le rZa a.tracks rfl)<|wP (all_dt rZa a.tracks rfl)<|wP (all_le rZb a.packets rfl)<|wP (all_dt rZb a.packets rfl)<|wP (all_le rZa a.tracks rfl)<|wP (all_dt rZa a.tracks rfl)<|wP (all_le rZb a.packets rfl)<|wP (all_dt rZb a.packets rfl)<|wP (ok_La a a m u)<|wP (not_f t)<|wA rZa a.tracks<|wA rZb a.packets<|wP (all_eq rZa a.tracks rfl)<|wP (all_eq rZb a.packets rfl)<|wP (ok_Lh a 1 h w)<|wP (len2 rZa h.2.tracks a.tracks (ck_p x))<|wP (len2 rZb h.2.packets a.packets (ck_p y))<|wP e<|wP e<|wP e<|wP e<|wP e<|wP eT<|z0) (congrArg res_laws_FnExactWriteBox (qj hm)) (by kernel_rfl)
    ·obtain ⟨d,B,hm⟩:=bind_some hm
     obtain ⟨E,k,hm⟩:=bind_some hm
     obtain ⟨o,z,hm⟩:=bind_some hm
     obtain ⟨v,hm⟩|⟨v,hm⟩:=split_ite hm
     ·exact ge (wO (.res (res_Lm i))<|wP (ok_Lm p0 1048576 i p)<|v1 n<|wO (.res (res_Ls a))<|wP (ok_Ls p0 a g)<|wL rZa a.tracks<|wL rZb a.packets<|wO (.rows (List.map rZa a.tracks))<|wO (.rows (List.map rZb a.packets))<|wO (.res (res_Sd c))<|wP (all_le rZa a.tracks rfl)<|wP (all_dt rZa a.tracks rfl)<|wP (all_le rZb a.packets rfl)<|wP (all_dt rZb a.packets rfl)<|wP (ok_Sd a p1 c s)<|wL (rI .u8) c<|wO (.res (res_Ls a))<|wP (ok_Ls p0 a g)<|wL rZa a.tracks<|wL rZb a.packets<|wO (.rows (List.map rZa a.tracks))<|wO (.rows (List.map rZb a.packets))<|wO (.res (res_Id b))<|wP (all_le rZa a.tracks rfl)<|wP (all_dt rZa a.tracks rfl)<|wP (all_le rZb a.packets rfl)<|wP (all_dt rZb a.packets rfl)<|wP (ok_Id a p1 b q)<|wL (rI .u8) b<|wO (.rows (List.map (rI .u8) b))<|wO (.rows (List.map (rI .u8) c))<|wO (.res (res_Lb f))<|wP (all_le (rI .u8) b rfl)<|wP (all_dt (rI .u8) b rfl)<|wP (all_le (rI .u8) c rfl)<|wP (all_dt (rI .u8) c rfl)<|wP (ok_Lb b c f l)<|v1 (not_f j)<|wO (.res (res_Ls a))<|wP (ok_Ls p0 a g)<|wL rZa a.tracks<|wL rZb a.packets<|wO (.rows (List.map rZa a.tracks))<|wO (.rows (List.map rZb a.packets))<|wO (.rows (List.map rZa a.tracks))<|wO (.rows (List.map rZb a.packets))<|wO (.res (res_La m))<|wO zF<|wO (.rows (List.map rZa a.tracks))<|wO (.rows (List.map rZb a.packets))<|wO (.res (res_Lh h))<|wO zF<|wO zF<|wO zF<|wO (.rows (List.map (rI .u8) b))<|wO (.rows (List.map (rI .u8) c))<|wO (.res (res_Lb f))<|wO zF<|wO zF<|wO zF<|wO (.res (res_Li d))<|wO (.rows (List.map (rI .u8) d.2))<|wO (.res (res_Lg o))<|wO zT<|wP (all_le rZa a.tracks rfl)<|wP (all_dt rZa a.tracks rfl)<|wP (all_le rZb a.packets rfl)<|wP (all_dt rZb a.packets rfl)<|wP (all_le rZa a.tracks rfl)<|wP (all_dt rZa a.tracks rfl)<|wP (all_le rZb a.packets rfl)<|wP (all_dt rZb a.packets rfl)<|wP (ok_La a a m u)<|wP (not_f t)<|wA rZa a.tracks<|wA rZb a.packets<|wP (all_eq rZa a.tracks rfl)<|wP (all_eq rZb a.packets rfl)<|wP (ok_Lh a 1 h w)<|wP (len2 rZa h.2.tracks a.tracks (ck_p x))<|wP (len2 rZb h.2.packets a.packets (ck_p y))<|wP e<|wP e<|wP e<|wP (all_le (rI .u8) b rfl)<|wP (all_dt (rI .u8) b rfl)<|wP (all_le (rI .u8) c rfl)<|wP (all_dt (rI .u8) c rfl)<|wP (ok_Lb b c f l)<|wP e<|wP e<|wP (not_f j)<|wP (all_eq (rI .u8) b rfl)<|wP (ok_Li b 1 d B)<|wP (len2 (rI .u8) d.2 b (ck_p k))<|wP (all_le (rI .u8) d.2 (Eq.trans rfl (Eq.symm (ck_p k))))<|wP (all_dt (rI .u8) d.2 (Eq.trans rfl (Eq.symm (ck_p k))))<|wP (ok_Lg d.2 1 o z)<|wP v<|z0) (congrArg res_laws_FnExactWriteBox (qj hm)) (by kernel_rfl)
     ·obtain ⟨A,hm⟩|⟨A,hm⟩:=split_ite hm
      ·exact ge (wO (.res (res_Lm i))<|wP (ok_Lm p0 1048576 i p)<|v1 n<|wO (.res (res_Ls a))<|wP (ok_Ls p0 a g)<|wL rZa a.tracks<|wL rZb a.packets<|wO (.rows (List.map rZa a.tracks))<|wO (.rows (List.map rZb a.packets))<|wO (.res (res_Sd c))<|wP (all_le rZa a.tracks rfl)<|wP (all_dt rZa a.tracks rfl)<|wP (all_le rZb a.packets rfl)<|wP (all_dt rZb a.packets rfl)<|wP (ok_Sd a p1 c s)<|wL (rI .u8) c<|wO (.res (res_Ls a))<|wP (ok_Ls p0 a g)<|wL rZa a.tracks<|wL rZb a.packets<|wO (.rows (List.map rZa a.tracks))<|wO (.rows (List.map rZb a.packets))<|wO (.res (res_Id b))<|wP (all_le rZa a.tracks rfl)<|wP (all_dt rZa a.tracks rfl)<|wP (all_le rZb a.packets rfl)<|wP (all_dt rZb a.packets rfl)<|wP (ok_Id a p1 b q)<|wL (rI .u8) b<|wO (.rows (List.map (rI .u8) b))<|wO (.rows (List.map (rI .u8) c))<|wO (.res (res_Lb f))<|wP (all_le (rI .u8) b rfl)<|wP (all_dt (rI .u8) b rfl)<|wP (all_le (rI .u8) c rfl)<|wP (all_dt (rI .u8) c rfl)<|wP (ok_Lb b c f l)<|v1 (not_f j)<|wO (.res (res_Ls a))<|wP (ok_Ls p0 a g)<|wL rZa a.tracks<|wL rZb a.packets<|wO (.rows (List.map rZa a.tracks))<|wO (.rows (List.map rZb a.packets))<|wO (.rows (List.map rZa a.tracks))<|wO (.rows (List.map rZb a.packets))<|wO (.res (res_La m))<|wO zF<|wO (.rows (List.map rZa a.tracks))<|wO (.rows (List.map rZb a.packets))<|wO (.res (res_Lh h))<|wO zF<|wO zF<|wO zF<|wO (.rows (List.map (rI .u8) b))<|wO (.rows (List.map (rI .u8) c))<|wO (.res (res_Lb f))<|wO zF<|wO zF<|wO zF<|wO (.res (res_Li d))<|wO (.rows (List.map (rI .u8) d.2))<|wO (.res (res_Lg o))<|wO zF<|wO zT<|wP (all_le rZa a.tracks rfl)<|wP (all_dt rZa a.tracks rfl)<|wP (all_le rZb a.packets rfl)<|wP (all_dt rZb a.packets rfl)<|wP (all_le rZa a.tracks rfl)<|wP (all_dt rZa a.tracks rfl)<|wP (all_le rZb a.packets rfl)<|wP (all_dt rZb a.packets rfl)<|wP (ok_La a a m u)<|wP (not_f t)<|wA rZa a.tracks<|wA rZb a.packets<|wP (all_eq rZa a.tracks rfl)<|wP (all_eq rZb a.packets rfl)<|wP (ok_Lh a 1 h w)<|wP (len2 rZa h.2.tracks a.tracks (ck_p x))<|wP (len2 rZb h.2.packets a.packets (ck_p y))<|wP e<|wP e<|wP e<|wP (all_le (rI .u8) b rfl)<|wP (all_dt (rI .u8) b rfl)<|wP (all_le (rI .u8) c rfl)<|wP (all_dt (rI .u8) c rfl)<|wP (ok_Lb b c f l)<|wP e<|wP e<|wP (not_f j)<|wP (all_eq (rI .u8) b rfl)<|wP (ok_Li b 1 d B)<|wP (len2 (rI .u8) d.2 b (ck_p k))<|wP (all_le (rI .u8) d.2 (Eq.trans rfl (Eq.symm (ck_p k))))<|wP (all_dt (rI .u8) d.2 (Eq.trans rfl (Eq.symm (ck_p k))))<|wP (ok_Lg d.2 1 o z)<|wP v<|wP A<|z0) (congrArg res_laws_FnExactWriteBox (qj hm)) (by kernel_rfl)
      ·exact ge (wO (.res (res_Lm i))<|wP (ok_Lm p0 1048576 i p)<|v1 n<|wO (.res (res_Ls a))<|wP (ok_Ls p0 a g)<|wL rZa a.tracks<|wL rZb a.packets<|wO (.rows (List.map rZa a.tracks))<|wO (.rows (List.map rZb a.packets))<|wO (.res (res_Sd c))<|wP (all_le rZa a.tracks rfl)<|wP (all_dt rZa a.tracks rfl)<|wP (all_le rZb a.packets rfl)<|wP (all_dt rZb a.packets rfl)<|wP (ok_Sd a p1 c s)<|wL (rI .u8) c<|wO (.res (res_Ls a))<|wP (ok_Ls p0 a g)<|wL rZa a.tracks<|wL rZb a.packets<|wO (.rows (List.map rZa a.tracks))<|wO (.rows (List.map rZb a.packets))<|wO (.res (res_Id b))<|wP (all_le rZa a.tracks rfl)<|wP (all_dt rZa a.tracks rfl)<|wP (all_le rZb a.packets rfl)<|wP (all_dt rZb a.packets rfl)<|wP (ok_Id a p1 b q)<|wL (rI .u8) b<|wO (.rows (List.map (rI .u8) b))<|wO (.rows (List.map (rI .u8) c))<|wO (.res (res_Lb f))<|wP (all_le (rI .u8) b rfl)<|wP (all_dt (rI .u8) b rfl)<|wP (all_le (rI .u8) c rfl)<|wP (all_dt (rI .u8) c rfl)<|wP (ok_Lb b c f l)<|v1 (not_f j)<|wO (.res (res_Ls a))<|wP (ok_Ls p0 a g)<|wL rZa a.tracks<|wL rZb a.packets<|wO (.rows (List.map rZa a.tracks))<|wO (.rows (List.map rZb a.packets))<|wO (.rows (List.map rZa a.tracks))<|wO (.rows (List.map rZb a.packets))<|wO (.res (res_La m))<|wO zF<|wO (.rows (List.map rZa a.tracks))<|wO (.rows (List.map rZb a.packets))<|wO (.res (res_Lh h))<|wO zF<|wO zF<|wO zF<|wO (.rows (List.map (rI .u8) b))<|wO (.rows (List.map (rI .u8) c))<|wO (.res (res_Lb f))<|wO zF<|wO zF<|wO zF<|wO (.res (res_Li d))<|wO (.rows (List.map (rI .u8) d.2))<|wO (.res (res_Lg o))<|wO zF<|wO zF<|wO (.res (res_Ls a))<|wO (zn a.tracks.length)<|wO (zn a.packets.length)<|wO (.rows (List.map rZa a.tracks))<|wO (.rows (List.map rZb a.packets))<|wO (.res (res_Id b))<|wO (zn b.length)<|wO (.rows (List.map (rI .u8) b))<|wO (.rows (List.map (rI .u8) c))<|wO (.res (res_Lb f))<|wO zF<|wO (.rows (List.map (rI .u8) d.2))<|wO (.res (res_Lg o))<|wO zF<|wO zF<|wP (all_le rZa a.tracks rfl)<|wP (all_dt rZa a.tracks rfl)<|wP (all_le rZb a.packets rfl)<|wP (all_dt rZb a.packets rfl)<|wP (all_le rZa a.tracks rfl)<|wP (all_dt rZa a.tracks rfl)<|wP (all_le rZb a.packets rfl)<|wP (all_dt rZb a.packets rfl)<|wP (ok_La a a m u)<|wP (not_f t)<|wA rZa a.tracks<|wA rZb a.packets<|wP (all_eq rZa a.tracks rfl)<|wP (all_eq rZb a.packets rfl)<|wP (ok_Lh a 1 h w)<|wP (len2 rZa h.2.tracks a.tracks (ck_p x))<|wP (len2 rZb h.2.packets a.packets (ck_p y))<|wP e<|wP e<|wP e<|wP (all_le (rI .u8) b rfl)<|wP (all_dt (rI .u8) b rfl)<|wP (all_le (rI .u8) c rfl)<|wP (all_dt (rI .u8) c rfl)<|wP (ok_Lb b c f l)<|wP e<|wP e<|wP (not_f j)<|wP (all_eq (rI .u8) b rfl)<|wP (ok_Li b 1 d B)<|wP (len2 (rI .u8) d.2 b (ck_p k))<|wP (all_le (rI .u8) d.2 (Eq.trans rfl (Eq.symm (ck_p k))))<|wP (all_dt (rI .u8) d.2 (Eq.trans rfl (Eq.symm (ck_p k))))<|wP (ok_Lg d.2 1 o z)<|wP v<|wP A<|wP (ok_Ls p0 a g)<|wP (lm rZa a.tracks)<|wP (lm rZb a.packets)<|wP (all_le rZa a.tracks rfl)<|wP (all_dt rZa a.tracks rfl)<|wP (all_le rZb a.packets rfl)<|wP (all_dt rZb a.packets rfl)<|wP (ok_Id a p1 b q)<|wP (lm (rI .u8) b)<|wP (all_le (rI .u8) b rfl)<|wP (all_dt (rI .u8) b rfl)<|wP (all_le (rI .u8) c rfl)<|wP (all_dt (rI .u8) c rfl)<|wP (ok_Lb b c f l)<|wP (not_f j)<|wP (all_le (rI .u8) d.2 (Eq.trans rfl (Eq.symm (ck_p k))))<|wP (all_dt (rI .u8) d.2 (Eq.trans rfl (Eq.symm (ck_p k))))<|wP (ok_Lg d.2 1 o z)<|wP v<|wP A<|z0) (congrArg res_laws_FnExactWriteBox (qj hm)) (by kernel_rfl)
   ·exact ge (wO (.res (res_Lm i))<|wP (ok_Lm p0 1048576 i p)<|v1 n<|wO (.res (res_Ls a))<|wP (ok_Ls p0 a g)<|wL rZa a.tracks<|wL rZb a.packets<|wO (.rows (List.map rZa a.tracks))<|wO (.rows (List.map rZb a.packets))<|wO (.res (res_Sd c))<|wP (all_le rZa a.tracks rfl)<|wP (all_dt rZa a.tracks rfl)<|wP (all_le rZb a.packets rfl)<|wP (all_dt rZb a.packets rfl)<|wP (ok_Sd a p1 c s)<|wL (rI .u8) c<|wO (.res (res_Ls a))<|wP (ok_Ls p0 a g)<|wL rZa a.tracks<|wL rZb a.packets<|wO (.rows (List.map rZa a.tracks))<|wO (.rows (List.map rZb a.packets))<|wO (.res (res_Id b))<|wP (all_le rZa a.tracks rfl)<|wP (all_dt rZa a.tracks rfl)<|wP (all_le rZb a.packets rfl)<|wP (all_dt rZb a.packets rfl)<|wP (ok_Id a p1 b q)<|wL (rI .u8) b<|wO (.rows (List.map (rI .u8) b))<|wO (.rows (List.map (rI .u8) c))<|wO (.res (res_Lb f))<|wP (all_le (rI .u8) b rfl)<|wP (all_dt (rI .u8) b rfl)<|wP (all_le (rI .u8) c rfl)<|wP (all_dt (rI .u8) c rfl)<|wP (ok_Lb b c f l)<|v1 (not_f j)<|wO (.res (res_Ls a))<|wP (ok_Ls p0 a g)<|wL rZa a.tracks<|wL rZb a.packets<|wO (.rows (List.map rZa a.tracks))<|wO (.rows (List.map rZb a.packets))<|wO (.rows (List.map rZa a.tracks))<|wO (.rows (List.map rZb a.packets))<|wO (.res (res_La m))<|wO zT<|wP (all_le rZa a.tracks rfl)<|wP (all_dt rZa a.tracks rfl)<|wP (all_le rZb a.packets rfl)<|wP (all_dt rZb a.packets rfl)<|wP (all_le rZa a.tracks rfl)<|wP (all_dt rZa a.tracks rfl)<|wP (all_le rZb a.packets rfl)<|wP (all_dt rZb a.packets rfl)<|wP (ok_La a a m u)<|wP (not_t t)<|z0) (congrArg res_laws_FnExactWriteBox (qj hm)) (by kernel_rfl)
  ·exact ge (wO (.res (res_Lm i))<|wP (ok_Lm p0 1048576 i p)<|v1 n<|wO (.res (res_Ls a))<|wP (ok_Ls p0 a g)<|wL rZa a.tracks<|wL rZb a.packets<|wO (.rows (List.map rZa a.tracks))<|wO (.rows (List.map rZb a.packets))<|wO (.res (res_Sd c))<|wP (all_le rZa a.tracks rfl)<|wP (all_dt rZa a.tracks rfl)<|wP (all_le rZb a.packets rfl)<|wP (all_dt rZb a.packets rfl)<|wP (ok_Sd a p1 c s)<|wL (rI .u8) c<|wO (.res (res_Ls a))<|wP (ok_Ls p0 a g)<|wL rZa a.tracks<|wL rZb a.packets<|wO (.rows (List.map rZa a.tracks))<|wO (.rows (List.map rZb a.packets))<|wO (.res (res_Id b))<|wP (all_le rZa a.tracks rfl)<|wP (all_dt rZa a.tracks rfl)<|wP (all_le rZb a.packets rfl)<|wP (all_dt rZb a.packets rfl)<|wP (ok_Id a p1 b q)<|wL (rI .u8) b<|wO (.rows (List.map (rI .u8) b))<|wO (.rows (List.map (rI .u8) c))<|wO (.res (res_Lb f))<|wP (all_le (rI .u8) b rfl)<|wP (all_dt (rI .u8) b rfl)<|wP (all_le (rI .u8) c rfl)<|wP (all_dt (rI .u8) c rfl)<|wP (ok_Lb b c f l)<|u1 (not_t j)<|z0) (congrArg res_laws_FnExactWriteBox (qj hm)) (by kernel_rfl)
theorem ok_laws_FnExactWriteBox (p0:Zc) (p1:Int) (r:Bool) (hm:m_laws_FnExactWriteBox p0 p1=some r):Runs ext tbl 4 (as_laws_FnExactWriteBox p0 p1) (res_laws_FnExactWriteBox r):=
 runs_of (vf:=vf_laws_FnExactWriteBox) (by kernel_rfl) rfl (st:=(enter vf_laws_FnExactWriteBox (as_laws_FnExactWriteBox p0 p1)).getD default) (by kernel_rfl) (go_on [] 1000 J0 (ok_laws_FnExactWriteBox_0 p0 p1 r hm) (by kernel_rfl))
end Go.Proofs.V

namespace Go.Proofs.V
open Go
def rZc (x:Zc):List T:=[.sl (x.tracks.map rZa),.sl (x.packets.map rZb)]
theorem dec_S_Track:Dec [.int .i64,.int .i64,.str] rZa wfS_Track:=by
 intro ts h
 obtain ⟨⟨a0,a1,a2,_⟩,rfl,w0,w1,w2,_⟩ :=(dec_app (dec_int .i64) (dec_app (dec_int .i64) (dec_app dec_str dec_nil))) ts h
 exact ⟨⟨a0,a1,a2⟩,rfl,w0,w1,w2,trivial⟩
theorem dec_S_Packet:Dec [.int .i64,.int .i64,.int .i64,.bool,.sl [.int .u8]] rZb wfS_Packet:=by
 intro ts h
 obtain ⟨⟨a0,a1,a2,a3,a4,_⟩,rfl,w0,w1,w2,w3,w4,_⟩ :=(dec_app (dec_int .i64) (dec_app (dec_int .i64) (dec_app (dec_int .i64) (dec_app dec_bool (dec_app (dec_sl (dec_int .u8)) dec_nil))))) ts h
 exact ⟨⟨a0,a1,a2,a3,a4⟩,rfl,w0,w1,w2,w3,w4,trivial⟩
theorem dec_S_Box:Dec [.sl [.int .i64,.int .i64,.str],.sl [.int .i64,.int .i64,.int .i64,.bool,.sl [.int .u8]]] rZc wfS_Box:=by
 intro ts h
 obtain ⟨⟨a0,a1,_⟩,rfl,w0,w1,_⟩ :=(dec_app (dec_sl dec_S_Track) (dec_app (dec_sl dec_S_Packet) dec_nil)) ts h
 exact ⟨⟨a0,a1⟩,rfl,w0,w1,trivial⟩
theorem all_fi:∀ x ∈ tblL,x.2.given=false→funcIs Go.Proofs.Try.prog tbl x.1 x.2=true:=by
 simp only [tblL,List.forall_mem_cons]
 exact ⟨(fun _=>fi_Lq),(fun _=>fi_Lr),(fun _=>fi_Ln),(fun _=>fi_Lo),(fun _=>fi_Lp),(fun _=>fi_Lm),(fun _=>fi_Lw),(fun _=>fi_Lx),(fun _=>fi_Lt),(fun _=>fi_Lu),(fun _=>fi_Lv),(fun _=>fi_Ls),(fun _=>fi_Sf),(fun _=>fi_Sp),(fun _=>fi_Sq),(fun _=>fi_So),(fun _=>fi_Sn),(fun _=>fi_Sg),(fun _=>fi_Sb),(fun _=>fi_Sc),(fun _=>fi_Sm),(fun _=>fi_Sa),(fun _=>fi_Sr),(fun _=>fi_Sh),(fun _=>fi_Sl),(fun _=>fi_Se),(fun _=>fi_Sk),(fun _=>fi_Sj),(fun _=>fi_Si),(fun _=>fi_Sd),(fun _=>fi_Ik),(fun _=>fi_Ij),(fun _=>fi_Ii),(fun _=>fi_Ig),(fun _=>fi_Ib),(fun _=>fi_Ic),(fun _=>fi_Ie),(fun _=>fi_Ia),(fun _=>fi_Ih),(fun _=>fi_If),(fun _=>fi_Id),(fun _=>fi_Lb),(fun _=>fi_Le),(fun _=>fi_Lf),(fun _=>fi_Lc),(fun _=>fi_Ld),(fun _=>fi_La),(fun _=>fi_Lk),(fun _=>fi_Ll),(fun _=>fi_Li),(fun _=>fi_Lj),(fun _=>fi_Lh),(fun _=>fi_Lg),(fun _=>fi_laws_FnExactWriteBox),fun _ h=>by cases h⟩
theorem all_given:∀ x ∈ tblL,x.2.given=true→∀ ars res st0,enter x.2 ars=some st0→ext x.1 ars=some res→callable Go.Proofs.Try.prog x.1=true∧Does gI Go.Proofs.Try.prog x.1 x.2 st0 res:=by
 simp only [tblL,List.forall_mem_cons]
 exact ⟨(fun h=>by cases h),(fun h=>by cases h),(fun h=>by cases h),(fun h=>by cases h),(fun h=>by cases h),(fun h=>by cases h),(fun h=>by cases h),(fun h=>by cases h),(fun h=>by cases h),(fun h=>by cases h),(fun h=>by cases h),(fun h=>by cases h),(fun h=>by cases h),(fun h=>by cases h),(fun h=>by cases h),(fun h=>by cases h),(fun h=>by cases h),(fun h=>by cases h),(fun h=>by cases h),(fun h=>by cases h),(fun h=>by cases h),(fun h=>by cases h),(fun h=>by cases h),(fun h=>by cases h),(fun h=>by cases h),(fun h=>by cases h),(fun h=>by cases h),(fun h=>by cases h),(fun h=>by cases h),(fun h=>by cases h),(fun h=>by cases h),(fun h=>by cases h),(fun h=>by cases h),(fun h=>by cases h),(fun h=>by cases h),(fun h=>by cases h),(fun h=>by cases h),(fun h=>by cases h),(fun h=>by cases h),(fun h=>by cases h),(fun h=>by cases h),(fun h=>by cases h),(fun h=>by cases h),(fun h=>by cases h),(fun h=>by cases h),(fun h=>by cases h),(fun h=>by cases h),(fun h=>by cases h),(fun h=>by cases h),(fun h=>by cases h),(fun h=>by cases h),(fun h=>by cases h),(fun h=>by cases h),(fun h=>by cases h),fun _ h=>by cases h⟩
theorem sound:∀ n,FSound gI Go.Proofs.Try.prog tbl (vrun ext tbl n):=table_sound (fun _=>rfl) ext all_given all_fi
def lawPs:List (Bool×List Ty):=[(true,[.sl [.int .i64,.int .i64,.str],.sl [.int .i64,.int .i64,.int .i64,.bool,.sl [.int .u8]]]),(false,[.int .i64])]
theorem pure_law:LawPure ext tbl 4 lawPs:=by
 intro tss hl hw
 match tss,hl with
 | [t0,t1],_=>
  obtain ⟨x0,rfl,w0⟩ :=dec_S_Box t0 (hw 0 _ t0 rfl rfl)
  obtain ⟨x1,rfl,w1⟩ :=(dec_int .i64) t1 (hw 1 _ t1 rfl rfl)
  exact ok_laws_FnExactWriteBox x0 x1 true (final_FnExactWriteBox x0 w0 x1 w1)
end Go.Proofs.V
