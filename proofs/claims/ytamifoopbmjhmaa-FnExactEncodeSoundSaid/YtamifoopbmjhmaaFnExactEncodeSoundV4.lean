import Derived.Test.YtamifoopbmjhmaaFnExactEncodeSoundV3
import Derived.KernelRfl
set_option linter.unusedVariables false
set_option maxRecDepth 100000
namespace Go.Proofs.V
open Go
abbrev EE (c : VC) (K : List Fr) (s : St) (Q : VX → St → Prop) : Prop := EvU ext tbl (.c c) K s Q
def as_Lj (p0:LI) (p1:Int):List Arg:=[.v false [.sl (p0.map (rI .i64))],.v false [.lit (vI p1)]]
def res_Lj (r:Int):FRes:=⟨[.v false [.lit (vI r)]],[]⟩
def as_Lk (p0:(List LI)) (p1:Int):List Arg:=[.v false [.sl (p0.map (rL (rI .i64)))],.v false [.lit (vI p1)]]
def res_Lk (r:Int):FRes:=⟨[.v false [.lit (vI r)]],[]⟩
def as_Ll (p0:Za) (p1:Int):List Arg:=[.v true [.lit (vI p0.rate),.lit (vI p0.bits),.lit (vI p0.frame),.sl (p0.channels.map (rL (rI .i64)))],.v false [.lit (vI p1)]]
def res_Ll (r:Int):FRes:=⟨[.v false [.lit (vI r)]],[]⟩
def as_Lm (p0:LI):List Arg:=[.v false [.sl (p0.map (rI .i64))]]
def res_Lm (r:LI):FRes:=⟨[.v false [.sl (r.map (rI .i64))]],[]⟩
def as_Ln (p0:(List LI)):List Arg:=[.v false [.sl (p0.map (rL (rI .i64)))]]
def res_Ln (r:(List LI)):FRes:=⟨[.v false [.sl (r.map (rL (rI .i64)))]],[]⟩
def as_Lo (p0:Za):List Arg:=[.v true [.lit (vI p0.rate),.lit (vI p0.bits),.lit (vI p0.frame),.sl (p0.channels.map (rL (rI .i64)))]]
def res_Lo (r:Za):FRes:=⟨[.v true [.lit (vI r.rate),.lit (vI r.bits),.lit (vI r.frame),.sl (r.channels.map (rL (rI .i64)))]],[]⟩
def as_Sh (p0:Za) (p1 p2:Int):List Arg:=[.v true [.lit (vI p0.rate),.lit (vI p0.bits),.lit (vI p0.frame),.sl (p0.channels.map (rL (rI .i64)))],.v false [.lit (vI p1)],.v false [.lit (vI p2)]]
def res_Sh (r:Bool):FRes:=⟨[.v false [.lit (.bool r)]],[]⟩
def as_Si (p0:Int) (p1:LI):List Arg:=[.v false [.lit (vI p0)],.v false [.sl (p1.map (rI .i64))]]
def res_Si (r:Bool):FRes:=⟨[.v false [.lit (.bool r)]],[]⟩
def as_Sd (p0:Za):List Arg:=[.v true [.lit (vI p0.rate),.lit (vI p0.bits),.lit (vI p0.frame),.sl (p0.channels.map (rL (rI .i64)))]]
def res_Sd (r:Bool):FRes:=⟨[.v false [.lit (.bool r)]],[]⟩
def as_So (p0:Zb) (p1:Int):List Arg:=[.m (.pt [.lit (.bool p0.high),.sl (p0.out.map (rI .u8)),.lit (vI p0.n)]),.v false [.lit (.int .u64 p1)]]
def res_So (r:Zb):FRes:=⟨[],[.pt [.lit (.bool r.high),.sl (r.out.map (rI .u8)),.lit (vI r.n)]]⟩
def as_Sr (p0:Zb) (p1 p2:Int):List Arg:=[.m (.pt [.lit (.bool p0.high),.sl (p0.out.map (rI .u8)),.lit (vI p0.n)]),.v false [.lit (vI p1)],.v false [.lit (.int .u64 p2)]]
def res_Sr (r:Zb):FRes:=⟨[],[.pt [.lit (.bool r.high),.sl (r.out.map (rI .u8)),.lit (vI r.n)]]⟩
def as_Sn (p0:Int) (p1 p2:LI):List Arg:=[.v false [.lit (vI p0)],.v false [.sl (p1.map (rI .i64))],.v false [.sl (p2.map (rI .i64))]]
def res_Sn (r:LI×LI):FRes:=⟨[.v false [.sl (r.1.map (rI .i64))],.v false [.sl (r.2.map (rI .i64))]],[]⟩
def as_Sl (p0 p1 p2:Int):List Arg:=[.v false [.lit (vI p0)],.v false [.lit (vI p1)],.v false [.lit (vI p2)]]
def res_Sl (r:Bool):FRes:=⟨[.v false [.lit (.bool r)]],[]⟩
def as_Sg (p0:Int) (p1:LI) (p2:Int):List Arg:=[.v false [.lit (vI p0)],.v false [.sl (p1.map (rI .i64))],.v false [.lit (vI p2)]]
def res_Sg (r:Int):FRes:=⟨[.v false [.lit (vI r)]],[]⟩
def as_Sm (p0:Int) (p1:LI):List Arg:=[.v false [.lit (vI p0)],.v false [.sl (p1.map (rI .i64))]]
def res_Sm (r:LI):FRes:=⟨[.v false [.sl (r.map (rI .i64))]],[]⟩
def as_Sk (p0:LI) (p1 p2 p3:Int):List Arg:=[.v false [.sl (p0.map (rI .i64))],.v false [.lit (vI p1)],.v false [.lit (vI p2)],.v false [.lit (vI p3)]]
def res_Sk (r:LI):FRes:=⟨[.v false [.sl (r.map (rI .i64))]],[]⟩
def as_Sc (p0:Int):List Arg:=[.v false [.lit (vI p0)]]
def res_Sc (r:Int):FRes:=⟨[.v false [.lit (.int .u64 r)]],[]⟩
def as_Sj (p0:Int) (p1:LI):List Arg:=[.v false [.lit (vI p0)],.v false [.sl (p1.map (rI .i64))]]
def res_Sj (r:Int):FRes:=⟨[.v false [.lit (vI r)]],[]⟩
def as_Se (p0:LI):List Arg:=[.v false [.sl (p0.map (rI .i64))]]
def res_Se (r:Zc×Int):FRes:=⟨[.v true [.lit (vI r.1.order),.lit (vI r.1.parts),.sl (r.1.keys.map (rI .i64))],.v false [.lit (vI r.2)]],[]⟩
def as_Ss (p0:Zb) (p1 p2:Int):List Arg:=[.m (.pt [.lit (.bool p0.high),.sl (p0.out.map (rI .u8)),.lit (vI p0.n)]),.v false [.lit (vI p1)],.v false [.lit (vI p2)]]
def res_Ss (r:Zb):FRes:=⟨[],[.pt [.lit (.bool r.high),.sl (r.out.map (rI .u8)),.lit (vI r.n)]]⟩
def as_Sq (p0:Zb) (p1:LI):List Arg:=[.m (.pt [.lit (.bool p0.high),.sl (p0.out.map (rI .u8)),.lit (vI p0.n)]),.v false [.sl (p1.map (rI .i64))]]
def res_Sq (r:Zb):FRes:=⟨[],[.pt [.lit (.bool r.high),.sl (r.out.map (rI .u8)),.lit (vI r.n)]]⟩
def as_Sp (p0:Zb):List Arg:=[.m (.pt [.lit (.bool p0.high),.sl (p0.out.map (rI .u8)),.lit (vI p0.n)])]
def res_Sp (r:Zb):FRes:=⟨[],[.pt [.lit (.bool r.high),.sl (r.out.map (rI .u8)),.lit (vI r.n)]]⟩
def as_Sa (p0:LI):List Arg:=[.v false [.sl (p0.map (rI .u8))]]
def res_Sa (r:Int):FRes:=⟨[.v false [.lit (.int .u32 r)]],[]⟩
def as_Sf (p0:(List LI)):List Arg:=[.v false [.sl (p0.map (rL (rI .i64)))]]
def res_Sf (r:LI):FRes:=⟨[.v false [.sl (r.map (rI .u8))]],[]⟩
def as_Sb (p0:Za):List Arg:=[.v true [.lit (vI p0.rate),.lit (vI p0.bits),.lit (vI p0.frame),.sl (p0.channels.map (rL (rI .i64)))]]
def res_Sb (r:LI):FRes:=⟨[.v false [.sl (r.map (rI .u8))]],[]⟩
def as_Ir (p0:LI) (p1 p2 p3:Int):List Arg:=[.v false [.sl (p0.map (rI .i64))],.v false [.lit (vI p1)],.v false [.lit (vI p2)],.v false [.lit (vI p3)]]
def res_Ir (r:Bool):FRes:=⟨[.v false [.lit (.bool r)]],[]⟩
def as_Ie (p0:Za):List Arg:=[.v true [.lit (vI p0.rate),.lit (vI p0.bits),.lit (vI p0.frame),.sl (p0.channels.map (rL (rI .i64)))]]
def res_Ie (r:Bool):FRes:=⟨[.v false [.lit (.bool r)]],[]⟩
def as_Ii (p0:Zd) (p1:Int):List Arg:=[.m (.pt [.sl (p0.b.map (rI .u8)),.lit (vI p0.n)]),.v false [.lit (vI p1)]]
def res_Ii (r:Zd):FRes:=⟨[],[.pt [.sl (r.b.map (rI .u8)),.lit (vI r.n)]]⟩
def as_Ij (p0:Zd) (p1 p2:Int):List Arg:=[.m (.pt [.sl (p0.b.map (rI .u8)),.lit (vI p0.n)]),.v false [.lit (vI p1)],.v false [.lit (.int .u64 p2)]]
def res_Ij (r:Zd):FRes:=⟨[],[.pt [.sl (r.b.map (rI .u8)),.lit (vI r.n)]]⟩
def as_Ip (p0:LI):List Arg:=[.v false [.sl (p0.map (rI .i64))]]
def res_Ip (r:Bool):FRes:=⟨[.v false [.lit (.bool r)]],[]⟩
def as_Il (p0:LI):List Arg:=[.v false [.sl (p0.map (rI .i64))]]
def res_Il (r:LI):FRes:=⟨[.v false [.sl (r.map (rI .i64))]],[]⟩
def as_Ih (p0:Int) (p1 p2:LI):List Arg:=[.v false [.lit (vI p0)],.v false [.sl (p1.map (rI .i64))],.v false [.sl (p2.map (rI .i64))]]
def res_Ih (r:LI×LI):FRes:=⟨[.v false [.sl (r.1.map (rI .i64))],.v false [.sl (r.2.map (rI .i64))]],[]⟩
def as_In (p0:Int) (p1:LI) (p2:Int):List Arg:=[.v false [.lit (vI p0)],.v false [.sl (p1.map (rI .i64))],.v false [.lit (vI p2)]]
def res_In (r:Int):FRes:=⟨[.v false [.lit (vI r)]],[]⟩
def as_Ig (p0:Int) (p1:LI):List Arg:=[.v false [.lit (vI p0)],.v false [.sl (p1.map (rI .i64))]]
def res_Ig (r:LI):FRes:=⟨[.v false [.sl (r.map (rI .i64))]],[]⟩
def as_Im (p0 p1 p2:Int):List Arg:=[.v false [.lit (vI p0)],.v false [.lit (vI p1)],.v false [.lit (vI p2)]]
def res_Im (r:Bool):FRes:=⟨[.v false [.lit (.bool r)]],[]⟩
def as_Iq (p0 p1:Int) (p2:LI) (p3:Int):List Arg:=[.v false [.lit (vI p0)],.v false [.lit (vI p1)],.v false [.sl (p2.map (rI .i64))],.v false [.lit (vI p3)]]
def res_Iq (r:LI):FRes:=⟨[.v false [.sl (r.map (rI .i64))]],[]⟩
def as_Id (p0:Int):List Arg:=[.v false [.lit (vI p0)]]
def res_Id (r:Int):FRes:=⟨[.v false [.lit (.int .u64 r)]],[]⟩
def as_Io (p0:Int) (p1:LI):List Arg:=[.v false [.lit (vI p0)],.v false [.sl (p1.map (rI .i64))]]
def res_Io (r:Int):FRes:=⟨[.v false [.lit (vI r)]],[]⟩
def as_Ia (p0:LI):List Arg:=[.v false [.sl (p0.map (rI .i64))]]
def res_Ia (r:Zc):FRes:=⟨[.v true [.lit (vI r.order),.lit (vI r.parts),.sl (r.keys.map (rI .i64))]],[]⟩
def as_If (p0:Zc) (p1:LI):List Arg:=[.v true [.lit (vI p0.order),.lit (vI p0.parts),.sl (p0.keys.map (rI .i64))],.v false [.sl (p1.map (rI .i64))]]
def res_If (r:Int):FRes:=⟨[.v false [.lit (vI r)]],[]⟩
def as_Ik (p0:Zd) (p1 p2:Int):List Arg:=[.m (.pt [.sl (p0.b.map (rI .u8)),.lit (vI p0.n)]),.v false [.lit (vI p1)],.v false [.lit (vI p2)]]
def res_Ik (r:Zd):FRes:=⟨[],[.pt [.sl (r.b.map (rI .u8)),.lit (vI r.n)]]⟩
def as_Ib (p0:LI):List Arg:=[.v false [.sl (p0.map (rI .u8))]]
def res_Ib (r:Int):FRes:=⟨[.v false [.lit (.int .u32 r)]],[]⟩
def as_Ic (p0:Za):List Arg:=[.v true [.lit (vI p0.rate),.lit (vI p0.bits),.lit (vI p0.frame),.sl (p0.channels.map (rL (rI .i64)))]]
def res_Ic (r:LI):FRes:=⟨[.v false [.sl (r.map (rI .u8))]],[]⟩
def as_La (p0 p1:LI):List Arg:=[.v false [.sl (p0.map (rI .u8))],.v false [.sl (p1.map (rI .u8))]]
def res_La (r:Bool):FRes:=⟨[.v false [.lit (.bool r)]],[]⟩
def as_Lb (p0 p1:LI):List Arg:=[.v false [.sl (p0.map (rI .i64))],.v false [.sl (p1.map (rI .i64))]]
def res_Lb (r:Bool):FRes:=⟨[.v false [.lit (.bool r)]],[]⟩
def as_Lc (p0:(List LI)) (p1:(List LI)):List Arg:=[.v false [.sl (p0.map (rL (rI .i64)))],.v false [.sl (p1.map (rL (rI .i64)))]]
def res_Lc (r:Bool):FRes:=⟨[.v false [.lit (.bool r)]],[]⟩
def as_Ld (p0 p1:Za):List Arg:=[.v true [.lit (vI p0.rate),.lit (vI p0.bits),.lit (vI p0.frame),.sl (p0.channels.map (rL (rI .i64)))],.v true [.lit (vI p1.rate),.lit (vI p1.bits),.lit (vI p1.frame),.sl (p1.channels.map (rL (rI .i64)))]]
def res_Ld (r:Bool):FRes:=⟨[.v false [.lit (.bool r)]],[]⟩
def as_Lg (p0:LI) (p1:Int):List Arg:=[.m (.sl (p0.map (rI .i64))),.v false [.lit (vI p1)]]
def res_Lg (r:Int×LI):FRes:=⟨[.v false [.lit (vI r.1)]],[.sl (r.2.map (rI .i64))]⟩
def as_Lh (p0:(List LI)) (p1:Int):List Arg:=[.m (.sl (p0.map (rL (rI .i64)))),.v false [.lit (vI p1)]]
def res_Lh (r:Int×(List LI)):FRes:=⟨[.v false [.lit (vI r.1)]],[.sl (r.2.map (rL (rI .i64)))]⟩
def as_Li (p0:Za) (p1:Int):List Arg:=[.v true [.lit (vI p0.rate),.lit (vI p0.bits),.lit (vI p0.frame),.sl (p0.channels.map (rL (rI .i64)))],.v false [.lit (vI p1)]]
def res_Li (r:Int×Za):FRes:=⟨[.v false [.lit (vI r.1)]],[.sl (r.2.channels.map (rL (rI .i64)))]⟩
def as_Lf (p0:LI) (p1:Int):List Arg:=[.m (.sl (p0.map (rI .u8))),.v false [.lit (vI p1)]]
def res_Lf (r:Int×LI):FRes:=⟨[.v false [.lit (vI r.1)]],[.sl (r.2.map (rI .u8))]⟩
def as_Le (p0:LI) (p1:Int):List Arg:=[.v false [.sl (p0.map (rI .u8))],.v false [.lit (vI p1)]]
def res_Le (r:Int):FRes:=⟨[.v false [.lit (vI r)]],[]⟩
def as_laws_FnExactEncodeSound (p0:Za):List Arg:=[.v true [.lit (vI p0.rate),.lit (vI p0.bits),.lit (vI p0.frame),.sl (p0.channels.map (rL (rI .i64)))]]
def res_laws_FnExactEncodeSound (r:Bool):FRes:=⟨[.v false [.lit (.bool r)]],[]⟩
def K_Lj_0:List Fr:=[]
def s_Lj_0 (p0:LI) (p1:Int):St:=
 ⟨mkSl 12 [(0,.v false [.ro [.sc] (p0.map (rI .i64))]),(1,sI p1)],[],[]⟩
def K_Lk_35:List Fr:=[]
def s_Lk_35 (a:Int):St:=
 ⟨mkSl 27 [(1,sI a)],[],[]⟩
def K_Lk_17:List Fr:=[.lp [0,1,5] c_Lk_17,.bk 0,.sq (.kp [1] c_Lk_35)]
def s_Lk_17 (p0:(List LI)) (a b:Int):St:=
 ⟨mkSl 27 [(0,.v false [.ro [.ro [.sc]] (p0.map (rL (rI .i64)))]),(1,sI a),(5,sI b)],[],[]⟩
def K_Lk_0:List Fr:=[]
def s_Lk_0 (p0:(List LI)) (p1:Int):St:=
 ⟨mkSl 27 [(0,.v false [.ro [.ro [.sc]] (p0.map (rL (rI .i64)))]),(1,sI p1)],[],[]⟩
def K_Ll_0:List Fr:=[]
def s_Ll_0 (p0:Za) (p1:Int):St:=
 ⟨mkSl 12 [(0,.v true [cI p0.rate,cI p0.bits,cI p0.frame,.ro [.ro [.sc]] (p0.channels.map (rL (rI .i64)))]),(1,sI p1)],[],[]⟩
def K_Lm_19:List Fr:=[]
def s_Lm_19 (a:LI):St:=
 ⟨mkSl 22 [(3,.v false [cR 0 a])],[jI a],[]⟩
def K_Lm_9:List Fr:=[.lp [0,3,4] c_Lm_9,.bk 0,.sq (.kp [3] c_Lm_19)]
def s_Lm_9 (p0:LI) (b:Int) (a:LI):St:=
 ⟨mkSl 22 [(0,.v false [.ro [.sc] (p0.map (rI .i64))]),(3,.v false [cR 0 a]),(4,sI b)],[jI a],[]⟩
def K_Lm_0:List Fr:=[]
def s_Lm_0 (p0:LI):St:=
 ⟨mkSl 22 [(0,.v false [.ro [.sc] (p0.map (rI .i64))])],[],[]⟩
def K_Ln_19:List Fr:=[]
def s_Ln_19 (a:(List LI)):St:=
 ⟨mkSl 23 [(3,.v false [cR 0 a])],[some ⟨[.own [.sc]],(List.map (rL (rI .i64)) a)⟩],[]⟩
def K_Ln_9:List Fr:=[.lp [0,3,4] c_Ln_9,.bk 0,.sq (.kp [3] c_Ln_19)]
def s_Ln_9 (p0:(List LI)) (b:Int) (a:(List LI)):St:=
 ⟨mkSl 23 [(0,.v false [.ro [.ro [.sc]] (p0.map (rL (rI .i64)))]),(3,.v false [cR 0 a]),(4,sI b)],[some ⟨[.own [.sc]],(List.map (rL (rI .i64)) a)⟩],[]⟩
def K_Ln_0:List Fr:=[]
def s_Ln_0 (p0:(List LI)):St:=
 ⟨mkSl 23 [(0,.v false [.ro [.ro [.sc]] (p0.map (rL (rI .i64)))])],[],[]⟩
def K_Lo_0:List Fr:=[]
def s_Lo_0 (p0:Za):St:=
 ⟨mkSl 18 [(0,.v true [cI p0.rate,cI p0.bits,cI p0.frame,.ro [.ro [.sc]] (p0.channels.map (rL (rI .i64)))])],[],[]⟩
def K_Sh_0:List Fr:=[]
def s_Sh_0 (p0:Za) (p1 p2:Int):St:=
 ⟨mkSl 45 [(0,.v true [cI p0.rate,cI p0.bits,cI p0.frame,.ro [.ro [.sc]] (p0.channels.map (rL (rI .i64)))]),(1,sI p1),(2,sI p2)],[],[]⟩
def K_Si_27:List Fr:=[]
def s_Si_27:St:=
 ⟨mkSl 28 [],[],[]⟩
def K_Si_9:List Fr:=[.lp [5,12,13,14] c_Si_9,.bk 0,.sq (.kp [] c_Si_27)]
def s_Si_9 (p1:LI) (a b:Int):St:=
 ⟨mkSl 28 [(5,sI a),(12,.v false [.ro [.sc] (p1.map (rI .i64))]),(13,sI (p1.length:Int)),(14,sI b)],[],[]⟩
def K_Si_0:List Fr:=[]
def s_Si_0 (p0:Int) (p1:LI):St:=
 ⟨mkSl 28 [(0,sI p0),(1,.v false [.ro [.sc] (p1.map (rI .i64))])],[],[]⟩
def K_Sd_33:List Fr:=[]
def s_Sd_33:St:=
 ⟨mkSl 45 [],[],[]⟩
def K_Sd_15:List Fr:=[.lp [1,23,24,25] c_Sd_15,.bk 0,.sq (.kp [] c_Sd_33)]
def s_Sd_15 (p0:Za) (a:Int):St:=
 ⟨mkSl 45 [(1,sP 0 0),(23,.v false [.ro [.ro [.sc]] (p0.channels.map (rL (rI .i64)))]),(24,sI (p0.channels.length:Int)),(25,sI a)],[],[some [cI p0.rate,cI p0.bits,cI p0.frame,.ro [.ro [.sc]] (p0.channels.map (rL (rI .i64)))]]⟩
def K_Sd_0:List Fr:=[]
def s_Sd_0 (p0:Za):St:=
 ⟨mkSl 45 [(0,.v true [cI p0.rate,cI p0.bits,cI p0.frame,.ro [.ro [.sc]] (p0.channels.map (rL (rI .i64)))])],[],[]⟩
def K_So_18:List Fr:=[.sq c_So_20]
def s_So_18 (p0:Zb) (a:LI) (b:Int):St:=
 ⟨mkSl 56 [(0,sP 0 0),(4,.v false [.lit (.int .u64 b)])],[some ⟨[.sc],(List.map (rI .u8) a)⟩],[some [cB p0.high,cR 0 a,cI p0.n]]⟩
def K_So_6:List Fr:=[]
def s_So_6 (p1:Int) (p0:Zb) (a:LI):St:=
 ⟨mkSl 56 [(0,sP 0 0),(1,.v false [.lit (.int .u64 p1)])],[some ⟨[.sc],(List.map (rI .u8) a)⟩],[some [cB p0.high,cR 0 a,cI p0.n]]⟩
def K_So_0:List Fr:=[]
def s_So_0 (p1:Int) (p0:Zb):St:=
 ⟨mkSl 56 [(0,sP 0 0),(1,.v false [.lit (.int .u64 p1)])],[some ⟨[.sc],(List.map (rI .u8) p0.out)⟩],[some [cB p0.high,cR 0 p0.out,cI p0.n]]⟩
def K_Sr_20:List Fr:=[.bk 1,.sq c_Sr_21,.lp [0,1,2,6] c_Sr_4,.bk 0]
def s_Sr_20 (p1 p2 b:Int) (c:Bool) (d:Int) (a:LI) (e:Int):St:=
 ⟨mkSl 30 [(0,sP 0 0),(1,sI p1),(2,.v false [.lit (.int .u64 p2)]),(6,sI b),(7,.v false [.lit (.int .u64 e)])],[some ⟨[.sc],(List.map (rI .u8) a)⟩],[some [cB c,cR 0 a,cI d]]⟩
def K_Sr_4:List Fr:=[.lp [0,1,2,6] c_Sr_4,.bk 0]
def s_Sr_4 (p1 p2 b:Int) (c:Bool) (d:Int) (a:LI):St:=
 ⟨mkSl 30 [(0,sP 0 0),(1,sI p1),(2,.v false [.lit (.int .u64 p2)]),(6,sI b)],[some ⟨[.sc],(List.map (rI .u8) a)⟩],[some [cB c,cR 0 a,cI d]]⟩
def K_Sr_0:List Fr:=[]
def s_Sr_0 (p1 p2:Int) (p0:Zb):St:=
 ⟨mkSl 30 [(0,sP 0 0),(1,sI p1),(2,.v false [.lit (.int .u64 p2)])],[some ⟨[.sc],(List.map (rI .u8) p0.out)⟩],[some [cB p0.high,cR 0 p0.out,cI p0.n]]⟩
def K_Sn_31:List Fr:=[.bk 1,.sq c_Sn_36,.lp [0,1,2,8,9,18,19] c_Sn_11,.bk 0,.sq (.kp [8,9] c_Sn_37)]
def s_Sn_31 (p0:Int) (p1 p2:LI) (a:Int) (b c:LI):St:=
 ⟨mkSl 68 [(0,sI p0),(1,.v false [.ro [.sc] (p1.map (rI .i64))]),(2,.v false [.ro [.sc] (p2.map (rI .i64))]),(8,.v false [cR 0 b]),(9,.v false [cR 1 c]),(10,sI a),(18,sI (p1.length:Int)),(19,sI a)],[jI b,jI c],[]⟩
def K_Sn_37:List Fr:=[]
def s_Sn_37 (a b:LI):St:=
 ⟨mkSl 68 [(8,.v false [cR 0 a]),(9,.v false [cR 1 b])],[jI a,jI b],[]⟩
def K_Sn_11:List Fr:=[.lp [0,1,2,8,9,18,19] c_Sn_11,.bk 0,.sq (.kp [8,9] c_Sn_37)]
def s_Sn_11 (p0:Int) (p1 p2:LI) (c:Int) (a b:LI):St:=
 ⟨mkSl 68 [(0,sI p0),(1,.v false [.ro [.sc] (p1.map (rI .i64))]),(2,.v false [.ro [.sc] (p2.map (rI .i64))]),(8,.v false [cR 0 a]),(9,.v false [cR 1 b]),(18,sI (p1.length:Int)),(19,sI c)],[jI a,jI b],[]⟩
def K_Sn_0:List Fr:=[]
def s_Sn_0 (p0:Int) (p1 p2:LI):St:=
 ⟨mkSl 68 [(0,sI p0),(1,.v false [.ro [.sc] (p1.map (rI .i64))]),(2,.v false [.ro [.sc] (p2.map (rI .i64))])],[],[]⟩
def K_Sl_0:List Fr:=[]
def s_Sl_0 (p0 p1 p2:Int):St:=
 ⟨mkSl 40 [(0,sI p0),(1,sI p1),(2,sI p2)],[],[]⟩
def K_Sg_0:List Fr:=[]
def s_Sg_0 (p0:Int) (p1:LI) (p2:Int):St:=
 ⟨mkSl 78 [(0,sI p0),(1,.v false [.ro [.sc] (p1.map (rI .i64))]),(2,sI p2)],[],[]⟩
def K_Sm_27:List Fr:=[]
def s_Sm_27 (a:LI):St:=
 ⟨mkSl 37 [(5,.v false [cR 0 a])],[jI a],[]⟩
def K_Sm_9:List Fr:=[.lp [0,1,5,11,12] c_Sm_9,.bk 0,.sq (.kp [5] c_Sm_27)]
def s_Sm_9 (p0:Int) (p1:LI) (b:Int) (a:LI):St:=
 ⟨mkSl 37 [(0,sI p0),(1,.v false [.ro [.sc] (p1.map (rI .i64))]),(5,.v false [cR 0 a]),(11,sI (p1.length:Int)),(12,sI b)],[jI a],[]⟩
def K_Sm_0:List Fr:=[]
def s_Sm_0 (p0:Int) (p1:LI):St:=
 ⟨mkSl 37 [(0,sI p0),(1,.v false [.ro [.sc] (p1.map (rI .i64))])],[],[]⟩
def K_Sk_0:List Fr:=[]
def s_Sk_0 (p0:LI) (p1 p2 p3:Int):St:=
 ⟨mkSl 31 [(0,.v false [.ro [.sc] (p0.map (rI .i64))]),(1,sI p1),(2,sI p2),(3,sI p3)],[],[]⟩
def K_Sc_0:List Fr:=[]
def s_Sc_0 (p0:Int):St:=
 ⟨mkSl 14 [(0,sI p0)],[],[]⟩
def K_Sj_25:List Fr:=[]
def s_Sj_25 (a:Int):St:=
 ⟨mkSl 31 [(5,sI a)],[],[]⟩
def K_Sj_9:List Fr:=[.lp [0,5,8,9,10] c_Sj_9,.bk 0,.sq (.kp [5] c_Sj_25)]
def s_Sj_9 (p0:Int) (p1:LI) (a b:Int):St:=
 ⟨mkSl 31 [(0,sI p0),(5,sI a),(8,.v false [.ro [.sc] (p1.map (rI .i64))]),(9,sI (p1.length:Int)),(10,sI b)],[],[]⟩
def K_Sj_0:List Fr:=[]
def s_Sj_0 (p0:Int) (p1:LI):St:=
 ⟨mkSl 31 [(0,sI p0),(1,.v false [.ro [.sc] (p1.map (rI .i64))])],[],[]⟩
def K_Se_85:List Fr:=[.bk 5,.sq c_Se_88,.lp [0,2,4,5,6,7,8,9,10,11] c_Se_48,.bk 4,.sq (.kp [0,2,4,5,6,7,9,10] c_Se_89),.bk 3,.sq c_Se_96,.lp [0,2,4,5,6,7] c_Se_23,.bk 2,.bk 1,.sq (.kp [0,2,4,5,6] c_Se_97),.lp [0,2,4,5,6] c_Se_11,.bk 0,.sq (.kp [2,4,5] c_Se_98)]
def s_Se_85 (p0:LI) (e a b:Int) (f:LI) (g h i j:Int) (c d:LI) (k l:Int):St:=
 ⟨mkSl 87 [(0,.v false [.ro [.sc] (p0.map (rI .i64))]),(2,sP 0 0),(4,sP 1 0),(5,sI e),(6,sI a),(7,sI b),(8,.v false [.ro [.sc] (f.map (rI .i64))]),(9,sP 2 0),(10,sI g),(11,sI h),(13,sI k),(14,sI l)],[some ⟨[.sc],(mi ([]:LI))⟩,jI c,jI d],[some [cI 0,cI 0,.ref 0 [] 0 (([]:LI).length)],some [cI i,cI j,cR 1 c],some [cI a,cI b,cR 2 d]]⟩
def K_Se_67:List Fr:=[.lp [0,2,4,5,6,7,8,9,10,11,12,13,14,15] c_Se_67,.bk 6,.sq (.kp [0,2,4,5,6,7,8,9,10,11,13,14] c_Se_85),.bk 5,.sq c_Se_88,.lp [0,2,4,5,6,7,8,9,10,11] c_Se_48,.bk 4,.sq (.kp [0,2,4,5,6,7,9,10] c_Se_89),.bk 3,.sq c_Se_96,.lp [0,2,4,5,6,7] c_Se_23,.bk 2,.bk 1,.sq (.kp [0,2,4,5,6] c_Se_97),.lp [0,2,4,5,6] c_Se_11,.bk 0,.sq (.kp [2,4,5] c_Se_98)]
def s_Se_67 (p0:LI) (e a b:Int) (f:LI) (g h:Int) (i:LI) (j k:Int) (c d:LI) (l m n:Int):St:=
 ⟨mkSl 87 [(0,.v false [.ro [.sc] (p0.map (rI .i64))]),(2,sP 0 0),(4,sP 1 0),(5,sI e),(6,sI a),(7,sI b),(8,.v false [.ro [.sc] (f.map (rI .i64))]),(9,sP 2 0),(10,sI g),(11,sI h),(12,.v false [.ro [.sc] (i.map (rI .i64))]),(13,sI l),(14,sI m),(15,sI n)],[some ⟨[.sc],(mi ([]:LI))⟩,jI c,jI d],[some [cI 0,cI 0,.ref 0 [] 0 (([]:LI).length)],some [cI j,cI k,cR 1 c],some [cI a,cI b,cR 2 d]]⟩
def K_Se_91:List Fr:=[.bk 3,.sq c_Se_96,.lp [0,2,4,5,6,7] c_Se_23,.bk 2,.bk 1,.sq (.kp [0,2,4,5,6] c_Se_97),.lp [0,2,4,5,6] c_Se_11,.bk 0,.sq (.kp [2,4,5] c_Se_98)]
def s_Se_91 (p0:LI) (e a b f g h:Int) (c d:LI) (i:Bool):St:=
 ⟨mkSl 87 [(0,.v false [.ro [.sc] (p0.map (rI .i64))]),(2,sP 0 0),(4,sP 1 0),(5,sI e),(6,sI a),(7,sI b),(9,sP 2 0),(10,sI f),(82,sB i)],[some ⟨[.sc],(mi ([]:LI))⟩,jI c,jI d],[some [cI 0,cI 0,.ref 0 [] 0 (([]:LI).length)],some [cI g,cI h,cR 1 c],some [cI a,cI b,cR 2 d]]⟩
def K_Se_89:List Fr:=[.bk 3,.sq c_Se_96,.lp [0,2,4,5,6,7] c_Se_23,.bk 2,.bk 1,.sq (.kp [0,2,4,5,6] c_Se_97),.lp [0,2,4,5,6] c_Se_11,.bk 0,.sq (.kp [2,4,5] c_Se_98)]
def s_Se_89 (p0:LI) (e a b f g:Int) (c:LI) (h:Int) (d:LI):St:=
 ⟨mkSl 87 [(0,.v false [.ro [.sc] (p0.map (rI .i64))]),(2,sP 0 0),(4,sP 1 0),(5,sI e),(6,sI a),(7,sI b),(9,sP 2 0),(10,sI h)],[some ⟨[.sc],(mi ([]:LI))⟩,jI c,jI d],[some [cI 0,cI 0,.ref 0 [] 0 (([]:LI).length)],some [cI f,cI g,cR 1 c],some [cI a,cI b,cR 2 d]]⟩
def K_Se_48:List Fr:=[.lp [0,2,4,5,6,7,8,9,10,11] c_Se_48,.bk 4,.sq (.kp [0,2,4,5,6,7,9,10] c_Se_89),.bk 3,.sq c_Se_96,.lp [0,2,4,5,6,7] c_Se_23,.bk 2,.bk 1,.sq (.kp [0,2,4,5,6] c_Se_97),.lp [0,2,4,5,6] c_Se_11,.bk 0,.sq (.kp [2,4,5] c_Se_98)]
def s_Se_48 (p0:LI) (e a b:Int) (f:LI) (g h:Int) (c:LI) (i j:Int) (d:LI):St:=
 ⟨mkSl 87 [(0,.v false [.ro [.sc] (p0.map (rI .i64))]),(2,sP 0 0),(4,sP 1 0),(5,sI e),(6,sI a),(7,sI b),(8,.v false [.ro [.sc] (f.map (rI .i64))]),(9,sP 2 0),(10,sI i),(11,sI j)],[some ⟨[.sc],(mi ([]:LI))⟩,jI c,jI d],[some [cI 0,cI 0,.ref 0 [] 0 (([]:LI).length)],some [cI g,cI h,cR 1 c],some [cI a,cI b,cR 2 d]]⟩
def K_Se_97:List Fr:=[.lp [0,2,4,5,6] c_Se_11,.bk 0,.sq (.kp [2,4,5] c_Se_98)]
def s_Se_97 (p0:LI) (b c d e:Int) (a:LI):St:=
 ⟨mkSl 87 [(0,.v false [.ro [.sc] (p0.map (rI .i64))]),(2,sP 0 0),(4,sP 1 0),(5,sI c),(6,sI b)],[some ⟨[.sc],(mi ([]:LI))⟩,jI a],[some [cI 0,cI 0,.ref 0 [] 0 (([]:LI).length)],some [cI d,cI e,cR 1 a]]⟩
def K_Se_23:List Fr:=[.lp [0,2,4,5,6,7] c_Se_23,.bk 2,.bk 1,.sq (.kp [0,2,4,5,6] c_Se_97),.lp [0,2,4,5,6] c_Se_11,.bk 0,.sq (.kp [2,4,5] c_Se_98)]
def s_Se_23 (p0:LI) (b c d e f:Int) (a:LI):St:=
 ⟨mkSl 87 [(0,.v false [.ro [.sc] (p0.map (rI .i64))]),(2,sP 0 0),(4,sP 1 0),(5,sI c),(6,sI b),(7,sI d)],[some ⟨[.sc],(mi ([]:LI))⟩,jI a],[some [cI 0,cI 0,.ref 0 [] 0 (([]:LI).length)],some [cI e,cI f,cR 1 a]]⟩
def K_Se_98:List Fr:=[]
def s_Se_98 (b c d:Int) (a:LI):St:=
 ⟨mkSl 87 [(2,sP 0 0),(4,sP 1 0),(5,sI b)],[some ⟨[.sc],(mi ([]:LI))⟩,jI a],[some [cI 0,cI 0,.ref 0 [] 0 (([]:LI).length)],some [cI c,cI d,cR 1 a]]⟩
def K_Se_11:List Fr:=[.lp [0,2,4,5,6] c_Se_11,.bk 0,.sq (.kp [2,4,5] c_Se_98)]
def s_Se_11 (p0:LI) (b c d e:Int) (a:LI):St:=
 ⟨mkSl 87 [(0,.v false [.ro [.sc] (p0.map (rI .i64))]),(2,sP 0 0),(4,sP 1 0),(5,sI b),(6,sI c)],[some ⟨[.sc],(mi ([]:LI))⟩,jI a],[some [cI 0,cI 0,.ref 0 [] 0 (([]:LI).length)],some [cI d,cI e,cR 1 a]]⟩
def K_Se_0:List Fr:=[]
def s_Se_0 (p0:LI):St:=
 ⟨mkSl 87 [(0,.v false [.ro [.sc] (p0.map (rI .i64))])],[],[]⟩
def K_Ss_25:List Fr:=[]
def s_Ss_25 (p1 b:Int) (c:Bool) (d:Int) (a:LI):St:=
 ⟨mkSl 32 [(0,sP 0 0),(1,sI p1),(6,.v false [.lit (.int .u64 b)])],[some ⟨[.sc],(List.map (rI .u8) a)⟩],[some [cB c,cR 0 a,cI d]]⟩
def K_Ss_15:List Fr:=[.lp [0,1,6,7] c_Ss_15,.bk 0,.sq (.kp [0,1,6] c_Ss_25)]
def s_Ss_15 (p1 b c:Int) (d:Bool) (e:Int) (a:LI):St:=
 ⟨mkSl 32 [(0,sP 0 0),(1,sI p1),(6,.v false [.lit (.int .u64 b)]),(7,.v false [.lit (.int .u64 c)])],[some ⟨[.sc],(List.map (rI .u8) a)⟩],[some [cB d,cR 0 a,cI e]]⟩
def K_Ss_0:List Fr:=[]
def s_Ss_0 (p1 p2:Int) (p0:Zb):St:=
 ⟨mkSl 32 [(0,sP 0 0),(1,sI p1),(2,sI p2)],[some ⟨[.sc],(List.map (rI .u8) p0.out)⟩],[some [cB p0.high,cR 0 p0.out,cI p0.n]]⟩
def K_Sq_55:List Fr:=[.lp [0,4,6,45,46,47] c_Sq_27,.bk 2]
def s_Sq_55 (c:LI) (a:Zc×Int) (d:Int) (e:Bool) (f:Int) (b:LI):St:=
 ⟨mkSl 74 [(0,sP 0 0),(4,sP 1 0),(6,.v false [.ro [.sc] (c.map (rI .i64))]),(45,.v false [cR 0 a.1.keys]),(46,sI (a.1.keys.length:Int)),(47,sI d)],[jI a.1.keys,some ⟨[.sc],(List.map (rI .u8) b)⟩],[some [cB e,cR 1 b,cI f],some [cI a.1.order,cI a.1.parts,cR 0 a.1.keys]]⟩
def K_Sq_43:List Fr:=[.lp [0,4,6,9,45,46,47,62,63,64] c_Sq_43,.bk 4,.bk 3,.sq (.kp [0,4,6,45,46,47] c_Sq_55),.lp [0,4,6,45,46,47] c_Sq_27,.bk 2]
def s_Sq_43 (d:LI) (e:Int) (a:Zc×Int) (f:Int) (b:LI) (g:Int) (h:Bool) (i:Int) (c:LI):St:=
 ⟨mkSl 74 [(0,sP 0 0),(4,sP 1 0),(6,.v false [.ro [.sc] (d.map (rI .i64))]),(9,sI e),(45,.v false [cR 0 a.1.keys]),(46,sI (a.1.keys.length:Int)),(47,sI f),(62,.v false [.ro [.sc] (b.map (rI .i64))]),(63,sI (b.length:Int)),(64,sI g)],[jI a.1.keys,some ⟨[.sc],(List.map (rI .u8) c)⟩],[some [cB h,cR 1 c,cI i],some [cI a.1.order,cI a.1.parts,cR 0 a.1.keys]]⟩
def K_Sq_27:List Fr:=[.lp [0,4,6,45,46,47] c_Sq_27,.bk 2]
def s_Sq_27 (c:LI) (a:Zc×Int) (d:Int) (e:Bool) (f:Int) (b:LI):St:=
 ⟨mkSl 74 [(0,sP 0 0),(4,sP 1 0),(6,.v false [.ro [.sc] (c.map (rI .i64))]),(45,.v false [cR 0 a.1.keys]),(46,sI (a.1.keys.length:Int)),(47,sI d)],[jI a.1.keys,some ⟨[.sc],(List.map (rI .u8) b)⟩],[some [cB e,cR 1 b,cI f],some [cI a.1.order,cI a.1.parts,cR 0 a.1.keys]]⟩
def K_Sq_21:List Fr:=[]
def s_Sq_21 (a:Zc×Int) (b:LI) (d:Bool) (e:Int) (c:LI):St:=
 ⟨mkSl 74 [(0,sP 0 0),(4,sP 1 0),(6,.v false [cR 0 b])],[jI b,some ⟨[.sc],(List.map (rI .u8) c)⟩,jI a.1.keys],[some [cB d,cR 1 c,cI e],some [cI a.1.order,cI a.1.parts,cR 2 a.1.keys]]⟩
def K_Sq_11:List Fr:=[.lp [0,1,4,6,7] c_Sq_11,.bk 0,.sq (.kp [0,4,6] c_Sq_21)]
def s_Sq_11 (p1:LI) (a:Zc×Int) (b:LI) (d:Int) (e:Bool) (f:Int) (c:LI):St:=
 ⟨mkSl 74 [(0,sP 0 0),(1,.v false [.ro [.sc] (p1.map (rI .i64))]),(4,sP 1 0),(6,.v false [cR 0 b]),(7,sI d)],[jI b,some ⟨[.sc],(List.map (rI .u8) c)⟩,jI a.1.keys],[some [cB e,cR 1 c,cI f],some [cI a.1.order,cI a.1.parts,cR 2 a.1.keys]]⟩
def K_Sq_0:List Fr:=[]
def s_Sq_0 (p1:LI) (p0:Zb):St:=
 ⟨mkSl 74 [(0,sP 0 0),(1,.v false [.ro [.sc] (p1.map (rI .i64))])],[some ⟨[.sc],(List.map (rI .u8) p0.out)⟩],[some [cB p0.high,cR 0 p0.out,cI p0.n]]⟩
def K_Sp_2:List Fr:=[.lp [0] c_Sp_2,.bk 0]
def s_Sp_2 (b:Bool) (c:Int) (a:LI):St:=
 ⟨mkSl 10 [(0,sP 0 0)],[some ⟨[.sc],(List.map (rI .u8) a)⟩],[some [cB b,cR 0 a,cI c]]⟩
def K_Sp_0:List Fr:=[]
def s_Sp_0 (p0:Zb):St:=
 ⟨mkSl 10 [(0,sP 0 0)],[some ⟨[.sc],(List.map (rI .u8) p0.out)⟩],[some [cB p0.high,cR 0 p0.out,cI p0.n]]⟩
def K_Sa_43:List Fr:=[.lp [3,8,9,10] c_Sa_9,.bk 0,.sq (.kp [3] c_Sa_44)]
def s_Sa_43 (p0:LI) (a b:Int):St:=
 ⟨mkSl 33 [(3,.v false [.lit (.int .u32 b)]),(8,.v false [.ro [.sc] (p0.map (rI .u8))]),(9,sI (p0.length:Int)),(10,sI a)],[],[]⟩
def K_Sa_25:List Fr:=[.lp [3,6,8,9,10] c_Sa_25,.bk 2,.bk 1,.sq (.kp [3,8,9,10] c_Sa_43),.lp [3,8,9,10] c_Sa_9,.bk 0,.sq (.kp [3] c_Sa_44)]
def s_Sa_25 (p0:LI) (a b c:Int):St:=
 ⟨mkSl 33 [(3,.v false [.lit (.int .u32 b)]),(6,sI c),(8,.v false [.ro [.sc] (p0.map (rI .u8))]),(9,sI (p0.length:Int)),(10,sI a)],[],[]⟩
def K_Sa_44:List Fr:=[]
def s_Sa_44 (a:Int):St:=
 ⟨mkSl 33 [(3,.v false [.lit (.int .u32 a)])],[],[]⟩
def K_Sa_9:List Fr:=[.lp [3,8,9,10] c_Sa_9,.bk 0,.sq (.kp [3] c_Sa_44)]
def s_Sa_9 (p0:LI) (a b:Int):St:=
 ⟨mkSl 33 [(3,.v false [.lit (.int .u32 a)]),(8,.v false [.ro [.sc] (p0.map (rI .u8))]),(9,sI (p0.length:Int)),(10,sI b)],[],[]⟩
def K_Sa_0:List Fr:=[]
def s_Sa_0 (p0:LI):St:=
 ⟨mkSl 33 [(0,.v false [.ro [.sc] (p0.map (rI .u8))])],[],[]⟩
def K_Sf_31:List Fr:=[.bk 1,.sq c_Sf_36,.lp [0,3,4,5] c_Sf_15,.bk 0,.sq (.kp [0,3] c_Sf_37),.sq c_Sf_41]
def s_Sf_31 (p0:(List LI)) (a b c:Int) (d:Zc×Int) (e:Zc×Int) (f:Bool):St:=
 ⟨mkSl 107 [(0,.v false [.ro [.ro [.sc]] (p0.map (rL (rI .i64)))]),(3,sI a),(4,sI b),(5,sI c),(9,sI d.2),(11,sI e.2),(54,sB f)],[],[]⟩
def K_Sf_62:List Fr:=[]
def s_Sf_62 (b:Bool) (c:Int) (a:LI):St:=
 ⟨mkSl 107 [(14,sP 0 0)],[some ⟨[.sc],(List.map (rI .u8) a)⟩],[some [cB b,cR 0 a,cI c]]⟩
def K_Sf_50:List Fr:=[.lp [14,79,80,81] c_Sf_50,.bk 2,.sq (.kp [14] c_Sf_62)]
def s_Sf_50 (b:(List LI)) (c d:Int) (e:Bool) (f:Int) (a:LI):St:=
 ⟨mkSl 107 [(14,sP 0 0),(79,.v false [.ro [.ro [.sc]] (b.map (rL (rI .i64)))]),(80,sI c),(81,sI d)],[some ⟨[.sc],(List.map (rI .u8) a)⟩],[some [cB e,cR 0 a,cI f]]⟩
def K_Sf_37:List Fr:=[.sq c_Sf_41]
def s_Sf_37 (p0:(List LI)) (a:Int):St:=
 ⟨mkSl 107 [(0,.v false [.ro [.ro [.sc]] (p0.map (rL (rI .i64)))]),(3,sI a)],[],[]⟩
def K_Sf_15:List Fr:=[.lp [0,3,4,5] c_Sf_15,.bk 0,.sq (.kp [0,3] c_Sf_37),.sq c_Sf_41]
def s_Sf_15 (p0:(List LI)) (a b c:Int):St:=
 ⟨mkSl 107 [(0,.v false [.ro [.ro [.sc]] (p0.map (rL (rI .i64)))]),(3,sI a),(4,sI b),(5,sI c)],[],[]⟩
def K_Sf_0:List Fr:=[]
def s_Sf_0 (p0:(List LI)):St:=
 ⟨mkSl 107 [(0,.v false [.ro [.ro [.sc]] (p0.map (rL (rI .i64)))])],[],[]⟩
def K_Sb_66:List Fr:=[.bk 1,.sq c_Sb_67,.lp [1,3,5,6] c_Sb_31,.bk 0,.sq (.kp [5] c_Sb_68)]
def s_Sb_66 (c:LI) (d:Int) (p0:Za) (a:LI) (b:(List LI)):St:=
 ⟨mkSl 91 [(1,sP 0 0),(3,sI (c.length:Int)),(5,.v false [cR 0 a]),(6,sI d),(8,.v false [cR 1 b])],[some ⟨[.sc],(List.map (rI .u8) a)⟩,some ⟨[.ro [.sc]],(List.map (rL (rI .i64)) b)⟩],[some [cI p0.rate,cI p0.bits,cI p0.frame,.ro [.ro [.sc]] (p0.channels.map (rL (rI .i64)))]]⟩
def K_Sb_54:List Fr:=[.lp [1,3,5,6,7,8,69,70,71] c_Sb_54,.bk 2,.sq (.kp [1,3,5,6,8] c_Sb_66),.bk 1,.sq c_Sb_67,.lp [1,3,5,6] c_Sb_31,.bk 0,.sq (.kp [5] c_Sb_68)]
def s_Sb_54 (c:LI) (d e:Int) (p0:Za) (a:LI) (f:Int) (b:(List LI)):St:=
 ⟨mkSl 91 [(1,sP 0 0),(3,sI (c.length:Int)),(5,.v false [cR 0 a]),(6,sI d),(7,sI e),(8,.v false [cR 1 b]),(69,.v false [.ro [.ro [.sc]] (p0.channels.map (rL (rI .i64)))]),(70,sI (p0.channels.length:Int)),(71,sI f)],[some ⟨[.sc],(List.map (rI .u8) a)⟩,some ⟨[.ro [.sc]],(List.map (rL (rI .i64)) b)⟩],[some [cI p0.rate,cI p0.bits,cI p0.frame,.ro [.ro [.sc]] (p0.channels.map (rL (rI .i64)))]]⟩
def K_Sb_47:List Fr:=[.bk 1,.sq c_Sb_67,.lp [1,3,5,6] c_Sb_31,.bk 0,.sq (.kp [5] c_Sb_68)]
def s_Sb_47 (b:LI) (c:Int) (p0:Za) (a:LI) (d:Int):St:=
 ⟨mkSl 91 [(1,sP 0 0),(3,sI (b.length:Int)),(5,.v false [cR 0 a]),(6,sI c),(7,sI d)],[some ⟨[.sc],(List.map (rI .u8) a)⟩],[some [cI p0.rate,cI p0.bits,cI p0.frame,.ro [.ro [.sc]] (p0.channels.map (rL (rI .i64)))]]⟩
def K_Sb_68:List Fr:=[]
def s_Sb_68 (a:LI):St:=
 ⟨mkSl 91 [(5,.v false [cR 0 a])],[some ⟨[.sc],(List.map (rI .u8) a)⟩],[]⟩
def K_Sb_31:List Fr:=[.lp [1,3,5,6] c_Sb_31,.bk 0,.sq (.kp [5] c_Sb_68)]
def s_Sb_31 (b:LI) (p0:Za) (c:Int) (a:LI):St:=
 ⟨mkSl 91 [(1,sP 0 0),(3,sI (b.length:Int)),(5,.v false [cR 0 a]),(6,sI c)],[some ⟨[.sc],(List.map (rI .u8) a)⟩],[some [cI p0.rate,cI p0.bits,cI p0.frame,.ro [.ro [.sc]] (p0.channels.map (rL (rI .i64)))]]⟩
def K_Sb_0:List Fr:=[]
def s_Sb_0 (p0:Za):St:=
 ⟨mkSl 91 [(0,.v true [cI p0.rate,cI p0.bits,cI p0.frame,.ro [.ro [.sc]] (p0.channels.map (rL (rI .i64)))])],[],[]⟩
def K_Ir_33:List Fr:=[]
def s_Ir_33:St:=
 ⟨mkSl 30 [],[],[]⟩
def K_Ir_15:List Fr:=[.lp [1,2,15,16,17] c_Ir_15,.bk 0,.sq (.kp [] c_Ir_33)]
def s_Ir_15 (p1 p2:Int) (p0:LI) (a:Int):St:=
 ⟨mkSl 30 [(1,sI p1),(2,sI p2),(15,.v false [.ro [.sc] (p0.map (rI .i64))]),(16,sI (p0.length:Int)),(17,sI a)],[],[]⟩
def K_Ir_0:List Fr:=[]
def s_Ir_0 (p0:LI) (p1 p2 p3:Int):St:=
 ⟨mkSl 30 [(0,.v false [.ro [.sc] (p0.map (rI .i64))]),(1,sI p1),(2,sI p2),(3,sI p3)],[],[]⟩
def K_Ie_35:List Fr:=[]
def s_Ie_35:St:=
 ⟨mkSl 75 [],[],[]⟩
def K_Ie_17:List Fr:=[.lp [1,46,47,48] c_Ie_17,.bk 0,.sq (.kp [] c_Ie_35)]
def s_Ie_17 (p0:Za) (a:Int):St:=
 ⟨mkSl 75 [(1,sP 0 0),(46,.v false [.ro [.ro [.sc]] (p0.channels.map (rL (rI .i64)))]),(47,sI (p0.channels.length:Int)),(48,sI a)],[],[some [cI p0.rate,cI p0.bits,cI p0.frame,.ro [.ro [.sc]] (p0.channels.map (rL (rI .i64)))]]⟩
def K_Ie_0:List Fr:=[]
def s_Ie_0 (p0:Za):St:=
 ⟨mkSl 75 [(0,.v true [cI p0.rate,cI p0.bits,cI p0.frame,.ro [.ro [.sc]] (p0.channels.map (rL (rI .i64)))])],[],[]⟩
def K_Ii_6:List Fr:=[]
def s_Ii_6 (p1:Int) (p0:Zd) (a:LI):St:=
 ⟨mkSl 48 [(0,sP 0 0),(1,sI p1)],[some ⟨[.sc],(List.map (rI .u8) a)⟩],[some [cR 0 a,cI p0.n]]⟩
def K_Ii_0:List Fr:=[]
def s_Ii_0 (p1:Int) (p0:Zd):St:=
 ⟨mkSl 48 [(0,sP 0 0),(1,sI p1)],[some ⟨[.sc],(List.map (rI .u8) p0.b)⟩],[some [cR 0 p0.b,cI p0.n]]⟩
def K_Ij_4:List Fr:=[.lp [0,2,6] c_Ij_4,.bk 0]
def s_Ij_4 (p2 b c:Int) (a:LI):St:=
 ⟨mkSl 20 [(0,sP 0 0),(2,.v false [.lit (.int .u64 p2)]),(6,sI b)],[some ⟨[.sc],(List.map (rI .u8) a)⟩],[some [cR 0 a,cI c]]⟩
def K_Ij_0:List Fr:=[]
def s_Ij_0 (p1 p2:Int) (p0:Zd):St:=
 ⟨mkSl 20 [(0,sP 0 0),(1,sI p1),(2,.v false [.lit (.int .u64 p2)])],[some ⟨[.sc],(List.map (rI .u8) p0.b)⟩],[some [cR 0 p0.b,cI p0.n]]⟩
def K_Ip_0:List Fr:=[]
def s_Ip_0 (p0:LI):St:=
 ⟨mkSl 5 [(0,.v false [.ro [.sc] (p0.map (rI .i64))])],[],[]⟩
def K_Il_0:List Fr:=[]
def s_Il_0 (p0:LI):St:=
 ⟨mkSl 6 [(0,.v false [.ro [.sc] (p0.map (rI .i64))])],[],[]⟩
def K_Ih_33:List Fr:=[.bk 1,.sq c_Ih_38,.lp [0,1,2,8,9,39,40] c_Ih_17,.bk 0,.sq (.kp [8,9] c_Ih_39)]
def s_Ih_33 (p0:Int) (p1 p2:LI) (a:Int) (b c:LI):St:=
 ⟨mkSl 75 [(0,sI p0),(1,.v false [.ro [.sc] (p1.map (rI .i64))]),(2,.v false [.ro [.sc] (p2.map (rI .i64))]),(8,.v false [cR 0 b]),(9,.v false [cR 1 c]),(10,sI a),(39,sI (p1.length:Int)),(40,sI a)],[jI b,jI c],[]⟩
def K_Ih_39:List Fr:=[]
def s_Ih_39 (a b:LI):St:=
 ⟨mkSl 75 [(8,.v false [cR 0 a]),(9,.v false [cR 1 b])],[jI a,jI b],[]⟩
def K_Ih_17:List Fr:=[.lp [0,1,2,8,9,39,40] c_Ih_17,.bk 0,.sq (.kp [8,9] c_Ih_39)]
def s_Ih_17 (p0:Int) (p1 p2:LI) (c:Int) (a b:LI):St:=
 ⟨mkSl 75 [(0,sI p0),(1,.v false [.ro [.sc] (p1.map (rI .i64))]),(2,.v false [.ro [.sc] (p2.map (rI .i64))]),(8,.v false [cR 0 a]),(9,.v false [cR 1 b]),(39,sI (p1.length:Int)),(40,sI c)],[jI a,jI b],[]⟩
def K_Ih_5:List Fr:=[.sq c_Ih_10]
def s_Ih_5 (p0:Int) (p1 p2:LI) (a:Bool):St:=
 ⟨mkSl 75 [(0,sI p0),(1,.v false [.ro [.sc] (p1.map (rI .i64))]),(2,.v false [.ro [.sc] (p2.map (rI .i64))]),(33,sB a)],[],[]⟩
def K_Ih_0:List Fr:=[]
def s_Ih_0 (p0:Int) (p1 p2:LI):St:=
 ⟨mkSl 75 [(0,sI p0),(1,.v false [.ro [.sc] (p1.map (rI .i64))]),(2,.v false [.ro [.sc] (p2.map (rI .i64))])],[],[]⟩
def K_In_0:List Fr:=[]
def s_In_0 (p0:Int) (p1:LI) (p2:Int):St:=
 ⟨mkSl 78 [(0,sI p0),(1,.v false [.ro [.sc] (p1.map (rI .i64))]),(2,sI p2)],[],[]⟩
def K_Ig_27:List Fr:=[]
def s_Ig_27 (a:LI):St:=
 ⟨mkSl 40 [(5,.v false [cR 0 a])],[jI a],[]⟩
def K_Ig_17:List Fr:=[.lp [0,1,5,6] c_Ig_17,.bk 0,.sq (.kp [5] c_Ig_27)]
def s_Ig_17 (p0:Int) (p1:LI) (b:Int) (a:LI):St:=
 ⟨mkSl 40 [(0,sI p0),(1,.v false [.ro [.sc] (p1.map (rI .i64))]),(5,.v false [cR 0 a]),(6,sI b)],[jI a],[]⟩
def K_Ig_0:List Fr:=[]
def s_Ig_0 (p0:Int) (p1:LI):St:=
 ⟨mkSl 40 [(0,sI p0),(1,.v false [.ro [.sc] (p1.map (rI .i64))])],[],[]⟩
def K_Im_0:List Fr:=[]
def s_Im_0 (p0 p1 p2:Int):St:=
 ⟨mkSl 40 [(0,sI p0),(1,sI p1),(2,sI p2)],[],[]⟩
def K_Iq_0:List Fr:=[]
def s_Iq_0 (p0 p1:Int) (p2:LI) (p3:Int):St:=
 ⟨mkSl 25 [(0,sI p0),(1,sI p1),(2,.v false [.ro [.sc] (p2.map (rI .i64))]),(3,sI p3)],[],[]⟩
def K_Id_0:List Fr:=[]
def s_Id_0 (p0:Int):St:=
 ⟨mkSl 10 [(0,sI p0)],[],[]⟩
def K_Io_29:List Fr:=[]
def s_Io_29 (a:Int):St:=
 ⟨mkSl 32 [(5,sI a)],[],[]⟩
def K_Io_17:List Fr:=[.lp [0,5,14,15,16] c_Io_17,.bk 0,.sq (.kp [5] c_Io_29)]
def s_Io_17 (p0:Int) (p1:LI) (a b:Int):St:=
 ⟨mkSl 32 [(0,sI p0),(5,sI a),(14,.v false [.ro [.sc] (p1.map (rI .i64))]),(15,sI (p1.length:Int)),(16,sI b)],[],[]⟩
def K_Io_0:List Fr:=[]
def s_Io_0 (p0:Int) (p1:LI):St:=
 ⟨mkSl 32 [(0,sI p0),(1,.v false [.ro [.sc] (p1.map (rI .i64))])],[],[]⟩
def K_Ia_87:List Fr:=[.bk 7,.sq c_Ia_90,.lp [0,2,3,4,5,6,7,8,9,11,12,13,14,44,45] c_Ia_75,.bk 6,.sq (.kp [0,2,3,4,5,6,7,8,9,12,13,44,45] c_Ia_91),.bk 5,.sq c_Ia_94,.lp [0,2,3,4,5,6,7,8,9,44,45] c_Ia_56,.bk 4,.sq (.kp [0,2,3,4,5,6,7,8,9] c_Ia_95),.bk 3,.sq c_Ia_100,.lp [0,2,3,4,5,6,7] c_Ia_33,.bk 2,.bk 1,.sq (.kp [0,2,3,4,5] c_Ia_101),.lp [0,2,3,4,5] c_Ia_19,.bk 0,.sq (.kp [2,3] c_Ia_102)]
def s_Ia_87 (p0:LI) (e a:Int) (f:LI) (b g:Int) (h:LI) (i j k l m n o p:Int) (c d:LI) (q:Bool):St:=
 ⟨mkSl 89 [(0,.v false [.ro [.sc] (p0.map (rI .i64))]),(2,sP 0 0),(3,sP 1 0),(4,sI e),(5,sI a),(6,.v false [.ro [.sc] (f.map (rI .i64))]),(7,sI b),(8,sP 2 0),(9,sI g),(11,.v false [.ro [.sc] (h.map (rI .i64))]),(12,sI i),(13,sI j),(14,sI k),(15,sI l),(44,sI m),(45,sI n),(66,sB q)],[some ⟨[.sc],(mi ([]:LI))⟩,jI c,jI d],[some [cI 0,cI 0,.ref 0 [] 0 (([]:LI).length)],some [cI o,cI p,cR 1 c],some [cI a,cI b,cR 2 d]]⟩
def K_Ia_91:List Fr:=[.bk 5,.sq c_Ia_94,.lp [0,2,3,4,5,6,7,8,9,44,45] c_Ia_56,.bk 4,.sq (.kp [0,2,3,4,5,6,7,8,9] c_Ia_95),.bk 3,.sq c_Ia_100,.lp [0,2,3,4,5,6,7] c_Ia_33,.bk 2,.bk 1,.sq (.kp [0,2,3,4,5] c_Ia_101),.lp [0,2,3,4,5] c_Ia_19,.bk 0,.sq (.kp [2,3] c_Ia_102)]
def s_Ia_91 (p0:LI) (e a:Int) (f:LI) (b g h i j k:Int) (c d:LI) (l m:Int):St:=
 ⟨mkSl 89 [(0,.v false [.ro [.sc] (p0.map (rI .i64))]),(2,sP 0 0),(3,sP 1 0),(4,sI e),(5,sI a),(6,.v false [.ro [.sc] (f.map (rI .i64))]),(7,sI b),(8,sP 2 0),(9,sI g),(12,sI l),(13,sI m),(44,sI h),(45,sI i)],[some ⟨[.sc],(mi ([]:LI))⟩,jI c,jI d],[some [cI 0,cI 0,.ref 0 [] 0 (([]:LI).length)],some [cI j,cI k,cR 1 c],some [cI a,cI b,cR 2 d]]⟩
def K_Ia_75:List Fr:=[.lp [0,2,3,4,5,6,7,8,9,11,12,13,14,44,45] c_Ia_75,.bk 6,.sq (.kp [0,2,3,4,5,6,7,8,9,12,13,44,45] c_Ia_91),.bk 5,.sq c_Ia_94,.lp [0,2,3,4,5,6,7,8,9,44,45] c_Ia_56,.bk 4,.sq (.kp [0,2,3,4,5,6,7,8,9] c_Ia_95),.bk 3,.sq c_Ia_100,.lp [0,2,3,4,5,6,7] c_Ia_33,.bk 2,.bk 1,.sq (.kp [0,2,3,4,5] c_Ia_101),.lp [0,2,3,4,5] c_Ia_19,.bk 0,.sq (.kp [2,3] c_Ia_102)]
def s_Ia_75 (p0:LI) (e a:Int) (f:LI) (b g:Int) (h:LI) (i j k l:Int) (c d:LI) (m n o:Int):St:=
 ⟨mkSl 89 [(0,.v false [.ro [.sc] (p0.map (rI .i64))]),(2,sP 0 0),(3,sP 1 0),(4,sI e),(5,sI a),(6,.v false [.ro [.sc] (f.map (rI .i64))]),(7,sI b),(8,sP 2 0),(9,sI g),(11,.v false [.ro [.sc] (h.map (rI .i64))]),(12,sI m),(13,sI n),(14,sI o),(44,sI i),(45,sI j)],[some ⟨[.sc],(mi ([]:LI))⟩,jI c,jI d],[some [cI 0,cI 0,.ref 0 [] 0 (([]:LI).length)],some [cI k,cI l,cR 1 c],some [cI a,cI b,cR 2 d]]⟩
def K_Ia_97:List Fr:=[.bk 3,.sq c_Ia_100,.lp [0,2,3,4,5,6,7] c_Ia_33,.bk 2,.bk 1,.sq (.kp [0,2,3,4,5] c_Ia_101),.lp [0,2,3,4,5] c_Ia_19,.bk 0,.sq (.kp [2,3] c_Ia_102)]
def s_Ia_97 (p0:LI) (e a:Int) (f:LI) (b g h i:Int) (c d:LI) (j:Bool):St:=
 ⟨mkSl 89 [(0,.v false [.ro [.sc] (p0.map (rI .i64))]),(2,sP 0 0),(3,sP 1 0),(4,sI e),(5,sI a),(6,.v false [.ro [.sc] (f.map (rI .i64))]),(7,sI b),(8,sP 2 0),(9,sI g),(85,sB j)],[some ⟨[.sc],(mi ([]:LI))⟩,jI c,jI d],[some [cI 0,cI 0,.ref 0 [] 0 (([]:LI).length)],some [cI h,cI i,cR 1 c],some [cI a,cI b,cR 2 d]]⟩
def K_Ia_95:List Fr:=[.bk 3,.sq c_Ia_100,.lp [0,2,3,4,5,6,7] c_Ia_33,.bk 2,.bk 1,.sq (.kp [0,2,3,4,5] c_Ia_101),.lp [0,2,3,4,5] c_Ia_19,.bk 0,.sq (.kp [2,3] c_Ia_102)]
def s_Ia_95 (p0:LI) (e a:Int) (f:LI) (b g h:Int) (c:LI) (i:Int) (d:LI):St:=
 ⟨mkSl 89 [(0,.v false [.ro [.sc] (p0.map (rI .i64))]),(2,sP 0 0),(3,sP 1 0),(4,sI e),(5,sI a),(6,.v false [.ro [.sc] (f.map (rI .i64))]),(7,sI b),(8,sP 2 0),(9,sI i)],[some ⟨[.sc],(mi ([]:LI))⟩,jI c,jI d],[some [cI 0,cI 0,.ref 0 [] 0 (([]:LI).length)],some [cI g,cI h,cR 1 c],some [cI a,cI b,cR 2 d]]⟩
def K_Ia_56:List Fr:=[.lp [0,2,3,4,5,6,7,8,9,44,45] c_Ia_56,.bk 4,.sq (.kp [0,2,3,4,5,6,7,8,9] c_Ia_95),.bk 3,.sq c_Ia_100,.lp [0,2,3,4,5,6,7] c_Ia_33,.bk 2,.bk 1,.sq (.kp [0,2,3,4,5] c_Ia_101),.lp [0,2,3,4,5] c_Ia_19,.bk 0,.sq (.kp [2,3] c_Ia_102)]
def s_Ia_56 (p0:LI) (e a:Int) (f:LI) (b g h:Int) (c:LI) (i j k:Int) (d:LI):St:=
 ⟨mkSl 89 [(0,.v false [.ro [.sc] (p0.map (rI .i64))]),(2,sP 0 0),(3,sP 1 0),(4,sI e),(5,sI a),(6,.v false [.ro [.sc] (f.map (rI .i64))]),(7,sI b),(8,sP 2 0),(9,sI i),(44,sI j),(45,sI k)],[some ⟨[.sc],(mi ([]:LI))⟩,jI c,jI d],[some [cI 0,cI 0,.ref 0 [] 0 (([]:LI).length)],some [cI g,cI h,cR 1 c],some [cI a,cI b,cR 2 d]]⟩
def K_Ia_101:List Fr:=[.lp [0,2,3,4,5] c_Ia_19,.bk 0,.sq (.kp [2,3] c_Ia_102)]
def s_Ia_101 (p0:LI) (b c d e:Int) (a:LI):St:=
 ⟨mkSl 89 [(0,.v false [.ro [.sc] (p0.map (rI .i64))]),(2,sP 0 0),(3,sP 1 0),(4,sI c),(5,sI b)],[some ⟨[.sc],(mi ([]:LI))⟩,jI a],[some [cI 0,cI 0,.ref 0 [] 0 (([]:LI).length)],some [cI d,cI e,cR 1 a]]⟩
def K_Ia_33:List Fr:=[.lp [0,2,3,4,5,6,7] c_Ia_33,.bk 2,.bk 1,.sq (.kp [0,2,3,4,5] c_Ia_101),.lp [0,2,3,4,5] c_Ia_19,.bk 0,.sq (.kp [2,3] c_Ia_102)]
def s_Ia_33 (p0:LI) (b:Int) (c:LI) (d e f g:Int) (a:LI):St:=
 ⟨mkSl 89 [(0,.v false [.ro [.sc] (p0.map (rI .i64))]),(2,sP 0 0),(3,sP 1 0),(4,sI d),(5,sI b),(6,.v false [.ro [.sc] (c.map (rI .i64))]),(7,sI e)],[some ⟨[.sc],(mi ([]:LI))⟩,jI a],[some [cI 0,cI 0,.ref 0 [] 0 (([]:LI).length)],some [cI f,cI g,cR 1 a]]⟩
def K_Ia_102:List Fr:=[]
def s_Ia_102 (b c:Int) (a:LI):St:=
 ⟨mkSl 89 [(2,sP 0 0),(3,sP 1 0)],[some ⟨[.sc],(mi ([]:LI))⟩,jI a],[some [cI 0,cI 0,.ref 0 [] 0 (([]:LI).length)],some [cI b,cI c,cR 1 a]]⟩
def K_Ia_19:List Fr:=[.lp [0,2,3,4,5] c_Ia_19,.bk 0,.sq (.kp [2,3] c_Ia_102)]
def s_Ia_19 (p0:LI) (b c d e:Int) (a:LI):St:=
 ⟨mkSl 89 [(0,.v false [.ro [.sc] (p0.map (rI .i64))]),(2,sP 0 0),(3,sP 1 0),(4,sI b),(5,sI c)],[some ⟨[.sc],(mi ([]:LI))⟩,jI a],[some [cI 0,cI 0,.ref 0 [] 0 (([]:LI).length)],some [cI d,cI e,cR 1 a]]⟩
def K_Ia_0:List Fr:=[]
def s_Ia_0 (p0:LI):St:=
 ⟨mkSl 89 [(0,.v false [.ro [.sc] (p0.map (rI .i64))])],[],[]⟩
def K_If_31:List Fr:=[]
def s_If_31 (a:Int):St:=
 ⟨mkSl 66 [(6,sI a)],[],[]⟩
def K_If_19:List Fr:=[.lp [2,5,6,46,47,48] c_If_19,.bk 0,.sq (.kp [6] c_If_31)]
def s_If_19 (a:LI) (p0:Zc) (b c:Int):St:=
 ⟨mkSl 66 [(2,sP 0 0),(5,.v false [.ro [.sc] (a.map (rI .i64))]),(6,sI b),(46,.v false [.ro [.sc] (p0.keys.map (rI .i64))]),(47,sI (p0.keys.length:Int)),(48,sI c)],[],[some [cI p0.order,cI p0.parts,.ro [.sc] (p0.keys.map (rI .i64))]]⟩
def K_If_0:List Fr:=[]
def s_If_0 (p0:Zc) (p1:LI):St:=
 ⟨mkSl 66 [(0,.v true [cI p0.order,cI p0.parts,.ro [.sc] (p0.keys.map (rI .i64))]),(1,.v false [.ro [.sc] (p1.map (rI .i64))])],[],[]⟩
def K_Ik_17:List Fr:=[]
def s_Ik_17 (p2 b c:Int) (a:LI):St:=
 ⟨mkSl 23 [(0,sP 0 0),(2,sI p2),(6,.v false [.lit (.int .u64 b)])],[some ⟨[.sc],(List.map (rI .u8) a)⟩],[some [cR 0 a,cI c]]⟩
def K_Ik_7:List Fr:=[.lp [0,2,6,11,12] c_Ik_7,.bk 0,.sq (.kp [0,2,6] c_Ik_17)]
def s_Ik_7 (p2 b c d e:Int) (a:LI):St:=
 ⟨mkSl 23 [(0,sP 0 0),(2,sI p2),(6,.v false [.lit (.int .u64 b)]),(11,.v false [.lit (.int .u64 c)]),(12,.v false [.lit (.int .u64 d)])],[some ⟨[.sc],(List.map (rI .u8) a)⟩],[some [cR 0 a,cI e]]⟩
def K_Ik_0:List Fr:=[]
def s_Ik_0 (p1 p2:Int) (p0:Zd):St:=
 ⟨mkSl 23 [(0,sP 0 0),(1,sI p1),(2,sI p2)],[some ⟨[.sc],(List.map (rI .u8) p0.b)⟩],[some [cR 0 p0.b,cI p0.n]]⟩
def K_Ib_35:List Fr:=[.lp [3,6,7,8] c_Ib_9,.bk 0,.sq (.kp [3] c_Ib_36)]
def s_Ib_35 (p0:LI) (a b:Int):St:=
 ⟨mkSl 28 [(3,.v false [.lit (.int .u32 b)]),(6,.v false [.ro [.sc] (p0.map (rI .u8))]),(7,sI (p0.length:Int)),(8,sI a)],[],[]⟩
def K_Ib_25:List Fr:=[.lp [3,6,7,8,16] c_Ib_25,.bk 2,.bk 1,.sq (.kp [3,6,7,8] c_Ib_35),.lp [3,6,7,8] c_Ib_9,.bk 0,.sq (.kp [3] c_Ib_36)]
def s_Ib_25 (p0:LI) (a b c:Int):St:=
 ⟨mkSl 28 [(3,.v false [.lit (.int .u32 b)]),(6,.v false [.ro [.sc] (p0.map (rI .u8))]),(7,sI (p0.length:Int)),(8,sI a),(16,sI c)],[],[]⟩
def K_Ib_36:List Fr:=[]
def s_Ib_36 (a:Int):St:=
 ⟨mkSl 28 [(3,.v false [.lit (.int .u32 a)])],[],[]⟩
def K_Ib_9:List Fr:=[.lp [3,6,7,8] c_Ib_9,.bk 0,.sq (.kp [3] c_Ib_36)]
def s_Ib_9 (p0:LI) (a b:Int):St:=
 ⟨mkSl 28 [(3,.v false [.lit (.int .u32 a)]),(6,.v false [.ro [.sc] (p0.map (rI .u8))]),(7,sI (p0.length:Int)),(8,sI b)],[],[]⟩
def K_Ib_0:List Fr:=[]
def s_Ib_0 (p0:LI):St:=
 ⟨mkSl 28 [(0,.v false [.ro [.sc] (p0.map (rI .u8))])],[],[]⟩
def K_Ic_88:List Fr:=[.bk 5,.sq c_Ic_91,.lp [1,6,7,8,9,10,11,12,104] c_Ic_72,.bk 4,.sq (.kp [1,6,7,8,10,11] c_Ic_93),.bk 3,.sq c_Ic_178,.lp [1,6,7,8] c_Ic_48,.bk 2,.sq (.kp [7] c_Ic_179)]
def s_Ic_88 (e:LI) (f g h i b:Int) (p0:Za) (c:LI) (d:(List LI)) (a:LI×LI) (j:Int) (k:Bool):St:=
 ⟨mkSl 245 [(1,sP 0 0),(6,sI (e.length:Int)),(7,.v false [cR 0 c]),(8,sI f),(9,sI g),(10,.v false [cR 1 d]),(11,sI h),(12,sI i),(13,sI b),(14,.v false [cR 2 a.1]),(15,.v false [cR 3 a.2]),(16,sI j),(104,sI b),(141,sB k)],[some ⟨[.sc],(List.map (rI .u8) c)⟩,some ⟨[.ro [.sc]],(List.map (rL (rI .i64)) d)⟩,jI a.1,jI a.2],[some [cI p0.rate,cI p0.bits,cI p0.frame,.ro [.ro [.sc]] (p0.channels.map (rL (rI .i64)))]]⟩
def K_Ic_173:List Fr:=[.lp [1,6,7,8,17,20,21,154,155,156,190,191,192] c_Ic_141,.bk 10,.bk 7,.sq (.kp [1,6,7,8,17,154,155,156] c_Ic_174),.lp [1,6,7,8,17,154,155,156] c_Ic_102,.bk 6,.sq (.kp [1,6,7,8,17] c_Ic_175),.bk 3,.sq c_Ic_178,.lp [1,6,7,8] c_Ic_48,.bk 2,.sq (.kp [7] c_Ic_179)]
def s_Ic_173 (e:LI) (f:Int) (g:LI) (b:(List LI)) (h:Int) (a:Zc) (i:Int) (p0:Za) (c:LI) (j:Int) (d:LI):St:=
 ⟨mkSl 245 [(1,sP 0 0),(6,sI (e.length:Int)),(7,.v false [cR 0 c]),(8,sI f),(17,sP 1 0),(20,sP 2 0),(21,.v false [.ro [.sc] (g.map (rI .i64))]),(154,.v false [cR 1 b]),(155,sI (b.length:Int)),(156,sI h),(190,.v false [cR 2 a.keys]),(191,sI (a.keys.length:Int)),(192,sI i)],[some ⟨[.sc],(List.map (rI .u8) c)⟩,some ⟨[.ro [.sc]],(List.map (rL (rI .i64)) b)⟩,jI a.keys,some ⟨[.sc],(List.map (rI .u8) d)⟩],[some [cI p0.rate,cI p0.bits,cI p0.frame,.ro [.ro [.sc]] (p0.channels.map (rL (rI .i64)))],some [cR 3 d,cI j],some [cI a.order,cI a.parts,cR 2 a.keys]]⟩
def K_Ic_157:List Fr:=[.lp [1,6,7,8,17,20,21,24,154,155,156,190,191,192,207,208,209] c_Ic_157,.bk 12,.bk 11,.sq (.kp [1,6,7,8,17,20,21,154,155,156,190,191,192] c_Ic_173),.lp [1,6,7,8,17,20,21,154,155,156,190,191,192] c_Ic_141,.bk 10,.bk 7,.sq (.kp [1,6,7,8,17,154,155,156] c_Ic_174),.lp [1,6,7,8,17,154,155,156] c_Ic_102,.bk 6,.sq (.kp [1,6,7,8,17] c_Ic_175),.bk 3,.sq c_Ic_178,.lp [1,6,7,8] c_Ic_48,.bk 2,.sq (.kp [7] c_Ic_179)]
def s_Ic_157 (f:LI) (g:Int) (h:LI) (i:Int) (b:(List LI)) (j:Int) (a:Zc) (k:Int) (c:LI) (p0:Za) (d:LI) (l m:Int) (e:LI):St:=
 ⟨mkSl 245 [(1,sP 0 0),(6,sI (f.length:Int)),(7,.v false [cR 0 d]),(8,sI g),(17,sP 1 0),(20,sP 2 0),(21,.v false [.ro [.sc] (h.map (rI .i64))]),(24,sI i),(154,.v false [cR 1 b]),(155,sI (b.length:Int)),(156,sI j),(190,.v false [cR 2 a.keys]),(191,sI (a.keys.length:Int)),(192,sI k),(207,.v false [.ro [.sc] (c.map (rI .i64))]),(208,sI (c.length:Int)),(209,sI l)],[some ⟨[.sc],(List.map (rI .u8) d)⟩,some ⟨[.ro [.sc]],(List.map (rL (rI .i64)) b)⟩,jI a.keys,some ⟨[.sc],(List.map (rI .u8) e)⟩],[some [cI p0.rate,cI p0.bits,cI p0.frame,.ro [.ro [.sc]] (p0.channels.map (rL (rI .i64)))],some [cR 3 e,cI m],some [cI a.order,cI a.parts,cR 2 a.keys]]⟩
def K_Ic_174:List Fr:=[.lp [1,6,7,8,17,154,155,156] c_Ic_102,.bk 6,.sq (.kp [1,6,7,8,17] c_Ic_175),.bk 3,.sq c_Ic_178,.lp [1,6,7,8] c_Ic_48,.bk 2,.sq (.kp [7] c_Ic_179)]
def s_Ic_174 (d:LI) (e:Int) (a:(List LI)) (f:Int) (p0:Za) (b:LI) (g:Int) (c:LI):St:=
 ⟨mkSl 245 [(1,sP 0 0),(6,sI (d.length:Int)),(7,.v false [cR 0 b]),(8,sI e),(17,sP 1 0),(154,.v false [cR 1 a]),(155,sI (a.length:Int)),(156,sI f)],[some ⟨[.sc],(List.map (rI .u8) b)⟩,some ⟨[.ro [.sc]],(List.map (rL (rI .i64)) a)⟩,some ⟨[.sc],(List.map (rI .u8) c)⟩],[some [cI p0.rate,cI p0.bits,cI p0.frame,.ro [.ro [.sc]] (p0.channels.map (rL (rI .i64)))],some [cR 2 c,cI g]]⟩
def K_Ic_141:List Fr:=[.lp [1,6,7,8,17,20,21,154,155,156,190,191,192] c_Ic_141,.bk 10,.bk 7,.sq (.kp [1,6,7,8,17,154,155,156] c_Ic_174),.lp [1,6,7,8,17,154,155,156] c_Ic_102,.bk 6,.sq (.kp [1,6,7,8,17] c_Ic_175),.bk 3,.sq c_Ic_178,.lp [1,6,7,8] c_Ic_48,.bk 2,.sq (.kp [7] c_Ic_179)]
def s_Ic_141 (e:LI) (f:Int) (g:LI) (b:(List LI)) (h:Int) (a:Zc) (p0:Za) (c:LI) (i j:Int) (d:LI):St:=
 ⟨mkSl 245 [(1,sP 0 0),(6,sI (e.length:Int)),(7,.v false [cR 0 c]),(8,sI f),(17,sP 1 0),(20,sP 2 0),(21,.v false [.ro [.sc] (g.map (rI .i64))]),(154,.v false [cR 1 b]),(155,sI (b.length:Int)),(156,sI h),(190,.v false [cR 2 a.keys]),(191,sI (a.keys.length:Int)),(192,sI i)],[some ⟨[.sc],(List.map (rI .u8) c)⟩,some ⟨[.ro [.sc]],(List.map (rL (rI .i64)) b)⟩,jI a.keys,some ⟨[.sc],(List.map (rI .u8) d)⟩],[some [cI p0.rate,cI p0.bits,cI p0.frame,.ro [.ro [.sc]] (p0.channels.map (rL (rI .i64)))],some [cR 3 d,cI j],some [cI a.order,cI a.parts,cR 2 a.keys]]⟩
def K_Ic_135:List Fr:=[.bk 7,.sq (.kp [1,6,7,8,17,154,155,156] c_Ic_174),.lp [1,6,7,8,17,154,155,156] c_Ic_102,.bk 6,.sq (.kp [1,6,7,8,17] c_Ic_175),.bk 3,.sq c_Ic_178,.lp [1,6,7,8] c_Ic_48,.bk 2,.sq (.kp [7] c_Ic_179)]
def s_Ic_135 (f:LI) (g:Int) (b:(List LI)) (h:Int) (p0:Za) (a:Zc) (c d:LI) (i:Int) (e:LI):St:=
 ⟨mkSl 245 [(1,sP 0 0),(6,sI (f.length:Int)),(7,.v false [cR 0 c]),(8,sI g),(17,sP 1 0),(20,sP 2 0),(21,.v false [cR 1 d]),(154,.v false [cR 2 b]),(155,sI (b.length:Int)),(156,sI h)],[some ⟨[.sc],(List.map (rI .u8) c)⟩,jI d,some ⟨[.ro [.sc]],(List.map (rL (rI .i64)) b)⟩,some ⟨[.sc],(List.map (rI .u8) e)⟩,jI a.keys],[some [cI p0.rate,cI p0.bits,cI p0.frame,.ro [.ro [.sc]] (p0.channels.map (rL (rI .i64)))],some [cR 3 e,cI i],some [cI a.order,cI a.parts,cR 4 a.keys]]⟩
def K_Ic_123:List Fr:=[.lp [1,6,7,8,17,20,21,154,155,156,172,173] c_Ic_123,.bk 8,.sq (.kp [1,6,7,8,17,20,21,154,155,156] c_Ic_135),.bk 7,.sq (.kp [1,6,7,8,17,154,155,156] c_Ic_174),.lp [1,6,7,8,17,154,155,156] c_Ic_102,.bk 6,.sq (.kp [1,6,7,8,17] c_Ic_175),.bk 3,.sq c_Ic_178,.lp [1,6,7,8] c_Ic_48,.bk 2,.sq (.kp [7] c_Ic_179)]
def s_Ic_123 (f:LI) (g:Int) (b:(List LI)) (h:Int) (a:Zc) (p0:Za) (c d:LI) (i j:Int) (e:LI):St:=
 ⟨mkSl 245 [(1,sP 0 0),(6,sI (f.length:Int)),(7,.v false [cR 0 c]),(8,sI g),(17,sP 1 0),(20,sP 2 0),(21,.v false [cR 1 d]),(154,.v false [cR 2 b]),(155,sI (b.length:Int)),(156,sI h),(172,sI a.order),(173,sI i)],[some ⟨[.sc],(List.map (rI .u8) c)⟩,jI d,some ⟨[.ro [.sc]],(List.map (rL (rI .i64)) b)⟩,some ⟨[.sc],(List.map (rI .u8) e)⟩,jI a.keys],[some [cI p0.rate,cI p0.bits,cI p0.frame,.ro [.ro [.sc]] (p0.channels.map (rL (rI .i64)))],some [cR 3 e,cI j],some [cI a.order,cI a.parts,cR 4 a.keys]]⟩
def K_Ic_175:List Fr:=[.bk 3,.sq c_Ic_178,.lp [1,6,7,8] c_Ic_48,.bk 2,.sq (.kp [7] c_Ic_179)]
def s_Ic_175 (c:LI) (d:Int) (p0:Za) (a:LI) (e:Int) (b:LI):St:=
 ⟨mkSl 245 [(1,sP 0 0),(6,sI (c.length:Int)),(7,.v false [cR 0 a]),(8,sI d),(17,sP 1 0)],[some ⟨[.sc],(List.map (rI .u8) a)⟩,some ⟨[.sc],(List.map (rI .u8) b)⟩],[some [cI p0.rate,cI p0.bits,cI p0.frame,.ro [.ro [.sc]] (p0.channels.map (rL (rI .i64)))],some [cR 1 b,cI e]]⟩
def K_Ic_102:List Fr:=[.lp [1,6,7,8,17,154,155,156] c_Ic_102,.bk 6,.sq (.kp [1,6,7,8,17] c_Ic_175),.bk 3,.sq c_Ic_178,.lp [1,6,7,8] c_Ic_48,.bk 2,.sq (.kp [7] c_Ic_179)]
def s_Ic_102 (d:LI) (e:Int) (a:(List LI)) (p0:Za) (b:LI) (f g:Int) (c:LI):St:=
 ⟨mkSl 245 [(1,sP 0 0),(6,sI (d.length:Int)),(7,.v false [cR 0 b]),(8,sI e),(17,sP 1 0),(154,.v false [cR 1 a]),(155,sI (a.length:Int)),(156,sI f)],[some ⟨[.sc],(List.map (rI .u8) b)⟩,some ⟨[.ro [.sc]],(List.map (rL (rI .i64)) a)⟩,some ⟨[.sc],(List.map (rI .u8) c)⟩],[some [cI p0.rate,cI p0.bits,cI p0.frame,.ro [.ro [.sc]] (p0.channels.map (rL (rI .i64)))],some [cR 2 c,cI g]]⟩
def K_Ic_93:List Fr:=[.bk 3,.sq c_Ic_178,.lp [1,6,7,8] c_Ic_48,.bk 2,.sq (.kp [7] c_Ic_179)]
def s_Ic_93 (c:LI) (d:Int) (p0:Za) (a:LI) (e:Int) (b:(List LI)):St:=
 ⟨mkSl 245 [(1,sP 0 0),(6,sI (c.length:Int)),(7,.v false [cR 0 a]),(8,sI d),(10,.v false [cR 1 b]),(11,sI e)],[some ⟨[.sc],(List.map (rI .u8) a)⟩,some ⟨[.ro [.sc]],(List.map (rL (rI .i64)) b)⟩],[some [cI p0.rate,cI p0.bits,cI p0.frame,.ro [.ro [.sc]] (p0.channels.map (rL (rI .i64)))]]⟩
def K_Ic_72:List Fr:=[.lp [1,6,7,8,9,10,11,12,104] c_Ic_72,.bk 4,.sq (.kp [1,6,7,8,10,11] c_Ic_93),.bk 3,.sq c_Ic_178,.lp [1,6,7,8] c_Ic_48,.bk 2,.sq (.kp [7] c_Ic_179)]
def s_Ic_72 (c:LI) (d:Int) (p0:Za) (a:LI) (e f g h:Int) (b:(List LI)):St:=
 ⟨mkSl 245 [(1,sP 0 0),(6,sI (c.length:Int)),(7,.v false [cR 0 a]),(8,sI d),(9,sI e),(10,.v false [cR 1 b]),(11,sI f),(12,sI g),(104,sI h)],[some ⟨[.sc],(List.map (rI .u8) a)⟩,some ⟨[.ro [.sc]],(List.map (rL (rI .i64)) b)⟩],[some [cI p0.rate,cI p0.bits,cI p0.frame,.ro [.ro [.sc]] (p0.channels.map (rL (rI .i64)))]]⟩
def K_Ic_179:List Fr:=[]
def s_Ic_179 (a:LI):St:=
 ⟨mkSl 245 [(7,.v false [cR 0 a])],[some ⟨[.sc],(List.map (rI .u8) a)⟩],[]⟩
def K_Ic_48:List Fr:=[.lp [1,6,7,8] c_Ic_48,.bk 2,.sq (.kp [7] c_Ic_179)]
def s_Ic_48 (b:LI) (p0:Za) (c:Int) (a:LI):St:=
 ⟨mkSl 245 [(1,sP 0 0),(6,sI (b.length:Int)),(7,.v false [cR 0 a]),(8,sI c)],[some ⟨[.sc],(List.map (rI .u8) a)⟩],[some [cI p0.rate,cI p0.bits,cI p0.frame,.ro [.ro [.sc]] (p0.channels.map (rL (rI .i64)))]]⟩
def K_Ic_29:List Fr:=[]
def s_Ic_29 (p0:Za) (b:Int) (a:LI):St:=
 ⟨mkSl 245 [(1,sP 0 0),(3,sP 1 0)],[some ⟨[.sc],(List.map (rI .u8) a)⟩],[some [cI p0.rate,cI p0.bits,cI p0.frame,.ro [.ro [.sc]] (p0.channels.map (rL (rI .i64)))],some [cR 0 a,cI b]]⟩
def K_Ic_17:List Fr:=[.lp [1,3,33,34,35] c_Ic_17,.bk 0,.sq (.kp [1,3] c_Ic_29)]
def s_Ic_17 (p0:Za) (c d:Int) (a b:LI):St:=
 ⟨mkSl 245 [(1,sP 0 0),(3,sP 1 0),(33,.v false [cR 0 a]),(34,sI 4),(35,sI c)],[some ⟨[.sc],(List.map (rI .u8) a)⟩,some ⟨[.sc],(List.map (rI .u8) b)⟩],[some [cI p0.rate,cI p0.bits,cI p0.frame,.ro [.ro [.sc]] (p0.channels.map (rL (rI .i64)))],some [cR 1 b,cI d]]⟩
def K_Ic_0:List Fr:=[]
def s_Ic_0 (p0:Za):St:=
 ⟨mkSl 245 [(0,.v true [cI p0.rate,cI p0.bits,cI p0.frame,.ro [.ro [.sc]] (p0.channels.map (rL (rI .i64)))])],[],[]⟩
def K_La_31:List Fr:=[]
def s_La_31:St:=
 ⟨mkSl 26 [],[],[]⟩
def K_La_15:List Fr:=[.lp [0,1,5] c_La_15,.bk 0,.sq (.kp [] c_La_31)]
def s_La_15 (p0 p1:LI) (a:Int):St:=
 ⟨mkSl 26 [(0,.v false [.ro [.sc] (p0.map (rI .u8))]),(1,.v false [.ro [.sc] (p1.map (rI .u8))]),(5,sI a)],[],[]⟩
def K_La_0:List Fr:=[]
def s_La_0 (p0 p1:LI):St:=
 ⟨mkSl 26 [(0,.v false [.ro [.sc] (p0.map (rI .u8))]),(1,.v false [.ro [.sc] (p1.map (rI .u8))])],[],[]⟩
def K_Lb_31:List Fr:=[]
def s_Lb_31:St:=
 ⟨mkSl 26 [],[],[]⟩
def K_Lb_15:List Fr:=[.lp [0,1,5] c_Lb_15,.bk 0,.sq (.kp [] c_Lb_31)]
def s_Lb_15 (p0 p1:LI) (a:Int):St:=
 ⟨mkSl 26 [(0,.v false [.ro [.sc] (p0.map (rI .i64))]),(1,.v false [.ro [.sc] (p1.map (rI .i64))]),(5,sI a)],[],[]⟩
def K_Lb_0:List Fr:=[]
def s_Lb_0 (p0 p1:LI):St:=
 ⟨mkSl 26 [(0,.v false [.ro [.sc] (p0.map (rI .i64))]),(1,.v false [.ro [.sc] (p1.map (rI .i64))])],[],[]⟩
def K_Lc_31:List Fr:=[]
def s_Lc_31:St:=
 ⟨mkSl 27 [],[],[]⟩
def K_Lc_15:List Fr:=[.lp [0,1,5] c_Lc_15,.bk 0,.sq (.kp [] c_Lc_31)]
def s_Lc_15 (p0:(List LI)) (p1:(List LI)) (a:Int):St:=
 ⟨mkSl 27 [(0,.v false [.ro [.ro [.sc]] (p0.map (rL (rI .i64)))]),(1,.v false [.ro [.ro [.sc]] (p1.map (rL (rI .i64)))]),(5,sI a)],[],[]⟩
def K_Lc_0:List Fr:=[]
def s_Lc_0 (p0:(List LI)) (p1:(List LI)):St:=
 ⟨mkSl 27 [(0,.v false [.ro [.ro [.sc]] (p0.map (rL (rI .i64)))]),(1,.v false [.ro [.ro [.sc]] (p1.map (rL (rI .i64)))])],[],[]⟩
def K_Ld_0:List Fr:=[]
def s_Ld_0 (p0 p1:Za):St:=
 ⟨mkSl 26 [(0,.v true [cI p0.rate,cI p0.bits,cI p0.frame,.ro [.ro [.sc]] (p0.channels.map (rL (rI .i64)))]),(1,.v true [cI p1.rate,cI p1.bits,cI p1.frame,.ro [.ro [.sc]] (p1.channels.map (rL (rI .i64)))])],[],[]⟩
def K_Lg_19:List Fr:=[]
def s_Lg_19 (b:Int) (a:LI):St:=
 ⟨mkSl 19 [(0,.v false [cR 0 a]),(1,sI b)],[jI a],[]⟩
def K_Lg_7:List Fr:=[.lp [0,1,5] c_Lg_7,.bk 0,.sq (.kp [0,1] c_Lg_19)]
def s_Lg_7 (b c:Int) (a:LI):St:=
 ⟨mkSl 19 [(0,.v false [cR 0 a]),(1,sI b),(5,sI c)],[jI a],[]⟩
def K_Lg_0:List Fr:=[]
def s_Lg_0 (p1:Int) (p0:LI):St:=
 ⟨mkSl 19 [(0,.v false [cR 0 p0]),(1,sI p1)],[jI p0],[]⟩
def K_Lh_17:List Fr:=[]
def s_Lh_17 (b:Int) (a:(List LI)):St:=
 ⟨mkSl 19 [(0,.v false [cR 0 a]),(1,sI b)],[some ⟨[.own [.sc]],(List.map (rL (rI .i64)) a)⟩],[]⟩
def K_Lh_7:List Fr:=[.lp [0,1,5] c_Lh_7,.bk 0,.sq (.kp [0,1] c_Lh_17)]
def s_Lh_7 (b c:Int) (a:(List LI)):St:=
 ⟨mkSl 19 [(0,.v false [cR 0 a]),(1,sI b),(5,sI c)],[some ⟨[.own [.sc]],(List.map (rL (rI .i64)) a)⟩],[]⟩
def K_Lh_0:List Fr:=[]
def s_Lh_0 (p1:Int) (p0:(List LI)):St:=
 ⟨mkSl 19 [(0,.v false [cR 0 p0]),(1,sI p1)],[some ⟨[.own [.sc]],(List.map (rL (rI .i64)) p0)⟩],[]⟩
def K_Li_0:List Fr:=[]
def s_Li_0 (p0:Za) (p1:Int):St:=
 ⟨mkSl 10 [(0,.v true [cI p0.rate,cI p0.bits,cI p0.frame,cR 0 p0.channels]),(1,sI p1)],[some ⟨[.own [.sc]],(List.map (rL (rI .i64)) p0.channels)⟩],[]⟩
def K_Lf_19:List Fr:=[]
def s_Lf_19 (b:Int) (a:LI):St:=
 ⟨mkSl 20 [(0,.v false [cR 0 a]),(1,sI b)],[some ⟨[.sc],(List.map (rI .u8) a)⟩],[]⟩
def K_Lf_7:List Fr:=[.lp [0,1,5] c_Lf_7,.bk 0,.sq (.kp [0,1] c_Lf_19)]
def s_Lf_7 (b c:Int) (a:LI):St:=
 ⟨mkSl 20 [(0,.v false [cR 0 a]),(1,sI b),(5,sI c)],[some ⟨[.sc],(List.map (rI .u8) a)⟩],[]⟩
def K_Lf_0:List Fr:=[]
def s_Lf_0 (p1:Int) (p0:LI):St:=
 ⟨mkSl 20 [(0,.v false [cR 0 p0]),(1,sI p1)],[some ⟨[.sc],(List.map (rI .u8) p0)⟩],[]⟩
def K_Le_25:List Fr:=[]
def s_Le_25 (a:Int):St:=
 ⟨mkSl 22 [(1,sI a)],[],[]⟩
def K_Le_7:List Fr:=[.lp [0,1,5] c_Le_7,.bk 0,.sq (.kp [1] c_Le_25)]
def s_Le_7 (p0:LI) (a b:Int):St:=
 ⟨mkSl 22 [(0,.v false [.ro [.sc] (p0.map (rI .u8))]),(1,sI a),(5,sI b)],[],[]⟩
def K_Le_0:List Fr:=[]
def s_Le_0 (p0:LI) (p1:Int):St:=
 ⟨mkSl 22 [(0,.v false [.ro [.sc] (p0.map (rI .u8))]),(1,sI p1)],[],[]⟩
def K_laws_FnExactEncodeSound_0:List Fr:=[]
def s_laws_FnExactEncodeSound_0 (p0:Za):St:=
 ⟨mkSl 69 [(0,.v true [cI p0.rate,cI p0.bits,cI p0.frame,.ro [.ro [.sc]] (p0.channels.map (rL (rI .i64)))])],[],[]⟩
theorem ok_Lj_0 (p0:LI) (p1 r:Int) (hm:m_Lj_0 p0 p1=some r):EE c_Lj_0 K_Lj_0 (s_Lj_0 p0 p1) (Post vf_Lj (res_Lj r)):=by
 obtain ⟨a,hm⟩|⟨a,hm⟩:=split_ite hm
 ·exact ge (wL (rI .i64) p0<|u1 a<|z0) (congrArg res_Lj (qj hm)) (by kernel_rfl)
 ·exact ge (wL (rI .i64) p0<|v1 a<|z0) (congrArg res_Lj (qj hm)) (by kernel_rfl)
theorem ok_Lj (p0:LI) (p1 r:Int) (hm:m_Lj p0 p1=some r):Runs ext tbl 59 (as_Lj p0 p1) (res_Lj r):=
 runs_of (vf:=vf_Lj) (by kernel_rfl) rfl (st:=(enter vf_Lj (as_Lj p0 p1)).getD default) (by kernel_rfl) (go_on [] 1000 J0 (ok_Lj_0 p0 p1 r hm) (by kernel_rfl))
def O_Lk_17 (Q:VX→St→Prop) (e:(Int)⊕((Int))):Prop:=match e with | .inl e=>Q=Post vf_Lk (res_Lk e) | .inr e=>EE c_Lk_35 K_Lk_35 (s_Lk_35 e) Q
theorem ok_Lk_35 (a r:Int) (hm:m_Lk_35 a=some r):EE c_Lk_35 K_Lk_35 (s_Lk_35 a) (Post vf_Lk (res_Lk r)):=by
 exact ge (z0) (congrArg res_Lk (qj hm)) (by kernel_rfl)
theorem ok_Lk_17 (p0:(List LI)) (a h:Int) (y) (hm:m_Lk_17 p0 a h=some y) (Q)
  (hin:∀ s,y=.inl s→EE c_Lk_17 K_Lk_17 (s_Lk_17 p0 s.1 s.2) Q) (hout:∀ e,y=.inr e→O_Lk_17 Q e):EE c_Lk_17 K_Lk_17 (s_Lk_17 p0 a h) Q:=by
 obtain ⟨b,hm⟩|⟨b,hm⟩:=split_ite hm
 ·obtain ⟨c,d,hm⟩:=bind_some hm
  obtain ⟨f,i,hm⟩:=bind_some hm
  obtain ⟨g,hm⟩|⟨g,hm⟩:=split_ite hm
  ·have hQ:Q=Post vf_Lk (res_Lk (-1)):=hout (.inl (-1)) (qj hm).symm
   subst hQ
   exact ge (wO (zn p0.length)<|wP (len_map (rL (rI .i64)) (show p0.length=p0.length from rfl))<|u1 b<|wO (.row ((rL (rI .i64)) c))<|wO (.res (res_Lj f))<|wP (rd_nn d)<|wP (at_row (rL (rI .i64)) (rd_get d))<|wP (ok_Lj c a f i)<|u1 g<|z0) (rfl:res_Lk (-1)=res_Lk (-1)) (by kernel_rfl)
  ·exact gw (hin _ (qj hm).symm) (wO (zn p0.length)<|wP (len_map (rL (rI .i64)) (show p0.length=p0.length from rfl))<|u1 b<|wO (.row ((rL (rI .i64)) c))<|wO (.res (res_Lj f))<|wP (rd_nn d)<|wP (at_row (rL (rI .i64)) (rd_get d))<|wP (ok_Lj c a f i)<|v1 g<|z0) (by kernel_rfl)
 ·refine gm c_Lk_35 K_Lk_35 (s_Lk_35 a) (wO (zn p0.length)<|wP (len_map (rL (rI .i64)) (show p0.length=p0.length from rfl))<|v1 b<|z0) ?_ (by kernel_rfl)
  exact hout (.inr a) (qj hm).symm
theorem ok_Lk_0 (p0:(List LI)) (p1 r:Int) (hm:m_Lk_0 p0 p1=some r):EE c_Lk_0 K_Lk_0 (s_Lk_0 p0 p1) (Post vf_Lk (res_Lk r)):=by
 obtain ⟨a,hm⟩|⟨a,hm⟩:=split_ite hm
 ·exact ge (wO (zn p0.length)<|wP (len_map (rL (rI .i64)) (show p0.length=p0.length from rfl))<|u1 a<|z0) (congrArg res_Lk (qj hm)) (by kernel_rfl)
 ·refine gm c_Lk_17 K_Lk_17 (s_Lk_17 p0 (w64 (p1 - (p0.length:Int))) 0) (wO (zn p0.length)<|wP (len_map (rL (rI .i64)) (show p0.length=p0.length from rfl))<|v1 a<|z0) ?_ (by kernel_rfl)
  obtain ⟨e,he,hm⟩:=bind_some hm
  refine loop_rule (u:=.c c_Lk_17) (K:=K_Lk_17) (Q:=(Post vf_Lk (res_Lk r))) (b:=lp_Lk_17 p0) (We:=O_Lk_17 (Post vf_Lk (res_Lk r))) (stJ:=fun s=>s_Lk_17 p0 s.1 s.2) (s:=((w64 (p1 - (p0.length:Int))),0)) (fun s y hb hin hout=>ok_Lk_17 p0 s.1 s.2 y hb (Post vf_Lk (res_Lk r)) hin hout) he ?_
  rcases e with e | e
  ·exact congrArg (fun r=>Post vf_Lk (res_Lk r)) (qj hm).symm
  ·show EE c_Lk_35 K_Lk_35 (s_Lk_35 e) _
   exact ok_Lk_35 e r hm
theorem ok_Lk (p0:(List LI)) (p1 r:Int) (hm:m_Lk p0 p1=some r):Runs ext tbl 24 (as_Lk p0 p1) (res_Lk r):=
 runs_of (vf:=vf_Lk) (by kernel_rfl) rfl (st:=(enter vf_Lk (as_Lk p0 p1)).getD default) (by kernel_rfl) (go_on [] 1000 J0 (ok_Lk_0 p0 p1 r hm) (by kernel_rfl))
theorem ok_Ll_0 (p0:Za) (p1 r:Int) (hm:m_Ll_0 p0 p1=some r):EE c_Ll_0 K_Ll_0 (s_Ll_0 p0 p1) (Post vf_Ll (res_Ll r)):=by
 obtain ⟨a,c,hm⟩:=bind_some hm
 obtain ⟨b,hm⟩|⟨b,hm⟩:=split_ite hm
 ·exact ge (wO (.res (res_Lk a))<|wP (ok_Lk p0.channels p1 a c)<|u1 b<|z0) (congrArg res_Ll (qj hm)) (by kernel_rfl)
 ·exact ge (wO (.res (res_Lk a))<|wP (ok_Lk p0.channels p1 a c)<|v1 b<|z0) (congrArg res_Ll (qj hm)) (by kernel_rfl)
theorem ok_Ll (p0:Za) (p1 r:Int) (hm:m_Ll p0 p1=some r):Runs ext tbl 6 (as_Ll p0 p1) (res_Ll r):=
 runs_of (vf:=vf_Ll) (by kernel_rfl) rfl (st:=(enter vf_Ll (as_Ll p0 p1)).getD default) (by kernel_rfl) (go_on [] 1000 J0 (ok_Ll_0 p0 p1 r hm) (by kernel_rfl))
def O_Lm_9 (Q:VX→St→Prop) (e:(LI)):Prop:=EE c_Lm_19 K_Lm_19 (s_Lm_19 e) Q
theorem ok_Lm_19 (a r:LI) (hm:m_Lm_19 a=some r):EE c_Lm_19 K_Lm_19 (s_Lm_19 a) (Post vf_Lm (res_Lm r)):=by
 exact ge (wR (rI .i64) a<|z0) (congrArg res_Lm (qj hm)) (by kernel_rfl)
theorem ok_Lm_9 (p0:LI) (c:Int) (a:LI) (y) (hm:m_Lm_9 p0 c a=some y) (Q)
  (hin:∀ s,y=.inl s→EE c_Lm_9 K_Lm_9 (s_Lm_9 p0 s.1 s.2) Q) (hout:∀ e,y=.inr e→O_Lm_9 Q e):EE c_Lm_9 K_Lm_9 (s_Lm_9 p0 c a) Q:=by
 obtain ⟨d,hm⟩|⟨d,hm⟩:=split_ite hm
 ·obtain ⟨b,f,hm⟩:=bind_some hm
  obtain ⟨h,g,hm⟩:=bind_some hm
  exact gw (hin _ (qj hm).symm) (wL (rI .i64) p0<|u1 d<|wO (.row ((rI .i64) b))<|wO (.rows (mi (a.set (0+Int.toNat c) b)))<|wO (zn ((a.set (0+Int.toNat c) b).length))<|wP (rd_nn f)<|wP (at_row (rI .i64) (rd_get f))<|wP (rd_in rfl g)<|wP (put_ob (rI .i64) b 0 (.lit (vI b)) (rd_get0 g) (by kernel_rfl) (by kernel_rfl))<|wP (lens a.length ((a.set (0+Int.toNat c) b).length) (set_len rfl))<|z0) (by kernel_rfl)
 ·refine gm c_Lm_19 K_Lm_19 (s_Lm_19 a) (wL (rI .i64) p0<|v1 d<|wN a.length<|z0) ?_ (by kernel_rfl)
  exact hout a (qj hm).symm
theorem ok_Lm_0 (p0 r:LI) (hm:m_Lm_0 p0=some r):EE c_Lm_0 K_Lm_0 (s_Lm_0 p0) (Post vf_Lm (res_Lm r)):=by
 obtain ⟨d,a,hm⟩:=bind_some hm
 refine gm c_Lm_9 K_Lm_9 (s_Lm_9 p0 0 (List.replicate (Int.toNat (p0.length:Int)) (0:Int))) (wL (rI .i64) p0<|wO (.rows (mi (List.replicate (Int.toNat (p0.length:Int)) (0:Int))))<|wO (zn (Int.toNat (p0.length:Int)))<|wO (zn ((List.replicate (Int.toNat (p0.length:Int)) (0:Int)).length))<|wP (ck_p a)<|wP (rep_ob (rI .i64) (Int.toNat (p0.length:Int)) (0:Int) [.lit (vI 0)] (by kernel_rfl))<|wP (len_map (rI .i64) (show (Int.toNat (p0.length:Int))=(List.replicate (Int.toNat (p0.length:Int)) (0:Int)).length from (rep_len (Int.toNat (p0.length:Int)) (0:Int))))<|wP (lens (Int.toNat (p0.length:Int)) ((List.replicate (Int.toNat (p0.length:Int)) (0:Int)).length) (rep_len (Int.toNat (p0.length:Int)) (0:Int)))<|z0) ?_ (by kernel_rfl)
 obtain ⟨e,he,hm⟩:=bind_some hm
 refine loop_rule (u:=.c c_Lm_9) (K:=K_Lm_9) (Q:=(Post vf_Lm (res_Lm r))) (b:=lp_Lm_9 p0) (We:=O_Lm_9 (Post vf_Lm (res_Lm r))) (stJ:=fun s=>s_Lm_9 p0 s.1 s.2) (s:=(0,(List.replicate (Int.toNat (p0.length:Int)) (0:Int)))) (fun s y hb hin hout=>ok_Lm_9 p0 s.1 s.2 y hb (Post vf_Lm (res_Lm r)) hin hout) he ?_
 show EE c_Lm_19 K_Lm_19 (s_Lm_19 e) _
 exact ok_Lm_19 e r hm
theorem ok_Lm (p0 r:LI) (hm:m_Lm p0=some r):Runs ext tbl 67 (as_Lm p0) (res_Lm r):=
 runs_of (vf:=vf_Lm) (by kernel_rfl) rfl (st:=(enter vf_Lm (as_Lm p0)).getD default) (by kernel_rfl) (go_on [] 1000 J0 (ok_Lm_0 p0 r hm) (by kernel_rfl))
def O_Ln_9 (Q:VX→St→Prop) (e:((List LI))):Prop:=EE c_Ln_19 K_Ln_19 (s_Ln_19 e) Q
theorem ok_Ln_19 (a:(List LI)) (r:(List LI)) (hm:m_Ln_19 a=some r):EE c_Ln_19 K_Ln_19 (s_Ln_19 a) (Post vf_Ln (res_Ln r)):=by
 exact ge (wO (.rows (List.map (rL (rI .i64)) a))<|wP (all_le0 (rL (rI .i64)) a rfl)<|wP (all_t (rL (rI .i64)) a rfl)<|z0) (congrArg res_Ln (qj hm)) (by kernel_rfl)
theorem ok_Ln_9 (p0:(List LI)) (c:Int) (a:(List LI)) (y) (hm:m_Ln_9 p0 c a=some y) (Q)
  (hin:∀ s,y=.inl s→EE c_Ln_9 K_Ln_9 (s_Ln_9 p0 s.1 s.2) Q) (hout:∀ e,y=.inr e→O_Ln_9 Q e):EE c_Ln_9 K_Ln_9 (s_Ln_9 p0 c a) Q:=by
 obtain ⟨d,hm⟩|⟨d,hm⟩:=split_ite hm
 ·obtain ⟨f,g,hm⟩:=bind_some hm
  obtain ⟨b,i,hm⟩:=bind_some hm
  obtain ⟨j,h,hm⟩:=bind_some hm
  exact gw (hin _ (qj hm).symm) (wO (zn p0.length)<|wP (len_map (rL (rI .i64)) (show p0.length=p0.length from rfl))<|u1 d<|wO (.row ((rL (rI .i64)) f))<|wO (.res (res_Lm b))<|wP (rd_nn g)<|wP (at_row (rL (rI .i64)) (rd_get g))<|wP (ok_Lm f b i)<|wL (rI .i64) b<|wP (rd_in rfl h)<|wR (rI .i64) b<|wO (.rows (List.map (rL (rI .i64)) (a.set (0+Int.toNat c) b)))<|wO (zn ((a.set (0+Int.toNat c) b).length))<|wP (put_ob (rL (rI .i64)) b 0 (.sl (b.map (rI .i64))) (rd_get0 h) (by kernel_rfl) (by kernel_rfl))<|wP (lens a.length ((a.set (0+Int.toNat c) b).length) (set_len rfl))<|z0) (by kernel_rfl)
 ·refine gm c_Ln_19 K_Ln_19 (s_Ln_19 a) (wO (zn p0.length)<|wP (len_map (rL (rI .i64)) (show p0.length=p0.length from rfl))<|v1 d<|wN a.length<|z0) ?_ (by kernel_rfl)
  exact hout a (qj hm).symm
theorem ok_Ln_0 (p0:(List LI)) (r:(List LI)) (hm:m_Ln_0 p0=some r):EE c_Ln_0 K_Ln_0 (s_Ln_0 p0) (Post vf_Ln (res_Ln r)):=by
 obtain ⟨d,a,hm⟩:=bind_some hm
 refine gm c_Ln_9 K_Ln_9 (s_Ln_9 p0 0 (List.replicate (Int.toNat (p0.length:Int)) ([]:LI))) (wO (zn p0.length)<|wO (.rows (List.map (rL (rI .i64)) (List.replicate (Int.toNat (p0.length:Int)) ([]:LI))))<|wO (zn (Int.toNat (p0.length:Int)))<|wO (zn ((List.replicate (Int.toNat (p0.length:Int)) ([]:LI)).length))<|wP (len_map (rL (rI .i64)) (show p0.length=p0.length from rfl))<|wP (ck_p a)<|wP (rep_ob (rL (rI .i64)) (Int.toNat (p0.length:Int)) ([]:LI) [.sl []] (by kernel_rfl))<|wP (len_map (rL (rI .i64)) (show (Int.toNat (p0.length:Int))=(List.replicate (Int.toNat (p0.length:Int)) ([]:LI)).length from (rep_len (Int.toNat (p0.length:Int)) ([]:LI))))<|wP (lens (Int.toNat (p0.length:Int)) ((List.replicate (Int.toNat (p0.length:Int)) ([]:LI)).length) (rep_len (Int.toNat (p0.length:Int)) ([]:LI)))<|z0) ?_ (by kernel_rfl)
 obtain ⟨e,he,hm⟩:=bind_some hm
 refine loop_rule (u:=.c c_Ln_9) (K:=K_Ln_9) (Q:=(Post vf_Ln (res_Ln r))) (b:=lp_Ln_9 p0) (We:=O_Ln_9 (Post vf_Ln (res_Ln r))) (stJ:=fun s=>s_Ln_9 p0 s.1 s.2) (s:=(0,(List.replicate (Int.toNat (p0.length:Int)) ([]:LI)))) (fun s y hb hin hout=>ok_Ln_9 p0 s.1 s.2 y hb (Post vf_Ln (res_Ln r)) hin hout) he ?_
 show EE c_Ln_19 K_Ln_19 (s_Ln_19 e) _
 exact ok_Ln_19 e r hm
theorem ok_Ln (p0:(List LI)) (r:(List LI)) (hm:m_Ln p0=some r):Runs ext tbl 28 (as_Ln p0) (res_Ln r):=
 runs_of (vf:=vf_Ln) (by kernel_rfl) rfl (st:=(enter vf_Ln (as_Ln p0)).getD default) (by kernel_rfl) (go_on [] 1000 J0 (ok_Ln_0 p0 r hm) (by kernel_rfl))
theorem ok_Lo_0 (p0 r:Za) (hm:m_Lo_0 p0=some r):EE c_Lo_0 K_Lo_0 (s_Lo_0 p0) (Post vf_Lo (res_Lo r)):=by
 obtain ⟨a,b,hm⟩:=bind_some hm
 exact ge (wO (.res (res_Ln a))<|wO (zn a.length)<|wO (.rows (List.map (rL (rI .i64)) a))<|wP (ok_Ln p0.channels a b)<|wP (len_map (rL (rI .i64)) (show a.length=a.length from rfl))<|wP (all_le0 (rL (rI .i64)) a rfl)<|wP (all_t (rL (rI .i64)) a rfl)<|z0) (congrArg res_Lo (qj hm)) (by kernel_rfl)
theorem ok_Lo (p0 r:Za) (hm:m_Lo p0=some r):Runs ext tbl 8 (as_Lo p0) (res_Lo r):=
 runs_of (vf:=vf_Lo) (by kernel_rfl) rfl (st:=(enter vf_Lo (as_Lo p0)).getD default) (by kernel_rfl) (go_on [] 1000 J0 (ok_Lo_0 p0 r hm) (by kernel_rfl))
theorem ok_Sh_0 (p0:Za) (p1 p2:Int) (r:Bool) (hm:m_Sh_0 p0 p1 p2=some r):EE c_Sh_0 K_Sh_0 (s_Sh_0 p0 p1 p2) (Post vf_Sh (res_Sh r)):=by
 obtain ⟨a,hm⟩|⟨a,hm⟩:=split_ite hm
 ·exact ge (u4 a<|u4 eT<|u4 eT<|u4 eT<|u4 eT<|u1 eT<|z0) (congrArg res_Sh (qj hm)) (by kernel_rfl)
 ·obtain ⟨b,hm⟩|⟨b,hm⟩:=split_ite hm
  ·exact ge (v4 a<|u4 b<|u4 eT<|u4 eT<|u4 eT<|u1 eT<|z0) (congrArg res_Sh (qj hm)) (by kernel_rfl)
  ·obtain ⟨c,hm⟩|⟨c,hm⟩:=split_ite hm
   ·exact ge (v4 a<|v4 b<|u4 c<|u4 eT<|u4 eT<|u1 eT<|z0) (congrArg res_Sh (qj hm)) (by kernel_rfl)
   ·obtain ⟨d,hm⟩|⟨d,hm⟩:=split_ite hm
    ·exact ge (v4 a<|v4 b<|v4 c<|u4 d<|u4 eT<|u1 eT<|z0) (congrArg res_Sh (qj hm)) (by kernel_rfl)
    ·obtain ⟨e,hm⟩|⟨e,hm⟩:=split_ite hm
     ·exact ge (v4 a<|v4 b<|v4 c<|v4 d<|u4 e<|u1 eT<|z0) (congrArg res_Sh (qj hm)) (by kernel_rfl)
     ·obtain ⟨f,hm⟩|⟨f,hm⟩:=split_ite hm
      ·exact ge (v4 a<|v4 b<|v4 c<|v4 d<|v4 e<|u1 f<|z0) (congrArg res_Sh (qj hm)) (by kernel_rfl)
      ·obtain ⟨g,hm⟩|⟨g,hm⟩:=split_ite hm
       ·obtain ⟨h,hm⟩|⟨h,hm⟩:=split_ite hm
        ·exact ge (v4 a<|v4 b<|v4 c<|v4 d<|v4 e<|v1 f<|u3 g<|u3 h<|z0) (congrArg res_Sh (qj hm)) (by kernel_rfl)
        ·exact ge (v4 a<|v4 b<|v4 c<|v4 d<|v4 e<|v1 f<|u3 g<|v3 h<|z0) (congrArg res_Sh (qj hm)) (by kernel_rfl)
       ·exact ge (v4 a<|v4 b<|v4 c<|v4 d<|v4 e<|v1 f<|v3 g<|v3 eF<|z0) (congrArg res_Sh (qj hm)) (by kernel_rfl)
theorem ok_Sh (p0:Za) (p1 p2:Int) (r:Bool) (hm:m_Sh p0 p1 p2=some r):Runs ext tbl 42 (as_Sh p0 p1 p2) (res_Sh r):=
 runs_of (vf:=vf_Sh) (by kernel_rfl) rfl (st:=(enter vf_Sh (as_Sh p0 p1 p2)).getD default) (by kernel_rfl) (go_on [] 1000 J0 (ok_Sh_0 p0 p1 p2 r hm) (by kernel_rfl))
def O_Si_9 (Q:VX→St→Prop) (e:(Bool)⊕((Unit))):Prop:=match e with | .inl e=>Q=Post vf_Si (res_Si e) | .inr e=>EE c_Si_27 K_Si_27 (s_Si_27) Q
theorem ok_Si_27 (r:Bool) (hm:m_Si_27=some r):EE c_Si_27 K_Si_27 (s_Si_27) (Post vf_Si (res_Si r)):=by
 exact ge (z0) (congrArg res_Si (qj hm)) (by kernel_rfl)
theorem ok_Si_9 (p1:LI) (g h:Int) (y) (hm:m_Si_9 p1 g h=some y) (Q)
  (hin:∀ s,y=.inl s→EE c_Si_9 K_Si_9 (s_Si_9 p1 s.1 s.2) Q) (hout:∀ e,y=.inr e→O_Si_9 Q e):EE c_Si_9 K_Si_9 (s_Si_9 p1 g h) Q:=by
 obtain ⟨b,hm⟩|⟨b,hm⟩:=split_ite hm
 ·obtain ⟨d,a,hm⟩:=bind_some hm
  obtain ⟨c,hm⟩|⟨c,hm⟩:=split_ite hm
  ·have hQ:Q=Post vf_Si (res_Si false):=hout (.inl false) (qj hm).symm
   subst hQ
   exact ge (u1 b<|wO (.row ((rI .i64) d))<|wP (rd_nn a)<|wP (at_row (rI .i64) (rd_get a))<|u4 c<|u1 eT<|z0) (rfl:res_Si false=res_Si false) (by kernel_rfl)
  ·obtain ⟨f,hm⟩|⟨f,hm⟩:=split_ite hm
   ·have hQ:Q=Post vf_Si (res_Si false):=hout (.inl false) (qj hm).symm
    subst hQ
    exact ge (u1 b<|wO (.row ((rI .i64) d))<|wP (rd_nn a)<|wP (at_row (rI .i64) (rd_get a))<|v4 c<|u1 f<|z0) (rfl:res_Si false=res_Si false) (by kernel_rfl)
   ·exact gw (hin _ (qj hm).symm) (u1 b<|wO (.row ((rI .i64) d))<|wP (rd_nn a)<|wP (at_row (rI .i64) (rd_get a))<|v4 c<|v1 f<|z0) (by kernel_rfl)
 ·refine gm c_Si_27 K_Si_27 (s_Si_27) (v1 b<|z0) ?_ (by kernel_rfl)
  exact hout (.inr ()) (qj hm).symm
theorem ok_Si_0 (p0:Int) (p1:LI) (r:Bool) (hm:m_Si_0 p0 p1=some r):EE c_Si_0 K_Si_0 (s_Si_0 p0 p1) (Post vf_Si (res_Si r)):=by
 obtain ⟨d,a,hm⟩:=bind_some hm
 refine gm c_Si_9 K_Si_9 (s_Si_9 p1 (shlI .i64 1 (wr .u64 (w64 (p0 - 1)))) 0) (wP (ck_p a)<|wL (rI .i64) p1<|z0) ?_ (by kernel_rfl)
 obtain ⟨e,he,hm⟩:=bind_some hm
 refine loop_rule (u:=.c c_Si_9) (K:=K_Si_9) (Q:=(Post vf_Si (res_Si r))) (b:=lp_Si_9 p1) (We:=O_Si_9 (Post vf_Si (res_Si r))) (stJ:=fun s=>s_Si_9 p1 s.1 s.2) (s:=((shlI .i64 1 (wr .u64 (w64 (p0 - 1)))),0)) (fun s y hb hin hout=>ok_Si_9 p1 s.1 s.2 y hb (Post vf_Si (res_Si r)) hin hout) he ?_
 rcases e with e | e
 ·exact congrArg (fun r=>Post vf_Si (res_Si r)) (qj hm).symm
 ·show EE c_Si_27 K_Si_27 (s_Si_27) _
  exact ok_Si_27 r hm
theorem ok_Si (p0:Int) (p1:LI) (r:Bool) (hm:m_Si p0 p1=some r):Runs ext tbl 60 (as_Si p0 p1) (res_Si r):=
 runs_of (vf:=vf_Si) (by kernel_rfl) rfl (st:=(enter vf_Si (as_Si p0 p1)).getD default) (by kernel_rfl) (go_on [] 1000 J0 (ok_Si_0 p0 p1 r hm) (by kernel_rfl))
def O_Sd_15 (Q:VX→St→Prop) (e:(Bool)⊕((Unit))):Prop:=match e with | .inl e=>Q=Post vf_Sd (res_Sd e) | .inr e=>EE c_Sd_33 K_Sd_33 (s_Sd_33) Q
theorem ok_Sd_33 (r:Bool) (hm:m_Sd_33=some r):EE c_Sd_33 K_Sd_33 (s_Sd_33) (Post vf_Sd (res_Sd r)):=by
 exact ge (z0) (congrArg res_Sd (qj hm)) (by kernel_rfl)
theorem ok_Sd_15 (p0:Za) (j:Int) (y) (hm:m_Sd_15 p0 j=some y) (Q)
  (hin:∀ s,y=.inl s→EE c_Sd_15 K_Sd_15 (s_Sd_15 p0 s) Q) (hout:∀ e,y=.inr e→O_Sd_15 Q e):EE c_Sd_15 K_Sd_15 (s_Sd_15 p0 j) Q:=by
 obtain ⟨g,hm⟩|⟨g,hm⟩:=split_ite hm
 ·obtain ⟨a,c,hm⟩:=bind_some hm
  obtain ⟨d,f,hm⟩:=bind_some hm
  obtain ⟨b,hm⟩|⟨b,hm⟩:=split_ite hm
  ·have hQ:Q=Post vf_Sd (res_Sd false):=hout (.inl false) (qj hm).symm
   subst hQ
   exact ge (u1 g<|wO (.row ((rL (rI .i64)) a))<|wP (rd_nn c)<|wP (at_row (rL (rI .i64)) (rd_get c))<|wL (rI .i64) a<|wO (.row ((rL (rI .i64)) d))<|wP (rd_nn f)<|wP (at_row (rL (rI .i64)) (rd_get f))<|wL (rI .i64) d<|u4 b<|u2 b<|u1 eT<|z0) (rfl:res_Sd false=res_Sd false) (by kernel_rfl)
  ·obtain ⟨h,k,hm⟩:=bind_some hm
   obtain ⟨i,hm⟩|⟨i,hm⟩:=split_ite hm
   ·exact gw (hin _ (qj hm).symm) (u1 g<|wO (.row ((rL (rI .i64)) a))<|wP (rd_nn c)<|wP (at_row (rL (rI .i64)) (rd_get c))<|wL (rI .i64) a<|wO (.row ((rL (rI .i64)) d))<|wP (rd_nn f)<|wP (at_row (rL (rI .i64)) (rd_get f))<|wL (rI .i64) d<|v4 b<|wO (.res (res_Si h))<|wP (ok_Si p0.bits a h k)<|v2 b<|v1 (not_f i)<|z0) (by kernel_rfl)
   ·have hQ:Q=Post vf_Sd (res_Sd false):=hout (.inl false) (qj hm).symm
    subst hQ
    exact ge (u1 g<|wO (.row ((rL (rI .i64)) a))<|wP (rd_nn c)<|wP (at_row (rL (rI .i64)) (rd_get c))<|wL (rI .i64) a<|wO (.row ((rL (rI .i64)) d))<|wP (rd_nn f)<|wP (at_row (rL (rI .i64)) (rd_get f))<|wL (rI .i64) d<|v4 b<|wO (.res (res_Si h))<|wP (ok_Si p0.bits a h k)<|v2 b<|u1 (not_t i)<|z0) (rfl:res_Sd false=res_Sd false) (by kernel_rfl)
 ·refine gm c_Sd_33 K_Sd_33 (s_Sd_33) (v1 g<|z0) ?_ (by kernel_rfl)
  exact hout (.inr ()) (qj hm).symm
theorem ok_Sd_0 (p0:Za) (r:Bool) (hm:m_Sd_0 p0=some r):EE c_Sd_0 K_Sd_0 (s_Sd_0 p0) (Post vf_Sd (res_Sd r)):=by
 obtain ⟨a,hm⟩|⟨a,hm⟩:=split_ite hm
 ·exact ge (wO (zn p0.channels.length)<|wP (len_map (rL (rI .i64)) (show p0.channels.length=p0.channels.length from rfl))<|u4 a<|u4 a<|u4 a<|u1 eT<|z0) (congrArg res_Sd (qj hm)) (by kernel_rfl)
 ·obtain ⟨d,f,hm⟩:=bind_some hm
  obtain ⟨g,i,hm⟩:=bind_some hm
  obtain ⟨h,hm⟩|⟨h,hm⟩:=split_ite hm
  ·refine gm c_Sd_15 K_Sd_15 (s_Sd_15 p0 0) (wO (zn p0.channels.length)<|wP (len_map (rL (rI .i64)) (show p0.channels.length=p0.channels.length from rfl))<|v4 a<|wO (zn p0.channels.length)<|wP (len_map (rL (rI .i64)) (show p0.channels.length=p0.channels.length from rfl))<|v3 a<|wO (.row ((rL (rI .i64)) d))<|wP (rd_nn f)<|wP (at_row (rL (rI .i64)) (rd_get f))<|v2 a<|wL (rI .i64) d<|v1 a<|wO (.res (res_Sh g))<|wP (ok_Sh p0 (p0.channels.length:Int) (d.length:Int) g i)<|v2 a<|v1 (not_f h)<|wO (zn p0.channels.length)<|wP (len_map (rL (rI .i64)) (show p0.channels.length=p0.channels.length from rfl))<|z0) ?_ (by kernel_rfl)
   obtain ⟨e,he,hm⟩:=bind_some hm
   refine loop_rule (u:=.c c_Sd_15) (K:=K_Sd_15) (Q:=(Post vf_Sd (res_Sd r))) (b:=lp_Sd_15 p0) (We:=O_Sd_15 (Post vf_Sd (res_Sd r))) (stJ:=fun s=>s_Sd_15 p0 s) (s:=0) (fun s y hb hin hout=>ok_Sd_15 p0 s y hb (Post vf_Sd (res_Sd r)) hin hout) he ?_
   rcases e with e | e
   ·exact congrArg (fun r=>Post vf_Sd (res_Sd r)) (qj hm).symm
   ·show EE c_Sd_33 K_Sd_33 (s_Sd_33) _
    exact ok_Sd_33 r hm
  ·exact ge (wO (zn p0.channels.length)<|wP (len_map (rL (rI .i64)) (show p0.channels.length=p0.channels.length from rfl))<|v4 a<|wO (zn p0.channels.length)<|wP (len_map (rL (rI .i64)) (show p0.channels.length=p0.channels.length from rfl))<|v3 a<|wO (.row ((rL (rI .i64)) d))<|wP (rd_nn f)<|wP (at_row (rL (rI .i64)) (rd_get f))<|v2 a<|wL (rI .i64) d<|v1 a<|wO (.res (res_Sh g))<|wP (ok_Sh p0 (p0.channels.length:Int) (d.length:Int) g i)<|v2 a<|u1 (not_t h)<|z0) (congrArg res_Sd (qj hm)) (by kernel_rfl)
theorem ok_Sd (p0:Za) (r:Bool) (hm:m_Sd p0=some r):Runs ext tbl 25 (as_Sd p0) (res_Sd r):=
 runs_of (vf:=vf_Sd) (by kernel_rfl) rfl (st:=(enter vf_Sd (as_Sd p0)).getD default) (by kernel_rfl) (go_on [] 1000 J0 (ok_Sd_0 p0 r hm) (by kernel_rfl))
theorem ok_So_18 (p0:Zb) (c:LI) (a:Int) (r:Zb) (hm:m_So_18 p0 c a=some r):EE c_So_18 K_So_18 (s_So_18 p0 c a) (Post vf_So (res_So r)):=by
 obtain ⟨b,d,hm⟩:=bind_some hm
 obtain ⟨f,e,hm⟩:=bind_some hm
 exact ge (wO (.row ((rI .u8) b))<|wO (.rows (List.map (rI .u8) (c.set (0+Int.toNat (w64 (Int.tdiv p0.n 8))) (orI .u8 b (shlI .u8 1 a)))))<|wO (.rows (List.map (rI .u8) (c.set (0+Int.toNat (w64 (Int.tdiv p0.n 8))) (orI .u8 b (shlI .u8 1 a)))))<|wP (by decide:(8:Int)≠0)<|wP (rd_in rfl d)<|wP (at_row (rI .u8) (rd_get0 d))<|wP (ck_p e)<|wP (rd_in rfl d)<|wP (put_ob (rI .u8) (orI .u8 b (shlI .u8 1 a)) 0 (.lit (.int .u8 (orI .u8 b (shlI .u8 1 a)))) (rd_get0 d) (by kernel_rfl) (by kernel_rfl))<|wP (all_le0 (rI .u8) (c.set (0+Int.toNat (w64 (Int.tdiv p0.n 8))) (orI .u8 b (shlI .u8 1 a))) (set_len rfl))<|wP (all_t (rI .u8) (c.set (0+Int.toNat (w64 (Int.tdiv p0.n 8))) (orI .u8 b (shlI .u8 1 a))) (set_len rfl))<|z0) (congrArg res_So (qj hm)) (by kernel_rfl)
theorem ok_So_6 (p1:Int) (p0:Zb) (a:LI) (r:Zb) (hm:m_So_6 p1 p0 a=some r):EE c_So_6 K_So_6 (s_So_6 p1 p0 a) (Post vf_So (res_So r)):=by
 obtain ⟨b,hm⟩|⟨b,hm⟩:=split_ite hm
 ·obtain ⟨c,hm⟩|⟨c,hm⟩:=split_ite hm
  ·exact gw (ok_So_18 _ _ _ r hm) (u1 b<|wP (by decide:(8:Int)≠0)<|u1 c<|wN a.length<|z0) (by kernel_rfl)
  ·exact gw (ok_So_18 _ _ _ r hm) (u1 b<|wP (by decide:(8:Int)≠0)<|v1 c<|wN a.length<|z0) (by kernel_rfl)
 ·exact ge (v1 b<|wR (rI .u8) a<|z0) (congrArg res_So (qj hm)) (by kernel_rfl)
theorem ok_So_0 (p1:Int) (p0 r:Zb) (hm:m_So_0 p1 p0=some r):EE c_So_0 K_So_0 (s_So_0 p1 p0) (Post vf_So (res_So r)):=by
 obtain ⟨a,hm⟩|⟨a,hm⟩:=split_ite hm
 ·obtain ⟨c,b,hm⟩:=bind_some hm
  exact gw (ok_So_6 _ _ _ r hm) (wP (by decide:(8:Int)≠0)<|u1 a<|wO (.rows (List.map (rI .u8) ([0]:LI)))<|wO (zn 1)<|wO (.rows (List.map (rI .u8) (p0.out++([0]:LI))))<|wO (zn ((p0.out++([0]:LI)).length))<|wO (zn ((p0.out++([0]:LI)).length))<|wP (Eq.refl (List.map (rI .u8) ([0]:LI)))<|wP (len_map (rI .u8) (show 1=([0]:LI).length from rfl))<|wP (all_le (rI .u8) ([0]:LI) rfl)<|wP (app_ck (rI .u8) p0.out ([0]:LI) rfl rfl b)<|wP (app_tell (rI .u8) p0.out ([0]:LI) rfl rfl)<|wP (len_map (rI .u8) (show (p0.out++([0]:LI)).length=(p0.out++([0]:LI)).length from rfl))<|wP (lens ((p0.out++([0]:LI)).length) ((p0.out++([0]:LI)).length) rfl)<|z0) (by kernel_rfl)
 ·exact gw (ok_So_6 _ _ _ r hm) (wP (by decide:(8:Int)≠0)<|v1 a<|wN p0.out.length<|z0) (by kernel_rfl)
theorem ok_So (p0:Zb) (p1:Int) (r:Zb) (hm:m_So p0 p1=some r):Runs ext tbl 61 (as_So p0 p1) (res_So r):=
 runs_of (vf:=vf_So) (by kernel_rfl) rfl (st:=(enter vf_So (as_So p0 p1)).getD default) (by kernel_rfl) (go_on [zn p0.out.length] 1000 (J (len_map (rI .u8) (rfl:p0.out.length=p0.out.length)) J0) (ok_So_0 p1 p0 r hm) (by kernel_rfl))
def O_Sr_4 (Q:VX→St→Prop) (e:Zb):Prop:=Q=Post vf_Sr (res_Sr e)
theorem ok_Sr_20 (p1 p2 g:Int) (c:Bool) (d:Int) (a:LI) (f:Int) (y) (hm:m_Sr_20 p1 p2 g c d a f=some y) (Q)
  (hin:∀ s,y=.inl s→EE c_Sr_4 K_Sr_4 (s_Sr_4 p1 p2 s.1 s.2.1 s.2.2.1 s.2.2.2) Q) (hout:∀ e,y=.inr e→O_Sr_4 Q e):EE c_Sr_20 K_Sr_20 (s_Sr_20 p1 p2 g c d a f) Q:=by
 obtain ⟨j,h,hm⟩:=bind_some hm
 obtain ⟨b,i,hm⟩:=bind_some hm
 exact gw (hin _ (qj hm).symm) (wP (ck_p h)<|wR (rI .u8) a<|wO (.res (res_So b))<|wP (ok_So (Zb.mk c a d) (andI .u64 (shrI .u64 p2 f) 1) b i)<|wL (rI .u8) b.out<|wN b.out.length<|z0) (by kernel_rfl)
theorem ok_Sr_4 (p1 p2 g:Int) (b:Bool) (c:Int) (a:LI) (y) (hm:m_Sr_4 p1 p2 g b c a=some y) (Q)
  (hin:∀ s,y=.inl s→EE c_Sr_4 K_Sr_4 (s_Sr_4 p1 p2 s.1 s.2.1 s.2.2.1 s.2.2.2) Q) (hout:∀ e,y=.inr e→O_Sr_4 Q e):EE c_Sr_4 K_Sr_4 (s_Sr_4 p1 p2 g b c a) Q:=by
 obtain ⟨d,hm⟩|⟨d,hm⟩:=split_ite hm
 ·obtain ⟨f,hm⟩|⟨f,hm⟩:=split_ite hm
  ·exact gw (ok_Sr_20 _ _ _ _ _ _ _ y hm Q hin hout) (u1 d<|u1 f<|wN a.length<|z0) (by kernel_rfl)
  ·exact gw (ok_Sr_20 _ _ _ _ _ _ _ y hm Q hin hout) (u1 d<|v1 f<|wN a.length<|z0) (by kernel_rfl)
 ·have hQ:Q=Post vf_Sr (res_Sr (Zb.mk b a c)):=hout (Zb.mk b a c) (qj hm).symm
  subst hQ
  exact ge (v1 d<|wR (rI .u8) a<|z0) (rfl:res_Sr (Zb.mk b a c)=res_Sr (Zb.mk b a c)) (by kernel_rfl)
theorem ok_Sr_0 (p1 p2:Int) (p0 r:Zb) (hm:m_Sr_0 p1 p2 p0=some r):EE c_Sr_0 K_Sr_0 (s_Sr_0 p1 p2 p0) (Post vf_Sr (res_Sr r)):=by
 refine gm c_Sr_4 K_Sr_4 (s_Sr_4 p1 p2 0 p0.high p0.n p0.out) (wN p0.out.length<|z0) ?_ (by kernel_rfl)
 obtain ⟨e,he,hm⟩:=bind_some hm
 refine loop_rule (u:=.c c_Sr_4) (K:=K_Sr_4) (Q:=(Post vf_Sr (res_Sr r))) (b:=lp_Sr_4 p1 p2) (We:=O_Sr_4 (Post vf_Sr (res_Sr r))) (stJ:=fun s=>s_Sr_4 p1 p2 s.1 s.2.1 s.2.2.1 s.2.2.2) (s:=(0,p0.high,p0.n,p0.out)) (fun s y hb hin hout=>ok_Sr_4 p1 p2 s.1 s.2.1 s.2.2.1 s.2.2.2 y hb (Post vf_Sr (res_Sr r)) hin hout) he ?_
 exact congrArg (fun r=>Post vf_Sr (res_Sr r)) (qj hm).symm
theorem ok_Sr (p0:Zb) (p1 p2:Int) (r:Zb) (hm:m_Sr p0 p1 p2=some r):Runs ext tbl 26 (as_Sr p0 p1 p2) (res_Sr r):=
 runs_of (vf:=vf_Sr) (by kernel_rfl) rfl (st:=(enter vf_Sr (as_Sr p0 p1 p2)).getD default) (by kernel_rfl) (go_on [zn p0.out.length] 1000 (J (len_map (rI .u8) (rfl:p0.out.length=p0.out.length)) J0) (ok_Sr_0 p1 p2 p0 r hm) (by kernel_rfl))
def O_Sn_11 (Q:VX→St→Prop) (e:(LI×LI)):Prop:=EE c_Sn_37 K_Sn_37 (s_Sn_37 e.1 e.2) Q
theorem ok_Sn_31 (p0:Int) (p1 p2:LI) (d:Int) (a f:LI) (y) (hm:m_Sn_31 p0 p1 p2 d a f=some y) (Q)
  (hin:∀ s,y=.inl s→EE c_Sn_11 K_Sn_11 (s_Sn_11 p0 p1 p2 s.1 s.2.1 s.2.2) Q) (hout:∀ e,y=.inr e→O_Sn_11 Q e):EE c_Sn_31 K_Sn_31 (s_Sn_31 p0 p1 p2 d a f) Q:=by
 obtain ⟨g,hm⟩|⟨g,hm⟩:=split_ite hm
 ·obtain ⟨b,h,hm⟩:=bind_some hm
  obtain ⟨c,i,hm⟩:=bind_some hm
  obtain ⟨k,j,hm⟩:=bind_some hm
  exact gw (hin _ (qj hm).symm) (u1 g<|wO (.row ((rI .i64) b))<|wO (.row ((rI .i64) c))<|wO (.rows (mi (a.set (0+Int.toNat d) (shrI .i64 (w64 (b+c)) 1))))<|wO (zn ((a.set (0+Int.toNat d) (shrI .i64 (w64 (b+c)) 1)).length))<|wO (zn f.length)<|wP (rd_nn h)<|wP (at_row (rI .i64) (rd_get h))<|wP (rd_nn i)<|wP (at_row (rI .i64) (rd_get i))<|wP (by decide:(0:Int)≤1)<|wP (rd_in rfl j)<|wP (put_ob (rI .i64) (shrI .i64 (w64 (b+c)) 1) 0 (.lit (vI (shrI .i64 (w64 (b+c)) 1))) (rd_get0 j) (by kernel_rfl) (by kernel_rfl))<|wP (lens a.length ((a.set (0+Int.toNat d) (shrI .i64 (w64 (b+c)) 1)).length) (set_len rfl))<|wP (ln f.length)<|z0) (by kernel_rfl)
 ·exact gw (hin _ (qj hm).symm) (v1 g<|wN a.length<|wN f.length<|z0) (by kernel_rfl)
theorem ok_Sn_37 (a b:LI) (r:LI×LI) (hm:m_Sn_37 a b=some r):EE c_Sn_37 K_Sn_37 (s_Sn_37 a b) (Post vf_Sn (res_Sn r)):=by
 exact ge (wR (rI .i64) a<|wR (rI .i64) b<|z0) (congrArg res_Sn (qj hm)) (by kernel_rfl)
theorem ok_Sn_11 (p0:Int) (p1 p2:LI) (c:Int) (f d:LI) (y) (hm:m_Sn_11 p0 p1 p2 c f d=some y) (Q)
  (hin:∀ s,y=.inl s→EE c_Sn_11 K_Sn_11 (s_Sn_11 p0 p1 p2 s.1 s.2.1 s.2.2) Q) (hout:∀ e,y=.inr e→O_Sn_11 Q e):EE c_Sn_11 K_Sn_11 (s_Sn_11 p0 p1 p2 c f d) Q:=by
 obtain ⟨j,hm⟩|⟨j,hm⟩:=split_ite hm
 ·obtain ⟨a,g,hm⟩:=bind_some hm
  obtain ⟨m,k,hm⟩:=bind_some hm
  obtain ⟨b,h,hm⟩:=bind_some hm
  obtain ⟨n,i,hm⟩:=bind_some hm
  obtain ⟨l,hm⟩|⟨l,hm⟩:=split_ite hm
  ·exact gw (ok_Sn_31 _ _ _ _ _ _ y hm Q hin hout) (u1 j<|wO (.row ((rI .i64) a))<|wO (.rows (mi (f.set (0+Int.toNat c) a)))<|wO (.row ((rI .i64) b))<|wO (.rows (mi (d.set (0+Int.toNat c) b)))<|wO zT<|wO (.row ((rI .i64) a))<|wO (.row ((rI .i64) b))<|wO (.rows (mi (d.set (0+Int.toNat c) (w64 (a - b)))))<|wO (zn ((f.set (0+Int.toNat c) a).length))<|wO (zn ((d.set (0+Int.toNat c) (w64 (a - b))).length))<|wP (rd_nn g)<|wP (at_row (rI .i64) (rd_get g))<|wP (rd_in rfl k)<|wP (put_ob (rI .i64) a 0 (.lit (vI a)) (rd_get0 k) (by kernel_rfl) (by kernel_rfl))<|wP (rd_nn h)<|wP (at_row (rI .i64) (rd_get h))<|wP (rd_in rfl i)<|wP (put_ob (rI .i64) b 0 (.lit (vI b)) (rd_get0 i) (by kernel_rfl) (by kernel_rfl))<|wP l<|wP (rd_nn g)<|wP (at_row (rI .i64) (rd_get g))<|wP (rd_nn h)<|wP (at_row (rI .i64) (rd_get h))<|wP (rd_in rfl i)<|wP (put_ob2 (rI .i64) (w64 (a - b)) 0 (.lit (vI (w64 (a - b)))) (set_at b (rd_get0 i)) (by kernel_rfl) (by kernel_rfl))<|wP (lens f.length ((f.set (0+Int.toNat c) a).length) (set_len rfl))<|wP (lens d.length ((d.set (0+Int.toNat c) (w64 (a - b))).length) (set_len rfl))<|z0) (by kernel_rfl)
  ·exact gw (ok_Sn_31 _ _ _ _ _ _ y hm Q hin hout) (u1 j<|wO (.row ((rI .i64) a))<|wO (.rows (mi (f.set (0+Int.toNat c) a)))<|wO (.row ((rI .i64) b))<|wO (.rows (mi (d.set (0+Int.toNat c) b)))<|wO zF<|wO (zn ((f.set (0+Int.toNat c) a).length))<|wO (zn ((d.set (0+Int.toNat c) b).length))<|wP (rd_nn g)<|wP (at_row (rI .i64) (rd_get g))<|wP (rd_in rfl k)<|wP (put_ob (rI .i64) a 0 (.lit (vI a)) (rd_get0 k) (by kernel_rfl) (by kernel_rfl))<|wP (rd_nn h)<|wP (at_row (rI .i64) (rd_get h))<|wP (rd_in rfl i)<|wP (put_ob (rI .i64) b 0 (.lit (vI b)) (rd_get0 i) (by kernel_rfl) (by kernel_rfl))<|wP l<|wP (lens f.length ((f.set (0+Int.toNat c) a).length) (set_len rfl))<|wP (lens d.length ((d.set (0+Int.toNat c) b).length) (set_len rfl))<|z0) (by kernel_rfl)
 ·refine gm c_Sn_37 K_Sn_37 (s_Sn_37 f d) (v1 j<|wN f.length<|wN d.length<|z0) ?_ (by kernel_rfl)
  exact hout (f,d) (qj hm).symm
theorem ok_Sn_0 (p0:Int) (p1 p2:LI) (r:LI×LI) (hm:m_Sn_0 p0 p1 p2=some r):EE c_Sn_0 K_Sn_0 (s_Sn_0 p0 p1 p2) (Post vf_Sn (res_Sn r)):=by
 obtain ⟨d,a,hm⟩:=bind_some hm
 refine gm c_Sn_11 K_Sn_11 (s_Sn_11 p0 p1 p2 0 (List.replicate (Int.toNat (p1.length:Int)) (0:Int)) (List.replicate (Int.toNat (p1.length:Int)) (0:Int))) (wL (rI .i64) p1<|wO (.rows (mi (List.replicate (Int.toNat (p1.length:Int)) (0:Int))))<|wO (zn (Int.toNat (p1.length:Int)))<|wP (ck_p a)<|wP (rep_ob (rI .i64) (Int.toNat (p1.length:Int)) (0:Int) [.lit (vI 0)] (by kernel_rfl))<|wP (len_map (rI .i64) (show (Int.toNat (p1.length:Int))=(List.replicate (Int.toNat (p1.length:Int)) (0:Int)).length from (rep_len (Int.toNat (p1.length:Int)) (0:Int))))<|wL (rI .i64) p1<|wO (.rows (mi (List.replicate (Int.toNat (p1.length:Int)) (0:Int))))<|wO (zn (Int.toNat (p1.length:Int)))<|wP (ck_p a)<|wP (rep_ob (rI .i64) (Int.toNat (p1.length:Int)) (0:Int) [.lit (vI 0)] (by kernel_rfl))<|wP (len_map (rI .i64) (show (Int.toNat (p1.length:Int))=(List.replicate (Int.toNat (p1.length:Int)) (0:Int)).length from (rep_len (Int.toNat (p1.length:Int)) (0:Int))))<|wL (rI .i64) p1<|wO (zn ((List.replicate (Int.toNat (p1.length:Int)) (0:Int)).length))<|wO (zn ((List.replicate (Int.toNat (p1.length:Int)) (0:Int)).length))<|wP (lens (Int.toNat (p1.length:Int)) ((List.replicate (Int.toNat (p1.length:Int)) (0:Int)).length) (rep_len (Int.toNat (p1.length:Int)) (0:Int)))<|wP (lens (Int.toNat (p1.length:Int)) ((List.replicate (Int.toNat (p1.length:Int)) (0:Int)).length) (rep_len (Int.toNat (p1.length:Int)) (0:Int)))<|z0) ?_ (by kernel_rfl)
 obtain ⟨e,he,hm⟩:=bind_some hm
 refine loop_rule (u:=.c c_Sn_11) (K:=K_Sn_11) (Q:=(Post vf_Sn (res_Sn r))) (b:=lp_Sn_11 p0 p1 p2) (We:=O_Sn_11 (Post vf_Sn (res_Sn r))) (stJ:=fun s=>s_Sn_11 p0 p1 p2 s.1 s.2.1 s.2.2) (s:=(0,(List.replicate (Int.toNat (p1.length:Int)) (0:Int)),(List.replicate (Int.toNat (p1.length:Int)) (0:Int)))) (fun s y hb hin hout=>ok_Sn_11 p0 p1 p2 s.1 s.2.1 s.2.2 y hb (Post vf_Sn (res_Sn r)) hin hout) he ?_
 show EE c_Sn_37 K_Sn_37 (s_Sn_37 e.1 e.2) _
 exact ok_Sn_37 e.1 e.2 r hm
theorem ok_Sn (p0:Int) (p1 p2:LI) (r:LI×LI) (hm:m_Sn p0 p1 p2=some r):Runs ext tbl 62 (as_Sn p0 p1 p2) (res_Sn r):=
 runs_of (vf:=vf_Sn) (by kernel_rfl) rfl (st:=(enter vf_Sn (as_Sn p0 p1 p2)).getD default) (by kernel_rfl) (go_on [] 1000 J0 (ok_Sn_0 p0 p1 p2 r hm) (by kernel_rfl))
theorem ok_Sl_0 (p0 p1 p2:Int) (r:Bool) (hm:m_Sl_0 p0 p1 p2=some r):EE c_Sl_0 K_Sl_0 (s_Sl_0 p0 p1 p2) (Post vf_Sl (res_Sl r)):=by
 obtain ⟨a,hm⟩|⟨a,hm⟩:=split_ite hm
 ·exact ge (u3 a<|u4 eT<|u4 eT<|u3 eT<|z0) (congrArg res_Sl (qj hm)) (by kernel_rfl)
 ·obtain ⟨b,hm⟩|⟨b,hm⟩:=split_ite hm
  ·exact ge (v3 a<|u4 b<|u4 eT<|u3 eT<|z0) (congrArg res_Sl (qj hm)) (by kernel_rfl)
  ·obtain ⟨c,hm⟩|⟨c,hm⟩:=split_ite hm
   ·exact ge (v3 a<|v4 b<|u3 c<|u4 eT<|z0) (congrArg res_Sl (qj hm)) (by kernel_rfl)
   ·obtain ⟨d,hm⟩|⟨d,hm⟩:=split_ite hm
    ·exact ge (v3 a<|v4 b<|v3 c<|u3 d<|u1 eT<|z0) (congrArg res_Sl (qj hm)) (by kernel_rfl)
    ·obtain ⟨f,hm⟩|⟨f,hm⟩:=split_ite hm
     ·exact ge (v3 a<|v4 b<|v3 c<|v3 d<|u1 f<|z0) (congrArg res_Sl (qj hm)) (by kernel_rfl)
     ·obtain ⟨i,g,hm⟩:=bind_some hm
      obtain ⟨j,h,hm⟩:=bind_some hm
      obtain ⟨e,hm⟩|⟨e,hm⟩:=split_ite hm
      ·exact ge (v3 a<|v4 b<|v3 c<|v3 d<|v1 f<|wP (ck_p g)<|wP (ck_p h)<|u4 e<|wP (ck_p g)<|u3 e<|z0) (congrArg res_Sl (qj hm)) (by kernel_rfl)
      ·exact ge (v3 a<|v4 b<|v3 c<|v3 d<|v1 f<|wP (ck_p g)<|wP (ck_p h)<|v4 e<|v3 e<|z0) (congrArg res_Sl (qj hm)) (by kernel_rfl)
theorem ok_Sl (p0 p1 p2:Int) (r:Bool) (hm:m_Sl p0 p1 p2=some r):Runs ext tbl 87 (as_Sl p0 p1 p2) (res_Sl r):=
 runs_of (vf:=vf_Sl) (by kernel_rfl) rfl (st:=(enter vf_Sl (as_Sl p0 p1 p2)).getD default) (by kernel_rfl) (go_on [] 1000 J0 (ok_Sl_0 p0 p1 p2 r hm) (by kernel_rfl))
theorem ok_Sg_0 (p0:Int) (p1:LI) (p2 r:Int) (hm:m_Sg_0 p0 p1 p2=some r):EE c_Sg_0 K_Sg_0 (s_Sg_0 p0 p1 p2) (Post vf_Sg (res_Sg r)):=by
 obtain ⟨d,hm⟩|⟨d,hm⟩:=split_ite hm
 ·obtain ⟨l,b,hm⟩:=bind_some hm
  exact ge (u1 d<|wO (.row ((rI .i64) l))<|wP (rd_nn b)<|wP (at_row (rI .i64) (rd_get b))<|z0) (congrArg res_Sg (qj hm)) (by kernel_rfl)
 ·obtain ⟨b,hm⟩|⟨b,hm⟩:=split_ite hm
  ·obtain ⟨m,c,hm⟩:=bind_some hm
   obtain ⟨g,a,hm⟩:=bind_some hm
   exact ge (v1 d<|u1 b<|wO (.row ((rI .i64) m))<|wO (.row ((rI .i64) g))<|wP (rd_nn c)<|wP (at_row (rI .i64) (rd_get c))<|wP (rd_nn a)<|wP (at_row (rI .i64) (rd_get a))<|z0) (congrArg res_Sg (qj hm)) (by kernel_rfl)
  ·obtain ⟨c,hm⟩|⟨c,hm⟩:=split_ite hm
   ·obtain ⟨g,a,hm⟩:=bind_some hm
    obtain ⟨h,e,hm⟩:=bind_some hm
    obtain ⟨i,f,hm⟩:=bind_some hm
    exact ge (v1 d<|v1 b<|u1 c<|wO (.row ((rI .i64) g))<|wO (.row ((rI .i64) h))<|wO (.row ((rI .i64) i))<|wP (rd_nn a)<|wP (at_row (rI .i64) (rd_get a))<|wP (rd_nn e)<|wP (at_row (rI .i64) (rd_get e))<|wP (rd_nn f)<|wP (at_row (rI .i64) (rd_get f))<|z0) (congrArg res_Sg (qj hm)) (by kernel_rfl)
   ·obtain ⟨a,hm⟩|⟨a,hm⟩:=split_ite hm
    ·obtain ⟨h,e,hm⟩:=bind_some hm
     obtain ⟨i,f,hm⟩:=bind_some hm
     obtain ⟨n,j,hm⟩:=bind_some hm
     obtain ⟨o,k,hm⟩:=bind_some hm
     exact ge (v1 d<|v1 b<|v1 c<|u1 a<|wO (.row ((rI .i64) h))<|wO (.row ((rI .i64) i))<|wO (.row ((rI .i64) n))<|wO (.row ((rI .i64) o))<|wP (rd_nn e)<|wP (at_row (rI .i64) (rd_get e))<|wP (rd_nn f)<|wP (at_row (rI .i64) (rd_get f))<|wP (rd_nn j)<|wP (at_row (rI .i64) (rd_get j))<|wP (rd_nn k)<|wP (at_row (rI .i64) (rd_get k))<|z0) (congrArg res_Sg (qj hm)) (by kernel_rfl)
    ·exact ge (v1 d<|v1 b<|v1 c<|v1 a<|z0) (congrArg res_Sg (qj hm)) (by kernel_rfl)
theorem ok_Sg (p0:Int) (p1:LI) (p2 r:Int) (hm:m_Sg p0 p1 p2=some r):Runs ext tbl 95 (as_Sg p0 p1 p2) (res_Sg r):=
 runs_of (vf:=vf_Sg) (by kernel_rfl) rfl (st:=(enter vf_Sg (as_Sg p0 p1 p2)).getD default) (by kernel_rfl) (go_on [] 1000 J0 (ok_Sg_0 p0 p1 p2 r hm) (by kernel_rfl))
def O_Sm_9 (Q:VX→St→Prop) (e:(LI)):Prop:=EE c_Sm_27 K_Sm_27 (s_Sm_27 e) Q
theorem ok_Sm_27 (a r:LI) (hm:m_Sm_27 a=some r):EE c_Sm_27 K_Sm_27 (s_Sm_27 a) (Post vf_Sm (res_Sm r)):=by
 exact ge (wR (rI .i64) a<|z0) (congrArg res_Sm (qj hm)) (by kernel_rfl)
theorem ok_Sm_9 (p0:Int) (p1:LI) (c:Int) (b:LI) (y) (hm:m_Sm_9 p0 p1 c b=some y) (Q)
  (hin:∀ s,y=.inl s→EE c_Sm_9 K_Sm_9 (s_Sm_9 p0 p1 s.1 s.2) Q) (hout:∀ e,y=.inr e→O_Sm_9 Q e):EE c_Sm_9 K_Sm_9 (s_Sm_9 p0 p1 c b) Q:=by
 obtain ⟨g,hm⟩|⟨g,hm⟩:=split_ite hm
 ·obtain ⟨a,h,hm⟩:=bind_some hm
  obtain ⟨k,d,hm⟩:=bind_some hm
  obtain ⟨i,hm⟩|⟨i,hm⟩:=split_ite hm
  ·obtain ⟨f,j,hm⟩:=bind_some hm
   exact gw (hin _ (qj hm).symm) (u1 g<|wO (.row ((rI .i64) a))<|wO (.rows (mi (b.set (0+Int.toNat c) a)))<|wP (rd_nn h)<|wP (at_row (rI .i64) (rd_get h))<|wP (rd_in rfl d)<|wP (put_ob (rI .i64) a 0 (.lit (vI a)) (rd_get0 d) (by kernel_rfl) (by kernel_rfl))<|u1 i<|wO (.row ((rI .i64) a))<|wO (.res (res_Sg f))<|wO (.rows (mi (b.set (0+Int.toNat c) (w64 (a - f)))))<|wO (zn ((b.set (0+Int.toNat c) (w64 (a - f))).length))<|wP (rd_in rfl d)<|wP (at_row (rI .i64) (set_at a (rd_get0 d)))<|wP (ok_Sg p0 p1 c f j)<|wP (rd_in rfl d)<|wP (put_ob2 (rI .i64) (w64 (a - f)) 0 (.lit (vI (w64 (a - f)))) (set_at a (rd_get0 d)) (by kernel_rfl) (by kernel_rfl))<|wP (lens b.length ((b.set (0+Int.toNat c) (w64 (a - f))).length) (set_len rfl))<|z0) (by kernel_rfl)
  ·exact gw (hin _ (qj hm).symm) (u1 g<|wO (.row ((rI .i64) a))<|wO (.rows (mi (b.set (0+Int.toNat c) a)))<|wP (rd_nn h)<|wP (at_row (rI .i64) (rd_get h))<|wP (rd_in rfl d)<|wP (put_ob (rI .i64) a 0 (.lit (vI a)) (rd_get0 d) (by kernel_rfl) (by kernel_rfl))<|v1 i<|wO (zn ((b.set (0+Int.toNat c) a).length))<|wP (lens b.length ((b.set (0+Int.toNat c) a).length) (set_len rfl))<|z0) (by kernel_rfl)
 ·refine gm c_Sm_27 K_Sm_27 (s_Sm_27 b) (v1 g<|wN b.length<|z0) ?_ (by kernel_rfl)
  exact hout b (qj hm).symm
theorem ok_Sm_0 (p0:Int) (p1 r:LI) (hm:m_Sm_0 p0 p1=some r):EE c_Sm_0 K_Sm_0 (s_Sm_0 p0 p1) (Post vf_Sm (res_Sm r)):=by
 obtain ⟨d,a,hm⟩:=bind_some hm
 refine gm c_Sm_9 K_Sm_9 (s_Sm_9 p0 p1 0 (List.replicate (Int.toNat (p1.length:Int)) (0:Int))) (wL (rI .i64) p1<|wO (.rows (mi (List.replicate (Int.toNat (p1.length:Int)) (0:Int))))<|wO (zn (Int.toNat (p1.length:Int)))<|wP (ck_p a)<|wP (rep_ob (rI .i64) (Int.toNat (p1.length:Int)) (0:Int) [.lit (vI 0)] (by kernel_rfl))<|wP (len_map (rI .i64) (show (Int.toNat (p1.length:Int))=(List.replicate (Int.toNat (p1.length:Int)) (0:Int)).length from (rep_len (Int.toNat (p1.length:Int)) (0:Int))))<|wL (rI .i64) p1<|wO (zn ((List.replicate (Int.toNat (p1.length:Int)) (0:Int)).length))<|wP (lens (Int.toNat (p1.length:Int)) ((List.replicate (Int.toNat (p1.length:Int)) (0:Int)).length) (rep_len (Int.toNat (p1.length:Int)) (0:Int)))<|z0) ?_ (by kernel_rfl)
 obtain ⟨e,he,hm⟩:=bind_some hm
 refine loop_rule (u:=.c c_Sm_9) (K:=K_Sm_9) (Q:=(Post vf_Sm (res_Sm r))) (b:=lp_Sm_9 p0 p1) (We:=O_Sm_9 (Post vf_Sm (res_Sm r))) (stJ:=fun s=>s_Sm_9 p0 p1 s.1 s.2) (s:=(0,(List.replicate (Int.toNat (p1.length:Int)) (0:Int)))) (fun s y hb hin hout=>ok_Sm_9 p0 p1 s.1 s.2 y hb (Post vf_Sm (res_Sm r)) hin hout) he ?_
 show EE c_Sm_27 K_Sm_27 (s_Sm_27 e) _
 exact ok_Sm_27 e r hm
theorem ok_Sm (p0:Int) (p1 r:LI) (hm:m_Sm p0 p1=some r):Runs ext tbl 88 (as_Sm p0 p1) (res_Sm r):=
 runs_of (vf:=vf_Sm) (by kernel_rfl) rfl (st:=(enter vf_Sm (as_Sm p0 p1)).getD default) (by kernel_rfl) (go_on [] 1000 J0 (ok_Sm_0 p0 p1 r hm) (by kernel_rfl))
theorem ok_Sk_0 (p0:LI) (p1 p2 p3:Int) (r:LI) (hm:m_Sk_0 p0 p1 p2 p3=some r):EE c_Sk_0 K_Sk_0 (s_Sk_0 p0 p1 p2 p3) (Post vf_Sk (res_Sk r)):=by
 obtain ⟨g,d,hm⟩:=bind_some hm
 obtain ⟨a,hm⟩|⟨a,hm⟩:=split_ite hm
 ·obtain ⟨e,b,hm⟩:=bind_some hm
  obtain ⟨f,c,hm⟩:=bind_some hm
  exact ge (wL (rI .i64) p0<|wP (ck_p d)<|u1 a<|wO (.rows (mi ((p0.take (Int.toNat (shrI .i64 (p0.length:Int) (wr .u64 p2)))).drop (Int.toNat p1))))<|wP (slc_hi (rI .i64) p0 (ck_p b))<|wP (ck_p c)<|wP (slc_tell (rI .i64) p0 (Int.toNat p1) (Int.toNat (shrI .i64 (p0.length:Int) (wr .u64 p2))))<|z0) (congrArg res_Sk (qj hm)) (by kernel_rfl)
 ·obtain ⟨e,b,hm⟩:=bind_some hm
  obtain ⟨f,c,hm⟩:=bind_some hm
  exact ge (wL (rI .i64) p0<|wP (ck_p d)<|v1 a<|wO (.rows (mi ((p0.take (Int.toNat (w64 ((w64 ((shrI .i64 (p0.length:Int) (wr .u64 p2))*p3))+(shrI .i64 (p0.length:Int) (wr .u64 p2)))))).drop (Int.toNat (w64 ((shrI .i64 (p0.length:Int) (wr .u64 p2))*p3))))))<|wP (slc_hi (rI .i64) p0 (ck_p b))<|wP (ck_p c)<|wP (slc_tell (rI .i64) p0 (Int.toNat (w64 ((shrI .i64 (p0.length:Int) (wr .u64 p2))*p3))) (Int.toNat (w64 ((w64 ((shrI .i64 (p0.length:Int) (wr .u64 p2))*p3))+(shrI .i64 (p0.length:Int) (wr .u64 p2))))))<|z0) (congrArg res_Sk (qj hm)) (by kernel_rfl)
theorem ok_Sk (p0:LI) (p1 p2 p3:Int) (r:LI) (hm:m_Sk p0 p1 p2 p3=some r):Runs ext tbl 89 (as_Sk p0 p1 p2 p3) (res_Sk r):=
 runs_of (vf:=vf_Sk) (by kernel_rfl) rfl (st:=(enter vf_Sk (as_Sk p0 p1 p2 p3)).getD default) (by kernel_rfl) (go_on [] 1000 J0 (ok_Sk_0 p0 p1 p2 p3 r hm) (by kernel_rfl))
theorem ok_Sc_0 (p0 r:Int) (hm:m_Sc_0 p0=some r):EE c_Sc_0 K_Sc_0 (s_Sc_0 p0) (Post vf_Sc (res_Sc r)):=by
 obtain ⟨a,hm⟩|⟨a,hm⟩:=split_ite hm
 ·exact ge (u1 a<|z0) (congrArg res_Sc (qj hm)) (by kernel_rfl)
 ·exact ge (v1 a<|z0) (congrArg res_Sc (qj hm)) (by kernel_rfl)
theorem ok_Sc (p0 r:Int) (hm:m_Sc p0=some r):Runs ext tbl 99 (as_Sc p0) (res_Sc r):=
 runs_of (vf:=vf_Sc) (by kernel_rfl) rfl (st:=(enter vf_Sc (as_Sc p0)).getD default) (by kernel_rfl) (go_on [] 1000 J0 (ok_Sc_0 p0 r hm) (by kernel_rfl))
def O_Sj_9 (Q:VX→St→Prop) (e:(Int)):Prop:=EE c_Sj_25 K_Sj_25 (s_Sj_25 e) Q
theorem ok_Sj_25 (a r:Int) (hm:m_Sj_25 a=some r):EE c_Sj_25 K_Sj_25 (s_Sj_25 a) (Post vf_Sj (res_Sj r)):=by
 exact ge (z0) (congrArg res_Sj (qj hm)) (by kernel_rfl)
theorem ok_Sj_9 (p0:Int) (p1:LI) (a g:Int) (y) (hm:m_Sj_9 p0 p1 a g=some y) (Q)
  (hin:∀ s,y=.inl s→EE c_Sj_9 K_Sj_9 (s_Sj_9 p0 p1 s.1 s.2) Q) (hout:∀ e,y=.inr e→O_Sj_9 Q e):EE c_Sj_9 K_Sj_9 (s_Sj_9 p0 p1 a g) Q:=by
 obtain ⟨b,hm⟩|⟨b,hm⟩:=split_ite hm
 ·obtain ⟨d,c,hm⟩:=bind_some hm
  obtain ⟨f,hm⟩|⟨f,hm⟩:=split_ite hm
  ·exact gw (hin _ (qj hm).symm) (u1 b<|wO (.row ((rI .i64) d))<|wP (rd_nn c)<|wP (at_row (rI .i64) (rd_get c))<|u1 f<|z0) (by kernel_rfl)
  ·obtain ⟨h,i,hm⟩:=bind_some hm
   obtain ⟨k,j,hm⟩:=bind_some hm
   exact gw (hin _ (qj hm).symm) (u1 b<|wO (.row ((rI .i64) d))<|wP (rd_nn c)<|wP (at_row (rI .i64) (rd_get c))<|v1 f<|wO (.res (res_Sc h))<|wP (ok_Sc d h i)<|wP (ck_p j)<|z0) (by kernel_rfl)
 ·refine gm c_Sj_25 K_Sj_25 (s_Sj_25 a) (v1 b<|z0) ?_ (by kernel_rfl)
  exact hout a (qj hm).symm
theorem ok_Sj_0 (p0:Int) (p1:LI) (r:Int) (hm:m_Sj_0 p0 p1=some r):EE c_Sj_0 K_Sj_0 (s_Sj_0 p0 p1) (Post vf_Sj (res_Sj r)):=by
 refine gm c_Sj_9 K_Sj_9 (s_Sj_9 p0 p1 5 0) (wL (rI .i64) p1<|z0) ?_ (by kernel_rfl)
 obtain ⟨e,he,hm⟩:=bind_some hm
 refine loop_rule (u:=.c c_Sj_9) (K:=K_Sj_9) (Q:=(Post vf_Sj (res_Sj r))) (b:=lp_Sj_9 p0 p1) (We:=O_Sj_9 (Post vf_Sj (res_Sj r))) (stJ:=fun s=>s_Sj_9 p0 p1 s.1 s.2) (s:=(5,0)) (fun s y hb hin hout=>ok_Sj_9 p0 p1 s.1 s.2 y hb (Post vf_Sj (res_Sj r)) hin hout) he ?_
 show EE c_Sj_25 K_Sj_25 (s_Sj_25 e) _
 exact ok_Sj_25 e r hm
theorem ok_Sj (p0:Int) (p1:LI) (r:Int) (hm:m_Sj p0 p1=some r):Runs ext tbl 90 (as_Sj p0 p1) (res_Sj r):=
 runs_of (vf:=vf_Sj) (by kernel_rfl) rfl (st:=(enter vf_Sj (as_Sj p0 p1)).getD default) (by kernel_rfl) (go_on [] 1000 J0 (ok_Sj_0 p0 p1 r hm) (by kernel_rfl))
def O_Se_67 (p0:LI) (a b c:Int) (d:LI) (f g h i:Int) (j k:LI) (Q:VX→St→Prop) (e:(Int×Int)):Prop:=EE c_Se_85 K_Se_85 (s_Se_85 p0 a b c d f g h i j k e.1 e.2) Q
def O_Se_48 (p0:LI) (a b c d f:Int) (g:LI) (Q:VX→St→Prop) (e:(Int×LI)):Prop:=EE c_Se_89 K_Se_89 (s_Se_89 p0 a b c d f g e.1 e.2) Q
def O_Se_23 (p0:LI) (a:Int) (Q:VX→St→Prop) (e:(Int×Int×Int×LI)):Prop:=EE c_Se_97 K_Se_97 (s_Se_97 p0 a e.1 e.2.1 e.2.2.1 e.2.2.2) Q
def O_Se_11 (Q:VX→St→Prop) (e:(Int×Int×Int×LI)):Prop:=EE c_Se_98 K_Se_98 (s_Se_98 e.1 e.2.1 e.2.2.1 e.2.2.2) Q
theorem ok_Se_85 (p0:LI) (d f g:Int) (j:LI) (k l h i:Int) (c b:LI) (a m:Int) (y) (hm:m_Se_85 p0 d f g j k l h i c b a m=some y) (Q)
  (hin:∀ s,y=.inl s→EE c_Se_48 K_Se_48 (s_Se_48 p0 d f g j h i c s.1 s.2.1 s.2.2) Q) (hout:∀ e,y=.inr e→O_Se_48 p0 d f g h i c Q e):EE c_Se_85 K_Se_85 (s_Se_85 p0 d f g j k l h i c b a m) Q:=by
 obtain ⟨o,n,hm⟩:=bind_some hm
 exact gw (hin _ (qj hm).symm) (wO (.rows (mi ([a]:LI)))<|wO (zn 1)<|wO (.rows (mi (b++([a]:LI))))<|wO (zn ((b++([a]:LI)).length))<|wO (zn (([]:LI).length))<|wO (zn c.length)<|wO (zn ((b++([a]:LI)).length))<|wP (Eq.refl (mi ([a]:LI)))<|wP (len_map (rI .i64) (show 1=([a]:LI).length from rfl))<|wP (all_le (rI .i64) ([a]:LI) rfl)<|wP (app_ck (rI .i64) b ([a]:LI) rfl rfl n)<|wP (app_tell (rI .i64) b ([a]:LI) rfl rfl)<|wP (len_map (rI .i64) (show (b++([a]:LI)).length=(b++([a]:LI)).length from rfl))<|wP (lens (([]:LI).length) (([]:LI).length) rfl)<|wP (ln c.length)<|wP (lens ((b++([a]:LI)).length) ((b++([a]:LI)).length) rfl)<|z0) (by kernel_rfl)
theorem ok_Se_67 (p0:LI) (c d f:Int) (g:LI) (h i:Int) (j:LI) (k l:Int) (a b:LI) (m n o:Int) (y) (hm:m_Se_67 p0 c d f g h i j k l a b m n o=some y) (Q)
  (hin:∀ s,y=.inl s→EE c_Se_67 K_Se_67 (s_Se_67 p0 c d f g h i j k l a b s.1 s.2.1 s.2.2) Q) (hout:∀ e,y=.inr e→O_Se_67 p0 c d f g h i k l a b Q e):EE c_Se_67 K_Se_67 (s_Se_67 p0 c d f g h i j k l a b m n o) Q:=by
 obtain ⟨p,hm⟩|⟨p,hm⟩:=split_ite hm
 ·obtain ⟨q,t,hm⟩:=bind_some hm
  obtain ⟨r,hm⟩|⟨r,hm⟩:=split_ite hm
  ·exact gw (hin _ (qj hm).symm) (u1 p<|wO (.res (res_Sj q))<|wP (ok_Sj o j q t)<|u1 r<|wO (zn (([]:LI).length))<|wP (lens (([]:LI).length) (([]:LI).length) rfl)<|wN a.length<|wN b.length<|z0) (by kernel_rfl)
  ·exact gw (hin _ (qj hm).symm) (u1 p<|wO (.res (res_Sj q))<|wP (ok_Sj o j q t)<|v1 r<|wO (zn (([]:LI).length))<|wP (lens (([]:LI).length) (([]:LI).length) rfl)<|wN a.length<|wN b.length<|z0) (by kernel_rfl)
 ·refine gm c_Se_85 K_Se_85 (s_Se_85 p0 c d f g h i k l a b m n) (v1 p<|wO (zn (([]:LI).length))<|wP (lens (([]:LI).length) (([]:LI).length) rfl)<|wN a.length<|wN b.length<|z0) ?_ (by kernel_rfl)
  exact hout (m,n) (qj hm).symm
theorem ok_Se_91 (p0:LI) (f a g h i j:Int) (b c:LI) (k:Bool) (y) (hm:m_Se_91 p0 f a g h i j b c k=some y) (Q)
  (hin:∀ s,y=.inl s→EE c_Se_23 K_Se_23 (s_Se_23 p0 a s.1 s.2.1 s.2.2.1 s.2.2.2.1 s.2.2.2.2) Q) (hout:∀ e,y=.inr e→O_Se_23 p0 a Q e):EE c_Se_91 K_Se_91 (s_Se_91 p0 f a g h i j b c k) Q:=by
 obtain ⟨d,hm⟩|⟨d,hm⟩:=split_ite hm
 ·exact gw (hin _ (qj hm).symm) (u1 d<|wO (zn (([]:LI).length))<|wP (lens (([]:LI).length) (([]:LI).length) rfl)<|wN c.length<|z0) (by kernel_rfl)
 ·exact gw (hin _ (qj hm).symm) (v1 d<|wO (zn (([]:LI).length))<|wP (lens (([]:LI).length) (([]:LI).length) rfl)<|wN b.length<|z0) (by kernel_rfl)
theorem ok_Se_89 (p0:LI) (f a g h i:Int) (b:LI) (j:Int) (c:LI) (y) (hm:m_Se_89 p0 f a g h i b j c=some y) (Q)
  (hin:∀ s,y=.inl s→EE c_Se_23 K_Se_23 (s_Se_23 p0 a s.1 s.2.1 s.2.2.1 s.2.2.2.1 s.2.2.2.2) Q) (hout:∀ e,y=.inr e→O_Se_23 p0 a Q e):EE c_Se_89 K_Se_89 (s_Se_89 p0 f a g h i b j c) Q:=by
 obtain ⟨d,hm⟩|⟨d,hm⟩:=split_ite hm
 ·exact gw (ok_Se_91 _ _ _ _ _ _ _ _ _ _ y hm Q hin hout) (u4 d<|wO (zn (([]:LI).length))<|wP (lens (([]:LI).length) (([]:LI).length) rfl)<|wN b.length<|wN c.length<|z0) (by kernel_rfl)
 ·exact gw (ok_Se_91 _ _ _ _ _ _ _ _ _ _ y hm Q hin hout) (v4 d<|wO (zn (([]:LI).length))<|wP (lens (([]:LI).length) (([]:LI).length) rfl)<|wN b.length<|wN c.length<|z0) (by kernel_rfl)
theorem ok_Se_48 (p0:LI) (h d f:Int) (k:LI) (i j:Int) (a:LI) (l m:Int) (g:LI) (y) (hm:m_Se_48 p0 h d f k i j a l m g=some y) (Q)
  (hin:∀ s,y=.inl s→EE c_Se_48 K_Se_48 (s_Se_48 p0 h d f k i j a s.1 s.2.1 s.2.2) Q) (hout:∀ e,y=.inr e→O_Se_48 p0 h d f i j a Q e):EE c_Se_48 K_Se_48 (s_Se_48 p0 h d f k i j a l m g) Q:=by
 obtain ⟨v,q,hm⟩:=bind_some hm
 obtain ⟨p,hm⟩|⟨p,hm⟩:=split_ite hm
 ·obtain ⟨n,r,hm⟩:=bind_some hm
  obtain ⟨o,t,hm⟩:=bind_some hm
  refine gm c_Se_67 K_Se_67 (s_Se_67 p0 h d f k l m n i j a g 0 o 1) (wP (ck_p q)<|u1 p<|wO (.res (res_Sk n))<|wO (.res (res_Sj o))<|wO (zn (([]:LI).length))<|wP (ok_Sk k d f m n r)<|wP (ok_Sj 0 n o t)<|wP (lens (([]:LI).length) (([]:LI).length) rfl)<|wN a.length<|wN g.length<|z0) ?_ (by kernel_rfl)
  obtain ⟨e,he,hm⟩:=bind_some hm
  refine loop_rule (u:=.c c_Se_67) (K:=K_Se_67) (Q:=Q) (b:=lp_Se_67 p0 h d f k l m n i j a g) (We:=O_Se_67 p0 h d f k l m i j a g Q) (stJ:=fun s=>s_Se_67 p0 h d f k l m n i j a g s.1 s.2.1 s.2.2) (s:=(0,o,1)) (fun s y hb hin hout=>ok_Se_67 p0 h d f k l m n i j a g s.1 s.2.1 s.2.2 y hb Q hin hout) he ?_
  show EE c_Se_85 K_Se_85 (s_Se_85 p0 h d f k l m i j a g e.1 e.2) _
  exact ok_Se_85 p0 h d f k l m i j a g e.1 e.2 y hm Q hin hout
 ·refine gm c_Se_89 K_Se_89 (s_Se_89 p0 h d f i j a l g) (wP (ck_p q)<|v1 p<|wO (zn (([]:LI).length))<|wP (lens (([]:LI).length) (([]:LI).length) rfl)<|wN a.length<|wN g.length<|z0) ?_ (by kernel_rfl)
  exact hout (l,g) (qj hm).symm
theorem ok_Se_97 (p0:LI) (b c d f:Int) (a:LI) (y) (hm:m_Se_97 p0 b c d f a=some y) (Q)
  (hin:∀ s,y=.inl s→EE c_Se_11 K_Se_11 (s_Se_11 p0 s.1 s.2.1 s.2.2.1 s.2.2.2.1 s.2.2.2.2) Q) (hout:∀ e,y=.inr e→O_Se_11 Q e):EE c_Se_97 K_Se_97 (s_Se_97 p0 b c d f a) Q:=by
 exact gw (hin _ (qj hm).symm) (wO (zn (([]:LI).length))<|wP (lens (([]:LI).length) (([]:LI).length) rfl)<|wN a.length<|z0) (by kernel_rfl)
end Go.Proofs.V

namespace Go.Proofs.V
open Go
theorem ok_Se_23 (p0:LI) (a g h i j:Int) (d:LI) (y) (hm:m_Se_23 p0 a g h i j d=some y) (Q)
  (hin:∀ s,y=.inl s→EE c_Se_23 K_Se_23 (s_Se_23 p0 a s.1 s.2.1 s.2.2.1 s.2.2.2.1 s.2.2.2.2) Q) (hout:∀ e,y=.inr e→O_Se_23 p0 a Q e):EE c_Se_23 K_Se_23 (s_Se_23 p0 a g h i j d) Q:=by
 obtain ⟨k,hm⟩|⟨k,hm⟩:=split_ite hm
 ·obtain ⟨l,n,hm⟩:=bind_some hm
  obtain ⟨m,hm⟩|⟨m,hm⟩:=split_ite hm
  ·obtain ⟨f,o,hm⟩:=bind_some hm
   refine gm c_Se_48 K_Se_48 (s_Se_48 p0 g a h f i j d (w64 (6+(w64 (26*a)))) 0 ([]:LI)) (u1 k<|wL (rI .i64) p0<|wO (.res (res_Sl l))<|wP (ok_Sl a h (p0.length:Int) l n)<|v1 (not_f m)<|wO (.res (res_Sm f))<|wP (ok_Sm a p0 f o)<|wL (rI .i64) f<|wO (zi f)<|wO (zi f)<|wO (zn (([]:LI).length))<|wP (all_le (rI .i64) f rfl)<|wP (all_dt (rI .i64) f rfl)<|wP (all_le (rI .i64) f rfl)<|wP (all_dt (rI .i64) f rfl)<|wP (lens (([]:LI).length) (([]:LI).length) rfl)<|wN d.length<|wO (zn (([]:LI).length))<|wP (lens 0 (([]:LI).length) rfl)<|z0) ?_ (by kernel_rfl)
   obtain ⟨e,he,hm⟩:=bind_some hm
   refine loop_rule (u:=.c c_Se_48) (K:=K_Se_48) (Q:=Q) (b:=lp_Se_48 p0 g a h f i j d) (We:=O_Se_48 p0 g a h i j d Q) (stJ:=fun s=>s_Se_48 p0 g a h f i j d s.1 s.2.1 s.2.2) (s:=((w64 (6+(w64 (26*a)))),0,([]:LI))) (fun s y hb hin hout=>ok_Se_48 p0 g a h f i j d s.1 s.2.1 s.2.2 y hb Q hin hout) he ?_
   show EE c_Se_89 K_Se_89 (s_Se_89 p0 g a h i j d e.1 e.2) _
   exact ok_Se_89 p0 g a h i j d e.1 e.2 y hm Q hin hout
  ·exact gw (hin _ (qj hm).symm) (u1 k<|wL (rI .i64) p0<|wO (.res (res_Sl l))<|wP (ok_Sl a h (p0.length:Int) l n)<|u1 (not_t m)<|wO (zn (([]:LI).length))<|wP (lens (([]:LI).length) (([]:LI).length) rfl)<|wN d.length<|z0) (by kernel_rfl)
 ·refine gm c_Se_97 K_Se_97 (s_Se_97 p0 a g i j d) (v1 k<|wO (zn (([]:LI).length))<|wP (lens (([]:LI).length) (([]:LI).length) rfl)<|wN d.length<|z0) ?_ (by kernel_rfl)
  exact hout (g,i,j,d) (qj hm).symm
theorem ok_Se_98 (b c d:Int) (a:LI) (r:Zc×Int) (hm:m_Se_98 b c d a=some r):EE c_Se_98 K_Se_98 (s_Se_98 b c d a) (Post vf_Se (res_Se r)):=by
 exact ge (wR (rI .i64) a<|z0) (congrArg res_Se (qj hm)) (by kernel_rfl)
theorem ok_Se_11 (p0:LI) (f a g h:Int) (d:LI) (y) (hm:m_Se_11 p0 f a g h d=some y) (Q)
  (hin:∀ s,y=.inl s→EE c_Se_11 K_Se_11 (s_Se_11 p0 s.1 s.2.1 s.2.2.1 s.2.2.2.1 s.2.2.2.2) Q) (hout:∀ e,y=.inr e→O_Se_11 Q e):EE c_Se_11 K_Se_11 (s_Se_11 p0 f a g h d) Q:=by
 obtain ⟨i,hm⟩|⟨i,hm⟩:=split_ite hm
 ·refine gm c_Se_23 K_Se_23 (s_Se_23 p0 a f 0 g h d) (u1 i<|wO (zn (([]:LI).length))<|wP (lens (([]:LI).length) (([]:LI).length) rfl)<|wN d.length<|z0) ?_ (by kernel_rfl)
  obtain ⟨e,he,hm⟩:=bind_some hm
  refine loop_rule (u:=.c c_Se_23) (K:=K_Se_23) (Q:=Q) (b:=lp_Se_23 p0 a) (We:=O_Se_23 p0 a Q) (stJ:=fun s=>s_Se_23 p0 a s.1 s.2.1 s.2.2.1 s.2.2.2.1 s.2.2.2.2) (s:=(f,0,g,h,d)) (fun s y hb hin hout=>ok_Se_23 p0 a s.1 s.2.1 s.2.2.1 s.2.2.2.1 s.2.2.2.2 y hb Q hin hout) he ?_
  show EE c_Se_97 K_Se_97 (s_Se_97 p0 a e.1 e.2.1 e.2.2.1 e.2.2.2) _
  exact ok_Se_97 p0 a e.1 e.2.1 e.2.2.1 e.2.2.2 y hm Q hin hout
 ·refine gm c_Se_98 K_Se_98 (s_Se_98 f g h d) (v1 i<|wO (zn (([]:LI).length))<|wP (lens (([]:LI).length) (([]:LI).length) rfl)<|wN d.length<|z0) ?_ (by kernel_rfl)
  exact hout (f,g,h,d) (qj hm).symm
theorem ok_Se_0 (p0:LI) (r:Zc×Int) (hm:m_Se_0 p0=some r):EE c_Se_0 K_Se_0 (s_Se_0 p0) (Post vf_Se (res_Se r)):=by
 refine gm c_Se_11 K_Se_11 (s_Se_11 p0 (-1) 0 0 0 ([]:LI)) (wO (zn (([]:LI).length))<|wO (zn (([]:LI).length))<|wP (lens 0 (([]:LI).length) rfl)<|wP (lens 0 (([]:LI).length) rfl)<|z0) ?_ (by kernel_rfl)
 obtain ⟨e,he,hm⟩:=bind_some hm
 refine loop_rule (u:=.c c_Se_11) (K:=K_Se_11) (Q:=(Post vf_Se (res_Se r))) (b:=lp_Se_11 p0) (We:=O_Se_11 (Post vf_Se (res_Se r))) (stJ:=fun s=>s_Se_11 p0 s.1 s.2.1 s.2.2.1 s.2.2.2.1 s.2.2.2.2) (s:=((-1),0,0,0,([]:LI))) (fun s y hb hin hout=>ok_Se_11 p0 s.1 s.2.1 s.2.2.1 s.2.2.2.1 s.2.2.2.2 y hb (Post vf_Se (res_Se r)) hin hout) he ?_
 show EE c_Se_98 K_Se_98 (s_Se_98 e.1 e.2.1 e.2.2.1 e.2.2.2) _
 exact ok_Se_98 e.1 e.2.1 e.2.2.1 e.2.2.2 r hm
theorem ok_Se (p0:LI) (r:Zc×Int) (hm:m_Se p0=some r):Runs ext tbl 63 (as_Se p0) (res_Se r):=
 runs_of (vf:=vf_Se) (by kernel_rfl) rfl (st:=(enter vf_Se (as_Se p0)).getD default) (by kernel_rfl) (go_on [] 1000 J0 (ok_Se_0 p0 r hm) (by kernel_rfl))
def O_Ss_15 (p1 a:Int) (Q:VX→St→Prop) (e:(Bool×Int×LI)):Prop:=EE c_Ss_25 K_Ss_25 (s_Ss_25 p1 a e.1 e.2.1 e.2.2) Q
theorem ok_Ss_25 (p1 d:Int) (e:Bool) (f:Int) (b:LI) (r:Zb) (hm:m_Ss_25 p1 d e f b=some r):EE c_Ss_25 K_Ss_25 (s_Ss_25 p1 d e f b) (Post vf_Ss (res_Ss r)):=by
 obtain ⟨a,g,hm⟩:=bind_some hm
 obtain ⟨c,h,hm⟩:=bind_some hm
 exact ge (wR (rI .u8) b<|wO (.res (res_So a))<|wP (ok_So (Zb.mk e b f) 1 a g)<|wL (rI .u8) a.out<|wR (rI .u8) a.out<|wO (.res (res_Sr c))<|wP (ok_Sr a p1 d c h)<|wL (rI .u8) c.out<|wR (rI .u8) c.out<|z0) (congrArg res_Ss (qj hm)) (by kernel_rfl)
theorem ok_Ss_15 (p1 b h:Int) (c:Bool) (d:Int) (a:LI) (y) (hm:m_Ss_15 p1 b h c d a=some y) (Q)
  (hin:∀ s,y=.inl s→EE c_Ss_15 K_Ss_15 (s_Ss_15 p1 b s.1 s.2.1 s.2.2.1 s.2.2.2) Q) (hout:∀ e,y=.inr e→O_Ss_15 p1 b Q e):EE c_Ss_15 K_Ss_15 (s_Ss_15 p1 b h c d a) Q:=by
 obtain ⟨g,hm⟩|⟨g,hm⟩:=split_ite hm
 ·obtain ⟨f,i,hm⟩:=bind_some hm
  exact gw (hin _ (qj hm).symm) (u1 g<|wR (rI .u8) a<|wO (.res (res_So f))<|wP (ok_So (Zb.mk c a d) 0 f i)<|wL (rI .u8) f.out<|wN f.out.length<|z0) (by kernel_rfl)
 ·refine gm c_Ss_25 K_Ss_25 (s_Ss_25 p1 b c d a) (v1 g<|wN a.length<|z0) ?_ (by kernel_rfl)
  exact hout (c,d,a) (qj hm).symm
theorem ok_Ss_0 (p1 p2:Int) (p0 r:Zb) (hm:m_Ss_0 p1 p2 p0=some r):EE c_Ss_0 K_Ss_0 (s_Ss_0 p1 p2 p0) (Post vf_Ss (res_Ss r)):=by
 obtain ⟨d,hm⟩|⟨d,hm⟩:=split_ite hm
 ·obtain ⟨a,f,hm⟩:=bind_some hm
  exact ge (u1 d<|wR (rI .u8) p0.out<|wO (.res (res_Sr a))<|wP (ok_Sr p0 32 (wr .u64 p2) a f)<|wL (rI .u8) a.out<|wR (rI .u8) a.out<|z0) (congrArg res_Ss (qj hm)) (by kernel_rfl)
 ·obtain ⟨a,f,hm⟩:=bind_some hm
  obtain ⟨h,g,hm⟩:=bind_some hm
  refine gm c_Ss_15 K_Ss_15 (s_Ss_15 p1 a (shrI .u64 a (wr .u64 p1)) p0.high p0.n p0.out) (v1 d<|wO (.res (res_Sc a))<|wP (ok_Sc p2 a f)<|wP (ck_p g)<|wN p0.out.length<|z0) ?_ (by kernel_rfl)
  obtain ⟨e,he,hm⟩:=bind_some hm
  refine loop_rule (u:=.c c_Ss_15) (K:=K_Ss_15) (Q:=(Post vf_Ss (res_Ss r))) (b:=lp_Ss_15 p1 a) (We:=O_Ss_15 p1 a (Post vf_Ss (res_Ss r))) (stJ:=fun s=>s_Ss_15 p1 a s.1 s.2.1 s.2.2.1 s.2.2.2) (s:=((shrI .u64 a (wr .u64 p1)),p0.high,p0.n,p0.out)) (fun s y hb hin hout=>ok_Ss_15 p1 a s.1 s.2.1 s.2.2.1 s.2.2.2 y hb (Post vf_Ss (res_Ss r)) hin hout) he ?_
  show EE c_Ss_25 K_Ss_25 (s_Ss_25 p1 a e.1 e.2.1 e.2.2) _
  exact ok_Ss_25 p1 a e.1 e.2.1 e.2.2 r hm
theorem ok_Ss (p0:Zb) (p1 p2:Int) (r:Zb) (hm:m_Ss p0 p1 p2=some r):Runs ext tbl 91 (as_Ss p0 p1 p2) (res_Ss r):=
 runs_of (vf:=vf_Ss) (by kernel_rfl) rfl (st:=(enter vf_Ss (as_Ss p0 p1 p2)).getD default) (by kernel_rfl) (go_on [zn p0.out.length] 1000 (J (len_map (rI .u8) (rfl:p0.out.length=p0.out.length)) J0) (ok_Ss_0 p1 p2 p0 r hm) (by kernel_rfl))
def O_Sq_43 (a:LI) (b:Zc×Int) (c:Int) (Q:VX→St→Prop) (e:(Bool×Int×LI)):Prop:=EE c_Sq_55 K_Sq_55 (s_Sq_55 a b c e.1 e.2.1 e.2.2) Q
def O_Sq_27 (Q:VX→St→Prop) (e:Zb):Prop:=Q=Post vf_Sq (res_Sq e)
def O_Sq_11 (a:Zc×Int) (b:LI) (Q:VX→St→Prop) (e:(Bool×Int×LI)):Prop:=EE c_Sq_21 K_Sq_21 (s_Sq_21 a b e.1 e.2.1 e.2.2) Q
theorem ok_Sq_55 (b:LI) (a:Zc×Int) (d:Int) (f:Bool) (g:Int) (c:LI) (y) (hm:m_Sq_55 b a d f g c=some y) (Q)
  (hin:∀ s,y=.inl s→EE c_Sq_27 K_Sq_27 (s_Sq_27 b a s.1 s.2.1 s.2.2.1 s.2.2.2) Q) (hout:∀ e,y=.inr e→O_Sq_27 Q e):EE c_Sq_55 K_Sq_55 (s_Sq_55 b a d f g c) Q:=by
 exact gw (hin _ (qj hm).symm) (wK a.1.keys.length c.length a.1.keys.length<|z0) (by kernel_rfl)
theorem ok_Sq_43 (c:LI) (h:Int) (a:Zc×Int) (d:Int) (j:LI) (l:Int) (f:Bool) (g:Int) (b:LI) (y) (hm:m_Sq_43 c h a d j l f g b=some y) (Q)
  (hin:∀ s,y=.inl s→EE c_Sq_43 K_Sq_43 (s_Sq_43 c h a d j s.1 s.2.1 s.2.2.1 s.2.2.2) Q) (hout:∀ e,y=.inr e→O_Sq_43 c a d Q e):EE c_Sq_43 K_Sq_43 (s_Sq_43 c h a d j l f g b) Q:=by
 obtain ⟨k,hm⟩|⟨k,hm⟩:=split_ite hm
 ·obtain ⟨m,n,hm⟩:=bind_some hm
  obtain ⟨i,o,hm⟩:=bind_some hm
  exact gw (hin _ (qj hm).symm) (u1 k<|wO (.row ((rI .i64) m))<|wP (rd_nn n)<|wP (at_row (rI .i64) (rd_get n))<|wR (rI .u8) b<|wO (.res (res_Ss i))<|wP (ok_Ss (Zb.mk f b g) h m i o)<|wL (rI .u8) i.out<|wK a.1.keys.length i.out.length a.1.keys.length<|z0) (by kernel_rfl)
 ·refine gm c_Sq_55 K_Sq_55 (s_Sq_55 c a d f g b) (v1 k<|wK a.1.keys.length b.length a.1.keys.length<|z0) ?_ (by kernel_rfl)
  exact hout (f,g,b) (qj hm).symm
theorem ok_Sq_27 (d:LI) (a:Zc×Int) (f:Int) (i:Bool) (j:Int) (h:LI) (y) (hm:m_Sq_27 d a f i j h=some y) (Q)
  (hin:∀ s,y=.inl s→EE c_Sq_27 K_Sq_27 (s_Sq_27 d a s.1 s.2.1 s.2.2.1 s.2.2.2) Q) (hout:∀ e,y=.inr e→O_Sq_27 Q e):EE c_Sq_27 K_Sq_27 (s_Sq_27 d a f i j h) Q:=by
 obtain ⟨m,hm⟩|⟨m,hm⟩:=split_ite hm
 ·obtain ⟨l,o,hm⟩:=bind_some hm
  obtain ⟨g,p,hm⟩:=bind_some hm
  obtain ⟨k,q,hm⟩:=bind_some hm
  refine gm c_Sq_43 K_Sq_43 (s_Sq_43 d l a f k 0 g.high g.n g.out) (u1 m<|wO (.row ((rI .i64) l))<|wP (rd_in rfl o)<|wP (at_row (rI .i64) (rd_get0 o))<|wR (rI .u8) h<|wO (.res (res_Sr g))<|wP (ok_Sr (Zb.mk i h j) 5 (wr .u64 l) g p)<|wL (rI .u8) g.out<|wO (.res (res_Sk k))<|wP (ok_Sk d a.1.order a.1.parts f k q)<|wL (rI .i64) k<|wK a.1.keys.length g.out.length a.1.keys.length<|z0) ?_ (by kernel_rfl)
  obtain ⟨e,he,hm⟩:=bind_some hm
  refine loop_rule (u:=.c c_Sq_43) (K:=K_Sq_43) (Q:=Q) (b:=lp_Sq_43 d l a f k) (We:=O_Sq_43 d a f Q) (stJ:=fun s=>s_Sq_43 d l a f k s.1 s.2.1 s.2.2.1 s.2.2.2) (s:=(0,g.high,g.n,g.out)) (fun s y hb hin hout=>ok_Sq_43 d l a f k s.1 s.2.1 s.2.2.1 s.2.2.2 y hb Q hin hout) he ?_
  show EE c_Sq_55 K_Sq_55 (s_Sq_55 d a f e.1 e.2.1 e.2.2) _
  exact ok_Sq_55 d a f e.1 e.2.1 e.2.2 y hm Q hin hout
 ·have hQ:Q=Post vf_Sq (res_Sq (Zb.mk i h j)):=hout (Zb.mk i h j) (qj hm).symm
  subst hQ
  exact ge (v1 m<|wR (rI .u8) h<|z0) (rfl:res_Sq (Zb.mk i h j)=res_Sq (Zb.mk i h j)) (by kernel_rfl)
theorem ok_Sq_21 (d:Zc×Int) (f:LI) (h:Bool) (i:Int) (g:LI) (r:Zb) (hm:m_Sq_21 d f h i g=some r):EE c_Sq_21 K_Sq_21 (s_Sq_21 d f h i g) (Post vf_Sq (res_Sq r)):=by
 obtain ⟨a,j,hm⟩:=bind_some hm
 refine gm c_Sq_27 K_Sq_27 (s_Sq_27 f d 0 a.high a.n a.out) (wR (rI .u8) g<|wO (.res (res_Sr a))<|wP (ok_Sr (Zb.mk h g i) 3 (wr .u64 d.1.parts) a j)<|wL (rI .u8) a.out<|wO (zi f)<|wP (all_le (rI .i64) f rfl)<|wP (all_dt (rI .i64) f rfl)<|wK d.1.keys.length a.out.length d.1.keys.length<|z0) ?_ (by kernel_rfl)
 obtain ⟨e,he,hm⟩:=bind_some hm
 refine loop_rule (u:=.c c_Sq_27) (K:=K_Sq_27) (Q:=(Post vf_Sq (res_Sq r))) (b:=lp_Sq_27 f d) (We:=O_Sq_27 (Post vf_Sq (res_Sq r))) (stJ:=fun s=>s_Sq_27 f d s.1 s.2.1 s.2.2.1 s.2.2.2) (s:=(0,a.high,a.n,a.out)) (fun s y hb hin hout=>ok_Sq_27 f d s.1 s.2.1 s.2.2.1 s.2.2.2 y hb (Post vf_Sq (res_Sq r)) hin hout) he ?_
 exact congrArg (fun r=>Post vf_Sq (res_Sq r)) (qj hm).symm
theorem ok_Sq_11 (p1:LI) (a:Zc×Int) (b:LI) (i:Int) (d:Bool) (f:Int) (c:LI) (y) (hm:m_Sq_11 p1 a b i d f c=some y) (Q)
  (hin:∀ s,y=.inl s→EE c_Sq_11 K_Sq_11 (s_Sq_11 p1 a b s.1 s.2.1 s.2.2.1 s.2.2.2) Q) (hout:∀ e,y=.inr e→O_Sq_11 a b Q e):EE c_Sq_11 K_Sq_11 (s_Sq_11 p1 a b i d f c) Q:=by
 obtain ⟨h,hm⟩|⟨h,hm⟩:=split_ite hm
 ·obtain ⟨j,k,hm⟩:=bind_some hm
  obtain ⟨g,l,hm⟩:=bind_some hm
  exact gw (hin _ (qj hm).symm) (u1 h<|wO (.row ((rI .i64) j))<|wP (rd_nn k)<|wP (at_row (rI .i64) (rd_get k))<|wR (rI .u8) c<|wO (.res (res_Sr g))<|wP (ok_Sr (Zb.mk d c f) 26 (wr .u64 j) g l)<|wL (rI .u8) g.out<|wK b.length g.out.length a.1.keys.length<|z0) (by kernel_rfl)
 ·refine gm c_Sq_21 K_Sq_21 (s_Sq_21 a b d f c) (v1 h<|wK b.length c.length a.1.keys.length<|z0) ?_ (by kernel_rfl)
  exact hout (d,f,c) (qj hm).symm
theorem ok_Sq_0 (p1:LI) (p0 r:Zb) (hm:m_Sq_0 p1 p0=some r):EE c_Sq_0 K_Sq_0 (s_Sq_0 p1 p0) (Post vf_Sq (res_Sq r)):=by
 obtain ⟨a,g,hm⟩:=bind_some hm
 obtain ⟨d,h,hm⟩:=bind_some hm
 obtain ⟨f,i,hm⟩:=bind_some hm
 refine gm c_Sq_11 K_Sq_11 (s_Sq_11 p1 a d 0 f.high f.n f.out) (wO (.res (res_Se a))<|wP (ok_Se p1 a g)<|wL (rI .i64) a.1.keys<|wO (.res (res_Sm d))<|wP (ok_Sm a.1.order p1 d h)<|wL (rI .i64) d<|wR (rI .u8) p0.out<|wO (.res (res_Sr f))<|wP (ok_Sr p0 3 (wr .u64 a.1.order) f i)<|wL (rI .u8) f.out<|wK d.length f.out.length a.1.keys.length<|z0) ?_ (by kernel_rfl)
 obtain ⟨e,he,hm⟩:=bind_some hm
 refine loop_rule (u:=.c c_Sq_11) (K:=K_Sq_11) (Q:=(Post vf_Sq (res_Sq r))) (b:=lp_Sq_11 p1 a d) (We:=O_Sq_11 a d (Post vf_Sq (res_Sq r))) (stJ:=fun s=>s_Sq_11 p1 a d s.1 s.2.1 s.2.2.1 s.2.2.2) (s:=(0,f.high,f.n,f.out)) (fun s y hb hin hout=>ok_Sq_11 p1 a d s.1 s.2.1 s.2.2.1 s.2.2.2 y hb (Post vf_Sq (res_Sq r)) hin hout) he ?_
 show EE c_Sq_21 K_Sq_21 (s_Sq_21 a d e.1 e.2.1 e.2.2) _
 exact ok_Sq_21 a d e.1 e.2.1 e.2.2 r hm
theorem ok_Sq (p0:Zb) (p1:LI) (r:Zb) (hm:m_Sq p0 p1=some r):Runs ext tbl 64 (as_Sq p0 p1) (res_Sq r):=
 runs_of (vf:=vf_Sq) (by kernel_rfl) rfl (st:=(enter vf_Sq (as_Sq p0 p1)).getD default) (by kernel_rfl) (go_on [zn p0.out.length] 1000 (J (len_map (rI .u8) (rfl:p0.out.length=p0.out.length)) J0) (ok_Sq_0 p1 p0 r hm) (by kernel_rfl))
def O_Sp_2 (Q:VX→St→Prop) (e:Zb):Prop:=Q=Post vf_Sp (res_Sp e)
theorem ok_Sp_2 (b:Bool) (c:Int) (a:LI) (y) (hm:m_Sp_2 b c a=some y) (Q)
  (hin:∀ s,y=.inl s→EE c_Sp_2 K_Sp_2 (s_Sp_2 s.1 s.2.1 s.2.2) Q) (hout:∀ e,y=.inr e→O_Sp_2 Q e):EE c_Sp_2 K_Sp_2 (s_Sp_2 b c a) Q:=by
 obtain ⟨f,hm⟩|⟨f,hm⟩:=split_ite hm
 ·obtain ⟨d,g,hm⟩:=bind_some hm
  exact gw (hin _ (qj hm).symm) (wP (by decide:(8:Int)≠0)<|u1 f<|wR (rI .u8) a<|wO (.res (res_So d))<|wP (ok_So (Zb.mk b a c) 0 d g)<|wL (rI .u8) d.out<|wN d.out.length<|z0) (by kernel_rfl)
 ·have hQ:Q=Post vf_Sp (res_Sp (Zb.mk b a c)):=hout (Zb.mk b a c) (qj hm).symm
  subst hQ
  exact ge (wP (by decide:(8:Int)≠0)<|v1 f<|wR (rI .u8) a<|z0) (rfl:res_Sp (Zb.mk b a c)=res_Sp (Zb.mk b a c)) (by kernel_rfl)
theorem ok_Sp_0 (p0 r:Zb) (hm:m_Sp_0 p0=some r):EE c_Sp_0 K_Sp_0 (s_Sp_0 p0) (Post vf_Sp (res_Sp r)):=by
 refine gm c_Sp_2 K_Sp_2 (s_Sp_2 p0.high p0.n p0.out) (wN p0.out.length<|z0) ?_ (by kernel_rfl)
 obtain ⟨e,he,hm⟩:=bind_some hm
 refine loop_rule (u:=.c c_Sp_2) (K:=K_Sp_2) (Q:=(Post vf_Sp (res_Sp r))) (b:=lp_Sp_2) (We:=O_Sp_2 (Post vf_Sp (res_Sp r))) (stJ:=fun s=>s_Sp_2 s.1 s.2.1 s.2.2) (s:=(p0.high,p0.n,p0.out)) (fun s y hb hin hout=>ok_Sp_2 s.1 s.2.1 s.2.2 y hb (Post vf_Sp (res_Sp r)) hin hout) he ?_
 exact congrArg (fun r=>Post vf_Sp (res_Sp r)) (qj hm).symm
theorem ok_Sp (p0 r:Zb) (hm:m_Sp p0=some r):Runs ext tbl 65 (as_Sp p0) (res_Sp r):=
 runs_of (vf:=vf_Sp) (by kernel_rfl) rfl (st:=(enter vf_Sp (as_Sp p0)).getD default) (by kernel_rfl) (go_on [zn p0.out.length] 1000 (J (len_map (rI .u8) (rfl:p0.out.length=p0.out.length)) J0) (ok_Sp_0 p0 r hm) (by kernel_rfl))
def O_Sa_25 (p0:LI) (a:Int) (Q:VX→St→Prop) (e:(Int)):Prop:=EE c_Sa_43 K_Sa_43 (s_Sa_43 p0 a e) Q
def O_Sa_9 (Q:VX→St→Prop) (e:(Int)):Prop:=EE c_Sa_44 K_Sa_44 (s_Sa_44 e) Q
theorem ok_Sa_43 (p0:LI) (a b:Int) (y) (hm:m_Sa_43 p0 a b=some y) (Q)
  (hin:∀ s,y=.inl s→EE c_Sa_9 K_Sa_9 (s_Sa_9 p0 s.1 s.2) Q) (hout:∀ e,y=.inr e→O_Sa_9 Q e):EE c_Sa_43 K_Sa_43 (s_Sa_43 p0 a b) Q:=by
 exact gw (hin _ (qj hm).symm) (z0) (by kernel_rfl)
theorem ok_Sa_25 (p0:LI) (a b f:Int) (y) (hm:m_Sa_25 p0 a b f=some y) (Q)
  (hin:∀ s,y=.inl s→EE c_Sa_25 K_Sa_25 (s_Sa_25 p0 a s.1 s.2) Q) (hout:∀ e,y=.inr e→O_Sa_25 p0 a Q e):EE c_Sa_25 K_Sa_25 (s_Sa_25 p0 a b f) Q:=by
 obtain ⟨c,hm⟩|⟨c,hm⟩:=split_ite hm
 ·obtain ⟨d,hm⟩|⟨d,hm⟩:=split_ite hm
  ·exact gw (hin _ (qj hm).symm) (u1 c<|wP (by decide:(0:Int)≤1)<|u1 d<|z0) (by kernel_rfl)
  ·exact gw (hin _ (qj hm).symm) (u1 c<|wP (by decide:(0:Int)≤1)<|v1 d<|z0) (by kernel_rfl)
 ·refine gm c_Sa_43 K_Sa_43 (s_Sa_43 p0 a b) (v1 c<|z0) ?_ (by kernel_rfl)
  exact hout b (qj hm).symm
theorem ok_Sa_44 (a r:Int) (hm:m_Sa_44 a=some r):EE c_Sa_44 K_Sa_44 (s_Sa_44 a) (Post vf_Sa (res_Sa r)):=by
 exact ge (z0) (congrArg res_Sa (qj hm)) (by kernel_rfl)
theorem ok_Sa_9 (p0:LI) (d a:Int) (y) (hm:m_Sa_9 p0 d a=some y) (Q)
  (hin:∀ s,y=.inl s→EE c_Sa_9 K_Sa_9 (s_Sa_9 p0 s.1 s.2) Q) (hout:∀ e,y=.inr e→O_Sa_9 Q e):EE c_Sa_9 K_Sa_9 (s_Sa_9 p0 d a) Q:=by
 obtain ⟨f,hm⟩|⟨f,hm⟩:=split_ite hm
 ·obtain ⟨g,h,hm⟩:=bind_some hm
  refine gm c_Sa_25 K_Sa_25 (s_Sa_25 p0 a (xorI .u32 d (wr .u32 g)) 0) (u1 f<|wO (.row ((rI .u8) g))<|wP (rd_nn h)<|wP (at_row (rI .u8) (rd_get h))<|z0) ?_ (by kernel_rfl)
  obtain ⟨e,he,hm⟩:=bind_some hm
  refine loop_rule (u:=.c c_Sa_25) (K:=K_Sa_25) (Q:=Q) (b:=lp_Sa_25 p0 a) (We:=O_Sa_25 p0 a Q) (stJ:=fun s=>s_Sa_25 p0 a s.1 s.2) (s:=((xorI .u32 d (wr .u32 g)),0)) (fun s y hb hin hout=>ok_Sa_25 p0 a s.1 s.2 y hb Q hin hout) he ?_
  show EE c_Sa_43 K_Sa_43 (s_Sa_43 p0 a e) _
  exact ok_Sa_43 p0 a e y hm Q hin hout
 ·refine gm c_Sa_44 K_Sa_44 (s_Sa_44 d) (v1 f<|z0) ?_ (by kernel_rfl)
  exact hout d (qj hm).symm
theorem ok_Sa_0 (p0:LI) (r:Int) (hm:m_Sa_0 p0=some r):EE c_Sa_0 K_Sa_0 (s_Sa_0 p0) (Post vf_Sa (res_Sa r)):=by
 refine gm c_Sa_9 K_Sa_9 (s_Sa_9 p0 4294967295 0) (wL (rI .u8) p0<|z0) ?_ (by kernel_rfl)
 obtain ⟨e,he,hm⟩:=bind_some hm
 refine loop_rule (u:=.c c_Sa_9) (K:=K_Sa_9) (Q:=(Post vf_Sa (res_Sa r))) (b:=lp_Sa_9 p0) (We:=O_Sa_9 (Post vf_Sa (res_Sa r))) (stJ:=fun s=>s_Sa_9 p0 s.1 s.2) (s:=(4294967295,0)) (fun s y hb hin hout=>ok_Sa_9 p0 s.1 s.2 y hb (Post vf_Sa (res_Sa r)) hin hout) he ?_
 show EE c_Sa_44 K_Sa_44 (s_Sa_44 e) _
 exact ok_Sa_44 e r hm
theorem ok_Sa (p0:LI) (r:Int) (hm:m_Sa p0=some r):Runs ext tbl 66 (as_Sa p0) (res_Sa r):=
 runs_of (vf:=vf_Sa) (by kernel_rfl) rfl (st:=(enter vf_Sa (as_Sa p0)).getD default) (by kernel_rfl) (go_on [] 1000 J0 (ok_Sa_0 p0 r hm) (by kernel_rfl))
def O_Sf_50 (Q:VX→St→Prop) (e:(Bool×Int×LI)):Prop:=EE c_Sf_62 K_Sf_62 (s_Sf_62 e.1 e.2.1 e.2.2) Q
def O_Sf_15 (p0:(List LI)) (Q:VX→St→Prop) (e:(Int)):Prop:=EE c_Sf_37 K_Sf_37 (s_Sf_37 p0 e) Q
theorem ok_Sf_31 (p0:(List LI)) (b c d:Int) (f:Zc×Int) (g:Zc×Int) (h:Bool) (y) (hm:m_Sf_31 p0 b c d f g h=some y) (Q)
  (hin:∀ s,y=.inl s→EE c_Sf_15 K_Sf_15 (s_Sf_15 p0 s.1 s.2.1 s.2.2) Q) (hout:∀ e,y=.inr e→O_Sf_15 p0 Q e):EE c_Sf_31 K_Sf_31 (s_Sf_31 p0 b c d f g h) Q:=by
 obtain ⟨a,hm⟩|⟨a,hm⟩:=split_ite hm
 ·exact gw (hin _ (qj hm).symm) (u1 a<|z0) (by kernel_rfl)
 ·exact gw (hin _ (qj hm).symm) (v1 a<|z0) (by kernel_rfl)
theorem ok_Sf_62 (d:Bool) (e:Int) (c r:LI) (hm:m_Sf_62 d e c=some r):EE c_Sf_62 K_Sf_62 (s_Sf_62 d e c) (Post vf_Sf (res_Sf r)):=by
 obtain ⟨b,f,hm⟩:=bind_some hm
 obtain ⟨a,g,hm⟩:=bind_some hm
 obtain ⟨i,h,hm⟩:=bind_some hm
 exact ge (wR (rI .u8) c<|wO (.res (res_Sp b))<|wP (ok_Sp (Zb.mk d c e) b f)<|wL (rI .u8) b.out<|wO (.rows (List.map (rI .u8) b.out))<|wO (.res (res_Sa a))<|wO (.rows (List.map (rI .u8) ([(wr .u8 (shrI .u32 a 8)),(wr .u8 a)]:LI)))<|wO (zn 2)<|wO (.rows (List.map (rI .u8) (b.out++([(wr .u8 (shrI .u32 a 8)),(wr .u8 a)]:LI))))<|wO (zn ((b.out++([(wr .u8 (shrI .u32 a 8)),(wr .u8 a)]:LI)).length))<|wO (.rows (List.map (rI .u8) (b.out++([(wr .u8 (shrI .u32 a 8)),(wr .u8 a)]:LI))))<|wP (all_le (rI .u8) b.out rfl)<|wP (all_dt (rI .u8) b.out rfl)<|wP (ok_Sa b.out a g)<|wP (by decide:(0:Int)≤8)<|wP (Eq.refl (List.map (rI .u8) ([(wr .u8 (shrI .u32 a 8)),(wr .u8 a)]:LI)))<|wP (len_map (rI .u8) (show 2=([(wr .u8 (shrI .u32 a 8)),(wr .u8 a)]:LI).length from rfl))<|wP (all_le (rI .u8) ([(wr .u8 (shrI .u32 a 8)),(wr .u8 a)]:LI) rfl)<|wP (app_ck (rI .u8) b.out ([(wr .u8 (shrI .u32 a 8)),(wr .u8 a)]:LI) rfl rfl h)<|wP (app_tell (rI .u8) b.out ([(wr .u8 (shrI .u32 a 8)),(wr .u8 a)]:LI) rfl rfl)<|wP (len_map (rI .u8) (show (b.out++([(wr .u8 (shrI .u32 a 8)),(wr .u8 a)]:LI)).length=(b.out++([(wr .u8 (shrI .u32 a 8)),(wr .u8 a)]:LI)).length from rfl))<|wP (all_le0 (rI .u8) (b.out++([(wr .u8 (shrI .u32 a 8)),(wr .u8 a)]:LI)) rfl)<|wP (all_t (rI .u8) (b.out++([(wr .u8 (shrI .u32 a 8)),(wr .u8 a)]:LI)) rfl)<|z0) (congrArg res_Sf (qj hm)) (by kernel_rfl)
theorem ok_Sf_50 (g:(List LI)) (h i:Int) (b:Bool) (c:Int) (a:LI) (y) (hm:m_Sf_50 g h i b c a=some y) (Q)
  (hin:∀ s,y=.inl s→EE c_Sf_50 K_Sf_50 (s_Sf_50 s.1 s.2.1 s.2.2.1 s.2.2.2.1 s.2.2.2.2.1 s.2.2.2.2.2) Q) (hout:∀ e,y=.inr e→O_Sf_50 Q e):EE c_Sf_50 K_Sf_50 (s_Sf_50 g h i b c a) Q:=by
 obtain ⟨f,hm⟩|⟨f,hm⟩:=split_ite hm
 ·obtain ⟨j,k,hm⟩:=bind_some hm
  obtain ⟨d,l,hm⟩:=bind_some hm
  exact gw (hin _ (qj hm).symm) (u1 f<|wO (.row ((rL (rI .i64)) j))<|wP (rd_nn k)<|wP (at_row (rL (rI .i64)) (rd_get k))<|wR (rI .u8) a<|wO (.res (res_Sq d))<|wP (ok_Sq (Zb.mk b a c) j d l)<|wL (rI .u8) d.out<|wN d.out.length<|z0) (by kernel_rfl)
 ·refine gm c_Sf_62 K_Sf_62 (s_Sf_62 b c a) (v1 f<|wN a.length<|z0) ?_ (by kernel_rfl)
  exact hout (b,c,a) (qj hm).symm
theorem ok_Sf_37 (p0:(List LI)) (f:Int) (r:LI) (hm:m_Sf_37 p0 f=some r):EE c_Sf_37 K_Sf_37 (s_Sf_37 p0 f) (Post vf_Sf (res_Sf r)):=by
 obtain ⟨g,h,hm⟩:=bind_some hm
 obtain ⟨i,j,hm⟩:=bind_some hm
 obtain ⟨a,k,hm⟩:=bind_some hm
 obtain ⟨d,l,hm⟩:=bind_some hm
 refine gm c_Sf_50 K_Sf_50 (s_Sf_50 ([a.1,a.2]:List LI) 2 0 d.high d.n d.out) (wO (.row ((rL (rI .i64)) g))<|wO (.row ((rL (rI .i64)) i))<|wO (.res (res_Sn a))<|wP (rd_nn h)<|wP (at_row (rL (rI .i64)) (rd_get h))<|wP (rd_nn j)<|wP (at_row (rL (rI .i64)) (rd_get j))<|wP (ok_Sn f g i a k)<|wL (rI .i64) a.1<|wL (rI .i64) a.2<|wR (rI .i64) a.2<|wR (rI .i64) a.1<|wO (.rows (List.map (rL (rI .i64)) ([a.1,a.2]:List LI)))<|wO (zn 2)<|wO (.rows (List.map (rI .u8) ([]:LI)))<|wO (.res (res_Sr d))<|wP (Eq.refl (List.map (rL (rI .i64)) ([a.1,a.2]:List LI)))<|wP (len_map (rL (rI .i64)) (show 2=([a.1,a.2]:List LI).length from rfl))<|wP (all_le0 (rI .u8) ([]:LI) rfl)<|wP (all_t (rI .u8) ([]:LI) rfl)<|wP (ok_Sr (Zb.mk true ([]:LI) 0) 2 (wr .u64 f) d l)<|wL (rI .u8) d.out<|wO (.rows (List.map (rL (rI .i64)) ([a.1,a.2]:List LI)))<|wO (.rows (List.map (rL (rI .i64)) ([a.1,a.2]:List LI)))<|wO (.rows (List.map (rL (rI .i64)) ([a.1,a.2]:List LI)))<|wO (zn d.out.length)<|wP (all_le (rL (rI .i64)) ([a.1,a.2]:List LI) rfl)<|wP (all_dt (rL (rI .i64)) ([a.1,a.2]:List LI) rfl)<|wP (all_le (rL (rI .i64)) ([a.1,a.2]:List LI) rfl)<|wP (all_dt (rL (rI .i64)) ([a.1,a.2]:List LI) rfl)<|wP (all_le (rL (rI .i64)) ([a.1,a.2]:List LI) rfl)<|wP (all_dt (rL (rI .i64)) ([a.1,a.2]:List LI) rfl)<|wP (ln d.out.length)<|z0) ?_ (by kernel_rfl)
 obtain ⟨e,he,hm⟩:=bind_some hm
 refine loop_rule (u:=.c c_Sf_50) (K:=K_Sf_50) (Q:=(Post vf_Sf (res_Sf r))) (b:=lp_Sf_50) (We:=O_Sf_50 (Post vf_Sf (res_Sf r))) (stJ:=fun s=>s_Sf_50 s.1 s.2.1 s.2.2.1 s.2.2.2.1 s.2.2.2.2.1 s.2.2.2.2.2) (s:=(([a.1,a.2]:List LI),2,0,d.high,d.n,d.out)) (fun s y hb hin hout=>ok_Sf_50 s.1 s.2.1 s.2.2.1 s.2.2.2.1 s.2.2.2.2.1 s.2.2.2.2.2 y hb (Post vf_Sf (res_Sf r)) hin hout) he ?_
 show EE c_Sf_62 K_Sf_62 (s_Sf_62 e.1 e.2.1 e.2.2) _
 exact ok_Sf_62 e.1 e.2.1 e.2.2 r hm
theorem ok_Sf_15 (p0:(List LI)) (f m g:Int) (y) (hm:m_Sf_15 p0 f m g=some y) (Q)
  (hin:∀ s,y=.inl s→EE c_Sf_15 K_Sf_15 (s_Sf_15 p0 s.1 s.2.1 s.2.2) Q) (hout:∀ e,y=.inr e→O_Sf_15 p0 Q e):EE c_Sf_15 K_Sf_15 (s_Sf_15 p0 f m g) Q:=by
 obtain ⟨h,hm⟩|⟨h,hm⟩:=split_ite hm
 ·obtain ⟨i,j,hm⟩:=bind_some hm
  obtain ⟨k,l,hm⟩:=bind_some hm
  obtain ⟨a,n,hm⟩:=bind_some hm
  obtain ⟨b,o,hm⟩:=bind_some hm
  obtain ⟨c,p,hm⟩:=bind_some hm
  obtain ⟨d,hm⟩|⟨d,hm⟩:=split_ite hm
  ·exact gw (ok_Sf_31 _ _ _ _ _ _ _ y hm Q hin hout) (u1 h<|wO (.row ((rL (rI .i64)) i))<|wO (.row ((rL (rI .i64)) k))<|wO (.res (res_Sn a))<|wP (rd_nn j)<|wP (at_row (rL (rI .i64)) (rd_get j))<|wP (rd_nn l)<|wP (at_row (rL (rI .i64)) (rd_get l))<|wP (ok_Sn g i k a n)<|wL (rI .i64) a.1<|wL (rI .i64) a.2<|wO (zi a.1)<|wO (.res (res_Se b))<|wP (all_le (rI .i64) a.1 rfl)<|wP (all_dt (rI .i64) a.1 rfl)<|wP (ok_Se a.1 b o)<|wL (rI .i64) b.1.keys<|wO (zi a.2)<|wO (.res (res_Se c))<|wP (all_le (rI .i64) a.2 rfl)<|wP (all_dt (rI .i64) a.2 rfl)<|wP (ok_Se a.2 c p)<|wL (rI .i64) c.1.keys<|u4 d<|u2 d<|z0) (by kernel_rfl)
  ·exact gw (ok_Sf_31 _ _ _ _ _ _ _ y hm Q hin hout) (u1 h<|wO (.row ((rL (rI .i64)) i))<|wO (.row ((rL (rI .i64)) k))<|wO (.res (res_Sn a))<|wP (rd_nn j)<|wP (at_row (rL (rI .i64)) (rd_get j))<|wP (rd_nn l)<|wP (at_row (rL (rI .i64)) (rd_get l))<|wP (ok_Sn g i k a n)<|wL (rI .i64) a.1<|wL (rI .i64) a.2<|wO (zi a.1)<|wO (.res (res_Se b))<|wP (all_le (rI .i64) a.1 rfl)<|wP (all_dt (rI .i64) a.1 rfl)<|wP (ok_Se a.1 b o)<|wL (rI .i64) b.1.keys<|wO (zi a.2)<|wO (.res (res_Se c))<|wP (all_le (rI .i64) a.2 rfl)<|wP (all_dt (rI .i64) a.2 rfl)<|wP (ok_Se a.2 c p)<|wL (rI .i64) c.1.keys<|v4 d<|v2 d<|z0) (by kernel_rfl)
 ·refine gm c_Sf_37 K_Sf_37 (s_Sf_37 p0 f) (v1 h<|z0) ?_ (by kernel_rfl)
  exact hout f (qj hm).symm
theorem ok_Sf_0 (p0:(List LI)) (r:LI) (hm:m_Sf_0 p0=some r):EE c_Sf_0 K_Sf_0 (s_Sf_0 p0) (Post vf_Sf (res_Sf r)):=by
 obtain ⟨d,hm⟩|⟨d,hm⟩:=split_ite hm
 ·refine gm c_Sf_15 K_Sf_15 (s_Sf_15 p0 0 (-1) 0) (wO (zn p0.length)<|wP (len_map (rL (rI .i64)) (show p0.length=p0.length from rfl))<|u1 d<|z0) ?_ (by kernel_rfl)
  obtain ⟨e,he,hm⟩:=bind_some hm
  refine loop_rule (u:=.c c_Sf_15) (K:=K_Sf_15) (Q:=(Post vf_Sf (res_Sf r))) (b:=lp_Sf_15 p0) (We:=O_Sf_15 p0 (Post vf_Sf (res_Sf r))) (stJ:=fun s=>s_Sf_15 p0 s.1 s.2.1 s.2.2) (s:=(0,(-1),0)) (fun s y hb hin hout=>ok_Sf_15 p0 s.1 s.2.1 s.2.2 y hb (Post vf_Sf (res_Sf r)) hin hout) he ?_
  show EE c_Sf_37 K_Sf_37 (s_Sf_37 p0 e) _
  exact ok_Sf_37 p0 e r hm
 ·obtain ⟨a,f,hm⟩:=bind_some hm
  refine gm c_Sf_50 K_Sf_50 (s_Sf_50 p0 (p0.length:Int) 0 a.high a.n a.out) (wO (zn p0.length)<|wP (len_map (rL (rI .i64)) (show p0.length=p0.length from rfl))<|v1 d<|wO (.rows (List.map (rI .u8) ([]:LI)))<|wO (.res (res_Sr a))<|wP (all_le0 (rI .u8) ([]:LI) rfl)<|wP (all_t (rI .u8) ([]:LI) rfl)<|wP (ok_Sr (Zb.mk true ([]:LI) 0) 2 (wr .u64 0) a f)<|wL (rI .u8) a.out<|wO (zn p0.length)<|wP (len_map (rL (rI .i64)) (show p0.length=p0.length from rfl))<|wN a.out.length<|z0) ?_ (by kernel_rfl)
  obtain ⟨e,he,hm⟩:=bind_some hm
  refine loop_rule (u:=.c c_Sf_50) (K:=K_Sf_50) (Q:=(Post vf_Sf (res_Sf r))) (b:=lp_Sf_50) (We:=O_Sf_50 (Post vf_Sf (res_Sf r))) (stJ:=fun s=>s_Sf_50 s.1 s.2.1 s.2.2.1 s.2.2.2.1 s.2.2.2.2.1 s.2.2.2.2.2) (s:=(p0,(p0.length:Int),0,a.high,a.n,a.out)) (fun s y hb hin hout=>ok_Sf_50 s.1 s.2.1 s.2.2.1 s.2.2.2.1 s.2.2.2.2.1 s.2.2.2.2.2 y hb (Post vf_Sf (res_Sf r)) hin hout) he ?_
  show EE c_Sf_62 K_Sf_62 (s_Sf_62 e.1 e.2.1 e.2.2) _
  exact ok_Sf_62 e.1 e.2.1 e.2.2 r hm
theorem ok_Sf (p0:(List LI)) (r:LI) (hm:m_Sf p0=some r):Runs ext tbl 27 (as_Sf p0) (res_Sf r):=
 runs_of (vf:=vf_Sf) (by kernel_rfl) rfl (st:=(enter vf_Sf (as_Sf p0)).getD default) (by kernel_rfl) (go_on [] 1000 J0 (ok_Sf_0 p0 r hm) (by kernel_rfl))
def O_Sb_54 (a:LI) (b:Int) (p0:Za) (c:LI) (Q:VX→St→Prop) (e:((List LI))):Prop:=EE c_Sb_66 K_Sb_66 (s_Sb_66 a b p0 c e) Q
def O_Sb_31 (Q:VX→St→Prop) (e:(LI)):Prop:=EE c_Sb_68 K_Sb_68 (s_Sb_68 e) Q
theorem ok_Sb_66 (d:LI) (f:Int) (p0:Za) (b:LI) (c:(List LI)) (y) (hm:m_Sb_66 d f p0 b c=some y) (Q)
  (hin:∀ s,y=.inl s→EE c_Sb_31 K_Sb_31 (s_Sb_31 d p0 s.1 s.2) Q) (hout:∀ e,y=.inr e→O_Sb_31 Q e):EE c_Sb_66 K_Sb_66 (s_Sb_66 d f p0 b c) Q:=by
 obtain ⟨a,g,hm⟩:=bind_some hm
 obtain ⟨i,h,hm⟩:=bind_some hm
 exact gw (hin _ (qj hm).symm) (wO (.rows (List.map (rL (rI .i64)) c))<|wO (.res (res_Sf a))<|wP (all_le (rL (rI .i64)) c rfl)<|wP (all_dt (rL (rI .i64)) c rfl)<|wP (ok_Sf c a g)<|wL (rI .u8) a<|wO (.rows (List.map (rI .u8) (b++a)))<|wO (zn ((b++a).length))<|wO (zn ((b++a).length))<|wP (all_le (rI .u8) a rfl)<|wP (app_ck (rI .u8) b a rfl rfl h)<|wP (app_tell (rI .u8) b a rfl rfl)<|wP (len_map (rI .u8) (show (b++a).length=(b++a).length from rfl))<|wP (lens ((b++a).length) ((b++a).length) rfl)<|z0) (by kernel_rfl)
theorem ok_Sb_54 (g:LI) (a b:Int) (p0:Za) (f:LI) (i:Int) (d:(List LI)) (y) (hm:m_Sb_54 g a b p0 f i d=some y) (Q)
  (hin:∀ s,y=.inl s→EE c_Sb_54 K_Sb_54 (s_Sb_54 g a b p0 f s.1 s.2) Q) (hout:∀ e,y=.inr e→O_Sb_54 g a p0 f Q e):EE c_Sb_54 K_Sb_54 (s_Sb_54 g a b p0 f i d) Q:=by
 obtain ⟨h,hm⟩|⟨h,hm⟩:=split_ite hm
 ·obtain ⟨c,j,hm⟩:=bind_some hm
  obtain ⟨n,k,hm⟩:=bind_some hm
  obtain ⟨o,l,hm⟩:=bind_some hm
  obtain ⟨p,m,hm⟩:=bind_some hm
  exact gw (hin _ (qj hm).symm) (u1 h<|wO (.row ((rL (rI .i64)) c))<|wO (.rows (mi ((c.take (Int.toNat b)).drop (Int.toNat a))))<|wO (.rows (List.map (rL (rI .i64)) ([((c.take (Int.toNat b)).drop (Int.toNat a))]:List LI)))<|wO (zn 1)<|wO (.rows (List.map (rL (rI .i64)) (d++([((c.take (Int.toNat b)).drop (Int.toNat a))]:List LI))))<|wO (zn ((d++([((c.take (Int.toNat b)).drop (Int.toNat a))]:List LI)).length))<|wO (zn f.length)<|wO (zn ((d++([((c.take (Int.toNat b)).drop (Int.toNat a))]:List LI)).length))<|wP (rd_nn j)<|wP (at_row (rL (rI .i64)) (rd_get j))<|wP (slc_hi (rI .i64) c (ck_p k))<|wP (ck_p l)<|wP (slc_tell (rI .i64) c (Int.toNat a) (Int.toNat b))<|wP (Eq.refl (List.map (rL (rI .i64)) ([((c.take (Int.toNat b)).drop (Int.toNat a))]:List LI)))<|wP (len_map (rL (rI .i64)) (show 1=([((c.take (Int.toNat b)).drop (Int.toNat a))]:List LI).length from rfl))<|wP (all_le (rL (rI .i64)) ([((c.take (Int.toNat b)).drop (Int.toNat a))]:List LI) rfl)<|wP (app_ck (rL (rI .i64)) d ([((c.take (Int.toNat b)).drop (Int.toNat a))]:List LI) rfl rfl m)<|wP (app_tell (rL (rI .i64)) d ([((c.take (Int.toNat b)).drop (Int.toNat a))]:List LI) rfl rfl)<|wP (len_map (rL (rI .i64)) (show (d++([((c.take (Int.toNat b)).drop (Int.toNat a))]:List LI)).length=(d++([((c.take (Int.toNat b)).drop (Int.toNat a))]:List LI)).length from rfl))<|wP (ln f.length)<|wP (lens ((d++([((c.take (Int.toNat b)).drop (Int.toNat a))]:List LI)).length) ((d++([((c.take (Int.toNat b)).drop (Int.toNat a))]:List LI)).length) rfl)<|z0) (by kernel_rfl)
 ·refine gm c_Sb_66 K_Sb_66 (s_Sb_66 g a p0 f d) (v1 h<|wN f.length<|wN d.length<|z0) ?_ (by kernel_rfl)
  exact hout d (qj hm).symm
theorem ok_Sb_47 (a:LI) (f:Int) (p0:Za) (d:LI) (g:Int) (y) (hm:m_Sb_47 a f p0 d g=some y) (Q)
  (hin:∀ s,y=.inl s→EE c_Sb_31 K_Sb_31 (s_Sb_31 a p0 s.1 s.2) Q) (hout:∀ e,y=.inr e→O_Sb_31 Q e):EE c_Sb_47 K_Sb_47 (s_Sb_47 a f p0 d g) Q:=by
 refine gm c_Sb_54 K_Sb_54 (s_Sb_54 a f g p0 d 0 ([]:List LI)) (wO (zn p0.channels.length)<|wP (len_map (rL (rI .i64)) (show p0.channels.length=p0.channels.length from rfl))<|wN d.length<|wO (zn (([]:List LI).length))<|wP (lens 0 (([]:List LI).length) rfl)<|z0) ?_ (by kernel_rfl)
 obtain ⟨e,he,hm⟩:=bind_some hm
 refine loop_rule (u:=.c c_Sb_54) (K:=K_Sb_54) (Q:=Q) (b:=lp_Sb_54 a f g p0 d) (We:=O_Sb_54 a f p0 d Q) (stJ:=fun s=>s_Sb_54 a f g p0 d s.1 s.2) (s:=(0,([]:List LI))) (fun s y hb hin hout=>ok_Sb_54 a f g p0 d s.1 s.2 y hb Q hin hout) he ?_
 show EE c_Sb_66 K_Sb_66 (s_Sb_66 a f p0 d e) _
 exact ok_Sb_66 a f p0 d e y hm Q hin hout
theorem ok_Sb_68 (a r:LI) (hm:m_Sb_68 a=some r):EE c_Sb_68 K_Sb_68 (s_Sb_68 a) (Post vf_Sb (res_Sb r)):=by
 obtain ⟨b,hm⟩|⟨b,hm⟩:=split_ite hm
 ·exact ge (u1 b<|wO (.rows (List.map (rI .u8) ([]:LI)))<|wP (all_le0 (rI .u8) ([]:LI) rfl)<|wP (all_t (rI .u8) ([]:LI) rfl)<|z0) (congrArg res_Sb (qj hm)) (by kernel_rfl)
 ·exact ge (v1 b<|wR (rI .u8) a<|z0) (congrArg res_Sb (qj hm)) (by kernel_rfl)
theorem ok_Sb_31 (c:LI) (p0:Za) (f:Int) (a:LI) (y) (hm:m_Sb_31 c p0 f a=some y) (Q)
  (hin:∀ s,y=.inl s→EE c_Sb_31 K_Sb_31 (s_Sb_31 c p0 s.1 s.2) Q) (hout:∀ e,y=.inr e→O_Sb_31 Q e):EE c_Sb_31 K_Sb_31 (s_Sb_31 c p0 f a) Q:=by
 obtain ⟨b,hm⟩|⟨b,hm⟩:=split_ite hm
 ·obtain ⟨d,hm⟩|⟨d,hm⟩:=split_ite hm
  ·exact gw (ok_Sb_47 _ _ _ _ _ y hm Q hin hout) (u1 b<|u1 d<|wN a.length<|z0) (by kernel_rfl)
  ·exact gw (ok_Sb_47 _ _ _ _ _ y hm Q hin hout) (u1 b<|v1 d<|wN a.length<|z0) (by kernel_rfl)
 ·refine gm c_Sb_68 K_Sb_68 (s_Sb_68 a) (v1 b<|wN a.length<|z0) ?_ (by kernel_rfl)
  exact hout a (qj hm).symm
theorem ok_Sb_0 (p0:Za) (r:LI) (hm:m_Sb_0 p0=some r):EE c_Sb_0 K_Sb_0 (s_Sb_0 p0) (Post vf_Sb (res_Sb r)):=by
 obtain ⟨j,l,hm⟩:=bind_some hm
 obtain ⟨k,hm⟩|⟨k,hm⟩:=split_ite hm
 ·obtain ⟨d,m,hm⟩:=bind_some hm
  obtain ⟨f,n,hm⟩:=bind_some hm
  obtain ⟨g,o,hm⟩:=bind_some hm
  obtain ⟨h,p,hm⟩:=bind_some hm
  obtain ⟨i,q,hm⟩:=bind_some hm
  obtain ⟨a,t,hm⟩:=bind_some hm
  obtain ⟨w,v,hm⟩:=bind_some hm
  refine gm c_Sb_31 K_Sb_31 (s_Sb_31 d p0 0 (([83,78,68,49]:LI)++a.out)) (wO (.res (res_Sd j))<|wP (ok_Sd p0 j l)<|v1 (not_f k)<|wO (.row ((rL (rI .i64)) d))<|wP (rd_nn m)<|wP (at_row (rL (rI .i64)) (rd_get m))<|wL (rI .i64) d<|wO (.rows (List.map (rI .u8) ([]:LI)))<|wO (.res (res_Sr f))<|wP (all_le0 (rI .u8) ([]:LI) rfl)<|wP (all_t (rI .u8) ([]:LI) rfl)<|wP (ok_Sr (Zb.mk true ([]:LI) 0) 20 (wr .u64 p0.rate) f n)<|wL (rI .u8) f.out<|wR (rI .u8) f.out<|wO (.res (res_Sr g))<|wP (ok_Sr f 5 (wr .u64 p0.bits) g o)<|wL (rI .u8) g.out<|wR (rI .u8) g.out<|wO (.res (res_Sr h))<|wP (ok_Sr g 10 (wr .u64 p0.frame) h p)<|wL (rI .u8) h.out<|wO (zn p0.channels.length)<|wP (len_map (rL (rI .i64)) (show p0.channels.length=p0.channels.length from rfl))<|wR (rI .u8) h.out<|wO (.res (res_Sr i))<|wP (ok_Sr h 1 (wr .u64 (w64 ((p0.channels.length:Int) - 1))) i q)<|wL (rI .u8) i.out<|wR (rI .u8) i.out<|wO (.res (res_Sr a))<|wP (ok_Sr i 12 (wr .u64 (d.length:Int)) a t)<|wL (rI .u8) a.out<|wO (.rows (List.map (rI .u8) ([83,78,68,49]:LI)))<|wO (zn 4)<|wO (.rows (List.map (rI .u8) (([83,78,68,49]:LI)++a.out)))<|wO (zn ((([83,78,68,49]:LI)++a.out).length))<|wO (zn ((([83,78,68,49]:LI)++a.out).length))<|wP (Eq.refl (List.map (rI .u8) ([83,78,68,49]:LI)))<|wP (len_map (rI .u8) (show 4=([83,78,68,49]:LI).length from rfl))<|wP (all_le (rI .u8) a.out rfl)<|wP (app_ck (rI .u8) ([83,78,68,49]:LI) a.out rfl rfl v)<|wP (app_tell (rI .u8) ([83,78,68,49]:LI) a.out rfl rfl)<|wP (len_map (rI .u8) (show (([83,78,68,49]:LI)++a.out).length=(([83,78,68,49]:LI)++a.out).length from rfl))<|wP (lens ((([83,78,68,49]:LI)++a.out).length) ((([83,78,68,49]:LI)++a.out).length) rfl)<|z0) ?_ (by kernel_rfl)
  obtain ⟨e,he,hm⟩:=bind_some hm
  refine loop_rule (u:=.c c_Sb_31) (K:=K_Sb_31) (Q:=(Post vf_Sb (res_Sb r))) (b:=lp_Sb_31 d p0) (We:=O_Sb_31 (Post vf_Sb (res_Sb r))) (stJ:=fun s=>s_Sb_31 d p0 s.1 s.2) (s:=(0,(([83,78,68,49]:LI)++a.out))) (fun s y hb hin hout=>ok_Sb_31 d p0 s.1 s.2 y hb (Post vf_Sb (res_Sb r)) hin hout) he ?_
  show EE c_Sb_68 K_Sb_68 (s_Sb_68 e) _
  exact ok_Sb_68 e r hm
 ·exact ge (wO (.res (res_Sd j))<|wP (ok_Sd p0 j l)<|u1 (not_t k)<|wO (.rows (List.map (rI .u8) ([]:LI)))<|wP (all_le0 (rI .u8) ([]:LI) rfl)<|wP (all_t (rI .u8) ([]:LI) rfl)<|z0) (congrArg res_Sb (qj hm)) (by kernel_rfl)
theorem ok_Sb (p0:Za) (r:LI) (hm:m_Sb p0=some r):Runs ext tbl 7 (as_Sb p0) (res_Sb r):=
 runs_of (vf:=vf_Sb) (by kernel_rfl) rfl (st:=(enter vf_Sb (as_Sb p0)).getD default) (by kernel_rfl) (go_on [] 1000 J0 (ok_Sb_0 p0 r hm) (by kernel_rfl))
def O_Ir_15 (Q:VX→St→Prop) (e:(Bool)⊕((Unit))):Prop:=match e with | .inl e=>Q=Post vf_Ir (res_Ir e) | .inr e=>EE c_Ir_33 K_Ir_33 (s_Ir_33) Q
theorem ok_Ir_33 (r:Bool) (hm:m_Ir_33=some r):EE c_Ir_33 K_Ir_33 (s_Ir_33) (Post vf_Ir (res_Ir r)):=by
 exact ge (z0) (congrArg res_Ir (qj hm)) (by kernel_rfl)
theorem ok_Ir_15 (p1 p2:Int) (p0:LI) (g:Int) (y) (hm:m_Ir_15 p1 p2 p0 g=some y) (Q)
  (hin:∀ s,y=.inl s→EE c_Ir_15 K_Ir_15 (s_Ir_15 p1 p2 p0 s) Q) (hout:∀ e,y=.inr e→O_Ir_15 Q e):EE c_Ir_15 K_Ir_15 (s_Ir_15 p1 p2 p0 g) Q:=by
 obtain ⟨b,hm⟩|⟨b,hm⟩:=split_ite hm
 ·obtain ⟨d,a,hm⟩:=bind_some hm
  obtain ⟨c,hm⟩|⟨c,hm⟩:=split_ite hm
  ·have hQ:Q=Post vf_Ir (res_Ir false):=hout (.inl false) (qj hm).symm
   subst hQ
   exact ge (u1 b<|wO (.row ((rI .i64) d))<|wP (rd_nn a)<|wP (at_row (rI .i64) (rd_get a))<|u4 c<|u1 eT<|z0) (rfl:res_Ir false=res_Ir false) (by kernel_rfl)
  ·obtain ⟨f,hm⟩|⟨f,hm⟩:=split_ite hm
   ·have hQ:Q=Post vf_Ir (res_Ir false):=hout (.inl false) (qj hm).symm
    subst hQ
    exact ge (u1 b<|wO (.row ((rI .i64) d))<|wP (rd_nn a)<|wP (at_row (rI .i64) (rd_get a))<|v4 c<|u1 f<|z0) (rfl:res_Ir false=res_Ir false) (by kernel_rfl)
   ·exact gw (hin _ (qj hm).symm) (u1 b<|wO (.row ((rI .i64) d))<|wP (rd_nn a)<|wP (at_row (rI .i64) (rd_get a))<|v4 c<|v1 f<|z0) (by kernel_rfl)
 ·refine gm c_Ir_33 K_Ir_33 (s_Ir_33) (v1 b<|z0) ?_ (by kernel_rfl)
  exact hout (.inr ()) (qj hm).symm
theorem ok_Ir_0 (p0:LI) (p1 p2 p3:Int) (r:Bool) (hm:m_Ir_0 p0 p1 p2 p3=some r):EE c_Ir_0 K_Ir_0 (s_Ir_0 p0 p1 p2 p3) (Post vf_Ir (res_Ir r)):=by
 obtain ⟨a,hm⟩|⟨a,hm⟩:=split_ite hm
 ·exact ge (wL (rI .i64) p0<|u1 a<|z0) (congrArg res_Ir (qj hm)) (by kernel_rfl)
 ·refine gm c_Ir_15 K_Ir_15 (s_Ir_15 p1 p2 p0 0) (wL (rI .i64) p0<|v1 a<|wL (rI .i64) p0<|z0) ?_ (by kernel_rfl)
  obtain ⟨e,he,hm⟩:=bind_some hm
  refine loop_rule (u:=.c c_Ir_15) (K:=K_Ir_15) (Q:=(Post vf_Ir (res_Ir r))) (b:=lp_Ir_15 p1 p2 p0) (We:=O_Ir_15 (Post vf_Ir (res_Ir r))) (stJ:=fun s=>s_Ir_15 p1 p2 p0 s) (s:=0) (fun s y hb hin hout=>ok_Ir_15 p1 p2 p0 s y hb (Post vf_Ir (res_Ir r)) hin hout) he ?_
  rcases e with e | e
  ·exact congrArg (fun r=>Post vf_Ir (res_Ir r)) (qj hm).symm
  ·show EE c_Ir_33 K_Ir_33 (s_Ir_33) _
   exact ok_Ir_33 r hm
theorem ok_Ir (p0:LI) (p1 p2 p3:Int) (r:Bool) (hm:m_Ir p0 p1 p2 p3=some r):Runs ext tbl 55 (as_Ir p0 p1 p2 p3) (res_Ir r):=
 runs_of (vf:=vf_Ir) (by kernel_rfl) rfl (st:=(enter vf_Ir (as_Ir p0 p1 p2 p3)).getD default) (by kernel_rfl) (go_on [] 1000 J0 (ok_Ir_0 p0 p1 p2 p3 r hm) (by kernel_rfl))
def O_Ie_17 (Q:VX→St→Prop) (e:(Bool)⊕((Unit))):Prop:=match e with | .inl e=>Q=Post vf_Ie (res_Ie e) | .inr e=>EE c_Ie_35 K_Ie_35 (s_Ie_35) Q
theorem ok_Ie_35 (r:Bool) (hm:m_Ie_35=some r):EE c_Ie_35 K_Ie_35 (s_Ie_35) (Post vf_Ie (res_Ie r)):=by
 exact ge (z0) (congrArg res_Ie (qj hm)) (by kernel_rfl)
theorem ok_Ie_17 (p0:Za) (k:Int) (y) (hm:m_Ie_17 p0 k=some y) (Q)
  (hin:∀ s,y=.inl s→EE c_Ie_17 K_Ie_17 (s_Ie_17 p0 s) Q) (hout:∀ e,y=.inr e→O_Ie_17 Q e):EE c_Ie_17 K_Ie_17 (s_Ie_17 p0 k) Q:=by
 obtain ⟨g,hm⟩|⟨g,hm⟩:=split_ite hm
 ·obtain ⟨b,c,hm⟩:=bind_some hm
  obtain ⟨d,f,hm⟩:=bind_some hm
  obtain ⟨a,hm⟩|⟨a,hm⟩:=split_ite hm
  ·have hQ:Q=Post vf_Ie (res_Ie false):=hout (.inl false) (qj hm).symm
   subst hQ
   exact ge (u1 g<|wO (.row ((rL (rI .i64)) b))<|wP (rd_nn c)<|wP (at_row (rL (rI .i64)) (rd_get c))<|wL (rI .i64) b<|wO (.row ((rL (rI .i64)) d))<|wP (rd_nn f)<|wP (at_row (rL (rI .i64)) (rd_get f))<|wL (rI .i64) d<|u4 a<|u4 a<|u4 a<|u1 a<|u1 eT<|z0) (rfl:res_Ie false=res_Ie false) (by kernel_rfl)
  ·obtain ⟨m,h,hm⟩:=bind_some hm
   obtain ⟨i,l,hm⟩:=bind_some hm
   obtain ⟨j,hm⟩|⟨j,hm⟩:=split_ite hm
   ·exact gw (hin _ (qj hm).symm) (u1 g<|wO (.row ((rL (rI .i64)) b))<|wP (rd_nn c)<|wP (at_row (rL (rI .i64)) (rd_get c))<|wL (rI .i64) b<|wO (.row ((rL (rI .i64)) d))<|wP (rd_nn f)<|wP (at_row (rL (rI .i64)) (rd_get f))<|wL (rI .i64) d<|v4 a<|v1 a<|wP (ck_p h)<|v4 a<|wP (ck_p h)<|v2 a<|wO (.res (res_Ir i))<|wP (ok_Ir b (shlI .i64 (-1) (w64 (p0.bits - 1))) (w64 ((shlI .i64 1 (w64 (p0.bits - 1))) - 1)) 4000 i l)<|v2 a<|v1 (not_f j)<|z0) (by kernel_rfl)
   ·have hQ:Q=Post vf_Ie (res_Ie false):=hout (.inl false) (qj hm).symm
    subst hQ
    exact ge (u1 g<|wO (.row ((rL (rI .i64)) b))<|wP (rd_nn c)<|wP (at_row (rL (rI .i64)) (rd_get c))<|wL (rI .i64) b<|wO (.row ((rL (rI .i64)) d))<|wP (rd_nn f)<|wP (at_row (rL (rI .i64)) (rd_get f))<|wL (rI .i64) d<|v4 a<|v1 a<|wP (ck_p h)<|v4 a<|wP (ck_p h)<|v2 a<|wO (.res (res_Ir i))<|wP (ok_Ir b (shlI .i64 (-1) (w64 (p0.bits - 1))) (w64 ((shlI .i64 1 (w64 (p0.bits - 1))) - 1)) 4000 i l)<|v2 a<|u1 (not_t j)<|z0) (rfl:res_Ie false=res_Ie false) (by kernel_rfl)
 ·refine gm c_Ie_35 K_Ie_35 (s_Ie_35) (v1 g<|z0) ?_ (by kernel_rfl)
  exact hout (.inr ()) (qj hm).symm
theorem ok_Ie_0 (p0:Za) (r:Bool) (hm:m_Ie_0 p0=some r):EE c_Ie_0 K_Ie_0 (s_Ie_0 p0) (Post vf_Ie (res_Ie r)):=by
 obtain ⟨a,hm⟩|⟨a,hm⟩:=split_ite hm
 ·exact ge (wO (zn p0.channels.length)<|wP (len_map (rL (rI .i64)) (show p0.channels.length=p0.channels.length from rfl))<|u4 a<|u4 eT<|u4 eT<|u4 eT<|u4 eT<|u4 eT<|u3 eT<|z0) (congrArg res_Ie (qj hm)) (by kernel_rfl)
 ·obtain ⟨d,hm⟩|⟨d,hm⟩:=split_ite hm
  ·exact ge (wO (zn p0.channels.length)<|wP (len_map (rL (rI .i64)) (show p0.channels.length=p0.channels.length from rfl))<|v4 a<|u4 d<|u4 eT<|u4 eT<|u4 eT<|u4 eT<|u3 eT<|z0) (congrArg res_Ie (qj hm)) (by kernel_rfl)
  ·obtain ⟨f,hm⟩|⟨f,hm⟩:=split_ite hm
   ·exact ge (wO (zn p0.channels.length)<|wP (len_map (rL (rI .i64)) (show p0.channels.length=p0.channels.length from rfl))<|v4 a<|v4 d<|u4 f<|u4 eT<|u4 eT<|u4 eT<|u3 eT<|z0) (congrArg res_Ie (qj hm)) (by kernel_rfl)
   ·obtain ⟨g,hm⟩|⟨g,hm⟩:=split_ite hm
    ·exact ge (wO (zn p0.channels.length)<|wP (len_map (rL (rI .i64)) (show p0.channels.length=p0.channels.length from rfl))<|v4 a<|v4 d<|v4 f<|u4 g<|u4 eT<|u4 eT<|u3 eT<|z0) (congrArg res_Ie (qj hm)) (by kernel_rfl)
    ·obtain ⟨h,hm⟩|⟨h,hm⟩:=split_ite hm
     ·exact ge (wO (zn p0.channels.length)<|wP (len_map (rL (rI .i64)) (show p0.channels.length=p0.channels.length from rfl))<|v4 a<|v4 d<|v4 f<|v4 g<|u4 h<|u4 eT<|u3 eT<|z0) (congrArg res_Ie (qj hm)) (by kernel_rfl)
     ·obtain ⟨i,hm⟩|⟨i,hm⟩:=split_ite hm
      ·exact ge (wO (zn p0.channels.length)<|wP (len_map (rL (rI .i64)) (show p0.channels.length=p0.channels.length from rfl))<|v4 a<|v4 d<|v4 f<|v4 g<|v4 h<|u3 i<|u4 eT<|z0) (congrArg res_Ie (qj hm)) (by kernel_rfl)
      ·obtain ⟨j,hm⟩|⟨j,hm⟩:=split_ite hm
       ·exact ge (wO (zn p0.channels.length)<|wP (len_map (rL (rI .i64)) (show p0.channels.length=p0.channels.length from rfl))<|v4 a<|v4 d<|v4 f<|v4 g<|v4 h<|v3 i<|u3 j<|u1 eT<|z0) (congrArg res_Ie (qj hm)) (by kernel_rfl)
       ·obtain ⟨k,hm⟩|⟨k,hm⟩:=split_ite hm
        ·exact ge (wO (zn p0.channels.length)<|wP (len_map (rL (rI .i64)) (show p0.channels.length=p0.channels.length from rfl))<|v4 a<|v4 d<|v4 f<|v4 g<|v4 h<|v3 i<|v3 j<|u1 k<|z0) (congrArg res_Ie (qj hm)) (by kernel_rfl)
        ·refine gm c_Ie_17 K_Ie_17 (s_Ie_17 p0 0) (wO (zn p0.channels.length)<|wP (len_map (rL (rI .i64)) (show p0.channels.length=p0.channels.length from rfl))<|v4 a<|v4 d<|v4 f<|v4 g<|v4 h<|v3 i<|v3 j<|v1 k<|wO (zn p0.channels.length)<|wP (len_map (rL (rI .i64)) (show p0.channels.length=p0.channels.length from rfl))<|z0) ?_ (by kernel_rfl)
         obtain ⟨e,he,hm⟩:=bind_some hm
         refine loop_rule (u:=.c c_Ie_17) (K:=K_Ie_17) (Q:=(Post vf_Ie (res_Ie r))) (b:=lp_Ie_17 p0) (We:=O_Ie_17 (Post vf_Ie (res_Ie r))) (stJ:=fun s=>s_Ie_17 p0 s) (s:=0) (fun s y hb hin hout=>ok_Ie_17 p0 s y hb (Post vf_Ie (res_Ie r)) hin hout) he ?_
         rcases e with e | e
         ·exact congrArg (fun r=>Post vf_Ie (res_Ie r)) (qj hm).symm
         ·show EE c_Ie_35 K_Ie_35 (s_Ie_35) _
          exact ok_Ie_35 r hm
theorem ok_Ie (p0:Za) (r:Bool) (hm:m_Ie p0=some r):Runs ext tbl 29 (as_Ie p0) (res_Ie r):=
 runs_of (vf:=vf_Ie) (by kernel_rfl) rfl (st:=(enter vf_Ie (as_Ie p0)).getD default) (by kernel_rfl) (go_on [] 1000 J0 (ok_Ie_0 p0 r hm) (by kernel_rfl))
theorem ok_Ii_6 (p1:Int) (p0:Zd) (b:LI) (r:Zd) (hm:m_Ii_6 p1 p0 b=some r):EE c_Ii_6 K_Ii_6 (s_Ii_6 p1 p0 b) (Post vf_Ii (res_Ii r)):=by
 obtain ⟨a,c,hm⟩:=bind_some hm
 obtain ⟨e,d,hm⟩:=bind_some hm
 exact ge (wO (.row ((rI .u8) a))<|wO (.rows (List.map (rI .u8) (b.set (0+Int.toNat (w64 (Int.tdiv p0.n 8))) (orI .u8 a (shlI .u8 (wr .u8 p1) (w64 (7 - (Int.tmod p0.n 8))))))))<|wO (.rows (List.map (rI .u8) (b.set (0+Int.toNat (w64 (Int.tdiv p0.n 8))) (orI .u8 a (shlI .u8 (wr .u8 p1) (w64 (7 - (Int.tmod p0.n 8))))))))<|wP (by decide:(8:Int)≠0)<|wP (rd_in rfl c)<|wP (at_row (rI .u8) (rd_get0 c))<|wP (by decide:(8:Int)≠0)<|wP (ck_p d)<|wP (rd_in rfl c)<|wP (put_ob (rI .u8) (orI .u8 a (shlI .u8 (wr .u8 p1) (w64 (7 - (Int.tmod p0.n 8))))) 0 (.lit (.int .u8 (orI .u8 a (shlI .u8 (wr .u8 p1) (w64 (7 - (Int.tmod p0.n 8))))))) (rd_get0 c) (by kernel_rfl) (by kernel_rfl))<|wP (all_le0 (rI .u8) (b.set (0+Int.toNat (w64 (Int.tdiv p0.n 8))) (orI .u8 a (shlI .u8 (wr .u8 p1) (w64 (7 - (Int.tmod p0.n 8)))))) (set_len rfl))<|wP (all_t (rI .u8) (b.set (0+Int.toNat (w64 (Int.tdiv p0.n 8))) (orI .u8 a (shlI .u8 (wr .u8 p1) (w64 (7 - (Int.tmod p0.n 8)))))) (set_len rfl))<|z0) (congrArg res_Ii (qj hm)) (by kernel_rfl)
theorem ok_Ii_0 (p1:Int) (p0 r:Zd) (hm:m_Ii_0 p1 p0=some r):EE c_Ii_0 K_Ii_0 (s_Ii_0 p1 p0) (Post vf_Ii (res_Ii r)):=by
 obtain ⟨a,hm⟩|⟨a,hm⟩:=split_ite hm
 ·obtain ⟨d,c,hm⟩:=bind_some hm
  exact gw (ok_Ii_6 _ _ _ r hm) (wP (by decide:(8:Int)≠0)<|u1 a<|wO (.rows (List.map (rI .u8) ([0]:LI)))<|wO (zn 1)<|wO (.rows (List.map (rI .u8) (p0.b++([0]:LI))))<|wO (zn ((p0.b++([0]:LI)).length))<|wO (zn ((p0.b++([0]:LI)).length))<|wP (Eq.refl (List.map (rI .u8) ([0]:LI)))<|wP (len_map (rI .u8) (show 1=([0]:LI).length from rfl))<|wP (all_le (rI .u8) ([0]:LI) rfl)<|wP (app_ck (rI .u8) p0.b ([0]:LI) rfl rfl c)<|wP (app_tell (rI .u8) p0.b ([0]:LI) rfl rfl)<|wP (len_map (rI .u8) (show (p0.b++([0]:LI)).length=(p0.b++([0]:LI)).length from rfl))<|wP (lens ((p0.b++([0]:LI)).length) ((p0.b++([0]:LI)).length) rfl)<|z0) (by kernel_rfl)
 ·exact gw (ok_Ii_6 _ _ _ r hm) (wP (by decide:(8:Int)≠0)<|v1 a<|wN p0.b.length<|z0) (by kernel_rfl)
theorem ok_Ii (p0:Zd) (p1:Int) (r:Zd) (hm:m_Ii p0 p1=some r):Runs ext tbl 68 (as_Ii p0 p1) (res_Ii r):=
 runs_of (vf:=vf_Ii) (by kernel_rfl) rfl (st:=(enter vf_Ii (as_Ii p0 p1)).getD default) (by kernel_rfl) (go_on [zn p0.b.length] 1000 (J (len_map (rI .u8) (rfl:p0.b.length=p0.b.length)) J0) (ok_Ii_0 p1 p0 r hm) (by kernel_rfl))
def O_Ij_4 (Q:VX→St→Prop) (e:Zd):Prop:=Q=Post vf_Ij (res_Ij e)
theorem ok_Ij_4 (p2 f c:Int) (a:LI) (y) (hm:m_Ij_4 p2 f c a=some y) (Q)
  (hin:∀ s,y=.inl s→EE c_Ij_4 K_Ij_4 (s_Ij_4 p2 s.1 s.2.1 s.2.2) Q) (hout:∀ e,y=.inr e→O_Ij_4 Q e):EE c_Ij_4 K_Ij_4 (s_Ij_4 p2 f c a) Q:=by
 obtain ⟨g,hm⟩|⟨g,hm⟩:=split_ite hm
 ·obtain ⟨j,h,hm⟩:=bind_some hm
  obtain ⟨d,i,hm⟩:=bind_some hm
  exact gw (hin _ (qj hm).symm) (u1 g<|wP (ck_p h)<|wR (rI .u8) a<|wO (.res (res_Ii d))<|wP (ok_Ii (Zd.mk a c) (w64 (andI .u64 (shrI .u64 p2 f) 1)) d i)<|wL (rI .u8) d.b<|wN d.b.length<|z0) (by kernel_rfl)
 ·have hQ:Q=Post vf_Ij (res_Ij (Zd.mk a c)):=hout (Zd.mk a c) (qj hm).symm
  subst hQ
  exact ge (v1 g<|wR (rI .u8) a<|z0) (rfl:res_Ij (Zd.mk a c)=res_Ij (Zd.mk a c)) (by kernel_rfl)
theorem ok_Ij_0 (p1 p2:Int) (p0 r:Zd) (hm:m_Ij_0 p1 p2 p0=some r):EE c_Ij_0 K_Ij_0 (s_Ij_0 p1 p2 p0) (Post vf_Ij (res_Ij r)):=by
 refine gm c_Ij_4 K_Ij_4 (s_Ij_4 p2 (w64 (p1 - 1)) p0.n p0.b) (wN p0.b.length<|z0) ?_ (by kernel_rfl)
 obtain ⟨e,he,hm⟩:=bind_some hm
 refine loop_rule (u:=.c c_Ij_4) (K:=K_Ij_4) (Q:=(Post vf_Ij (res_Ij r))) (b:=lp_Ij_4 p2) (We:=O_Ij_4 (Post vf_Ij (res_Ij r))) (stJ:=fun s=>s_Ij_4 p2 s.1 s.2.1 s.2.2) (s:=((w64 (p1 - 1)),p0.n,p0.b)) (fun s y hb hin hout=>ok_Ij_4 p2 s.1 s.2.1 s.2.2 y hb (Post vf_Ij (res_Ij r)) hin hout) he ?_
 exact congrArg (fun r=>Post vf_Ij (res_Ij r)) (qj hm).symm
theorem ok_Ij (p0:Zd) (p1 p2:Int) (r:Zd) (hm:m_Ij p0 p1 p2=some r):Runs ext tbl 30 (as_Ij p0 p1 p2) (res_Ij r):=
 runs_of (vf:=vf_Ij) (by kernel_rfl) rfl (st:=(enter vf_Ij (as_Ij p0 p1 p2)).getD default) (by kernel_rfl) (go_on [zn p0.b.length] 1000 (J (len_map (rI .u8) (rfl:p0.b.length=p0.b.length)) J0) (ok_Ij_0 p1 p2 p0 r hm) (by kernel_rfl))
theorem ok_Ip_0 (p0:LI) (r:Bool) (hm:m_Ip_0 p0=some r):EE c_Ip_0 K_Ip_0 (s_Ip_0 p0) (Post vf_Ip (res_Ip r)):=by
 obtain ⟨a,b,hm⟩:=bind_some hm
 exact ge (wO (.res (res_Ir a))<|wP (ok_Ir p0 (-67108864) 67108863 4000 a b)<|z0) (congrArg res_Ip (qj hm)) (by kernel_rfl)
theorem ok_Ip (p0:LI) (r:Bool) (hm:m_Ip p0=some r):Runs ext tbl 69 (as_Ip p0) (res_Ip r):=
 runs_of (vf:=vf_Ip) (by kernel_rfl) rfl (st:=(enter vf_Ip (as_Ip p0)).getD default) (by kernel_rfl) (go_on [] 1000 J0 (ok_Ip_0 p0 r hm) (by kernel_rfl))
theorem ok_Il_0 (p0 r:LI) (hm:m_Il_0 p0=some r):EE c_Il_0 K_Il_0 (s_Il_0 p0) (Post vf_Il (res_Il r)):=by
 obtain ⟨b,a,hm⟩:=bind_some hm
 exact ge (wO (.rows (mi ([]:LI)))<|wO (zn 0)<|wO (.rows (mi (([]:LI)++p0)))<|wO (zn ((([]:LI)++p0).length))<|wO (.rows (mi (([]:LI)++p0)))<|wP (Eq.refl (mi ([]:LI)))<|wP (len_map (rI .i64) (show 0=([]:LI).length from rfl))<|wP (app_ck_ro (rI .i64) ([]:LI) p0 rfl a)<|wP (app_tell_ro (rI .i64) ([]:LI) p0 rfl)<|wP (len_map (rI .i64) (show (([]:LI)++p0).length=(([]:LI)++p0).length from rfl))<|wP (all_le0 (rI .i64) (([]:LI)++p0) rfl)<|wP (all_t (rI .i64) (([]:LI)++p0) rfl)<|z0) (congrArg res_Il (qj hm)) (by kernel_rfl)
theorem ok_Il (p0 r:LI) (hm:m_Il p0=some r):Runs ext tbl 70 (as_Il p0) (res_Il r):=
 runs_of (vf:=vf_Il) (by kernel_rfl) rfl (st:=(enter vf_Il (as_Il p0)).getD default) (by kernel_rfl) (go_on [] 1000 J0 (ok_Il_0 p0 r hm) (by kernel_rfl))
def O_Ih_17 (Q:VX→St→Prop) (e:(LI×LI)):Prop:=EE c_Ih_39 K_Ih_39 (s_Ih_39 e.1 e.2) Q
theorem ok_Ih_33 (p0:Int) (p1 p2:LI) (d:Int) (a f:LI) (y) (hm:m_Ih_33 p0 p1 p2 d a f=some y) (Q)
  (hin:∀ s,y=.inl s→EE c_Ih_17 K_Ih_17 (s_Ih_17 p0 p1 p2 s.1 s.2.1 s.2.2) Q) (hout:∀ e,y=.inr e→O_Ih_17 Q e):EE c_Ih_33 K_Ih_33 (s_Ih_33 p0 p1 p2 d a f) Q:=by
 obtain ⟨g,hm⟩|⟨g,hm⟩:=split_ite hm
 ·obtain ⟨b,h,hm⟩:=bind_some hm
  obtain ⟨c,i,hm⟩:=bind_some hm
  obtain ⟨k,j,hm⟩:=bind_some hm
  exact gw (hin _ (qj hm).symm) (u1 g<|wO (.row ((rI .i64) b))<|wO (.row ((rI .i64) c))<|wO (.rows (mi (a.set (0+Int.toNat d) (shrI .i64 (w64 (b+c)) 1))))<|wO (zn ((a.set (0+Int.toNat d) (shrI .i64 (w64 (b+c)) 1)).length))<|wO (zn f.length)<|wP (rd_nn h)<|wP (at_row (rI .i64) (rd_get h))<|wP (rd_nn i)<|wP (at_row (rI .i64) (rd_get i))<|wP (by decide:(0:Int)≤1)<|wP (rd_in rfl j)<|wP (put_ob (rI .i64) (shrI .i64 (w64 (b+c)) 1) 0 (.lit (vI (shrI .i64 (w64 (b+c)) 1))) (rd_get0 j) (by kernel_rfl) (by kernel_rfl))<|wP (lens a.length ((a.set (0+Int.toNat d) (shrI .i64 (w64 (b+c)) 1)).length) (set_len rfl))<|wP (ln f.length)<|z0) (by kernel_rfl)
 ·exact gw (hin _ (qj hm).symm) (v1 g<|wN a.length<|wN f.length<|z0) (by kernel_rfl)
theorem ok_Ih_39 (a b:LI) (r:LI×LI) (hm:m_Ih_39 a b=some r):EE c_Ih_39 K_Ih_39 (s_Ih_39 a b) (Post vf_Ih (res_Ih r)):=by
 exact ge (wR (rI .i64) a<|wR (rI .i64) b<|z0) (congrArg res_Ih (qj hm)) (by kernel_rfl)
theorem ok_Ih_17 (p0:Int) (p1 p2:LI) (f:Int) (b a:LI) (y) (hm:m_Ih_17 p0 p1 p2 f b a=some y) (Q)
  (hin:∀ s,y=.inl s→EE c_Ih_17 K_Ih_17 (s_Ih_17 p0 p1 p2 s.1 s.2.1 s.2.2) Q) (hout:∀ e,y=.inr e→O_Ih_17 Q e):EE c_Ih_17 K_Ih_17 (s_Ih_17 p0 p1 p2 f b a) Q:=by
 obtain ⟨g,hm⟩|⟨g,hm⟩:=split_ite hm
 ·obtain ⟨h,hm⟩|⟨h,hm⟩:=split_ite hm
  ·obtain ⟨c,i,hm⟩:=bind_some hm
   obtain ⟨d,j,hm⟩:=bind_some hm
   obtain ⟨l,k,hm⟩:=bind_some hm
   exact gw (ok_Ih_33 _ _ _ _ _ _ y hm Q hin hout) (u1 g<|u1 h<|wO (.row ((rI .i64) c))<|wO (.row ((rI .i64) d))<|wO (.rows (mi (a.set (0+Int.toNat f) (w64 (c - d)))))<|wO (zn b.length)<|wO (zn ((a.set (0+Int.toNat f) (w64 (c - d))).length))<|wP (rd_nn i)<|wP (at_row (rI .i64) (rd_get i))<|wP (rd_nn j)<|wP (at_row (rI .i64) (rd_get j))<|wP (rd_in rfl k)<|wP (put_ob (rI .i64) (w64 (c - d)) 0 (.lit (vI (w64 (c - d)))) (rd_get0 k) (by kernel_rfl) (by kernel_rfl))<|wP (ln b.length)<|wP (lens a.length ((a.set (0+Int.toNat f) (w64 (c - d))).length) (set_len rfl))<|z0) (by kernel_rfl)
  ·exact gw (ok_Ih_33 _ _ _ _ _ _ y hm Q hin hout) (u1 g<|v1 h<|wN b.length<|wN a.length<|z0) (by kernel_rfl)
 ·refine gm c_Ih_39 K_Ih_39 (s_Ih_39 b a) (v1 g<|wN b.length<|wN a.length<|z0) ?_ (by kernel_rfl)
  exact hout (b,a) (qj hm).symm
theorem ok_Ih_5 (p0:Int) (p1 p2:LI) (g:Bool) (r:LI×LI) (hm:m_Ih_5 p0 p1 p2 g=some r):EE c_Ih_5 K_Ih_5 (s_Ih_5 p0 p1 p2 g) (Post vf_Ih (res_Ih r)):=by
 obtain ⟨f,hm⟩|⟨f,hm⟩:=split_ite hm
 ·exact ge (u1 f<|wO (.rows (mi ([]:LI)))<|wO (.rows (mi ([]:LI)))<|wP (all_le0 (rI .i64) ([]:LI) rfl)<|wP (all_t (rI .i64) ([]:LI) rfl)<|wP (all_le0 (rI .i64) ([]:LI) rfl)<|wP (all_t (rI .i64) ([]:LI) rfl)<|z0) (congrArg res_Ih (qj hm)) (by kernel_rfl)
 ·obtain ⟨a,h,hm⟩:=bind_some hm
  obtain ⟨d,i,hm⟩:=bind_some hm
  refine gm c_Ih_17 K_Ih_17 (s_Ih_17 p0 p1 p2 0 a d) (v1 f<|wO (.res (res_Il a))<|wP (ok_Il p1 a h)<|wL (rI .i64) a<|wO (.res (res_Il d))<|wP (ok_Il p2 d i)<|wL (rI .i64) d<|wL (rI .i64) p1<|wN a.length<|wN d.length<|z0) ?_ (by kernel_rfl)
  obtain ⟨e,he,hm⟩:=bind_some hm
  refine loop_rule (u:=.c c_Ih_17) (K:=K_Ih_17) (Q:=(Post vf_Ih (res_Ih r))) (b:=lp_Ih_17 p0 p1 p2) (We:=O_Ih_17 (Post vf_Ih (res_Ih r))) (stJ:=fun s=>s_Ih_17 p0 p1 p2 s.1 s.2.1 s.2.2) (s:=(0,a,d)) (fun s y hb hin hout=>ok_Ih_17 p0 p1 p2 s.1 s.2.1 s.2.2 y hb (Post vf_Ih (res_Ih r)) hin hout) he ?_
  show EE c_Ih_39 K_Ih_39 (s_Ih_39 e.1 e.2) _
  exact ok_Ih_39 e.1 e.2 r hm
theorem ok_Ih_0 (p0:Int) (p1 p2:LI) (r:LI×LI) (hm:m_Ih_0 p0 p1 p2=some r):EE c_Ih_0 K_Ih_0 (s_Ih_0 p0 p1 p2) (Post vf_Ih (res_Ih r)):=by
 obtain ⟨b,e,hm⟩:=bind_some hm
 obtain ⟨c,hm⟩|⟨c,hm⟩:=split_ite hm
 ·obtain ⟨d,f,hm⟩:=bind_some hm
  obtain ⟨a,hm⟩|⟨a,hm⟩:=split_ite hm
  ·obtain ⟨g,hm⟩|⟨g,hm⟩:=split_ite hm
   ·exact gw (ok_Ih_5 _ _ _ _ r hm) (wO (.res (res_Ip b))<|wP (ok_Ip p1 b e)<|v2 (not_f c)<|wO (.res (res_Ip d))<|wP (ok_Ip p2 d f)<|v2 (not_f c)<|v2 (not_f a)<|wL (rI .i64) p1<|v2 (not_f a)<|wL (rI .i64) p2<|v2 (not_f a)<|u3 g<|u3 eT<|z0) (by kernel_rfl)
   ·obtain ⟨h,hm⟩|⟨h,hm⟩:=split_ite hm
    ·exact gw (ok_Ih_5 _ _ _ _ r hm) (wO (.res (res_Ip b))<|wP (ok_Ip p1 b e)<|v2 (not_f c)<|wO (.res (res_Ip d))<|wP (ok_Ip p2 d f)<|v2 (not_f c)<|v2 (not_f a)<|wL (rI .i64) p1<|v2 (not_f a)<|wL (rI .i64) p2<|v2 (not_f a)<|v3 g<|u3 h<|z0) (by kernel_rfl)
    ·exact gw (ok_Ih_5 _ _ _ _ r hm) (wO (.res (res_Ip b))<|wP (ok_Ip p1 b e)<|v2 (not_f c)<|wO (.res (res_Ip d))<|wP (ok_Ip p2 d f)<|v2 (not_f c)<|v2 (not_f a)<|wL (rI .i64) p1<|v2 (not_f a)<|wL (rI .i64) p2<|v2 (not_f a)<|v3 g<|v3 h<|z0) (by kernel_rfl)
  ·exact gw (ok_Ih_5 _ _ _ _ r hm) (wO (.res (res_Ip b))<|wP (ok_Ip p1 b e)<|v2 (not_f c)<|wO (.res (res_Ip d))<|wP (ok_Ip p2 d f)<|v2 (not_f c)<|u4 (not_t a)<|u2 (not_t a)<|u4 eT<|u2 eT<|z0) (by kernel_rfl)
 ·exact gw (ok_Ih_5 _ _ _ _ r hm) (wO (.res (res_Ip b))<|wP (ok_Ip p1 b e)<|u4 (not_t c)<|u4 eT<|u4 eT<|u4 eT<|z0) (by kernel_rfl)
theorem ok_Ih (p0:Int) (p1 p2:LI) (r:LI×LI) (hm:m_Ih p0 p1 p2=some r):Runs ext tbl 31 (as_Ih p0 p1 p2) (res_Ih r):=
 runs_of (vf:=vf_Ih) (by kernel_rfl) rfl (st:=(enter vf_Ih (as_Ih p0 p1 p2)).getD default) (by kernel_rfl) (go_on [] 1000 J0 (ok_Ih_0 p0 p1 p2 r hm) (by kernel_rfl))
theorem ok_In_0 (p0:Int) (p1:LI) (p2 r:Int) (hm:m_In_0 p0 p1 p2=some r):EE c_In_0 K_In_0 (s_In_0 p0 p1 p2) (Post vf_In (res_In r)):=by
 obtain ⟨d,hm⟩|⟨d,hm⟩:=split_ite hm
 ·obtain ⟨l,b,hm⟩:=bind_some hm
  exact ge (u1 d<|wO (.row ((rI .i64) l))<|wP (rd_nn b)<|wP (at_row (rI .i64) (rd_get b))<|z0) (congrArg res_In (qj hm)) (by kernel_rfl)
 ·obtain ⟨b,hm⟩|⟨b,hm⟩:=split_ite hm
  ·obtain ⟨m,c,hm⟩:=bind_some hm
   obtain ⟨g,a,hm⟩:=bind_some hm
   exact ge (v1 d<|u1 b<|wO (.row ((rI .i64) m))<|wO (.row ((rI .i64) g))<|wP (rd_nn c)<|wP (at_row (rI .i64) (rd_get c))<|wP (rd_nn a)<|wP (at_row (rI .i64) (rd_get a))<|z0) (congrArg res_In (qj hm)) (by kernel_rfl)
  ·obtain ⟨c,hm⟩|⟨c,hm⟩:=split_ite hm
   ·obtain ⟨g,a,hm⟩:=bind_some hm
    obtain ⟨h,e,hm⟩:=bind_some hm
    obtain ⟨i,f,hm⟩:=bind_some hm
    exact ge (v1 d<|v1 b<|u1 c<|wO (.row ((rI .i64) g))<|wO (.row ((rI .i64) h))<|wO (.row ((rI .i64) i))<|wP (rd_nn a)<|wP (at_row (rI .i64) (rd_get a))<|wP (rd_nn e)<|wP (at_row (rI .i64) (rd_get e))<|wP (rd_nn f)<|wP (at_row (rI .i64) (rd_get f))<|z0) (congrArg res_In (qj hm)) (by kernel_rfl)
   ·obtain ⟨a,hm⟩|⟨a,hm⟩:=split_ite hm
    ·obtain ⟨h,e,hm⟩:=bind_some hm
     obtain ⟨i,f,hm⟩:=bind_some hm
     obtain ⟨n,j,hm⟩:=bind_some hm
     obtain ⟨o,k,hm⟩:=bind_some hm
     exact ge (v1 d<|v1 b<|v1 c<|u1 a<|wO (.row ((rI .i64) h))<|wO (.row ((rI .i64) i))<|wO (.row ((rI .i64) n))<|wO (.row ((rI .i64) o))<|wP (rd_nn e)<|wP (at_row (rI .i64) (rd_get e))<|wP (rd_nn f)<|wP (at_row (rI .i64) (rd_get f))<|wP (rd_nn j)<|wP (at_row (rI .i64) (rd_get j))<|wP (rd_nn k)<|wP (at_row (rI .i64) (rd_get k))<|z0) (congrArg res_In (qj hm)) (by kernel_rfl)
    ·exact ge (v1 d<|v1 b<|v1 c<|v1 a<|z0) (congrArg res_In (qj hm)) (by kernel_rfl)
theorem ok_In (p0:Int) (p1:LI) (p2 r:Int) (hm:m_In p0 p1 p2=some r):Runs ext tbl 72 (as_In p0 p1 p2) (res_In r):=
 runs_of (vf:=vf_In) (by kernel_rfl) rfl (st:=(enter vf_In (as_In p0 p1 p2)).getD default) (by kernel_rfl) (go_on [] 1000 J0 (ok_In_0 p0 p1 p2 r hm) (by kernel_rfl))
def O_Ig_17 (Q:VX→St→Prop) (e:(LI)):Prop:=EE c_Ig_27 K_Ig_27 (s_Ig_27 e) Q
theorem ok_Ig_27 (a r:LI) (hm:m_Ig_27 a=some r):EE c_Ig_27 K_Ig_27 (s_Ig_27 a) (Post vf_Ig (res_Ig r)):=by
 exact ge (wR (rI .i64) a<|z0) (congrArg res_Ig (qj hm)) (by kernel_rfl)
theorem ok_Ig_17 (p0:Int) (p1:LI) (c:Int) (a:LI) (y) (hm:m_Ig_17 p0 p1 c a=some y) (Q)
  (hin:∀ s,y=.inl s→EE c_Ig_17 K_Ig_17 (s_Ig_17 p0 p1 s.1 s.2) Q) (hout:∀ e,y=.inr e→O_Ig_17 Q e):EE c_Ig_17 K_Ig_17 (s_Ig_17 p0 p1 c a) Q:=by
 obtain ⟨f,hm⟩|⟨f,hm⟩:=split_ite hm
 ·obtain ⟨d,g,hm⟩:=bind_some hm
  obtain ⟨b,i,hm⟩:=bind_some hm
  obtain ⟨j,h,hm⟩:=bind_some hm
  exact gw (hin _ (qj hm).symm) (wL (rI .i64) p1<|u1 f<|wO (.row ((rI .i64) d))<|wO (.res (res_In b))<|wO (.rows (mi (a.set (0+Int.toNat c) (w64 (d - b)))))<|wO (zn ((a.set (0+Int.toNat c) (w64 (d - b))).length))<|wP (rd_nn g)<|wP (at_row (rI .i64) (rd_get g))<|wP (ok_In p0 p1 c b i)<|wP (rd_in rfl h)<|wP (put_ob (rI .i64) (w64 (d - b)) 0 (.lit (vI (w64 (d - b)))) (rd_get0 h) (by kernel_rfl) (by kernel_rfl))<|wP (lens a.length ((a.set (0+Int.toNat c) (w64 (d - b))).length) (set_len rfl))<|z0) (by kernel_rfl)
 ·refine gm c_Ig_27 K_Ig_27 (s_Ig_27 a) (wL (rI .i64) p1<|v1 f<|wN a.length<|z0) ?_ (by kernel_rfl)
  exact hout a (qj hm).symm
theorem ok_Ig_0 (p0:Int) (p1 r:LI) (hm:m_Ig_0 p0 p1=some r):EE c_Ig_0 K_Ig_0 (s_Ig_0 p0 p1) (Post vf_Ig (res_Ig r)):=by
 obtain ⟨a,g,hm⟩:=bind_some hm
 obtain ⟨f,hm⟩|⟨f,hm⟩:=split_ite hm
 ·obtain ⟨h,hm⟩|⟨h,hm⟩:=split_ite hm
  ·exact ge (wO (.res (res_Ip a))<|wP (ok_Ip p1 a g)<|v3 (not_f f)<|u3 h<|u1 eT<|wO (.rows (mi ([]:LI)))<|wP (all_le0 (rI .i64) ([]:LI) rfl)<|wP (all_t (rI .i64) ([]:LI) rfl)<|z0) (congrArg res_Ig (qj hm)) (by kernel_rfl)
  ·obtain ⟨i,hm⟩|⟨i,hm⟩:=split_ite hm
   ·exact ge (wO (.res (res_Ip a))<|wP (ok_Ip p1 a g)<|v3 (not_f f)<|v3 h<|u1 i<|wO (.rows (mi ([]:LI)))<|wP (all_le0 (rI .i64) ([]:LI) rfl)<|wP (all_t (rI .i64) ([]:LI) rfl)<|z0) (congrArg res_Ig (qj hm)) (by kernel_rfl)
   ·obtain ⟨d,j,hm⟩:=bind_some hm
    refine gm c_Ig_17 K_Ig_17 (s_Ig_17 p0 p1 p0 d) (wO (.res (res_Ip a))<|wP (ok_Ip p1 a g)<|v3 (not_f f)<|v3 h<|v1 i<|wO (.res (res_Il d))<|wP (ok_Il p1 d j)<|wL (rI .i64) d<|wN d.length<|z0) ?_ (by kernel_rfl)
    obtain ⟨e,he,hm⟩:=bind_some hm
    refine loop_rule (u:=.c c_Ig_17) (K:=K_Ig_17) (Q:=(Post vf_Ig (res_Ig r))) (b:=lp_Ig_17 p0 p1) (We:=O_Ig_17 (Post vf_Ig (res_Ig r))) (stJ:=fun s=>s_Ig_17 p0 p1 s.1 s.2) (s:=(p0,d)) (fun s y hb hin hout=>ok_Ig_17 p0 p1 s.1 s.2 y hb (Post vf_Ig (res_Ig r)) hin hout) he ?_
    show EE c_Ig_27 K_Ig_27 (s_Ig_27 e) _
    exact ok_Ig_27 e r hm
 ·exact ge (wO (.res (res_Ip a))<|wP (ok_Ip p1 a g)<|u3 (not_t f)<|u4 eT<|wO (.rows (mi ([]:LI)))<|wP (all_le0 (rI .i64) ([]:LI) rfl)<|wP (all_t (rI .i64) ([]:LI) rfl)<|z0) (congrArg res_Ig (qj hm)) (by kernel_rfl)
theorem ok_Ig (p0:Int) (p1 r:LI) (hm:m_Ig p0 p1=some r):Runs ext tbl 34 (as_Ig p0 p1) (res_Ig r):=
 runs_of (vf:=vf_Ig) (by kernel_rfl) rfl (st:=(enter vf_Ig (as_Ig p0 p1)).getD default) (by kernel_rfl) (go_on [] 1000 J0 (ok_Ig_0 p0 p1 r hm) (by kernel_rfl))
theorem ok_Im_0 (p0 p1 p2:Int) (r:Bool) (hm:m_Im_0 p0 p1 p2=some r):EE c_Im_0 K_Im_0 (s_Im_0 p0 p1 p2) (Post vf_Im (res_Im r)):=by
 obtain ⟨b,hm⟩|⟨b,hm⟩:=split_ite hm
 ·obtain ⟨c,hm⟩|⟨c,hm⟩:=split_ite hm
  ·obtain ⟨d,hm⟩|⟨d,hm⟩:=split_ite hm
   ·obtain ⟨e,hm⟩|⟨e,hm⟩:=split_ite hm
    ·obtain ⟨a,hm⟩|⟨a,hm⟩:=split_ite hm
     ·obtain ⟨i,g,hm⟩:=bind_some hm
      obtain ⟨j,h,hm⟩:=bind_some hm
      obtain ⟨f,hm⟩|⟨f,hm⟩:=split_ite hm
      ·exact ge (u3 b<|u4 c<|u3 d<|u3 e<|u3 a<|wP (ck_p g)<|u1 a<|wP (ck_p h)<|u2 a<|u3 f<|wP (ck_p g)<|u3 f<|z0) (congrArg res_Im (qj hm)) (by kernel_rfl)
      ·exact ge (u3 b<|u4 c<|u3 d<|u3 e<|u3 a<|wP (ck_p g)<|u1 a<|wP (ck_p h)<|u2 a<|v4 f<|v2 f<|z0) (congrArg res_Im (qj hm)) (by kernel_rfl)
     ·exact ge (u3 b<|u4 c<|u3 d<|u3 e<|v4 a<|v2 a<|v4 eF<|v2 eF<|z0) (congrArg res_Im (qj hm)) (by kernel_rfl)
    ·exact ge (u3 b<|u4 c<|u3 d<|v3 e<|v4 eF<|v4 eF<|v4 eF<|z0) (congrArg res_Im (qj hm)) (by kernel_rfl)
   ·exact ge (u3 b<|u4 c<|v3 d<|v4 eF<|v4 eF<|v4 eF<|v3 eF<|z0) (congrArg res_Im (qj hm)) (by kernel_rfl)
  ·exact ge (u3 b<|v4 c<|v4 eF<|v4 eF<|v4 eF<|v4 eF<|v2 eF<|z0) (congrArg res_Im (qj hm)) (by kernel_rfl)
 ·exact ge (v3 b<|v4 eF<|v4 eF<|v4 eF<|v4 eF<|v4 eF<|v2 eF<|z0) (congrArg res_Im (qj hm)) (by kernel_rfl)
theorem ok_Im (p0 p1 p2:Int) (r:Bool) (hm:m_Im p0 p1 p2=some r):Runs ext tbl 49 (as_Im p0 p1 p2) (res_Im r):=
 runs_of (vf:=vf_Im) (by kernel_rfl) rfl (st:=(enter vf_Im (as_Im p0 p1 p2)).getD default) (by kernel_rfl) (go_on [] 1000 J0 (ok_Im_0 p0 p1 p2 r hm) (by kernel_rfl))
theorem ok_Iq_0 (p0 p1:Int) (p2:LI) (p3:Int) (r:LI) (hm:m_Iq_0 p0 p1 p2 p3=some r):EE c_Iq_0 K_Iq_0 (s_Iq_0 p0 p1 p2 p3) (Post vf_Iq (res_Iq r)):=by
 obtain ⟨d,a,hm⟩:=bind_some hm
 obtain ⟨e,b,hm⟩:=bind_some hm
 obtain ⟨f,c,hm⟩:=bind_some hm
 exact ge (wL (rI .i64) p2<|wO (.rows (mi ((p2.take (Int.toNat (w64 ((w64 (p3+1))*(shrI .i64 (p2.length:Int) p1))))).drop (Int.toNat (mxI (w64 (p3*(shrI .i64 (p2.length:Int) p1))) p0)))))<|wP (ck_p a)<|wP (slc_hi (rI .i64) p2 (ck_p b))<|wP (ck_p c)<|wP (slc_tell (rI .i64) p2 (Int.toNat (mxI (w64 (p3*(shrI .i64 (p2.length:Int) p1))) p0)) (Int.toNat (w64 ((w64 (p3+1))*(shrI .i64 (p2.length:Int) p1)))))<|z0) (congrArg res_Iq (qj hm)) (by kernel_rfl)
theorem ok_Iq (p0 p1:Int) (p2:LI) (p3:Int) (r:LI) (hm:m_Iq p0 p1 p2 p3=some r):Runs ext tbl 35 (as_Iq p0 p1 p2 p3) (res_Iq r):=
 runs_of (vf:=vf_Iq) (by kernel_rfl) rfl (st:=(enter vf_Iq (as_Iq p0 p1 p2 p3)).getD default) (by kernel_rfl) (go_on [] 1000 J0 (ok_Iq_0 p0 p1 p2 p3 r hm) (by kernel_rfl))
theorem ok_Id_0 (p0 r:Int) (hm:m_Id_0 p0=some r):EE c_Id_0 K_Id_0 (s_Id_0 p0) (Post vf_Id (res_Id r)):=by
 exact ge (wP (by decide:(0:Int)≤1)<|wP (by decide:(0:Int)≤63)<|z0) (congrArg res_Id (qj hm)) (by kernel_rfl)
theorem ok_Id (p0 r:Int) (hm:m_Id p0=some r):Runs ext tbl 73 (as_Id p0) (res_Id r):=
 runs_of (vf:=vf_Id) (by kernel_rfl) rfl (st:=(enter vf_Id (as_Id p0)).getD default) (by kernel_rfl) (go_on [] 1000 J0 (ok_Id_0 p0 r hm) (by kernel_rfl))
def O_Io_17 (Q:VX→St→Prop) (e:(Int)):Prop:=EE c_Io_29 K_Io_29 (s_Io_29 e) Q
theorem ok_Io_29 (a r:Int) (hm:m_Io_29 a=some r):EE c_Io_29 K_Io_29 (s_Io_29 a) (Post vf_Io (res_Io r)):=by
 exact ge (z0) (congrArg res_Io (qj hm)) (by kernel_rfl)
theorem ok_Io_17 (p0:Int) (p1:LI) (a c:Int) (y) (hm:m_Io_17 p0 p1 a c=some y) (Q)
  (hin:∀ s,y=.inl s→EE c_Io_17 K_Io_17 (s_Io_17 p0 p1 s.1 s.2) Q) (hout:∀ e,y=.inr e→O_Io_17 Q e):EE c_Io_17 K_Io_17 (s_Io_17 p0 p1 a c) Q:=by
 obtain ⟨b,hm⟩|⟨b,hm⟩:=split_ite hm
 ·obtain ⟨d,f,hm⟩:=bind_some hm
  obtain ⟨g,h,hm⟩:=bind_some hm
  obtain ⟨j,i,hm⟩:=bind_some hm
  exact gw (hin _ (qj hm).symm) (u1 b<|wO (.row ((rI .i64) d))<|wO (.res (res_Id g))<|wP (rd_nn f)<|wP (at_row (rI .i64) (rd_get f))<|wP (ok_Id d g h)<|wP (ck_p i)<|z0) (by kernel_rfl)
 ·refine gm c_Io_29 K_Io_29 (s_Io_29 a) (v1 b<|z0) ?_ (by kernel_rfl)
  exact hout a (qj hm).symm
theorem ok_Io_0 (p0:Int) (p1:LI) (r:Int) (hm:m_Io_0 p0 p1=some r):EE c_Io_0 K_Io_0 (s_Io_0 p0 p1) (Post vf_Io (res_Io r)):=by
 obtain ⟨a,hm⟩|⟨a,hm⟩:=split_ite hm
 ·exact ge (u1 a<|wL (rI .i64) p1<|z0) (congrArg res_Io (qj hm)) (by kernel_rfl)
 ·refine gm c_Io_17 K_Io_17 (s_Io_17 p0 p1 5 0) (v1 a<|wL (rI .i64) p1<|z0) ?_ (by kernel_rfl)
  obtain ⟨e,he,hm⟩:=bind_some hm
  refine loop_rule (u:=.c c_Io_17) (K:=K_Io_17) (Q:=(Post vf_Io (res_Io r))) (b:=lp_Io_17 p0 p1) (We:=O_Io_17 (Post vf_Io (res_Io r))) (stJ:=fun s=>s_Io_17 p0 p1 s.1 s.2) (s:=(5,0)) (fun s y hb hin hout=>ok_Io_17 p0 p1 s.1 s.2 y hb (Post vf_Io (res_Io r)) hin hout) he ?_
  show EE c_Io_29 K_Io_29 (s_Io_29 e) _
  exact ok_Io_29 e r hm
theorem ok_Io (p0:Int) (p1:LI) (r:Int) (hm:m_Io p0 p1=some r):Runs ext tbl 71 (as_Io p0 p1) (res_Io r):=
 runs_of (vf:=vf_Io) (by kernel_rfl) rfl (st:=(enter vf_Io (as_Io p0 p1)).getD default) (by kernel_rfl) (go_on [] 1000 J0 (ok_Io_0 p0 p1 r hm) (by kernel_rfl))
def O_Ia_75 (p0:LI) (a b:Int) (c:LI) (d f g h i j:Int) (k l:LI) (Q:VX→St→Prop) (e:(Int×Int)):Prop:=EE c_Ia_91 K_Ia_91 (s_Ia_91 p0 a b c d f g h i j k l e.1 e.2) Q
def O_Ia_56 (p0:LI) (a b:Int) (c:LI) (d f g:Int) (h:LI) (Q:VX→St→Prop) (e:(Int×LI)):Prop:=EE c_Ia_95 K_Ia_95 (s_Ia_95 p0 a b c d f g h e.1 e.2) Q
def O_Ia_33 (p0:LI) (a:Int) (Q:VX→St→Prop) (e:(Int×Int×Int×LI)):Prop:=EE c_Ia_101 K_Ia_101 (s_Ia_101 p0 a e.1 e.2.1 e.2.2.1 e.2.2.2) Q
def O_Ia_19 (Q:VX→St→Prop) (e:(Int×Int×LI)):Prop:=EE c_Ia_102 K_Ia_102 (s_Ia_102 e.1 e.2.1 e.2.2) Q
theorem ok_Ia_87 (p0:LI) (c d:Int) (f:LI) (g h:Int) (m:LI) (o p q r i j k l:Int) (a b:LI) (t:Bool) (y) (hm:m_Ia_87 p0 c d f g h m o p q r i j k l a b t=some y) (Q)
  (hin:∀ s,y=.inl s→EE c_Ia_75 K_Ia_75 (s_Ia_75 p0 c d f g h m i j k l a b s.1 s.2.1 s.2.2) Q) (hout:∀ e,y=.inr e→O_Ia_75 p0 c d f g h i j k l a b Q e):EE c_Ia_87 K_Ia_87 (s_Ia_87 p0 c d f g h m o p q r i j k l a b t) Q:=by
 obtain ⟨n,hm⟩|⟨n,hm⟩:=split_ite hm
 ·exact gw (hin _ (qj hm).symm) (u1 n<|wO (zn (([]:LI).length))<|wP (lens (([]:LI).length) (([]:LI).length) rfl)<|wN a.length<|wN b.length<|z0) (by kernel_rfl)
 ·exact gw (hin _ (qj hm).symm) (v1 n<|wO (zn (([]:LI).length))<|wP (lens (([]:LI).length) (([]:LI).length) rfl)<|wN a.length<|wN b.length<|z0) (by kernel_rfl)
theorem ok_Ia_91 (p0:LI) (d f:Int) (g:LI) (h k l m i j:Int) (c b:LI) (a n:Int) (y) (hm:m_Ia_91 p0 d f g h k l m i j c b a n=some y) (Q)
  (hin:∀ s,y=.inl s→EE c_Ia_56 K_Ia_56 (s_Ia_56 p0 d f g h i j c s.1 s.2.1 s.2.2.1 s.2.2.2) Q) (hout:∀ e,y=.inr e→O_Ia_56 p0 d f g h i j c Q e):EE c_Ia_91 K_Ia_91 (s_Ia_91 p0 d f g h k l m i j c b a n) Q:=by
 obtain ⟨p,o,hm⟩:=bind_some hm
 exact gw (hin _ (qj hm).symm) (wO (.rows (mi ([a]:LI)))<|wO (zn 1)<|wO (.rows (mi (b++([a]:LI))))<|wO (zn ((b++([a]:LI)).length))<|wO (zn (([]:LI).length))<|wO (zn c.length)<|wO (zn ((b++([a]:LI)).length))<|wP (Eq.refl (mi ([a]:LI)))<|wP (len_map (rI .i64) (show 1=([a]:LI).length from rfl))<|wP (all_le (rI .i64) ([a]:LI) rfl)<|wP (app_ck (rI .i64) b ([a]:LI) rfl rfl o)<|wP (app_tell (rI .i64) b ([a]:LI) rfl rfl)<|wP (len_map (rI .i64) (show (b++([a]:LI)).length=(b++([a]:LI)).length from rfl))<|wP (lens (([]:LI).length) (([]:LI).length) rfl)<|wP (ln c.length)<|wP (lens ((b++([a]:LI)).length) ((b++([a]:LI)).length) rfl)<|z0) (by kernel_rfl)
theorem ok_Ia_75 (p0:LI) (c d:Int) (f:LI) (g h:Int) (i:LI) (j k l m:Int) (a b:LI) (n o p:Int) (y) (hm:m_Ia_75 p0 c d f g h i j k l m a b n o p=some y) (Q)
  (hin:∀ s,y=.inl s→EE c_Ia_75 K_Ia_75 (s_Ia_75 p0 c d f g h i j k l m a b s.1 s.2.1 s.2.2) Q) (hout:∀ e,y=.inr e→O_Ia_75 p0 c d f g h j k l m a b Q e):EE c_Ia_75 K_Ia_75 (s_Ia_75 p0 c d f g h i j k l m a b n o p) Q:=by
 obtain ⟨q,hm⟩|⟨q,hm⟩:=split_ite hm
 ·obtain ⟨r,u,hm⟩:=bind_some hm
  obtain ⟨t,hm⟩|⟨t,hm⟩:=split_ite hm
  ·exact gw (ok_Ia_87 _ _ _ _ _ _ _ _ _ _ _ _ _ _ _ _ _ _ y hm Q hin hout) (u1 q<|wO (.res (res_Io r))<|wP (ok_Io p i r u)<|u4 t<|wO (zn (([]:LI).length))<|wP (lens (([]:LI).length) (([]:LI).length) rfl)<|wN a.length<|wN b.length<|z0) (by kernel_rfl)
  ·exact gw (ok_Ia_87 _ _ _ _ _ _ _ _ _ _ _ _ _ _ _ _ _ _ y hm Q hin hout) (u1 q<|wO (.res (res_Io r))<|wP (ok_Io p i r u)<|v4 t<|wO (zn (([]:LI).length))<|wP (lens (([]:LI).length) (([]:LI).length) rfl)<|wN a.length<|wN b.length<|z0) (by kernel_rfl)
 ·refine gm c_Ia_91 K_Ia_91 (s_Ia_91 p0 c d f g h j k l m a b n o) (v1 q<|wO (zn (([]:LI).length))<|wP (lens (([]:LI).length) (([]:LI).length) rfl)<|wN a.length<|wN b.length<|z0) ?_ (by kernel_rfl)
  exact hout (n,o) (qj hm).symm
theorem ok_Ia_97 (p0:LI) (g a:Int) (b:LI) (h i j k:Int) (c d:LI) (l:Bool) (y) (hm:m_Ia_97 p0 g a b h i j k c d l=some y) (Q)
  (hin:∀ s,y=.inl s→EE c_Ia_33 K_Ia_33 (s_Ia_33 p0 a b s.1 s.2.1 s.2.2.1 s.2.2.2.1 s.2.2.2.2) Q) (hout:∀ e,y=.inr e→O_Ia_33 p0 a Q e):EE c_Ia_97 K_Ia_97 (s_Ia_97 p0 g a b h i j k c d l) Q:=by
 obtain ⟨f,hm⟩|⟨f,hm⟩:=split_ite hm
 ·exact gw (hin _ (qj hm).symm) (u1 f<|wO (zn (([]:LI).length))<|wP (lens (([]:LI).length) (([]:LI).length) rfl)<|wN d.length<|z0) (by kernel_rfl)
 ·exact gw (hin _ (qj hm).symm) (v1 f<|wO (zn (([]:LI).length))<|wP (lens (([]:LI).length) (([]:LI).length) rfl)<|wN c.length<|z0) (by kernel_rfl)
theorem ok_Ia_95 (p0:LI) (g a:Int) (d:LI) (h i j:Int) (b:LI) (k:Int) (c:LI) (y) (hm:m_Ia_95 p0 g a d h i j b k c=some y) (Q)
  (hin:∀ s,y=.inl s→EE c_Ia_33 K_Ia_33 (s_Ia_33 p0 a d s.1 s.2.1 s.2.2.1 s.2.2.2.1 s.2.2.2.2) Q) (hout:∀ e,y=.inr e→O_Ia_33 p0 a Q e):EE c_Ia_95 K_Ia_95 (s_Ia_95 p0 g a d h i j b k c) Q:=by
 obtain ⟨f,hm⟩|⟨f,hm⟩:=split_ite hm
 ·exact gw (ok_Ia_97 _ _ _ _ _ _ _ _ _ _ _ y hm Q hin hout) (u4 f<|wO (zn (([]:LI).length))<|wP (lens (([]:LI).length) (([]:LI).length) rfl)<|wN b.length<|wN c.length<|z0) (by kernel_rfl)
 ·exact gw (ok_Ia_97 _ _ _ _ _ _ _ _ _ _ _ y hm Q hin hout) (v4 f<|wO (zn (([]:LI).length))<|wP (lens (([]:LI).length) (([]:LI).length) rfl)<|wN b.length<|wN c.length<|z0) (by kernel_rfl)
theorem ok_Ia_56 (p0:LI) (i d:Int) (f:LI) (g j k:Int) (a:LI) (l n m:Int) (h:LI) (y) (hm:m_Ia_56 p0 i d f g j k a l n m h=some y) (Q)
  (hin:∀ s,y=.inl s→EE c_Ia_56 K_Ia_56 (s_Ia_56 p0 i d f g j k a s.1 s.2.1 s.2.2.1 s.2.2.2) Q) (hout:∀ e,y=.inr e→O_Ia_56 p0 i d f g j k a Q e):EE c_Ia_56 K_Ia_56 (s_Ia_56 p0 i d f g j k a l n m h) Q:=by
 obtain ⟨p,hm⟩|⟨p,hm⟩:=split_ite hm
 ·obtain ⟨o,q,hm⟩:=bind_some hm
  refine gm c_Ia_75 K_Ia_75 (s_Ia_75 p0 i d f g l o n m j k a h 0 (-1) 0) (u1 p<|wO (.res (res_Iq o))<|wO (zn (([]:LI).length))<|wP (ok_Iq d g f m o q)<|wP (lens (([]:LI).length) (([]:LI).length) rfl)<|wN a.length<|wN h.length<|z0) ?_ (by kernel_rfl)
  obtain ⟨e,he,hm⟩:=bind_some hm
  refine loop_rule (u:=.c c_Ia_75) (K:=K_Ia_75) (Q:=Q) (b:=lp_Ia_75 p0 i d f g l o n m j k a h) (We:=O_Ia_75 p0 i d f g l n m j k a h Q) (stJ:=fun s=>s_Ia_75 p0 i d f g l o n m j k a h s.1 s.2.1 s.2.2) (s:=(0,(-1),0)) (fun s y hb hin hout=>ok_Ia_75 p0 i d f g l o n m j k a h s.1 s.2.1 s.2.2 y hb Q hin hout) he ?_
  show EE c_Ia_91 K_Ia_91 (s_Ia_91 p0 i d f g l n m j k a h e.1 e.2) _
  exact ok_Ia_91 p0 i d f g l n m j k a h e.1 e.2 y hm Q hin hout
 ·refine gm c_Ia_95 K_Ia_95 (s_Ia_95 p0 i d f g j k a l h) (v1 p<|wO (zn (([]:LI).length))<|wP (lens (([]:LI).length) (([]:LI).length) rfl)<|wN a.length<|wN h.length<|z0) ?_ (by kernel_rfl)
  exact hout (l,h) (qj hm).symm
theorem ok_Ia_101 (p0:LI) (b c d f:Int) (a:LI) (y) (hm:m_Ia_101 p0 b c d f a=some y) (Q)
  (hin:∀ s,y=.inl s→EE c_Ia_19 K_Ia_19 (s_Ia_19 p0 s.1 s.2.1 s.2.2.1 s.2.2.2.1 s.2.2.2.2) Q) (hout:∀ e,y=.inr e→O_Ia_19 Q e):EE c_Ia_101 K_Ia_101 (s_Ia_101 p0 b c d f a) Q:=by
 exact gw (hin _ (qj hm).symm) (wO (zn (([]:LI).length))<|wP (lens (([]:LI).length) (([]:LI).length) rfl)<|wN a.length<|z0) (by kernel_rfl)
theorem ok_Ia_33 (p0:LI) (a:Int) (j:LI) (g f h i:Int) (d:LI) (y) (hm:m_Ia_33 p0 a j g f h i d=some y) (Q)
  (hin:∀ s,y=.inl s→EE c_Ia_33 K_Ia_33 (s_Ia_33 p0 a j s.1 s.2.1 s.2.2.1 s.2.2.2.1 s.2.2.2.2) Q) (hout:∀ e,y=.inr e→O_Ia_33 p0 a Q e):EE c_Ia_33 K_Ia_33 (s_Ia_33 p0 a j g f h i d) Q:=by
 obtain ⟨k,hm⟩|⟨k,hm⟩:=split_ite hm
 ·obtain ⟨l,n,hm⟩:=bind_some hm
  obtain ⟨m,hm⟩|⟨m,hm⟩:=split_ite hm
  ·obtain ⟨p,o,hm⟩:=bind_some hm
   refine gm c_Ia_56 K_Ia_56 (s_Ia_56 p0 g a j f h i d (w64 (6+(w64 (26*a)))) (shlI .i64 1 f) 0 ([]:LI)) (u1 k<|wL (rI .i64) p0<|wO (.res (res_Im l))<|wP (ok_Im a f (p0.length:Int) l n)<|v1 (not_f m)<|wO (zn (([]:LI).length))<|wP (ck_p o)<|wP (lens (([]:LI).length) (([]:LI).length) rfl)<|wN d.length<|wO (zn (([]:LI).length))<|wP (lens 0 (([]:LI).length) rfl)<|z0) ?_ (by kernel_rfl)
   obtain ⟨e,he,hm⟩:=bind_some hm
   refine loop_rule (u:=.c c_Ia_56) (K:=K_Ia_56) (Q:=Q) (b:=lp_Ia_56 p0 g a j f h i d) (We:=O_Ia_56 p0 g a j f h i d Q) (stJ:=fun s=>s_Ia_56 p0 g a j f h i d s.1 s.2.1 s.2.2.1 s.2.2.2) (s:=((w64 (6+(w64 (26*a)))),(shlI .i64 1 f),0,([]:LI))) (fun s y hb hin hout=>ok_Ia_56 p0 g a j f h i d s.1 s.2.1 s.2.2.1 s.2.2.2 y hb Q hin hout) he ?_
   show EE c_Ia_95 K_Ia_95 (s_Ia_95 p0 g a j f h i d e.1 e.2) _
   exact ok_Ia_95 p0 g a j f h i d e.1 e.2 y hm Q hin hout
  ·exact gw (hin _ (qj hm).symm) (u1 k<|wL (rI .i64) p0<|wO (.res (res_Im l))<|wP (ok_Im a f (p0.length:Int) l n)<|u1 (not_t m)<|wO (zn (([]:LI).length))<|wP (lens (([]:LI).length) (([]:LI).length) rfl)<|wN d.length<|z0) (by kernel_rfl)
 ·refine gm c_Ia_101 K_Ia_101 (s_Ia_101 p0 a g h i d) (v1 k<|wO (zn (([]:LI).length))<|wP (lens (([]:LI).length) (([]:LI).length) rfl)<|wN d.length<|z0) ?_ (by kernel_rfl)
  exact hout (g,h,i,d) (qj hm).symm
theorem ok_Ia_102 (b c:Int) (a:LI) (r:Zc) (hm:m_Ia_102 b c a=some r):EE c_Ia_102 K_Ia_102 (s_Ia_102 b c a) (Post vf_Ia (res_Ia r)):=by
 exact ge (wR (rI .i64) a<|z0) (congrArg res_Ia (qj hm)) (by kernel_rfl)
theorem ok_Ia_19 (p0:LI) (i d g h:Int) (f:LI) (y) (hm:m_Ia_19 p0 i d g h f=some y) (Q)
  (hin:∀ s,y=.inl s→EE c_Ia_19 K_Ia_19 (s_Ia_19 p0 s.1 s.2.1 s.2.2.1 s.2.2.2.1 s.2.2.2.2) Q) (hout:∀ e,y=.inr e→O_Ia_19 Q e):EE c_Ia_19 K_Ia_19 (s_Ia_19 p0 i d g h f) Q:=by
 obtain ⟨j,hm⟩|⟨j,hm⟩:=split_ite hm
 ·obtain ⟨a,k,hm⟩:=bind_some hm
  refine gm c_Ia_33 K_Ia_33 (s_Ia_33 p0 d a i 0 g h f) (u1 j<|wO (.res (res_Ig a))<|wP (ok_Ig d p0 a k)<|wL (rI .i64) a<|wO (zi a)<|wO (zi a)<|wO (zn (([]:LI).length))<|wP (all_le (rI .i64) a rfl)<|wP (all_dt (rI .i64) a rfl)<|wP (all_le (rI .i64) a rfl)<|wP (all_dt (rI .i64) a rfl)<|wP (lens (([]:LI).length) (([]:LI).length) rfl)<|wN f.length<|z0) ?_ (by kernel_rfl)
  obtain ⟨e,he,hm⟩:=bind_some hm
  refine loop_rule (u:=.c c_Ia_33) (K:=K_Ia_33) (Q:=Q) (b:=lp_Ia_33 p0 d a) (We:=O_Ia_33 p0 d Q) (stJ:=fun s=>s_Ia_33 p0 d a s.1 s.2.1 s.2.2.1 s.2.2.2.1 s.2.2.2.2) (s:=(i,0,g,h,f)) (fun s y hb hin hout=>ok_Ia_33 p0 d a s.1 s.2.1 s.2.2.1 s.2.2.2.1 s.2.2.2.2 y hb Q hin hout) he ?_
  show EE c_Ia_101 K_Ia_101 (s_Ia_101 p0 d e.1 e.2.1 e.2.2.1 e.2.2.2) _
  exact ok_Ia_101 p0 d e.1 e.2.1 e.2.2.1 e.2.2.2 y hm Q hin hout
 ·refine gm c_Ia_102 K_Ia_102 (s_Ia_102 g h f) (v1 j<|wO (zn (([]:LI).length))<|wP (lens (([]:LI).length) (([]:LI).length) rfl)<|wN f.length<|z0) ?_ (by kernel_rfl)
  exact hout (g,h,f) (qj hm).symm
theorem ok_Ia_0 (p0:LI) (r:Zc) (hm:m_Ia_0 p0=some r):EE c_Ia_0 K_Ia_0 (s_Ia_0 p0) (Post vf_Ia (res_Ia r)):=by
 obtain ⟨a,f,hm⟩:=bind_some hm
 obtain ⟨d,hm⟩|⟨d,hm⟩:=split_ite hm
 ·refine gm c_Ia_19 K_Ia_19 (s_Ia_19 p0 (-1) 0 0 0 ([]:LI)) (wO (.res (res_Ip a))<|wP (ok_Ip p0 a f)<|v1 (not_f d)<|wO (zn (([]:LI).length))<|wO (zn (([]:LI).length))<|wP (lens 0 (([]:LI).length) rfl)<|wP (lens 0 (([]:LI).length) rfl)<|z0) ?_ (by kernel_rfl)
  obtain ⟨e,he,hm⟩:=bind_some hm
  refine loop_rule (u:=.c c_Ia_19) (K:=K_Ia_19) (Q:=(Post vf_Ia (res_Ia r))) (b:=lp_Ia_19 p0) (We:=O_Ia_19 (Post vf_Ia (res_Ia r))) (stJ:=fun s=>s_Ia_19 p0 s.1 s.2.1 s.2.2.1 s.2.2.2.1 s.2.2.2.2) (s:=((-1),0,0,0,([]:LI))) (fun s y hb hin hout=>ok_Ia_19 p0 s.1 s.2.1 s.2.2.1 s.2.2.2.1 s.2.2.2.2 y hb (Post vf_Ia (res_Ia r)) hin hout) he ?_
  show EE c_Ia_102 K_Ia_102 (s_Ia_102 e.1 e.2.1 e.2.2) _
  exact ok_Ia_102 e.1 e.2.1 e.2.2 r hm
 ·exact ge (wO (.res (res_Ip a))<|wP (ok_Ip p0 a f)<|u1 (not_t d)<|wO (.rows (mi ([]:LI)))<|wP (all_le0 (rI .i64) ([]:LI) rfl)<|wP (all_t (rI .i64) ([]:LI) rfl)<|z0) (congrArg res_Ia (qj hm)) (by kernel_rfl)
theorem ok_Ia (p0:LI) (r:Zc) (hm:m_Ia p0=some r):Runs ext tbl 33 (as_Ia p0) (res_Ia r):=
 runs_of (vf:=vf_Ia) (by kernel_rfl) rfl (st:=(enter vf_Ia (as_Ia p0)).getD default) (by kernel_rfl) (go_on [] 1000 J0 (ok_Ia_0 p0 r hm) (by kernel_rfl))
def O_If_19 (Q:VX→St→Prop) (e:(Int)):Prop:=EE c_If_31 K_If_31 (s_If_31 e) Q
theorem ok_If_31 (a r:Int) (hm:m_If_31 a=some r):EE c_If_31 K_If_31 (s_If_31 a) (Post vf_If (res_If r)):=by
 exact ge (z0) (congrArg res_If (qj hm)) (by kernel_rfl)
theorem ok_If_19 (a:LI) (p0:Zc) (b c:Int) (y) (hm:m_If_19 a p0 b c=some y) (Q)
  (hin:∀ s,y=.inl s→EE c_If_19 K_If_19 (s_If_19 a p0 s.1 s.2) Q) (hout:∀ e,y=.inr e→O_If_19 Q e):EE c_If_19 K_If_19 (s_If_19 a p0 b c) Q:=by
 obtain ⟨d,hm⟩|⟨d,hm⟩:=split_ite hm
 ·obtain ⟨g,h,hm⟩:=bind_some hm
  obtain ⟨f,j,hm⟩:=bind_some hm
  obtain ⟨i,k,hm⟩:=bind_some hm
  exact gw (hin _ (qj hm).symm) (u1 d<|wO (.row ((rI .i64) g))<|wO (.res (res_Iq f))<|wO (.res (res_Io i))<|wP (rd_nn h)<|wP (at_row (rI .i64) (rd_get h))<|wP (ok_Iq p0.order p0.parts a c f j)<|wP (ok_Io g f i k)<|z0) (by kernel_rfl)
 ·refine gm c_If_31 K_If_31 (s_If_31 b) (v1 d<|z0) ?_ (by kernel_rfl)
  exact hout b (qj hm).symm
theorem ok_If_0 (p0:Zc) (p1:LI) (r:Int) (hm:m_If_0 p0 p1=some r):EE c_If_0 K_If_0 (s_If_0 p0 p1) (Post vf_If (res_If r)):=by
 obtain ⟨g,j,hm⟩:=bind_some hm
 obtain ⟨a,hm⟩|⟨a,hm⟩:=split_ite hm
 ·obtain ⟨h,k,hm⟩:=bind_some hm
  obtain ⟨f,hm⟩|⟨f,hm⟩:=split_ite hm
  ·obtain ⟨q,m,hm⟩:=bind_some hm
   obtain ⟨i,hm⟩|⟨i,hm⟩:=split_ite hm
   ·exact ge (wO (.res (res_Ip g))<|wP (ok_Ip p1 g j)<|v4 (not_f a)<|v2 (not_f a)<|wL (rI .i64) p1<|v1 (not_f a)<|wO (.res (res_Im h))<|wP (ok_Im p0.order p0.parts (p1.length:Int) h k)<|v2 (not_f a)<|v3 (not_f f)<|wL (rI .i64) p0.keys<|v3 (not_f f)<|wP (ck_p m)<|v2 (not_f f)<|u4 i<|u1 i<|u1 eT<|z0) (congrArg res_If (qj hm)) (by kernel_rfl)
   ·obtain ⟨l,o,hm⟩:=bind_some hm
    obtain ⟨n,hm⟩|⟨n,hm⟩:=split_ite hm
    ·obtain ⟨d,p,hm⟩:=bind_some hm
     refine gm c_If_19 K_If_19 (s_If_19 d p0 (w64 (6+(w64 (26*p0.order)))) 0) (wO (.res (res_Ip g))<|wP (ok_Ip p1 g j)<|v4 (not_f a)<|v2 (not_f a)<|wL (rI .i64) p1<|v1 (not_f a)<|wO (.res (res_Im h))<|wP (ok_Im p0.order p0.parts (p1.length:Int) h k)<|v2 (not_f a)<|v3 (not_f f)<|wL (rI .i64) p0.keys<|v3 (not_f f)<|wP (ck_p m)<|v2 (not_f f)<|v3 i<|wO (.res (res_Ir l))<|wP (ok_Ir p0.keys 0 25 16 l o)<|v2 i<|v1 (not_f n)<|wO (.res (res_Ig d))<|wP (ok_Ig p0.order p1 d p)<|wL (rI .i64) d<|wL (rI .i64) p0.keys<|wO (zi d)<|wO (zi d)<|wP (all_le (rI .i64) d rfl)<|wP (all_dt (rI .i64) d rfl)<|wP (all_le (rI .i64) d rfl)<|wP (all_dt (rI .i64) d rfl)<|z0) ?_ (by kernel_rfl)
     obtain ⟨e,he,hm⟩:=bind_some hm
     refine loop_rule (u:=.c c_If_19) (K:=K_If_19) (Q:=(Post vf_If (res_If r))) (b:=lp_If_19 d p0) (We:=O_If_19 (Post vf_If (res_If r))) (stJ:=fun s=>s_If_19 d p0 s.1 s.2) (s:=((w64 (6+(w64 (26*p0.order)))),0)) (fun s y hb hin hout=>ok_If_19 d p0 s.1 s.2 y hb (Post vf_If (res_If r)) hin hout) he ?_
     show EE c_If_31 K_If_31 (s_If_31 e) _
     exact ok_If_31 e r hm
    ·exact ge (wO (.res (res_Ip g))<|wP (ok_Ip p1 g j)<|v4 (not_f a)<|v2 (not_f a)<|wL (rI .i64) p1<|v1 (not_f a)<|wO (.res (res_Im h))<|wP (ok_Im p0.order p0.parts (p1.length:Int) h k)<|v2 (not_f a)<|v3 (not_f f)<|wL (rI .i64) p0.keys<|v3 (not_f f)<|wP (ck_p m)<|v2 (not_f f)<|v3 i<|wO (.res (res_Ir l))<|wP (ok_Ir p0.keys 0 25 16 l o)<|v2 i<|u1 (not_t n)<|z0) (congrArg res_If (qj hm)) (by kernel_rfl)
  ·exact ge (wO (.res (res_Ip g))<|wP (ok_Ip p1 g j)<|v4 (not_f a)<|v2 (not_f a)<|wL (rI .i64) p1<|v1 (not_f a)<|wO (.res (res_Im h))<|wP (ok_Im p0.order p0.parts (p1.length:Int) h k)<|v2 (not_f a)<|u4 (not_t f)<|u4 (not_t f)<|u4 eT<|u2 eT<|z0) (congrArg res_If (qj hm)) (by kernel_rfl)
 ·exact ge (wO (.res (res_Ip g))<|wP (ok_Ip p1 g j)<|u4 (not_t a)<|u4 (not_t a)<|u1 (not_t a)<|u4 eT<|u4 eT<|u4 eT<|u2 eT<|z0) (congrArg res_If (qj hm)) (by kernel_rfl)
theorem ok_If (p0:Zc) (p1:LI) (r:Int) (hm:m_If p0 p1=some r):Runs ext tbl 32 (as_If p0 p1) (res_If r):=
 runs_of (vf:=vf_If) (by kernel_rfl) rfl (st:=(enter vf_If (as_If p0 p1)).getD default) (by kernel_rfl) (go_on [] 1000 J0 (ok_If_0 p0 p1 r hm) (by kernel_rfl))
def O_Ik_7 (p2 a:Int) (Q:VX→St→Prop) (e:(Int×LI)):Prop:=EE c_Ik_17 K_Ik_17 (s_Ik_17 p2 a e.1 e.2) Q
theorem ok_Ik_17 (p2 e f:Int) (c:LI) (r:Zd) (hm:m_Ik_17 p2 e f c=some r):EE c_Ik_17 K_Ik_17 (s_Ik_17 p2 e f c) (Post vf_Ik (res_Ik r)):=by
 obtain ⟨a,g,hm⟩:=bind_some hm
 obtain ⟨d,h,hm⟩:=bind_some hm
 exact ge (wR (rI .u8) c<|wO (.res (res_Ii a))<|wP (ok_Ii (Zd.mk c f) 1 a g)<|wL (rI .u8) a.b<|wR (rI .u8) a.b<|wO (.res (res_Ij d))<|wP (ok_Ij a p2 e d h)<|wL (rI .u8) d.b<|wR (rI .u8) d.b<|z0) (congrArg res_Ik (qj hm)) (by kernel_rfl)
theorem ok_Ik_7 (p2 c h i d:Int) (a:LI) (y) (hm:m_Ik_7 p2 c h i d a=some y) (Q)
  (hin:∀ s,y=.inl s→EE c_Ik_7 K_Ik_7 (s_Ik_7 p2 c s.1 s.2.1 s.2.2.1 s.2.2.2) Q) (hout:∀ e,y=.inr e→O_Ik_7 p2 c Q e):EE c_Ik_7 K_Ik_7 (s_Ik_7 p2 c h i d a) Q:=by
 obtain ⟨g,hm⟩|⟨g,hm⟩:=split_ite hm
 ·obtain ⟨f,j,hm⟩:=bind_some hm
  exact gw (hin _ (qj hm).symm) (u1 g<|wR (rI .u8) a<|wO (.res (res_Ii f))<|wP (ok_Ii (Zd.mk a d) 0 f j)<|wL (rI .u8) f.b<|wN f.b.length<|z0) (by kernel_rfl)
 ·refine gm c_Ik_17 K_Ik_17 (s_Ik_17 p2 c d a) (v1 g<|wN a.length<|z0) ?_ (by kernel_rfl)
  exact hout (d,a) (qj hm).symm
theorem ok_Ik_0 (p1 p2:Int) (p0 r:Zd) (hm:m_Ik_0 p1 p2 p0=some r):EE c_Ik_0 K_Ik_0 (s_Ik_0 p1 p2 p0) (Post vf_Ik (res_Ik r)):=by
 obtain ⟨a,d,hm⟩:=bind_some hm
 obtain ⟨g,f,hm⟩:=bind_some hm
 refine gm c_Ik_7 K_Ik_7 (s_Ik_7 p2 a (shrI .u64 a p2) 0 p0.n p0.b) (wO (.res (res_Id a))<|wP (ok_Id p1 a d)<|wP (ck_p f)<|wN p0.b.length<|z0) ?_ (by kernel_rfl)
 obtain ⟨e,he,hm⟩:=bind_some hm
 refine loop_rule (u:=.c c_Ik_7) (K:=K_Ik_7) (Q:=(Post vf_Ik (res_Ik r))) (b:=lp_Ik_7 p2 a) (We:=O_Ik_7 p2 a (Post vf_Ik (res_Ik r))) (stJ:=fun s=>s_Ik_7 p2 a s.1 s.2.1 s.2.2.1 s.2.2.2) (s:=((shrI .u64 a p2),0,p0.n,p0.b)) (fun s y hb hin hout=>ok_Ik_7 p2 a s.1 s.2.1 s.2.2.1 s.2.2.2 y hb (Post vf_Ik (res_Ik r)) hin hout) he ?_
 show EE c_Ik_17 K_Ik_17 (s_Ik_17 p2 a e.1 e.2) _
 exact ok_Ik_17 p2 a e.1 e.2 r hm
theorem ok_Ik (p0:Zd) (p1 p2:Int) (r:Zd) (hm:m_Ik p0 p1 p2=some r):Runs ext tbl 36 (as_Ik p0 p1 p2) (res_Ik r):=
 runs_of (vf:=vf_Ik) (by kernel_rfl) rfl (st:=(enter vf_Ik (as_Ik p0 p1 p2)).getD default) (by kernel_rfl) (go_on [zn p0.b.length] 1000 (J (len_map (rI .u8) (rfl:p0.b.length=p0.b.length)) J0) (ok_Ik_0 p1 p2 p0 r hm) (by kernel_rfl))
def O_Ib_25 (p0:LI) (a:Int) (Q:VX→St→Prop) (e:(Int)):Prop:=EE c_Ib_35 K_Ib_35 (s_Ib_35 p0 a e) Q
def O_Ib_9 (Q:VX→St→Prop) (e:(Int)):Prop:=EE c_Ib_36 K_Ib_36 (s_Ib_36 e) Q
theorem ok_Ib_35 (p0:LI) (a b:Int) (y) (hm:m_Ib_35 p0 a b=some y) (Q)
  (hin:∀ s,y=.inl s→EE c_Ib_9 K_Ib_9 (s_Ib_9 p0 s.1 s.2) Q) (hout:∀ e,y=.inr e→O_Ib_9 Q e):EE c_Ib_35 K_Ib_35 (s_Ib_35 p0 a b) Q:=by
 exact gw (hin _ (qj hm).symm) (z0) (by kernel_rfl)
theorem ok_Ib_25 (p0:LI) (a b d:Int) (y) (hm:m_Ib_25 p0 a b d=some y) (Q)
  (hin:∀ s,y=.inl s→EE c_Ib_25 K_Ib_25 (s_Ib_25 p0 a s.1 s.2) Q) (hout:∀ e,y=.inr e→O_Ib_25 p0 a Q e):EE c_Ib_25 K_Ib_25 (s_Ib_25 p0 a b d) Q:=by
 obtain ⟨c,hm⟩|⟨c,hm⟩:=split_ite hm
 ·exact gw (hin _ (qj hm).symm) (u1 c<|wP (by decide:(0:Int)≤1)<|z0) (by kernel_rfl)
 ·refine gm c_Ib_35 K_Ib_35 (s_Ib_35 p0 a b) (v1 c<|z0) ?_ (by kernel_rfl)
  exact hout b (qj hm).symm
theorem ok_Ib_36 (a r:Int) (hm:m_Ib_36 a=some r):EE c_Ib_36 K_Ib_36 (s_Ib_36 a) (Post vf_Ib (res_Ib r)):=by
 exact ge (z0) (congrArg res_Ib (qj hm)) (by kernel_rfl)
theorem ok_Ib_9 (p0:LI) (d a:Int) (y) (hm:m_Ib_9 p0 d a=some y) (Q)
  (hin:∀ s,y=.inl s→EE c_Ib_9 K_Ib_9 (s_Ib_9 p0 s.1 s.2) Q) (hout:∀ e,y=.inr e→O_Ib_9 Q e):EE c_Ib_9 K_Ib_9 (s_Ib_9 p0 d a) Q:=by
 obtain ⟨f,hm⟩|⟨f,hm⟩:=split_ite hm
 ·obtain ⟨g,h,hm⟩:=bind_some hm
  refine gm c_Ib_25 K_Ib_25 (s_Ib_25 p0 a (xorI .u32 d (wr .u32 g)) 0) (u1 f<|wO (.row ((rI .u8) g))<|wP (rd_nn h)<|wP (at_row (rI .u8) (rd_get h))<|z0) ?_ (by kernel_rfl)
  obtain ⟨e,he,hm⟩:=bind_some hm
  refine loop_rule (u:=.c c_Ib_25) (K:=K_Ib_25) (Q:=Q) (b:=lp_Ib_25 p0 a) (We:=O_Ib_25 p0 a Q) (stJ:=fun s=>s_Ib_25 p0 a s.1 s.2) (s:=((xorI .u32 d (wr .u32 g)),0)) (fun s y hb hin hout=>ok_Ib_25 p0 a s.1 s.2 y hb Q hin hout) he ?_
  show EE c_Ib_35 K_Ib_35 (s_Ib_35 p0 a e) _
  exact ok_Ib_35 p0 a e y hm Q hin hout
 ·refine gm c_Ib_36 K_Ib_36 (s_Ib_36 d) (v1 f<|z0) ?_ (by kernel_rfl)
  exact hout d (qj hm).symm
theorem ok_Ib_0 (p0:LI) (r:Int) (hm:m_Ib_0 p0=some r):EE c_Ib_0 K_Ib_0 (s_Ib_0 p0) (Post vf_Ib (res_Ib r)):=by
 refine gm c_Ib_9 K_Ib_9 (s_Ib_9 p0 4294967295 0) (wL (rI .u8) p0<|z0) ?_ (by kernel_rfl)
 obtain ⟨e,he,hm⟩:=bind_some hm
 refine loop_rule (u:=.c c_Ib_9) (K:=K_Ib_9) (Q:=(Post vf_Ib (res_Ib r))) (b:=lp_Ib_9 p0) (We:=O_Ib_9 (Post vf_Ib (res_Ib r))) (stJ:=fun s=>s_Ib_9 p0 s.1 s.2) (s:=(4294967295,0)) (fun s y hb hin hout=>ok_Ib_9 p0 s.1 s.2 y hb (Post vf_Ib (res_Ib r)) hin hout) he ?_
 show EE c_Ib_36 K_Ib_36 (s_Ib_36 e) _
 exact ok_Ib_36 e r hm
theorem ok_Ib (p0:LI) (r:Int) (hm:m_Ib p0=some r):Runs ext tbl 37 (as_Ib p0) (res_Ib r):=
 runs_of (vf:=vf_Ib) (by kernel_rfl) rfl (st:=(enter vf_Ib (as_Ib p0)).getD default) (by kernel_rfl) (go_on [] 1000 J0 (ok_Ib_0 p0 r hm) (by kernel_rfl))
def O_Ic_157 (a:LI) (b:Int) (c:LI) (d:(List LI)) (f:Int) (g:Zc) (h:Int) (p0:Za) (i:LI) (Q:VX→St→Prop) (e:(Int×LI)):Prop:=EE c_Ic_173 K_Ic_173 (s_Ic_173 a b c d f g h p0 i e.1 e.2) Q
def O_Ic_141 (a:LI) (b:Int) (c:(List LI)) (d:Int) (p0:Za) (f:LI) (Q:VX→St→Prop) (e:(Int×LI)):Prop:=EE c_Ic_174 K_Ic_174 (s_Ic_174 a b c d p0 f e.1 e.2) Q
def O_Ic_123 (a:LI) (b:Int) (c:(List LI)) (d:Int) (p0:Za) (f:Zc) (g h:LI) (Q:VX→St→Prop) (e:(Int×LI)):Prop:=EE c_Ic_135 K_Ic_135 (s_Ic_135 a b c d p0 f g h e.1 e.2) Q
def O_Ic_102 (a:LI) (b:Int) (p0:Za) (c:LI) (Q:VX→St→Prop) (e:(Int×LI)):Prop:=EE c_Ic_175 K_Ic_175 (s_Ic_175 a b p0 c e.1 e.2) Q
def O_Ic_72 (a:LI) (b:Int) (p0:Za) (c:LI) (Q:VX→St→Prop) (e:(Int×(List LI))):Prop:=EE c_Ic_93 K_Ic_93 (s_Ic_93 a b p0 c e.1 e.2) Q
def O_Ic_48 (Q:VX→St→Prop) (e:(LI)):Prop:=EE c_Ic_179 K_Ic_179 (s_Ic_179 e) Q
def O_Ic_17 (p0:Za) (Q:VX→St→Prop) (e:(Int×LI)):Prop:=EE c_Ic_29 K_Ic_29 (s_Ic_29 p0 e.1 e.2) Q
theorem ok_Ic_88 (c:LI) (d h i j k:Int) (p0:Za) (b:LI) (f:(List LI)) (a:LI×LI) (l:Int) (m:Bool) (y) (hm:m_Ic_88 c d h i j k p0 b f a l m=some y) (Q)
  (hin:∀ s,y=.inl s→EE c_Ic_72 K_Ic_72 (s_Ic_72 c d p0 b s.1 s.2.1 s.2.2.1 s.2.2.2.1 s.2.2.2.2) Q) (hout:∀ e,y=.inr e→O_Ic_72 c d p0 b Q e):EE c_Ic_88 K_Ic_88 (s_Ic_88 c d h i j k p0 b f a l m) Q:=by
 obtain ⟨g,hm⟩|⟨g,hm⟩:=split_ite hm
 ·exact gw (hin _ (qj hm).symm) (u1 g<|wO (zi a.2)<|wO (zi a.2)<|wO (zi a.1)<|wO (zi a.1)<|wO (.rows (List.map (rL (rI .i64)) ([a.1,a.2]:List LI)))<|wO (zn 2)<|wO (zn b.length)<|wO (zn (([a.1,a.2]:List LI).length))<|wP (all_le (rI .i64) a.2 rfl)<|wP (all_dt (rI .i64) a.2 rfl)<|wP (all_le (rI .i64) a.2 rfl)<|wP (all_dt (rI .i64) a.2 rfl)<|wP (all_le (rI .i64) a.1 rfl)<|wP (all_dt (rI .i64) a.1 rfl)<|wP (all_le (rI .i64) a.1 rfl)<|wP (all_dt (rI .i64) a.1 rfl)<|wP (Eq.refl (List.map (rL (rI .i64)) ([a.1,a.2]:List LI)))<|wP (len_map (rL (rI .i64)) (show 2=([a.1,a.2]:List LI).length from rfl))<|wP (ln b.length)<|wP (lens 2 (([a.1,a.2]:List LI).length) rfl)<|z0) (by kernel_rfl)
 ·exact gw (hin _ (qj hm).symm) (v1 g<|wN b.length<|wN f.length<|z0) (by kernel_rfl)
theorem ok_Ic_173 (d:LI) (f:Int) (h:LI) (a:(List LI)) (g:Int) (b:Zc) (j:Int) (p0:Za) (c:LI) (k:Int) (i:LI) (y) (hm:m_Ic_173 d f h a g b j p0 c k i=some y) (Q)
  (hin:∀ s,y=.inl s→EE c_Ic_141 K_Ic_141 (s_Ic_141 d f h a g b p0 c s.1 s.2.1 s.2.2) Q) (hout:∀ e,y=.inr e→O_Ic_141 d f a g p0 c Q e):EE c_Ic_173 K_Ic_173 (s_Ic_173 d f h a g b j p0 c k i) Q:=by
 exact gw (hin _ (qj hm).symm) (wK c.length a.length b.keys.length<|wN i.length<|wN b.keys.length<|z0) (by kernel_rfl)
end Go.Proofs.V

namespace Go.Proofs.V
open Go
theorem ok_Ic_157 (i:LI) (j:Int) (k:LI) (n:Int) (f:(List LI)) (l:Int) (a:Zc) (m:Int) (r:LI) (p0:Za) (g:LI) (v h:Int) (c:LI) (y) (hm:m_Ic_157 i j k n f l a m r p0 g v h c=some y) (Q)
  (hin:∀ s,y=.inl s→EE c_Ic_157 K_Ic_157 (s_Ic_157 i j k n f l a m r p0 g s.1 s.2.1 s.2.2) Q) (hout:∀ e,y=.inr e→O_Ic_157 i j k f l a m p0 g Q e):EE c_Ic_157 K_Ic_157 (s_Ic_157 i j k n f l a m r p0 g v h c) Q:=by
 obtain ⟨o,hm⟩|⟨o,hm⟩:=split_ite hm
 ·obtain ⟨p,q,hm⟩:=bind_some hm
  obtain ⟨t,hm⟩|⟨t,hm⟩:=split_ite hm
  ·obtain ⟨d,u,hm⟩:=bind_some hm
   exact gw (hin _ (qj hm).symm) (u1 o<|wO (.row ((rI .i64) p))<|wP (rd_nn q)<|wP (at_row (rI .i64) (rd_get q))<|u1 t<|wR (rI .u8) c<|wO (.res (res_Ij d))<|wP (ok_Ij (Zd.mk c h) 32 (wr .u64 p) d u)<|wL (rI .u8) d.b<|wK g.length f.length a.keys.length<|wN d.b.length<|wN a.keys.length<|z0) (by kernel_rfl)
  ·obtain ⟨d,u,hm⟩:=bind_some hm
   exact gw (hin _ (qj hm).symm) (u1 o<|wO (.row ((rI .i64) p))<|wP (rd_nn q)<|wP (at_row (rI .i64) (rd_get q))<|v1 t<|wR (rI .u8) c<|wO (.res (res_Ik d))<|wP (ok_Ik (Zd.mk c h) p n d u)<|wL (rI .u8) d.b<|wK g.length f.length a.keys.length<|wN d.b.length<|wN a.keys.length<|z0) (by kernel_rfl)
 ·refine gm c_Ic_173 K_Ic_173 (s_Ic_173 i j k f l a m p0 g h c) (v1 o<|wK g.length f.length a.keys.length<|wN c.length<|wN a.keys.length<|z0) ?_ (by kernel_rfl)
  exact hout (h,c) (qj hm).symm
theorem ok_Ic_174 (b:LI) (c:Int) (d:(List LI)) (g:Int) (p0:Za) (a:LI) (h:Int) (f:LI) (y) (hm:m_Ic_174 b c d g p0 a h f=some y) (Q)
  (hin:∀ s,y=.inl s→EE c_Ic_102 K_Ic_102 (s_Ic_102 b c d p0 a s.1 s.2.1 s.2.2) Q) (hout:∀ e,y=.inr e→O_Ic_102 b c p0 a Q e):EE c_Ic_174 K_Ic_174 (s_Ic_174 b c d g p0 a h f) Q:=by
 exact gw (hin _ (qj hm).symm) (wK a.length d.length f.length<|z0) (by kernel_rfl)
theorem ok_Ic_141 (g:LI) (h:Int) (j:LI) (a:(List LI)) (i:Int) (d:Zc) (p0:Za) (f:LI) (k q:Int) (m:LI) (y) (hm:m_Ic_141 g h j a i d p0 f k q m=some y) (Q)
  (hin:∀ s,y=.inl s→EE c_Ic_141 K_Ic_141 (s_Ic_141 g h j a i d p0 f s.1 s.2.1 s.2.2) Q) (hout:∀ e,y=.inr e→O_Ic_141 g h a i p0 f Q e):EE c_Ic_141 K_Ic_141 (s_Ic_141 g h j a i d p0 f k q m) Q:=by
 obtain ⟨r,hm⟩|⟨r,hm⟩:=split_ite hm
 ·obtain ⟨p,t,hm⟩:=bind_some hm
  obtain ⟨l,v,hm⟩:=bind_some hm
  obtain ⟨o,w,hm⟩:=bind_some hm
  refine gm c_Ic_157 K_Ic_157 (s_Ic_157 g h j p a i d k o p0 f 0 l.n l.b) (u1 r<|wO (.row ((rI .i64) p))<|wP (rd_in rfl t)<|wP (at_row (rI .i64) (rd_get0 t))<|wR (rI .u8) m<|wO (.res (res_Ij l))<|wP (ok_Ij (Zd.mk m q) 5 (wr .u64 p) l v)<|wL (rI .u8) l.b<|wO (.res (res_Iq o))<|wP (ok_Iq d.order d.parts j k o w)<|wL (rI .i64) o<|wK f.length a.length d.keys.length<|wN l.b.length<|wN d.keys.length<|z0) ?_ (by kernel_rfl)
  obtain ⟨e,he,hm⟩:=bind_some hm
  refine loop_rule (u:=.c c_Ic_157) (K:=K_Ic_157) (Q:=Q) (b:=lp_Ic_157 g h j p a i d k o p0 f) (We:=O_Ic_157 g h j a i d k p0 f Q) (stJ:=fun s=>s_Ic_157 g h j p a i d k o p0 f s.1 s.2.1 s.2.2) (s:=(0,l.n,l.b)) (fun s y hb hin hout=>ok_Ic_157 g h j p a i d k o p0 f s.1 s.2.1 s.2.2 y hb Q hin hout) he ?_
  show EE c_Ic_173 K_Ic_173 (s_Ic_173 g h j a i d k p0 f e.1 e.2) _
  exact ok_Ic_173 g h j a i d k p0 f e.1 e.2 y hm Q hin hout
 ·refine gm c_Ic_174 K_Ic_174 (s_Ic_174 g h a i p0 f q m) (v1 r<|wK f.length a.length m.length<|z0) ?_ (by kernel_rfl)
  exact hout (q,m) (qj hm).symm
theorem ok_Ic_135 (d:LI) (f:Int) (g:(List LI)) (h:Int) (p0:Za) (i:Zc) (a j:LI) (m:Int) (l:LI) (y) (hm:m_Ic_135 d f g h p0 i a j m l=some y) (Q)
  (hin:∀ s,y=.inl s→EE c_Ic_102 K_Ic_102 (s_Ic_102 d f g p0 a s.1 s.2.1 s.2.2) Q) (hout:∀ e,y=.inr e→O_Ic_102 d f p0 a Q e):EE c_Ic_135 K_Ic_135 (s_Ic_135 d f g h p0 i a j m l) Q:=by
 obtain ⟨k,o,hm⟩:=bind_some hm
 refine gm c_Ic_141 K_Ic_141 (s_Ic_141 d f j g h i p0 a 0 k.n k.b) (wR (rI .u8) l<|wO (.res (res_Ij k))<|wP (ok_Ij (Zd.mk l m) 3 (wr .u64 i.parts) k o)<|wL (rI .u8) k.b<|wO (zi j)<|wP (all_le (rI .i64) j rfl)<|wP (all_dt (rI .i64) j rfl)<|wK a.length g.length i.keys.length<|wN k.b.length<|wN i.keys.length<|z0) ?_ (by kernel_rfl)
 obtain ⟨e,he,hm⟩:=bind_some hm
 refine loop_rule (u:=.c c_Ic_141) (K:=K_Ic_141) (Q:=Q) (b:=lp_Ic_141 d f j g h i p0 a) (We:=O_Ic_141 d f g h p0 a Q) (stJ:=fun s=>s_Ic_141 d f j g h i p0 a s.1 s.2.1 s.2.2) (s:=(0,k.n,k.b)) (fun s y hb hin hout=>ok_Ic_141 d f j g h i p0 a s.1 s.2.1 s.2.2 y hb Q hin hout) he ?_
 show EE c_Ic_174 K_Ic_174 (s_Ic_174 d f g h p0 a e.1 e.2) _
 exact ok_Ic_174 d f g h p0 a e.1 e.2 y hm Q hin hout
theorem ok_Ic_123 (h:LI) (i:Int) (a:(List LI)) (j:Int) (c:Zc) (p0:Za) (d f:LI) (n k:Int) (g:LI) (y) (hm:m_Ic_123 h i a j c p0 d f n k g=some y) (Q)
  (hin:∀ s,y=.inl s→EE c_Ic_123 K_Ic_123 (s_Ic_123 h i a j c p0 d f s.1 s.2.1 s.2.2) Q) (hout:∀ e,y=.inr e→O_Ic_123 h i a j p0 c d f Q e):EE c_Ic_123 K_Ic_123 (s_Ic_123 h i a j c p0 d f n k g) Q:=by
 obtain ⟨m,hm⟩|⟨m,hm⟩:=split_ite hm
 ·obtain ⟨o,p,hm⟩:=bind_some hm
  obtain ⟨l,q,hm⟩:=bind_some hm
  exact gw (hin _ (qj hm).symm) (u1 m<|wO (.row ((rI .i64) o))<|wP (rd_in rfl p)<|wP (at_row (rI .i64) (rd_get0 p))<|wR (rI .u8) g<|wO (.res (res_Ij l))<|wP (ok_Ij (Zd.mk g k) 26 (wr .u64 o) l q)<|wL (rI .u8) l.b<|wK d.length f.length a.length<|wN l.b.length<|wN c.keys.length<|z0) (by kernel_rfl)
 ·refine gm c_Ic_135 K_Ic_135 (s_Ic_135 h i a j p0 c d f k g) (v1 m<|wK d.length f.length a.length<|wN g.length<|wN c.keys.length<|z0) ?_ (by kernel_rfl)
  exact hout (k,g) (qj hm).symm
theorem ok_Ic_175 (d:LI) (f:Int) (p0:Za) (c:LI) (g:Int) (b:LI) (y) (hm:m_Ic_175 d f p0 c g b=some y) (Q)
  (hin:∀ s,y=.inl s→EE c_Ic_48 K_Ic_48 (s_Ic_48 d p0 s.1 s.2) Q) (hout:∀ e,y=.inr e→O_Ic_48 Q e):EE c_Ic_175 K_Ic_175 (s_Ic_175 d f p0 c g b) Q:=by
 obtain ⟨a,h,hm⟩:=bind_some hm
 obtain ⟨k,i,hm⟩:=bind_some hm
 obtain ⟨l,j,hm⟩:=bind_some hm
 exact gw (hin _ (qj hm).symm) (wO (.rows (List.map (rI .u8) b))<|wO (.res (res_Ib a))<|wO (.rows (List.map (rI .u8) (c++b)))<|wO (zn ((c++b).length))<|wO (.rows (List.map (rI .u8) ([(wr .u8 (shrI .u32 a 8)),(wr .u8 a)]:LI)))<|wO (zn 2)<|wO (.rows (List.map (rI .u8) ((c++b)++([(wr .u8 (shrI .u32 a 8)),(wr .u8 a)]:LI))))<|wO (zn (((c++b)++([(wr .u8 (shrI .u32 a 8)),(wr .u8 a)]:LI)).length))<|wO (zn (((c++b)++([(wr .u8 (shrI .u32 a 8)),(wr .u8 a)]:LI)).length))<|wP (all_le (rI .u8) b rfl)<|wP (all_dt (rI .u8) b rfl)<|wP (ok_Ib b a h)<|wP (all_le (rI .u8) b rfl)<|wP (app_ck (rI .u8) c b rfl rfl i)<|wP (app_tell (rI .u8) c b rfl rfl)<|wP (len_map (rI .u8) (show (c++b).length=(c++b).length from rfl))<|wP (by decide:(0:Int)≤8)<|wP (Eq.refl (List.map (rI .u8) ([(wr .u8 (shrI .u32 a 8)),(wr .u8 a)]:LI)))<|wP (len_map (rI .u8) (show 2=([(wr .u8 (shrI .u32 a 8)),(wr .u8 a)]:LI).length from rfl))<|wP (all_le (rI .u8) ([(wr .u8 (shrI .u32 a 8)),(wr .u8 a)]:LI) rfl)<|wP (app_ck (rI .u8) (c++b) ([(wr .u8 (shrI .u32 a 8)),(wr .u8 a)]:LI) rfl rfl j)<|wP (app_tell (rI .u8) (c++b) ([(wr .u8 (shrI .u32 a 8)),(wr .u8 a)]:LI) rfl rfl)<|wP (len_map (rI .u8) (show ((c++b)++([(wr .u8 (shrI .u32 a 8)),(wr .u8 a)]:LI)).length=((c++b)++([(wr .u8 (shrI .u32 a 8)),(wr .u8 a)]:LI)).length from rfl))<|wP (lens (((c++b)++([(wr .u8 (shrI .u32 a 8)),(wr .u8 a)]:LI)).length) (((c++b)++([(wr .u8 (shrI .u32 a 8)),(wr .u8 a)]:LI)).length) rfl)<|z0) (by kernel_rfl)
theorem ok_Ic_102 (f:LI) (g:Int) (h:(List LI)) (p0:Za) (a:LI) (j m:Int) (l:LI) (y) (hm:m_Ic_102 f g h p0 a j m l=some y) (Q)
  (hin:∀ s,y=.inl s→EE c_Ic_102 K_Ic_102 (s_Ic_102 f g h p0 a s.1 s.2.1 s.2.2) Q) (hout:∀ e,y=.inr e→O_Ic_102 f g p0 a Q e):EE c_Ic_102 K_Ic_102 (s_Ic_102 f g h p0 a j m l) Q:=by
 obtain ⟨o,hm⟩|⟨o,hm⟩:=split_ite hm
 ·obtain ⟨p,q,hm⟩:=bind_some hm
  obtain ⟨d,r,hm⟩:=bind_some hm
  obtain ⟨i,t,hm⟩:=bind_some hm
  obtain ⟨k,v,hm⟩:=bind_some hm
  refine gm c_Ic_123 K_Ic_123 (s_Ic_123 f g h j d p0 a i 0 k.n k.b) (u1 o<|wO (.row ((rL (rI .i64)) p))<|wO (.res (res_Ia d))<|wP (rd_in rfl q)<|wP (at_row (rL (rI .i64)) (rd_get0 q))<|wP (ok_Ia p d r)<|wL (rI .i64) d.keys<|wO (.res (res_Ig i))<|wP (ok_Ig d.order p i t)<|wL (rI .i64) i<|wR (rI .u8) l<|wO (.res (res_Ij k))<|wP (ok_Ij (Zd.mk l m) 3 (wr .u64 d.order) k v)<|wL (rI .u8) k.b<|wK a.length i.length h.length<|wN k.b.length<|wN d.keys.length<|z0) ?_ (by kernel_rfl)
  obtain ⟨e,he,hm⟩:=bind_some hm
  refine loop_rule (u:=.c c_Ic_123) (K:=K_Ic_123) (Q:=Q) (b:=lp_Ic_123 f g h j d p0 a i) (We:=O_Ic_123 f g h j p0 d a i Q) (stJ:=fun s=>s_Ic_123 f g h j d p0 a i s.1 s.2.1 s.2.2) (s:=(0,k.n,k.b)) (fun s y hb hin hout=>ok_Ic_123 f g h j d p0 a i s.1 s.2.1 s.2.2 y hb Q hin hout) he ?_
  show EE c_Ic_135 K_Ic_135 (s_Ic_135 f g h j p0 d a i e.1 e.2) _
  exact ok_Ic_135 f g h j p0 d a i e.1 e.2 y hm Q hin hout
 ·refine gm c_Ic_175 K_Ic_175 (s_Ic_175 f g p0 a m l) (v1 o<|wN a.length<|wN l.length<|z0) ?_ (by kernel_rfl)
  exact hout (m,l) (qj hm).symm
theorem ok_Ic_93 (a:LI) (f:Int) (p0:Za) (d:LI) (i:Int) (h:(List LI)) (y) (hm:m_Ic_93 a f p0 d i h=some y) (Q)
  (hin:∀ s,y=.inl s→EE c_Ic_48 K_Ic_48 (s_Ic_48 a p0 s.1 s.2) Q) (hout:∀ e,y=.inr e→O_Ic_48 Q e):EE c_Ic_93 K_Ic_93 (s_Ic_93 a f p0 d i h) Q:=by
 obtain ⟨g,j,hm⟩:=bind_some hm
 refine gm c_Ic_102 K_Ic_102 (s_Ic_102 a f h p0 d 0 g.n g.b) (wO (.rows (List.map (rI .u8) ([]:LI)))<|wO (.res (res_Ij g))<|wP (all_le0 (rI .u8) ([]:LI) rfl)<|wP (all_t (rI .u8) ([]:LI) rfl)<|wP (ok_Ij (Zd.mk ([]:LI) 0) 2 (wr .u64 i) g j)<|wL (rI .u8) g.b<|wK d.length h.length g.b.length<|z0) ?_ (by kernel_rfl)
 obtain ⟨e,he,hm⟩:=bind_some hm
 refine loop_rule (u:=.c c_Ic_102) (K:=K_Ic_102) (Q:=Q) (b:=lp_Ic_102 a f h p0 d) (We:=O_Ic_102 a f p0 d Q) (stJ:=fun s=>s_Ic_102 a f h p0 d s.1 s.2.1 s.2.2) (s:=(0,g.n,g.b)) (fun s y hb hin hout=>ok_Ic_102 a f h p0 d s.1 s.2.1 s.2.2 y hb Q hin hout) he ?_
 show EE c_Ic_175 K_Ic_175 (s_Ic_175 a f p0 d e.1 e.2) _
 exact ok_Ic_175 a f p0 d e.1 e.2 y hm Q hin hout
theorem ok_Ic_72 (l:LI) (b:Int) (p0:Za) (g:LI) (f m v n:Int) (j:(List LI)) (y) (hm:m_Ic_72 l b p0 g f m v n j=some y) (Q)
  (hin:∀ s,y=.inl s→EE c_Ic_72 K_Ic_72 (s_Ic_72 l b p0 g s.1 s.2.1 s.2.2.1 s.2.2.2.1 s.2.2.2.2) Q) (hout:∀ e,y=.inr e→O_Ic_72 l b p0 g Q e):EE c_Ic_72 K_Ic_72 (s_Ic_72 l b p0 g f m v n j) Q:=by
 obtain ⟨o,hm⟩|⟨o,hm⟩:=split_ite hm
 ·obtain ⟨h,p,hm⟩:=bind_some hm
  obtain ⟨E,w,hm⟩:=bind_some hm
  obtain ⟨F,q,hm⟩:=bind_some hm
  obtain ⟨i,r,hm⟩:=bind_some hm
  obtain ⟨G,x,hm⟩:=bind_some hm
  obtain ⟨a,z,hm⟩:=bind_some hm
  obtain ⟨c,A,hm⟩:=bind_some hm
  obtain ⟨t,B,hm⟩:=bind_some hm
  obtain ⟨d,C,hm⟩:=bind_some hm
  obtain ⟨u,D,hm⟩:=bind_some hm
  obtain ⟨k,hm⟩|⟨k,hm⟩:=split_ite hm
  ·exact gw (ok_Ic_88 _ _ _ _ _ _ _ _ _ _ _ _ y hm Q hin hout) (u1 o<|wO (.row ((rL (rI .i64)) h))<|wO (.rows (mi ((h.take (Int.toNat f)).drop (Int.toNat b))))<|wO (.row ((rL (rI .i64)) i))<|wO (.rows (mi ((i.take (Int.toNat f)).drop (Int.toNat b))))<|wO (.res (res_Ih a))<|wO (zn a.1.length)<|wO (zn a.2.length)<|wO (zi a.1)<|wO (.res (res_Ia c))<|wO (zn c.keys.length)<|wO (zi c.keys)<|wO (zi a.1)<|wO (.res (res_If t))<|wO (zi a.2)<|wO (.res (res_Ia d))<|wO (zn d.keys.length)<|wO (zi d.keys)<|wO (zi a.2)<|wO (.res (res_If u))<|wO zT<|wO zT<|wO zT<|wO zT<|wO (zn g.length)<|wO (zn j.length)<|wO (zn a.1.length)<|wO (zn a.2.length)<|wP (rd_nn p)<|wP (at_row (rL (rI .i64)) (rd_get p))<|wP (slc_hi (rI .i64) h (ck_p w))<|wP (ck_p q)<|wP (slc_tell (rI .i64) h (Int.toNat b) (Int.toNat f))<|wP (rd_nn r)<|wP (at_row (rL (rI .i64)) (rd_get r))<|wP (slc_hi (rI .i64) i (ck_p x))<|wP (ck_p q)<|wP (slc_tell (rI .i64) i (Int.toNat b) (Int.toNat f))<|wP (ok_Ih n ((h.take (Int.toNat f)).drop (Int.toNat b)) ((i.take (Int.toNat f)).drop (Int.toNat b)) a z)<|wP (lm (rI .i64) a.1)<|wP (lm (rI .i64) a.2)<|wP (all_le (rI .i64) a.1 rfl)<|wP (all_dt (rI .i64) a.1 rfl)<|wP (ok_Ia a.1 c A)<|wP (lm (rI .i64) c.keys)<|wP (all_le (rI .i64) c.keys rfl)<|wP (all_dt (rI .i64) c.keys rfl)<|wP (all_le (rI .i64) a.1 rfl)<|wP (all_dt (rI .i64) a.1 rfl)<|wP (ok_If c a.1 t B)<|wP (all_le (rI .i64) a.2 rfl)<|wP (all_dt (rI .i64) a.2 rfl)<|wP (ok_Ia a.2 d C)<|wP (lm (rI .i64) d.keys)<|wP (all_le (rI .i64) d.keys rfl)<|wP (all_dt (rI .i64) d.keys rfl)<|wP (all_le (rI .i64) a.2 rfl)<|wP (all_dt (rI .i64) a.2 rfl)<|wP (ok_If d a.2 u D)<|wP k<|wP k<|wP k<|wP k<|wP (ln g.length)<|wP (ln j.length)<|wP (ln a.1.length)<|wP (ln a.2.length)<|z0) (by kernel_rfl)
  ·exact gw (ok_Ic_88 _ _ _ _ _ _ _ _ _ _ _ _ y hm Q hin hout) (u1 o<|wO (.row ((rL (rI .i64)) h))<|wO (.rows (mi ((h.take (Int.toNat f)).drop (Int.toNat b))))<|wO (.row ((rL (rI .i64)) i))<|wO (.rows (mi ((i.take (Int.toNat f)).drop (Int.toNat b))))<|wO (.res (res_Ih a))<|wO (zn a.1.length)<|wO (zn a.2.length)<|wO (zi a.1)<|wO (.res (res_Ia c))<|wO (zn c.keys.length)<|wO (zi c.keys)<|wO (zi a.1)<|wO (.res (res_If t))<|wO (zi a.2)<|wO (.res (res_Ia d))<|wO (zn d.keys.length)<|wO (zi d.keys)<|wO (zi a.2)<|wO (.res (res_If u))<|wO zF<|wO zF<|wO zF<|wO zF<|wO (zn g.length)<|wO (zn j.length)<|wO (zn a.1.length)<|wO (zn a.2.length)<|wP (rd_nn p)<|wP (at_row (rL (rI .i64)) (rd_get p))<|wP (slc_hi (rI .i64) h (ck_p w))<|wP (ck_p q)<|wP (slc_tell (rI .i64) h (Int.toNat b) (Int.toNat f))<|wP (rd_nn r)<|wP (at_row (rL (rI .i64)) (rd_get r))<|wP (slc_hi (rI .i64) i (ck_p x))<|wP (ck_p q)<|wP (slc_tell (rI .i64) i (Int.toNat b) (Int.toNat f))<|wP (ok_Ih n ((h.take (Int.toNat f)).drop (Int.toNat b)) ((i.take (Int.toNat f)).drop (Int.toNat b)) a z)<|wP (lm (rI .i64) a.1)<|wP (lm (rI .i64) a.2)<|wP (all_le (rI .i64) a.1 rfl)<|wP (all_dt (rI .i64) a.1 rfl)<|wP (ok_Ia a.1 c A)<|wP (lm (rI .i64) c.keys)<|wP (all_le (rI .i64) c.keys rfl)<|wP (all_dt (rI .i64) c.keys rfl)<|wP (all_le (rI .i64) a.1 rfl)<|wP (all_dt (rI .i64) a.1 rfl)<|wP (ok_If c a.1 t B)<|wP (all_le (rI .i64) a.2 rfl)<|wP (all_dt (rI .i64) a.2 rfl)<|wP (ok_Ia a.2 d C)<|wP (lm (rI .i64) d.keys)<|wP (all_le (rI .i64) d.keys rfl)<|wP (all_dt (rI .i64) d.keys rfl)<|wP (all_le (rI .i64) a.2 rfl)<|wP (all_dt (rI .i64) a.2 rfl)<|wP (ok_If d a.2 u D)<|wP k<|wP k<|wP k<|wP k<|wP (ln g.length)<|wP (ln j.length)<|wP (ln a.1.length)<|wP (ln a.2.length)<|z0) (by kernel_rfl)
 ·refine gm c_Ic_93 K_Ic_93 (s_Ic_93 l b p0 g m j) (v1 o<|wN g.length<|wN j.length<|z0) ?_ (by kernel_rfl)
  exact hout (m,j) (qj hm).symm
theorem ok_Ic_179 (a r:LI) (hm:m_Ic_179 a=some r):EE c_Ic_179 K_Ic_179 (s_Ic_179 a) (Post vf_Ic (res_Ic r)):=by
 exact ge (wR (rI .u8) a<|z0) (congrArg res_Ic (qj hm)) (by kernel_rfl)
theorem ok_Ic_48 (d:LI) (p0:Za) (a:Int) (g:LI) (y) (hm:m_Ic_48 d p0 a g=some y) (Q)
  (hin:∀ s,y=.inl s→EE c_Ic_48 K_Ic_48 (s_Ic_48 d p0 s.1 s.2) Q) (hout:∀ e,y=.inr e→O_Ic_48 Q e):EE c_Ic_48 K_Ic_48 (s_Ic_48 d p0 a g) Q:=by
 obtain ⟨h,hm⟩|⟨h,hm⟩:=split_ite hm
 ·obtain ⟨f,i,hm⟩:=bind_some hm
  obtain ⟨m,k,hm⟩:=bind_some hm
  obtain ⟨n,l,hm⟩:=bind_some hm
  obtain ⟨j,hm⟩|⟨j,hm⟩:=split_ite hm
  ·refine gm c_Ic_72 K_Ic_72 (s_Ic_72 d a p0 g (mnI (w64 (a+p0.frame)) (d.length:Int)) 0 (-1) 0 ([((f.take (Int.toNat (mnI (w64 (a+p0.frame)) (d.length:Int)))).drop (Int.toNat a))]:List LI)) (u1 h<|wO (.row ((rL (rI .i64)) f))<|wO (.rows (mi ((f.take (Int.toNat (mnI (w64 (a+p0.frame)) (d.length:Int)))).drop (Int.toNat a))))<|wO (.rows (List.map (rL (rI .i64)) ([((f.take (Int.toNat (mnI (w64 (a+p0.frame)) (d.length:Int)))).drop (Int.toNat a))]:List LI)))<|wO (zn 1)<|wO (zn p0.channels.length)<|wO zT<|wO (zn g.length)<|wO (zn (([((f.take (Int.toNat (mnI (w64 (a+p0.frame)) (d.length:Int)))).drop (Int.toNat a))]:List LI).length))<|wP (rd_nn i)<|wP (at_row (rL (rI .i64)) (rd_get i))<|wP (slc_hi (rI .i64) f (ck_p k))<|wP (ck_p l)<|wP (slc_tell (rI .i64) f (Int.toNat a) (Int.toNat (mnI (w64 (a+p0.frame)) (d.length:Int))))<|wP (Eq.refl (List.map (rL (rI .i64)) ([((f.take (Int.toNat (mnI (w64 (a+p0.frame)) (d.length:Int)))).drop (Int.toNat a))]:List LI)))<|wP (len_map (rL (rI .i64)) (show 1=([((f.take (Int.toNat (mnI (w64 (a+p0.frame)) (d.length:Int)))).drop (Int.toNat a))]:List LI).length from rfl))<|wP (len_map (rL (rI .i64)) (show p0.channels.length=p0.channels.length from rfl))<|wP j<|wP (ln g.length)<|wP (lens 1 (([((f.take (Int.toNat (mnI (w64 (a+p0.frame)) (d.length:Int)))).drop (Int.toNat a))]:List LI).length) rfl)<|z0) ?_ (by kernel_rfl)
   obtain ⟨e,he,hm⟩:=bind_some hm
   refine loop_rule (u:=.c c_Ic_72) (K:=K_Ic_72) (Q:=Q) (b:=lp_Ic_72 d a p0 g) (We:=O_Ic_72 d a p0 g Q) (stJ:=fun s=>s_Ic_72 d a p0 g s.1 s.2.1 s.2.2.1 s.2.2.2.1 s.2.2.2.2) (s:=((mnI (w64 (a+p0.frame)) (d.length:Int)),0,(-1),0,([((f.take (Int.toNat (mnI (w64 (a+p0.frame)) (d.length:Int)))).drop (Int.toNat a))]:List LI))) (fun s y hb hin hout=>ok_Ic_72 d a p0 g s.1 s.2.1 s.2.2.1 s.2.2.2.1 s.2.2.2.2 y hb Q hin hout) he ?_
   show EE c_Ic_93 K_Ic_93 (s_Ic_93 d a p0 g e.1 e.2) _
   exact ok_Ic_93 d a p0 g e.1 e.2 y hm Q hin hout
  ·exact gw (ok_Ic_93 _ _ _ _ _ _ y hm Q hin hout) (u1 h<|wO (.row ((rL (rI .i64)) f))<|wO (.rows (mi ((f.take (Int.toNat (mnI (w64 (a+p0.frame)) (d.length:Int)))).drop (Int.toNat a))))<|wO (.rows (List.map (rL (rI .i64)) ([((f.take (Int.toNat (mnI (w64 (a+p0.frame)) (d.length:Int)))).drop (Int.toNat a))]:List LI)))<|wO (zn 1)<|wO (zn p0.channels.length)<|wO zF<|wO (zn g.length)<|wO (zn (([((f.take (Int.toNat (mnI (w64 (a+p0.frame)) (d.length:Int)))).drop (Int.toNat a))]:List LI).length))<|wP (rd_nn i)<|wP (at_row (rL (rI .i64)) (rd_get i))<|wP (slc_hi (rI .i64) f (ck_p k))<|wP (ck_p l)<|wP (slc_tell (rI .i64) f (Int.toNat a) (Int.toNat (mnI (w64 (a+p0.frame)) (d.length:Int))))<|wP (Eq.refl (List.map (rL (rI .i64)) ([((f.take (Int.toNat (mnI (w64 (a+p0.frame)) (d.length:Int)))).drop (Int.toNat a))]:List LI)))<|wP (len_map (rL (rI .i64)) (show 1=([((f.take (Int.toNat (mnI (w64 (a+p0.frame)) (d.length:Int)))).drop (Int.toNat a))]:List LI).length from rfl))<|wP (len_map (rL (rI .i64)) (show p0.channels.length=p0.channels.length from rfl))<|wP j<|wP (ln g.length)<|wP (lens 1 (([((f.take (Int.toNat (mnI (w64 (a+p0.frame)) (d.length:Int)))).drop (Int.toNat a))]:List LI).length) rfl)<|z0) (by kernel_rfl)
 ·refine gm c_Ic_179 K_Ic_179 (s_Ic_179 g) (v1 h<|wN g.length<|z0) ?_ (by kernel_rfl)
  exact hout g (qj hm).symm
theorem ok_Ic_29 (p0:Za) (k:Int) (j r:LI) (hm:m_Ic_29 p0 k j=some r):EE c_Ic_29 K_Ic_29 (s_Ic_29 p0 k j) (Post vf_Ic (res_Ic r)):=by
 obtain ⟨a,l,hm⟩:=bind_some hm
 obtain ⟨f,m,hm⟩:=bind_some hm
 obtain ⟨g,n,hm⟩:=bind_some hm
 obtain ⟨h,o,hm⟩:=bind_some hm
 obtain ⟨i,p,hm⟩:=bind_some hm
 obtain ⟨d,q,hm⟩:=bind_some hm
 refine gm c_Ic_48 K_Ic_48 (s_Ic_48 a p0 0 d.b) (wO (.row ((rL (rI .i64)) a))<|wP (rd_nn l)<|wP (at_row (rL (rI .i64)) (rd_get l))<|wL (rI .i64) a<|wR (rI .u8) j<|wO (.res (res_Ij f))<|wP (ok_Ij (Zd.mk j k) 20 (wr .u64 p0.rate) f m)<|wL (rI .u8) f.b<|wR (rI .u8) f.b<|wO (.res (res_Ij g))<|wP (ok_Ij f 5 (wr .u64 p0.bits) g n)<|wL (rI .u8) g.b<|wR (rI .u8) g.b<|wO (.res (res_Ij h))<|wP (ok_Ij g 10 (wr .u64 p0.frame) h o)<|wL (rI .u8) h.b<|wO (zn p0.channels.length)<|wP (len_map (rL (rI .i64)) (show p0.channels.length=p0.channels.length from rfl))<|wR (rI .u8) h.b<|wO (.res (res_Ij i))<|wP (ok_Ij h 1 (wr .u64 (w64 ((p0.channels.length:Int) - 1))) i p)<|wL (rI .u8) i.b<|wR (rI .u8) i.b<|wO (.res (res_Ij d))<|wP (ok_Ij i 12 (wr .u64 (a.length:Int)) d q)<|wL (rI .u8) d.b<|wN d.b.length<|z0) ?_ (by kernel_rfl)
 obtain ⟨e,he,hm⟩:=bind_some hm
 refine loop_rule (u:=.c c_Ic_48) (K:=K_Ic_48) (Q:=(Post vf_Ic (res_Ic r))) (b:=lp_Ic_48 a p0) (We:=O_Ic_48 (Post vf_Ic (res_Ic r))) (stJ:=fun s=>s_Ic_48 a p0 s.1 s.2) (s:=(0,d.b)) (fun s y hb hin hout=>ok_Ic_48 a p0 s.1 s.2 y hb (Post vf_Ic (res_Ic r)) hin hout) he ?_
 show EE c_Ic_179 K_Ic_179 (s_Ic_179 e) _
 exact ok_Ic_179 e r hm
theorem ok_Ic_17 (p0:Za) (h c:Int) (f a:LI) (y) (hm:m_Ic_17 p0 h c f a=some y) (Q)
  (hin:∀ s,y=.inl s→EE c_Ic_17 K_Ic_17 (s_Ic_17 p0 s.1 s.2.1 s.2.2.1 s.2.2.2) Q) (hout:∀ e,y=.inr e→O_Ic_17 p0 Q e):EE c_Ic_17 K_Ic_17 (s_Ic_17 p0 h c f a) Q:=by
 obtain ⟨g,hm⟩|⟨g,hm⟩:=split_ite hm
 ·obtain ⟨i,j,hm⟩:=bind_some hm
  obtain ⟨d,k,hm⟩:=bind_some hm
  exact gw (hin _ (qj hm).symm) (u1 g<|wO (.row ((rI .u8) i))<|wP (rd_in rfl j)<|wP (at_row (rI .u8) (rd_get0 j))<|wR (rI .u8) a<|wO (.res (res_Ij d))<|wP (ok_Ij (Zd.mk a c) 8 (wr .u64 i) d k)<|wL (rI .u8) d.b<|wN f.length<|wN d.b.length<|z0) (by kernel_rfl)
 ·refine gm c_Ic_29 K_Ic_29 (s_Ic_29 p0 c a) (v1 g<|wN a.length<|z0) ?_ (by kernel_rfl)
  exact hout (c,a) (qj hm).symm
theorem ok_Ic_0 (p0:Za) (r:LI) (hm:m_Ic_0 p0=some r):EE c_Ic_0 K_Ic_0 (s_Ic_0 p0) (Post vf_Ic (res_Ic r)):=by
 obtain ⟨a,f,hm⟩:=bind_some hm
 obtain ⟨d,hm⟩|⟨d,hm⟩:=split_ite hm
 ·refine gm c_Ic_17 K_Ic_17 (s_Ic_17 p0 0 0 ([83,78,68,49]:LI) ([]:LI)) (wO (.res (res_Ie a))<|wP (ok_Ie p0 a f)<|v1 (not_f d)<|wO (.rows (List.map (rI .u8) ([83,78,68,49]:LI)))<|wO (zn 4)<|wO (zn (([83,78,68,49]:LI).length))<|wO (zn (([]:LI).length))<|wP (Eq.refl (List.map (rI .u8) ([83,78,68,49]:LI)))<|wP (len_map (rI .u8) (show 4=([83,78,68,49]:LI).length from rfl))<|wP (lens 4 (([83,78,68,49]:LI).length) rfl)<|wP (lens 0 (([]:LI).length) rfl)<|z0) ?_ (by kernel_rfl)
  obtain ⟨e,he,hm⟩:=bind_some hm
  refine loop_rule (u:=.c c_Ic_17) (K:=K_Ic_17) (Q:=(Post vf_Ic (res_Ic r))) (b:=lp_Ic_17 p0) (We:=O_Ic_17 p0 (Post vf_Ic (res_Ic r))) (stJ:=fun s=>s_Ic_17 p0 s.1 s.2.1 s.2.2.1 s.2.2.2) (s:=(0,0,([83,78,68,49]:LI),([]:LI))) (fun s y hb hin hout=>ok_Ic_17 p0 s.1 s.2.1 s.2.2.1 s.2.2.2 y hb (Post vf_Ic (res_Ic r)) hin hout) he ?_
  show EE c_Ic_29 K_Ic_29 (s_Ic_29 p0 e.1 e.2) _
  exact ok_Ic_29 p0 e.1 e.2 r hm
 ·exact ge (wO (.res (res_Ie a))<|wP (ok_Ie p0 a f)<|u1 (not_t d)<|wO (.rows (List.map (rI .u8) ([]:LI)))<|wP (all_le0 (rI .u8) ([]:LI) rfl)<|wP (all_t (rI .u8) ([]:LI) rfl)<|z0) (congrArg res_Ic (qj hm)) (by kernel_rfl)
theorem ok_Ic (p0:Za) (r:LI) (hm:m_Ic p0=some r):Runs ext tbl 9 (as_Ic p0) (res_Ic r):=
 runs_of (vf:=vf_Ic) (by kernel_rfl) rfl (st:=(enter vf_Ic (as_Ic p0)).getD default) (by kernel_rfl) (go_on [] 1000 J0 (ok_Ic_0 p0 r hm) (by kernel_rfl))
def O_La_15 (Q:VX→St→Prop) (e:(Bool)⊕((Unit))):Prop:=match e with | .inl e=>Q=Post vf_La (res_La e) | .inr e=>EE c_La_31 K_La_31 (s_La_31) Q
theorem ok_La_31 (r:Bool) (hm:m_La_31=some r):EE c_La_31 K_La_31 (s_La_31) (Post vf_La (res_La r)):=by
 exact ge (z0) (congrArg res_La (qj hm)) (by kernel_rfl)
theorem ok_La_15 (p0 p1:LI) (f:Int) (y) (hm:m_La_15 p0 p1 f=some y) (Q)
  (hin:∀ s,y=.inl s→EE c_La_15 K_La_15 (s_La_15 p0 p1 s) Q) (hout:∀ e,y=.inr e→O_La_15 Q e):EE c_La_15 K_La_15 (s_La_15 p0 p1 f) Q:=by
 obtain ⟨a,hm⟩|⟨a,hm⟩:=split_ite hm
 ·obtain ⟨g,b,hm⟩:=bind_some hm
  obtain ⟨h,c,hm⟩:=bind_some hm
  obtain ⟨d,hm⟩|⟨d,hm⟩:=split_ite hm
  ·have hQ:Q=Post vf_La (res_La false):=hout (.inl false) (qj hm).symm
   subst hQ
   exact ge (wL (rI .u8) p0<|u1 a<|wO (.row ((rI .u8) g))<|wO (.row ((rI .u8) h))<|wP (rd_nn b)<|wP (at_row (rI .u8) (rd_get b))<|wP (rd_nn c)<|wP (at_row (rI .u8) (rd_get c))<|u1 d<|z0) (rfl:res_La false=res_La false) (by kernel_rfl)
  ·exact gw (hin _ (qj hm).symm) (wL (rI .u8) p0<|u1 a<|wO (.row ((rI .u8) g))<|wO (.row ((rI .u8) h))<|wP (rd_nn b)<|wP (at_row (rI .u8) (rd_get b))<|wP (rd_nn c)<|wP (at_row (rI .u8) (rd_get c))<|v1 d<|z0) (by kernel_rfl)
 ·refine gm c_La_31 K_La_31 (s_La_31) (wL (rI .u8) p0<|v1 a<|z0) ?_ (by kernel_rfl)
  exact hout (.inr ()) (qj hm).symm
theorem ok_La_0 (p0 p1:LI) (r:Bool) (hm:m_La_0 p0 p1=some r):EE c_La_0 K_La_0 (s_La_0 p0 p1) (Post vf_La (res_La r)):=by
 obtain ⟨a,hm⟩|⟨a,hm⟩:=split_ite hm
 ·exact ge (wL (rI .u8) p0<|wL (rI .u8) p1<|u1 a<|z0) (congrArg res_La (qj hm)) (by kernel_rfl)
 ·refine gm c_La_15 K_La_15 (s_La_15 p0 p1 0) (wL (rI .u8) p0<|wL (rI .u8) p1<|v1 a<|z0) ?_ (by kernel_rfl)
  obtain ⟨e,he,hm⟩:=bind_some hm
  refine loop_rule (u:=.c c_La_15) (K:=K_La_15) (Q:=(Post vf_La (res_La r))) (b:=lp_La_15 p0 p1) (We:=O_La_15 (Post vf_La (res_La r))) (stJ:=fun s=>s_La_15 p0 p1 s) (s:=0) (fun s y hb hin hout=>ok_La_15 p0 p1 s y hb (Post vf_La (res_La r)) hin hout) he ?_
  rcases e with e | e
  ·exact congrArg (fun r=>Post vf_La (res_La r)) (qj hm).symm
  ·show EE c_La_31 K_La_31 (s_La_31) _
   exact ok_La_31 r hm
theorem ok_La (p0 p1:LI) (r:Bool) (hm:m_La p0 p1=some r):Runs ext tbl 10 (as_La p0 p1) (res_La r):=
 runs_of (vf:=vf_La) (by kernel_rfl) rfl (st:=(enter vf_La (as_La p0 p1)).getD default) (by kernel_rfl) (go_on [] 1000 J0 (ok_La_0 p0 p1 r hm) (by kernel_rfl))
def O_Lb_15 (Q:VX→St→Prop) (e:(Bool)⊕((Unit))):Prop:=match e with | .inl e=>Q=Post vf_Lb (res_Lb e) | .inr e=>EE c_Lb_31 K_Lb_31 (s_Lb_31) Q
theorem ok_Lb_31 (r:Bool) (hm:m_Lb_31=some r):EE c_Lb_31 K_Lb_31 (s_Lb_31) (Post vf_Lb (res_Lb r)):=by
 exact ge (z0) (congrArg res_Lb (qj hm)) (by kernel_rfl)
theorem ok_Lb_15 (p0 p1:LI) (f:Int) (y) (hm:m_Lb_15 p0 p1 f=some y) (Q)
  (hin:∀ s,y=.inl s→EE c_Lb_15 K_Lb_15 (s_Lb_15 p0 p1 s) Q) (hout:∀ e,y=.inr e→O_Lb_15 Q e):EE c_Lb_15 K_Lb_15 (s_Lb_15 p0 p1 f) Q:=by
 obtain ⟨a,hm⟩|⟨a,hm⟩:=split_ite hm
 ·obtain ⟨g,b,hm⟩:=bind_some hm
  obtain ⟨h,c,hm⟩:=bind_some hm
  obtain ⟨d,hm⟩|⟨d,hm⟩:=split_ite hm
  ·have hQ:Q=Post vf_Lb (res_Lb false):=hout (.inl false) (qj hm).symm
   subst hQ
   exact ge (wL (rI .i64) p0<|u1 a<|wO (.row ((rI .i64) g))<|wO (.row ((rI .i64) h))<|wP (rd_nn b)<|wP (at_row (rI .i64) (rd_get b))<|wP (rd_nn c)<|wP (at_row (rI .i64) (rd_get c))<|u1 d<|z0) (rfl:res_Lb false=res_Lb false) (by kernel_rfl)
  ·exact gw (hin _ (qj hm).symm) (wL (rI .i64) p0<|u1 a<|wO (.row ((rI .i64) g))<|wO (.row ((rI .i64) h))<|wP (rd_nn b)<|wP (at_row (rI .i64) (rd_get b))<|wP (rd_nn c)<|wP (at_row (rI .i64) (rd_get c))<|v1 d<|z0) (by kernel_rfl)
 ·refine gm c_Lb_31 K_Lb_31 (s_Lb_31) (wL (rI .i64) p0<|v1 a<|z0) ?_ (by kernel_rfl)
  exact hout (.inr ()) (qj hm).symm
theorem ok_Lb_0 (p0 p1:LI) (r:Bool) (hm:m_Lb_0 p0 p1=some r):EE c_Lb_0 K_Lb_0 (s_Lb_0 p0 p1) (Post vf_Lb (res_Lb r)):=by
 obtain ⟨a,hm⟩|⟨a,hm⟩:=split_ite hm
 ·exact ge (wL (rI .i64) p0<|wL (rI .i64) p1<|u1 a<|z0) (congrArg res_Lb (qj hm)) (by kernel_rfl)
 ·refine gm c_Lb_15 K_Lb_15 (s_Lb_15 p0 p1 0) (wL (rI .i64) p0<|wL (rI .i64) p1<|v1 a<|z0) ?_ (by kernel_rfl)
  obtain ⟨e,he,hm⟩:=bind_some hm
  refine loop_rule (u:=.c c_Lb_15) (K:=K_Lb_15) (Q:=(Post vf_Lb (res_Lb r))) (b:=lp_Lb_15 p0 p1) (We:=O_Lb_15 (Post vf_Lb (res_Lb r))) (stJ:=fun s=>s_Lb_15 p0 p1 s) (s:=0) (fun s y hb hin hout=>ok_Lb_15 p0 p1 s y hb (Post vf_Lb (res_Lb r)) hin hout) he ?_
  rcases e with e | e
  ·exact congrArg (fun r=>Post vf_Lb (res_Lb r)) (qj hm).symm
  ·show EE c_Lb_31 K_Lb_31 (s_Lb_31) _
   exact ok_Lb_31 r hm
theorem ok_Lb (p0 p1:LI) (r:Bool) (hm:m_Lb p0 p1=some r):Runs ext tbl 74 (as_Lb p0 p1) (res_Lb r):=
 runs_of (vf:=vf_Lb) (by kernel_rfl) rfl (st:=(enter vf_Lb (as_Lb p0 p1)).getD default) (by kernel_rfl) (go_on [] 1000 J0 (ok_Lb_0 p0 p1 r hm) (by kernel_rfl))
def O_Lc_15 (Q:VX→St→Prop) (e:(Bool)⊕((Unit))):Prop:=match e with | .inl e=>Q=Post vf_Lc (res_Lc e) | .inr e=>EE c_Lc_31 K_Lc_31 (s_Lc_31) Q
theorem ok_Lc_31 (r:Bool) (hm:m_Lc_31=some r):EE c_Lc_31 K_Lc_31 (s_Lc_31) (Post vf_Lc (res_Lc r)):=by
 exact ge (z0) (congrArg res_Lc (qj hm)) (by kernel_rfl)
theorem ok_Lc_15 (p0:(List LI)) (p1:(List LI)) (i:Int) (y) (hm:m_Lc_15 p0 p1 i=some y) (Q)
  (hin:∀ s,y=.inl s→EE c_Lc_15 K_Lc_15 (s_Lc_15 p0 p1 s) Q) (hout:∀ e,y=.inr e→O_Lc_15 Q e):EE c_Lc_15 K_Lc_15 (s_Lc_15 p0 p1 i) Q:=by
 obtain ⟨a,hm⟩|⟨a,hm⟩:=split_ite hm
 ·obtain ⟨b,c,hm⟩:=bind_some hm
  obtain ⟨d,f,hm⟩:=bind_some hm
  obtain ⟨g,j,hm⟩:=bind_some hm
  obtain ⟨h,hm⟩|⟨h,hm⟩:=split_ite hm
  ·exact gw (hin _ (qj hm).symm) (wO (zn p0.length)<|wP (len_map (rL (rI .i64)) (show p0.length=p0.length from rfl))<|u1 a<|wO (.row ((rL (rI .i64)) b))<|wO (.row ((rL (rI .i64)) d))<|wO (.res (res_Lb g))<|wP (rd_nn c)<|wP (at_row (rL (rI .i64)) (rd_get c))<|wP (rd_nn f)<|wP (at_row (rL (rI .i64)) (rd_get f))<|wP (ok_Lb b d g j)<|v1 (not_f h)<|z0) (by kernel_rfl)
  ·have hQ:Q=Post vf_Lc (res_Lc false):=hout (.inl false) (qj hm).symm
   subst hQ
   exact ge (wO (zn p0.length)<|wP (len_map (rL (rI .i64)) (show p0.length=p0.length from rfl))<|u1 a<|wO (.row ((rL (rI .i64)) b))<|wO (.row ((rL (rI .i64)) d))<|wO (.res (res_Lb g))<|wP (rd_nn c)<|wP (at_row (rL (rI .i64)) (rd_get c))<|wP (rd_nn f)<|wP (at_row (rL (rI .i64)) (rd_get f))<|wP (ok_Lb b d g j)<|u1 (not_t h)<|z0) (rfl:res_Lc false=res_Lc false) (by kernel_rfl)
 ·refine gm c_Lc_31 K_Lc_31 (s_Lc_31) (wO (zn p0.length)<|wP (len_map (rL (rI .i64)) (show p0.length=p0.length from rfl))<|v1 a<|z0) ?_ (by kernel_rfl)
  exact hout (.inr ()) (qj hm).symm
theorem ok_Lc_0 (p0:(List LI)) (p1:(List LI)) (r:Bool) (hm:m_Lc_0 p0 p1=some r):EE c_Lc_0 K_Lc_0 (s_Lc_0 p0 p1) (Post vf_Lc (res_Lc r)):=by
 obtain ⟨a,hm⟩|⟨a,hm⟩:=split_ite hm
 ·exact ge (wO (zn p0.length)<|wO (zn p1.length)<|wP (len_map (rL (rI .i64)) (show p0.length=p0.length from rfl))<|wP (len_map (rL (rI .i64)) (show p1.length=p1.length from rfl))<|u1 a<|z0) (congrArg res_Lc (qj hm)) (by kernel_rfl)
 ·refine gm c_Lc_15 K_Lc_15 (s_Lc_15 p0 p1 0) (wO (zn p0.length)<|wO (zn p1.length)<|wP (len_map (rL (rI .i64)) (show p0.length=p0.length from rfl))<|wP (len_map (rL (rI .i64)) (show p1.length=p1.length from rfl))<|v1 a<|z0) ?_ (by kernel_rfl)
  obtain ⟨e,he,hm⟩:=bind_some hm
  refine loop_rule (u:=.c c_Lc_15) (K:=K_Lc_15) (Q:=(Post vf_Lc (res_Lc r))) (b:=lp_Lc_15 p0 p1) (We:=O_Lc_15 (Post vf_Lc (res_Lc r))) (stJ:=fun s=>s_Lc_15 p0 p1 s) (s:=0) (fun s y hb hin hout=>ok_Lc_15 p0 p1 s y hb (Post vf_Lc (res_Lc r)) hin hout) he ?_
  rcases e with e | e
  ·exact congrArg (fun r=>Post vf_Lc (res_Lc r)) (qj hm).symm
  ·show EE c_Lc_31 K_Lc_31 (s_Lc_31) _
   exact ok_Lc_31 r hm
theorem ok_Lc (p0:(List LI)) (p1:(List LI)) (r:Bool) (hm:m_Lc p0 p1=some r):Runs ext tbl 38 (as_Lc p0 p1) (res_Lc r):=
 runs_of (vf:=vf_Lc) (by kernel_rfl) rfl (st:=(enter vf_Lc (as_Lc p0 p1)).getD default) (by kernel_rfl) (go_on [] 1000 J0 (ok_Lc_0 p0 p1 r hm) (by kernel_rfl))
theorem ok_Ld_0 (p0 p1:Za) (r:Bool) (hm:m_Ld_0 p0 p1=some r):EE c_Ld_0 K_Ld_0 (s_Ld_0 p0 p1) (Post vf_Ld (res_Ld r)):=by
 obtain ⟨a,hm⟩|⟨a,hm⟩:=split_ite hm
 ·exact ge (u1 a<|z0) (congrArg res_Ld (qj hm)) (by kernel_rfl)
 ·obtain ⟨b,hm⟩|⟨b,hm⟩:=split_ite hm
  ·exact ge (v1 a<|u1 b<|z0) (congrArg res_Ld (qj hm)) (by kernel_rfl)
  ·obtain ⟨c,hm⟩|⟨c,hm⟩:=split_ite hm
   ·exact ge (v1 a<|v1 b<|u1 c<|z0) (congrArg res_Ld (qj hm)) (by kernel_rfl)
   ·obtain ⟨d,f,hm⟩:=bind_some hm
    obtain ⟨e,hm⟩|⟨e,hm⟩:=split_ite hm
    ·exact ge (v1 a<|v1 b<|v1 c<|wO (.res (res_Lc d))<|wP (ok_Lc p0.channels p1.channels d f)<|v1 (not_f e)<|z0) (congrArg res_Ld (qj hm)) (by kernel_rfl)
    ·exact ge (v1 a<|v1 b<|v1 c<|wO (.res (res_Lc d))<|wP (ok_Lc p0.channels p1.channels d f)<|u1 (not_t e)<|z0) (congrArg res_Ld (qj hm)) (by kernel_rfl)
theorem ok_Ld (p0 p1:Za) (r:Bool) (hm:m_Ld p0 p1=some r):Runs ext tbl 11 (as_Ld p0 p1) (res_Ld r):=
 runs_of (vf:=vf_Ld) (by kernel_rfl) rfl (st:=(enter vf_Ld (as_Ld p0 p1)).getD default) (by kernel_rfl) (go_on [] 1000 J0 (ok_Ld_0 p0 p1 r hm) (by kernel_rfl))
def O_Lg_7 (Q:VX→St→Prop) (e:(Int×LI)):Prop:=EE c_Lg_19 K_Lg_19 (s_Lg_19 e.1 e.2) Q
theorem ok_Lg_19 (a:Int) (b:LI) (r:Int×LI) (hm:m_Lg_19 a b=some r):EE c_Lg_19 K_Lg_19 (s_Lg_19 a b) (Post vf_Lg (res_Lg r)):=by
 exact ge (z0) (congrArg res_Lg (qj hm)) (by kernel_rfl)
theorem ok_Lg_7 (a c:Int) (b:LI) (y) (hm:m_Lg_7 a c b=some y) (Q)
  (hin:∀ s,y=.inl s→EE c_Lg_7 K_Lg_7 (s_Lg_7 s.1 s.2.1 s.2.2) Q) (hout:∀ e,y=.inr e→O_Lg_7 Q e):EE c_Lg_7 K_Lg_7 (s_Lg_7 a c b) Q:=by
 obtain ⟨d,hm⟩|⟨d,hm⟩:=split_ite hm
 ·obtain ⟨g,f,hm⟩:=bind_some hm
  exact gw (hin _ (qj hm).symm) (u1 d<|wO (.rows (mi (b.set (0+Int.toNat c) a)))<|wO (zn ((b.set (0+Int.toNat c) a).length))<|wP (rd_in rfl f)<|wP (put_ob (rI .i64) a 0 (.lit (vI a)) (rd_get0 f) (by kernel_rfl) (by kernel_rfl))<|wP (lens b.length ((b.set (0+Int.toNat c) a).length) (set_len rfl))<|z0) (by kernel_rfl)
 ·refine gm c_Lg_19 K_Lg_19 (s_Lg_19 a b) (v1 d<|wN b.length<|z0) ?_ (by kernel_rfl)
  exact hout (a,b) (qj hm).symm
theorem ok_Lg_0 (p1:Int) (p0:LI) (r:Int×LI) (hm:m_Lg_0 p1 p0=some r):EE c_Lg_0 K_Lg_0 (s_Lg_0 p1 p0) (Post vf_Lg (res_Lg r)):=by
 refine gm c_Lg_7 K_Lg_7 (s_Lg_7 p1 0 p0) (wN p0.length<|z0) ?_ (by kernel_rfl)
 obtain ⟨e,he,hm⟩:=bind_some hm
 refine loop_rule (u:=.c c_Lg_7) (K:=K_Lg_7) (Q:=(Post vf_Lg (res_Lg r))) (b:=lp_Lg_7) (We:=O_Lg_7 (Post vf_Lg (res_Lg r))) (stJ:=fun s=>s_Lg_7 s.1 s.2.1 s.2.2) (s:=(p1,0,p0)) (fun s y hb hin hout=>ok_Lg_7 s.1 s.2.1 s.2.2 y hb (Post vf_Lg (res_Lg r)) hin hout) he ?_
 show EE c_Lg_19 K_Lg_19 (s_Lg_19 e.1 e.2) _
 exact ok_Lg_19 e.1 e.2 r hm
theorem ok_Lg (p0:LI) (p1:Int) (r:Int×LI) (hm:m_Lg p0 p1=some r):Runs ext tbl 75 (as_Lg p0 p1) (res_Lg r):=
 runs_of (vf:=vf_Lg) (by kernel_rfl) rfl (st:=(enter vf_Lg (as_Lg p0 p1)).getD default) (by kernel_rfl) (go_on [zn p0.length] 1000 (J (len_map (rI .i64) (rfl:p0.length=p0.length)) J0) (ok_Lg_0 p1 p0 r hm) (by kernel_rfl))
def O_Lh_7 (Q:VX→St→Prop) (e:(Int×(List LI))):Prop:=EE c_Lh_17 K_Lh_17 (s_Lh_17 e.1 e.2) Q
theorem ok_Lh_17 (a:Int) (b:(List LI)) (r:Int×(List LI)) (hm:m_Lh_17 a b=some r):EE c_Lh_17 K_Lh_17 (s_Lh_17 a b) (Post vf_Lh (res_Lh r)):=by
 exact ge (z0) (congrArg res_Lh (qj hm)) (by kernel_rfl)
theorem ok_Lh_7 (f d:Int) (a:(List LI)) (y) (hm:m_Lh_7 f d a=some y) (Q)
  (hin:∀ s,y=.inl s→EE c_Lh_7 K_Lh_7 (s_Lh_7 s.1 s.2.1 s.2.2) Q) (hout:∀ e,y=.inr e→O_Lh_7 Q e):EE c_Lh_7 K_Lh_7 (s_Lh_7 f d a) Q:=by
 obtain ⟨h,hm⟩|⟨h,hm⟩:=split_ite hm
 ·obtain ⟨b,g,hm⟩:=bind_some hm
  obtain ⟨c,i,hm⟩:=bind_some hm
  obtain ⟨k,j,hm⟩:=bind_some hm
  exact gw (hin _ (qj hm).symm) (u1 h<|wO (.row ((rL (rI .i64)) b))<|wP (rd_in rfl g)<|wP (at_row (rL (rI .i64)) (rd_get0 g))<|wL (rI .i64) b<|wO (.row ((rL (rI .i64)) b))<|wO (.res (res_Lg c))<|wO (.row ((rL (rI .i64)) b))<|wO (.row ((rL (rI .i64)) b))<|wO (.rows (List.map (rL (rI .i64)) (a.set (0+Int.toNat d) c.2)))<|wO (zn ((a.set (0+Int.toNat d) c.2).length))<|wP (at_row (rL (rI .i64)) (rd_get0 g))<|wP (all_eq (rI .i64) b rfl)<|wP (ok_Lg b f c i)<|wP (at_row (rL (rI .i64)) (rd_get0 g))<|wP (len2 (rI .i64) c.2 b (ck_p j))<|wP (at_row (rL (rI .i64)) (rd_get0 g))<|wP (upd_ob (rL (rI .i64)) a (0+Int.toNat d) b c.2 0 (.sl (c.2.map (rI .i64))) (by kernel_rfl))<|wP (lens a.length ((a.set (0+Int.toNat d) c.2).length) (set_len rfl))<|z0) (by kernel_rfl)
 ·refine gm c_Lh_17 K_Lh_17 (s_Lh_17 f a) (v1 h<|wN a.length<|z0) ?_ (by kernel_rfl)
  exact hout (f,a) (qj hm).symm
theorem ok_Lh_0 (p1:Int) (p0:(List LI)) (r:Int×(List LI)) (hm:m_Lh_0 p1 p0=some r):EE c_Lh_0 K_Lh_0 (s_Lh_0 p1 p0) (Post vf_Lh (res_Lh r)):=by
 refine gm c_Lh_7 K_Lh_7 (s_Lh_7 p1 0 p0) (wN p0.length<|z0) ?_ (by kernel_rfl)
 obtain ⟨e,he,hm⟩:=bind_some hm
 refine loop_rule (u:=.c c_Lh_7) (K:=K_Lh_7) (Q:=(Post vf_Lh (res_Lh r))) (b:=lp_Lh_7) (We:=O_Lh_7 (Post vf_Lh (res_Lh r))) (stJ:=fun s=>s_Lh_7 s.1 s.2.1 s.2.2) (s:=(p1,0,p0)) (fun s y hb hin hout=>ok_Lh_7 s.1 s.2.1 s.2.2 y hb (Post vf_Lh (res_Lh r)) hin hout) he ?_
 show EE c_Lh_17 K_Lh_17 (s_Lh_17 e.1 e.2) _
 exact ok_Lh_17 e.1 e.2 r hm
theorem ok_Lh (p0:(List LI)) (p1:Int) (r:Int×(List LI)) (hm:m_Lh p0 p1=some r):Runs ext tbl 39 (as_Lh p0 p1) (res_Lh r):=
 runs_of (vf:=vf_Lh) (by kernel_rfl) rfl (st:=(enter vf_Lh (as_Lh p0 p1)).getD default) (by kernel_rfl) (go_on [zn p0.length] 1000 (J (len_map (rL (rI .i64)) (rfl:p0.length=p0.length)) J0) (ok_Lh_0 p1 p0 r hm) (by kernel_rfl))
theorem ok_Li_0 (p0:Za) (p1:Int) (r:Int×Za) (hm:m_Li_0 p0 p1=some r):EE c_Li_0 K_Li_0 (s_Li_0 p0 p1) (Post vf_Li (res_Li r)):=by
 obtain ⟨a,b,hm⟩:=bind_some hm
 obtain ⟨d,c,hm⟩:=bind_some hm
 exact ge (wO (.res (res_Lh a))<|wP (all_eq (rL (rI .i64)) p0.channels rfl)<|wP (ok_Lh p0.channels p1 a b)<|wP (len2 (rL (rI .i64)) a.2 p0.channels (ck_p c))<|z0) (congrArg res_Li (qj hm)) (by kernel_rfl)
theorem ok_Li (p0:Za) (p1:Int) (r:Int×Za) (hm:m_Li p0 p1=some r):Runs ext tbl 12 (as_Li p0 p1) (res_Li r):=
 runs_of (vf:=vf_Li) (by kernel_rfl) rfl (st:=(enter vf_Li (as_Li p0 p1)).getD default) (by kernel_rfl) (go_on [zn p0.channels.length] 1000 (J (len_map (rL (rI .i64)) (rfl:p0.channels.length=p0.channels.length)) J0) (ok_Li_0 p0 p1 r hm) (by kernel_rfl))
def O_Lf_7 (Q:VX→St→Prop) (e:(Int×LI)):Prop:=EE c_Lf_19 K_Lf_19 (s_Lf_19 e.1 e.2) Q
theorem ok_Lf_19 (a:Int) (b:LI) (r:Int×LI) (hm:m_Lf_19 a b=some r):EE c_Lf_19 K_Lf_19 (s_Lf_19 a b) (Post vf_Lf (res_Lf r)):=by
 exact ge (z0) (congrArg res_Lf (qj hm)) (by kernel_rfl)
theorem ok_Lf_7 (a c:Int) (b:LI) (y) (hm:m_Lf_7 a c b=some y) (Q)
  (hin:∀ s,y=.inl s→EE c_Lf_7 K_Lf_7 (s_Lf_7 s.1 s.2.1 s.2.2) Q) (hout:∀ e,y=.inr e→O_Lf_7 Q e):EE c_Lf_7 K_Lf_7 (s_Lf_7 a c b) Q:=by
 obtain ⟨d,hm⟩|⟨d,hm⟩:=split_ite hm
 ·obtain ⟨g,f,hm⟩:=bind_some hm
  exact gw (hin _ (qj hm).symm) (u1 d<|wO (.rows (List.map (rI .u8) (b.set (0+Int.toNat c) (wr .u8 a))))<|wO (zn ((b.set (0+Int.toNat c) (wr .u8 a)).length))<|wP (rd_in rfl f)<|wP (put_ob (rI .u8) (wr .u8 a) 0 (.lit (.int .u8 (wr .u8 a))) (rd_get0 f) (by kernel_rfl) (by kernel_rfl))<|wP (lens b.length ((b.set (0+Int.toNat c) (wr .u8 a)).length) (set_len rfl))<|z0) (by kernel_rfl)
 ·refine gm c_Lf_19 K_Lf_19 (s_Lf_19 a b) (v1 d<|wN b.length<|z0) ?_ (by kernel_rfl)
  exact hout (a,b) (qj hm).symm
theorem ok_Lf_0 (p1:Int) (p0:LI) (r:Int×LI) (hm:m_Lf_0 p1 p0=some r):EE c_Lf_0 K_Lf_0 (s_Lf_0 p1 p0) (Post vf_Lf (res_Lf r)):=by
 refine gm c_Lf_7 K_Lf_7 (s_Lf_7 p1 0 p0) (wN p0.length<|z0) ?_ (by kernel_rfl)
 obtain ⟨e,he,hm⟩:=bind_some hm
 refine loop_rule (u:=.c c_Lf_7) (K:=K_Lf_7) (Q:=(Post vf_Lf (res_Lf r))) (b:=lp_Lf_7) (We:=O_Lf_7 (Post vf_Lf (res_Lf r))) (stJ:=fun s=>s_Lf_7 s.1 s.2.1 s.2.2) (s:=(p1,0,p0)) (fun s y hb hin hout=>ok_Lf_7 s.1 s.2.1 s.2.2 y hb (Post vf_Lf (res_Lf r)) hin hout) he ?_
 show EE c_Lf_19 K_Lf_19 (s_Lf_19 e.1 e.2) _
 exact ok_Lf_19 e.1 e.2 r hm
theorem ok_Lf (p0:LI) (p1:Int) (r:Int×LI) (hm:m_Lf p0 p1=some r):Runs ext tbl 13 (as_Lf p0 p1) (res_Lf r):=
 runs_of (vf:=vf_Lf) (by kernel_rfl) rfl (st:=(enter vf_Lf (as_Lf p0 p1)).getD default) (by kernel_rfl) (go_on [zn p0.length] 1000 (J (len_map (rI .u8) (rfl:p0.length=p0.length)) J0) (ok_Lf_0 p1 p0 r hm) (by kernel_rfl))
def O_Le_7 (Q:VX→St→Prop) (e:(Int)⊕((Int))):Prop:=match e with | .inl e=>Q=Post vf_Le (res_Le e) | .inr e=>EE c_Le_25 K_Le_25 (s_Le_25 e) Q
theorem ok_Le_25 (a r:Int) (hm:m_Le_25 a=some r):EE c_Le_25 K_Le_25 (s_Le_25 a) (Post vf_Le (res_Le r)):=by
 exact ge (z0) (congrArg res_Le (qj hm)) (by kernel_rfl)
theorem ok_Le_7 (p0:LI) (a f:Int) (y) (hm:m_Le_7 p0 a f=some y) (Q)
  (hin:∀ s,y=.inl s→EE c_Le_7 K_Le_7 (s_Le_7 p0 s.1 s.2) Q) (hout:∀ e,y=.inr e→O_Le_7 Q e):EE c_Le_7 K_Le_7 (s_Le_7 p0 a f) Q:=by
 obtain ⟨b,hm⟩|⟨b,hm⟩:=split_ite hm
 ·obtain ⟨g,c,hm⟩:=bind_some hm
  obtain ⟨d,hm⟩|⟨d,hm⟩:=split_ite hm
  ·have hQ:Q=Post vf_Le (res_Le (-1)):=hout (.inl (-1)) (qj hm).symm
   subst hQ
   exact ge (wL (rI .u8) p0<|u1 b<|wO (.row ((rI .u8) g))<|wP (rd_nn c)<|wP (at_row (rI .u8) (rd_get c))<|u1 d<|z0) (rfl:res_Le (-1)=res_Le (-1)) (by kernel_rfl)
  ·exact gw (hin _ (qj hm).symm) (wL (rI .u8) p0<|u1 b<|wO (.row ((rI .u8) g))<|wP (rd_nn c)<|wP (at_row (rI .u8) (rd_get c))<|v1 d<|z0) (by kernel_rfl)
 ·refine gm c_Le_25 K_Le_25 (s_Le_25 a) (wL (rI .u8) p0<|v1 b<|z0) ?_ (by kernel_rfl)
  exact hout (.inr a) (qj hm).symm
theorem ok_Le_0 (p0:LI) (p1 r:Int) (hm:m_Le_0 p0 p1=some r):EE c_Le_0 K_Le_0 (s_Le_0 p0 p1) (Post vf_Le (res_Le r)):=by
 refine gm c_Le_7 K_Le_7 (s_Le_7 p0 p1 0) (z0) ?_ (by kernel_rfl)
 obtain ⟨e,he,hm⟩:=bind_some hm
 refine loop_rule (u:=.c c_Le_7) (K:=K_Le_7) (Q:=(Post vf_Le (res_Le r))) (b:=lp_Le_7 p0) (We:=O_Le_7 (Post vf_Le (res_Le r))) (stJ:=fun s=>s_Le_7 p0 s.1 s.2) (s:=(p1,0)) (fun s y hb hin hout=>ok_Le_7 p0 s.1 s.2 y hb (Post vf_Le (res_Le r)) hin hout) he ?_
 rcases e with e | e
 ·exact congrArg (fun r=>Post vf_Le (res_Le r)) (qj hm).symm
 ·show EE c_Le_25 K_Le_25 (s_Le_25 e) _
  exact ok_Le_25 e r hm
theorem ok_Le (p0:LI) (p1 r:Int) (hm:m_Le p0 p1=some r):Runs ext tbl 14 (as_Le p0 p1) (res_Le r):=
 runs_of (vf:=vf_Le) (by kernel_rfl) rfl (st:=(enter vf_Le (as_Le p0 p1)).getD default) (by kernel_rfl) (go_on [] 1000 J0 (ok_Le_0 p0 p1 r hm) (by kernel_rfl))
theorem ok_laws_FnExactEncodeSound_0 (p0:Za) (r:Bool) (hm:m_laws_FnExactEncodeSound_0 p0=some r):EE c_laws_FnExactEncodeSound_0 K_laws_FnExactEncodeSound_0 (s_laws_FnExactEncodeSound_0 p0) (Post vf_laws_FnExactEncodeSound (res_laws_FnExactEncodeSound r)):=by
 obtain ⟨h,p,hm⟩:=bind_some hm
 obtain ⟨n,hm⟩|⟨n,hm⟩:=split_ite hm
 ·exact ge (wO (.res (res_Ll h))<|wP (ok_Ll p0 1048576 h p)<|u1 n<|z0) (congrArg res_laws_FnExactEncodeSound (qj hm)) (by kernel_rfl)
 ·obtain ⟨a,g,hm⟩:=bind_some hm
  obtain ⟨c,s,hm⟩:=bind_some hm
  obtain ⟨b,q,hm⟩:=bind_some hm
  obtain ⟨f,l,hm⟩:=bind_some hm
  obtain ⟨j,hm⟩|⟨j,hm⟩:=split_ite hm
  ·obtain ⟨m,u,hm⟩:=bind_some hm
   obtain ⟨t,hm⟩|⟨t,hm⟩:=split_ite hm
   ·obtain ⟨i,w,hm⟩:=bind_some hm
    obtain ⟨B,x,hm⟩:=bind_some hm
    obtain ⟨e,hm⟩|⟨e,hm⟩:=split_ite hm
    ·exact ge (wO (.res (res_Ll h))<|wP (ok_Ll p0 1048576 h p)<|v1 n<|wO (.res (res_Lo a))<|wO (zn a.channels.length)<|wO (.rows (List.map (rL (rI .i64)) a.channels))<|wO (.res (res_Sb c))<|wP (ok_Lo p0 a g)<|wP (len_map (rL (rI .i64)) (show a.channels.length=a.channels.length from rfl))<|wP (all_le (rL (rI .i64)) a.channels rfl)<|wP (all_dt (rL (rI .i64)) a.channels rfl)<|wP (ok_Sb a c s)<|wL (rI .u8) c<|wO (.res (res_Lo a))<|wO (zn a.channels.length)<|wO (.rows (List.map (rL (rI .i64)) a.channels))<|wO (.res (res_Ic b))<|wP (ok_Lo p0 a g)<|wP (len_map (rL (rI .i64)) (show a.channels.length=a.channels.length from rfl))<|wP (all_le (rL (rI .i64)) a.channels rfl)<|wP (all_dt (rL (rI .i64)) a.channels rfl)<|wP (ok_Ic a b q)<|wL (rI .u8) b<|wO (.rows (List.map (rI .u8) b))<|wO (.rows (List.map (rI .u8) c))<|wO (.res (res_La f))<|wP (all_le (rI .u8) b rfl)<|wP (all_dt (rI .u8) b rfl)<|wP (all_le (rI .u8) c rfl)<|wP (all_dt (rI .u8) c rfl)<|wP (ok_La b c f l)<|v1 (not_f j)<|wO (.res (res_Lo a))<|wO (zn a.channels.length)<|wO (.rows (List.map (rL (rI .i64)) a.channels))<|wO (.rows (List.map (rL (rI .i64)) a.channels))<|wO (.res (res_Ld m))<|wO zF<|wO (.rows (List.map (rL (rI .i64)) a.channels))<|wO (.res (res_Li i))<|wO zT<|wO zT<|wO zT<|wO zT<|wO zT<|wO zT<|wP (ok_Lo p0 a g)<|wP (len_map (rL (rI .i64)) (show a.channels.length=a.channels.length from rfl))<|wP (all_le (rL (rI .i64)) a.channels rfl)<|wP (all_dt (rL (rI .i64)) a.channels rfl)<|wP (all_le (rL (rI .i64)) a.channels rfl)<|wP (all_dt (rL (rI .i64)) a.channels rfl)<|wP (ok_Ld a a m u)<|wP (not_f t)<|wP (all_le0 (rL (rI .i64)) a.channels rfl)<|wP (all_t (rL (rI .i64)) a.channels rfl)<|wP (all_eq (rL (rI .i64)) a.channels rfl)<|wP (ok_Li a 1 i w)<|wP (len2 (rL (rI .i64)) i.2.channels a.channels (ck_p x))<|wP e<|wP e<|wP e<|wP e<|wP e<|wP eT<|z0) (congrArg res_laws_FnExactEncodeSound (qj hm)) (by kernel_rfl)
    ·obtain ⟨d,A,hm⟩:=bind_some hm
     obtain ⟨C,k,hm⟩:=bind_some hm
     obtain ⟨o,y,hm⟩:=bind_some hm
     obtain ⟨v,hm⟩|⟨v,hm⟩:=split_ite hm
     ·exact ge (wO (.res (res_Ll h))<|wP (ok_Ll p0 1048576 h p)<|v1 n<|wO (.res (res_Lo a))<|wO (zn a.channels.length)<|wO (.rows (List.map (rL (rI .i64)) a.channels))<|wO (.res (res_Sb c))<|wP (ok_Lo p0 a g)<|wP (len_map (rL (rI .i64)) (show a.channels.length=a.channels.length from rfl))<|wP (all_le (rL (rI .i64)) a.channels rfl)<|wP (all_dt (rL (rI .i64)) a.channels rfl)<|wP (ok_Sb a c s)<|wL (rI .u8) c<|wO (.res (res_Lo a))<|wO (zn a.channels.length)<|wO (.rows (List.map (rL (rI .i64)) a.channels))<|wO (.res (res_Ic b))<|wP (ok_Lo p0 a g)<|wP (len_map (rL (rI .i64)) (show a.channels.length=a.channels.length from rfl))<|wP (all_le (rL (rI .i64)) a.channels rfl)<|wP (all_dt (rL (rI .i64)) a.channels rfl)<|wP (ok_Ic a b q)<|wL (rI .u8) b<|wO (.rows (List.map (rI .u8) b))<|wO (.rows (List.map (rI .u8) c))<|wO (.res (res_La f))<|wP (all_le (rI .u8) b rfl)<|wP (all_dt (rI .u8) b rfl)<|wP (all_le (rI .u8) c rfl)<|wP (all_dt (rI .u8) c rfl)<|wP (ok_La b c f l)<|v1 (not_f j)<|wO (.res (res_Lo a))<|wO (zn a.channels.length)<|wO (.rows (List.map (rL (rI .i64)) a.channels))<|wO (.rows (List.map (rL (rI .i64)) a.channels))<|wO (.res (res_Ld m))<|wO zF<|wO (.rows (List.map (rL (rI .i64)) a.channels))<|wO (.res (res_Li i))<|wO zF<|wO zF<|wO zF<|wO (.rows (List.map (rI .u8) b))<|wO (.rows (List.map (rI .u8) c))<|wO (.res (res_La f))<|wO zF<|wO zF<|wO zF<|wO (.res (res_Lf d))<|wO (.rows (List.map (rI .u8) d.2))<|wO (.res (res_Le o))<|wO zT<|wP (ok_Lo p0 a g)<|wP (len_map (rL (rI .i64)) (show a.channels.length=a.channels.length from rfl))<|wP (all_le (rL (rI .i64)) a.channels rfl)<|wP (all_dt (rL (rI .i64)) a.channels rfl)<|wP (all_le (rL (rI .i64)) a.channels rfl)<|wP (all_dt (rL (rI .i64)) a.channels rfl)<|wP (ok_Ld a a m u)<|wP (not_f t)<|wP (all_le0 (rL (rI .i64)) a.channels rfl)<|wP (all_t (rL (rI .i64)) a.channels rfl)<|wP (all_eq (rL (rI .i64)) a.channels rfl)<|wP (ok_Li a 1 i w)<|wP (len2 (rL (rI .i64)) i.2.channels a.channels (ck_p x))<|wP e<|wP e<|wP e<|wP (all_le (rI .u8) b rfl)<|wP (all_dt (rI .u8) b rfl)<|wP (all_le (rI .u8) c rfl)<|wP (all_dt (rI .u8) c rfl)<|wP (ok_La b c f l)<|wP e<|wP e<|wP (not_f j)<|wP (all_eq (rI .u8) b rfl)<|wP (ok_Lf b 1 d A)<|wP (len2 (rI .u8) d.2 b (ck_p k))<|wP (all_le (rI .u8) d.2 (Eq.trans rfl (Eq.symm (ck_p k))))<|wP (all_dt (rI .u8) d.2 (Eq.trans rfl (Eq.symm (ck_p k))))<|wP (ok_Le d.2 1 o y)<|wP v<|z0) (congrArg res_laws_FnExactEncodeSound (qj hm)) (by kernel_rfl)
     ·obtain ⟨z,hm⟩|⟨z,hm⟩:=split_ite hm
      ·exact ge (wO (.res (res_Ll h))<|wP (ok_Ll p0 1048576 h p)<|v1 n<|wO (.res (res_Lo a))<|wO (zn a.channels.length)<|wO (.rows (List.map (rL (rI .i64)) a.channels))<|wO (.res (res_Sb c))<|wP (ok_Lo p0 a g)<|wP (len_map (rL (rI .i64)) (show a.channels.length=a.channels.length from rfl))<|wP (all_le (rL (rI .i64)) a.channels rfl)<|wP (all_dt (rL (rI .i64)) a.channels rfl)<|wP (ok_Sb a c s)<|wL (rI .u8) c<|wO (.res (res_Lo a))<|wO (zn a.channels.length)<|wO (.rows (List.map (rL (rI .i64)) a.channels))<|wO (.res (res_Ic b))<|wP (ok_Lo p0 a g)<|wP (len_map (rL (rI .i64)) (show a.channels.length=a.channels.length from rfl))<|wP (all_le (rL (rI .i64)) a.channels rfl)<|wP (all_dt (rL (rI .i64)) a.channels rfl)<|wP (ok_Ic a b q)<|wL (rI .u8) b<|wO (.rows (List.map (rI .u8) b))<|wO (.rows (List.map (rI .u8) c))<|wO (.res (res_La f))<|wP (all_le (rI .u8) b rfl)<|wP (all_dt (rI .u8) b rfl)<|wP (all_le (rI .u8) c rfl)<|wP (all_dt (rI .u8) c rfl)<|wP (ok_La b c f l)<|v1 (not_f j)<|wO (.res (res_Lo a))<|wO (zn a.channels.length)<|wO (.rows (List.map (rL (rI .i64)) a.channels))<|wO (.rows (List.map (rL (rI .i64)) a.channels))<|wO (.res (res_Ld m))<|wO zF<|wO (.rows (List.map (rL (rI .i64)) a.channels))<|wO (.res (res_Li i))<|wO zF<|wO zF<|wO zF<|wO (.rows (List.map (rI .u8) b))<|wO (.rows (List.map (rI .u8) c))<|wO (.res (res_La f))<|wO zF<|wO zF<|wO zF<|wO (.res (res_Lf d))<|wO (.rows (List.map (rI .u8) d.2))<|wO (.res (res_Le o))<|wO zF<|wO zT<|wP (ok_Lo p0 a g)<|wP (len_map (rL (rI .i64)) (show a.channels.length=a.channels.length from rfl))<|wP (all_le (rL (rI .i64)) a.channels rfl)<|wP (all_dt (rL (rI .i64)) a.channels rfl)<|wP (all_le (rL (rI .i64)) a.channels rfl)<|wP (all_dt (rL (rI .i64)) a.channels rfl)<|wP (ok_Ld a a m u)<|wP (not_f t)<|wP (all_le0 (rL (rI .i64)) a.channels rfl)<|wP (all_t (rL (rI .i64)) a.channels rfl)<|wP (all_eq (rL (rI .i64)) a.channels rfl)<|wP (ok_Li a 1 i w)<|wP (len2 (rL (rI .i64)) i.2.channels a.channels (ck_p x))<|wP e<|wP e<|wP e<|wP (all_le (rI .u8) b rfl)<|wP (all_dt (rI .u8) b rfl)<|wP (all_le (rI .u8) c rfl)<|wP (all_dt (rI .u8) c rfl)<|wP (ok_La b c f l)<|wP e<|wP e<|wP (not_f j)<|wP (all_eq (rI .u8) b rfl)<|wP (ok_Lf b 1 d A)<|wP (len2 (rI .u8) d.2 b (ck_p k))<|wP (all_le (rI .u8) d.2 (Eq.trans rfl (Eq.symm (ck_p k))))<|wP (all_dt (rI .u8) d.2 (Eq.trans rfl (Eq.symm (ck_p k))))<|wP (ok_Le d.2 1 o y)<|wP v<|wP z<|z0) (congrArg res_laws_FnExactEncodeSound (qj hm)) (by kernel_rfl)
      ·exact ge (wO (.res (res_Ll h))<|wP (ok_Ll p0 1048576 h p)<|v1 n<|wO (.res (res_Lo a))<|wO (zn a.channels.length)<|wO (.rows (List.map (rL (rI .i64)) a.channels))<|wO (.res (res_Sb c))<|wP (ok_Lo p0 a g)<|wP (len_map (rL (rI .i64)) (show a.channels.length=a.channels.length from rfl))<|wP (all_le (rL (rI .i64)) a.channels rfl)<|wP (all_dt (rL (rI .i64)) a.channels rfl)<|wP (ok_Sb a c s)<|wL (rI .u8) c<|wO (.res (res_Lo a))<|wO (zn a.channels.length)<|wO (.rows (List.map (rL (rI .i64)) a.channels))<|wO (.res (res_Ic b))<|wP (ok_Lo p0 a g)<|wP (len_map (rL (rI .i64)) (show a.channels.length=a.channels.length from rfl))<|wP (all_le (rL (rI .i64)) a.channels rfl)<|wP (all_dt (rL (rI .i64)) a.channels rfl)<|wP (ok_Ic a b q)<|wL (rI .u8) b<|wO (.rows (List.map (rI .u8) b))<|wO (.rows (List.map (rI .u8) c))<|wO (.res (res_La f))<|wP (all_le (rI .u8) b rfl)<|wP (all_dt (rI .u8) b rfl)<|wP (all_le (rI .u8) c rfl)<|wP (all_dt (rI .u8) c rfl)<|wP (ok_La b c f l)<|v1 (not_f j)<|wO (.res (res_Lo a))<|wO (zn a.channels.length)<|wO (.rows (List.map (rL (rI .i64)) a.channels))<|wO (.rows (List.map (rL (rI .i64)) a.channels))<|wO (.res (res_Ld m))<|wO zF<|wO (.rows (List.map (rL (rI .i64)) a.channels))<|wO (.res (res_Li i))<|wO zF<|wO zF<|wO zF<|wO (.rows (List.map (rI .u8) b))<|wO (.rows (List.map (rI .u8) c))<|wO (.res (res_La f))<|wO zF<|wO zF<|wO zF<|wO (.res (res_Lf d))<|wO (.rows (List.map (rI .u8) d.2))<|wO (.res (res_Le o))<|wO zF<|wO zF<|wO (.res (res_Lo a))<|wO (zn a.channels.length)<|wO (.rows (List.map (rL (rI .i64)) a.channels))<|wO (.res (res_Ic b))<|wO (zn b.length)<|wO (.rows (List.map (rI .u8) b))<|wO (.rows (List.map (rI .u8) c))<|wO (.res (res_La f))<|wO zF<|wO (.rows (List.map (rI .u8) d.2))<|wO (.res (res_Le o))<|wO zF<|wO zF<|wP (ok_Lo p0 a g)<|wP (len_map (rL (rI .i64)) (show a.channels.length=a.channels.length from rfl))<|wP (all_le (rL (rI .i64)) a.channels rfl)<|wP (all_dt (rL (rI .i64)) a.channels rfl)<|wP (all_le (rL (rI .i64)) a.channels rfl)<|wP (all_dt (rL (rI .i64)) a.channels rfl)<|wP (ok_Ld a a m u)<|wP (not_f t)<|wP (all_le0 (rL (rI .i64)) a.channels rfl)<|wP (all_t (rL (rI .i64)) a.channels rfl)<|wP (all_eq (rL (rI .i64)) a.channels rfl)<|wP (ok_Li a 1 i w)<|wP (len2 (rL (rI .i64)) i.2.channels a.channels (ck_p x))<|wP e<|wP e<|wP e<|wP (all_le (rI .u8) b rfl)<|wP (all_dt (rI .u8) b rfl)<|wP (all_le (rI .u8) c rfl)<|wP (all_dt (rI .u8) c rfl)<|wP (ok_La b c f l)<|wP e<|wP e<|wP (not_f j)<|wP (all_eq (rI .u8) b rfl)<|wP (ok_Lf b 1 d A)<|wP (len2 (rI .u8) d.2 b (ck_p k))<|wP (all_le (rI .u8) d.2 (Eq.trans rfl (Eq.symm (ck_p k))))<|wP (all_dt (rI .u8) d.2 (Eq.trans rfl (Eq.symm (ck_p k))))<|wP (ok_Le d.2 1 o y)<|wP v<|wP z<|wP (ok_Lo p0 a g)<|wP (len_map (rL (rI .i64)) (show a.channels.length=a.channels.length from rfl))<|wP (all_le (rL (rI .i64)) a.channels rfl)<|wP (all_dt (rL (rI .i64)) a.channels rfl)<|wP (ok_Ic a b q)<|wP (lm (rI .u8) b)<|wP (all_le (rI .u8) b rfl)<|wP (all_dt (rI .u8) b rfl)<|wP (all_le (rI .u8) c rfl)<|wP (all_dt (rI .u8) c rfl)<|wP (ok_La b c f l)<|wP (not_f j)<|wP (all_le (rI .u8) d.2 (Eq.trans rfl (Eq.symm (ck_p k))))<|wP (all_dt (rI .u8) d.2 (Eq.trans rfl (Eq.symm (ck_p k))))<|wP (ok_Le d.2 1 o y)<|wP v<|wP z<|z0) (congrArg res_laws_FnExactEncodeSound (qj hm)) (by kernel_rfl)
   ·exact ge (wO (.res (res_Ll h))<|wP (ok_Ll p0 1048576 h p)<|v1 n<|wO (.res (res_Lo a))<|wO (zn a.channels.length)<|wO (.rows (List.map (rL (rI .i64)) a.channels))<|wO (.res (res_Sb c))<|wP (ok_Lo p0 a g)<|wP (len_map (rL (rI .i64)) (show a.channels.length=a.channels.length from rfl))<|wP (all_le (rL (rI .i64)) a.channels rfl)<|wP (all_dt (rL (rI .i64)) a.channels rfl)<|wP (ok_Sb a c s)<|wL (rI .u8) c<|wO (.res (res_Lo a))<|wO (zn a.channels.length)<|wO (.rows (List.map (rL (rI .i64)) a.channels))<|wO (.res (res_Ic b))<|wP (ok_Lo p0 a g)<|wP (len_map (rL (rI .i64)) (show a.channels.length=a.channels.length from rfl))<|wP (all_le (rL (rI .i64)) a.channels rfl)<|wP (all_dt (rL (rI .i64)) a.channels rfl)<|wP (ok_Ic a b q)<|wL (rI .u8) b<|wO (.rows (List.map (rI .u8) b))<|wO (.rows (List.map (rI .u8) c))<|wO (.res (res_La f))<|wP (all_le (rI .u8) b rfl)<|wP (all_dt (rI .u8) b rfl)<|wP (all_le (rI .u8) c rfl)<|wP (all_dt (rI .u8) c rfl)<|wP (ok_La b c f l)<|v1 (not_f j)<|wO (.res (res_Lo a))<|wO (zn a.channels.length)<|wO (.rows (List.map (rL (rI .i64)) a.channels))<|wO (.rows (List.map (rL (rI .i64)) a.channels))<|wO (.res (res_Ld m))<|wO zT<|wP (ok_Lo p0 a g)<|wP (len_map (rL (rI .i64)) (show a.channels.length=a.channels.length from rfl))<|wP (all_le (rL (rI .i64)) a.channels rfl)<|wP (all_dt (rL (rI .i64)) a.channels rfl)<|wP (all_le (rL (rI .i64)) a.channels rfl)<|wP (all_dt (rL (rI .i64)) a.channels rfl)<|wP (ok_Ld a a m u)<|wP (not_t t)<|z0) (congrArg res_laws_FnExactEncodeSound (qj hm)) (by kernel_rfl)
  ·exact ge (wO (.res (res_Ll h))<|wP (ok_Ll p0 1048576 h p)<|v1 n<|wO (.res (res_Lo a))<|wO (zn a.channels.length)<|wO (.rows (List.map (rL (rI .i64)) a.channels))<|wO (.res (res_Sb c))<|wP (ok_Lo p0 a g)<|wP (len_map (rL (rI .i64)) (show a.channels.length=a.channels.length from rfl))<|wP (all_le (rL (rI .i64)) a.channels rfl)<|wP (all_dt (rL (rI .i64)) a.channels rfl)<|wP (ok_Sb a c s)<|wL (rI .u8) c<|wO (.res (res_Lo a))<|wO (zn a.channels.length)<|wO (.rows (List.map (rL (rI .i64)) a.channels))<|wO (.res (res_Ic b))<|wP (ok_Lo p0 a g)<|wP (len_map (rL (rI .i64)) (show a.channels.length=a.channels.length from rfl))<|wP (all_le (rL (rI .i64)) a.channels rfl)<|wP (all_dt (rL (rI .i64)) a.channels rfl)<|wP (ok_Ic a b q)<|wL (rI .u8) b<|wO (.rows (List.map (rI .u8) b))<|wO (.rows (List.map (rI .u8) c))<|wO (.res (res_La f))<|wP (all_le (rI .u8) b rfl)<|wP (all_dt (rI .u8) b rfl)<|wP (all_le (rI .u8) c rfl)<|wP (all_dt (rI .u8) c rfl)<|wP (ok_La b c f l)<|u1 (not_t j)<|z0) (congrArg res_laws_FnExactEncodeSound (qj hm)) (by kernel_rfl)
theorem ok_laws_FnExactEncodeSound (p0:Za) (r:Bool) (hm:m_laws_FnExactEncodeSound p0=some r):Runs ext tbl 3 (as_laws_FnExactEncodeSound p0) (res_laws_FnExactEncodeSound r):=
 runs_of (vf:=vf_laws_FnExactEncodeSound) (by kernel_rfl) rfl (st:=(enter vf_laws_FnExactEncodeSound (as_laws_FnExactEncodeSound p0)).getD default) (by kernel_rfl) (go_on [] 1000 J0 (ok_laws_FnExactEncodeSound_0 p0 r hm) (by kernel_rfl))
end Go.Proofs.V

namespace Go.Proofs.V
open Go
def rZa (x:Za):List T:=[.lit (.int .i64 x.rate),.lit (.int .i64 x.bits),.lit (.int .i64 x.frame),.sl (x.channels.map (rL (rI .i64)))]
theorem dec_S_Sound:Dec [.int .i64,.int .i64,.int .i64,.sl [.sl [.int .i64]]] rZa wfS_Sound:=by
 intro ts h
 obtain ⟨⟨a0,a1,a2,a3,_⟩,rfl,w0,w1,w2,w3,_⟩ :=(dec_app (dec_int .i64) (dec_app (dec_int .i64) (dec_app (dec_int .i64) (dec_app (dec_sl (dec_sl (dec_int .i64))) dec_nil)))) ts h
 exact ⟨⟨a0,a1,a2,a3⟩,rfl,w0,w1,w2,w3,trivial⟩
theorem all_fi:∀ x ∈ tblL,x.2.given=false→funcIs Go.Proofs.Try.prog tbl x.1 x.2=true:=by
 simp only [tblL,List.forall_mem_cons]
 exact ⟨(fun _=>fi_Lj),(fun _=>fi_Lk),(fun _=>fi_Ll),(fun _=>fi_Lm),(fun _=>fi_Ln),(fun _=>fi_Lo),(fun _=>fi_Sh),(fun _=>fi_Si),(fun _=>fi_Sd),(fun _=>fi_So),(fun _=>fi_Sr),(fun _=>fi_Sn),(fun _=>fi_Sl),(fun _=>fi_Sg),(fun _=>fi_Sm),(fun _=>fi_Sk),(fun _=>fi_Sc),(fun _=>fi_Sj),(fun _=>fi_Se),(fun _=>fi_Ss),(fun _=>fi_Sq),(fun _=>fi_Sp),(fun _=>fi_Sa),(fun _=>fi_Sf),(fun _=>fi_Sb),(fun _=>fi_Ir),(fun _=>fi_Ie),(fun _=>fi_Ii),(fun _=>fi_Ij),(fun _=>fi_Ip),(fun _=>fi_Il),(fun _=>fi_Ih),(fun _=>fi_In),(fun _=>fi_Ig),(fun _=>fi_Im),(fun _=>fi_Iq),(fun _=>fi_Id),(fun _=>fi_Io),(fun _=>fi_Ia),(fun _=>fi_If),(fun _=>fi_Ik),(fun _=>fi_Ib),(fun _=>fi_Ic),(fun _=>fi_La),(fun _=>fi_Lb),(fun _=>fi_Lc),(fun _=>fi_Ld),(fun _=>fi_Lg),(fun _=>fi_Lh),(fun _=>fi_Li),(fun _=>fi_Lf),(fun _=>fi_Le),(fun _=>fi_laws_FnExactEncodeSound),fun _ h=>by cases h⟩
theorem all_given:∀ x ∈ tblL,x.2.given=true→∀ ars res st0,enter x.2 ars=some st0→ext x.1 ars=some res→callable Go.Proofs.Try.prog x.1=true∧Does gI Go.Proofs.Try.prog x.1 x.2 st0 res:=by
 simp only [tblL,List.forall_mem_cons]
 exact ⟨(fun h=>by cases h),(fun h=>by cases h),(fun h=>by cases h),(fun h=>by cases h),(fun h=>by cases h),(fun h=>by cases h),(fun h=>by cases h),(fun h=>by cases h),(fun h=>by cases h),(fun h=>by cases h),(fun h=>by cases h),(fun h=>by cases h),(fun h=>by cases h),(fun h=>by cases h),(fun h=>by cases h),(fun h=>by cases h),(fun h=>by cases h),(fun h=>by cases h),(fun h=>by cases h),(fun h=>by cases h),(fun h=>by cases h),(fun h=>by cases h),(fun h=>by cases h),(fun h=>by cases h),(fun h=>by cases h),(fun h=>by cases h),(fun h=>by cases h),(fun h=>by cases h),(fun h=>by cases h),(fun h=>by cases h),(fun h=>by cases h),(fun h=>by cases h),(fun h=>by cases h),(fun h=>by cases h),(fun h=>by cases h),(fun h=>by cases h),(fun h=>by cases h),(fun h=>by cases h),(fun h=>by cases h),(fun h=>by cases h),(fun h=>by cases h),(fun h=>by cases h),(fun h=>by cases h),(fun h=>by cases h),(fun h=>by cases h),(fun h=>by cases h),(fun h=>by cases h),(fun h=>by cases h),(fun h=>by cases h),(fun h=>by cases h),(fun h=>by cases h),(fun h=>by cases h),(fun h=>by cases h),fun _ h=>by cases h⟩
theorem sound:∀ n,FSound gI Go.Proofs.Try.prog tbl (vrun ext tbl n):=table_sound (fun _=>rfl) ext all_given all_fi
def lawPs:List (Bool×List Ty):=[(true,[.int .i64,.int .i64,.int .i64,.sl [.sl [.int .i64]]])]
theorem pure_law:LawPure ext tbl 3 lawPs:=by
 intro tss hl hw
 match tss,hl with
 | [t0],_=>
  obtain ⟨x0,rfl,w0⟩ :=dec_S_Sound t0 (hw 0 _ t0 rfl rfl)
  exact ok_laws_FnExactEncodeSound x0 true (final_FnExactEncodeSound x0 w0)
end Go.Proofs.V
