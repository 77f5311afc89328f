import Derived.Test.YtamifoopbmjhmaaDoorFnExactTonesOfCardV3
import Derived.KernelRfl
set_option linter.unusedVariables false
set_option maxRecDepth 100000
namespace Go.Proofs.V
open Go
abbrev EE (c : VC) (K : List Fr) (s : St) (Q : VX → St → Prop) : Prop := EvU ext tbl (.c c) K s Q
def as_Lj (p0:LI):List Arg:=[.v false [.sl (p0.map (rI .i64))]]
def res_Lj (r:LI):FRes:=⟨[.v false [.sl (r.map (rI .i64))]],[]⟩
def as_Se (p0 p1 p2:Int):List Arg:=[.v false [.lit (vI p0)],.v false [.lit (vI p1)],.v false [.lit (vI p2)]]
def res_Se (r:Bool):FRes:=⟨[.v false [.lit (.bool r)]],[]⟩
def as_Si (p0:LI) (p1:Int):List Arg:=[.v false [.sl (p0.map (rI .i64))],.v false [.lit (vI p1)]]
def res_Si (r:Bool):FRes:=⟨[.v false [.lit (.bool r)]],[]⟩
def as_Sj (p0:Int):List Arg:=[.v false [.lit (vI p0)]]
def res_Sj (r:Int):FRes:=⟨[.v false [.lit (vI r)]],[]⟩
def as_Sg:List Arg:=[]
def res_Sg (r:LZ):FRes:=⟨[.v false [.sl (r.map rZb)]],[]⟩
def as_Sl (p0:LI):List Arg:=[.v false [.sl (p0.map (rI .i64))]]
def res_Sl (r:LZ):FRes:=⟨[.v false [.sl (r.map rZb)]],[]⟩
def as_Sh (p0:LI):List Arg:=[.v false [.sl (p0.map (rI .i64))]]
def res_Sh (r:LI):FRes:=⟨[.v false [.sl (r.map (rI .i64))]],[]⟩
def as_Sa (p0 p1:Int):List Arg:=[.v false [.lit (vI p0)],.v false [.lit (vI p1)]]
def res_Sa (r:Int):FRes:=⟨[.v false [.lit (vI r)]],[]⟩
def as_Sk:List Arg:=[]
def res_Sk (r:LI):FRes:=⟨[.v false [.sl (r.map (rI .i64))]],[]⟩
def as_Sd (p0:LI) (p1:Int):List Arg:=[.v false [.sl (p0.map (rI .i64))],.v false [.lit (vI p1)]]
def res_Sd (r:Int):FRes:=⟨[.v false [.lit (vI r)]],[]⟩
def as_Sc:List Arg:=[]
def res_Sc (r:LI):FRes:=⟨[.v false [.sl (r.map (rI .i64))]],[]⟩
def as_Sf (p0 p1:LI):List Arg:=[.v false [.sl (p0.map (rI .i64))],.v false [.sl (p1.map (rI .i64))]]
def res_Sf (r:LI):FRes:=⟨[.v false [.sl (r.map (rI .i64))]],[]⟩
def as_Sb (p0 p1:Int) (p2:LI):List Arg:=[.v false [.lit (vI p0)],.v false [.lit (vI p1)],.v false [.sl (p2.map (rI .i64))]]
def res_Sb (r:Za):FRes:=⟨[.v true [.lit (vI r.rate),.lit (vI r.quality),.lit (vI r.length),.sl (r.slots.map (rL (rI .i64))),.sl (r.grades.map (rL (rI .i64)))]],[]⟩
def as_Ij (p0:LI) (p1 p2 p3:Int):List Arg:=[.v false [.sl (p0.map (rI .i64))],.v false [.lit (vI p1)],.v false [.lit (vI p2)],.v false [.lit (vI p3)]]
def res_Ij (r:Bool):FRes:=⟨[.v false [.lit (.bool r)]],[]⟩
def as_Ik (p0:LI) (p1:Int):List Arg:=[.v false [.sl (p0.map (rI .i64))],.v false [.lit (vI p1)]]
def res_Ik (r:Bool):FRes:=⟨[.v false [.lit (.bool r)]],[]⟩
def as_Ie (p0:LI):List Arg:=[.v false [.sl (p0.map (rI .i64))]]
def res_Ie (r:LZ):FRes:=⟨[.v false [.sl (r.map rZb)]],[]⟩
def as_Ic (p0:LI):List Arg:=[.v false [.sl (p0.map (rI .i64))]]
def res_Ic (r:LI):FRes:=⟨[.v false [.sl (r.map (rI .i64))]],[]⟩
def as_Ig (p0:Int):List Arg:=[.v false [.lit (.int .u64 p0)]]
def res_Ig (r:Int):FRes:=⟨[.v false [.lit (vI r)]],[]⟩
def as_Ia (p0 p1:Int):List Arg:=[.v false [.lit (vI p0)],.v false [.lit (vI p1)]]
def res_Ia (r:Int):FRes:=⟨[.v false [.lit (vI r)]],[]⟩
def as_Ii (p0:LI):List Arg:=[.v false [.sl (p0.map (rI .i64))]]
def res_Ii (r:LI):FRes:=⟨[.v false [.sl (r.map (rI .i64))]],[]⟩
def as_Ih (p0:Int):List Arg:=[.v false [.lit (vI p0)]]
def res_Ih (r:Int):FRes:=⟨[.v false [.lit (vI r)]],[]⟩
def as_If:List Arg:=[]
def res_If (r:LI):FRes:=⟨[.v false [.sl (r.map (rI .i64))]],[]⟩
def as_Ib (p0 p1:LI):List Arg:=[.v false [.sl (p0.map (rI .i64))],.v false [.sl (p1.map (rI .i64))]]
def res_Ib (r:LI):FRes:=⟨[.v false [.sl (r.map (rI .i64))]],[]⟩
def as_Id (p0 p1:Int) (p2:LI):List Arg:=[.v false [.lit (vI p0)],.v false [.lit (vI p1)],.v false [.sl (p2.map (rI .i64))]]
def res_Id (r:Za):FRes:=⟨[.v true [.lit (vI r.rate),.lit (vI r.quality),.lit (vI r.length),.sl (r.slots.map (rL (rI .i64))),.sl (r.grades.map (rL (rI .i64)))]],[]⟩
def as_La (p0 p1:LI):List Arg:=[.v false [.sl (p0.map (rI .i64))],.v false [.sl (p1.map (rI .i64))]]
def res_La (r:Bool):FRes:=⟨[.v false [.lit (.bool r)]],[]⟩
def as_Lb (p0:(List LI)) (p1:(List LI)):List Arg:=[.v false [.sl (p0.map (rL (rI .i64)))],.v false [.sl (p1.map (rL (rI .i64)))]]
def res_Lb (r:Bool):FRes:=⟨[.v false [.lit (.bool r)]],[]⟩
def as_Lc (p0 p1:Za):List Arg:=[.v true [.lit (vI p0.rate),.lit (vI p0.quality),.lit (vI p0.length),.sl (p0.slots.map (rL (rI .i64))),.sl (p0.grades.map (rL (rI .i64)))],.v true [.lit (vI p1.rate),.lit (vI p1.quality),.lit (vI p1.length),.sl (p1.slots.map (rL (rI .i64))),.sl (p1.grades.map (rL (rI .i64)))]]
def res_Lc (r:Bool):FRes:=⟨[.v false [.lit (.bool r)]],[]⟩
def as_Lg (p0:LI) (p1:Int):List Arg:=[.m (.sl (p0.map (rI .i64))),.v false [.lit (vI p1)]]
def res_Lg (r:Int×LI):FRes:=⟨[.v false [.lit (vI r.1)]],[.sl (r.2.map (rI .i64))]⟩
def as_Lh (p0:(List LI)) (p1:Int):List Arg:=[.m (.sl (p0.map (rL (rI .i64)))),.v false [.lit (vI p1)]]
def res_Lh (r:Int×(List LI)):FRes:=⟨[.v false [.lit (vI r.1)]],[.sl (r.2.map (rL (rI .i64)))]⟩
def as_Li (p0:Za) (p1:Int):List Arg:=[.v true [.lit (vI p0.rate),.lit (vI p0.quality),.lit (vI p0.length),.sl (p0.slots.map (rL (rI .i64))),.sl (p0.grades.map (rL (rI .i64)))],.v false [.lit (vI p1)]]
def res_Li (r:Int×Za):FRes:=⟨[.v false [.lit (vI r.1)]],[.sl (r.2.slots.map (rL (rI .i64))),.sl (r.2.grades.map (rL (rI .i64)))]⟩
def as_Ld (p0:LI) (p1:Int):List Arg:=[.v false [.sl (p0.map (rI .i64))],.v false [.lit (vI p1)]]
def res_Ld (r:Int):FRes:=⟨[.v false [.lit (vI r)]],[]⟩
def as_Le (p0:(List LI)) (p1:Int):List Arg:=[.v false [.sl (p0.map (rL (rI .i64)))],.v false [.lit (vI p1)]]
def res_Le (r:Int):FRes:=⟨[.v false [.lit (vI r)]],[]⟩
def as_Lf (p0:Za) (p1:Int):List Arg:=[.v true [.lit (vI p0.rate),.lit (vI p0.quality),.lit (vI p0.length),.sl (p0.slots.map (rL (rI .i64))),.sl (p0.grades.map (rL (rI .i64)))],.v false [.lit (vI p1)]]
def res_Lf (r:Int):FRes:=⟨[.v false [.lit (vI r)]],[]⟩
def as_laws_FnExactTonesOf (p0 p1:Int) (p2:LI):List Arg:=[.v false [.lit (vI p0)],.v false [.lit (vI p1)],.v false [.sl (p2.map (rI .i64))]]
def res_laws_FnExactTonesOf (r:Bool):FRes:=⟨[.v false [.lit (.bool r)]],[]⟩
def K_Lj_19:List Fr:=[]
def s_Lj_19 (a:LI):St:=
 ⟨mkSl 22 [(3,.v false [cR 0 a])],[jI a],[]⟩
def K_Lj_9:List Fr:=[.lp [0,3,4] c_Lj_9,.bk 0,.sq (.kp [3] c_Lj_19)]
def s_Lj_9 (p0:LI) (b:Int) (a:LI):St:=
 ⟨mkSl 22 [(0,.v false [.ro [.sc] (p0.map (rI .i64))]),(3,.v false [cR 0 a]),(4,sI b)],[jI a],[]⟩
def K_Lj_0:List Fr:=[]
def s_Lj_0 (p0:LI):St:=
 ⟨mkSl 22 [(0,.v false [.ro [.sc] (p0.map (rI .i64))])],[],[]⟩
def K_Se_0:List Fr:=[]
def s_Se_0 (p0 p1 p2:Int):St:=
 ⟨mkSl 29 [(0,sI p0),(1,sI p1),(2,sI p2)],[],[]⟩
def K_Si_25:List Fr:=[]
def s_Si_25 (p0:LI) (p1:Int):St:=
 ⟨mkSl 28 [(0,.v false [.ro [.sc] (p0.map (rI .i64))]),(1,sI p1)],[],[]⟩
def K_Si_7:List Fr:=[.lp [0,1,7,8,9] c_Si_7,.bk 0,.sq (.kp [0,1] c_Si_25)]
def s_Si_7 (p0:LI) (p1 a:Int):St:=
 ⟨mkSl 28 [(0,.v false [.ro [.sc] (p0.map (rI .i64))]),(1,sI p1),(7,.v false [.ro [.sc] (p0.map (rI .i64))]),(8,sI (p0.length:Int)),(9,sI a)],[],[]⟩
def K_Si_0:List Fr:=[]
def s_Si_0 (p0:LI) (p1:Int):St:=
 ⟨mkSl 28 [(0,.v false [.ro [.sc] (p0.map (rI .i64))]),(1,sI p1)],[],[]⟩
def K_Sj_0:List Fr:=[]
def s_Sj_0 (p0:Int):St:=
 ⟨mkSl 7 [(0,sI p0)],[],[]⟩
def K_Sg_0:List Fr:=[]
def s_Sg_0:St:=
 ⟨mkSl 10 [],[],[]⟩
def K_Sl_84:List Fr:=[.lp [3,4,7,8] c_Sl_42,.bk 4,.bk 3,.sq (.kp [3,4,7] c_Sl_85),.lp [3,4,7] c_Sl_30,.bk 2,.sq (.kp [4] c_Sl_86)]
def s_Sl_84 (c d:Int) (a b:LZ):St:=
 ⟨mkSl 146 [(3,.v false [cR 0 a]),(4,.v false [cR 1 b]),(7,sI c),(8,sI d)],[some ⟨[.sc,.sc],(List.map rZb a)⟩,some ⟨[.sc,.sc],(List.map rZb b)⟩],[]⟩
def K_Sl_54:List Fr:=[.lp [3,4,7,8,9] c_Sl_54,.bk 6,.bk 5,.sq (.kp [3,4,7,8] c_Sl_84),.lp [3,4,7,8] c_Sl_42,.bk 4,.bk 3,.sq (.kp [3,4,7] c_Sl_85),.lp [3,4,7] c_Sl_30,.bk 2,.sq (.kp [4] c_Sl_86)]
def s_Sl_54 (c d:Int) (a:LZ) (e:Int) (b:LZ):St:=
 ⟨mkSl 146 [(3,.v false [cR 0 a]),(4,.v false [cR 1 b]),(7,sI c),(8,sI d),(9,sI e)],[some ⟨[.sc,.sc],(List.map rZb a)⟩,some ⟨[.sc,.sc],(List.map rZb b)⟩],[]⟩
def K_Sl_85:List Fr:=[.lp [3,4,7] c_Sl_30,.bk 2,.sq (.kp [4] c_Sl_86)]
def s_Sl_85 (c:Int) (a b:LZ):St:=
 ⟨mkSl 146 [(3,.v false [cR 0 a]),(4,.v false [cR 1 b]),(7,sI c)],[some ⟨[.sc,.sc],(List.map rZb a)⟩,some ⟨[.sc,.sc],(List.map rZb b)⟩],[]⟩
def K_Sl_42:List Fr:=[.lp [3,4,7,8] c_Sl_42,.bk 4,.bk 3,.sq (.kp [3,4,7] c_Sl_85),.lp [3,4,7] c_Sl_30,.bk 2,.sq (.kp [4] c_Sl_86)]
def s_Sl_42 (c:Int) (a:LZ) (d:Int) (b:LZ):St:=
 ⟨mkSl 146 [(3,.v false [cR 0 a]),(4,.v false [cR 1 b]),(7,sI c),(8,sI d)],[some ⟨[.sc,.sc],(List.map rZb a)⟩,some ⟨[.sc,.sc],(List.map rZb b)⟩],[]⟩
def K_Sl_86:List Fr:=[]
def s_Sl_86 (a:LZ):St:=
 ⟨mkSl 146 [(4,.v false [cR 0 a])],[some ⟨[.sc,.sc],(List.map rZb a)⟩],[]⟩
def K_Sl_30:List Fr:=[.lp [3,4,7] c_Sl_30,.bk 2,.sq (.kp [4] c_Sl_86)]
def s_Sl_30 (a:LZ) (c:Int) (b:LZ):St:=
 ⟨mkSl 146 [(3,.v false [cR 0 a]),(4,.v false [cR 1 b]),(7,sI c)],[some ⟨[.sc,.sc],(List.map rZb a)⟩,some ⟨[.sc,.sc],(List.map rZb b)⟩],[]⟩
def K_Sl_25:List Fr:=[]
def s_Sl_25 (a b:LZ):St:=
 ⟨mkSl 146 [(3,.v false [cR 0 a]),(4,.v false [cR 1 b])],[some ⟨[.sc,.sc],(List.map rZb a)⟩,some ⟨[.sc,.sc],(List.map rZb b)⟩],[]⟩
def K_Sl_11:List Fr:=[.lp [0,3,4,22,23] c_Sl_11,.bk 0,.sq (.kp [3,4] c_Sl_25)]
def s_Sl_11 (p0:LI) (a:LZ) (c d:Int) (b:LZ):St:=
 ⟨mkSl 146 [(0,.v false [.ro [.sc] (p0.map (rI .i64))]),(3,.v false [cR 0 a]),(4,.v false [cR 1 b]),(22,sI c),(23,sI d)],[some ⟨[.sc,.sc],(List.map rZb a)⟩,some ⟨[.sc,.sc],(List.map rZb b)⟩],[]⟩
def K_Sl_0:List Fr:=[]
def s_Sl_0 (p0:LI):St:=
 ⟨mkSl 146 [(0,.v false [.ro [.sc] (p0.map (rI .i64))])],[],[]⟩
def K_Sh_29:List Fr:=[]
def s_Sh_29 (a:LI):St:=
 ⟨mkSl 50 [(4,.v false [cR 0 a])],[jI a],[]⟩
def K_Sh_11:List Fr:=[.lp [3,4,13,14] c_Sh_11,.bk 0,.sq (.kp [4] c_Sh_29)]
def s_Sh_11 (a:LZ) (c d:Int) (b:LI):St:=
 ⟨mkSl 50 [(3,.v false [cR 0 a]),(4,.v false [cR 1 b]),(13,sI c),(14,sI d)],[some ⟨[.sc,.sc],(List.map rZb a)⟩,jI b],[]⟩
def K_Sh_0:List Fr:=[]
def s_Sh_0 (p0:LI):St:=
 ⟨mkSl 50 [(0,.v false [.ro [.sc] (p0.map (rI .i64))])],[],[]⟩
def K_Sa_25:List Fr:=[]
def s_Sa_25 (p1 a:Int):St:=
 ⟨mkSl 33 [(1,sI p1),(5,sI a)],[],[]⟩
def K_Sa_15:List Fr:=[.lp [0,1,5] c_Sa_15,.bk 0,.sq (.kp [1,5] c_Sa_25)]
def s_Sa_15 (p1 a b:Int):St:=
 ⟨mkSl 33 [(0,sI a),(1,sI p1),(5,sI b)],[],[]⟩
def K_Sa_0:List Fr:=[]
def s_Sa_0 (p0 p1:Int):St:=
 ⟨mkSl 33 [(0,sI p0),(1,sI p1)],[],[]⟩
def K_Sk_0:List Fr:=[]
def s_Sk_0:St:=
 ⟨mkSl 2 [],[],[]⟩
def K_Sd_0:List Fr:=[]
def s_Sd_0 (p0:LI) (p1:Int):St:=
 ⟨mkSl 37 [(0,.v false [.ro [.sc] (p0.map (rI .i64))]),(1,sI p1)],[],[]⟩
def K_Sc_23:List Fr:=[]
def s_Sc_23 (a:LI):St:=
 ⟨mkSl 21 [(2,.v false [cR 0 a])],[jI a],[]⟩
def K_Sc_11:List Fr:=[.lp [1,2,7,8] c_Sc_11,.bk 0,.sq (.kp [2] c_Sc_23)]
def s_Sc_11 (a:LI) (c d:Int) (b:LI):St:=
 ⟨mkSl 21 [(1,.v false [cR 0 a]),(2,.v false [cR 1 b]),(7,sI c),(8,sI d)],[jI a,jI b],[]⟩
def K_Sc_0:List Fr:=[]
def s_Sc_0:St:=
 ⟨mkSl 21 [],[],[]⟩
def K_Sf_65:List Fr:=[.bk 3,.sq c_Sf_66,.lp [5,7,9,43,44] c_Sf_36,.bk 2,.sq (.kp [9] c_Sf_67)]
def s_Sf_65 (a e:Int) (b c d:LI) (f:Int):St:=
 ⟨mkSl 76 [(5,.v false [cR 0 b]),(7,.v false [cR 1 c]),(9,.v false [cR 2 d]),(10,sI a),(11,sI f),(43,sI e),(44,sI a)],[jI b,jI c,jI d],[]⟩
def K_Sf_53:List Fr:=[.lp [5,7,9,10,11,43,44,48,49] c_Sf_53,.bk 4,.sq (.kp [5,7,9,10,11,43,44] c_Sf_65),.bk 3,.sq c_Sf_66,.lp [5,7,9,43,44] c_Sf_36,.bk 2,.sq (.kp [9] c_Sf_67)]
def s_Sf_53 (b e:Int) (a c d:LI) (f g:Int):St:=
 ⟨mkSl 76 [(5,.v false [cR 0 c]),(7,.v false [cR 1 a]),(9,.v false [cR 2 d]),(10,sI b),(11,sI f),(43,sI e),(44,sI b),(48,sI (a.length:Int)),(49,sI g)],[jI c,jI a,jI d],[]⟩
def K_Sf_67:List Fr:=[]
def s_Sf_67 (a:LI):St:=
 ⟨mkSl 76 [(9,.v false [cR 0 a])],[jI a],[]⟩
def K_Sf_36:List Fr:=[.lp [5,7,9,43,44] c_Sf_36,.bk 2,.sq (.kp [9] c_Sf_67)]
def s_Sf_36 (a b:LI) (d e:Int) (c:LI):St:=
 ⟨mkSl 76 [(5,.v false [cR 0 a]),(7,.v false [cR 1 b]),(9,.v false [cR 2 c]),(43,sI d),(44,sI e)],[jI a,jI b,jI c],[]⟩
def K_Sf_29:List Fr:=[]
def s_Sf_29 (a b:LI):St:=
 ⟨mkSl 76 [(5,.v false [cR 0 a]),(7,.v false [cR 1 b])],[jI a,jI b],[]⟩
def K_Sf_17:List Fr:=[.lp [5,6,7,22,23] c_Sf_17,.bk 0,.sq (.kp [5,7] c_Sf_29)]
def s_Sf_17 (a b:LI) (d e:Int) (c:LI):St:=
 ⟨mkSl 76 [(5,.v false [cR 0 a]),(6,.v false [cR 1 b]),(7,.v false [cR 2 c]),(22,sI d),(23,sI e)],[jI a,jI b,jI c],[]⟩
def K_Sf_0:List Fr:=[]
def s_Sf_0 (p0 p1:LI):St:=
 ⟨mkSl 76 [(0,.v false [.ro [.sc] (p0.map (rI .i64))]),(1,.v false [.ro [.sc] (p1.map (rI .i64))])],[],[]⟩
def K_Sb_96:List Fr:=[.bk 3,.sq c_Sb_99,.lp [1,6,7,8,9,12] c_Sb_38,.bk 2,.sq (.kp [6,7] c_Sb_100)]
def s_Sb_96 (p1 f g p0:Int) (p2 a b:LI) (c:(List LI)) (d:(List LI)) (e:LI):St:=
 ⟨mkSl 150 [(1,sI p1),(6,sP 0 0),(7,sP 1 0),(8,sI f),(9,.v false [cR 0 a]),(12,sI g),(16,.v false [cR 1 b]),(18,.v false [cR 2 e])],[jI a,jI b,jI e,some ⟨[.own [.sc]],(List.map (rL (rI .i64)) ([]:List LI))⟩,some ⟨[.own [.sc]],(List.map (rL (rI .i64)) ([]:List LI))⟩,some ⟨[.own [.sc]],(List.map (rL (rI .i64)) c)⟩,some ⟨[.own [.sc]],(List.map (rL (rI .i64)) d)⟩],[some [cI 0,cI 0,cI 0,.ref 3 [] 0 (([]:List LI).length),.ref 4 [] 0 (([]:List LI).length)],some [cI p0,cI p1,cI (p2.length:Int),cR 5 c,cR 6 d]]⟩
def K_Sb_78:List Fr:=[.lp [1,6,7,8,9,12,16,18,100,101,102] c_Sb_78,.bk 6,.sq (.kp [1,6,7,8,9,12,16,18] c_Sb_96),.bk 3,.sq c_Sb_99,.lp [1,6,7,8,9,12] c_Sb_38,.bk 2,.sq (.kp [6,7] c_Sb_100)]
def s_Sb_78 (p1 f g:Int) (h:LI) (p0:Int) (p2 b c:LI) (d:(List LI)) (e:(List LI)) (i:Int) (a:LI):St:=
 ⟨mkSl 150 [(1,sI p1),(6,sP 0 0),(7,sP 1 0),(8,sI f),(9,.v false [cR 0 b]),(12,sI g),(16,.v false [cR 1 c]),(18,.v false [cR 2 a]),(100,.v false [cR 2 a]),(101,sI (h.length:Int)),(102,sI i)],[jI b,jI c,jI a,some ⟨[.own [.sc]],(List.map (rL (rI .i64)) ([]:List LI))⟩,some ⟨[.own [.sc]],(List.map (rL (rI .i64)) ([]:List LI))⟩,some ⟨[.own [.sc]],(List.map (rL (rI .i64)) d)⟩,some ⟨[.own [.sc]],(List.map (rL (rI .i64)) e)⟩],[some [cI 0,cI 0,cI 0,.ref 3 [] 0 (([]:List LI).length),.ref 4 [] 0 (([]:List LI).length)],some [cI p0,cI p1,cI (p2.length:Int),cR 5 d,cR 6 e]]⟩
def K_Sb_71:List Fr:=[.bk 3,.sq c_Sb_99,.lp [1,6,7,8,9,12] c_Sb_38,.bk 2,.sq (.kp [6,7] c_Sb_100)]
def s_Sb_71 (p1 e f p0:Int) (p2 a:LI) (b:(List LI)) (c:(List LI)) (n71_0:Nat) (n71_1:Nat) (d:LI) (n71_3:Nat) (n71_4:Nat):St:=
 ⟨mkSl 150 [(1,sI p1),(6,sP 0 0),(7,sP 1 0),(8,sI e),(9,.v false [cR 0 a]),(12,sI f),(13,.v false [.ref 0 [] n71_0 n71_3]),(14,.v false [.ref 0 [] n71_1 n71_4]),(16,.v false [cR 1 d])],[jI a,jI d,some ⟨[.own [.sc]],(List.map (rL (rI .i64)) ([]:List LI))⟩,some ⟨[.own [.sc]],(List.map (rL (rI .i64)) ([]:List LI))⟩,some ⟨[.own [.sc]],(List.map (rL (rI .i64)) b)⟩,some ⟨[.own [.sc]],(List.map (rL (rI .i64)) c)⟩],[some [cI 0,cI 0,cI 0,.ref 2 [] 0 (([]:List LI).length),.ref 3 [] 0 (([]:List LI).length)],some [cI p0,cI p1,cI (p2.length:Int),cR 4 b,cR 5 c]]⟩
def K_Sb_59:List Fr:=[.lp [1,6,7,8,9,12,13,14,15,16,83,84] c_Sb_59,.bk 4,.sq (.kp [1,6,7,8,9,12,13,14,16] c_Sb_71),.bk 3,.sq c_Sb_99,.lp [1,6,7,8,9,12] c_Sb_38,.bk 2,.sq (.kp [6,7] c_Sb_100)]
def s_Sb_59 (p1 f g p0:Int) (p2 a b:LI) (c:(List LI)) (d:(List LI)) (n59_0:Nat) (n59_1:Nat) (h i:Int) (e:LI) (n59_5:Nat) (n59_6:Nat):St:=
 ⟨mkSl 150 [(1,sI p1),(6,sP 0 0),(7,sP 1 0),(8,sI f),(9,.v false [cR 0 a]),(12,sI g),(13,.v false [.ref 0 [] n59_0 n59_5]),(14,.v false [.ref 0 [] n59_1 n59_6]),(15,.v false [cR 1 b]),(16,.v false [cR 2 e]),(83,sI h),(84,sI i)],[jI a,jI b,jI e,some ⟨[.own [.sc]],(List.map (rL (rI .i64)) ([]:List LI))⟩,some ⟨[.own [.sc]],(List.map (rL (rI .i64)) ([]:List LI))⟩,some ⟨[.own [.sc]],(List.map (rL (rI .i64)) c)⟩,some ⟨[.own [.sc]],(List.map (rL (rI .i64)) d)⟩],[some [cI 0,cI 0,cI 0,.ref 3 [] 0 (([]:List LI).length),.ref 4 [] 0 (([]:List LI).length)],some [cI p0,cI p1,cI (p2.length:Int),cR 5 c,cR 6 d]]⟩
def K_Sb_100:List Fr:=[]
def s_Sb_100 (p0 p1:Int) (p2:LI) (a:(List LI)) (b:(List LI)):St:=
 ⟨mkSl 150 [(6,sP 0 0),(7,sP 1 0)],[some ⟨[.own [.sc]],(List.map (rL (rI .i64)) ([]:List LI))⟩,some ⟨[.own [.sc]],(List.map (rL (rI .i64)) ([]:List LI))⟩,some ⟨[.own [.sc]],(List.map (rL (rI .i64)) a)⟩,some ⟨[.own [.sc]],(List.map (rL (rI .i64)) b)⟩],[some [cI 0,cI 0,cI 0,.ref 0 [] 0 (([]:List LI).length),.ref 1 [] 0 (([]:List LI).length)],some [cI p0,cI p1,cI (p2.length:Int),cR 2 a,cR 3 b]]⟩
def K_Sb_38:List Fr:=[.lp [1,6,7,8,9,12] c_Sb_38,.bk 2,.sq (.kp [6,7] c_Sb_100)]
def s_Sb_38 (p1 d p0:Int) (p2 a:LI) (e:Int) (b:(List LI)) (c:(List LI)):St:=
 ⟨mkSl 150 [(1,sI p1),(6,sP 0 0),(7,sP 1 0),(8,sI d),(9,.v false [cR 0 a]),(12,sI e)],[jI a,some ⟨[.own [.sc]],(List.map (rL (rI .i64)) ([]:List LI))⟩,some ⟨[.own [.sc]],(List.map (rL (rI .i64)) ([]:List LI))⟩,some ⟨[.own [.sc]],(List.map (rL (rI .i64)) b)⟩,some ⟨[.own [.sc]],(List.map (rL (rI .i64)) c)⟩],[some [cI 0,cI 0,cI 0,.ref 1 [] 0 (([]:List LI).length),.ref 2 [] 0 (([]:List LI).length)],some [cI p0,cI p1,cI (p2.length:Int),cR 3 b,cR 4 c]]⟩
def K_Sb_33:List Fr:=[]
def s_Sb_33 (p1 b p0:Int) (p2 a:LI):St:=
 ⟨mkSl 150 [(1,sI p1),(6,sP 0 0),(7,sP 1 0),(8,sI b),(9,.v false [cR 0 a])],[jI a,some ⟨[.own [.sc]],(List.map (rL (rI .i64)) ([]:List LI))⟩,some ⟨[.own [.sc]],(List.map (rL (rI .i64)) ([]:List LI))⟩,some ⟨[.own [.sc]],(List.map (rL (rI .i64)) ([]:List LI))⟩,some ⟨[.own [.sc]],(List.map (rL (rI .i64)) ([]:List LI))⟩],[some [cI 0,cI 0,cI 0,.ref 1 [] 0 (([]:List LI).length),.ref 2 [] 0 (([]:List LI).length)],some [cI p0,cI p1,cI (p2.length:Int),.ref 3 [] 0 (([]:List LI).length),.ref 4 [] 0 (([]:List LI).length)]]⟩
def K_Sb_21:List Fr:=[.lp [1,6,7,8,9,46,47,48] c_Sb_21,.bk 0,.sq (.kp [1,6,7,8,9] c_Sb_33)]
def s_Sb_21 (p1 b:Int) (p2:LI) (p0 c:Int) (a:LI):St:=
 ⟨mkSl 150 [(1,sI p1),(6,sP 0 0),(7,sP 1 0),(8,sI b),(9,.v false [cR 0 a]),(46,.v false [.ro [.sc] (p2.map (rI .i64))]),(47,sI (p2.length:Int)),(48,sI c)],[jI a,some ⟨[.own [.sc]],(List.map (rL (rI .i64)) ([]:List LI))⟩,some ⟨[.own [.sc]],(List.map (rL (rI .i64)) ([]:List LI))⟩,some ⟨[.own [.sc]],(List.map (rL (rI .i64)) ([]:List LI))⟩,some ⟨[.own [.sc]],(List.map (rL (rI .i64)) ([]:List LI))⟩],[some [cI 0,cI 0,cI 0,.ref 1 [] 0 (([]:List LI).length),.ref 2 [] 0 (([]:List LI).length)],some [cI p0,cI p1,cI (p2.length:Int),.ref 3 [] 0 (([]:List LI).length),.ref 4 [] 0 (([]:List LI).length)]]⟩
def K_Sb_5:List Fr:=[.sq c_Sb_10]
def s_Sb_5 (p0 p1:Int) (p2:LI) (a:Bool):St:=
 ⟨mkSl 150 [(0,sI p0),(1,sI p1),(2,.v false [.ro [.sc] (p2.map (rI .i64))]),(6,sP 0 0),(32,sB a)],[some ⟨[.own [.sc]],(List.map (rL (rI .i64)) ([]:List LI))⟩,some ⟨[.own [.sc]],(List.map (rL (rI .i64)) ([]:List LI))⟩],[some [cI 0,cI 0,cI 0,.ref 0 [] 0 (([]:List LI).length),.ref 1 [] 0 (([]:List LI).length)]]⟩
def K_Sb_0:List Fr:=[]
def s_Sb_0 (p0 p1:Int) (p2:LI):St:=
 ⟨mkSl 150 [(0,sI p0),(1,sI p1),(2,.v false [.ro [.sc] (p2.map (rI .i64))])],[],[]⟩
def K_Ij_33:List Fr:=[]
def s_Ij_33:St:=
 ⟨mkSl 30 [],[],[]⟩
def K_Ij_15:List Fr:=[.lp [1,2,15,16,17] c_Ij_15,.bk 0,.sq (.kp [] c_Ij_33)]
def s_Ij_15 (p1 p2:Int) (p0:LI) (a:Int):St:=
 ⟨mkSl 30 [(1,sI p1),(2,sI p2),(15,.v false [.ro [.sc] (p0.map (rI .i64))]),(16,sI (p0.length:Int)),(17,sI a)],[],[]⟩
def K_Ij_0:List Fr:=[]
def s_Ij_0 (p0:LI) (p1 p2 p3:Int):St:=
 ⟨mkSl 30 [(0,.v false [.ro [.sc] (p0.map (rI .i64))]),(1,sI p1),(2,sI p2),(3,sI p3)],[],[]⟩
def K_Ik_0:List Fr:=[]
def s_Ik_0 (p0:LI) (p1:Int):St:=
 ⟨mkSl 14 [(0,.v false [.ro [.sc] (p0.map (rI .i64))]),(1,sI p1)],[],[]⟩
def K_Ie_78:List Fr:=[.lp [3,5,6] c_Ie_46,.bk 4,.bk 3,.sq (.kp [3,5] c_Ie_79),.lp [3,5] c_Ie_34,.bk 2,.sq (.kp [3] c_Ie_80)]
def s_Ie_78 (b c:Int) (a:LZ):St:=
 ⟨mkSl 134 [(3,.v false [cR 0 a]),(5,sI b),(6,sI c)],[some ⟨[.sc,.sc],(List.map rZb a)⟩],[]⟩
def K_Ie_58:List Fr:=[.lp [3,5,6,56,57] c_Ie_58,.bk 6,.bk 5,.sq (.kp [3,5,6] c_Ie_78),.lp [3,5,6] c_Ie_46,.bk 4,.bk 3,.sq (.kp [3,5] c_Ie_79),.lp [3,5] c_Ie_34,.bk 2,.sq (.kp [3] c_Ie_80)]
def s_Ie_58 (a c d:Int) (b:LZ):St:=
 ⟨mkSl 134 [(3,.v false [cR 0 b]),(5,sI a),(6,sI c),(56,sI a),(57,sI d)],[some ⟨[.sc,.sc],(List.map rZb b)⟩],[]⟩
def K_Ie_79:List Fr:=[.lp [3,5] c_Ie_34,.bk 2,.sq (.kp [3] c_Ie_80)]
def s_Ie_79 (b:Int) (a:LZ):St:=
 ⟨mkSl 134 [(3,.v false [cR 0 a]),(5,sI b)],[some ⟨[.sc,.sc],(List.map rZb a)⟩],[]⟩
def K_Ie_46:List Fr:=[.lp [3,5,6] c_Ie_46,.bk 4,.bk 3,.sq (.kp [3,5] c_Ie_79),.lp [3,5] c_Ie_34,.bk 2,.sq (.kp [3] c_Ie_80)]
def s_Ie_46 (b c:Int) (a:LZ):St:=
 ⟨mkSl 134 [(3,.v false [cR 0 a]),(5,sI b),(6,sI c)],[some ⟨[.sc,.sc],(List.map rZb a)⟩],[]⟩
def K_Ie_80:List Fr:=[]
def s_Ie_80 (a:LZ):St:=
 ⟨mkSl 134 [(3,.v false [cR 0 a])],[some ⟨[.sc,.sc],(List.map rZb a)⟩],[]⟩
def K_Ie_34:List Fr:=[.lp [3,5] c_Ie_34,.bk 2,.sq (.kp [3] c_Ie_80)]
def s_Ie_34 (b:Int) (a:LZ):St:=
 ⟨mkSl 134 [(3,.v false [cR 0 a]),(5,sI b)],[some ⟨[.sc,.sc],(List.map rZb a)⟩],[]⟩
def K_Ie_29:List Fr:=[]
def s_Ie_29 (a:LZ):St:=
 ⟨mkSl 134 [(3,.v false [cR 0 a])],[some ⟨[.sc,.sc],(List.map rZb a)⟩],[]⟩
def K_Ie_17:List Fr:=[.lp [0,3,18,19] c_Ie_17,.bk 0,.sq (.kp [3] c_Ie_29)]
def s_Ie_17 (p0:LI) (b c:Int) (a:LZ):St:=
 ⟨mkSl 134 [(0,.v false [.ro [.sc] (p0.map (rI .i64))]),(3,.v false [cR 0 a]),(18,sI b),(19,sI c)],[some ⟨[.sc,.sc],(List.map rZb a)⟩],[]⟩
def K_Ie_0:List Fr:=[]
def s_Ie_0 (p0:LI):St:=
 ⟨mkSl 134 [(0,.v false [.ro [.sc] (p0.map (rI .i64))])],[],[]⟩
def K_Ic_25:List Fr:=[]
def s_Ic_25 (a:LI):St:=
 ⟨mkSl 34 [(3,.v false [cR 0 a])],[jI a],[]⟩
def K_Ic_9:List Fr:=[.lp [3,7,8,9] c_Ic_9,.bk 0,.sq (.kp [3] c_Ic_25)]
def s_Ic_9 (a:LZ) (c:Int) (b:LI):St:=
 ⟨mkSl 34 [(3,.v false [cR 0 b]),(7,.v false [cR 1 a]),(8,sI (a.length:Int)),(9,sI c)],[jI b,some ⟨[.sc,.sc],(List.map rZb a)⟩],[]⟩
def K_Ic_0:List Fr:=[]
def s_Ic_0 (p0:LI):St:=
 ⟨mkSl 34 [(0,.v false [.ro [.sc] (p0.map (rI .i64))])],[],[]⟩
def K_Ig_17:List Fr:=[]
def s_Ig_17 (a:Int):St:=
 ⟨mkSl 11 [(3,sI a)],[],[]⟩
def K_Ig_7:List Fr:=[.lp [0,3] c_Ig_7,.bk 0,.sq (.kp [3] c_Ig_17)]
def s_Ig_7 (a b:Int):St:=
 ⟨mkSl 11 [(0,.v false [.lit (.int .u64 a)]),(3,sI b)],[],[]⟩
def K_Ig_0:List Fr:=[]
def s_Ig_0 (p0:Int):St:=
 ⟨mkSl 11 [(0,.v false [.lit (.int .u64 p0)])],[],[]⟩
def K_Ia_0:List Fr:=[]
def s_Ia_0 (p0 p1:Int):St:=
 ⟨mkSl 24 [(0,sI p0),(1,sI p1)],[],[]⟩
def K_Ii_0:List Fr:=[]
def s_Ii_0 (p0:LI):St:=
 ⟨mkSl 6 [(0,.v false [.ro [.sc] (p0.map (rI .i64))])],[],[]⟩
def K_Ih_0:List Fr:=[]
def s_Ih_0 (p0:Int):St:=
 ⟨mkSl 31 [(0,sI p0)],[],[]⟩
def K_If_21:List Fr:=[]
def s_If_21 (a:LI):St:=
 ⟨mkSl 15 [(1,.v false [cR 0 a])],[jI a],[]⟩
def K_If_9:List Fr:=[.lp [1,3] c_If_9,.bk 0,.sq (.kp [1] c_If_21)]
def s_If_9 (b:Int) (a:LI):St:=
 ⟨mkSl 15 [(1,.v false [cR 0 a]),(3,sI b)],[jI a],[]⟩
def K_If_0:List Fr:=[]
def s_If_0:St:=
 ⟨mkSl 15 [],[],[]⟩
def K_Ib_50:List Fr:=[.bk 1,.sq c_Ib_51,.lp [5,6,7,24] c_Ib_21,.bk 0,.sq (.kp [7] c_Ib_52)]
def s_Ib_50 (d:Int) (a b c:LI) (e:Int):St:=
 ⟨mkSl 62 [(5,.v false [cR 0 a]),(6,.v false [cR 1 b]),(7,.v false [cR 2 c]),(9,sI e),(24,sI d)],[jI a,jI b,jI c],[]⟩
def K_Ib_38:List Fr:=[.lp [5,6,7,8,9,24,28,29] c_Ib_38,.bk 2,.sq (.kp [5,6,7,9,24] c_Ib_50),.bk 1,.sq c_Ib_51,.lp [5,6,7,24] c_Ib_21,.bk 0,.sq (.kp [7] c_Ib_52)]
def s_Ib_38 (b:Int) (a c d:LI) (e f:Int):St:=
 ⟨mkSl 62 [(5,.v false [cR 0 a]),(6,.v false [cR 1 c]),(7,.v false [cR 2 d]),(8,sI b),(9,sI e),(24,sI b),(28,sI (a.length:Int)),(29,sI f)],[jI a,jI c,jI d],[]⟩
def K_Ib_52:List Fr:=[]
def s_Ib_52 (a:LI):St:=
 ⟨mkSl 62 [(7,.v false [cR 0 a])],[jI a],[]⟩
def K_Ib_21:List Fr:=[.lp [5,6,7,24] c_Ib_21,.bk 0,.sq (.kp [7] c_Ib_52)]
def s_Ib_21 (a:LI) (d:Int) (b c:LI):St:=
 ⟨mkSl 62 [(5,.v false [cR 0 b]),(6,.v false [cR 1 a]),(7,.v false [cR 2 c]),(24,sI d)],[jI b,jI a,jI c],[]⟩
def K_Ib_0:List Fr:=[]
def s_Ib_0 (p0 p1:LI):St:=
 ⟨mkSl 62 [(0,.v false [.ro [.sc] (p0.map (rI .i64))]),(1,.v false [.ro [.sc] (p1.map (rI .i64))])],[],[]⟩
def K_Id_79:List Fr:=[.bk 1,.sq c_Id_82,.lp [1,6,7,9,57,58] c_Id_23,.bk 0,.sq (.kp [6,7] c_Id_83)]
def s_Id_79 (p1 f g p0:Int) (p2 a b:LI) (c:(List LI)) (d:(List LI)) (e:LI):St:=
 ⟨mkSl 142 [(1,sI p1),(6,sP 0 0),(7,sP 1 0),(9,.v false [cR 0 a]),(12,.v false [cR 1 b]),(15,.v false [cR 2 e]),(57,sI f),(58,sI g)],[jI a,jI b,jI e,some ⟨[.own [.sc]],(List.map (rL (rI .i64)) ([]:List LI))⟩,some ⟨[.own [.sc]],(List.map (rL (rI .i64)) ([]:List LI))⟩,some ⟨[.own [.sc]],(List.map (rL (rI .i64)) c)⟩,some ⟨[.own [.sc]],(List.map (rL (rI .i64)) d)⟩],[some [cI 0,cI 0,cI 0,.ref 3 [] 0 (([]:List LI).length),.ref 4 [] 0 (([]:List LI).length)],some [cI p0,cI p1,cI (p2.length:Int),cR 5 c,cR 6 d]]⟩
def K_Id_61:List Fr:=[.lp [1,6,7,9,12,15,57,58,92,93,94] c_Id_61,.bk 4,.sq (.kp [1,6,7,9,12,15,57,58] c_Id_79),.bk 1,.sq c_Id_82,.lp [1,6,7,9,57,58] c_Id_23,.bk 0,.sq (.kp [6,7] c_Id_83)]
def s_Id_61 (p1 f g:Int) (h:LI) (p0:Int) (p2 b c:LI) (d:(List LI)) (e:(List LI)) (i:Int) (a:LI):St:=
 ⟨mkSl 142 [(1,sI p1),(6,sP 0 0),(7,sP 1 0),(9,.v false [cR 0 b]),(12,.v false [cR 1 c]),(15,.v false [cR 2 a]),(57,sI f),(58,sI g),(92,.v false [cR 2 a]),(93,sI (h.length:Int)),(94,sI i)],[jI b,jI c,jI a,some ⟨[.own [.sc]],(List.map (rL (rI .i64)) ([]:List LI))⟩,some ⟨[.own [.sc]],(List.map (rL (rI .i64)) ([]:List LI))⟩,some ⟨[.own [.sc]],(List.map (rL (rI .i64)) d)⟩,some ⟨[.own [.sc]],(List.map (rL (rI .i64)) e)⟩],[some [cI 0,cI 0,cI 0,.ref 3 [] 0 (([]:List LI).length),.ref 4 [] 0 (([]:List LI).length)],some [cI p0,cI p1,cI (p2.length:Int),cR 5 d,cR 6 e]]⟩
def K_Id_54:List Fr:=[.bk 1,.sq c_Id_82,.lp [1,6,7,9,57,58] c_Id_23,.bk 0,.sq (.kp [6,7] c_Id_83)]
def s_Id_54 (p1 a f p0:Int) (p2 b:LI) (c:(List LI)) (d:(List LI)) (n54_0:Nat) (e:LI) (n54_2:Nat):St:=
 ⟨mkSl 142 [(1,sI p1),(6,sP 0 0),(7,sP 1 0),(9,.v false [cR 0 b]),(10,sI a),(11,.v false [.ref 0 [] n54_0 n54_2]),(12,.v false [cR 1 e]),(57,sI f),(58,sI a)],[jI b,jI e,some ⟨[.own [.sc]],(List.map (rL (rI .i64)) ([]:List LI))⟩,some ⟨[.own [.sc]],(List.map (rL (rI .i64)) ([]:List LI))⟩,some ⟨[.own [.sc]],(List.map (rL (rI .i64)) c)⟩,some ⟨[.own [.sc]],(List.map (rL (rI .i64)) d)⟩],[some [cI 0,cI 0,cI 0,.ref 2 [] 0 (([]:List LI).length),.ref 3 [] 0 (([]:List LI).length)],some [cI p0,cI p1,cI (p2.length:Int),cR 4 c,cR 5 d]]⟩
def K_Id_42:List Fr:=[.lp [1,6,7,9,10,11,12,57,58,70,71,72] c_Id_42,.bk 2,.sq (.kp [1,6,7,9,10,11,12,57,58] c_Id_54),.bk 1,.sq c_Id_82,.lp [1,6,7,9,57,58] c_Id_23,.bk 0,.sq (.kp [6,7] c_Id_83)]
def s_Id_42 (p1 b g:Int) (a:LI) (p0:Int) (p2 c:LI) (d:(List LI)) (e:(List LI)) (n42_0:Nat) (h:Int) (f:LI) (n42_3:Nat):St:=
 ⟨mkSl 142 [(1,sI p1),(6,sP 0 0),(7,sP 1 0),(9,.v false [cR 0 c]),(10,sI b),(11,.v false [.ref 0 [] n42_0 n42_3]),(12,.v false [cR 1 f]),(57,sI g),(58,sI b),(70,.v false [cR 2 a]),(71,sI (a.length:Int)),(72,sI h)],[jI c,jI f,jI a,some ⟨[.own [.sc]],(List.map (rL (rI .i64)) ([]:List LI))⟩,some ⟨[.own [.sc]],(List.map (rL (rI .i64)) ([]:List LI))⟩,some ⟨[.own [.sc]],(List.map (rL (rI .i64)) d)⟩,some ⟨[.own [.sc]],(List.map (rL (rI .i64)) e)⟩],[some [cI 0,cI 0,cI 0,.ref 3 [] 0 (([]:List LI).length),.ref 4 [] 0 (([]:List LI).length)],some [cI p0,cI p1,cI (p2.length:Int),cR 5 d,cR 6 e]]⟩
def K_Id_83:List Fr:=[]
def s_Id_83 (p0 p1:Int) (p2:LI) (a:(List LI)) (b:(List LI)):St:=
 ⟨mkSl 142 [(6,sP 0 0),(7,sP 1 0)],[some ⟨[.own [.sc]],(List.map (rL (rI .i64)) ([]:List LI))⟩,some ⟨[.own [.sc]],(List.map (rL (rI .i64)) ([]:List LI))⟩,some ⟨[.own [.sc]],(List.map (rL (rI .i64)) a)⟩,some ⟨[.own [.sc]],(List.map (rL (rI .i64)) b)⟩],[some [cI 0,cI 0,cI 0,.ref 0 [] 0 (([]:List LI).length),.ref 1 [] 0 (([]:List LI).length)],some [cI p0,cI p1,cI (p2.length:Int),cR 2 a,cR 3 b]]⟩
def K_Id_23:List Fr:=[.lp [1,6,7,9,57,58] c_Id_23,.bk 0,.sq (.kp [6,7] c_Id_83)]
def s_Id_23 (p1 p0:Int) (p2:LI) (d e:Int) (a:LI) (b:(List LI)) (c:(List LI)):St:=
 ⟨mkSl 142 [(1,sI p1),(6,sP 0 0),(7,sP 1 0),(9,.v false [cR 0 a]),(57,sI d),(58,sI e)],[jI a,some ⟨[.own [.sc]],(List.map (rL (rI .i64)) ([]:List LI))⟩,some ⟨[.own [.sc]],(List.map (rL (rI .i64)) ([]:List LI))⟩,some ⟨[.own [.sc]],(List.map (rL (rI .i64)) b)⟩,some ⟨[.own [.sc]],(List.map (rL (rI .i64)) c)⟩],[some [cI 0,cI 0,cI 0,.ref 1 [] 0 (([]:List LI).length),.ref 2 [] 0 (([]:List LI).length)],some [cI p0,cI p1,cI (p2.length:Int),cR 3 b,cR 4 c]]⟩
def K_Id_5:List Fr:=[.sq c_Id_10]
def s_Id_5 (p0 p1:Int) (p2:LI) (a:Bool):St:=
 ⟨mkSl 142 [(0,sI p0),(1,sI p1),(2,.v false [.ro [.sc] (p2.map (rI .i64))]),(6,sP 0 0),(37,sB a)],[some ⟨[.own [.sc]],(List.map (rL (rI .i64)) ([]:List LI))⟩,some ⟨[.own [.sc]],(List.map (rL (rI .i64)) ([]:List LI))⟩],[some [cI 0,cI 0,cI 0,.ref 0 [] 0 (([]:List LI).length),.ref 1 [] 0 (([]:List LI).length)]]⟩
def K_Id_0:List Fr:=[]
def s_Id_0 (p0 p1:Int) (p2:LI):St:=
 ⟨mkSl 142 [(0,sI p0),(1,sI p1),(2,.v false [.ro [.sc] (p2.map (rI .i64))])],[],[]⟩
def K_La_31:List Fr:=[]
def s_La_31:St:=
 ⟨mkSl 26 [],[],[]⟩
def K_La_15:List Fr:=[.lp [0,1,5] c_La_15,.bk 0,.sq (.kp [] c_La_31)]
def s_La_15 (p0 p1:LI) (a:Int):St:=
 ⟨mkSl 26 [(0,.v false [.ro [.sc] (p0.map (rI .i64))]),(1,.v false [.ro [.sc] (p1.map (rI .i64))]),(5,sI a)],[],[]⟩
def K_La_0:List Fr:=[]
def s_La_0 (p0 p1:LI):St:=
 ⟨mkSl 26 [(0,.v false [.ro [.sc] (p0.map (rI .i64))]),(1,.v false [.ro [.sc] (p1.map (rI .i64))])],[],[]⟩
def K_Lb_31:List Fr:=[]
def s_Lb_31:St:=
 ⟨mkSl 27 [],[],[]⟩
def K_Lb_15:List Fr:=[.lp [0,1,5] c_Lb_15,.bk 0,.sq (.kp [] c_Lb_31)]
def s_Lb_15 (p0:(List LI)) (p1:(List LI)) (a:Int):St:=
 ⟨mkSl 27 [(0,.v false [.ro [.ro [.sc]] (p0.map (rL (rI .i64)))]),(1,.v false [.ro [.ro [.sc]] (p1.map (rL (rI .i64)))]),(5,sI a)],[],[]⟩
def K_Lb_0:List Fr:=[]
def s_Lb_0 (p0:(List LI)) (p1:(List LI)):St:=
 ⟨mkSl 27 [(0,.v false [.ro [.ro [.sc]] (p0.map (rL (rI .i64)))]),(1,.v false [.ro [.ro [.sc]] (p1.map (rL (rI .i64)))])],[],[]⟩
def K_Lc_0:List Fr:=[]
def s_Lc_0 (p0 p1:Za):St:=
 ⟨mkSl 32 [(0,.v true [cI p0.rate,cI p0.quality,cI p0.length,.ro [.ro [.sc]] (p0.slots.map (rL (rI .i64))),.ro [.ro [.sc]] (p0.grades.map (rL (rI .i64)))]),(1,.v true [cI p1.rate,cI p1.quality,cI p1.length,.ro [.ro [.sc]] (p1.slots.map (rL (rI .i64))),.ro [.ro [.sc]] (p1.grades.map (rL (rI .i64)))])],[],[]⟩
def K_Lg_19:List Fr:=[]
def s_Lg_19 (b:Int) (a:LI):St:=
 ⟨mkSl 19 [(0,.v false [cR 0 a]),(1,sI b)],[jI a],[]⟩
def K_Lg_7:List Fr:=[.lp [0,1,5] c_Lg_7,.bk 0,.sq (.kp [0,1] c_Lg_19)]
def s_Lg_7 (b c:Int) (a:LI):St:=
 ⟨mkSl 19 [(0,.v false [cR 0 a]),(1,sI b),(5,sI c)],[jI a],[]⟩
def K_Lg_0:List Fr:=[]
def s_Lg_0 (p1:Int) (p0:LI):St:=
 ⟨mkSl 19 [(0,.v false [cR 0 p0]),(1,sI p1)],[jI p0],[]⟩
def K_Lh_17:List Fr:=[]
def s_Lh_17 (b:Int) (a:(List LI)):St:=
 ⟨mkSl 19 [(0,.v false [cR 0 a]),(1,sI b)],[some ⟨[.own [.sc]],(List.map (rL (rI .i64)) a)⟩],[]⟩
def K_Lh_7:List Fr:=[.lp [0,1,5] c_Lh_7,.bk 0,.sq (.kp [0,1] c_Lh_17)]
def s_Lh_7 (b c:Int) (a:(List LI)):St:=
 ⟨mkSl 19 [(0,.v false [cR 0 a]),(1,sI b),(5,sI c)],[some ⟨[.own [.sc]],(List.map (rL (rI .i64)) a)⟩],[]⟩
def K_Lh_0:List Fr:=[]
def s_Lh_0 (p1:Int) (p0:(List LI)):St:=
 ⟨mkSl 19 [(0,.v false [cR 0 p0]),(1,sI p1)],[some ⟨[.own [.sc]],(List.map (rL (rI .i64)) p0)⟩],[]⟩
def K_Li_0:List Fr:=[]
def s_Li_0 (p0:Za) (p1:Int):St:=
 ⟨mkSl 14 [(0,.v true [cI p0.rate,cI p0.quality,cI p0.length,cR 0 p0.slots,cR 1 p0.grades]),(1,sI p1)],[some ⟨[.own [.sc]],(List.map (rL (rI .i64)) p0.slots)⟩,some ⟨[.own [.sc]],(List.map (rL (rI .i64)) p0.grades)⟩],[]⟩
def K_Ld_25:List Fr:=[]
def s_Ld_25 (a:Int):St:=
 ⟨mkSl 21 [(1,sI a)],[],[]⟩
def K_Ld_7:List Fr:=[.lp [0,1,5] c_Ld_7,.bk 0,.sq (.kp [1] c_Ld_25)]
def s_Ld_7 (p0:LI) (a b:Int):St:=
 ⟨mkSl 21 [(0,.v false [.ro [.sc] (p0.map (rI .i64))]),(1,sI a),(5,sI b)],[],[]⟩
def K_Ld_0:List Fr:=[]
def s_Ld_0 (p0:LI) (p1:Int):St:=
 ⟨mkSl 21 [(0,.v false [.ro [.sc] (p0.map (rI .i64))]),(1,sI p1)],[],[]⟩
def K_Le_25:List Fr:=[]
def s_Le_25 (a:Int):St:=
 ⟨mkSl 21 [(1,sI a)],[],[]⟩
def K_Le_7:List Fr:=[.lp [0,1,5] c_Le_7,.bk 0,.sq (.kp [1] c_Le_25)]
def s_Le_7 (p0:(List LI)) (a b:Int):St:=
 ⟨mkSl 21 [(0,.v false [.ro [.ro [.sc]] (p0.map (rL (rI .i64)))]),(1,sI a),(5,sI b)],[],[]⟩
def K_Le_0:List Fr:=[]
def s_Le_0 (p0:(List LI)) (p1:Int):St:=
 ⟨mkSl 21 [(0,.v false [.ro [.ro [.sc]] (p0.map (rL (rI .i64)))]),(1,sI p1)],[],[]⟩
def K_Lf_0:List Fr:=[]
def s_Lf_0 (p0:Za) (p1:Int):St:=
 ⟨mkSl 18 [(0,.v true [cI p0.rate,cI p0.quality,cI p0.length,.ro [.ro [.sc]] (p0.slots.map (rL (rI .i64))),.ro [.ro [.sc]] (p0.grades.map (rL (rI .i64)))]),(1,sI p1)],[],[]⟩
def K_laws_FnExactTonesOf_0:List Fr:=[]
def s_laws_FnExactTonesOf_0 (p0 p1:Int) (p2:LI):St:=
 ⟨mkSl 76 [(0,sI p0),(1,sI p1),(2,.v false [.ro [.sc] (p2.map (rI .i64))])],[],[]⟩
def O_Lj_9 (Q:VX→St→Prop) (e:(LI)):Prop:=EE c_Lj_19 K_Lj_19 (s_Lj_19 e) Q
theorem ok_Lj_19 (a r:LI) (hm:m_Lj_19 a=some r):EE c_Lj_19 K_Lj_19 (s_Lj_19 a) (Post vf_Lj (res_Lj r)):=by
 exact ge (wR (rI .i64) a<|z0) (congrArg res_Lj (qj hm)) (by kernel_rfl)
theorem ok_Lj_9 (p0:LI) (c:Int) (a:LI) (y) (hm:m_Lj_9 p0 c a=some y) (Q)
  (hin:∀ s,y=.inl s→EE c_Lj_9 K_Lj_9 (s_Lj_9 p0 s.1 s.2) Q) (hout:∀ e,y=.inr e→O_Lj_9 Q e):EE c_Lj_9 K_Lj_9 (s_Lj_9 p0 c a) Q:=by
 obtain ⟨d,hm⟩|⟨d,hm⟩:=split_ite hm
 ·obtain ⟨b,f,hm⟩:=bind_some hm
  obtain ⟨h,g,hm⟩:=bind_some hm
  exact gw (hin _ (qj hm).symm) (wL (rI .i64) p0<|u1 d<|wO (.row ((rI .i64) b))<|wO (.rows (mi (a.set (0+Int.toNat c) b)))<|wO (zn ((a.set (0+Int.toNat c) b).length))<|wP (rd_nn f)<|wP (at_row (rI .i64) (rd_get f))<|wP (rd_in rfl g)<|wP (put_ob (rI .i64) b 0 (.lit (vI b)) (rd_get0 g) (by kernel_rfl) (by kernel_rfl))<|wP (lens a.length ((a.set (0+Int.toNat c) b).length) (set_len rfl))<|z0) (by kernel_rfl)
 ·refine gm c_Lj_19 K_Lj_19 (s_Lj_19 a) (wL (rI .i64) p0<|v1 d<|wN a.length<|z0) ?_ (by kernel_rfl)
  exact hout a (qj hm).symm
theorem ok_Lj_0 (p0 r:LI) (hm:m_Lj_0 p0=some r):EE c_Lj_0 K_Lj_0 (s_Lj_0 p0) (Post vf_Lj (res_Lj r)):=by
 obtain ⟨d,a,hm⟩:=bind_some hm
 refine gm c_Lj_9 K_Lj_9 (s_Lj_9 p0 0 (List.replicate (Int.toNat (p0.length:Int)) (0:Int))) (wL (rI .i64) p0<|wO (.rows (mi (List.replicate (Int.toNat (p0.length:Int)) (0:Int))))<|wO (zn (Int.toNat (p0.length:Int)))<|wO (zn ((List.replicate (Int.toNat (p0.length:Int)) (0:Int)).length))<|wP (ck_p a)<|wP (rep_ob (rI .i64) (Int.toNat (p0.length:Int)) (0:Int) [.lit (vI 0)] (by kernel_rfl))<|wP (len_map (rI .i64) (show (Int.toNat (p0.length:Int))=(List.replicate (Int.toNat (p0.length:Int)) (0:Int)).length from (rep_len (Int.toNat (p0.length:Int)) (0:Int))))<|wP (lens (Int.toNat (p0.length:Int)) ((List.replicate (Int.toNat (p0.length:Int)) (0:Int)).length) (rep_len (Int.toNat (p0.length:Int)) (0:Int)))<|z0) ?_ (by kernel_rfl)
 obtain ⟨e,he,hm⟩:=bind_some hm
 refine loop_rule (u:=.c c_Lj_9) (K:=K_Lj_9) (Q:=(Post vf_Lj (res_Lj r))) (b:=lp_Lj_9 p0) (We:=O_Lj_9 (Post vf_Lj (res_Lj r))) (stJ:=fun s=>s_Lj_9 p0 s.1 s.2) (s:=(0,(List.replicate (Int.toNat (p0.length:Int)) (0:Int)))) (fun s y hb hin hout=>ok_Lj_9 p0 s.1 s.2 y hb (Post vf_Lj (res_Lj r)) hin hout) he ?_
 show EE c_Lj_19 K_Lj_19 (s_Lj_19 e) _
 exact ok_Lj_19 e r hm
theorem ok_Lj (p0 r:LI) (hm:m_Lj p0=some r):Runs ext tbl 6 (as_Lj p0) (res_Lj r):=
 runs_of (vf:=vf_Lj) (by kernel_rfl) rfl (st:=(enter vf_Lj (as_Lj p0)).getD default) (by kernel_rfl) (go_on [] 1000 J0 (ok_Lj_0 p0 r hm) (by kernel_rfl))
theorem ok_Se_0 (p0 p1 p2:Int) (r:Bool) (hm:m_Se_0 p0 p1 p2=some r):EE c_Se_0 K_Se_0 (s_Se_0 p0 p1 p2) (Post vf_Se (res_Se r)):=by
 obtain ⟨a,hm⟩|⟨a,hm⟩:=split_ite hm
 ·obtain ⟨b,hm⟩|⟨b,hm⟩:=split_ite hm
  ·obtain ⟨c,hm⟩|⟨c,hm⟩:=split_ite hm
   ·obtain ⟨d,hm⟩|⟨d,hm⟩:=split_ite hm
    ·obtain ⟨e,hm⟩|⟨e,hm⟩:=split_ite hm
     ·exact ge (u3 a<|u3 b<|u3 c<|u3 d<|u3 e<|z0) (congrArg res_Se (qj hm)) (by kernel_rfl)
     ·exact ge (u3 a<|u3 b<|u3 c<|u3 d<|v3 e<|z0) (congrArg res_Se (qj hm)) (by kernel_rfl)
    ·exact ge (u3 a<|u3 b<|u3 c<|v3 d<|v3 eF<|z0) (congrArg res_Se (qj hm)) (by kernel_rfl)
   ·exact ge (u3 a<|u3 b<|v3 c<|v4 eF<|v2 eF<|z0) (congrArg res_Se (qj hm)) (by kernel_rfl)
  ·exact ge (u3 a<|v3 b<|v4 eF<|v4 eF<|v1 eF<|z0) (congrArg res_Se (qj hm)) (by kernel_rfl)
 ·exact ge (v3 a<|v4 eF<|v4 eF<|v4 eF<|z0) (congrArg res_Se (qj hm)) (by kernel_rfl)
theorem ok_Se (p0 p1 p2:Int) (r:Bool) (hm:m_Se p0 p1 p2=some r):Runs ext tbl 21 (as_Se p0 p1 p2) (res_Se r):=
 runs_of (vf:=vf_Se) (by kernel_rfl) rfl (st:=(enter vf_Se (as_Se p0 p1 p2)).getD default) (by kernel_rfl) (go_on [] 1000 J0 (ok_Se_0 p0 p1 p2 r hm) (by kernel_rfl))
def O_Si_7 (p0:LI) (p1:Int) (Q:VX→St→Prop) (e:(Bool)⊕((Unit))):Prop:=match e with | .inl e=>Q=Post vf_Si (res_Si e) | .inr e=>EE c_Si_25 K_Si_25 (s_Si_25 p0 p1) Q
theorem ok_Si_25 (p0:LI) (p1:Int) (r:Bool) (hm:m_Si_25 p0 p1=some r):EE c_Si_25 K_Si_25 (s_Si_25 p0 p1) (Post vf_Si (res_Si r)):=by
 obtain ⟨a,hm⟩|⟨a,hm⟩:=split_ite hm
 ·exact ge (u4 a<|u1 a<|z0) (congrArg res_Si (qj hm)) (by kernel_rfl)
 ·exact ge (v2 a<|wL (rI .i64) p0<|v3 a<|z0) (congrArg res_Si (qj hm)) (by kernel_rfl)
theorem ok_Si_7 (p0:LI) (p1 g:Int) (y) (hm:m_Si_7 p0 p1 g=some y) (Q)
  (hin:∀ s,y=.inl s→EE c_Si_7 K_Si_7 (s_Si_7 p0 p1 s) Q) (hout:∀ e,y=.inr e→O_Si_7 p0 p1 Q e):EE c_Si_7 K_Si_7 (s_Si_7 p0 p1 g) Q:=by
 obtain ⟨b,hm⟩|⟨b,hm⟩:=split_ite hm
 ·obtain ⟨d,a,hm⟩:=bind_some hm
  obtain ⟨c,hm⟩|⟨c,hm⟩:=split_ite hm
  ·have hQ:Q=Post vf_Si (res_Si false):=hout (.inl false) (qj hm).symm
   subst hQ
   exact ge (u1 b<|wO (.row ((rI .i64) d))<|wP (rd_nn a)<|wP (at_row (rI .i64) (rd_get a))<|u3 c<|u1 eT<|z0) (rfl:res_Si false=res_Si false) (by kernel_rfl)
  ·obtain ⟨f,hm⟩|⟨f,hm⟩:=split_ite hm
   ·have hQ:Q=Post vf_Si (res_Si false):=hout (.inl false) (qj hm).symm
    subst hQ
    exact ge (u1 b<|wO (.row ((rI .i64) d))<|wP (rd_nn a)<|wP (at_row (rI .i64) (rd_get a))<|v3 c<|u1 f<|z0) (rfl:res_Si false=res_Si false) (by kernel_rfl)
   ·exact gw (hin _ (qj hm).symm) (u1 b<|wO (.row ((rI .i64) d))<|wP (rd_nn a)<|wP (at_row (rI .i64) (rd_get a))<|v3 c<|v1 f<|z0) (by kernel_rfl)
 ·refine gm c_Si_25 K_Si_25 (s_Si_25 p0 p1) (v1 b<|z0) ?_ (by kernel_rfl)
  exact hout (.inr ()) (qj hm).symm
theorem ok_Si_0 (p0:LI) (p1:Int) (r:Bool) (hm:m_Si_0 p0 p1=some r):EE c_Si_0 K_Si_0 (s_Si_0 p0 p1) (Post vf_Si (res_Si r)):=by
 refine gm c_Si_7 K_Si_7 (s_Si_7 p0 p1 0) (wL (rI .i64) p0<|z0) ?_ (by kernel_rfl)
 obtain ⟨e,he,hm⟩:=bind_some hm
 refine loop_rule (u:=.c c_Si_7) (K:=K_Si_7) (Q:=(Post vf_Si (res_Si r))) (b:=lp_Si_7 p0 p1) (We:=O_Si_7 p0 p1 (Post vf_Si (res_Si r))) (stJ:=fun s=>s_Si_7 p0 p1 s) (s:=0) (fun s y hb hin hout=>ok_Si_7 p0 p1 s y hb (Post vf_Si (res_Si r)) hin hout) he ?_
 rcases e with e | e
 ·exact congrArg (fun r=>Post vf_Si (res_Si r)) (qj hm).symm
 ·show EE c_Si_25 K_Si_25 (s_Si_25 p0 p1) _
  exact ok_Si_25 p0 p1 r hm
theorem ok_Si (p0:LI) (p1:Int) (r:Bool) (hm:m_Si p0 p1=some r):Runs ext tbl 22 (as_Si p0 p1) (res_Si r):=
 runs_of (vf:=vf_Si) (by kernel_rfl) rfl (st:=(enter vf_Si (as_Si p0 p1)).getD default) (by kernel_rfl) (go_on [] 1000 J0 (ok_Si_0 p0 p1 r hm) (by kernel_rfl))
theorem ok_Sj_0 (p0 r:Int) (hm:m_Sj_0 p0=some r):EE c_Sj_0 K_Sj_0 (s_Sj_0 p0) (Post vf_Sj (res_Sj r)):=by
 exact ge (wP (by decide:(16:Int)≠0)<|z0) (congrArg res_Sj (qj hm)) (by kernel_rfl)
theorem ok_Sj (p0 r:Int) (hm:m_Sj p0=some r):Runs ext tbl 23 (as_Sj p0) (res_Sj r):=
 runs_of (vf:=vf_Sj) (by kernel_rfl) rfl (st:=(enter vf_Sj (as_Sj p0)).getD default) (by kernel_rfl) (go_on [] 1000 J0 (ok_Sj_0 p0 r hm) (by kernel_rfl))
theorem ok_Sg_0 (r:LZ) (hm:m_Sg_0=some r):EE c_Sg_0 K_Sg_0 (s_Sg_0) (Post vf_Sg (res_Sg r)):=by
 exact ge (wO (.rows (List.map rZb ([(Zb.mk 4607182418800017408 0),(Zb.mk 4606496786581982534 13823937468626282851),(Zb.mk 4604544271217802189 13827916308072577997),(Zb.mk 4600565431771507043 13829868823436758342),(Zb.mk 0 13830554455654793216),(Zb.mk 13823937468626282851 13829868823436758342),(Zb.mk 13827916308072577997 13827916308072577997),(Zb.mk 13829868823436758342 13823937468626282851)]:LZ)))<|wO (zn 8)<|wO (.rows (List.map rZb ([(Zb.mk 4607182418800017408 0),(Zb.mk 4606496786581982534 13823937468626282851),(Zb.mk 4604544271217802189 13827916308072577997),(Zb.mk 4600565431771507043 13829868823436758342),(Zb.mk 0 13830554455654793216),(Zb.mk 13823937468626282851 13829868823436758342),(Zb.mk 13827916308072577997 13827916308072577997),(Zb.mk 13829868823436758342 13823937468626282851)]:LZ)))<|wP (Eq.refl (List.map rZb ([(Zb.mk 4607182418800017408 0),(Zb.mk 4606496786581982534 13823937468626282851),(Zb.mk 4604544271217802189 13827916308072577997),(Zb.mk 4600565431771507043 13829868823436758342),(Zb.mk 0 13830554455654793216),(Zb.mk 13823937468626282851 13829868823436758342),(Zb.mk 13827916308072577997 13827916308072577997),(Zb.mk 13829868823436758342 13823937468626282851)]:LZ)))<|wP (len_map rZb (show 8=([(Zb.mk 4607182418800017408 0),(Zb.mk 4606496786581982534 13823937468626282851),(Zb.mk 4604544271217802189 13827916308072577997),(Zb.mk 4600565431771507043 13829868823436758342),(Zb.mk 0 13830554455654793216),(Zb.mk 13823937468626282851 13829868823436758342),(Zb.mk 13827916308072577997 13827916308072577997),(Zb.mk 13829868823436758342 13823937468626282851)]:LZ).length from rfl))<|wP (all_le0 rZb ([(Zb.mk 4607182418800017408 0),(Zb.mk 4606496786581982534 13823937468626282851),(Zb.mk 4604544271217802189 13827916308072577997),(Zb.mk 4600565431771507043 13829868823436758342),(Zb.mk 0 13830554455654793216),(Zb.mk 13823937468626282851 13829868823436758342),(Zb.mk 13827916308072577997 13827916308072577997),(Zb.mk 13829868823436758342 13823937468626282851)]:LZ) rfl)<|wP (all_t rZb ([(Zb.mk 4607182418800017408 0),(Zb.mk 4606496786581982534 13823937468626282851),(Zb.mk 4604544271217802189 13827916308072577997),(Zb.mk 4600565431771507043 13829868823436758342),(Zb.mk 0 13830554455654793216),(Zb.mk 13823937468626282851 13829868823436758342),(Zb.mk 13827916308072577997 13827916308072577997),(Zb.mk 13829868823436758342 13823937468626282851)]:LZ) rfl)<|z0) (congrArg res_Sg (qj hm)) (by kernel_rfl)
theorem ok_Sg (r:LZ) (hm:m_Sg=some r):Runs ext tbl 67 (as_Sg) (res_Sg r):=
 runs_of (vf:=vf_Sg) (by kernel_rfl) rfl (st:=(enter vf_Sg (as_Sg)).getD default) (by kernel_rfl) (go_on [] 1000 J0 (ok_Sg_0 r hm) (by kernel_rfl))
def O_Sl_54 (a b:Int) (c:LZ) (Q:VX→St→Prop) (e:(LZ)):Prop:=EE c_Sl_84 K_Sl_84 (s_Sl_84 a b c e) Q
def O_Sl_42 (a:Int) (b:LZ) (Q:VX→St→Prop) (e:(LZ)):Prop:=EE c_Sl_85 K_Sl_85 (s_Sl_85 a b e) Q
def O_Sl_30 (Q:VX→St→Prop) (e:(LZ)):Prop:=EE c_Sl_86 K_Sl_86 (s_Sl_86 e) Q
def O_Sl_11 (a:LZ) (Q:VX→St→Prop) (e:(LZ)):Prop:=EE c_Sl_25 K_Sl_25 (s_Sl_25 a e) Q
theorem ok_Sl_84 (b d:Int) (a c:LZ) (y) (hm:m_Sl_84 b d a c=some y) (Q)
  (hin:∀ s,y=.inl s→EE c_Sl_42 K_Sl_42 (s_Sl_42 b a s.1 s.2) Q) (hout:∀ e,y=.inr e→O_Sl_42 b a Q e):EE c_Sl_84 K_Sl_84 (s_Sl_84 b d a c) Q:=by
 exact gw (hin _ (qj hm).symm) (wN a.length<|wN c.length<|z0) (by kernel_rfl)
theorem ok_Sl_54 (f a:Int) (h:LZ) (b:Int) (c:LZ) (y) (hm:m_Sl_54 f a h b c=some y) (Q)
  (hin:∀ s,y=.inl s→EE c_Sl_54 K_Sl_54 (s_Sl_54 f a h s.1 s.2) Q) (hout:∀ e,y=.inr e→O_Sl_54 f a h Q e):EE c_Sl_54 K_Sl_54 (s_Sl_54 f a h b c) Q:=by
 obtain ⟨m,hm⟩|⟨m,hm⟩:=split_ite hm
 ·obtain ⟨l,k,hm⟩:=bind_some hm
  obtain ⟨r,p,hm⟩:=bind_some hm
  obtain ⟨M,t,hm⟩:=bind_some hm
  obtain ⟨u,q,hm⟩:=bind_some hm
  obtain ⟨v,w,hm⟩:=bind_some hm
  obtain ⟨x,z,hm⟩:=bind_some hm
  obtain ⟨A,B,hm⟩:=bind_some hm
  obtain ⟨C,D,hm⟩:=bind_some hm
  obtain ⟨E,F,hm⟩:=bind_some hm
  obtain ⟨G,H,hm⟩:=bind_some hm
  obtain ⟨d,I,hm⟩:=bind_some hm
  obtain ⟨i,J,hm⟩:=bind_some hm
  obtain ⟨g,K,hm⟩:=bind_some hm
  obtain ⟨j,L,hm⟩:=bind_some hm
  obtain ⟨n,o,hm⟩:=bind_some hm
  exact gw (hin _ (qj hm).symm) (u1 m<|wO (.row (rZb l))<|wO (.row (rZb r))<|wO (.row (rZb u))<|wO (zn v)<|wO (zn x)<|wO (zn A)<|wO (zn C)<|wO (zn E)<|wO (zn G)<|wO (zn d)<|wO (zn i)<|wO (.rows (List.map rZb (c.set (0+Int.toNat (w64 (a+b))) (Zb.mk d l.im))))<|wO (.rows (List.map rZb (c.set (0+Int.toNat (w64 (a+b))) (Zb.mk d i))))<|wO (zn g)<|wO (zn j)<|wO (.rows (List.map rZb ((c.set (0+Int.toNat (w64 (a+b))) (Zb.mk d i)).set (0+Int.toNat (w64 ((w64 (a+b))+f))) (Zb.mk g n.im))))<|wO (.rows (List.map rZb ((c.set (0+Int.toNat (w64 (a+b))) (Zb.mk d i)).set (0+Int.toNat (w64 ((w64 (a+b))+f))) (Zb.mk g j))))<|wO (zn h.length)<|wO (zn (((c.set (0+Int.toNat (w64 (a+b))) (Zb.mk d i)).set (0+Int.toNat (w64 ((w64 (a+b))+f))) (Zb.mk g j)).length))<|wP (rd_in rfl k)<|wP (at_row rZb (rd_get0 k))<|wP (rd_in rfl p)<|wP (at_row rZb (rd_get0 p))<|wP (ck_p t)<|wP (rd_in rfl q)<|wP (at_row rZb (rd_get0 q))<|wP w<|wP z<|wP B<|wP D<|wP F<|wP H<|wP I<|wP J<|wP (rd_in rfl k)<|wP (put_ob rZb (Zb.mk d l.im) 0 (.lit (.float .f64 d)) (rd_get0 k) (by kernel_rfl) (by kernel_rfl))<|wP (put_ob2 rZb (Zb.mk d i) 1 (.lit (.float .f64 i)) (set_at (Zb.mk d l.im) (rd_get0 k)) (by kernel_rfl) (by kernel_rfl))<|wP K<|wP L<|wP (rd_in (set_len rfl) o)<|wP (put_ob rZb (Zb.mk g n.im) 0 (.lit (.float .f64 g)) (rd_get0 o) (by kernel_rfl) (by kernel_rfl))<|wP (put_ob2 rZb (Zb.mk g j) 1 (.lit (.float .f64 j)) (set_at (Zb.mk g n.im) (rd_get0 o)) (by kernel_rfl) (by kernel_rfl))<|wP (ln h.length)<|wP (lens c.length (((c.set (0+Int.toNat (w64 (a+b))) (Zb.mk d i)).set (0+Int.toNat (w64 ((w64 (a+b))+f))) (Zb.mk g j)).length) (set_len (set_len rfl)))<|z0) (by kernel_rfl)
 ·refine gm c_Sl_84 K_Sl_84 (s_Sl_84 f a h c) (v1 m<|wN h.length<|wN c.length<|z0) ?_ (by kernel_rfl)
  exact hout c (qj hm).symm
theorem ok_Sl_85 (c:Int) (a b:LZ) (y) (hm:m_Sl_85 c a b=some y) (Q)
  (hin:∀ s,y=.inl s→EE c_Sl_30 K_Sl_30 (s_Sl_30 a s.1 s.2) Q) (hout:∀ e,y=.inr e→O_Sl_30 Q e):EE c_Sl_85 K_Sl_85 (s_Sl_85 c a b) Q:=by
 exact gw (hin _ (qj hm).symm) (wN a.length<|wN b.length<|z0) (by kernel_rfl)
theorem ok_Sl_42 (d:Int) (a:LZ) (f:Int) (g:LZ) (y) (hm:m_Sl_42 d a f g=some y) (Q)
  (hin:∀ s,y=.inl s→EE c_Sl_42 K_Sl_42 (s_Sl_42 d a s.1 s.2) Q) (hout:∀ e,y=.inr e→O_Sl_42 d a Q e):EE c_Sl_42 K_Sl_42 (s_Sl_42 d a f g) Q:=by
 obtain ⟨h,hm⟩|⟨h,hm⟩:=split_ite hm
 ·refine gm c_Sl_54 K_Sl_54 (s_Sl_54 d f a 0 g) (u1 h<|wN a.length<|wN g.length<|z0) ?_ (by kernel_rfl)
  obtain ⟨e,he,hm⟩:=bind_some hm
  refine loop_rule (u:=.c c_Sl_54) (K:=K_Sl_54) (Q:=Q) (b:=lp_Sl_54 d f a) (We:=O_Sl_54 d f a Q) (stJ:=fun s=>s_Sl_54 d f a s.1 s.2) (s:=(0,g)) (fun s y hb hin hout=>ok_Sl_54 d f a s.1 s.2 y hb Q hin hout) he ?_
  show EE c_Sl_84 K_Sl_84 (s_Sl_84 d f a e) _
  exact ok_Sl_84 d f a e y hm Q hin hout
 ·refine gm c_Sl_85 K_Sl_85 (s_Sl_85 d a g) (v1 h<|wN a.length<|wN g.length<|z0) ?_ (by kernel_rfl)
  exact hout g (qj hm).symm
theorem ok_Sl_86 (a r:LZ) (hm:m_Sl_86 a=some r):EE c_Sl_86 K_Sl_86 (s_Sl_86 a) (Post vf_Sl (res_Sl r)):=by
 exact ge (wR rZb a<|z0) (congrArg res_Sl (qj hm)) (by kernel_rfl)
theorem ok_Sl_30 (a:LZ) (d:Int) (f:LZ) (y) (hm:m_Sl_30 a d f=some y) (Q)
  (hin:∀ s,y=.inl s→EE c_Sl_30 K_Sl_30 (s_Sl_30 a s.1 s.2) Q) (hout:∀ e,y=.inr e→O_Sl_30 Q e):EE c_Sl_30 K_Sl_30 (s_Sl_30 a d f) Q:=by
 obtain ⟨g,hm⟩|⟨g,hm⟩:=split_ite hm
 ·refine gm c_Sl_42 K_Sl_42 (s_Sl_42 d a 0 f) (u1 g<|wN a.length<|wN f.length<|z0) ?_ (by kernel_rfl)
  obtain ⟨e,he,hm⟩:=bind_some hm
  refine loop_rule (u:=.c c_Sl_42) (K:=K_Sl_42) (Q:=Q) (b:=lp_Sl_42 d a) (We:=O_Sl_42 d a Q) (stJ:=fun s=>s_Sl_42 d a s.1 s.2) (s:=(0,f)) (fun s y hb hin hout=>ok_Sl_42 d a s.1 s.2 y hb Q hin hout) he ?_
  show EE c_Sl_85 K_Sl_85 (s_Sl_85 d a e) _
  exact ok_Sl_85 d a e y hm Q hin hout
 ·refine gm c_Sl_86 K_Sl_86 (s_Sl_86 f) (v1 g<|wN f.length<|z0) ?_ (by kernel_rfl)
  exact hout f (qj hm).symm
theorem ok_Sl_25 (a d r:LZ) (hm:m_Sl_25 a d=some r):EE c_Sl_25 K_Sl_25 (s_Sl_25 a d) (Post vf_Sl (res_Sl r)):=by
 refine gm c_Sl_30 K_Sl_30 (s_Sl_30 a 1 d) (wN a.length<|wN d.length<|z0) ?_ (by kernel_rfl)
 obtain ⟨e,he,hm⟩:=bind_some hm
 refine loop_rule (u:=.c c_Sl_30) (K:=K_Sl_30) (Q:=(Post vf_Sl (res_Sl r))) (b:=lp_Sl_30 a) (We:=O_Sl_30 (Post vf_Sl (res_Sl r))) (stJ:=fun s=>s_Sl_30 a s.1 s.2) (s:=(1,d)) (fun s y hb hin hout=>ok_Sl_30 a s.1 s.2 y hb (Post vf_Sl (res_Sl r)) hin hout) he ?_
 show EE c_Sl_86 K_Sl_86 (s_Sl_86 e) _
 exact ok_Sl_86 e r hm
theorem ok_Sl_11 (p0:LI) (c:LZ) (i d:Int) (a:LZ) (y) (hm:m_Sl_11 p0 c i d a=some y) (Q)
  (hin:∀ s,y=.inl s→EE c_Sl_11 K_Sl_11 (s_Sl_11 p0 c s.1 s.2.1 s.2.2) Q) (hout:∀ e,y=.inr e→O_Sl_11 c Q e):EE c_Sl_11 K_Sl_11 (s_Sl_11 p0 c i d a) Q:=by
 obtain ⟨f,hm⟩|⟨f,hm⟩:=split_ite hm
 ·obtain ⟨b,j,hm⟩:=bind_some hm
  obtain ⟨g,h,hm⟩:=bind_some hm
  exact gw (hin _ (qj hm).symm) (u1 f<|wO (.row ((rI .i64) b))<|wO (.rows (List.map rZb (a.set (0+Int.toNat d) (Zb.mk (FloatKind.nearest .f64 b) g.im))))<|wO (.rows (List.map rZb (a.set (0+Int.toNat d) (Zb.mk (FloatKind.nearest .f64 b) 0))))<|wO (zn c.length)<|wO (zn ((a.set (0+Int.toNat d) (Zb.mk (FloatKind.nearest .f64 b) 0)).length))<|wP (by decide:(0:Int)≤3)<|wP (by decide:(0:Int)≤1)<|wP (by decide:(0:Int)≤2)<|wP (by decide:(0:Int)≤2)<|wP (by decide:(0:Int)≤1)<|wP (by decide:(0:Int)≤3)<|wP (rd_nn j)<|wP (at_row (rI .i64) (rd_get j))<|wP (rd_in rfl h)<|wP (put_ob rZb (Zb.mk (FloatKind.nearest .f64 b) g.im) 0 (.lit (.float .f64 (FloatKind.nearest .f64 b))) (rd_get0 h) (by kernel_rfl) (by kernel_rfl))<|wP (put_ob2 rZb (Zb.mk (FloatKind.nearest .f64 b) 0) 1 (.lit (.float .f64 0)) (set_at (Zb.mk (FloatKind.nearest .f64 b) g.im) (rd_get0 h)) (by kernel_rfl) (by kernel_rfl))<|wP (ln c.length)<|wP (lens a.length ((a.set (0+Int.toNat d) (Zb.mk (FloatKind.nearest .f64 b) 0)).length) (set_len rfl))<|z0) (by kernel_rfl)
 ·refine gm c_Sl_25 K_Sl_25 (s_Sl_25 c a) (v1 f<|wN c.length<|wN a.length<|z0) ?_ (by kernel_rfl)
  exact hout a (qj hm).symm
theorem ok_Sl_0 (p0:LI) (r:LZ) (hm:m_Sl_0 p0=some r):EE c_Sl_0 K_Sl_0 (s_Sl_0 p0) (Post vf_Sl (res_Sl r)):=by
 obtain ⟨a,d,hm⟩:=bind_some hm
 obtain ⟨g,f,hm⟩:=bind_some hm
 refine gm c_Sl_11 K_Sl_11 (s_Sl_11 p0 a ((Int.toNat 16):Int) 0 (List.replicate (Int.toNat 16) ((Zb.mk 0 0):Zb))) (wO (.res (res_Sg a))<|wP (ok_Sg  a d)<|wL rZb a<|wO (.rows (List.map rZb (List.replicate (Int.toNat 16) ((Zb.mk 0 0):Zb))))<|wO (zn (Int.toNat 16))<|wP (ck_p f)<|wP (rep_ob rZb (Int.toNat 16) ((Zb.mk 0 0):Zb) [.lit (.float .f64 0),.lit (.float .f64 0)] (by kernel_rfl))<|wP (len_map rZb (show (Int.toNat 16)=(List.replicate (Int.toNat 16) ((Zb.mk 0 0):Zb)).length from (rep_len (Int.toNat 16) ((Zb.mk 0 0):Zb))))<|wN a.length<|wO (zn ((List.replicate (Int.toNat 16) ((Zb.mk 0 0):Zb)).length))<|wP (lens (Int.toNat 16) ((List.replicate (Int.toNat 16) ((Zb.mk 0 0):Zb)).length) (rep_len (Int.toNat 16) ((Zb.mk 0 0):Zb)))<|z0) ?_ (by kernel_rfl)
 obtain ⟨e,he,hm⟩:=bind_some hm
 refine loop_rule (u:=.c c_Sl_11) (K:=K_Sl_11) (Q:=(Post vf_Sl (res_Sl r))) (b:=lp_Sl_11 p0 a) (We:=O_Sl_11 a (Post vf_Sl (res_Sl r))) (stJ:=fun s=>s_Sl_11 p0 a s.1 s.2.1 s.2.2) (s:=(((Int.toNat 16):Int),0,(List.replicate (Int.toNat 16) ((Zb.mk 0 0):Zb)))) (fun s y hb hin hout=>ok_Sl_11 p0 a s.1 s.2.1 s.2.2 y hb (Post vf_Sl (res_Sl r)) hin hout) he ?_
 show EE c_Sl_25 K_Sl_25 (s_Sl_25 a e) _
 exact ok_Sl_25 a e r hm
theorem ok_Sl (p0:LI) (r:LZ) (hm:m_Sl p0=some r):Runs ext tbl 50 (as_Sl p0) (res_Sl r):=
 runs_of (vf:=vf_Sl) (by kernel_rfl) rfl (st:=(enter vf_Sl (as_Sl p0)).getD default) (by kernel_rfl) (go_on [] 1000 J0 (ok_Sl_0 p0 r hm) (by kernel_rfl))
def O_Sh_11 (Q:VX→St→Prop) (e:(LI)):Prop:=EE c_Sh_29 K_Sh_29 (s_Sh_29 e) Q
theorem ok_Sh_29 (a r:LI) (hm:m_Sh_29 a=some r):EE c_Sh_29 K_Sh_29 (s_Sh_29 a) (Post vf_Sh (res_Sh r)):=by
 exact ge (wR (rI .i64) a<|z0) (congrArg res_Sh (qj hm)) (by kernel_rfl)
theorem ok_Sh_11 (d:LZ) (i f:Int) (a:LI) (y) (hm:m_Sh_11 d i f a=some y) (Q)
  (hin:∀ s,y=.inl s→EE c_Sh_11 K_Sh_11 (s_Sh_11 d s.1 s.2.1 s.2.2) Q) (hout:∀ e,y=.inr e→O_Sh_11 Q e):EE c_Sh_11 K_Sh_11 (s_Sh_11 d i f a) Q:=by
 obtain ⟨h,hm⟩|⟨h,hm⟩:=split_ite hm
 ·obtain ⟨g,b,hm⟩:=bind_some hm
  obtain ⟨k,l,hm⟩:=bind_some hm
  obtain ⟨m,n,hm⟩:=bind_some hm
  obtain ⟨o,p,hm⟩:=bind_some hm
  obtain ⟨q,r,hm⟩:=bind_some hm
  obtain ⟨c,t,hm⟩:=bind_some hm
  obtain ⟨u,j,hm⟩:=bind_some hm
  exact gw (hin _ (qj hm).symm) (u1 h<|wO (.row (rZb g))<|wO (.row (rZb g))<|wO (zn k)<|wO (.row (rZb g))<|wO (.row (rZb g))<|wO (zn m)<|wO (zn o)<|wO (zn q)<|wO (.int c)<|wO (.rows (mi (a.set (0+Int.toNat f) c)))<|wO (zn d.length)<|wO (zn ((a.set (0+Int.toNat f) c).length))<|wP (rd_in rfl b)<|wP (at_row rZb (rd_get0 b))<|wP (rd_in rfl b)<|wP (at_row rZb (rd_get0 b))<|wP l<|wP (rd_in rfl b)<|wP (at_row rZb (rd_get0 b))<|wP (rd_in rfl b)<|wP (at_row rZb (rd_get0 b))<|wP n<|wP p<|wP r<|wP t<|wP (rd_in rfl j)<|wP (put_ob (rI .i64) c 0 (.lit (vI c)) (rd_get0 j) (by kernel_rfl) (by kernel_rfl))<|wP (ln d.length)<|wP (lens a.length ((a.set (0+Int.toNat f) c).length) (set_len rfl))<|z0) (by kernel_rfl)
 ·refine gm c_Sh_29 K_Sh_29 (s_Sh_29 a) (v1 h<|wN a.length<|z0) ?_ (by kernel_rfl)
  exact hout a (qj hm).symm
theorem ok_Sh_0 (p0 r:LI) (hm:m_Sh_0 p0=some r):EE c_Sh_0 K_Sh_0 (s_Sh_0 p0) (Post vf_Sh (res_Sh r)):=by
 obtain ⟨a,d,hm⟩:=bind_some hm
 obtain ⟨g,f,hm⟩:=bind_some hm
 refine gm c_Sh_11 K_Sh_11 (s_Sh_11 a ((Int.toNat 8):Int) 0 (List.replicate (Int.toNat 8) (0:Int))) (wO (.res (res_Sl a))<|wP (ok_Sl p0 a d)<|wL rZb a<|wO (.rows (mi (List.replicate (Int.toNat 8) (0:Int))))<|wO (zn (Int.toNat 8))<|wP (ck_p f)<|wP (rep_ob (rI .i64) (Int.toNat 8) (0:Int) [.lit (vI 0)] (by kernel_rfl))<|wP (len_map (rI .i64) (show (Int.toNat 8)=(List.replicate (Int.toNat 8) (0:Int)).length from (rep_len (Int.toNat 8) (0:Int))))<|wN a.length<|wO (zn ((List.replicate (Int.toNat 8) (0:Int)).length))<|wP (lens (Int.toNat 8) ((List.replicate (Int.toNat 8) (0:Int)).length) (rep_len (Int.toNat 8) (0:Int)))<|z0) ?_ (by kernel_rfl)
 obtain ⟨e,he,hm⟩:=bind_some hm
 refine loop_rule (u:=.c c_Sh_11) (K:=K_Sh_11) (Q:=(Post vf_Sh (res_Sh r))) (b:=lp_Sh_11 a) (We:=O_Sh_11 (Post vf_Sh (res_Sh r))) (stJ:=fun s=>s_Sh_11 a s.1 s.2.1 s.2.2) (s:=(((Int.toNat 8):Int),0,(List.replicate (Int.toNat 8) (0:Int)))) (fun s y hb hin hout=>ok_Sh_11 a s.1 s.2.1 s.2.2 y hb (Post vf_Sh (res_Sh r)) hin hout) he ?_
 show EE c_Sh_29 K_Sh_29 (s_Sh_29 e) _
 exact ok_Sh_29 e r hm
theorem ok_Sh (p0 r:LI) (hm:m_Sh p0=some r):Runs ext tbl 24 (as_Sh p0) (res_Sh r):=
 runs_of (vf:=vf_Sh) (by kernel_rfl) rfl (st:=(enter vf_Sh (as_Sh p0)).getD default) (by kernel_rfl) (go_on [] 1000 J0 (ok_Sh_0 p0 r hm) (by kernel_rfl))
def O_Sa_15 (p1:Int) (Q:VX→St→Prop) (e:(Int)):Prop:=EE c_Sa_25 K_Sa_25 (s_Sa_25 p1 e) Q
theorem ok_Sa_25 (p1 c r:Int) (hm:m_Sa_25 p1 c=some r):EE c_Sa_25 K_Sa_25 (s_Sa_25 p1 c) (Post vf_Sa (res_Sa r)):=by
 obtain ⟨a,hm⟩|⟨a,hm⟩:=split_ite hm
 ·exact ge (wP (by decide:(2:Int)≠0)<|u1 a<|z0) (congrArg res_Sa (qj hm)) (by kernel_rfl)
 ·obtain ⟨b,hm⟩|⟨b,hm⟩:=split_ite hm
  ·exact ge (wP (by decide:(2:Int)≠0)<|v1 a<|u1 b<|z0) (congrArg res_Sa (qj hm)) (by kernel_rfl)
  ·exact ge (wP (by decide:(2:Int)≠0)<|v1 a<|v1 b<|z0) (congrArg res_Sa (qj hm)) (by kernel_rfl)
theorem ok_Sa_15 (p1 c a:Int) (y) (hm:m_Sa_15 p1 c a=some y) (Q)
  (hin:∀ s,y=.inl s→EE c_Sa_15 K_Sa_15 (s_Sa_15 p1 s.1 s.2) Q) (hout:∀ e,y=.inr e→O_Sa_15 p1 Q e):EE c_Sa_15 K_Sa_15 (s_Sa_15 p1 c a) Q:=by
 obtain ⟨b,hm⟩|⟨b,hm⟩:=split_ite hm
 ·exact gw (hin _ (qj hm).symm) (u1 b<|wP (by decide:(2:Int)≠0)<|z0) (by kernel_rfl)
 ·refine gm c_Sa_25 K_Sa_25 (s_Sa_25 p1 a) (v1 b<|z0) ?_ (by kernel_rfl)
  exact hout a (qj hm).symm
theorem ok_Sa_0 (p0 p1 r:Int) (hm:m_Sa_0 p0 p1=some r):EE c_Sa_0 K_Sa_0 (s_Sa_0 p0 p1) (Post vf_Sa (res_Sa r)):=by
 obtain ⟨a,hm⟩|⟨a,hm⟩:=split_ite hm
 ·exact ge (u3 a<|u4 eT<|z0) (congrArg res_Sa (qj hm)) (by kernel_rfl)
 ·obtain ⟨d,hm⟩|⟨d,hm⟩:=split_ite hm
  ·exact ge (v3 a<|u3 d<|u1 eT<|z0) (congrArg res_Sa (qj hm)) (by kernel_rfl)
  ·obtain ⟨f,hm⟩|⟨f,hm⟩:=split_ite hm
   ·exact ge (v3 a<|v3 d<|u1 f<|z0) (congrArg res_Sa (qj hm)) (by kernel_rfl)
   ·refine gm c_Sa_15 K_Sa_15 (s_Sa_15 p1 p0 0) (v3 a<|v3 d<|v1 f<|z0) ?_ (by kernel_rfl)
    obtain ⟨e,he,hm⟩:=bind_some hm
    refine loop_rule (u:=.c c_Sa_15) (K:=K_Sa_15) (Q:=(Post vf_Sa (res_Sa r))) (b:=lp_Sa_15 p1) (We:=O_Sa_15 p1 (Post vf_Sa (res_Sa r))) (stJ:=fun s=>s_Sa_15 p1 s.1 s.2) (s:=(p0,0)) (fun s y hb hin hout=>ok_Sa_15 p1 s.1 s.2 y hb (Post vf_Sa (res_Sa r)) hin hout) he ?_
    show EE c_Sa_25 K_Sa_25 (s_Sa_25 p1 e) _
    exact ok_Sa_25 p1 e r hm
theorem ok_Sa (p0 p1 r:Int) (hm:m_Sa p0 p1=some r):Runs ext tbl 25 (as_Sa p0 p1) (res_Sa r):=
 runs_of (vf:=vf_Sa) (by kernel_rfl) rfl (st:=(enter vf_Sa (as_Sa p0 p1)).getD default) (by kernel_rfl) (go_on [] 1000 J0 (ok_Sa_0 p0 p1 r hm) (by kernel_rfl))
theorem ok_Sk_0 (r:LI) (hm:m_Sk_0=some r):EE c_Sk_0 K_Sk_0 (s_Sk_0) (Post vf_Sk (res_Sk r)):=by
 exact ge (wO (.rows (mi ([16384,16364,16305,16207,16069,15893,15679,15426,15137,14811,14449,14053,13623,13160,12665,12140,11585,11003,10394,9760,9102,8423,7723,7005,6270,5520,4756,3981,3196,2404,1606,804,0]:LI)))<|wO (zn 33)<|wO (.rows (mi ([16384,16364,16305,16207,16069,15893,15679,15426,15137,14811,14449,14053,13623,13160,12665,12140,11585,11003,10394,9760,9102,8423,7723,7005,6270,5520,4756,3981,3196,2404,1606,804,0]:LI)))<|wP (Eq.refl (mi ([16384,16364,16305,16207,16069,15893,15679,15426,15137,14811,14449,14053,13623,13160,12665,12140,11585,11003,10394,9760,9102,8423,7723,7005,6270,5520,4756,3981,3196,2404,1606,804,0]:LI)))<|wP (len_map (rI .i64) (show 33=([16384,16364,16305,16207,16069,15893,15679,15426,15137,14811,14449,14053,13623,13160,12665,12140,11585,11003,10394,9760,9102,8423,7723,7005,6270,5520,4756,3981,3196,2404,1606,804,0]:LI).length from rfl))<|wP (all_le0 (rI .i64) ([16384,16364,16305,16207,16069,15893,15679,15426,15137,14811,14449,14053,13623,13160,12665,12140,11585,11003,10394,9760,9102,8423,7723,7005,6270,5520,4756,3981,3196,2404,1606,804,0]:LI) rfl)<|wP (all_t (rI .i64) ([16384,16364,16305,16207,16069,15893,15679,15426,15137,14811,14449,14053,13623,13160,12665,12140,11585,11003,10394,9760,9102,8423,7723,7005,6270,5520,4756,3981,3196,2404,1606,804,0]:LI) rfl)<|z0) (congrArg res_Sk (qj hm)) (by kernel_rfl)
theorem ok_Sk (r:LI) (hm:m_Sk=some r):Runs ext tbl 51 (as_Sk) (res_Sk r):=
 runs_of (vf:=vf_Sk) (by kernel_rfl) rfl (st:=(enter vf_Sk (as_Sk)).getD default) (by kernel_rfl) (go_on [] 1000 J0 (ok_Sk_0 r hm) (by kernel_rfl))
theorem ok_Sd_0 (p0:LI) (p1 r:Int) (hm:m_Sd_0 p0 p1=some r):EE c_Sd_0 K_Sd_0 (s_Sd_0 p0 p1) (Post vf_Sd (res_Sd r)):=by
 obtain ⟨c,hm⟩|⟨c,hm⟩:=split_ite hm
 ·obtain ⟨f,a,hm⟩:=bind_some hm
  exact ge (u1 c<|wO (.row ((rI .i64) f))<|wP (rd_nn a)<|wP (at_row (rI .i64) (rd_get a))<|z0) (congrArg res_Sd (qj hm)) (by kernel_rfl)
 ·obtain ⟨a,hm⟩|⟨a,hm⟩:=split_ite hm
  ·obtain ⟨g,b,hm⟩:=bind_some hm
   exact ge (v1 c<|u1 a<|wO (.row ((rI .i64) g))<|wP (rd_nn b)<|wP (at_row (rI .i64) (rd_get b))<|z0) (congrArg res_Sd (qj hm)) (by kernel_rfl)
  ·obtain ⟨b,hm⟩|⟨b,hm⟩:=split_ite hm
   ·obtain ⟨e,d,hm⟩:=bind_some hm
    exact ge (v1 c<|v1 a<|u1 b<|wO (.row ((rI .i64) e))<|wP (rd_nn d)<|wP (at_row (rI .i64) (rd_get d))<|z0) (congrArg res_Sd (qj hm)) (by kernel_rfl)
   ·obtain ⟨e,d,hm⟩:=bind_some hm
    exact ge (v1 c<|v1 a<|v1 b<|wO (.row ((rI .i64) e))<|wP (rd_nn d)<|wP (at_row (rI .i64) (rd_get d))<|z0) (congrArg res_Sd (qj hm)) (by kernel_rfl)
theorem ok_Sd (p0:LI) (p1 r:Int) (hm:m_Sd p0 p1=some r):Runs ext tbl 53 (as_Sd p0 p1) (res_Sd r):=
 runs_of (vf:=vf_Sd) (by kernel_rfl) rfl (st:=(enter vf_Sd (as_Sd p0 p1)).getD default) (by kernel_rfl) (go_on [] 1000 J0 (ok_Sd_0 p0 p1 r hm) (by kernel_rfl))
def O_Sc_11 (Q:VX→St→Prop) (e:(LI)):Prop:=EE c_Sc_23 K_Sc_23 (s_Sc_23 e) Q
theorem ok_Sc_23 (a r:LI) (hm:m_Sc_23 a=some r):EE c_Sc_23 K_Sc_23 (s_Sc_23 a) (Post vf_Sc (res_Sc r)):=by
 exact ge (wR (rI .i64) a<|z0) (congrArg res_Sc (qj hm)) (by kernel_rfl)
theorem ok_Sc_11 (b:LI) (g d:Int) (a:LI) (y) (hm:m_Sc_11 b g d a=some y) (Q)
  (hin:∀ s,y=.inl s→EE c_Sc_11 K_Sc_11 (s_Sc_11 b s.1 s.2.1 s.2.2) Q) (hout:∀ e,y=.inr e→O_Sc_11 Q e):EE c_Sc_11 K_Sc_11 (s_Sc_11 b g d a) Q:=by
 obtain ⟨f,hm⟩|⟨f,hm⟩:=split_ite hm
 ·obtain ⟨c,i,hm⟩:=bind_some hm
  obtain ⟨j,h,hm⟩:=bind_some hm
  exact gw (hin _ (qj hm).symm) (u1 f<|wO (zi b)<|wO (.res (res_Sd c))<|wO (.rows (mi (a.set (0+Int.toNat d) c)))<|wP (all_le (rI .i64) b rfl)<|wP (all_dt (rI .i64) b rfl)<|wP (ok_Sd b (w64 (31 - (w64 (2*d)))) c i)<|wP (rd_in rfl h)<|wP (put_ob (rI .i64) c 0 (.lit (vI c)) (rd_get0 h) (by kernel_rfl) (by kernel_rfl))<|wN b.length<|wO (zn ((a.set (0+Int.toNat d) c).length))<|wP (lens a.length ((a.set (0+Int.toNat d) c).length) (set_len rfl))<|z0) (by kernel_rfl)
 ·refine gm c_Sc_23 K_Sc_23 (s_Sc_23 a) (v1 f<|wN a.length<|z0) ?_ (by kernel_rfl)
  exact hout a (qj hm).symm
theorem ok_Sc_0 (r:LI) (hm:m_Sc_0=some r):EE c_Sc_0 K_Sc_0 (s_Sc_0) (Post vf_Sc (res_Sc r)):=by
 obtain ⟨a,d,hm⟩:=bind_some hm
 obtain ⟨g,f,hm⟩:=bind_some hm
 refine gm c_Sc_11 K_Sc_11 (s_Sc_11 a ((Int.toNat 32):Int) 0 (List.replicate (Int.toNat 32) (0:Int))) (wO (.res (res_Sk a))<|wP (ok_Sk  a d)<|wL (rI .i64) a<|wO (.rows (mi (List.replicate (Int.toNat 32) (0:Int))))<|wO (zn (Int.toNat 32))<|wP (ck_p f)<|wP (rep_ob (rI .i64) (Int.toNat 32) (0:Int) [.lit (vI 0)] (by kernel_rfl))<|wP (len_map (rI .i64) (show (Int.toNat 32)=(List.replicate (Int.toNat 32) (0:Int)).length from (rep_len (Int.toNat 32) (0:Int))))<|wN a.length<|wO (zn ((List.replicate (Int.toNat 32) (0:Int)).length))<|wP (lens (Int.toNat 32) ((List.replicate (Int.toNat 32) (0:Int)).length) (rep_len (Int.toNat 32) (0:Int)))<|z0) ?_ (by kernel_rfl)
 obtain ⟨e,he,hm⟩:=bind_some hm
 refine loop_rule (u:=.c c_Sc_11) (K:=K_Sc_11) (Q:=(Post vf_Sc (res_Sc r))) (b:=lp_Sc_11 a) (We:=O_Sc_11 (Post vf_Sc (res_Sc r))) (stJ:=fun s=>s_Sc_11 a s.1 s.2.1 s.2.2) (s:=(((Int.toNat 32):Int),0,(List.replicate (Int.toNat 32) (0:Int)))) (fun s y hb hin hout=>ok_Sc_11 a s.1 s.2.1 s.2.2 y hb (Post vf_Sc (res_Sc r)) hin hout) he ?_
 show EE c_Sc_23 K_Sc_23 (s_Sc_23 e) _
 exact ok_Sc_23 e r hm
theorem ok_Sc (r:LI) (hm:m_Sc=some r):Runs ext tbl 52 (as_Sc) (res_Sc r):=
 runs_of (vf:=vf_Sc) (by kernel_rfl) rfl (st:=(enter vf_Sc (as_Sc)).getD default) (by kernel_rfl) (go_on [] 1000 J0 (ok_Sc_0 r hm) (by kernel_rfl))
def O_Sf_53 (a b:Int) (c d f:LI) (Q:VX→St→Prop) (e:(Int)):Prop:=EE c_Sf_65 K_Sf_65 (s_Sf_65 a b c d f e) Q
def O_Sf_36 (Q:VX→St→Prop) (e:(LI)):Prop:=EE c_Sf_67 K_Sf_67 (s_Sf_67 e) Q
def O_Sf_17 (a:LI) (Q:VX→St→Prop) (e:(LI)):Prop:=EE c_Sf_29 K_Sf_29 (s_Sf_29 a e) Q
theorem ok_Sf_65 (c g:Int) (d f b:LI) (a:Int) (y) (hm:m_Sf_65 c g d f b a=some y) (Q)
  (hin:∀ s,y=.inl s→EE c_Sf_36 K_Sf_36 (s_Sf_36 d f s.1 s.2.1 s.2.2) Q) (hout:∀ e,y=.inr e→O_Sf_36 Q e):EE c_Sf_65 K_Sf_65 (s_Sf_65 c g d f b a) Q:=by
 obtain ⟨i,h,hm⟩:=bind_some hm
 exact gw (hin _ (qj hm).symm) (wO (.rows (mi (b.set (0+Int.toNat c) (shrI .i64 a 14))))<|wP (by decide:(0:Int)≤14)<|wP (rd_in rfl h)<|wP (put_ob (rI .i64) (shrI .i64 a 14) 0 (.lit (vI (shrI .i64 a 14))) (rd_get0 h) (by kernel_rfl) (by kernel_rfl))<|wN d.length<|wN f.length<|wO (zn ((b.set (0+Int.toNat c) (shrI .i64 a 14)).length))<|wP (lens b.length ((b.set (0+Int.toNat c) (shrI .i64 a 14)).length) (set_len rfl))<|z0) (by kernel_rfl)
theorem ok_Sf_53 (d f:Int) (b a c:LI) (g h:Int) (y) (hm:m_Sf_53 d f b a c g h=some y) (Q)
  (hin:∀ s,y=.inl s→EE c_Sf_53 K_Sf_53 (s_Sf_53 d f b a c s.1 s.2) Q) (hout:∀ e,y=.inr e→O_Sf_53 d f a b c Q e):EE c_Sf_53 K_Sf_53 (s_Sf_53 d f b a c g h) Q:=by
 obtain ⟨i,hm⟩|⟨i,hm⟩:=split_ite hm
 ·obtain ⟨l,j,hm⟩:=bind_some hm
  obtain ⟨k,m,hm⟩:=bind_some hm
  exact gw (hin _ (qj hm).symm) (u1 i<|wO (.row ((rI .i64) l))<|wO (zi a)<|wO (.res (res_Sd k))<|wP (rd_in rfl j)<|wP (at_row (rI .i64) (rd_get0 j))<|wP (all_le (rI .i64) a rfl)<|wP (all_dt (rI .i64) a rfl)<|wP (ok_Sd a (w64 ((w64 ((w64 (2*h))+17))*(w64 ((w64 (2*d))+1)))) k m)<|wK a.length b.length c.length<|z0) (by kernel_rfl)
 ·refine gm c_Sf_65 K_Sf_65 (s_Sf_65 d f a b c g) (v1 i<|wK a.length b.length c.length<|z0) ?_ (by kernel_rfl)
  exact hout g (qj hm).symm
theorem ok_Sf_67 (a r:LI) (hm:m_Sf_67 a=some r):EE c_Sf_67 K_Sf_67 (s_Sf_67 a) (Post vf_Sf (res_Sf r)):=by
 exact ge (wR (rI .i64) a<|z0) (congrArg res_Sf (qj hm)) (by kernel_rfl)
theorem ok_Sf_36 (d f:LI) (g h:Int) (a:LI) (y) (hm:m_Sf_36 d f g h a=some y) (Q)
  (hin:∀ s,y=.inl s→EE c_Sf_36 K_Sf_36 (s_Sf_36 d f s.1 s.2.1 s.2.2) Q) (hout:∀ e,y=.inr e→O_Sf_36 Q e):EE c_Sf_36 K_Sf_36 (s_Sf_36 d f g h a) Q:=by
 obtain ⟨i,hm⟩|⟨i,hm⟩:=split_ite hm
 ·refine gm c_Sf_53 K_Sf_53 (s_Sf_53 h g f d a 8192 0) (u1 i<|wK d.length f.length a.length<|z0) ?_ (by kernel_rfl)
  obtain ⟨e,he,hm⟩:=bind_some hm
  refine loop_rule (u:=.c c_Sf_53) (K:=K_Sf_53) (Q:=Q) (b:=lp_Sf_53 h g f d a) (We:=O_Sf_53 h g d f a Q) (stJ:=fun s=>s_Sf_53 h g f d a s.1 s.2) (s:=(8192,0)) (fun s y hb hin hout=>ok_Sf_53 h g f d a s.1 s.2 y hb Q hin hout) he ?_
  show EE c_Sf_65 K_Sf_65 (s_Sf_65 h g d f a e) _
  exact ok_Sf_65 h g d f a e y hm Q hin hout
 ·refine gm c_Sf_67 K_Sf_67 (s_Sf_67 a) (v1 i<|wN a.length<|z0) ?_ (by kernel_rfl)
  exact hout a (qj hm).symm
theorem ok_Sf_29 (a d r:LI) (hm:m_Sf_29 a d=some r):EE c_Sf_29 K_Sf_29 (s_Sf_29 a d) (Post vf_Sf (res_Sf r)):=by
 obtain ⟨g,f,hm⟩:=bind_some hm
 refine gm c_Sf_36 K_Sf_36 (s_Sf_36 a d ((Int.toNat 16):Int) 0 (List.replicate (Int.toNat 16) (0:Int))) (wO (.rows (mi (List.replicate (Int.toNat 16) (0:Int))))<|wO (zn (Int.toNat 16))<|wP (ck_p f)<|wP (rep_ob (rI .i64) (Int.toNat 16) (0:Int) [.lit (vI 0)] (by kernel_rfl))<|wP (len_map (rI .i64) (show (Int.toNat 16)=(List.replicate (Int.toNat 16) (0:Int)).length from (rep_len (Int.toNat 16) (0:Int))))<|wN a.length<|wN d.length<|wO (zn ((List.replicate (Int.toNat 16) (0:Int)).length))<|wP (lens (Int.toNat 16) ((List.replicate (Int.toNat 16) (0:Int)).length) (rep_len (Int.toNat 16) (0:Int)))<|z0) ?_ (by kernel_rfl)
 obtain ⟨e,he,hm⟩:=bind_some hm
 refine loop_rule (u:=.c c_Sf_36) (K:=K_Sf_36) (Q:=(Post vf_Sf (res_Sf r))) (b:=lp_Sf_36 a d) (We:=O_Sf_36 (Post vf_Sf (res_Sf r))) (stJ:=fun s=>s_Sf_36 a d s.1 s.2.1 s.2.2) (s:=(((Int.toNat 16):Int),0,(List.replicate (Int.toNat 16) (0:Int)))) (fun s y hb hin hout=>ok_Sf_36 a d s.1 s.2.1 s.2.2 y hb (Post vf_Sf (res_Sf r)) hin hout) he ?_
 show EE c_Sf_67 K_Sf_67 (s_Sf_67 e) _
 exact ok_Sf_67 e r hm
theorem ok_Sf_17 (b f:LI) (j g:Int) (a:LI) (y) (hm:m_Sf_17 b f j g a=some y) (Q)
  (hin:∀ s,y=.inl s→EE c_Sf_17 K_Sf_17 (s_Sf_17 b f s.1 s.2.1 s.2.2) Q) (hout:∀ e,y=.inr e→O_Sf_17 b Q e):EE c_Sf_17 K_Sf_17 (s_Sf_17 b f j g a) Q:=by
 obtain ⟨i,hm⟩|⟨i,hm⟩:=split_ite hm
 ·obtain ⟨c,h,hm⟩:=bind_some hm
  obtain ⟨d,k,hm⟩:=bind_some hm
  exact gw (hin _ (qj hm).symm) (u1 i<|wO (.row ((rI .i64) c))<|wO (.row ((rI .i64) d))<|wO (.rows (mi (a.set (0+Int.toNat g) (shrI .i64 (w64 ((w64 (c*d))+8192)) 14))))<|wO (zn b.length)<|wO (zn f.length)<|wO (zn ((a.set (0+Int.toNat g) (shrI .i64 (w64 ((w64 (c*d))+8192)) 14)).length))<|wP (rd_in rfl h)<|wP (at_row (rI .i64) (rd_get0 h))<|wP (rd_in rfl k)<|wP (at_row (rI .i64) (rd_get0 k))<|wP (by decide:(0:Int)≤14)<|wP (rd_in rfl h)<|wP (put_ob (rI .i64) (shrI .i64 (w64 ((w64 (c*d))+8192)) 14) 0 (.lit (vI (shrI .i64 (w64 ((w64 (c*d))+8192)) 14))) (rd_get0 h) (by kernel_rfl) (by kernel_rfl))<|wP (ln b.length)<|wP (ln f.length)<|wP (lens a.length ((a.set (0+Int.toNat g) (shrI .i64 (w64 ((w64 (c*d))+8192)) 14)).length) (set_len rfl))<|z0) (by kernel_rfl)
 ·refine gm c_Sf_29 K_Sf_29 (s_Sf_29 b a) (v1 i<|wN b.length<|wN a.length<|z0) ?_ (by kernel_rfl)
  exact hout a (qj hm).symm
theorem ok_Sf_0 (p0 p1 r:LI) (hm:m_Sf_0 p0 p1=some r):EE c_Sf_0 K_Sf_0 (s_Sf_0 p0 p1) (Post vf_Sf (res_Sf r)):=by
 obtain ⟨a,f,hm⟩:=bind_some hm
 obtain ⟨d,g,hm⟩:=bind_some hm
 obtain ⟨j,h,hm⟩:=bind_some hm
 obtain ⟨k,i,hm⟩:=bind_some hm
 refine gm c_Sf_17 K_Sf_17 (s_Sf_17 a d (((([]:LI)++p0)++p1).length:Int) 0 ((([]:LI)++p0)++p1)) (wO (.res (res_Sk a))<|wP (ok_Sk  a f)<|wL (rI .i64) a<|wO (.res (res_Sc d))<|wP (ok_Sc  d g)<|wL (rI .i64) d<|wO (.rows (mi (([]:LI)++p0)))<|wO (zn ((([]:LI)++p0).length))<|wO (.rows (mi ((([]:LI)++p0)++p1)))<|wO (zn (((([]:LI)++p0)++p1).length))<|wO (zn a.length)<|wO (zn d.length)<|wO (zn (((([]:LI)++p0)++p1).length))<|wP (app_ck_ro (rI .i64) ([]:LI) p0 rfl h)<|wP (app_tell_ro (rI .i64) ([]:LI) p0 rfl)<|wP (len_map (rI .i64) (show (([]:LI)++p0).length=(([]:LI)++p0).length from rfl))<|wP (app_ck_ro (rI .i64) (([]:LI)++p0) p1 rfl i)<|wP (app_tell_ro (rI .i64) (([]:LI)++p0) p1 rfl)<|wP (len_map (rI .i64) (show ((([]:LI)++p0)++p1).length=((([]:LI)++p0)++p1).length from rfl))<|wP (ln a.length)<|wP (ln d.length)<|wP (lens (((([]:LI)++p0)++p1).length) (((([]:LI)++p0)++p1).length) rfl)<|z0) ?_ (by kernel_rfl)
 obtain ⟨e,he,hm⟩:=bind_some hm
 refine loop_rule (u:=.c c_Sf_17) (K:=K_Sf_17) (Q:=(Post vf_Sf (res_Sf r))) (b:=lp_Sf_17 a d) (We:=O_Sf_17 a (Post vf_Sf (res_Sf r))) (stJ:=fun s=>s_Sf_17 a d s.1 s.2.1 s.2.2) (s:=((((([]:LI)++p0)++p1).length:Int),0,((([]:LI)++p0)++p1))) (fun s y hb hin hout=>ok_Sf_17 a d s.1 s.2.1 s.2.2 y hb (Post vf_Sf (res_Sf r)) hin hout) he ?_
 show EE c_Sf_29 K_Sf_29 (s_Sf_29 a e) _
 exact ok_Sf_29 a e r hm
theorem ok_Sf (p0 p1 r:LI) (hm:m_Sf p0 p1=some r):Runs ext tbl 26 (as_Sf p0 p1) (res_Sf r):=
 runs_of (vf:=vf_Sf) (by kernel_rfl) rfl (st:=(enter vf_Sf (as_Sf p0 p1)).getD default) (by kernel_rfl) (go_on [] 1000 J0 (ok_Sf_0 p0 p1 r hm) (by kernel_rfl))
def O_Sb_78 (p1 a b p0:Int) (p2 c d:LI) (f:(List LI)) (g:(List LI)) (Q:VX→St→Prop) (e:(LI)):Prop:=EE c_Sb_96 K_Sb_96 (s_Sb_96 p1 a b p0 p2 c d f g e) Q
def O_Sb_59 (p1 a b p0:Int) (p2 c:LI) (d:(List LI)) (f:(List LI)) (Q:VX→St→Prop) (e:(Nat×Nat×LI×Nat×Nat)):Prop:=EE c_Sb_71 K_Sb_71 (s_Sb_71 p1 a b p0 p2 c d f e.1 e.2.1 e.2.2.1 e.2.2.2.1 e.2.2.2.2) Q
def O_Sb_38 (p0 p1:Int) (p2:LI) (Q:VX→St→Prop) (e:((List LI)×(List LI))):Prop:=EE c_Sb_100 K_Sb_100 (s_Sb_100 p0 p1 p2 e.1 e.2) Q
def O_Sb_21 (p1 a p0:Int) (p2:LI) (Q:VX→St→Prop) (e:(LI)):Prop:=EE c_Sb_33 K_Sb_33 (s_Sb_33 p1 a p0 p2 e) Q
theorem ok_Sb_96 (p1 g h p0:Int) (p2 f a:LI) (c:(List LI)) (d:(List LI)) (b:LI) (y) (hm:m_Sb_96 p1 g h p0 p2 f a c d b=some y) (Q)
  (hin:∀ s,y=.inl s→EE c_Sb_38 K_Sb_38 (s_Sb_38 p1 g p0 p2 f s.1 s.2.1 s.2.2) Q) (hout:∀ e,y=.inr e→O_Sb_38 p0 p1 p2 Q e):EE c_Sb_96 K_Sb_96 (s_Sb_96 p1 g h p0 p2 f a c d b) Q:=by
 obtain ⟨k,i,hm⟩:=bind_some hm
 obtain ⟨l,j,hm⟩:=bind_some hm
 exact gw (hin _ (qj hm).symm) (wR (rI .i64) b<|wO (.rows (List.map (rL (rI .i64)) ([b]:List LI)))<|wO (zn 1)<|wO (.rows (List.map (rL (rI .i64)) (c++([b]:List LI))))<|wO (zn ((c++([b]:List LI)).length))<|wO (zi a)<|wO (.rows (List.map (rL (rI .i64)) ([a]:List LI)))<|wO (zn 1)<|wO (.rows (List.map (rL (rI .i64)) (d++([a]:List LI))))<|wO (zn ((d++([a]:List LI)).length))<|wO (zn f.length)<|wO (zn (([]:List LI).length))<|wO (zn (([]:List LI).length))<|wO (zn ((c++([b]:List LI)).length))<|wO (zn ((d++([a]:List LI)).length))<|wP (Eq.refl (List.map (rL (rI .i64)) ([b]:List LI)))<|wP (len_map (rL (rI .i64)) (show 1=([b]:List LI).length from rfl))<|wP (all_eq (rL (rI .i64)) ([b]:List LI) rfl)<|wP (all_le (rL (rI .i64)) ([b]:List LI) rfl)<|wP (app_ck_ro (rL (rI .i64)) c ([b]:List LI) rfl i)<|wP (app_tell_ro (rL (rI .i64)) c ([b]:List LI) rfl)<|wP (len_map (rL (rI .i64)) (show (c++([b]:List LI)).length=(c++([b]:List LI)).length from rfl))<|wA (rI .i64) a<|wP (Eq.refl (List.map (rL (rI .i64)) ([a]:List LI)))<|wP (len_map (rL (rI .i64)) (show 1=([a]:List LI).length from rfl))<|wP (all_eq (rL (rI .i64)) ([a]:List LI) rfl)<|wP (all_le (rL (rI .i64)) ([a]:List LI) rfl)<|wP (app_ck_ro (rL (rI .i64)) d ([a]:List LI) rfl j)<|wP (app_tell_ro (rL (rI .i64)) d ([a]:List LI) rfl)<|wP (len_map (rL (rI .i64)) (show (d++([a]:List LI)).length=(d++([a]:List LI)).length from rfl))<|wP (ln f.length)<|wP (lens (([]:List LI).length) (([]:List LI).length) rfl)<|wP (lens (([]:List LI).length) (([]:List LI).length) rfl)<|wP (lens ((c++([b]:List LI)).length) ((c++([b]:List LI)).length) rfl)<|wP (lens ((d++([a]:List LI)).length) ((d++([a]:List LI)).length) rfl)<|z0) (by kernel_rfl)
theorem ok_Sb_78 (p1 k l:Int) (o:LI) (p0:Int) (p2 f g:LI) (h:(List LI)) (i:(List LI)) (d:Int) (b:LI) (y) (hm:m_Sb_78 p1 k l o p0 p2 f g h i d b=some y) (Q)
  (hin:∀ s,y=.inl s→EE c_Sb_78 K_Sb_78 (s_Sb_78 p1 k l o p0 p2 f g h i s.1 s.2) Q) (hout:∀ e,y=.inr e→O_Sb_78 p1 k l p0 p2 f g h i Q e):EE c_Sb_78 K_Sb_78 (s_Sb_78 p1 k l o p0 p2 f g h i d b) Q:=by
 obtain ⟨m,hm⟩|⟨m,hm⟩:=split_ite hm
 ·obtain ⟨c,j,hm⟩:=bind_some hm
  obtain ⟨a,n,hm⟩:=bind_some hm
  obtain ⟨u,r,hm⟩:=bind_some hm
  obtain ⟨p,hm⟩|⟨p,hm⟩:=split_ite hm
  ·obtain ⟨t,q,hm⟩:=bind_some hm
   exact gw (hin _ (qj hm).symm) (u1 m<|wO (.row ((rI .i64) c))<|wO (.row ((rI .i64) a))<|wO zT<|wO (.rows (mi (b.set (0+Int.toNat d) (w64 (0 - (w64 (Int.tdiv (w64 ((w64 (0 - c))+(w64 (Int.tdiv (shlI .i64 1 (wr .u64 a)) 2)))) (shlI .i64 1 (wr .u64 a)))))))))<|wO (zn f.length)<|wO (zn g.length)<|wO (zn ((b.set (0+Int.toNat d) (w64 (0 - (w64 (Int.tdiv (w64 ((w64 (0 - c))+(w64 (Int.tdiv (shlI .i64 1 (wr .u64 a)) 2)))) (shlI .i64 1 (wr .u64 a))))))).length))<|wO (zn ((b.set (0+Int.toNat d) (w64 (0 - (w64 (Int.tdiv (w64 ((w64 (0 - c))+(w64 (Int.tdiv (shlI .i64 1 (wr .u64 a)) 2)))) (shlI .i64 1 (wr .u64 a))))))).length))<|wO (zn (([]:List LI).length))<|wO (zn (([]:List LI).length))<|wO (zn h.length)<|wO (zn i.length)<|wP (rd_in rfl j)<|wP (at_row (rI .i64) (rd_get0 j))<|wP (by decide:(2:Int)≠0)<|wP (rd_in rfl n)<|wP (at_row (rI .i64) (rd_get0 n))<|wP (ck_p r)<|wP p<|wP (by decide:(2:Int)≠0)<|wP (ck_p q)<|wP (rd_in rfl j)<|wP (put_ob (rI .i64) (w64 (0 - (w64 (Int.tdiv (w64 ((w64 (0 - c))+(w64 (Int.tdiv (shlI .i64 1 (wr .u64 a)) 2)))) (shlI .i64 1 (wr .u64 a)))))) 0 (.lit (vI (w64 (0 - (w64 (Int.tdiv (w64 ((w64 (0 - c))+(w64 (Int.tdiv (shlI .i64 1 (wr .u64 a)) 2)))) (shlI .i64 1 (wr .u64 a)))))))) (rd_get0 j) (by kernel_rfl) (by kernel_rfl))<|wP (ln f.length)<|wP (ln g.length)<|wP (lens b.length ((b.set (0+Int.toNat d) (w64 (0 - (w64 (Int.tdiv (w64 ((w64 (0 - c))+(w64 (Int.tdiv (shlI .i64 1 (wr .u64 a)) 2)))) (shlI .i64 1 (wr .u64 a))))))).length) (set_len rfl))<|wP (lens b.length ((b.set (0+Int.toNat d) (w64 (0 - (w64 (Int.tdiv (w64 ((w64 (0 - c))+(w64 (Int.tdiv (shlI .i64 1 (wr .u64 a)) 2)))) (shlI .i64 1 (wr .u64 a))))))).length) (set_len rfl))<|wP (lens (([]:List LI).length) (([]:List LI).length) rfl)<|wP (lens (([]:List LI).length) (([]:List LI).length) rfl)<|wP (ln h.length)<|wP (ln i.length)<|z0) (by kernel_rfl)
  ·obtain ⟨t,q,hm⟩:=bind_some hm
   exact gw (hin _ (qj hm).symm) (u1 m<|wO (.row ((rI .i64) c))<|wO (.row ((rI .i64) a))<|wO zF<|wO (.rows (mi (b.set (0+Int.toNat d) (w64 (Int.tdiv (w64 (c+(w64 (Int.tdiv (shlI .i64 1 (wr .u64 a)) 2)))) (shlI .i64 1 (wr .u64 a)))))))<|wO (zn f.length)<|wO (zn g.length)<|wO (zn ((b.set (0+Int.toNat d) (w64 (Int.tdiv (w64 (c+(w64 (Int.tdiv (shlI .i64 1 (wr .u64 a)) 2)))) (shlI .i64 1 (wr .u64 a))))).length))<|wO (zn ((b.set (0+Int.toNat d) (w64 (Int.tdiv (w64 (c+(w64 (Int.tdiv (shlI .i64 1 (wr .u64 a)) 2)))) (shlI .i64 1 (wr .u64 a))))).length))<|wO (zn (([]:List LI).length))<|wO (zn (([]:List LI).length))<|wO (zn h.length)<|wO (zn i.length)<|wP (rd_in rfl j)<|wP (at_row (rI .i64) (rd_get0 j))<|wP (by decide:(2:Int)≠0)<|wP (rd_in rfl n)<|wP (at_row (rI .i64) (rd_get0 n))<|wP (ck_p r)<|wP p<|wP (by decide:(2:Int)≠0)<|wP (ck_p q)<|wP (rd_in rfl j)<|wP (put_ob (rI .i64) (w64 (Int.tdiv (w64 (c+(w64 (Int.tdiv (shlI .i64 1 (wr .u64 a)) 2)))) (shlI .i64 1 (wr .u64 a)))) 0 (.lit (vI (w64 (Int.tdiv (w64 (c+(w64 (Int.tdiv (shlI .i64 1 (wr .u64 a)) 2)))) (shlI .i64 1 (wr .u64 a)))))) (rd_get0 j) (by kernel_rfl) (by kernel_rfl))<|wP (ln f.length)<|wP (ln g.length)<|wP (lens b.length ((b.set (0+Int.toNat d) (w64 (Int.tdiv (w64 (c+(w64 (Int.tdiv (shlI .i64 1 (wr .u64 a)) 2)))) (shlI .i64 1 (wr .u64 a))))).length) (set_len rfl))<|wP (lens b.length ((b.set (0+Int.toNat d) (w64 (Int.tdiv (w64 (c+(w64 (Int.tdiv (shlI .i64 1 (wr .u64 a)) 2)))) (shlI .i64 1 (wr .u64 a))))).length) (set_len rfl))<|wP (lens (([]:List LI).length) (([]:List LI).length) rfl)<|wP (lens (([]:List LI).length) (([]:List LI).length) rfl)<|wP (ln h.length)<|wP (ln i.length)<|z0) (by kernel_rfl)
 ·refine gm c_Sb_96 K_Sb_96 (s_Sb_96 p1 k l p0 p2 f g h i b) (v1 m<|wK f.length g.length b.length<|wO (zn (([]:List LI).length))<|wO (zn (([]:List LI).length))<|wP (lens (([]:List LI).length) (([]:List LI).length) rfl)<|wP (lens (([]:List LI).length) (([]:List LI).length) rfl)<|wN h.length<|wN i.length<|z0) ?_ (by kernel_rfl)
  exact hout b (qj hm).symm
theorem ok_Sb_71 (p1 f j p0:Int) (p2 a:LI) (g:(List LI)) (h:(List LI)) (n71_0:Nat) (n71_1:Nat) (i:LI) (n71_3:Nat) (n71_4:Nat) (y) (hm:m_Sb_71 p1 f j p0 p2 a g h n71_0 n71_1 i n71_3 n71_4=some y) (Q)
  (hin:∀ s,y=.inl s→EE c_Sb_38 K_Sb_38 (s_Sb_38 p1 f p0 p2 a s.1 s.2.1 s.2.2) Q) (hout:∀ e,y=.inr e→O_Sb_38 p0 p1 p2 Q e):EE c_Sb_71 K_Sb_71 (s_Sb_71 p1 f j p0 p2 a g h n71_0 n71_1 i n71_3 n71_4) Q:=by
 obtain ⟨n,k,hm⟩:=bind_some hm
 obtain ⟨o,l,hm⟩:=bind_some hm
 obtain ⟨d,m,hm⟩:=bind_some hm
 refine gm c_Sb_78 K_Sb_78 (s_Sb_78 p1 f j d p0 p2 a i g h 0 d) (wO (.rows (mi ((a.drop n71_0).take n71_3)))<|wO (.rows (mi ((a.drop n71_1).take n71_4)))<|wO (.res (res_Sf d))<|wP (part_le (rI .i64) a (ck_p k))<|wP (part_dt (rI .i64) a n71_0 n71_3)<|wP (part_le (rI .i64) a (ck_p l))<|wP (part_dt (rI .i64) a n71_1 n71_4)<|wP (ok_Sf ((a.drop n71_0).take n71_3) ((a.drop n71_1).take n71_4) d m)<|wL (rI .i64) d<|wK a.length i.length d.length<|wN d.length<|wO (zn (([]:List LI).length))<|wO (zn (([]:List LI).length))<|wP (lens (([]:List LI).length) (([]:List LI).length) rfl)<|wP (lens (([]:List LI).length) (([]:List LI).length) rfl)<|wN g.length<|wN h.length<|z0) ?_ (by kernel_rfl)
 obtain ⟨e,he,hm⟩:=bind_some hm
 refine loop_rule (u:=.c c_Sb_78) (K:=K_Sb_78) (Q:=Q) (b:=lp_Sb_78 p1 f j d p0 p2 a i g h) (We:=O_Sb_78 p1 f j p0 p2 a i g h Q) (stJ:=fun s=>s_Sb_78 p1 f j d p0 p2 a i g h s.1 s.2) (s:=(0,d)) (fun s y hb hin hout=>ok_Sb_78 p1 f j d p0 p2 a i g h s.1 s.2 y hb Q hin hout) he ?_
 show EE c_Sb_96 K_Sb_96 (s_Sb_96 p1 f j p0 p2 a i g h e) _
 exact ok_Sb_96 p1 f j p0 p2 a i g h e y hm Q hin hout
theorem ok_Sb_59 (p1 g h p0:Int) (p2 b j:LI) (c:(List LI)) (d:(List LI)) (n59_0:Nat) (n59_1:Nat) (l i:Int) (a:LI) (n59_5:Nat) (n59_6:Nat) (y) (hm:m_Sb_59 p1 g h p0 p2 b j c d n59_0 n59_1 l i a n59_5 n59_6=some y) (Q)
  (hin:∀ s,y=.inl s→EE c_Sb_59 K_Sb_59 (s_Sb_59 p1 g h p0 p2 b j c d s.1 s.2.1 s.2.2.1 s.2.2.2.1 s.2.2.2.2.1 s.2.2.2.2.2.1 s.2.2.2.2.2.2) Q) (hout:∀ e,y=.inr e→O_Sb_59 p1 g h p0 p2 b c d Q e):EE c_Sb_59 K_Sb_59 (s_Sb_59 p1 g h p0 p2 b j c d n59_0 n59_1 l i a n59_5 n59_6) Q:=by
 obtain ⟨k,hm⟩|⟨k,hm⟩:=split_ite hm
 ·obtain ⟨m,n,hm⟩:=bind_some hm
  obtain ⟨f,p,hm⟩:=bind_some hm
  obtain ⟨q,o,hm⟩:=bind_some hm
  exact gw (hin _ (qj hm).symm) (u1 k<|wO (.row ((rI .i64) m))<|wO (.res (res_Sa f))<|wO (.rows (mi (a.set (0+Int.toNat i) f)))<|wP (rd_in rfl n)<|wP (at_row (rI .i64) (rd_get0 n))<|wP (ok_Sa m p1 f p)<|wP (rd_in rfl o)<|wP (put_ob (rI .i64) f 0 (.lit (vI f)) (rd_get0 o) (by kernel_rfl) (by kernel_rfl))<|wK b.length n59_5 n59_6<|wN j.length<|wO (zn ((a.set (0+Int.toNat i) f).length))<|wO (zn (([]:List LI).length))<|wO (zn (([]:List LI).length))<|wP (lens a.length ((a.set (0+Int.toNat i) f).length) (set_len rfl))<|wP (lens (([]:List LI).length) (([]:List LI).length) rfl)<|wP (lens (([]:List LI).length) (([]:List LI).length) rfl)<|wN c.length<|wN d.length<|z0) (by kernel_rfl)
 ·refine gm c_Sb_71 K_Sb_71 (s_Sb_71 p1 g h p0 p2 b c d n59_0 n59_1 a n59_5 n59_6) (v1 k<|wK b.length n59_5 n59_6<|wN a.length<|wO (zn (([]:List LI).length))<|wO (zn (([]:List LI).length))<|wP (lens (([]:List LI).length) (([]:List LI).length) rfl)<|wP (lens (([]:List LI).length) (([]:List LI).length) rfl)<|wN c.length<|wN d.length<|z0) ?_ (by kernel_rfl)
  exact hout (n59_0,n59_1,a,n59_5,n59_6) (qj hm).symm
theorem ok_Sb_100 (p0 p1:Int) (p2:LI) (a:(List LI)) (b:(List LI)) (r:Za) (hm:m_Sb_100 p0 p1 p2 a b=some r):EE c_Sb_100 K_Sb_100 (s_Sb_100 p0 p1 p2 a b) (Post vf_Sb (res_Sb r)):=by
 exact ge (wO (.rows (List.map (rL (rI .i64)) a))<|wO (.rows (List.map (rL (rI .i64)) b))<|wP (all_le0 (rL (rI .i64)) a rfl)<|wP (all_t (rL (rI .i64)) a rfl)<|wP (all_le0 (rL (rI .i64)) b rfl)<|wP (all_t (rL (rI .i64)) b rfl)<|z0) (congrArg res_Sb (qj hm)) (by kernel_rfl)
theorem ok_Sb_38 (p1 h p0:Int) (p2 d:LI) (a:Int) (f:(List LI)) (g:(List LI)) (y) (hm:m_Sb_38 p1 h p0 p2 d a f g=some y) (Q)
  (hin:∀ s,y=.inl s→EE c_Sb_38 K_Sb_38 (s_Sb_38 p1 h p0 p2 d s.1 s.2.1 s.2.2) Q) (hout:∀ e,y=.inr e→O_Sb_38 p0 p1 p2 Q e):EE c_Sb_38 K_Sb_38 (s_Sb_38 p1 h p0 p2 d a f g) Q:=by
 obtain ⟨j,hm⟩|⟨j,hm⟩:=split_ite hm
 ·obtain ⟨r,k,hm⟩:=bind_some hm
  obtain ⟨t,l,hm⟩:=bind_some hm
  obtain ⟨v,m,hm⟩:=bind_some hm
  obtain ⟨w,n,hm⟩:=bind_some hm
  obtain ⟨x,o,hm⟩:=bind_some hm
  obtain ⟨i,p,hm⟩:=bind_some hm
  obtain ⟨z,q,hm⟩:=bind_some hm
  refine gm c_Sb_59 K_Sb_59 (s_Sb_59 p1 h a p0 p2 d i f g (0+(Int.toNat (w64 (16*a)))) (0+(Int.toNat (w64 ((w64 (16*a))+16)))) ((Int.toNat 8):Int) 0 (List.replicate (Int.toNat 8) (0:Int)) ((Int.toNat (w64 ((w64 (16*a))+16))) - (Int.toNat (w64 (16*a)))) ((Int.toNat (w64 ((w64 (16*a))+32))) - (Int.toNat (w64 ((w64 (16*a))+16))))) (u1 j<|wO (.rows (mi ((d.drop (0+(Int.toNat (w64 ((w64 (16*a))+16))))).take ((Int.toNat (w64 ((w64 (16*a))+32))) - (Int.toNat (w64 ((w64 (16*a))+16)))))))<|wO (.res (res_Sh i))<|wO (zn i.length)<|wO (.rows (mi (List.replicate (Int.toNat 8) (0:Int))))<|wO (zn (Int.toNat 8))<|wO (zn d.length)<|wO (zn ((Int.toNat (w64 ((w64 (16*a))+16))) - (Int.toNat (w64 (16*a)))))<|wO (zn ((Int.toNat (w64 ((w64 (16*a))+32))) - (Int.toNat (w64 ((w64 (16*a))+16)))))<|wO (zn i.length)<|wO (zn ((List.replicate (Int.toNat 8) (0:Int)).length))<|wO (zn (([]:List LI).length))<|wO (zn (([]:List LI).length))<|wO (zn f.length)<|wO (zn g.length)<|wP (ck_p k)<|wP (ck_p l)<|wP (ck_p m)<|wP (ck_p n)<|wP (part_le (rI .i64) d (ck_p o))<|wP (part_dt (rI .i64) d (0+(Int.toNat (w64 ((w64 (16*a))+16)))) ((Int.toNat (w64 ((w64 (16*a))+32))) - (Int.toNat (w64 ((w64 (16*a))+16)))))<|wP (ok_Sh ((d.drop (0+(Int.toNat (w64 ((w64 (16*a))+16))))).take ((Int.toNat (w64 ((w64 (16*a))+32))) - (Int.toNat (w64 ((w64 (16*a))+16))))) i p)<|wP (lm (rI .i64) i)<|wP (ck_p q)<|wP (rep_ob (rI .i64) (Int.toNat 8) (0:Int) [.lit (vI 0)] (by kernel_rfl))<|wP (len_map (rI .i64) (show (Int.toNat 8)=(List.replicate (Int.toNat 8) (0:Int)).length from (rep_len (Int.toNat 8) (0:Int))))<|wP (ln d.length)<|wP (lens ((Int.toNat (w64 ((w64 (16*a))+16))) - (Int.toNat (w64 (16*a)))) ((Int.toNat (w64 ((w64 (16*a))+16))) - (Int.toNat (w64 (16*a)))) rfl)<|wP (lens ((Int.toNat (w64 ((w64 (16*a))+32))) - (Int.toNat (w64 ((w64 (16*a))+16)))) ((Int.toNat (w64 ((w64 (16*a))+32))) - (Int.toNat (w64 ((w64 (16*a))+16)))) rfl)<|wP (ln i.length)<|wP (lens (Int.toNat 8) ((List.replicate (Int.toNat 8) (0:Int)).length) (rep_len (Int.toNat 8) (0:Int)))<|wP (lens (([]:List LI).length) (([]:List LI).length) rfl)<|wP (lens (([]:List LI).length) (([]:List LI).length) rfl)<|wP (ln f.length)<|wP (ln g.length)<|z0) ?_ (by kernel_rfl)
  obtain ⟨e,he,hm⟩:=bind_some hm
  refine loop_rule (u:=.c c_Sb_59) (K:=K_Sb_59) (Q:=Q) (b:=lp_Sb_59 p1 h a p0 p2 d i f g) (We:=O_Sb_59 p1 h a p0 p2 d f g Q) (stJ:=fun s=>s_Sb_59 p1 h a p0 p2 d i f g s.1 s.2.1 s.2.2.1 s.2.2.2.1 s.2.2.2.2.1 s.2.2.2.2.2.1 s.2.2.2.2.2.2) (s:=((0+(Int.toNat (w64 (16*a)))),(0+(Int.toNat (w64 ((w64 (16*a))+16)))),((Int.toNat 8):Int),0,(List.replicate (Int.toNat 8) (0:Int)),((Int.toNat (w64 ((w64 (16*a))+16))) - (Int.toNat (w64 (16*a)))),((Int.toNat (w64 ((w64 (16*a))+32))) - (Int.toNat (w64 ((w64 (16*a))+16)))))) (fun s y hb hin hout=>ok_Sb_59 p1 h a p0 p2 d i f g s.1 s.2.1 s.2.2.1 s.2.2.2.1 s.2.2.2.2.1 s.2.2.2.2.2.1 s.2.2.2.2.2.2 y hb Q hin hout) he ?_
  show EE c_Sb_71 K_Sb_71 (s_Sb_71 p1 h a p0 p2 d f g e.1 e.2.1 e.2.2.1 e.2.2.2.1 e.2.2.2.2) _
  exact ok_Sb_71 p1 h a p0 p2 d f g e.1 e.2.1 e.2.2.1 e.2.2.2.1 e.2.2.2.2 y hm Q hin hout
 ·refine gm c_Sb_100 K_Sb_100 (s_Sb_100 p0 p1 p2 f g) (v1 j<|wO (zn (([]:List LI).length))<|wO (zn (([]:List LI).length))<|wP (lens (([]:List LI).length) (([]:List LI).length) rfl)<|wP (lens (([]:List LI).length) (([]:List LI).length) rfl)<|wN f.length<|wN g.length<|z0) ?_ (by kernel_rfl)
  exact hout (f,g) (qj hm).symm
theorem ok_Sb_33 (p1 d p0:Int) (p2 a:LI) (r:Za) (hm:m_Sb_33 p1 d p0 p2 a=some r):EE c_Sb_33 K_Sb_33 (s_Sb_33 p1 d p0 p2 a) (Post vf_Sb (res_Sb r)):=by
 refine gm c_Sb_38 K_Sb_38 (s_Sb_38 p1 d p0 p2 a 0 ([]:List LI) ([]:List LI)) (wN a.length<|wO (zn (([]:List LI).length))<|wO (zn (([]:List LI).length))<|wO (zn (([]:List LI).length))<|wO (zn (([]:List LI).length))<|wP (lens (([]:List LI).length) (([]:List LI).length) rfl)<|wP (lens (([]:List LI).length) (([]:List LI).length) rfl)<|wP (lens (([]:List LI).length) (([]:List LI).length) rfl)<|wP (lens (([]:List LI).length) (([]:List LI).length) rfl)<|z0) ?_ (by kernel_rfl)
 obtain ⟨e,he,hm⟩:=bind_some hm
 refine loop_rule (u:=.c c_Sb_38) (K:=K_Sb_38) (Q:=(Post vf_Sb (res_Sb r))) (b:=lp_Sb_38 p1 d p0 p2 a) (We:=O_Sb_38 p0 p1 p2 (Post vf_Sb (res_Sb r))) (stJ:=fun s=>s_Sb_38 p1 d p0 p2 a s.1 s.2.1 s.2.2) (s:=(0,([]:List LI),([]:List LI))) (fun s y hb hin hout=>ok_Sb_38 p1 d p0 p2 a s.1 s.2.1 s.2.2 y hb (Post vf_Sb (res_Sb r)) hin hout) he ?_
 show EE c_Sb_100 K_Sb_100 (s_Sb_100 p0 p1 p2 e.1 e.2) _
 exact ok_Sb_100 p0 p1 p2 e.1 e.2 r hm
theorem ok_Sb_21 (p1 c:Int) (p2:LI) (p0 d:Int) (a:LI) (y) (hm:m_Sb_21 p1 c p2 p0 d a=some y) (Q)
  (hin:∀ s,y=.inl s→EE c_Sb_21 K_Sb_21 (s_Sb_21 p1 c p2 p0 s.1 s.2) Q) (hout:∀ e,y=.inr e→O_Sb_21 p1 c p0 p2 Q e):EE c_Sb_21 K_Sb_21 (s_Sb_21 p1 c p2 p0 d a) Q:=by
 obtain ⟨f,hm⟩|⟨f,hm⟩:=split_ite hm
 ·obtain ⟨b,g,hm⟩:=bind_some hm
  obtain ⟨i,h,hm⟩:=bind_some hm
  exact gw (hin _ (qj hm).symm) (u1 f<|wO (.row ((rI .i64) b))<|wO (.rows (mi (a.set (0+Int.toNat (w64 (16+d))) b)))<|wO (zn ((a.set (0+Int.toNat (w64 (16+d))) b).length))<|wO (zn (([]:List LI).length))<|wO (zn (([]:List LI).length))<|wO (zn (([]:List LI).length))<|wO (zn (([]:List LI).length))<|wP (rd_nn g)<|wP (at_row (rI .i64) (rd_get g))<|wP (rd_in rfl h)<|wP (put_ob (rI .i64) b 0 (.lit (vI b)) (rd_get0 h) (by kernel_rfl) (by kernel_rfl))<|wP (lens a.length ((a.set (0+Int.toNat (w64 (16+d))) b).length) (set_len rfl))<|wP (lens (([]:List LI).length) (([]:List LI).length) rfl)<|wP (lens (([]:List LI).length) (([]:List LI).length) rfl)<|wP (lens (([]:List LI).length) (([]:List LI).length) rfl)<|wP (lens (([]:List LI).length) (([]:List LI).length) rfl)<|z0) (by kernel_rfl)
 ·refine gm c_Sb_33 K_Sb_33 (s_Sb_33 p1 c p0 p2 a) (v1 f<|wN a.length<|wO (zn (([]:List LI).length))<|wO (zn (([]:List LI).length))<|wO (zn (([]:List LI).length))<|wO (zn (([]:List LI).length))<|wP (lens (([]:List LI).length) (([]:List LI).length) rfl)<|wP (lens (([]:List LI).length) (([]:List LI).length) rfl)<|wP (lens (([]:List LI).length) (([]:List LI).length) rfl)<|wP (lens (([]:List LI).length) (([]:List LI).length) rfl)<|z0) ?_ (by kernel_rfl)
  exact hout a (qj hm).symm
theorem ok_Sb_5 (p0 p1:Int) (p2:LI) (f:Bool) (r:Za) (hm:m_Sb_5 p0 p1 p2 f=some r):EE c_Sb_5 K_Sb_5 (s_Sb_5 p0 p1 p2 f) (Post vf_Sb (res_Sb r)):=by
 obtain ⟨d,hm⟩|⟨d,hm⟩:=split_ite hm
 ·exact ge (u1 d<|wO (.rows (List.map (rL (rI .i64)) ([]:List LI)))<|wO (.rows (List.map (rL (rI .i64)) ([]:List LI)))<|wP (all_le0 (rL (rI .i64)) ([]:List LI) rfl)<|wP (all_t (rL (rI .i64)) ([]:List LI) rfl)<|wP (all_le0 (rL (rI .i64)) ([]:List LI) rfl)<|wP (all_t (rL (rI .i64)) ([]:List LI) rfl)<|z0) (congrArg res_Sb (qj hm)) (by kernel_rfl)
 ·obtain ⟨a,g,hm⟩:=bind_some hm
  obtain ⟨i,h,hm⟩:=bind_some hm
  refine gm c_Sb_21 K_Sb_21 (s_Sb_21 p1 a p2 p0 0 (List.replicate (Int.toNat (w64 ((w64 (16*a))+16))) (0:Int))) (v1 d<|wL (rI .i64) p2<|wL (rI .i64) p2<|wO (.res (res_Sj a))<|wO (.rows (mi (List.replicate (Int.toNat (w64 ((w64 (16*a))+16))) (0:Int))))<|wO (zn (Int.toNat (w64 ((w64 (16*a))+16))))<|wP (ok_Sj (p2.length:Int) a g)<|wP (ck_p h)<|wP (rep_ob (rI .i64) (Int.toNat (w64 ((w64 (16*a))+16))) (0:Int) [.lit (vI 0)] (by kernel_rfl))<|wP (len_map (rI .i64) (show (Int.toNat (w64 ((w64 (16*a))+16)))=(List.replicate (Int.toNat (w64 ((w64 (16*a))+16))) (0:Int)).length from (rep_len (Int.toNat (w64 ((w64 (16*a))+16))) (0:Int))))<|wL (rI .i64) p2<|wO (zn ((List.replicate (Int.toNat (w64 ((w64 (16*a))+16))) (0:Int)).length))<|wO (zn (([]:List LI).length))<|wO (zn (([]:List LI).length))<|wO (zn (([]:List LI).length))<|wO (zn (([]:List LI).length))<|wP (lens (Int.toNat (w64 ((w64 (16*a))+16))) ((List.replicate (Int.toNat (w64 ((w64 (16*a))+16))) (0:Int)).length) (rep_len (Int.toNat (w64 ((w64 (16*a))+16))) (0:Int)))<|wP (lens (([]:List LI).length) (([]:List LI).length) rfl)<|wP (lens (([]:List LI).length) (([]:List LI).length) rfl)<|wP (lens 0 (([]:List LI).length) rfl)<|wP (lens 0 (([]:List LI).length) rfl)<|z0) ?_ (by kernel_rfl)
  obtain ⟨e,he,hm⟩:=bind_some hm
  refine loop_rule (u:=.c c_Sb_21) (K:=K_Sb_21) (Q:=(Post vf_Sb (res_Sb r))) (b:=lp_Sb_21 p1 a p2 p0) (We:=O_Sb_21 p1 a p0 p2 (Post vf_Sb (res_Sb r))) (stJ:=fun s=>s_Sb_21 p1 a p2 p0 s.1 s.2) (s:=(0,(List.replicate (Int.toNat (w64 ((w64 (16*a))+16))) (0:Int)))) (fun s y hb hin hout=>ok_Sb_21 p1 a p2 p0 s.1 s.2 y hb (Post vf_Sb (res_Sb r)) hin hout) he ?_
  show EE c_Sb_33 K_Sb_33 (s_Sb_33 p1 a p0 p2 e) _
  exact ok_Sb_33 p1 a p0 p2 e r hm
theorem ok_Sb_0 (p0 p1:Int) (p2:LI) (r:Za) (hm:m_Sb_0 p0 p1 p2=some r):EE c_Sb_0 K_Sb_0 (s_Sb_0 p0 p1 p2) (Post vf_Sb (res_Sb r)):=by
 obtain ⟨a,c,hm⟩:=bind_some hm
 obtain ⟨b,hm⟩|⟨b,hm⟩:=split_ite hm
 ·obtain ⟨d,e,hm⟩:=bind_some hm
  exact gw (ok_Sb_5 _ _ _ _ r hm) (wL (rI .i64) p2<|wO (.res (res_Se a))<|wP (ok_Se p0 p1 (p2.length:Int) a c)<|v2 (not_f b)<|wO (.res (res_Si d))<|wP (ok_Si p2 (-1) d e)<|v2 (not_f b)<|wO (zn (([]:List LI).length))<|wO (zn (([]:List LI).length))<|wP (lens 0 (([]:List LI).length) rfl)<|wP (lens 0 (([]:List LI).length) rfl)<|z0) (by kernel_rfl)
 ·exact gw (ok_Sb_5 _ _ _ _ r hm) (wL (rI .i64) p2<|wO (.res (res_Se a))<|wP (ok_Se p0 p1 (p2.length:Int) a c)<|u4 (not_t b)<|wO (zn (([]:List LI).length))<|wO (zn (([]:List LI).length))<|wP (lens 0 (([]:List LI).length) rfl)<|wP (lens 0 (([]:List LI).length) rfl)<|z0) (by kernel_rfl)
theorem ok_Sb (p0 p1:Int) (p2:LI) (r:Za) (hm:m_Sb p0 p1 p2=some r):Runs ext tbl 5 (as_Sb p0 p1 p2) (res_Sb r):=
 runs_of (vf:=vf_Sb) (by kernel_rfl) rfl (st:=(enter vf_Sb (as_Sb p0 p1 p2)).getD default) (by kernel_rfl) (go_on [] 1000 J0 (ok_Sb_0 p0 p1 p2 r hm) (by kernel_rfl))
def O_Ij_15 (Q:VX→St→Prop) (e:(Bool)⊕((Unit))):Prop:=match e with | .inl e=>Q=Post vf_Ij (res_Ij e) | .inr e=>EE c_Ij_33 K_Ij_33 (s_Ij_33) Q
theorem ok_Ij_33 (r:Bool) (hm:m_Ij_33=some r):EE c_Ij_33 K_Ij_33 (s_Ij_33) (Post vf_Ij (res_Ij r)):=by
 exact ge (z0) (congrArg res_Ij (qj hm)) (by kernel_rfl)
theorem ok_Ij_15 (p1 p2:Int) (p0:LI) (g:Int) (y) (hm:m_Ij_15 p1 p2 p0 g=some y) (Q)
  (hin:∀ s,y=.inl s→EE c_Ij_15 K_Ij_15 (s_Ij_15 p1 p2 p0 s) Q) (hout:∀ e,y=.inr e→O_Ij_15 Q e):EE c_Ij_15 K_Ij_15 (s_Ij_15 p1 p2 p0 g) Q:=by
 obtain ⟨b,hm⟩|⟨b,hm⟩:=split_ite hm
 ·obtain ⟨d,a,hm⟩:=bind_some hm
  obtain ⟨c,hm⟩|⟨c,hm⟩:=split_ite hm
  ·have hQ:Q=Post vf_Ij (res_Ij false):=hout (.inl false) (qj hm).symm
   subst hQ
   exact ge (u1 b<|wO (.row ((rI .i64) d))<|wP (rd_nn a)<|wP (at_row (rI .i64) (rd_get a))<|u4 c<|u1 eT<|z0) (rfl:res_Ij false=res_Ij false) (by kernel_rfl)
  ·obtain ⟨f,hm⟩|⟨f,hm⟩:=split_ite hm
   ·have hQ:Q=Post vf_Ij (res_Ij false):=hout (.inl false) (qj hm).symm
    subst hQ
    exact ge (u1 b<|wO (.row ((rI .i64) d))<|wP (rd_nn a)<|wP (at_row (rI .i64) (rd_get a))<|v4 c<|u1 f<|z0) (rfl:res_Ij false=res_Ij false) (by kernel_rfl)
   ·exact gw (hin _ (qj hm).symm) (u1 b<|wO (.row ((rI .i64) d))<|wP (rd_nn a)<|wP (at_row (rI .i64) (rd_get a))<|v4 c<|v1 f<|z0) (by kernel_rfl)
 ·refine gm c_Ij_33 K_Ij_33 (s_Ij_33) (v1 b<|z0) ?_ (by kernel_rfl)
  exact hout (.inr ()) (qj hm).symm
theorem ok_Ij_0 (p0:LI) (p1 p2 p3:Int) (r:Bool) (hm:m_Ij_0 p0 p1 p2 p3=some r):EE c_Ij_0 K_Ij_0 (s_Ij_0 p0 p1 p2 p3) (Post vf_Ij (res_Ij r)):=by
 obtain ⟨a,hm⟩|⟨a,hm⟩:=split_ite hm
 ·exact ge (wL (rI .i64) p0<|u1 a<|z0) (congrArg res_Ij (qj hm)) (by kernel_rfl)
 ·refine gm c_Ij_15 K_Ij_15 (s_Ij_15 p1 p2 p0 0) (wL (rI .i64) p0<|v1 a<|wL (rI .i64) p0<|z0) ?_ (by kernel_rfl)
  obtain ⟨e,he,hm⟩:=bind_some hm
  refine loop_rule (u:=.c c_Ij_15) (K:=K_Ij_15) (Q:=(Post vf_Ij (res_Ij r))) (b:=lp_Ij_15 p1 p2 p0) (We:=O_Ij_15 (Post vf_Ij (res_Ij r))) (stJ:=fun s=>s_Ij_15 p1 p2 p0 s) (s:=0) (fun s y hb hin hout=>ok_Ij_15 p1 p2 p0 s y hb (Post vf_Ij (res_Ij r)) hin hout) he ?_
  rcases e with e | e
  ·exact congrArg (fun r=>Post vf_Ij (res_Ij r)) (qj hm).symm
  ·show EE c_Ij_33 K_Ij_33 (s_Ij_33) _
   exact ok_Ij_33 r hm
theorem ok_Ij (p0:LI) (p1 p2 p3:Int) (r:Bool) (hm:m_Ij p0 p1 p2 p3=some r):Runs ext tbl 27 (as_Ij p0 p1 p2 p3) (res_Ij r):=
 runs_of (vf:=vf_Ij) (by kernel_rfl) rfl (st:=(enter vf_Ij (as_Ij p0 p1 p2 p3)).getD default) (by kernel_rfl) (go_on [] 1000 J0 (ok_Ij_0 p0 p1 p2 p3 r hm) (by kernel_rfl))
theorem ok_Ik_0 (p0:LI) (p1:Int) (r:Bool) (hm:m_Ik_0 p0 p1=some r):EE c_Ik_0 K_Ik_0 (s_Ik_0 p0 p1) (Post vf_Ik (res_Ik r)):=by
 obtain ⟨a,hm⟩|⟨a,hm⟩:=split_ite hm
 ·obtain ⟨b,c,hm⟩:=bind_some hm
  exact ge (wL (rI .i64) p0<|u3 a<|wO (.res (res_Ij b))<|wP (ok_Ij p0 (-32768) 32767 p1 b c)<|u1 a<|z0) (congrArg res_Ik (qj hm)) (by kernel_rfl)
 ·exact ge (wL (rI .i64) p0<|v4 a<|z0) (congrArg res_Ik (qj hm)) (by kernel_rfl)
theorem ok_Ik (p0:LI) (p1:Int) (r:Bool) (hm:m_Ik p0 p1=some r):Runs ext tbl 56 (as_Ik p0 p1) (res_Ik r):=
 runs_of (vf:=vf_Ik) (by kernel_rfl) rfl (st:=(enter vf_Ik (as_Ik p0 p1)).getD default) (by kernel_rfl) (go_on [] 1000 J0 (ok_Ik_0 p0 p1 r hm) (by kernel_rfl))
def O_Ie_58 (a b:Int) (Q:VX→St→Prop) (e:(LZ)):Prop:=EE c_Ie_78 K_Ie_78 (s_Ie_78 a b e) Q
def O_Ie_46 (a:Int) (Q:VX→St→Prop) (e:(LZ)):Prop:=EE c_Ie_79 K_Ie_79 (s_Ie_79 a e) Q
def O_Ie_34 (Q:VX→St→Prop) (e:(LZ)):Prop:=EE c_Ie_80 K_Ie_80 (s_Ie_80 e) Q
def O_Ie_17 (Q:VX→St→Prop) (e:(LZ)):Prop:=EE c_Ie_29 K_Ie_29 (s_Ie_29 e) Q
theorem ok_Ie_78 (a c:Int) (b:LZ) (y) (hm:m_Ie_78 a c b=some y) (Q)
  (hin:∀ s,y=.inl s→EE c_Ie_46 K_Ie_46 (s_Ie_46 a s.1 s.2) Q) (hout:∀ e,y=.inr e→O_Ie_46 a Q e):EE c_Ie_78 K_Ie_78 (s_Ie_78 a c b) Q:=by
 exact gw (hin _ (qj hm).symm) (wN b.length<|z0) (by kernel_rfl)
theorem ok_Ie_58 (f a b:Int) (c:LZ) (y) (hm:m_Ie_58 f a b c=some y) (Q)
  (hin:∀ s,y=.inl s→EE c_Ie_58 K_Ie_58 (s_Ie_58 f a s.1 s.2) Q) (hout:∀ e,y=.inr e→O_Ie_58 f a Q e):EE c_Ie_58 K_Ie_58 (s_Ie_58 f a b c) Q:=by
 obtain ⟨l,hm⟩|⟨l,hm⟩:=split_ite hm
 ·obtain ⟨k,j,hm⟩:=bind_some hm
  obtain ⟨q,o,hm⟩:=bind_some hm
  obtain ⟨L,r,hm⟩:=bind_some hm
  obtain ⟨t,p,hm⟩:=bind_some hm
  obtain ⟨u,v,hm⟩:=bind_some hm
  obtain ⟨w,x,hm⟩:=bind_some hm
  obtain ⟨z,A,hm⟩:=bind_some hm
  obtain ⟨B,C,hm⟩:=bind_some hm
  obtain ⟨D,E,hm⟩:=bind_some hm
  obtain ⟨F,G,hm⟩:=bind_some hm
  obtain ⟨d,H,hm⟩:=bind_some hm
  obtain ⟨h,I,hm⟩:=bind_some hm
  obtain ⟨g,J,hm⟩:=bind_some hm
  obtain ⟨i,K,hm⟩:=bind_some hm
  obtain ⟨m,n,hm⟩:=bind_some hm
  exact gw (hin _ (qj hm).symm) (u1 l<|wO (.row (rZb k))<|wO (.row (rZb q))<|wO (.row (rZc t))<|wO (zn u)<|wO (zn w)<|wO (zn z)<|wO (zn B)<|wO (zn D)<|wO (zn F)<|wO (zn d)<|wO (zn h)<|wO (.rows (List.map rZb (c.set (0+Int.toNat (w64 (a+b))) (Zb.mk d k.im))))<|wO (.rows (List.map rZb (c.set (0+Int.toNat (w64 (a+b))) (Zb.mk d h))))<|wO (zn g)<|wO (zn i)<|wO (.rows (List.map rZb ((c.set (0+Int.toNat (w64 (a+b))) (Zb.mk d h)).set (0+Int.toNat (w64 ((w64 (a+b))+f))) (Zb.mk g m.im))))<|wO (.rows (List.map rZb ((c.set (0+Int.toNat (w64 (a+b))) (Zb.mk d h)).set (0+Int.toNat (w64 ((w64 (a+b))+f))) (Zb.mk g i))))<|wO (zn (((c.set (0+Int.toNat (w64 (a+b))) (Zb.mk d h)).set (0+Int.toNat (w64 ((w64 (a+b))+f))) (Zb.mk g i)).length))<|wP (rd_in rfl j)<|wP (at_row rZb (rd_get0 j))<|wP (rd_in rfl o)<|wP (at_row rZb (rd_get0 o))<|wP (ck_p r)<|wP (gix_in (tb_0_t) p)<|wP (gix_row (tb_0_t) p)<|wP v<|wP x<|wP A<|wP C<|wP E<|wP G<|wP H<|wP I<|wP (rd_in rfl j)<|wP (put_ob rZb (Zb.mk d k.im) 0 (.lit (.float .f64 d)) (rd_get0 j) (by kernel_rfl) (by kernel_rfl))<|wP (put_ob2 rZb (Zb.mk d h) 1 (.lit (.float .f64 h)) (set_at (Zb.mk d k.im) (rd_get0 j)) (by kernel_rfl) (by kernel_rfl))<|wP J<|wP K<|wP (rd_in (set_len rfl) n)<|wP (put_ob rZb (Zb.mk g m.im) 0 (.lit (.float .f64 g)) (rd_get0 n) (by kernel_rfl) (by kernel_rfl))<|wP (put_ob2 rZb (Zb.mk g i) 1 (.lit (.float .f64 i)) (set_at (Zb.mk g m.im) (rd_get0 n)) (by kernel_rfl) (by kernel_rfl))<|wP (lens c.length (((c.set (0+Int.toNat (w64 (a+b))) (Zb.mk d h)).set (0+Int.toNat (w64 ((w64 (a+b))+f))) (Zb.mk g i)).length) (set_len (set_len rfl)))<|z0) (by kernel_rfl)
 ·refine gm c_Ie_78 K_Ie_78 (s_Ie_78 f a c) (v1 l<|wN c.length<|z0) ?_ (by kernel_rfl)
  exact hout c (qj hm).symm
theorem ok_Ie_79 (b:Int) (a:LZ) (y) (hm:m_Ie_79 b a=some y) (Q)
  (hin:∀ s,y=.inl s→EE c_Ie_34 K_Ie_34 (s_Ie_34 s.1 s.2) Q) (hout:∀ e,y=.inr e→O_Ie_34 Q e):EE c_Ie_79 K_Ie_79 (s_Ie_79 b a) Q:=by
 exact gw (hin _ (qj hm).symm) (wN a.length<|z0) (by kernel_rfl)
theorem ok_Ie_46 (a d:Int) (f:LZ) (y) (hm:m_Ie_46 a d f=some y) (Q)
  (hin:∀ s,y=.inl s→EE c_Ie_46 K_Ie_46 (s_Ie_46 a s.1 s.2) Q) (hout:∀ e,y=.inr e→O_Ie_46 a Q e):EE c_Ie_46 K_Ie_46 (s_Ie_46 a d f) Q:=by
 obtain ⟨g,hm⟩|⟨g,hm⟩:=split_ite hm
 ·refine gm c_Ie_58 K_Ie_58 (s_Ie_58 a d 0 f) (u1 g<|wN f.length<|z0) ?_ (by kernel_rfl)
  obtain ⟨e,he,hm⟩:=bind_some hm
  refine loop_rule (u:=.c c_Ie_58) (K:=K_Ie_58) (Q:=Q) (b:=lp_Ie_58 a d) (We:=O_Ie_58 a d Q) (stJ:=fun s=>s_Ie_58 a d s.1 s.2) (s:=(0,f)) (fun s y hb hin hout=>ok_Ie_58 a d s.1 s.2 y hb Q hin hout) he ?_
  show EE c_Ie_78 K_Ie_78 (s_Ie_78 a d e) _
  exact ok_Ie_78 a d e y hm Q hin hout
 ·refine gm c_Ie_79 K_Ie_79 (s_Ie_79 a f) (v1 g<|wN f.length<|z0) ?_ (by kernel_rfl)
  exact hout f (qj hm).symm
theorem ok_Ie_80 (a r:LZ) (hm:m_Ie_80 a=some r):EE c_Ie_80 K_Ie_80 (s_Ie_80 a) (Post vf_Ie (res_Ie r)):=by
 exact ge (wR rZb a<|z0) (congrArg res_Ie (qj hm)) (by kernel_rfl)
theorem ok_Ie_34 (a:Int) (d:LZ) (y) (hm:m_Ie_34 a d=some y) (Q)
  (hin:∀ s,y=.inl s→EE c_Ie_34 K_Ie_34 (s_Ie_34 s.1 s.2) Q) (hout:∀ e,y=.inr e→O_Ie_34 Q e):EE c_Ie_34 K_Ie_34 (s_Ie_34 a d) Q:=by
 obtain ⟨f,hm⟩|⟨f,hm⟩:=split_ite hm
 ·refine gm c_Ie_46 K_Ie_46 (s_Ie_46 a 0 d) (u1 f<|wN d.length<|z0) ?_ (by kernel_rfl)
  obtain ⟨e,he,hm⟩:=bind_some hm
  refine loop_rule (u:=.c c_Ie_46) (K:=K_Ie_46) (Q:=Q) (b:=lp_Ie_46 a) (We:=O_Ie_46 a Q) (stJ:=fun s=>s_Ie_46 a s.1 s.2) (s:=(0,d)) (fun s y hb hin hout=>ok_Ie_46 a s.1 s.2 y hb Q hin hout) he ?_
  show EE c_Ie_79 K_Ie_79 (s_Ie_79 a e) _
  exact ok_Ie_79 a e y hm Q hin hout
 ·refine gm c_Ie_80 K_Ie_80 (s_Ie_80 d) (v1 f<|wN d.length<|z0) ?_ (by kernel_rfl)
  exact hout d (qj hm).symm
theorem ok_Ie_29 (a r:LZ) (hm:m_Ie_29 a=some r):EE c_Ie_29 K_Ie_29 (s_Ie_29 a) (Post vf_Ie (res_Ie r)):=by
 refine gm c_Ie_34 K_Ie_34 (s_Ie_34 1 a) (wN a.length<|z0) ?_ (by kernel_rfl)
 obtain ⟨e,he,hm⟩:=bind_some hm
 refine loop_rule (u:=.c c_Ie_34) (K:=K_Ie_34) (Q:=(Post vf_Ie (res_Ie r))) (b:=lp_Ie_34) (We:=O_Ie_34 (Post vf_Ie (res_Ie r))) (stJ:=fun s=>s_Ie_34 s.1 s.2) (s:=(1,a)) (fun s y hb hin hout=>ok_Ie_34 s.1 s.2 y hb (Post vf_Ie (res_Ie r)) hin hout) he ?_
 show EE c_Ie_80 K_Ie_80 (s_Ie_80 e) _
 exact ok_Ie_80 e r hm
theorem ok_Ie_17 (p0:LI) (g c:Int) (a:LZ) (y) (hm:m_Ie_17 p0 g c a=some y) (Q)
  (hin:∀ s,y=.inl s→EE c_Ie_17 K_Ie_17 (s_Ie_17 p0 s.1 s.2.1 s.2.2) Q) (hout:∀ e,y=.inr e→O_Ie_17 Q e):EE c_Ie_17 K_Ie_17 (s_Ie_17 p0 g c a) Q:=by
 obtain ⟨f,hm⟩|⟨f,hm⟩:=split_ite hm
 ·obtain ⟨b,h,hm⟩:=bind_some hm
  obtain ⟨d,i,hm⟩:=bind_some hm
  exact gw (hin _ (qj hm).symm) (u1 f<|wO (.row ((rI .i64) b))<|wO (.rows (List.map rZb (a.set (0+Int.toNat c) (Zb.mk (FloatKind.nearest .f64 b) d.im))))<|wO (zn ((a.set (0+Int.toNat c) (Zb.mk (FloatKind.nearest .f64 b) d.im)).length))<|wP (by decide:(0:Int)≤3)<|wP (by decide:(0:Int)≤1)<|wP (by decide:(0:Int)≤1)<|wP (by decide:(0:Int)≤3)<|wP (rd_nn h)<|wP (at_row (rI .i64) (rd_get h))<|wP (rd_in rfl i)<|wP (put_ob rZb (Zb.mk (FloatKind.nearest .f64 b) d.im) 0 (.lit (.float .f64 (FloatKind.nearest .f64 b))) (rd_get0 i) (by kernel_rfl) (by kernel_rfl))<|wP (lens a.length ((a.set (0+Int.toNat c) (Zb.mk (FloatKind.nearest .f64 b) d.im)).length) (set_len rfl))<|z0) (by kernel_rfl)
 ·refine gm c_Ie_29 K_Ie_29 (s_Ie_29 a) (v1 f<|wN a.length<|z0) ?_ (by kernel_rfl)
  exact hout a (qj hm).symm
theorem ok_Ie_0 (p0:LI) (r:LZ) (hm:m_Ie_0 p0=some r):EE c_Ie_0 K_Ie_0 (s_Ie_0 p0) (Post vf_Ie (res_Ie r)):=by
 obtain ⟨a,f,hm⟩:=bind_some hm
 obtain ⟨d,hm⟩|⟨d,hm⟩:=split_ite hm
 ·obtain ⟨h,g,hm⟩:=bind_some hm
  refine gm c_Ie_17 K_Ie_17 (s_Ie_17 p0 ((Int.toNat 16):Int) 0 (List.replicate (Int.toNat 16) ((Zb.mk 0 0):Zb))) (wO (.res (res_Ik a))<|wP (ok_Ik p0 16 a f)<|v1 (not_f d)<|wO (.rows (List.map rZb (List.replicate (Int.toNat 16) ((Zb.mk 0 0):Zb))))<|wO (zn (Int.toNat 16))<|wO (zn ((List.replicate (Int.toNat 16) ((Zb.mk 0 0):Zb)).length))<|wP (ck_p g)<|wP (rep_ob rZb (Int.toNat 16) ((Zb.mk 0 0):Zb) [.lit (.float .f64 0),.lit (.float .f64 0)] (by kernel_rfl))<|wP (len_map rZb (show (Int.toNat 16)=(List.replicate (Int.toNat 16) ((Zb.mk 0 0):Zb)).length from (rep_len (Int.toNat 16) ((Zb.mk 0 0):Zb))))<|wP (lens (Int.toNat 16) ((List.replicate (Int.toNat 16) ((Zb.mk 0 0):Zb)).length) (rep_len (Int.toNat 16) ((Zb.mk 0 0):Zb)))<|z0) ?_ (by kernel_rfl)
  obtain ⟨e,he,hm⟩:=bind_some hm
  refine loop_rule (u:=.c c_Ie_17) (K:=K_Ie_17) (Q:=(Post vf_Ie (res_Ie r))) (b:=lp_Ie_17 p0) (We:=O_Ie_17 (Post vf_Ie (res_Ie r))) (stJ:=fun s=>s_Ie_17 p0 s.1 s.2.1 s.2.2) (s:=(((Int.toNat 16):Int),0,(List.replicate (Int.toNat 16) ((Zb.mk 0 0):Zb)))) (fun s y hb hin hout=>ok_Ie_17 p0 s.1 s.2.1 s.2.2 y hb (Post vf_Ie (res_Ie r)) hin hout) he ?_
  show EE c_Ie_29 K_Ie_29 (s_Ie_29 e) _
  exact ok_Ie_29 e r hm
 ·exact ge (wO (.res (res_Ik a))<|wP (ok_Ik p0 16 a f)<|u1 (not_t d)<|wO (.rows (List.map rZb ([]:LZ)))<|wP (all_le0 rZb ([]:LZ) rfl)<|wP (all_t rZb ([]:LZ) rfl)<|z0) (congrArg res_Ie (qj hm)) (by kernel_rfl)
theorem ok_Ie (p0:LI) (r:LZ) (hm:m_Ie p0=some r):Runs ext tbl 54 (as_Ie p0) (res_Ie r):=
 runs_of (vf:=vf_Ie) (by kernel_rfl) rfl (st:=(enter vf_Ie (as_Ie p0)).getD default) (by kernel_rfl) (go_on [] 1000 J0 (ok_Ie_0 p0 r hm) (by kernel_rfl))
def O_Ic_9 (Q:VX→St→Prop) (e:(LI)):Prop:=EE c_Ic_25 K_Ic_25 (s_Ic_25 e) Q
theorem ok_Ic_25 (a r:LI) (hm:m_Ic_25 a=some r):EE c_Ic_25 K_Ic_25 (s_Ic_25 a) (Post vf_Ic (res_Ic r)):=by
 exact ge (wR (rI .i64) a<|z0) (congrArg res_Ic (qj hm)) (by kernel_rfl)
theorem ok_Ic_9 (c:LZ) (h:Int) (a:LI) (y) (hm:m_Ic_9 c h a=some y) (Q)
  (hin:∀ s,y=.inl s→EE c_Ic_9 K_Ic_9 (s_Ic_9 c s.1 s.2) Q) (hout:∀ e,y=.inr e→O_Ic_9 Q e):EE c_Ic_9 K_Ic_9 (s_Ic_9 c h a) Q:=by
 obtain ⟨d,hm⟩|⟨d,hm⟩:=split_ite hm
 ·obtain ⟨i,f,hm⟩:=bind_some hm
  obtain ⟨g,hm⟩|⟨g,hm⟩:=split_ite hm
  ·obtain ⟨j,k,hm⟩:=bind_some hm
   obtain ⟨l,m,hm⟩:=bind_some hm
   obtain ⟨n,o,hm⟩:=bind_some hm
   obtain ⟨p,q,hm⟩:=bind_some hm
   obtain ⟨b,r,hm⟩:=bind_some hm
   obtain ⟨u,t,hm⟩:=bind_some hm
   exact gw (hin _ (qj hm).symm) (u1 d<|wO (.row (rZb i))<|wP (rd_in rfl f)<|wP (at_row rZb (rd_get0 f))<|u1 g<|wO (zn j)<|wO (zn l)<|wO (zn n)<|wO (zn p)<|wO (.int b)<|wO (.rows (mi ([b]:LI)))<|wO (zn 1)<|wO (.rows (mi (a++([b]:LI))))<|wO (zn ((a++([b]:LI)).length))<|wO (zn ((a++([b]:LI)).length))<|wO (zn c.length)<|wP k<|wP m<|wP o<|wP q<|wP r<|wP (Eq.refl (mi ([b]:LI)))<|wP (len_map (rI .i64) (show 1=([b]:LI).length from rfl))<|wP (all_le (rI .i64) ([b]:LI) rfl)<|wP (app_ck (rI .i64) a ([b]:LI) rfl rfl t)<|wP (app_tell (rI .i64) a ([b]:LI) rfl rfl)<|wP (len_map (rI .i64) (show (a++([b]:LI)).length=(a++([b]:LI)).length from rfl))<|wP (lens ((a++([b]:LI)).length) ((a++([b]:LI)).length) rfl)<|wP (ln c.length)<|z0) (by kernel_rfl)
  ·exact gw (hin _ (qj hm).symm) (u1 d<|wO (.row (rZb i))<|wP (rd_in rfl f)<|wP (at_row rZb (rd_get0 f))<|v1 g<|wN a.length<|wN c.length<|z0) (by kernel_rfl)
 ·refine gm c_Ic_25 K_Ic_25 (s_Ic_25 a) (v1 d<|wN a.length<|z0) ?_ (by kernel_rfl)
  exact hout a (qj hm).symm
theorem ok_Ic_0 (p0 r:LI) (hm:m_Ic_0 p0=some r):EE c_Ic_0 K_Ic_0 (s_Ic_0 p0) (Post vf_Ic (res_Ic r)):=by
 obtain ⟨a,d,hm⟩:=bind_some hm
 refine gm c_Ic_9 K_Ic_9 (s_Ic_9 a 0 ([]:LI)) (wO (.res (res_Ie a))<|wP (ok_Ie p0 a d)<|wL rZb a<|wO (zn (([]:LI).length))<|wP (lens 0 (([]:LI).length) rfl)<|wN a.length<|z0) ?_ (by kernel_rfl)
 obtain ⟨e,he,hm⟩:=bind_some hm
 refine loop_rule (u:=.c c_Ic_9) (K:=K_Ic_9) (Q:=(Post vf_Ic (res_Ic r))) (b:=lp_Ic_9 a) (We:=O_Ic_9 (Post vf_Ic (res_Ic r))) (stJ:=fun s=>s_Ic_9 a s.1 s.2) (s:=(0,([]:LI))) (fun s y hb hin hout=>ok_Ic_9 a s.1 s.2 y hb (Post vf_Ic (res_Ic r)) hin hout) he ?_
 show EE c_Ic_25 K_Ic_25 (s_Ic_25 e) _
 exact ok_Ic_25 e r hm
theorem ok_Ic (p0 r:LI) (hm:m_Ic p0=some r):Runs ext tbl 28 (as_Ic p0) (res_Ic r):=
 runs_of (vf:=vf_Ic) (by kernel_rfl) rfl (st:=(enter vf_Ic (as_Ic p0)).getD default) (by kernel_rfl) (go_on [] 1000 J0 (ok_Ic_0 p0 r hm) (by kernel_rfl))
def O_Ig_7 (Q:VX→St→Prop) (e:(Int)):Prop:=EE c_Ig_17 K_Ig_17 (s_Ig_17 e) Q
theorem ok_Ig_17 (a r:Int) (hm:m_Ig_17 a=some r):EE c_Ig_17 K_Ig_17 (s_Ig_17 a) (Post vf_Ig (res_Ig r)):=by
 exact ge (z0) (congrArg res_Ig (qj hm)) (by kernel_rfl)
theorem ok_Ig_7 (c a:Int) (y) (hm:m_Ig_7 c a=some y) (Q)
  (hin:∀ s,y=.inl s→EE c_Ig_7 K_Ig_7 (s_Ig_7 s.1 s.2) Q) (hout:∀ e,y=.inr e→O_Ig_7 Q e):EE c_Ig_7 K_Ig_7 (s_Ig_7 c a) Q:=by
 obtain ⟨b,hm⟩|⟨b,hm⟩:=split_ite hm
 ·exact gw (hin _ (qj hm).symm) (u1 b<|wP (by decide:(0:Int)≤1)<|z0) (by kernel_rfl)
 ·refine gm c_Ig_17 K_Ig_17 (s_Ig_17 a) (v1 b<|z0) ?_ (by kernel_rfl)
  exact hout a (qj hm).symm
theorem ok_Ig_0 (p0 r:Int) (hm:m_Ig_0 p0=some r):EE c_Ig_0 K_Ig_0 (s_Ig_0 p0) (Post vf_Ig (res_Ig r)):=by
 refine gm c_Ig_7 K_Ig_7 (s_Ig_7 p0 0) (z0) ?_ (by kernel_rfl)
 obtain ⟨e,he,hm⟩:=bind_some hm
 refine loop_rule (u:=.c c_Ig_7) (K:=K_Ig_7) (Q:=(Post vf_Ig (res_Ig r))) (b:=lp_Ig_7) (We:=O_Ig_7 (Post vf_Ig (res_Ig r))) (stJ:=fun s=>s_Ig_7 s.1 s.2) (s:=(p0,0)) (fun s y hb hin hout=>ok_Ig_7 s.1 s.2 y hb (Post vf_Ig (res_Ig r)) hin hout) he ?_
 show EE c_Ig_17 K_Ig_17 (s_Ig_17 e) _
 exact ok_Ig_17 e r hm
theorem ok_Ig (p0 r:Int) (hm:m_Ig p0=some r):Runs ext tbl 55 (as_Ig p0) (res_Ig r):=
 runs_of (vf:=vf_Ig) (by kernel_rfl) rfl (st:=(enter vf_Ig (as_Ig p0)).getD default) (by kernel_rfl) (go_on [] 1000 J0 (ok_Ig_0 p0 r hm) (by kernel_rfl))
theorem ok_Ia_0 (p0 p1 r:Int) (hm:m_Ia_0 p0 p1=some r):EE c_Ia_0 K_Ia_0 (s_Ia_0 p0 p1) (Post vf_Ia (res_Ia r)):=by
 obtain ⟨a,hm⟩|⟨a,hm⟩:=split_ite hm
 ·exact ge (u3 a<|u4 eT<|z0) (congrArg res_Ia (qj hm)) (by kernel_rfl)
 ·obtain ⟨b,hm⟩|⟨b,hm⟩:=split_ite hm
  ·exact ge (v3 a<|u3 b<|u1 eT<|z0) (congrArg res_Ia (qj hm)) (by kernel_rfl)
  ·obtain ⟨c,hm⟩|⟨c,hm⟩:=split_ite hm
   ·exact ge (v3 a<|v3 b<|u1 c<|z0) (congrArg res_Ia (qj hm)) (by kernel_rfl)
   ·obtain ⟨d,e,hm⟩:=bind_some hm
    exact ge (v3 a<|v3 b<|v1 c<|wO (.res (res_Ig d))<|wP (ok_Ig (wr .u64 p0) d e)<|wP (by decide:(2:Int)≠0)<|z0) (congrArg res_Ia (qj hm)) (by kernel_rfl)
theorem ok_Ia (p0 p1 r:Int) (hm:m_Ia p0 p1=some r):Runs ext tbl 29 (as_Ia p0 p1) (res_Ia r):=
 runs_of (vf:=vf_Ia) (by kernel_rfl) rfl (st:=(enter vf_Ia (as_Ia p0 p1)).getD default) (by kernel_rfl) (go_on [] 1000 J0 (ok_Ia_0 p0 p1 r hm) (by kernel_rfl))
theorem ok_Ii_0 (p0 r:LI) (hm:m_Ii_0 p0=some r):EE c_Ii_0 K_Ii_0 (s_Ii_0 p0) (Post vf_Ii (res_Ii r)):=by
 obtain ⟨b,a,hm⟩:=bind_some hm
 exact ge (wO (.rows (mi ([]:LI)))<|wO (zn 0)<|wO (.rows (mi (([]:LI)++p0)))<|wO (zn ((([]:LI)++p0).length))<|wO (.rows (mi (([]:LI)++p0)))<|wP (Eq.refl (mi ([]:LI)))<|wP (len_map (rI .i64) (show 0=([]:LI).length from rfl))<|wP (app_ck_ro (rI .i64) ([]:LI) p0 rfl a)<|wP (app_tell_ro (rI .i64) ([]:LI) p0 rfl)<|wP (len_map (rI .i64) (show (([]:LI)++p0).length=(([]:LI)++p0).length from rfl))<|wP (all_le0 (rI .i64) (([]:LI)++p0) rfl)<|wP (all_t (rI .i64) (([]:LI)++p0) rfl)<|z0) (congrArg res_Ii (qj hm)) (by kernel_rfl)
theorem ok_Ii (p0 r:LI) (hm:m_Ii p0=some r):Runs ext tbl 46 (as_Ii p0) (res_Ii r):=
 runs_of (vf:=vf_Ii) (by kernel_rfl) rfl (st:=(enter vf_Ii (as_Ii p0)).getD default) (by kernel_rfl) (go_on [] 1000 J0 (ok_Ii_0 p0 r hm) (by kernel_rfl))
theorem ok_Ih_0 (p0 r:Int) (hm:m_Ih_0 p0=some r):EE c_Ih_0 K_Ih_0 (s_Ih_0 p0) (Post vf_Ih (res_Ih r)):=by
 obtain ⟨c,hm⟩|⟨c,hm⟩:=split_ite hm
 ·obtain ⟨f,a,hm⟩:=bind_some hm
  exact ge (u1 c<|wO (.row ((rI .i64) f))<|wP (gix_in (tb_1_t) a)<|wP (gix_row (tb_1_t) a)<|z0) (congrArg res_Ih (qj hm)) (by kernel_rfl)
 ·obtain ⟨a,hm⟩|⟨a,hm⟩:=split_ite hm
  ·obtain ⟨g,b,hm⟩:=bind_some hm
   exact ge (v1 c<|u1 a<|wO (.row ((rI .i64) g))<|wP (gix_in (tb_1_t) b)<|wP (gix_row (tb_1_t) b)<|z0) (congrArg res_Ih (qj hm)) (by kernel_rfl)
  ·obtain ⟨b,hm⟩|⟨b,hm⟩:=split_ite hm
   ·obtain ⟨e,d,hm⟩:=bind_some hm
    exact ge (v1 c<|v1 a<|u1 b<|wO (.row ((rI .i64) e))<|wP (gix_in (tb_1_t) d)<|wP (gix_row (tb_1_t) d)<|z0) (congrArg res_Ih (qj hm)) (by kernel_rfl)
   ·obtain ⟨e,d,hm⟩:=bind_some hm
    exact ge (v1 c<|v1 a<|v1 b<|wO (.row ((rI .i64) e))<|wP (gix_in (tb_1_t) d)<|wP (gix_row (tb_1_t) d)<|z0) (congrArg res_Ih (qj hm)) (by kernel_rfl)
theorem ok_Ih (p0 r:Int) (hm:m_Ih p0=some r):Runs ext tbl 58 (as_Ih p0) (res_Ih r):=
 runs_of (vf:=vf_Ih) (by kernel_rfl) rfl (st:=(enter vf_Ih (as_Ih p0)).getD default) (by kernel_rfl) (go_on [] 1000 J0 (ok_Ih_0 p0 r hm) (by kernel_rfl))
def O_If_9 (Q:VX→St→Prop) (e:(LI)):Prop:=EE c_If_21 K_If_21 (s_If_21 e) Q
theorem ok_If_21 (a r:LI) (hm:m_If_21 a=some r):EE c_If_21 K_If_21 (s_If_21 a) (Post vf_If (res_If r)):=by
 exact ge (wR (rI .i64) a<|z0) (congrArg res_If (qj hm)) (by kernel_rfl)
end Go.Proofs.V

namespace Go.Proofs.V
open Go
theorem ok_If_9 (c:Int) (b:LI) (y) (hm:m_If_9 c b=some y) (Q)
  (hin:∀ s,y=.inl s→EE c_If_9 K_If_9 (s_If_9 s.1 s.2) Q) (hout:∀ e,y=.inr e→O_If_9 Q e):EE c_If_9 K_If_9 (s_If_9 c b) Q:=by
 obtain ⟨d,hm⟩|⟨d,hm⟩:=split_ite hm
 ·obtain ⟨a,f,hm⟩:=bind_some hm
  obtain ⟨h,g,hm⟩:=bind_some hm
  exact gw (hin _ (qj hm).symm) (u1 d<|wO (.res (res_Ih a))<|wO (.rows (mi ([a]:LI)))<|wO (zn 1)<|wO (.rows (mi (b++([a]:LI))))<|wO (zn ((b++([a]:LI)).length))<|wO (zn ((b++([a]:LI)).length))<|wP (ok_Ih (w64 (31 - (w64 (2*c)))) a f)<|wP (Eq.refl (mi ([a]:LI)))<|wP (len_map (rI .i64) (show 1=([a]:LI).length from rfl))<|wP (all_le (rI .i64) ([a]:LI) rfl)<|wP (app_ck (rI .i64) b ([a]:LI) rfl rfl g)<|wP (app_tell (rI .i64) b ([a]:LI) rfl rfl)<|wP (len_map (rI .i64) (show (b++([a]:LI)).length=(b++([a]:LI)).length from rfl))<|wP (lens ((b++([a]:LI)).length) ((b++([a]:LI)).length) rfl)<|z0) (by kernel_rfl)
 ·refine gm c_If_21 K_If_21 (s_If_21 b) (v1 d<|wN b.length<|z0) ?_ (by kernel_rfl)
  exact hout b (qj hm).symm
theorem ok_If_0 (r:LI) (hm:m_If_0=some r):EE c_If_0 K_If_0 (s_If_0) (Post vf_If (res_If r)):=by
 refine gm c_If_9 K_If_9 (s_If_9 0 ([]:LI)) (wO (zn (([]:LI).length))<|wP (lens 0 (([]:LI).length) rfl)<|z0) ?_ (by kernel_rfl)
 obtain ⟨e,he,hm⟩:=bind_some hm
 refine loop_rule (u:=.c c_If_9) (K:=K_If_9) (Q:=(Post vf_If (res_If r))) (b:=lp_If_9) (We:=O_If_9 (Post vf_If (res_If r))) (stJ:=fun s=>s_If_9 s.1 s.2) (s:=(0,([]:LI))) (fun s y hb hin hout=>ok_If_9 s.1 s.2 y hb (Post vf_If (res_If r)) hin hout) he ?_
 show EE c_If_21 K_If_21 (s_If_21 e) _
 exact ok_If_21 e r hm
theorem ok_If (r:LI) (hm:m_If=some r):Runs ext tbl 57 (as_If) (res_If r):=
 runs_of (vf:=vf_If) (by kernel_rfl) rfl (st:=(enter vf_If (as_If)).getD default) (by kernel_rfl) (go_on [] 1000 J0 (ok_If_0 r hm) (by kernel_rfl))
def O_Ib_38 (a:Int) (b c d:LI) (Q:VX→St→Prop) (e:(Int)):Prop:=EE c_Ib_50 K_Ib_50 (s_Ib_50 a b c d e) Q
def O_Ib_21 (Q:VX→St→Prop) (e:(LI)):Prop:=EE c_Ib_52 K_Ib_52 (s_Ib_52 e) Q
theorem ok_Ib_50 (f:Int) (d c b:LI) (a:Int) (y) (hm:m_Ib_50 f d c b a=some y) (Q)
  (hin:∀ s,y=.inl s→EE c_Ib_21 K_Ib_21 (s_Ib_21 c s.1 s.2.1 s.2.2) Q) (hout:∀ e,y=.inr e→O_Ib_21 Q e):EE c_Ib_50 K_Ib_50 (s_Ib_50 f d c b a) Q:=by
 obtain ⟨h,g,hm⟩:=bind_some hm
 exact gw (hin _ (qj hm).symm) (wO (.rows (mi ([(shrI .i64 a 14)]:LI)))<|wO (zn 1)<|wO (.rows (mi (b++([(shrI .i64 a 14)]:LI))))<|wO (zn ((b++([(shrI .i64 a 14)]:LI)).length))<|wO (zn d.length)<|wO (zn c.length)<|wO (zn ((b++([(shrI .i64 a 14)]:LI)).length))<|wP (by decide:(0:Int)≤14)<|wP (Eq.refl (mi ([(shrI .i64 a 14)]:LI)))<|wP (len_map (rI .i64) (show 1=([(shrI .i64 a 14)]:LI).length from rfl))<|wP (all_le (rI .i64) ([(shrI .i64 a 14)]:LI) rfl)<|wP (app_ck (rI .i64) b ([(shrI .i64 a 14)]:LI) rfl rfl g)<|wP (app_tell (rI .i64) b ([(shrI .i64 a 14)]:LI) rfl rfl)<|wP (len_map (rI .i64) (show (b++([(shrI .i64 a 14)]:LI)).length=(b++([(shrI .i64 a 14)]:LI)).length from rfl))<|wP (ln d.length)<|wP (ln c.length)<|wP (lens ((b++([(shrI .i64 a 14)]:LI)).length) ((b++([(shrI .i64 a 14)]:LI)).length) rfl)<|z0) (by kernel_rfl)
theorem ok_Ib_38 (d:Int) (a b c:LI) (f g:Int) (y) (hm:m_Ib_38 d a b c f g=some y) (Q)
  (hin:∀ s,y=.inl s→EE c_Ib_38 K_Ib_38 (s_Ib_38 d a b c s.1 s.2) Q) (hout:∀ e,y=.inr e→O_Ib_38 d a b c Q e):EE c_Ib_38 K_Ib_38 (s_Ib_38 d a b c f g) Q:=by
 obtain ⟨h,hm⟩|⟨h,hm⟩:=split_ite hm
 ·obtain ⟨l,i,hm⟩:=bind_some hm
  obtain ⟨m,j,hm⟩:=bind_some hm
  obtain ⟨k,n,hm⟩:=bind_some hm
  exact gw (hin _ (qj hm).symm) (u1 h<|wO (.row ((rI .i64) l))<|wO (.row ((rI .i64) m))<|wO (.res (res_Ih k))<|wO (zn a.length)<|wO (zn b.length)<|wO (zn c.length)<|wP (rd_in rfl i)<|wP (at_row (rI .i64) (rd_get0 i))<|wP (rd_in rfl j)<|wP (at_row (rI .i64) (rd_get0 j))<|wP (by decide:(0:Int)≤14)<|wP (ok_Ih (w64 ((w64 ((w64 (2*g))+17))*(w64 ((w64 (2*d))+1)))) k n)<|wP (ln a.length)<|wP (ln b.length)<|wP (ln c.length)<|z0) (by kernel_rfl)
 ·refine gm c_Ib_50 K_Ib_50 (s_Ib_50 d a b c f) (v1 h<|wK a.length b.length c.length<|z0) ?_ (by kernel_rfl)
  exact hout f (qj hm).symm
theorem ok_Ib_52 (a r:LI) (hm:m_Ib_52 a=some r):EE c_Ib_52 K_Ib_52 (s_Ib_52 a) (Post vf_Ib (res_Ib r)):=by
 exact ge (wR (rI .i64) a<|z0) (congrArg res_Ib (qj hm)) (by kernel_rfl)
theorem ok_Ib_21 (d:LI) (g:Int) (f a:LI) (y) (hm:m_Ib_21 d g f a=some y) (Q)
  (hin:∀ s,y=.inl s→EE c_Ib_21 K_Ib_21 (s_Ib_21 d s.1 s.2.1 s.2.2) Q) (hout:∀ e,y=.inr e→O_Ib_21 Q e):EE c_Ib_21 K_Ib_21 (s_Ib_21 d g f a) Q:=by
 obtain ⟨h,hm⟩|⟨h,hm⟩:=split_ite hm
 ·refine gm c_Ib_38 K_Ib_38 (s_Ib_38 g f d a 8192 0) (u1 h<|wK f.length d.length a.length<|z0) ?_ (by kernel_rfl)
  obtain ⟨e,he,hm⟩:=bind_some hm
  refine loop_rule (u:=.c c_Ib_38) (K:=K_Ib_38) (Q:=Q) (b:=lp_Ib_38 g f d a) (We:=O_Ib_38 g f d a Q) (stJ:=fun s=>s_Ib_38 g f d a s.1 s.2) (s:=(8192,0)) (fun s y hb hin hout=>ok_Ib_38 g f d a s.1 s.2 y hb Q hin hout) he ?_
  show EE c_Ib_50 K_Ib_50 (s_Ib_50 g f d a e) _
  exact ok_Ib_50 g f d a e y hm Q hin hout
 ·refine gm c_Ib_52 K_Ib_52 (s_Ib_52 a) (v1 h<|wN a.length<|z0) ?_ (by kernel_rfl)
  exact hout a (qj hm).symm
theorem ok_Ib_0 (p0 p1 r:LI) (hm:m_Ib_0 p0 p1=some r):EE c_Ib_0 K_Ib_0 (s_Ib_0 p0 p1) (Post vf_Ib (res_Ib r)):=by
 obtain ⟨f,i,hm⟩:=bind_some hm
 obtain ⟨g,hm⟩|⟨g,hm⟩:=split_ite hm
 ·obtain ⟨h,k,hm⟩:=bind_some hm
  obtain ⟨j,hm⟩|⟨j,hm⟩:=split_ite hm
  ·obtain ⟨a,l,hm⟩:=bind_some hm
   obtain ⟨o,m,hm⟩:=bind_some hm
   obtain ⟨d,n,hm⟩:=bind_some hm
   refine gm c_Ib_21 K_Ib_21 (s_Ib_21 d 0 (a++p1) ([]:LI)) (wO (.res (res_Ik f))<|wP (ok_Ik p0 16 f i)<|v2 (not_f g)<|wO (.res (res_Ik h))<|wP (ok_Ik p1 16 h k)<|v2 (not_f g)<|v1 (not_f j)<|wO (.res (res_Ii a))<|wP (ok_Ii p0 a l)<|wL (rI .i64) a<|wO (.rows (mi (a++p1)))<|wO (zn ((a++p1).length))<|wO (.res (res_If d))<|wP (app_ck_ro (rI .i64) a p1 rfl m)<|wP (app_tell_ro (rI .i64) a p1 rfl)<|wP (len_map (rI .i64) (show (a++p1).length=(a++p1).length from rfl))<|wP (ok_If  d n)<|wL (rI .i64) d<|wO (zn ((a++p1).length))<|wP (lens ((a++p1).length) ((a++p1).length) rfl)<|wN d.length<|wO (zn (([]:LI).length))<|wP (lens 0 (([]:LI).length) rfl)<|z0) ?_ (by kernel_rfl)
   obtain ⟨e,he,hm⟩:=bind_some hm
   refine loop_rule (u:=.c c_Ib_21) (K:=K_Ib_21) (Q:=(Post vf_Ib (res_Ib r))) (b:=lp_Ib_21 d) (We:=O_Ib_21 (Post vf_Ib (res_Ib r))) (stJ:=fun s=>s_Ib_21 d s.1 s.2.1 s.2.2) (s:=(0,(a++p1),([]:LI))) (fun s y hb hin hout=>ok_Ib_21 d s.1 s.2.1 s.2.2 y hb (Post vf_Ib (res_Ib r)) hin hout) he ?_
   show EE c_Ib_52 K_Ib_52 (s_Ib_52 e) _
   exact ok_Ib_52 e r hm
  ·exact ge (wO (.res (res_Ik f))<|wP (ok_Ik p0 16 f i)<|v2 (not_f g)<|wO (.res (res_Ik h))<|wP (ok_Ik p1 16 h k)<|v2 (not_f g)<|u1 (not_t j)<|wO (.rows (mi ([]:LI)))<|wP (all_le0 (rI .i64) ([]:LI) rfl)<|wP (all_t (rI .i64) ([]:LI) rfl)<|z0) (congrArg res_Ib (qj hm)) (by kernel_rfl)
 ·exact ge (wO (.res (res_Ik f))<|wP (ok_Ik p0 16 f i)<|u4 (not_t g)<|u1 eT<|wO (.rows (mi ([]:LI)))<|wP (all_le0 (rI .i64) ([]:LI) rfl)<|wP (all_t (rI .i64) ([]:LI) rfl)<|z0) (congrArg res_Ib (qj hm)) (by kernel_rfl)
theorem ok_Ib (p0 p1 r:LI) (hm:m_Ib p0 p1=some r):Runs ext tbl 30 (as_Ib p0 p1) (res_Ib r):=
 runs_of (vf:=vf_Ib) (by kernel_rfl) rfl (st:=(enter vf_Ib (as_Ib p0 p1)).getD default) (by kernel_rfl) (go_on [] 1000 J0 (ok_Ib_0 p0 p1 r hm) (by kernel_rfl))
def O_Id_61 (p1 a b p0:Int) (p2 c d:LI) (f:(List LI)) (g:(List LI)) (Q:VX→St→Prop) (e:(LI)):Prop:=EE c_Id_79 K_Id_79 (s_Id_79 p1 a b p0 p2 c d f g e) Q
def O_Id_42 (p1 a b p0:Int) (p2 c:LI) (d:(List LI)) (f:(List LI)) (Q:VX→St→Prop) (e:(Nat×LI×Nat)):Prop:=EE c_Id_54 K_Id_54 (s_Id_54 p1 a b p0 p2 c d f e.1 e.2.1 e.2.2) Q
def O_Id_23 (p0 p1:Int) (p2:LI) (Q:VX→St→Prop) (e:((List LI)×(List LI))):Prop:=EE c_Id_83 K_Id_83 (s_Id_83 p0 p1 p2 e.1 e.2) Q
theorem ok_Id_79 (p1 g h p0:Int) (p2 f a:LI) (c:(List LI)) (d:(List LI)) (b:LI) (y) (hm:m_Id_79 p1 g h p0 p2 f a c d b=some y) (Q)
  (hin:∀ s,y=.inl s→EE c_Id_23 K_Id_23 (s_Id_23 p1 p0 p2 s.1 s.2.1 s.2.2.1 s.2.2.2.1 s.2.2.2.2) Q) (hout:∀ e,y=.inr e→O_Id_23 p0 p1 p2 Q e):EE c_Id_79 K_Id_79 (s_Id_79 p1 g h p0 p2 f a c d b) Q:=by
 obtain ⟨k,i,hm⟩:=bind_some hm
 obtain ⟨l,j,hm⟩:=bind_some hm
 exact gw (hin _ (qj hm).symm) (wR (rI .i64) b<|wO (.rows (List.map (rL (rI .i64)) ([b]:List LI)))<|wO (zn 1)<|wO (.rows (List.map (rL (rI .i64)) (c++([b]:List LI))))<|wO (zn ((c++([b]:List LI)).length))<|wO (zi a)<|wO (.rows (List.map (rL (rI .i64)) ([a]:List LI)))<|wO (zn 1)<|wO (.rows (List.map (rL (rI .i64)) (d++([a]:List LI))))<|wO (zn ((d++([a]:List LI)).length))<|wO (zn f.length)<|wO (zn (([]:List LI).length))<|wO (zn (([]:List LI).length))<|wO (zn ((c++([b]:List LI)).length))<|wO (zn ((d++([a]:List LI)).length))<|wP (Eq.refl (List.map (rL (rI .i64)) ([b]:List LI)))<|wP (len_map (rL (rI .i64)) (show 1=([b]:List LI).length from rfl))<|wP (all_eq (rL (rI .i64)) ([b]:List LI) rfl)<|wP (all_le (rL (rI .i64)) ([b]:List LI) rfl)<|wP (app_ck_ro (rL (rI .i64)) c ([b]:List LI) rfl i)<|wP (app_tell_ro (rL (rI .i64)) c ([b]:List LI) rfl)<|wP (len_map (rL (rI .i64)) (show (c++([b]:List LI)).length=(c++([b]:List LI)).length from rfl))<|wA (rI .i64) a<|wP (Eq.refl (List.map (rL (rI .i64)) ([a]:List LI)))<|wP (len_map (rL (rI .i64)) (show 1=([a]:List LI).length from rfl))<|wP (all_eq (rL (rI .i64)) ([a]:List LI) rfl)<|wP (all_le (rL (rI .i64)) ([a]:List LI) rfl)<|wP (app_ck_ro (rL (rI .i64)) d ([a]:List LI) rfl j)<|wP (app_tell_ro (rL (rI .i64)) d ([a]:List LI) rfl)<|wP (len_map (rL (rI .i64)) (show (d++([a]:List LI)).length=(d++([a]:List LI)).length from rfl))<|wP (ln f.length)<|wP (lens (([]:List LI).length) (([]:List LI).length) rfl)<|wP (lens (([]:List LI).length) (([]:List LI).length) rfl)<|wP (lens ((c++([b]:List LI)).length) ((c++([b]:List LI)).length) rfl)<|wP (lens ((d++([a]:List LI)).length) ((d++([a]:List LI)).length) rfl)<|z0) (by kernel_rfl)
theorem ok_Id_61 (p1 k l:Int) (o:LI) (p0:Int) (p2 f g:LI) (h:(List LI)) (i:(List LI)) (d:Int) (b:LI) (y) (hm:m_Id_61 p1 k l o p0 p2 f g h i d b=some y) (Q)
  (hin:∀ s,y=.inl s→EE c_Id_61 K_Id_61 (s_Id_61 p1 k l o p0 p2 f g h i s.1 s.2) Q) (hout:∀ e,y=.inr e→O_Id_61 p1 k l p0 p2 f g h i Q e):EE c_Id_61 K_Id_61 (s_Id_61 p1 k l o p0 p2 f g h i d b) Q:=by
 obtain ⟨m,hm⟩|⟨m,hm⟩:=split_ite hm
 ·obtain ⟨c,j,hm⟩:=bind_some hm
  obtain ⟨a,n,hm⟩:=bind_some hm
  obtain ⟨u,r,hm⟩:=bind_some hm
  obtain ⟨p,hm⟩|⟨p,hm⟩:=split_ite hm
  ·obtain ⟨t,q,hm⟩:=bind_some hm
   exact gw (hin _ (qj hm).symm) (u1 m<|wO (.row ((rI .i64) c))<|wO (.row ((rI .i64) a))<|wO zT<|wO (.rows (mi (b.set (0+Int.toNat d) (w64 (0 - (w64 (Int.tdiv (w64 ((w64 (0 - c))+(w64 (Int.tdiv (shlI .i64 1 a) 2)))) (shlI .i64 1 a))))))))<|wO (zn f.length)<|wO (zn g.length)<|wO (zn ((b.set (0+Int.toNat d) (w64 (0 - (w64 (Int.tdiv (w64 ((w64 (0 - c))+(w64 (Int.tdiv (shlI .i64 1 a) 2)))) (shlI .i64 1 a)))))).length))<|wO (zn ((b.set (0+Int.toNat d) (w64 (0 - (w64 (Int.tdiv (w64 ((w64 (0 - c))+(w64 (Int.tdiv (shlI .i64 1 a) 2)))) (shlI .i64 1 a)))))).length))<|wO (zn (([]:List LI).length))<|wO (zn (([]:List LI).length))<|wO (zn h.length)<|wO (zn i.length)<|wP (rd_in rfl j)<|wP (at_row (rI .i64) (rd_get0 j))<|wP (by decide:(2:Int)≠0)<|wP (rd_in rfl n)<|wP (at_row (rI .i64) (rd_get0 n))<|wP (ck_p r)<|wP p<|wP (by decide:(2:Int)≠0)<|wP (ck_p q)<|wP (rd_in rfl j)<|wP (put_ob (rI .i64) (w64 (0 - (w64 (Int.tdiv (w64 ((w64 (0 - c))+(w64 (Int.tdiv (shlI .i64 1 a) 2)))) (shlI .i64 1 a))))) 0 (.lit (vI (w64 (0 - (w64 (Int.tdiv (w64 ((w64 (0 - c))+(w64 (Int.tdiv (shlI .i64 1 a) 2)))) (shlI .i64 1 a))))))) (rd_get0 j) (by kernel_rfl) (by kernel_rfl))<|wP (ln f.length)<|wP (ln g.length)<|wP (lens b.length ((b.set (0+Int.toNat d) (w64 (0 - (w64 (Int.tdiv (w64 ((w64 (0 - c))+(w64 (Int.tdiv (shlI .i64 1 a) 2)))) (shlI .i64 1 a)))))).length) (set_len rfl))<|wP (lens b.length ((b.set (0+Int.toNat d) (w64 (0 - (w64 (Int.tdiv (w64 ((w64 (0 - c))+(w64 (Int.tdiv (shlI .i64 1 a) 2)))) (shlI .i64 1 a)))))).length) (set_len rfl))<|wP (lens (([]:List LI).length) (([]:List LI).length) rfl)<|wP (lens (([]:List LI).length) (([]:List LI).length) rfl)<|wP (ln h.length)<|wP (ln i.length)<|z0) (by kernel_rfl)
  ·obtain ⟨t,q,hm⟩:=bind_some hm
   exact gw (hin _ (qj hm).symm) (u1 m<|wO (.row ((rI .i64) c))<|wO (.row ((rI .i64) a))<|wO zF<|wO (.rows (mi (b.set (0+Int.toNat d) (w64 (Int.tdiv (w64 (c+(w64 (Int.tdiv (shlI .i64 1 a) 2)))) (shlI .i64 1 a))))))<|wO (zn f.length)<|wO (zn g.length)<|wO (zn ((b.set (0+Int.toNat d) (w64 (Int.tdiv (w64 (c+(w64 (Int.tdiv (shlI .i64 1 a) 2)))) (shlI .i64 1 a)))).length))<|wO (zn ((b.set (0+Int.toNat d) (w64 (Int.tdiv (w64 (c+(w64 (Int.tdiv (shlI .i64 1 a) 2)))) (shlI .i64 1 a)))).length))<|wO (zn (([]:List LI).length))<|wO (zn (([]:List LI).length))<|wO (zn h.length)<|wO (zn i.length)<|wP (rd_in rfl j)<|wP (at_row (rI .i64) (rd_get0 j))<|wP (by decide:(2:Int)≠0)<|wP (rd_in rfl n)<|wP (at_row (rI .i64) (rd_get0 n))<|wP (ck_p r)<|wP p<|wP (by decide:(2:Int)≠0)<|wP (ck_p q)<|wP (rd_in rfl j)<|wP (put_ob (rI .i64) (w64 (Int.tdiv (w64 (c+(w64 (Int.tdiv (shlI .i64 1 a) 2)))) (shlI .i64 1 a))) 0 (.lit (vI (w64 (Int.tdiv (w64 (c+(w64 (Int.tdiv (shlI .i64 1 a) 2)))) (shlI .i64 1 a))))) (rd_get0 j) (by kernel_rfl) (by kernel_rfl))<|wP (ln f.length)<|wP (ln g.length)<|wP (lens b.length ((b.set (0+Int.toNat d) (w64 (Int.tdiv (w64 (c+(w64 (Int.tdiv (shlI .i64 1 a) 2)))) (shlI .i64 1 a)))).length) (set_len rfl))<|wP (lens b.length ((b.set (0+Int.toNat d) (w64 (Int.tdiv (w64 (c+(w64 (Int.tdiv (shlI .i64 1 a) 2)))) (shlI .i64 1 a)))).length) (set_len rfl))<|wP (lens (([]:List LI).length) (([]:List LI).length) rfl)<|wP (lens (([]:List LI).length) (([]:List LI).length) rfl)<|wP (ln h.length)<|wP (ln i.length)<|z0) (by kernel_rfl)
 ·refine gm c_Id_79 K_Id_79 (s_Id_79 p1 k l p0 p2 f g h i b) (v1 m<|wK f.length g.length b.length<|wO (zn (([]:List LI).length))<|wO (zn (([]:List LI).length))<|wP (lens (([]:List LI).length) (([]:List LI).length) rfl)<|wP (lens (([]:List LI).length) (([]:List LI).length) rfl)<|wN h.length<|wN i.length<|z0) ?_ (by kernel_rfl)
  exact hout b (qj hm).symm
theorem ok_Id_54 (p1 d j p0:Int) (p2 a:LI) (g:(List LI)) (h:(List LI)) (n54_0:Nat) (i:LI) (n54_2:Nat) (y) (hm:m_Id_54 p1 d j p0 p2 a g h n54_0 i n54_2=some y) (Q)
  (hin:∀ s,y=.inl s→EE c_Id_23 K_Id_23 (s_Id_23 p1 p0 p2 s.1 s.2.1 s.2.2.1 s.2.2.2.1 s.2.2.2.2) Q) (hout:∀ e,y=.inr e→O_Id_23 p0 p1 p2 Q e):EE c_Id_54 K_Id_54 (s_Id_54 p1 d j p0 p2 a g h n54_0 i n54_2) Q:=by
 obtain ⟨p,k,hm⟩:=bind_some hm
 obtain ⟨q,l,hm⟩:=bind_some hm
 obtain ⟨r,m,hm⟩:=bind_some hm
 obtain ⟨t,n,hm⟩:=bind_some hm
 obtain ⟨f,o,hm⟩:=bind_some hm
 refine gm c_Id_61 K_Id_61 (s_Id_61 p1 j d f p0 p2 a i g h 0 f) (wO (.rows (mi ((a.drop (0+(Int.toNat (w64 (16*d))))).take ((Int.toNat (w64 ((w64 (16*d))+16))) - (Int.toNat (w64 (16*d)))))))<|wO (.rows (mi ((a.drop n54_0).take n54_2)))<|wO (.res (res_Ib f))<|wO (zn f.length)<|wO (zn a.length)<|wO (zn i.length)<|wO (zn f.length)<|wO (zn f.length)<|wO (zn (([]:List LI).length))<|wO (zn (([]:List LI).length))<|wO (zn g.length)<|wO (zn h.length)<|wP (ck_p k)<|wP (ck_p l)<|wP (part_le (rI .i64) a (ck_p m))<|wP (part_dt (rI .i64) a (0+(Int.toNat (w64 (16*d)))) ((Int.toNat (w64 ((w64 (16*d))+16))) - (Int.toNat (w64 (16*d)))))<|wP (part_le (rI .i64) a (ck_p n))<|wP (part_dt (rI .i64) a n54_0 n54_2)<|wP (ok_Ib ((a.drop (0+(Int.toNat (w64 (16*d))))).take ((Int.toNat (w64 ((w64 (16*d))+16))) - (Int.toNat (w64 (16*d))))) ((a.drop n54_0).take n54_2) f o)<|wP (lm (rI .i64) f)<|wP (ln a.length)<|wP (ln i.length)<|wP (ln f.length)<|wP (ln f.length)<|wP (lens (([]:List LI).length) (([]:List LI).length) rfl)<|wP (lens (([]:List LI).length) (([]:List LI).length) rfl)<|wP (ln g.length)<|wP (ln h.length)<|z0) ?_ (by kernel_rfl)
 obtain ⟨e,he,hm⟩:=bind_some hm
 refine loop_rule (u:=.c c_Id_61) (K:=K_Id_61) (Q:=Q) (b:=lp_Id_61 p1 j d f p0 p2 a i g h) (We:=O_Id_61 p1 j d p0 p2 a i g h Q) (stJ:=fun s=>s_Id_61 p1 j d f p0 p2 a i g h s.1 s.2) (s:=(0,f)) (fun s y hb hin hout=>ok_Id_61 p1 j d f p0 p2 a i g h s.1 s.2 y hb Q hin hout) he ?_
 show EE c_Id_79 K_Id_79 (s_Id_79 p1 j d p0 p2 a i g h e) _
 exact ok_Id_79 p1 j d p0 p2 a i g h e y hm Q hin hout
theorem ok_Id_42 (p1 g h:Int) (i:LI) (p0:Int) (p2 c:LI) (d:(List LI)) (f:(List LI)) (n42_0:Nat) (k:Int) (b:LI) (n42_3:Nat) (y) (hm:m_Id_42 p1 g h i p0 p2 c d f n42_0 k b n42_3=some y) (Q)
  (hin:∀ s,y=.inl s→EE c_Id_42 K_Id_42 (s_Id_42 p1 g h i p0 p2 c d f s.1 s.2.1 s.2.2.1 s.2.2.2) Q) (hout:∀ e,y=.inr e→O_Id_42 p1 g h p0 p2 c d f Q e):EE c_Id_42 K_Id_42 (s_Id_42 p1 g h i p0 p2 c d f n42_0 k b n42_3) Q:=by
 obtain ⟨j,hm⟩|⟨j,hm⟩:=split_ite hm
 ·obtain ⟨l,m,hm⟩:=bind_some hm
  obtain ⟨a,n,hm⟩:=bind_some hm
  obtain ⟨p,o,hm⟩:=bind_some hm
  exact gw (hin _ (qj hm).symm) (u1 j<|wO (.row ((rI .i64) l))<|wO (.res (res_Ia a))<|wO (.rows (mi ([a]:LI)))<|wO (zn 1)<|wO (.rows (mi (b++([a]:LI))))<|wO (zn ((b++([a]:LI)).length))<|wO (zn c.length)<|wO (zn n42_3)<|wO (zn ((b++([a]:LI)).length))<|wO (zn i.length)<|wO (zn (([]:List LI).length))<|wO (zn (([]:List LI).length))<|wO (zn d.length)<|wO (zn f.length)<|wP (rd_in rfl m)<|wP (at_row (rI .i64) (rd_get0 m))<|wP (ok_Ia l p1 a n)<|wP (Eq.refl (mi ([a]:LI)))<|wP (len_map (rI .i64) (show 1=([a]:LI).length from rfl))<|wP (all_le (rI .i64) ([a]:LI) rfl)<|wP (app_ck (rI .i64) b ([a]:LI) rfl rfl o)<|wP (app_tell (rI .i64) b ([a]:LI) rfl rfl)<|wP (len_map (rI .i64) (show (b++([a]:LI)).length=(b++([a]:LI)).length from rfl))<|wP (ln c.length)<|wP (ln n42_3)<|wP (lens ((b++([a]:LI)).length) ((b++([a]:LI)).length) rfl)<|wP (ln i.length)<|wP (lens (([]:List LI).length) (([]:List LI).length) rfl)<|wP (lens (([]:List LI).length) (([]:List LI).length) rfl)<|wP (ln d.length)<|wP (ln f.length)<|z0) (by kernel_rfl)
 ·refine gm c_Id_54 K_Id_54 (s_Id_54 p1 g h p0 p2 c d f n42_0 b n42_3) (v1 j<|wK c.length n42_3 b.length<|wO (zn (([]:List LI).length))<|wO (zn (([]:List LI).length))<|wP (lens (([]:List LI).length) (([]:List LI).length) rfl)<|wP (lens (([]:List LI).length) (([]:List LI).length) rfl)<|wN d.length<|wN f.length<|z0) ?_ (by kernel_rfl)
  exact hout (n42_0,b,n42_3) (qj hm).symm
theorem ok_Id_83 (p0 p1:Int) (p2:LI) (a:(List LI)) (b:(List LI)) (r:Za) (hm:m_Id_83 p0 p1 p2 a b=some r):EE c_Id_83 K_Id_83 (s_Id_83 p0 p1 p2 a b) (Post vf_Id (res_Id r)):=by
 exact ge (wO (.rows (List.map (rL (rI .i64)) a))<|wO (.rows (List.map (rL (rI .i64)) b))<|wP (all_le0 (rL (rI .i64)) a rfl)<|wP (all_t (rL (rI .i64)) a rfl)<|wP (all_le0 (rL (rI .i64)) b rfl)<|wP (all_t (rL (rI .i64)) b rfl)<|z0) (congrArg res_Id (qj hm)) (by kernel_rfl)
theorem ok_Id_23 (p1 p0:Int) (p2:LI) (h a:Int) (d:LI) (f:(List LI)) (g:(List LI)) (y) (hm:m_Id_23 p1 p0 p2 h a d f g=some y) (Q)
  (hin:∀ s,y=.inl s→EE c_Id_23 K_Id_23 (s_Id_23 p1 p0 p2 s.1 s.2.1 s.2.2.1 s.2.2.2.1 s.2.2.2.2) Q) (hout:∀ e,y=.inr e→O_Id_23 p0 p1 p2 Q e):EE c_Id_23 K_Id_23 (s_Id_23 p1 p0 p2 h a d f g) Q:=by
 obtain ⟨j,hm⟩|⟨j,hm⟩:=split_ite hm
 ·obtain ⟨o,k,hm⟩:=bind_some hm
  obtain ⟨p,l,hm⟩:=bind_some hm
  obtain ⟨q,m,hm⟩:=bind_some hm
  obtain ⟨i,n,hm⟩:=bind_some hm
  refine gm c_Id_42 K_Id_42 (s_Id_42 p1 a h i p0 p2 d f g (0+(Int.toNat (w64 ((w64 (16*a))+16)))) 0 ([]:LI) ((Int.toNat (w64 ((w64 (16*a))+32))) - (Int.toNat (w64 ((w64 (16*a))+16))))) (u1 j<|wO (.rows (mi ((d.drop (0+(Int.toNat (w64 ((w64 (16*a))+16))))).take ((Int.toNat (w64 ((w64 (16*a))+32))) - (Int.toNat (w64 ((w64 (16*a))+16)))))))<|wO (.res (res_Ic i))<|wP (ck_p k)<|wP (ck_p l)<|wP (part_le (rI .i64) d (ck_p m))<|wP (part_dt (rI .i64) d (0+(Int.toNat (w64 ((w64 (16*a))+16)))) ((Int.toNat (w64 ((w64 (16*a))+32))) - (Int.toNat (w64 ((w64 (16*a))+16)))))<|wP (ok_Ic ((d.drop (0+(Int.toNat (w64 ((w64 (16*a))+16))))).take ((Int.toNat (w64 ((w64 (16*a))+32))) - (Int.toNat (w64 ((w64 (16*a))+16))))) i n)<|wL (rI .i64) i<|wN d.length<|wO (zn ((Int.toNat (w64 ((w64 (16*a))+32))) - (Int.toNat (w64 ((w64 (16*a))+16)))))<|wO (zn (([]:LI).length))<|wP (lens ((Int.toNat (w64 ((w64 (16*a))+32))) - (Int.toNat (w64 ((w64 (16*a))+16)))) ((Int.toNat (w64 ((w64 (16*a))+32))) - (Int.toNat (w64 ((w64 (16*a))+16)))) rfl)<|wP (lens 0 (([]:LI).length) rfl)<|wN i.length<|wO (zn (([]:List LI).length))<|wO (zn (([]:List LI).length))<|wP (lens (([]:List LI).length) (([]:List LI).length) rfl)<|wP (lens (([]:List LI).length) (([]:List LI).length) rfl)<|wN f.length<|wN g.length<|z0) ?_ (by kernel_rfl)
  obtain ⟨e,he,hm⟩:=bind_some hm
  refine loop_rule (u:=.c c_Id_42) (K:=K_Id_42) (Q:=Q) (b:=lp_Id_42 p1 a h i p0 p2 d f g) (We:=O_Id_42 p1 a h p0 p2 d f g Q) (stJ:=fun s=>s_Id_42 p1 a h i p0 p2 d f g s.1 s.2.1 s.2.2.1 s.2.2.2) (s:=((0+(Int.toNat (w64 ((w64 (16*a))+16)))),0,([]:LI),((Int.toNat (w64 ((w64 (16*a))+32))) - (Int.toNat (w64 ((w64 (16*a))+16)))))) (fun s y hb hin hout=>ok_Id_42 p1 a h i p0 p2 d f g s.1 s.2.1 s.2.2.1 s.2.2.2 y hb Q hin hout) he ?_
  show EE c_Id_54 K_Id_54 (s_Id_54 p1 a h p0 p2 d f g e.1 e.2.1 e.2.2) _
  exact ok_Id_54 p1 a h p0 p2 d f g e.1 e.2.1 e.2.2 y hm Q hin hout
 ·refine gm c_Id_83 K_Id_83 (s_Id_83 p0 p1 p2 f g) (v1 j<|wO (zn (([]:List LI).length))<|wO (zn (([]:List LI).length))<|wP (lens (([]:List LI).length) (([]:List LI).length) rfl)<|wP (lens (([]:List LI).length) (([]:List LI).length) rfl)<|wN f.length<|wN g.length<|z0) ?_ (by kernel_rfl)
  exact hout (f,g) (qj hm).symm
theorem ok_Id_5 (p0 p1:Int) (p2:LI) (d:Bool) (r:Za) (hm:m_Id_5 p0 p1 p2 d=some r):EE c_Id_5 K_Id_5 (s_Id_5 p0 p1 p2 d) (Post vf_Id (res_Id r)):=by
 obtain ⟨a,hm⟩|⟨a,hm⟩:=split_ite hm
 ·exact ge (u1 a<|wO (.rows (List.map (rL (rI .i64)) ([]:List LI)))<|wO (.rows (List.map (rL (rI .i64)) ([]:List LI)))<|wP (all_le0 (rL (rI .i64)) ([]:List LI) rfl)<|wP (all_t (rL (rI .i64)) ([]:List LI) rfl)<|wP (all_le0 (rL (rI .i64)) ([]:List LI) rfl)<|wP (all_t (rL (rI .i64)) ([]:List LI) rfl)<|z0) (congrArg res_Id (qj hm)) (by kernel_rfl)
 ·obtain ⟨i,g,hm⟩:=bind_some hm
  obtain ⟨j,h,hm⟩:=bind_some hm
  obtain ⟨k,f,hm⟩:=bind_some hm
  refine gm c_Id_23 K_Id_23 (s_Id_23 p1 p0 p2 (w64 ((w64 (Int.tdiv (w64 ((p2.length:Int)+15)) 16))+1)) 0 (((List.replicate (Int.toNat (w64 (16*(w64 ((w64 ((w64 (Int.tdiv (w64 ((p2.length:Int)+15)) 16))+1))+1))))) (0:Int)).take (0+(Int.toNat 16))++p2)++(List.replicate (Int.toNat (w64 (16*(w64 ((w64 ((w64 (Int.tdiv (w64 ((p2.length:Int)+15)) 16))+1))+1))))) (0:Int)).drop ((0+(Int.toNat 16))+p2.length)) ([]:List LI) ([]:List LI)) (v1 a<|wL (rI .i64) p2<|wL (rI .i64) p2<|wO (.rows (mi (List.replicate (Int.toNat (w64 (16*(w64 ((w64 ((w64 (Int.tdiv (w64 ((p2.length:Int)+15)) 16))+1))+1))))) (0:Int))))<|wO (zn (Int.toNat (w64 (16*(w64 ((w64 ((w64 (Int.tdiv (w64 ((p2.length:Int)+15)) 16))+1))+1))))))<|wO (.rows (mi (((List.replicate (Int.toNat (w64 (16*(w64 ((w64 ((w64 (Int.tdiv (w64 ((p2.length:Int)+15)) 16))+1))+1))))) (0:Int)).take (0+(Int.toNat 16))++p2)++(List.replicate (Int.toNat (w64 (16*(w64 ((w64 ((w64 (Int.tdiv (w64 ((p2.length:Int)+15)) 16))+1))+1))))) (0:Int)).drop ((0+(Int.toNat 16))+p2.length))))<|wO (zn p2.length)<|wO (zn ((((List.replicate (Int.toNat (w64 (16*(w64 ((w64 ((w64 (Int.tdiv (w64 ((p2.length:Int)+15)) 16))+1))+1))))) (0:Int)).take (0+(Int.toNat 16))++p2)++(List.replicate (Int.toNat (w64 (16*(w64 ((w64 ((w64 (Int.tdiv (w64 ((p2.length:Int)+15)) 16))+1))+1))))) (0:Int)).drop ((0+(Int.toNat 16))+p2.length)).length))<|wO (zn (([]:List LI).length))<|wO (zn (([]:List LI).length))<|wO (zn (([]:List LI).length))<|wO (zn (([]:List LI).length))<|wP (by decide:(16:Int)≠0)<|wP (ck_p g)<|wP (rep_ob (rI .i64) (Int.toNat (w64 (16*(w64 ((w64 ((w64 (Int.tdiv (w64 ((p2.length:Int)+15)) 16))+1))+1))))) (0:Int) [.lit (vI 0)] (by kernel_rfl))<|wP (len_map (rI .i64) (show (Int.toNat (w64 (16*(w64 ((w64 ((w64 (Int.tdiv (w64 ((p2.length:Int)+15)) 16))+1))+1)))))=(List.replicate (Int.toNat (w64 (16*(w64 ((w64 ((w64 (Int.tdiv (w64 ((p2.length:Int)+15)) 16))+1))+1))))) (0:Int)).length from (rep_len (Int.toNat (w64 (16*(w64 ((w64 ((w64 (Int.tdiv (w64 ((p2.length:Int)+15)) 16))+1))+1))))) (0:Int))))<|wP (ck_p h)<|wP (cpy_ck (rI .i64) (List.replicate (Int.toNat (w64 (16*(w64 ((w64 ((w64 (Int.tdiv (w64 ((p2.length:Int)+15)) 16))+1))+1))))) (0:Int)) p2 (ck_p f))<|wP (cpy_tell (rI .i64) (List.replicate (Int.toNat (w64 (16*(w64 ((w64 ((w64 (Int.tdiv (w64 ((p2.length:Int)+15)) 16))+1))+1))))) (0:Int)) p2 (0+(Int.toNat 16)))<|wP (len_map (rI .i64) (rfl:p2.length=p2.length))<|wP (lens (Int.toNat (w64 (16*(w64 ((w64 ((w64 (Int.tdiv (w64 ((p2.length:Int)+15)) 16))+1))+1))))) ((((List.replicate (Int.toNat (w64 (16*(w64 ((w64 ((w64 (Int.tdiv (w64 ((p2.length:Int)+15)) 16))+1))+1))))) (0:Int)).take (0+(Int.toNat 16))++p2)++(List.replicate (Int.toNat (w64 (16*(w64 ((w64 ((w64 (Int.tdiv (w64 ((p2.length:Int)+15)) 16))+1))+1))))) (0:Int)).drop ((0+(Int.toNat 16))+p2.length)).length) (Eq.trans (rep_len (Int.toNat (w64 (16*(w64 ((w64 ((w64 (Int.tdiv (w64 ((p2.length:Int)+15)) 16))+1))+1))))) (0:Int)) (Eq.symm (cpy_len (ck_p f)))))<|wP (lens (([]:List LI).length) (([]:List LI).length) rfl)<|wP (lens (([]:List LI).length) (([]:List LI).length) rfl)<|wP (lens 0 (([]:List LI).length) rfl)<|wP (lens 0 (([]:List LI).length) rfl)<|z0) ?_ (by kernel_rfl)
  obtain ⟨e,he,hm⟩:=bind_some hm
  refine loop_rule (u:=.c c_Id_23) (K:=K_Id_23) (Q:=(Post vf_Id (res_Id r))) (b:=lp_Id_23 p1 p0 p2) (We:=O_Id_23 p0 p1 p2 (Post vf_Id (res_Id r))) (stJ:=fun s=>s_Id_23 p1 p0 p2 s.1 s.2.1 s.2.2.1 s.2.2.2.1 s.2.2.2.2) (s:=((w64 ((w64 (Int.tdiv (w64 ((p2.length:Int)+15)) 16))+1)),0,(((List.replicate (Int.toNat (w64 (16*(w64 ((w64 ((w64 (Int.tdiv (w64 ((p2.length:Int)+15)) 16))+1))+1))))) (0:Int)).take (0+(Int.toNat 16))++p2)++(List.replicate (Int.toNat (w64 (16*(w64 ((w64 ((w64 (Int.tdiv (w64 ((p2.length:Int)+15)) 16))+1))+1))))) (0:Int)).drop ((0+(Int.toNat 16))+p2.length)),([]:List LI),([]:List LI))) (fun s y hb hin hout=>ok_Id_23 p1 p0 p2 s.1 s.2.1 s.2.2.1 s.2.2.2.1 s.2.2.2.2 y hb (Post vf_Id (res_Id r)) hin hout) he ?_
  show EE c_Id_83 K_Id_83 (s_Id_83 p0 p1 p2 e.1 e.2) _
  exact ok_Id_83 p0 p1 p2 e.1 e.2 r hm
theorem ok_Id_0 (p0 p1:Int) (p2:LI) (r:Za) (hm:m_Id_0 p0 p1 p2=some r):EE c_Id_0 K_Id_0 (s_Id_0 p0 p1 p2) (Post vf_Id (res_Id r)):=by
 obtain ⟨a,hm⟩|⟨a,hm⟩:=split_ite hm
 ·exact gw (ok_Id_5 _ _ _ _ r hm) (u3 a<|u4 eT<|u4 eT<|u2 eT<|wO (zn (([]:List LI).length))<|wO (zn (([]:List LI).length))<|wP (lens 0 (([]:List LI).length) rfl)<|wP (lens 0 (([]:List LI).length) rfl)<|z0) (by kernel_rfl)
 ·obtain ⟨b,hm⟩|⟨b,hm⟩:=split_ite hm
  ·exact gw (ok_Id_5 _ _ _ _ r hm) (v3 a<|u3 b<|u4 eT<|u3 eT<|wO (zn (([]:List LI).length))<|wO (zn (([]:List LI).length))<|wP (lens 0 (([]:List LI).length) rfl)<|wP (lens 0 (([]:List LI).length) rfl)<|z0) (by kernel_rfl)
  ·obtain ⟨c,hm⟩|⟨c,hm⟩:=split_ite hm
   ·exact gw (ok_Id_5 _ _ _ _ r hm) (v3 a<|v3 b<|u3 c<|u4 eT<|wO (zn (([]:List LI).length))<|wO (zn (([]:List LI).length))<|wP (lens 0 (([]:List LI).length) rfl)<|wP (lens 0 (([]:List LI).length) rfl)<|z0) (by kernel_rfl)
   ·obtain ⟨d,hm⟩|⟨d,hm⟩:=split_ite hm
    ·exact gw (ok_Id_5 _ _ _ _ r hm) (v3 a<|v3 b<|v3 c<|u4 d<|wO (zn (([]:List LI).length))<|wO (zn (([]:List LI).length))<|wP (lens 0 (([]:List LI).length) rfl)<|wP (lens 0 (([]:List LI).length) rfl)<|z0) (by kernel_rfl)
    ·obtain ⟨e,f,hm⟩:=bind_some hm
     exact gw (ok_Id_5 _ _ _ _ r hm) (v3 a<|v3 b<|v3 c<|v2 d<|wO (.res (res_Ij e))<|wP (ok_Ij p2 (-32768) 32767 4000 e f)<|v2 d<|wO (zn (([]:List LI).length))<|wO (zn (([]:List LI).length))<|wP (lens 0 (([]:List LI).length) rfl)<|wP (lens 0 (([]:List LI).length) rfl)<|z0) (by kernel_rfl)
theorem ok_Id (p0 p1:Int) (p2:LI) (r:Za) (hm:m_Id p0 p1 p2=some r):Runs ext tbl 7 (as_Id p0 p1 p2) (res_Id r):=
 runs_of (vf:=vf_Id) (by kernel_rfl) rfl (st:=(enter vf_Id (as_Id p0 p1 p2)).getD default) (by kernel_rfl) (go_on [] 1000 J0 (ok_Id_0 p0 p1 p2 r hm) (by kernel_rfl))
def O_La_15 (Q:VX→St→Prop) (e:(Bool)⊕((Unit))):Prop:=match e with | .inl e=>Q=Post vf_La (res_La e) | .inr e=>EE c_La_31 K_La_31 (s_La_31) Q
theorem ok_La_31 (r:Bool) (hm:m_La_31=some r):EE c_La_31 K_La_31 (s_La_31) (Post vf_La (res_La r)):=by
 exact ge (z0) (congrArg res_La (qj hm)) (by kernel_rfl)
theorem ok_La_15 (p0 p1:LI) (f:Int) (y) (hm:m_La_15 p0 p1 f=some y) (Q)
  (hin:∀ s,y=.inl s→EE c_La_15 K_La_15 (s_La_15 p0 p1 s) Q) (hout:∀ e,y=.inr e→O_La_15 Q e):EE c_La_15 K_La_15 (s_La_15 p0 p1 f) Q:=by
 obtain ⟨a,hm⟩|⟨a,hm⟩:=split_ite hm
 ·obtain ⟨g,b,hm⟩:=bind_some hm
  obtain ⟨h,c,hm⟩:=bind_some hm
  obtain ⟨d,hm⟩|⟨d,hm⟩:=split_ite hm
  ·have hQ:Q=Post vf_La (res_La false):=hout (.inl false) (qj hm).symm
   subst hQ
   exact ge (wL (rI .i64) p0<|u1 a<|wO (.row ((rI .i64) g))<|wO (.row ((rI .i64) h))<|wP (rd_nn b)<|wP (at_row (rI .i64) (rd_get b))<|wP (rd_nn c)<|wP (at_row (rI .i64) (rd_get c))<|u1 d<|z0) (rfl:res_La false=res_La false) (by kernel_rfl)
  ·exact gw (hin _ (qj hm).symm) (wL (rI .i64) p0<|u1 a<|wO (.row ((rI .i64) g))<|wO (.row ((rI .i64) h))<|wP (rd_nn b)<|wP (at_row (rI .i64) (rd_get b))<|wP (rd_nn c)<|wP (at_row (rI .i64) (rd_get c))<|v1 d<|z0) (by kernel_rfl)
 ·refine gm c_La_31 K_La_31 (s_La_31) (wL (rI .i64) p0<|v1 a<|z0) ?_ (by kernel_rfl)
  exact hout (.inr ()) (qj hm).symm
theorem ok_La_0 (p0 p1:LI) (r:Bool) (hm:m_La_0 p0 p1=some r):EE c_La_0 K_La_0 (s_La_0 p0 p1) (Post vf_La (res_La r)):=by
 obtain ⟨a,hm⟩|⟨a,hm⟩:=split_ite hm
 ·exact ge (wL (rI .i64) p0<|wL (rI .i64) p1<|u1 a<|z0) (congrArg res_La (qj hm)) (by kernel_rfl)
 ·refine gm c_La_15 K_La_15 (s_La_15 p0 p1 0) (wL (rI .i64) p0<|wL (rI .i64) p1<|v1 a<|z0) ?_ (by kernel_rfl)
  obtain ⟨e,he,hm⟩:=bind_some hm
  refine loop_rule (u:=.c c_La_15) (K:=K_La_15) (Q:=(Post vf_La (res_La r))) (b:=lp_La_15 p0 p1) (We:=O_La_15 (Post vf_La (res_La r))) (stJ:=fun s=>s_La_15 p0 p1 s) (s:=0) (fun s y hb hin hout=>ok_La_15 p0 p1 s y hb (Post vf_La (res_La r)) hin hout) he ?_
  rcases e with e | e
  ·exact congrArg (fun r=>Post vf_La (res_La r)) (qj hm).symm
  ·show EE c_La_31 K_La_31 (s_La_31) _
   exact ok_La_31 r hm
theorem ok_La (p0 p1:LI) (r:Bool) (hm:m_La p0 p1=some r):Runs ext tbl 9 (as_La p0 p1) (res_La r):=
 runs_of (vf:=vf_La) (by kernel_rfl) rfl (st:=(enter vf_La (as_La p0 p1)).getD default) (by kernel_rfl) (go_on [] 1000 J0 (ok_La_0 p0 p1 r hm) (by kernel_rfl))
def O_Lb_15 (Q:VX→St→Prop) (e:(Bool)⊕((Unit))):Prop:=match e with | .inl e=>Q=Post vf_Lb (res_Lb e) | .inr e=>EE c_Lb_31 K_Lb_31 (s_Lb_31) Q
theorem ok_Lb_31 (r:Bool) (hm:m_Lb_31=some r):EE c_Lb_31 K_Lb_31 (s_Lb_31) (Post vf_Lb (res_Lb r)):=by
 exact ge (z0) (congrArg res_Lb (qj hm)) (by kernel_rfl)
theorem ok_Lb_15 (p0:(List LI)) (p1:(List LI)) (i:Int) (y) (hm:m_Lb_15 p0 p1 i=some y) (Q)
  (hin:∀ s,y=.inl s→EE c_Lb_15 K_Lb_15 (s_Lb_15 p0 p1 s) Q) (hout:∀ e,y=.inr e→O_Lb_15 Q e):EE c_Lb_15 K_Lb_15 (s_Lb_15 p0 p1 i) Q:=by
 obtain ⟨a,hm⟩|⟨a,hm⟩:=split_ite hm
 ·obtain ⟨b,c,hm⟩:=bind_some hm
  obtain ⟨d,f,hm⟩:=bind_some hm
  obtain ⟨g,j,hm⟩:=bind_some hm
  obtain ⟨h,hm⟩|⟨h,hm⟩:=split_ite hm
  ·exact gw (hin _ (qj hm).symm) (wO (zn p0.length)<|wP (len_map (rL (rI .i64)) (show p0.length=p0.length from rfl))<|u1 a<|wO (.row ((rL (rI .i64)) b))<|wO (.row ((rL (rI .i64)) d))<|wO (.res (res_La g))<|wP (rd_nn c)<|wP (at_row (rL (rI .i64)) (rd_get c))<|wP (rd_nn f)<|wP (at_row (rL (rI .i64)) (rd_get f))<|wP (ok_La b d g j)<|v1 (not_f h)<|z0) (by kernel_rfl)
  ·have hQ:Q=Post vf_Lb (res_Lb false):=hout (.inl false) (qj hm).symm
   subst hQ
   exact ge (wO (zn p0.length)<|wP (len_map (rL (rI .i64)) (show p0.length=p0.length from rfl))<|u1 a<|wO (.row ((rL (rI .i64)) b))<|wO (.row ((rL (rI .i64)) d))<|wO (.res (res_La g))<|wP (rd_nn c)<|wP (at_row (rL (rI .i64)) (rd_get c))<|wP (rd_nn f)<|wP (at_row (rL (rI .i64)) (rd_get f))<|wP (ok_La b d g j)<|u1 (not_t h)<|z0) (rfl:res_Lb false=res_Lb false) (by kernel_rfl)
 ·refine gm c_Lb_31 K_Lb_31 (s_Lb_31) (wO (zn p0.length)<|wP (len_map (rL (rI .i64)) (show p0.length=p0.length from rfl))<|v1 a<|z0) ?_ (by kernel_rfl)
  exact hout (.inr ()) (qj hm).symm
theorem ok_Lb_0 (p0:(List LI)) (p1:(List LI)) (r:Bool) (hm:m_Lb_0 p0 p1=some r):EE c_Lb_0 K_Lb_0 (s_Lb_0 p0 p1) (Post vf_Lb (res_Lb r)):=by
 obtain ⟨a,hm⟩|⟨a,hm⟩:=split_ite hm
 ·exact ge (wO (zn p0.length)<|wO (zn p1.length)<|wP (len_map (rL (rI .i64)) (show p0.length=p0.length from rfl))<|wP (len_map (rL (rI .i64)) (show p1.length=p1.length from rfl))<|u1 a<|z0) (congrArg res_Lb (qj hm)) (by kernel_rfl)
 ·refine gm c_Lb_15 K_Lb_15 (s_Lb_15 p0 p1 0) (wO (zn p0.length)<|wO (zn p1.length)<|wP (len_map (rL (rI .i64)) (show p0.length=p0.length from rfl))<|wP (len_map (rL (rI .i64)) (show p1.length=p1.length from rfl))<|v1 a<|z0) ?_ (by kernel_rfl)
  obtain ⟨e,he,hm⟩:=bind_some hm
  refine loop_rule (u:=.c c_Lb_15) (K:=K_Lb_15) (Q:=(Post vf_Lb (res_Lb r))) (b:=lp_Lb_15 p0 p1) (We:=O_Lb_15 (Post vf_Lb (res_Lb r))) (stJ:=fun s=>s_Lb_15 p0 p1 s) (s:=0) (fun s y hb hin hout=>ok_Lb_15 p0 p1 s y hb (Post vf_Lb (res_Lb r)) hin hout) he ?_
  rcases e with e | e
  ·exact congrArg (fun r=>Post vf_Lb (res_Lb r)) (qj hm).symm
  ·show EE c_Lb_31 K_Lb_31 (s_Lb_31) _
   exact ok_Lb_31 r hm
theorem ok_Lb (p0:(List LI)) (p1:(List LI)) (r:Bool) (hm:m_Lb p0 p1=some r):Runs ext tbl 31 (as_Lb p0 p1) (res_Lb r):=
 runs_of (vf:=vf_Lb) (by kernel_rfl) rfl (st:=(enter vf_Lb (as_Lb p0 p1)).getD default) (by kernel_rfl) (go_on [] 1000 J0 (ok_Lb_0 p0 p1 r hm) (by kernel_rfl))
theorem ok_Lc_0 (p0 p1:Za) (r:Bool) (hm:m_Lc_0 p0 p1=some r):EE c_Lc_0 K_Lc_0 (s_Lc_0 p0 p1) (Post vf_Lc (res_Lc r)):=by
 obtain ⟨a,hm⟩|⟨a,hm⟩:=split_ite hm
 ·exact ge (u1 a<|z0) (congrArg res_Lc (qj hm)) (by kernel_rfl)
 ·obtain ⟨b,hm⟩|⟨b,hm⟩:=split_ite hm
  ·exact ge (v1 a<|u1 b<|z0) (congrArg res_Lc (qj hm)) (by kernel_rfl)
  ·obtain ⟨d,hm⟩|⟨d,hm⟩:=split_ite hm
   ·exact ge (v1 a<|v1 b<|u1 d<|z0) (congrArg res_Lc (qj hm)) (by kernel_rfl)
   ·obtain ⟨c,g,hm⟩:=bind_some hm
    obtain ⟨e,hm⟩|⟨e,hm⟩:=split_ite hm
    ·obtain ⟨f,i,hm⟩:=bind_some hm
     obtain ⟨h,hm⟩|⟨h,hm⟩:=split_ite hm
     ·exact ge (v1 a<|v1 b<|v1 d<|wO (.res (res_Lb c))<|wP (ok_Lb p0.slots p1.slots c g)<|v1 (not_f e)<|wO (.res (res_Lb f))<|wP (ok_Lb p0.grades p1.grades f i)<|v1 (not_f h)<|z0) (congrArg res_Lc (qj hm)) (by kernel_rfl)
     ·exact ge (v1 a<|v1 b<|v1 d<|wO (.res (res_Lb c))<|wP (ok_Lb p0.slots p1.slots c g)<|v1 (not_f e)<|wO (.res (res_Lb f))<|wP (ok_Lb p0.grades p1.grades f i)<|u1 (not_t h)<|z0) (congrArg res_Lc (qj hm)) (by kernel_rfl)
    ·exact ge (v1 a<|v1 b<|v1 d<|wO (.res (res_Lb c))<|wP (ok_Lb p0.slots p1.slots c g)<|u1 (not_t e)<|z0) (congrArg res_Lc (qj hm)) (by kernel_rfl)
theorem ok_Lc (p0 p1:Za) (r:Bool) (hm:m_Lc p0 p1=some r):Runs ext tbl 8 (as_Lc p0 p1) (res_Lc r):=
 runs_of (vf:=vf_Lc) (by kernel_rfl) rfl (st:=(enter vf_Lc (as_Lc p0 p1)).getD default) (by kernel_rfl) (go_on [] 1000 J0 (ok_Lc_0 p0 p1 r hm) (by kernel_rfl))
def O_Lg_7 (Q:VX→St→Prop) (e:(Int×LI)):Prop:=EE c_Lg_19 K_Lg_19 (s_Lg_19 e.1 e.2) Q
theorem ok_Lg_19 (a:Int) (b:LI) (r:Int×LI) (hm:m_Lg_19 a b=some r):EE c_Lg_19 K_Lg_19 (s_Lg_19 a b) (Post vf_Lg (res_Lg r)):=by
 exact ge (z0) (congrArg res_Lg (qj hm)) (by kernel_rfl)
theorem ok_Lg_7 (a c:Int) (b:LI) (y) (hm:m_Lg_7 a c b=some y) (Q)
  (hin:∀ s,y=.inl s→EE c_Lg_7 K_Lg_7 (s_Lg_7 s.1 s.2.1 s.2.2) Q) (hout:∀ e,y=.inr e→O_Lg_7 Q e):EE c_Lg_7 K_Lg_7 (s_Lg_7 a c b) Q:=by
 obtain ⟨d,hm⟩|⟨d,hm⟩:=split_ite hm
 ·obtain ⟨g,f,hm⟩:=bind_some hm
  exact gw (hin _ (qj hm).symm) (u1 d<|wO (.rows (mi (b.set (0+Int.toNat c) a)))<|wO (zn ((b.set (0+Int.toNat c) a).length))<|wP (rd_in rfl f)<|wP (put_ob (rI .i64) a 0 (.lit (vI a)) (rd_get0 f) (by kernel_rfl) (by kernel_rfl))<|wP (lens b.length ((b.set (0+Int.toNat c) a).length) (set_len rfl))<|z0) (by kernel_rfl)
 ·refine gm c_Lg_19 K_Lg_19 (s_Lg_19 a b) (v1 d<|wN b.length<|z0) ?_ (by kernel_rfl)
  exact hout (a,b) (qj hm).symm
theorem ok_Lg_0 (p1:Int) (p0:LI) (r:Int×LI) (hm:m_Lg_0 p1 p0=some r):EE c_Lg_0 K_Lg_0 (s_Lg_0 p1 p0) (Post vf_Lg (res_Lg r)):=by
 refine gm c_Lg_7 K_Lg_7 (s_Lg_7 p1 0 p0) (wN p0.length<|z0) ?_ (by kernel_rfl)
 obtain ⟨e,he,hm⟩:=bind_some hm
 refine loop_rule (u:=.c c_Lg_7) (K:=K_Lg_7) (Q:=(Post vf_Lg (res_Lg r))) (b:=lp_Lg_7) (We:=O_Lg_7 (Post vf_Lg (res_Lg r))) (stJ:=fun s=>s_Lg_7 s.1 s.2.1 s.2.2) (s:=(p1,0,p0)) (fun s y hb hin hout=>ok_Lg_7 s.1 s.2.1 s.2.2 y hb (Post vf_Lg (res_Lg r)) hin hout) he ?_
 show EE c_Lg_19 K_Lg_19 (s_Lg_19 e.1 e.2) _
 exact ok_Lg_19 e.1 e.2 r hm
theorem ok_Lg (p0:LI) (p1:Int) (r:Int×LI) (hm:m_Lg p0 p1=some r):Runs ext tbl 10 (as_Lg p0 p1) (res_Lg r):=
 runs_of (vf:=vf_Lg) (by kernel_rfl) rfl (st:=(enter vf_Lg (as_Lg p0 p1)).getD default) (by kernel_rfl) (go_on [zn p0.length] 1000 (J (len_map (rI .i64) (rfl:p0.length=p0.length)) J0) (ok_Lg_0 p1 p0 r hm) (by kernel_rfl))
def O_Lh_7 (Q:VX→St→Prop) (e:(Int×(List LI))):Prop:=EE c_Lh_17 K_Lh_17 (s_Lh_17 e.1 e.2) Q
theorem ok_Lh_17 (a:Int) (b:(List LI)) (r:Int×(List LI)) (hm:m_Lh_17 a b=some r):EE c_Lh_17 K_Lh_17 (s_Lh_17 a b) (Post vf_Lh (res_Lh r)):=by
 exact ge (z0) (congrArg res_Lh (qj hm)) (by kernel_rfl)
theorem ok_Lh_7 (f d:Int) (a:(List LI)) (y) (hm:m_Lh_7 f d a=some y) (Q)
  (hin:∀ s,y=.inl s→EE c_Lh_7 K_Lh_7 (s_Lh_7 s.1 s.2.1 s.2.2) Q) (hout:∀ e,y=.inr e→O_Lh_7 Q e):EE c_Lh_7 K_Lh_7 (s_Lh_7 f d a) Q:=by
 obtain ⟨h,hm⟩|⟨h,hm⟩:=split_ite hm
 ·obtain ⟨b,g,hm⟩:=bind_some hm
  obtain ⟨c,i,hm⟩:=bind_some hm
  obtain ⟨k,j,hm⟩:=bind_some hm
  exact gw (hin _ (qj hm).symm) (u1 h<|wO (.row ((rL (rI .i64)) b))<|wP (rd_in rfl g)<|wP (at_row (rL (rI .i64)) (rd_get0 g))<|wL (rI .i64) b<|wO (.row ((rL (rI .i64)) b))<|wO (.res (res_Lg c))<|wO (.row ((rL (rI .i64)) b))<|wO (.row ((rL (rI .i64)) b))<|wO (.rows (List.map (rL (rI .i64)) (a.set (0+Int.toNat d) c.2)))<|wO (zn ((a.set (0+Int.toNat d) c.2).length))<|wP (at_row (rL (rI .i64)) (rd_get0 g))<|wP (all_eq (rI .i64) b rfl)<|wP (ok_Lg b f c i)<|wP (at_row (rL (rI .i64)) (rd_get0 g))<|wP (len2 (rI .i64) c.2 b (ck_p j))<|wP (at_row (rL (rI .i64)) (rd_get0 g))<|wP (upd_ob (rL (rI .i64)) a (0+Int.toNat d) b c.2 0 (.sl (c.2.map (rI .i64))) (by kernel_rfl))<|wP (lens a.length ((a.set (0+Int.toNat d) c.2).length) (set_len rfl))<|z0) (by kernel_rfl)
 ·refine gm c_Lh_17 K_Lh_17 (s_Lh_17 f a) (v1 h<|wN a.length<|z0) ?_ (by kernel_rfl)
  exact hout (f,a) (qj hm).symm
theorem ok_Lh_0 (p1:Int) (p0:(List LI)) (r:Int×(List LI)) (hm:m_Lh_0 p1 p0=some r):EE c_Lh_0 K_Lh_0 (s_Lh_0 p1 p0) (Post vf_Lh (res_Lh r)):=by
 refine gm c_Lh_7 K_Lh_7 (s_Lh_7 p1 0 p0) (wN p0.length<|z0) ?_ (by kernel_rfl)
 obtain ⟨e,he,hm⟩:=bind_some hm
 refine loop_rule (u:=.c c_Lh_7) (K:=K_Lh_7) (Q:=(Post vf_Lh (res_Lh r))) (b:=lp_Lh_7) (We:=O_Lh_7 (Post vf_Lh (res_Lh r))) (stJ:=fun s=>s_Lh_7 s.1 s.2.1 s.2.2) (s:=(p1,0,p0)) (fun s y hb hin hout=>ok_Lh_7 s.1 s.2.1 s.2.2 y hb (Post vf_Lh (res_Lh r)) hin hout) he ?_
 show EE c_Lh_17 K_Lh_17 (s_Lh_17 e.1 e.2) _
 exact ok_Lh_17 e.1 e.2 r hm
theorem ok_Lh (p0:(List LI)) (p1:Int) (r:Int×(List LI)) (hm:m_Lh p0 p1=some r):Runs ext tbl 32 (as_Lh p0 p1) (res_Lh r):=
 runs_of (vf:=vf_Lh) (by kernel_rfl) rfl (st:=(enter vf_Lh (as_Lh p0 p1)).getD default) (by kernel_rfl) (go_on [zn p0.length] 1000 (J (len_map (rL (rI .i64)) (rfl:p0.length=p0.length)) J0) (ok_Lh_0 p1 p0 r hm) (by kernel_rfl))
theorem ok_Li_0 (p0:Za) (p1:Int) (r:Int×Za) (hm:m_Li_0 p0 p1=some r):EE c_Li_0 K_Li_0 (s_Li_0 p0 p1) (Post vf_Li (res_Li r)):=by
 obtain ⟨a,c,hm⟩:=bind_some hm
 obtain ⟨g,d,hm⟩:=bind_some hm
 obtain ⟨b,e,hm⟩:=bind_some hm
 obtain ⟨h,f,hm⟩:=bind_some hm
 exact ge (wO (.res (res_Lh a))<|wO (.res (res_Lh b))<|wP (all_eq (rL (rI .i64)) p0.slots rfl)<|wP (ok_Lh p0.slots p1 a c)<|wP (len2 (rL (rI .i64)) a.2 p0.slots (ck_p d))<|wP (all_eq (rL (rI .i64)) p0.grades rfl)<|wP (ok_Lh p0.grades a.1 b e)<|wP (len2 (rL (rI .i64)) b.2 p0.grades (ck_p f))<|z0) (congrArg res_Li (qj hm)) (by kernel_rfl)
theorem ok_Li (p0:Za) (p1:Int) (r:Int×Za) (hm:m_Li p0 p1=some r):Runs ext tbl 11 (as_Li p0 p1) (res_Li r):=
 runs_of (vf:=vf_Li) (by kernel_rfl) rfl (st:=(enter vf_Li (as_Li p0 p1)).getD default) (by kernel_rfl) (go_on [zn p0.slots.length,zn p0.grades.length] 1000 (J (len_map (rL (rI .i64)) (rfl:p0.slots.length=p0.slots.length)) (J (len_map (rL (rI .i64)) (rfl:p0.grades.length=p0.grades.length)) J0)) (ok_Li_0 p0 p1 r hm) (by kernel_rfl))
def O_Ld_7 (Q:VX→St→Prop) (e:(Int)⊕((Int))):Prop:=match e with | .inl e=>Q=Post vf_Ld (res_Ld e) | .inr e=>EE c_Ld_25 K_Ld_25 (s_Ld_25 e) Q
theorem ok_Ld_25 (a r:Int) (hm:m_Ld_25 a=some r):EE c_Ld_25 K_Ld_25 (s_Ld_25 a) (Post vf_Ld (res_Ld r)):=by
 exact ge (z0) (congrArg res_Ld (qj hm)) (by kernel_rfl)
theorem ok_Ld_7 (p0:LI) (a f:Int) (y) (hm:m_Ld_7 p0 a f=some y) (Q)
  (hin:∀ s,y=.inl s→EE c_Ld_7 K_Ld_7 (s_Ld_7 p0 s.1 s.2) Q) (hout:∀ e,y=.inr e→O_Ld_7 Q e):EE c_Ld_7 K_Ld_7 (s_Ld_7 p0 a f) Q:=by
 obtain ⟨b,hm⟩|⟨b,hm⟩:=split_ite hm
 ·obtain ⟨g,c,hm⟩:=bind_some hm
  obtain ⟨d,hm⟩|⟨d,hm⟩:=split_ite hm
  ·have hQ:Q=Post vf_Ld (res_Ld (-1)):=hout (.inl (-1)) (qj hm).symm
   subst hQ
   exact ge (wL (rI .i64) p0<|u1 b<|wO (.row ((rI .i64) g))<|wP (rd_nn c)<|wP (at_row (rI .i64) (rd_get c))<|u1 d<|z0) (rfl:res_Ld (-1)=res_Ld (-1)) (by kernel_rfl)
  ·exact gw (hin _ (qj hm).symm) (wL (rI .i64) p0<|u1 b<|wO (.row ((rI .i64) g))<|wP (rd_nn c)<|wP (at_row (rI .i64) (rd_get c))<|v1 d<|z0) (by kernel_rfl)
 ·refine gm c_Ld_25 K_Ld_25 (s_Ld_25 a) (wL (rI .i64) p0<|v1 b<|z0) ?_ (by kernel_rfl)
  exact hout (.inr a) (qj hm).symm
theorem ok_Ld_0 (p0:LI) (p1 r:Int) (hm:m_Ld_0 p0 p1=some r):EE c_Ld_0 K_Ld_0 (s_Ld_0 p0 p1) (Post vf_Ld (res_Ld r)):=by
 refine gm c_Ld_7 K_Ld_7 (s_Ld_7 p0 p1 0) (z0) ?_ (by kernel_rfl)
 obtain ⟨e,he,hm⟩:=bind_some hm
 refine loop_rule (u:=.c c_Ld_7) (K:=K_Ld_7) (Q:=(Post vf_Ld (res_Ld r))) (b:=lp_Ld_7 p0) (We:=O_Ld_7 (Post vf_Ld (res_Ld r))) (stJ:=fun s=>s_Ld_7 p0 s.1 s.2) (s:=(p1,0)) (fun s y hb hin hout=>ok_Ld_7 p0 s.1 s.2 y hb (Post vf_Ld (res_Ld r)) hin hout) he ?_
 rcases e with e | e
 ·exact congrArg (fun r=>Post vf_Ld (res_Ld r)) (qj hm).symm
 ·show EE c_Ld_25 K_Ld_25 (s_Ld_25 e) _
  exact ok_Ld_25 e r hm
theorem ok_Ld (p0:LI) (p1 r:Int) (hm:m_Ld p0 p1=some r):Runs ext tbl 59 (as_Ld p0 p1) (res_Ld r):=
 runs_of (vf:=vf_Ld) (by kernel_rfl) rfl (st:=(enter vf_Ld (as_Ld p0 p1)).getD default) (by kernel_rfl) (go_on [] 1000 J0 (ok_Ld_0 p0 p1 r hm) (by kernel_rfl))
def O_Le_7 (Q:VX→St→Prop) (e:(Int)⊕((Int))):Prop:=match e with | .inl e=>Q=Post vf_Le (res_Le e) | .inr e=>EE c_Le_25 K_Le_25 (s_Le_25 e) Q
theorem ok_Le_25 (a r:Int) (hm:m_Le_25 a=some r):EE c_Le_25 K_Le_25 (s_Le_25 a) (Post vf_Le (res_Le r)):=by
 exact ge (z0) (congrArg res_Le (qj hm)) (by kernel_rfl)
theorem ok_Le_7 (p0:(List LI)) (a h:Int) (y) (hm:m_Le_7 p0 a h=some y) (Q)
  (hin:∀ s,y=.inl s→EE c_Le_7 K_Le_7 (s_Le_7 p0 s.1 s.2) Q) (hout:∀ e,y=.inr e→O_Le_7 Q e):EE c_Le_7 K_Le_7 (s_Le_7 p0 a h) Q:=by
 obtain ⟨b,hm⟩|⟨b,hm⟩:=split_ite hm
 ·obtain ⟨c,d,hm⟩:=bind_some hm
  obtain ⟨f,i,hm⟩:=bind_some hm
  obtain ⟨g,hm⟩|⟨g,hm⟩:=split_ite hm
  ·have hQ:Q=Post vf_Le (res_Le (-1)):=hout (.inl (-1)) (qj hm).symm
   subst hQ
   exact ge (wO (zn p0.length)<|wP (len_map (rL (rI .i64)) (show p0.length=p0.length from rfl))<|u1 b<|wO (.row ((rL (rI .i64)) c))<|wO (.res (res_Ld f))<|wP (rd_nn d)<|wP (at_row (rL (rI .i64)) (rd_get d))<|wP (ok_Ld c a f i)<|u1 g<|z0) (rfl:res_Le (-1)=res_Le (-1)) (by kernel_rfl)
  ·exact gw (hin _ (qj hm).symm) (wO (zn p0.length)<|wP (len_map (rL (rI .i64)) (show p0.length=p0.length from rfl))<|u1 b<|wO (.row ((rL (rI .i64)) c))<|wO (.res (res_Ld f))<|wP (rd_nn d)<|wP (at_row (rL (rI .i64)) (rd_get d))<|wP (ok_Ld c a f i)<|v1 g<|z0) (by kernel_rfl)
 ·refine gm c_Le_25 K_Le_25 (s_Le_25 a) (wO (zn p0.length)<|wP (len_map (rL (rI .i64)) (show p0.length=p0.length from rfl))<|v1 b<|z0) ?_ (by kernel_rfl)
  exact hout (.inr a) (qj hm).symm
theorem ok_Le_0 (p0:(List LI)) (p1 r:Int) (hm:m_Le_0 p0 p1=some r):EE c_Le_0 K_Le_0 (s_Le_0 p0 p1) (Post vf_Le (res_Le r)):=by
 refine gm c_Le_7 K_Le_7 (s_Le_7 p0 p1 0) (z0) ?_ (by kernel_rfl)
 obtain ⟨e,he,hm⟩:=bind_some hm
 refine loop_rule (u:=.c c_Le_7) (K:=K_Le_7) (Q:=(Post vf_Le (res_Le r))) (b:=lp_Le_7 p0) (We:=O_Le_7 (Post vf_Le (res_Le r))) (stJ:=fun s=>s_Le_7 p0 s.1 s.2) (s:=(p1,0)) (fun s y hb hin hout=>ok_Le_7 p0 s.1 s.2 y hb (Post vf_Le (res_Le r)) hin hout) he ?_
 rcases e with e | e
 ·exact congrArg (fun r=>Post vf_Le (res_Le r)) (qj hm).symm
 ·show EE c_Le_25 K_Le_25 (s_Le_25 e) _
  exact ok_Le_25 e r hm
theorem ok_Le (p0:(List LI)) (p1 r:Int) (hm:m_Le p0 p1=some r):Runs ext tbl 33 (as_Le p0 p1) (res_Le r):=
 runs_of (vf:=vf_Le) (by kernel_rfl) rfl (st:=(enter vf_Le (as_Le p0 p1)).getD default) (by kernel_rfl) (go_on [] 1000 J0 (ok_Le_0 p0 p1 r hm) (by kernel_rfl))
theorem ok_Lf_0 (p0:Za) (p1 r:Int) (hm:m_Lf_0 p0 p1=some r):EE c_Lf_0 K_Lf_0 (s_Lf_0 p0 p1) (Post vf_Lf (res_Lf r)):=by
 obtain ⟨a,d,hm⟩:=bind_some hm
 obtain ⟨b,hm⟩|⟨b,hm⟩:=split_ite hm
 ·exact ge (wO (.res (res_Le a))<|wP (ok_Le p0.slots p1 a d)<|u1 b<|z0) (congrArg res_Lf (qj hm)) (by kernel_rfl)
 ·obtain ⟨c,f,hm⟩:=bind_some hm
  obtain ⟨e,hm⟩|⟨e,hm⟩:=split_ite hm
  ·exact ge (wO (.res (res_Le a))<|wP (ok_Le p0.slots p1 a d)<|v1 b<|wO (.res (res_Le c))<|wP (ok_Le p0.grades a c f)<|u1 e<|z0) (congrArg res_Lf (qj hm)) (by kernel_rfl)
  ·exact ge (wO (.res (res_Le a))<|wP (ok_Le p0.slots p1 a d)<|v1 b<|wO (.res (res_Le c))<|wP (ok_Le p0.grades a c f)<|v1 e<|z0) (congrArg res_Lf (qj hm)) (by kernel_rfl)
theorem ok_Lf (p0:Za) (p1 r:Int) (hm:m_Lf p0 p1=some r):Runs ext tbl 12 (as_Lf p0 p1) (res_Lf r):=
 runs_of (vf:=vf_Lf) (by kernel_rfl) rfl (st:=(enter vf_Lf (as_Lf p0 p1)).getD default) (by kernel_rfl) (go_on [] 1000 J0 (ok_Lf_0 p0 p1 r hm) (by kernel_rfl))
theorem ok_laws_FnExactTonesOf_0 (p0 p1:Int) (p2:LI) (r:Bool) (hm:m_laws_FnExactTonesOf_0 p0 p1 p2=some r):EE c_laws_FnExactTonesOf_0 K_laws_FnExactTonesOf_0 (s_laws_FnExactTonesOf_0 p0 p1 p2) (Post vf_laws_FnExactTonesOf (res_laws_FnExactTonesOf r)):=by
 obtain ⟨n,hm⟩|⟨n,hm⟩:=split_ite hm
 ·exact ge (wL (rI .i64) p2<|u1 n<|z0) (congrArg res_laws_FnExactTonesOf (qj hm)) (by kernel_rfl)
 ·obtain ⟨b,g,hm⟩:=bind_some hm
  obtain ⟨c,q,hm⟩:=bind_some hm
  obtain ⟨a,p,hm⟩:=bind_some hm
  obtain ⟨f,l,hm⟩:=bind_some hm
  obtain ⟨i,hm⟩|⟨i,hm⟩:=split_ite hm
  ·obtain ⟨m,t,hm⟩:=bind_some hm
   obtain ⟨s,hm⟩|⟨s,hm⟩:=split_ite hm
   ·obtain ⟨h,v,hm⟩:=bind_some hm
    obtain ⟨A,w,hm⟩:=bind_some hm
    obtain ⟨e,hm⟩|⟨e,hm⟩:=split_ite hm
    ·exact ge (wL (rI .i64) p2<|v1 n<|wO (.res (res_Lj b))<|wP (ok_Lj p2 b g)<|wL (rI .i64) b<|wO (zi b)<|wO (.res (res_Sb c))<|wO (zn c.slots.length)<|wO (zn c.grades.length)<|wO (.res (res_Lj b))<|wO (zn b.length)<|wO (zi b)<|wO (.res (res_Id a))<|wO (zn a.slots.length)<|wO (zn a.grades.length)<|wO (.rows (List.map (rL (rI .i64)) a.slots))<|wO (.rows (List.map (rL (rI .i64)) a.grades))<|wO (.rows (List.map (rL (rI .i64)) c.slots))<|wO (.rows (List.map (rL (rI .i64)) c.grades))<|wO (.res (res_Lc f))<|wO zF<|wO (.res (res_Lj b))<|wO (zn b.length)<|wO (zi b)<|wO (zi b)<|wO (.res (res_La m))<|wO zF<|wO (.res (res_Lg h))<|wO zT<|wO zT<|wO zT<|wO zT<|wO zT<|wO zT<|wP (all_le (rI .i64) b rfl)<|wP (all_dt (rI .i64) b rfl)<|wP (ok_Sb p0 p1 b c q)<|wP (len_map (rL (rI .i64)) (show c.slots.length=c.slots.length from rfl))<|wP (len_map (rL (rI .i64)) (show c.grades.length=c.grades.length from rfl))<|wP (ok_Lj p2 b g)<|wP (lm (rI .i64) b)<|wP (all_le (rI .i64) b rfl)<|wP (all_dt (rI .i64) b rfl)<|wP (ok_Id p0 p1 b a p)<|wP (len_map (rL (rI .i64)) (show a.slots.length=a.slots.length from rfl))<|wP (len_map (rL (rI .i64)) (show a.grades.length=a.grades.length from rfl))<|wP (all_le (rL (rI .i64)) a.slots rfl)<|wP (all_dt (rL (rI .i64)) a.slots rfl)<|wP (all_le (rL (rI .i64)) a.grades rfl)<|wP (all_dt (rL (rI .i64)) a.grades rfl)<|wP (all_le (rL (rI .i64)) c.slots rfl)<|wP (all_dt (rL (rI .i64)) c.slots rfl)<|wP (all_le (rL (rI .i64)) c.grades rfl)<|wP (all_dt (rL (rI .i64)) c.grades rfl)<|wP (ok_Lc a c f l)<|wP (not_f i)<|wP (ok_Lj p2 b g)<|wP (lm (rI .i64) b)<|wP (all_le (rI .i64) b rfl)<|wP (all_dt (rI .i64) b rfl)<|wP (all_le (rI .i64) b rfl)<|wP (all_dt (rI .i64) b rfl)<|wP (ok_La b b m t)<|wP (not_f s)<|wP (all_eq (rI .i64) b rfl)<|wP (ok_Lg b 1 h v)<|wP (len2 (rI .i64) h.2 b (ck_p w))<|wP e<|wP e<|wP e<|wP e<|wP e<|wP eT<|z0) (congrArg res_laws_FnExactTonesOf (qj hm)) (by kernel_rfl)
    ·obtain ⟨d,z,hm⟩:=bind_some hm
     obtain ⟨B,j,hm⟩:=bind_some hm
     obtain ⟨C,k,hm⟩:=bind_some hm
     obtain ⟨o,x,hm⟩:=bind_some hm
     obtain ⟨u,hm⟩|⟨u,hm⟩:=split_ite hm
     ·exact ge (wL (rI .i64) p2<|v1 n<|wO (.res (res_Lj b))<|wP (ok_Lj p2 b g)<|wL (rI .i64) b<|wO (zi b)<|wO (.res (res_Sb c))<|wO (zn c.slots.length)<|wO (zn c.grades.length)<|wO (.res (res_Lj b))<|wO (zn b.length)<|wO (zi b)<|wO (.res (res_Id a))<|wO (zn a.slots.length)<|wO (zn a.grades.length)<|wO (.rows (List.map (rL (rI .i64)) a.slots))<|wO (.rows (List.map (rL (rI .i64)) a.grades))<|wO (.rows (List.map (rL (rI .i64)) c.slots))<|wO (.rows (List.map (rL (rI .i64)) c.grades))<|wO (.res (res_Lc f))<|wO zF<|wO (.res (res_Lj b))<|wO (zn b.length)<|wO (zi b)<|wO (zi b)<|wO (.res (res_La m))<|wO zF<|wO (.res (res_Lg h))<|wO zF<|wO zF<|wO zF<|wO (.rows (List.map (rL (rI .i64)) a.slots))<|wO (.rows (List.map (rL (rI .i64)) a.grades))<|wO (.rows (List.map (rL (rI .i64)) c.slots))<|wO (.rows (List.map (rL (rI .i64)) c.grades))<|wO (.res (res_Lc f))<|wO zF<|wO zF<|wO zF<|wO (.rows (List.map (rL (rI .i64)) a.slots))<|wO (.rows (List.map (rL (rI .i64)) a.grades))<|wO (.res (res_Li d))<|wO (.rows (List.map (rL (rI .i64)) d.2.slots))<|wO (.rows (List.map (rL (rI .i64)) d.2.grades))<|wO (.res (res_Lf o))<|wO zT<|wP (all_le (rI .i64) b rfl)<|wP (all_dt (rI .i64) b rfl)<|wP (ok_Sb p0 p1 b c q)<|wP (len_map (rL (rI .i64)) (show c.slots.length=c.slots.length from rfl))<|wP (len_map (rL (rI .i64)) (show c.grades.length=c.grades.length from rfl))<|wP (ok_Lj p2 b g)<|wP (lm (rI .i64) b)<|wP (all_le (rI .i64) b rfl)<|wP (all_dt (rI .i64) b rfl)<|wP (ok_Id p0 p1 b a p)<|wP (len_map (rL (rI .i64)) (show a.slots.length=a.slots.length from rfl))<|wP (len_map (rL (rI .i64)) (show a.grades.length=a.grades.length from rfl))<|wP (all_le (rL (rI .i64)) a.slots rfl)<|wP (all_dt (rL (rI .i64)) a.slots rfl)<|wP (all_le (rL (rI .i64)) a.grades rfl)<|wP (all_dt (rL (rI .i64)) a.grades rfl)<|wP (all_le (rL (rI .i64)) c.slots rfl)<|wP (all_dt (rL (rI .i64)) c.slots rfl)<|wP (all_le (rL (rI .i64)) c.grades rfl)<|wP (all_dt (rL (rI .i64)) c.grades rfl)<|wP (ok_Lc a c f l)<|wP (not_f i)<|wP (ok_Lj p2 b g)<|wP (lm (rI .i64) b)<|wP (all_le (rI .i64) b rfl)<|wP (all_dt (rI .i64) b rfl)<|wP (all_le (rI .i64) b rfl)<|wP (all_dt (rI .i64) b rfl)<|wP (ok_La b b m t)<|wP (not_f s)<|wP (all_eq (rI .i64) b rfl)<|wP (ok_Lg b 1 h v)<|wP (len2 (rI .i64) h.2 b (ck_p w))<|wP e<|wP e<|wP e<|wP (all_le (rL (rI .i64)) a.slots rfl)<|wP (all_dt (rL (rI .i64)) a.slots rfl)<|wP (all_le (rL (rI .i64)) a.grades rfl)<|wP (all_dt (rL (rI .i64)) a.grades rfl)<|wP (all_le (rL (rI .i64)) c.slots rfl)<|wP (all_dt (rL (rI .i64)) c.slots rfl)<|wP (all_le (rL (rI .i64)) c.grades rfl)<|wP (all_dt (rL (rI .i64)) c.grades rfl)<|wP (ok_Lc a c f l)<|wP e<|wP e<|wP (not_f i)<|wP (all_le0 (rL (rI .i64)) a.slots rfl)<|wP (all_t (rL (rI .i64)) a.slots rfl)<|wP (all_le0 (rL (rI .i64)) a.grades rfl)<|wP (all_t (rL (rI .i64)) a.grades rfl)<|wP (all_eq (rL (rI .i64)) a.slots rfl)<|wP (all_eq (rL (rI .i64)) a.grades rfl)<|wP (ok_Li a 1 d z)<|wP (len2 (rL (rI .i64)) d.2.slots a.slots (ck_p j))<|wP (len2 (rL (rI .i64)) d.2.grades a.grades (ck_p k))<|wP (all_le (rL (rI .i64)) d.2.slots (Eq.trans rfl (Eq.symm (ck_p j))))<|wP (all_dt (rL (rI .i64)) d.2.slots (Eq.trans rfl (Eq.symm (ck_p j))))<|wP (all_le (rL (rI .i64)) d.2.grades (Eq.trans rfl (Eq.symm (ck_p k))))<|wP (all_dt (rL (rI .i64)) d.2.grades (Eq.trans rfl (Eq.symm (ck_p k))))<|wP (ok_Lf (Za.mk a.rate a.quality a.length d.2.slots d.2.grades) 1 o x)<|wP u<|z0) (congrArg res_laws_FnExactTonesOf (qj hm)) (by kernel_rfl)
     ·obtain ⟨y,hm⟩|⟨y,hm⟩:=split_ite hm
      ·exact ge (wL (rI .i64) p2<|v1 n<|wO (.res (res_Lj b))<|wP (ok_Lj p2 b g)<|wL (rI .i64) b<|wO (zi b)<|wO (.res (res_Sb c))<|wO (zn c.slots.length)<|wO (zn c.grades.length)<|wO (.res (res_Lj b))<|wO (zn b.length)<|wO (zi b)<|wO (.res (res_Id a))<|wO (zn a.slots.length)<|wO (zn a.grades.length)<|wO (.rows (List.map (rL (rI .i64)) a.slots))<|wO (.rows (List.map (rL (rI .i64)) a.grades))<|wO (.rows (List.map (rL (rI .i64)) c.slots))<|wO (.rows (List.map (rL (rI .i64)) c.grades))<|wO (.res (res_Lc f))<|wO zF<|wO (.res (res_Lj b))<|wO (zn b.length)<|wO (zi b)<|wO (zi b)<|wO (.res (res_La m))<|wO zF<|wO (.res (res_Lg h))<|wO zF<|wO zF<|wO zF<|wO (.rows (List.map (rL (rI .i64)) a.slots))<|wO (.rows (List.map (rL (rI .i64)) a.grades))<|wO (.rows (List.map (rL (rI .i64)) c.slots))<|wO (.rows (List.map (rL (rI .i64)) c.grades))<|wO (.res (res_Lc f))<|wO zF<|wO zF<|wO zF<|wO (.rows (List.map (rL (rI .i64)) a.slots))<|wO (.rows (List.map (rL (rI .i64)) a.grades))<|wO (.res (res_Li d))<|wO (.rows (List.map (rL (rI .i64)) d.2.slots))<|wO (.rows (List.map (rL (rI .i64)) d.2.grades))<|wO (.res (res_Lf o))<|wO zF<|wO zT<|wP (all_le (rI .i64) b rfl)<|wP (all_dt (rI .i64) b rfl)<|wP (ok_Sb p0 p1 b c q)<|wP (len_map (rL (rI .i64)) (show c.slots.length=c.slots.length from rfl))<|wP (len_map (rL (rI .i64)) (show c.grades.length=c.grades.length from rfl))<|wP (ok_Lj p2 b g)<|wP (lm (rI .i64) b)<|wP (all_le (rI .i64) b rfl)<|wP (all_dt (rI .i64) b rfl)<|wP (ok_Id p0 p1 b a p)<|wP (len_map (rL (rI .i64)) (show a.slots.length=a.slots.length from rfl))<|wP (len_map (rL (rI .i64)) (show a.grades.length=a.grades.length from rfl))<|wP (all_le (rL (rI .i64)) a.slots rfl)<|wP (all_dt (rL (rI .i64)) a.slots rfl)<|wP (all_le (rL (rI .i64)) a.grades rfl)<|wP (all_dt (rL (rI .i64)) a.grades rfl)<|wP (all_le (rL (rI .i64)) c.slots rfl)<|wP (all_dt (rL (rI .i64)) c.slots rfl)<|wP (all_le (rL (rI .i64)) c.grades rfl)<|wP (all_dt (rL (rI .i64)) c.grades rfl)<|wP (ok_Lc a c f l)<|wP (not_f i)<|wP (ok_Lj p2 b g)<|wP (lm (rI .i64) b)<|wP (all_le (rI .i64) b rfl)<|wP (all_dt (rI .i64) b rfl)<|wP (all_le (rI .i64) b rfl)<|wP (all_dt (rI .i64) b rfl)<|wP (ok_La b b m t)<|wP (not_f s)<|wP (all_eq (rI .i64) b rfl)<|wP (ok_Lg b 1 h v)<|wP (len2 (rI .i64) h.2 b (ck_p w))<|wP e<|wP e<|wP e<|wP (all_le (rL (rI .i64)) a.slots rfl)<|wP (all_dt (rL (rI .i64)) a.slots rfl)<|wP (all_le (rL (rI .i64)) a.grades rfl)<|wP (all_dt (rL (rI .i64)) a.grades rfl)<|wP (all_le (rL (rI .i64)) c.slots rfl)<|wP (all_dt (rL (rI .i64)) c.slots rfl)<|wP (all_le (rL (rI .i64)) c.grades rfl)<|wP (all_dt (rL (rI .i64)) c.grades rfl)<|wP (ok_Lc a c f l)<|wP e<|wP e<|wP (not_f i)<|wP (all_le0 (rL (rI .i64)) a.slots rfl)<|wP (all_t (rL (rI .i64)) a.slots rfl)<|wP (all_le0 (rL (rI .i64)) a.grades rfl)<|wP (all_t (rL (rI .i64)) a.grades rfl)<|wP (all_eq (rL (rI .i64)) a.slots rfl)<|wP (all_eq (rL (rI .i64)) a.grades rfl)<|wP (ok_Li a 1 d z)<|wP (len2 (rL (rI .i64)) d.2.slots a.slots (ck_p j))<|wP (len2 (rL (rI .i64)) d.2.grades a.grades (ck_p k))<|wP (all_le (rL (rI .i64)) d.2.slots (Eq.trans rfl (Eq.symm (ck_p j))))<|wP (all_dt (rL (rI .i64)) d.2.slots (Eq.trans rfl (Eq.symm (ck_p j))))<|wP (all_le (rL (rI .i64)) d.2.grades (Eq.trans rfl (Eq.symm (ck_p k))))<|wP (all_dt (rL (rI .i64)) d.2.grades (Eq.trans rfl (Eq.symm (ck_p k))))<|wP (ok_Lf (Za.mk a.rate a.quality a.length d.2.slots d.2.grades) 1 o x)<|wP u<|wP y<|z0) (congrArg res_laws_FnExactTonesOf (qj hm)) (by kernel_rfl)
      ·exact ge (wL (rI .i64) p2<|v1 n<|wO (.res (res_Lj b))<|wP (ok_Lj p2 b g)<|wL (rI .i64) b<|wO (zi b)<|wO (.res (res_Sb c))<|wO (zn c.slots.length)<|wO (zn c.grades.length)<|wO (.res (res_Lj b))<|wO (zn b.length)<|wO (zi b)<|wO (.res (res_Id a))<|wO (zn a.slots.length)<|wO (zn a.grades.length)<|wO (.rows (List.map (rL (rI .i64)) a.slots))<|wO (.rows (List.map (rL (rI .i64)) a.grades))<|wO (.rows (List.map (rL (rI .i64)) c.slots))<|wO (.rows (List.map (rL (rI .i64)) c.grades))<|wO (.res (res_Lc f))<|wO zF<|wO (.res (res_Lj b))<|wO (zn b.length)<|wO (zi b)<|wO (zi b)<|wO (.res (res_La m))<|wO zF<|wO (.res (res_Lg h))<|wO zF<|wO zF<|wO zF<|wO (.rows (List.map (rL (rI .i64)) a.slots))<|wO (.rows (List.map (rL (rI .i64)) a.grades))<|wO (.rows (List.map (rL (rI .i64)) c.slots))<|wO (.rows (List.map (rL (rI .i64)) c.grades))<|wO (.res (res_Lc f))<|wO zF<|wO zF<|wO zF<|wO (.rows (List.map (rL (rI .i64)) a.slots))<|wO (.rows (List.map (rL (rI .i64)) a.grades))<|wO (.res (res_Li d))<|wO (.rows (List.map (rL (rI .i64)) d.2.slots))<|wO (.rows (List.map (rL (rI .i64)) d.2.grades))<|wO (.res (res_Lf o))<|wO zF<|wO zF<|wO (.res (res_Lj b))<|wO (zn b.length)<|wO (zi b)<|wO (.res (res_Id a))<|wO (zn a.slots.length)<|wO (zn a.grades.length)<|wO (.rows (List.map (rL (rI .i64)) a.slots))<|wO (.rows (List.map (rL (rI .i64)) a.grades))<|wO (.rows (List.map (rL (rI .i64)) c.slots))<|wO (.rows (List.map (rL (rI .i64)) c.grades))<|wO (.res (res_Lc f))<|wO zF<|wO (.rows (List.map (rL (rI .i64)) d.2.slots))<|wO (.rows (List.map (rL (rI .i64)) d.2.grades))<|wO (.res (res_Lf o))<|wO zF<|wO zF<|wP (all_le (rI .i64) b rfl)<|wP (all_dt (rI .i64) b rfl)<|wP (ok_Sb p0 p1 b c q)<|wP (len_map (rL (rI .i64)) (show c.slots.length=c.slots.length from rfl))<|wP (len_map (rL (rI .i64)) (show c.grades.length=c.grades.length from rfl))<|wP (ok_Lj p2 b g)<|wP (lm (rI .i64) b)<|wP (all_le (rI .i64) b rfl)<|wP (all_dt (rI .i64) b rfl)<|wP (ok_Id p0 p1 b a p)<|wP (len_map (rL (rI .i64)) (show a.slots.length=a.slots.length from rfl))<|wP (len_map (rL (rI .i64)) (show a.grades.length=a.grades.length from rfl))<|wP (all_le (rL (rI .i64)) a.slots rfl)<|wP (all_dt (rL (rI .i64)) a.slots rfl)<|wP (all_le (rL (rI .i64)) a.grades rfl)<|wP (all_dt (rL (rI .i64)) a.grades rfl)<|wP (all_le (rL (rI .i64)) c.slots rfl)<|wP (all_dt (rL (rI .i64)) c.slots rfl)<|wP (all_le (rL (rI .i64)) c.grades rfl)<|wP (all_dt (rL (rI .i64)) c.grades rfl)<|wP (ok_Lc a c f l)<|wP (not_f i)<|wP (ok_Lj p2 b g)<|wP (lm (rI .i64) b)<|wP (all_le (rI .i64) b rfl)<|wP (all_dt (rI .i64) b rfl)<|wP (all_le (rI .i64) b rfl)<|wP (all_dt (rI .i64) b rfl)<|wP (ok_La b b m t)<|wP (not_f s)<|wP (all_eq (rI .i64) b rfl)<|wP (ok_Lg b 1 h v)<|wP (len2 (rI .i64) h.2 b (ck_p w))<|wP e<|wP e<|wP e<|wP (all_le (rL (rI .i64)) a.slots rfl)<|wP (all_dt (rL (rI .i64)) a.slots rfl)<|wP (all_le (rL (rI .i64)) a.grades rfl)<|wP (all_dt (rL (rI .i64)) a.grades rfl)<|wP (all_le (rL (rI .i64)) c.slots rfl)<|wP (all_dt (rL (rI .i64)) c.slots rfl)<|wP (all_le (rL (rI .i64)) c.grades rfl)<|wP (all_dt (rL (rI .i64)) c.grades rfl)<|wP (ok_Lc a c f l)<|wP e<|wP e<|wP (not_f i)<|wP (all_le0 (rL (rI .i64)) a.slots rfl)<|wP (all_t (rL (rI .i64)) a.slots rfl)<|wP (all_le0 (rL (rI .i64)) a.grades rfl)<|wP (all_t (rL (rI .i64)) a.grades rfl)<|wP (all_eq (rL (rI .i64)) a.slots rfl)<|wP (all_eq (rL (rI .i64)) a.grades rfl)<|wP (ok_Li a 1 d z)<|wP (len2 (rL (rI .i64)) d.2.slots a.slots (ck_p j))<|wP (len2 (rL (rI .i64)) d.2.grades a.grades (ck_p k))<|wP (all_le (rL (rI .i64)) d.2.slots (Eq.trans rfl (Eq.symm (ck_p j))))<|wP (all_dt (rL (rI .i64)) d.2.slots (Eq.trans rfl (Eq.symm (ck_p j))))<|wP (all_le (rL (rI .i64)) d.2.grades (Eq.trans rfl (Eq.symm (ck_p k))))<|wP (all_dt (rL (rI .i64)) d.2.grades (Eq.trans rfl (Eq.symm (ck_p k))))<|wP (ok_Lf (Za.mk a.rate a.quality a.length d.2.slots d.2.grades) 1 o x)<|wP u<|wP y<|wP (ok_Lj p2 b g)<|wP (lm (rI .i64) b)<|wP (all_le (rI .i64) b rfl)<|wP (all_dt (rI .i64) b rfl)<|wP (ok_Id p0 p1 b a p)<|wP (len_map (rL (rI .i64)) (show a.slots.length=a.slots.length from rfl))<|wP (len_map (rL (rI .i64)) (show a.grades.length=a.grades.length from rfl))<|wP (all_le (rL (rI .i64)) a.slots rfl)<|wP (all_dt (rL (rI .i64)) a.slots rfl)<|wP (all_le (rL (rI .i64)) a.grades rfl)<|wP (all_dt (rL (rI .i64)) a.grades rfl)<|wP (all_le (rL (rI .i64)) c.slots rfl)<|wP (all_dt (rL (rI .i64)) c.slots rfl)<|wP (all_le (rL (rI .i64)) c.grades rfl)<|wP (all_dt (rL (rI .i64)) c.grades rfl)<|wP (ok_Lc a c f l)<|wP (not_f i)<|wP (all_le (rL (rI .i64)) d.2.slots (Eq.trans rfl (Eq.symm (ck_p j))))<|wP (all_dt (rL (rI .i64)) d.2.slots (Eq.trans rfl (Eq.symm (ck_p j))))<|wP (all_le (rL (rI .i64)) d.2.grades (Eq.trans rfl (Eq.symm (ck_p k))))<|wP (all_dt (rL (rI .i64)) d.2.grades (Eq.trans rfl (Eq.symm (ck_p k))))<|wP (ok_Lf (Za.mk a.rate a.quality a.length d.2.slots d.2.grades) 1 o x)<|wP u<|wP y<|z0) (congrArg res_laws_FnExactTonesOf (qj hm)) (by kernel_rfl)
   ·exact ge (wL (rI .i64) p2<|v1 n<|wO (.res (res_Lj b))<|wP (ok_Lj p2 b g)<|wL (rI .i64) b<|wO (zi b)<|wO (.res (res_Sb c))<|wO (zn c.slots.length)<|wO (zn c.grades.length)<|wO (.res (res_Lj b))<|wO (zn b.length)<|wO (zi b)<|wO (.res (res_Id a))<|wO (zn a.slots.length)<|wO (zn a.grades.length)<|wO (.rows (List.map (rL (rI .i64)) a.slots))<|wO (.rows (List.map (rL (rI .i64)) a.grades))<|wO (.rows (List.map (rL (rI .i64)) c.slots))<|wO (.rows (List.map (rL (rI .i64)) c.grades))<|wO (.res (res_Lc f))<|wO zF<|wO (.res (res_Lj b))<|wO (zn b.length)<|wO (zi b)<|wO (zi b)<|wO (.res (res_La m))<|wO zT<|wP (all_le (rI .i64) b rfl)<|wP (all_dt (rI .i64) b rfl)<|wP (ok_Sb p0 p1 b c q)<|wP (len_map (rL (rI .i64)) (show c.slots.length=c.slots.length from rfl))<|wP (len_map (rL (rI .i64)) (show c.grades.length=c.grades.length from rfl))<|wP (ok_Lj p2 b g)<|wP (lm (rI .i64) b)<|wP (all_le (rI .i64) b rfl)<|wP (all_dt (rI .i64) b rfl)<|wP (ok_Id p0 p1 b a p)<|wP (len_map (rL (rI .i64)) (show a.slots.length=a.slots.length from rfl))<|wP (len_map (rL (rI .i64)) (show a.grades.length=a.grades.length from rfl))<|wP (all_le (rL (rI .i64)) a.slots rfl)<|wP (all_dt (rL (rI .i64)) a.slots rfl)<|wP (all_le (rL (rI .i64)) a.grades rfl)<|wP (all_dt (rL (rI .i64)) a.grades rfl)<|wP (all_le (rL (rI .i64)) c.slots rfl)<|wP (all_dt (rL (rI .i64)) c.slots rfl)<|wP (all_le (rL (rI .i64)) c.grades rfl)<|wP (all_dt (rL (rI .i64)) c.grades rfl)<|wP (ok_Lc a c f l)<|wP (not_f i)<|wP (ok_Lj p2 b g)<|wP (lm (rI .i64) b)<|wP (all_le (rI .i64) b rfl)<|wP (all_dt (rI .i64) b rfl)<|wP (all_le (rI .i64) b rfl)<|wP (all_dt (rI .i64) b rfl)<|wP (ok_La b b m t)<|wP (not_t s)<|z0) (congrArg res_laws_FnExactTonesOf (qj hm)) (by kernel_rfl)
  ·exact ge (wL (rI .i64) p2<|v1 n<|wO (.res (res_Lj b))<|wP (ok_Lj p2 b g)<|wL (rI .i64) b<|wO (zi b)<|wO (.res (res_Sb c))<|wO (zn c.slots.length)<|wO (zn c.grades.length)<|wO (.res (res_Lj b))<|wO (zn b.length)<|wO (zi b)<|wO (.res (res_Id a))<|wO (zn a.slots.length)<|wO (zn a.grades.length)<|wO (.rows (List.map (rL (rI .i64)) a.slots))<|wO (.rows (List.map (rL (rI .i64)) a.grades))<|wO (.rows (List.map (rL (rI .i64)) c.slots))<|wO (.rows (List.map (rL (rI .i64)) c.grades))<|wO (.res (res_Lc f))<|wO zT<|wP (all_le (rI .i64) b rfl)<|wP (all_dt (rI .i64) b rfl)<|wP (ok_Sb p0 p1 b c q)<|wP (len_map (rL (rI .i64)) (show c.slots.length=c.slots.length from rfl))<|wP (len_map (rL (rI .i64)) (show c.grades.length=c.grades.length from rfl))<|wP (ok_Lj p2 b g)<|wP (lm (rI .i64) b)<|wP (all_le (rI .i64) b rfl)<|wP (all_dt (rI .i64) b rfl)<|wP (ok_Id p0 p1 b a p)<|wP (len_map (rL (rI .i64)) (show a.slots.length=a.slots.length from rfl))<|wP (len_map (rL (rI .i64)) (show a.grades.length=a.grades.length from rfl))<|wP (all_le (rL (rI .i64)) a.slots rfl)<|wP (all_dt (rL (rI .i64)) a.slots rfl)<|wP (all_le (rL (rI .i64)) a.grades rfl)<|wP (all_dt (rL (rI .i64)) a.grades rfl)<|wP (all_le (rL (rI .i64)) c.slots rfl)<|wP (all_dt (rL (rI .i64)) c.slots rfl)<|wP (all_le (rL (rI .i64)) c.grades rfl)<|wP (all_dt (rL (rI .i64)) c.grades rfl)<|wP (ok_Lc a c f l)<|wP (not_t i)<|z0) (congrArg res_laws_FnExactTonesOf (qj hm)) (by kernel_rfl)
theorem ok_laws_FnExactTonesOf (p0 p1:Int) (p2:LI) (r:Bool) (hm:m_laws_FnExactTonesOf p0 p1 p2=some r):Runs ext tbl 3 (as_laws_FnExactTonesOf p0 p1 p2) (res_laws_FnExactTonesOf r):=
 runs_of (vf:=vf_laws_FnExactTonesOf) (by kernel_rfl) rfl (st:=(enter vf_laws_FnExactTonesOf (as_laws_FnExactTonesOf p0 p1 p2)).getD default) (by kernel_rfl) (go_on [] 1000 J0 (ok_laws_FnExactTonesOf_0 p0 p1 p2 r hm) (by kernel_rfl))
end Go.Proofs.V

namespace Go.Proofs.V
open Go
theorem all_fi:∀ x ∈ tblL,x.2.given=false→funcIs Go.Proofs.Tryd.prog tbl x.1 x.2=true:=by
 simp only [tblL,List.forall_mem_cons]
 exact ⟨(fun _=>fi_Lj),(fun _=>fi_Se),(fun _=>fi_Si),(fun _=>fi_Sj),(fun _=>fi_Sg),(fun _=>fi_Sl),(fun _=>fi_Sh),(fun _=>fi_Sa),(fun _=>fi_Sk),(fun _=>fi_Sd),(fun _=>fi_Sc),(fun _=>fi_Sf),(fun _=>fi_Sb),(fun _=>fi_Ij),(fun _=>fi_Ik),(fun _=>fi_Ie),(fun _=>fi_Ic),(fun _=>fi_Ig),(fun _=>fi_Ia),(fun _=>fi_Ii),(fun _=>fi_Ih),(fun _=>fi_If),(fun _=>fi_Ib),(fun _=>fi_Id),(fun _=>fi_La),(fun _=>fi_Lb),(fun _=>fi_Lc),(fun _=>fi_Lg),(fun _=>fi_Lh),(fun _=>fi_Li),(fun _=>fi_Ld),(fun _=>fi_Le),(fun _=>fi_Lf),(fun _=>fi_laws_FnExactTonesOf),(fun h=>by cases h),(fun h=>by cases h),fun _ h=>by cases h⟩
theorem all_given:∀ x ∈ tblL,x.2.given=true→∀ ars res st0,enter x.2 ars=some st0→ext x.1 ars=some res→callable Go.Proofs.Tryd.prog x.1=true∧Does gI Go.Proofs.Tryd.prog x.1 x.2 st0 res:=by
 simp only [tblL,List.forall_mem_cons]
 exact ⟨(fun h=>by cases h),(fun h=>by cases h),(fun h=>by cases h),(fun h=>by cases h),(fun h=>by cases h),(fun h=>by cases h),(fun h=>by cases h),(fun h=>by cases h),(fun h=>by cases h),(fun h=>by cases h),(fun h=>by cases h),(fun h=>by cases h),(fun h=>by cases h),(fun h=>by cases h),(fun h=>by cases h),(fun h=>by cases h),(fun h=>by cases h),(fun h=>by cases h),(fun h=>by cases h),(fun h=>by cases h),(fun h=>by cases h),(fun h=>by cases h),(fun h=>by cases h),(fun h=>by cases h),(fun h=>by cases h),(fun h=>by cases h),(fun h=>by cases h),(fun h=>by cases h),(fun h=>by cases h),(fun h=>by cases h),(fun h=>by cases h),(fun h=>by cases h),(fun h=>by cases h),(fun h=>by cases h),(fun _ ars res st0 h h2=>by cases (show ext (gBase+0) ars=none from rfl).symm.trans h2),(fun _ ars res st0 h h2=>by cases (show ext (gBase+1) ars=none from rfl).symm.trans h2),fun _ h=>by cases h⟩
theorem sound:∀ n,FSound gI Go.Proofs.Tryd.prog tbl (vrun ext tbl n):=table_sound_tab (fun _=>rfl) ext all_given all_fi (by
 simp only [tblL,List.forall_mem_cons]
 exact ⟨.inl (of_decide_eq_true (by kernel_rfl)),.inl (of_decide_eq_true (by kernel_rfl)),.inl (of_decide_eq_true (by kernel_rfl)),.inl (of_decide_eq_true (by kernel_rfl)),.inl (of_decide_eq_true (by kernel_rfl)),.inl (of_decide_eq_true (by kernel_rfl)),.inl (of_decide_eq_true (by kernel_rfl)),.inl (of_decide_eq_true (by kernel_rfl)),.inl (of_decide_eq_true (by kernel_rfl)),.inl (of_decide_eq_true (by kernel_rfl)),.inl (of_decide_eq_true (by kernel_rfl)),.inl (of_decide_eq_true (by kernel_rfl)),.inl (of_decide_eq_true (by kernel_rfl)),.inl (of_decide_eq_true (by kernel_rfl)),.inl (of_decide_eq_true (by kernel_rfl)),.inl (of_decide_eq_true (by kernel_rfl)),.inl (of_decide_eq_true (by kernel_rfl)),.inl (of_decide_eq_true (by kernel_rfl)),.inl (of_decide_eq_true (by kernel_rfl)),.inl (of_decide_eq_true (by kernel_rfl)),.inl (of_decide_eq_true (by kernel_rfl)),.inl (of_decide_eq_true (by kernel_rfl)),.inl (of_decide_eq_true (by kernel_rfl)),.inl (of_decide_eq_true (by kernel_rfl)),.inl (of_decide_eq_true (by kernel_rfl)),.inl (of_decide_eq_true (by kernel_rfl)),.inl (of_decide_eq_true (by kernel_rfl)),.inl (of_decide_eq_true (by kernel_rfl)),.inl (of_decide_eq_true (by kernel_rfl)),.inl (of_decide_eq_true (by kernel_rfl)),.inl (of_decide_eq_true (by kernel_rfl)),.inl (of_decide_eq_true (by kernel_rfl)),.inl (of_decide_eq_true (by kernel_rfl)),.inl (of_decide_eq_true (by kernel_rfl)),.inr ⟨by kernel_rfl,(0,tv_0),by simp,rfl,rfl⟩,.inr ⟨by kernel_rfl,(1,tv_1),by simp,rfl,rfl⟩,fun _ h=>by cases h⟩)
def lawPs:List (Bool×List Ty):=[(false,[.int .i64]),(false,[.int .i64]),(false,[.sl [.int .i64]])]
theorem pure_law:LawPure ext tbl 3 lawPs:=by
 intro tss hl hw
 match tss,hl with
 | [t0,t1,t2],_=>
  obtain ⟨x0,rfl,w0⟩ :=(dec_int .i64) t0 (hw 0 _ t0 rfl rfl)
  obtain ⟨x1,rfl,w1⟩ :=(dec_int .i64) t1 (hw 1 _ t1 rfl rfl)
  obtain ⟨x2,rfl,w2⟩ :=(dec_sl (dec_int .i64)) t2 (hw 2 _ t2 rfl rfl)
  exact ok_laws_FnExactTonesOf x0 x1 x2 true (final_FnExactTonesOf x0 w0 x1 w1 x2 w2)
end Go.Proofs.V
